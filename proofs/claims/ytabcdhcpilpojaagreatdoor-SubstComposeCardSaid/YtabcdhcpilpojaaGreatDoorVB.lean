/- Leaving a function: the deferred marks, the results. -/
import Derived.Test.YtabcdhcpilpojaaGreatDoorVA
import Derived.Orders
set_option linter.unusedSimpArgs false
set_option linter.unusedVariables false
section
namespace Go.Virt
open Go Go.RowKit
section
variable {P:Program}{G:Nat}{σ σ':Nat->Blk}{h h':VH}{w w':World}{base:Nat}{v:Value}
inductive DS (w:World)(lo:Nat):Nat->List Deferred->Prop
 |nil (hi:Nat):DS w lo hi []
 |cons {d:Deferred} {ds:List Deferred} {r hi:Nat} (hr:r < hi) (hl:lo<=r) (ht:d.target=.collected r) (hb:w.heap[r]?=some (.deferred (some []))) (hd:DS w lo r ds):DS w lo hi (d::ds)
theorem DS.mono {lo hi hi':Nat}{ds:List Deferred}(h:DS w lo hi ds)(hh:hi<=hi'):DS w lo hi' ds:=by
 cases h with
 |nil=>exact .nil _
 |cons hr hl ht hb hd=>exact .cons (Nat.lt_of_lt_of_le hr hh) hl ht hb hd
theorem DS.keep {lo hi:Nat}{ds:List Deferred}(h:DS w lo hi ds)(hk:∀r:Nat,r < hi->w.heap[r]?=some (.deferred (some []))->w'.heap[r]?=some (.deferred (some []))):DS w' lo hi ds:=by
 induction h with
 |nil=>exact .nil _
 |cons hr hl ht hb hd ih=>exact .cons hr hl ht (hk _ hr hb) (ih fun r hr'=>hk r (Nat.lt_trans hr' hr))
theorem HR.not_deferred (H:HR G σ h w base){r:Nat}{x:Option (List Deferred)}(hr:w.heap[r]?=some (.deferred x)){i:Nat}{o:VO}(hi:h.get i=some o):(σ i).b≠r:=by
 intro e;cases o with
 |row cs e' own=>
  obtain⟨_,_,c,el,fr,h3,_⟩:=H.row i cs e' own hi;rw[e,hr]at h3;cases h3
 |map es=>
  obtain⟨_,Rk,ck,h2,_⟩:=H.map i es hi;rw[e,hr]at h2;cases h2
 |loop sl ps as bd=>
  obtain⟨_,fn,tmps,dfr,h2,_⟩:=H.loop i sl ps as bd hi;rw[e,hr]at h2;cases h2
theorem DS.step {lo hi:Nat}{ds:List Deferred}(d:DS w lo hi ds)(H:HR G σ h w base)(T:TR σ h w σ' h' w'):DS w' lo hi ds:=
 d.keep fun r _ hr=>by
  rw[T.block r (Array.getElem?_eq_some_iff.1 hr).1 fun i o hi _ _=>H.not_deferred hr hi];exact hr
theorem Zhn (cs:List Frame):∀ {ds:List Deferred} {lo hi:Nat} {w:World} (fr:Frame),fr.mode=.returning->fr.defers=ds->DS w lo hi ds ->
  ∃w',Steps P (lone fr cs w) (lone {fr with defers:=[]} cs w')/\w'.os=w.os/\w'.tape=w.tape/\w'.output=w.output/\w'.heap.size=w.heap.size /\
   (∀b:Nat,w.heap[b]?≠some (.deferred (some []))->w'.heap[b]?=w.heap[b]?)/\(∀b:Nat,b < lo->w'.heap[b]?=w.heap[b]?)
 | _,lo,hi,w,fr,hm,hd,.nil _=>by
   refine⟨w,?_,rfl,rfl,rfl,rfl,fun _ _=>rfl,fun _ _=>rfl⟩;have:({fr with defers:=[]}:Frame)=fr:=by rw[<- hd]
   rw[this];exact .refl P _
 |d::ds,lo,hi,w,fr,hm,hd,.cons (r:=r) hr hl ht hb hds=>by
  have h1:=step_collected (P:=P) (cs:=cs) (fr:=fr) (by rw[hm];simp) hd ht (run_takeDeferred hb);have hds':DS (w.putObj r (.deferred none)) lo r ds:=hds.keep fun r' hr' hb'=>by rw[World.putObj_heap_other (by omega)];exact hb'
  obtain⟨w',g1,g2,g3,g4,g5,g6,g7⟩:=Zhn cs {fr with defers:=[]++ds} hm rfl hds';refine⟨w',.head h1 g1,g2,g3,g4,by rw[g5];simp,fun b Yi=>?_,fun b hlt=>?_⟩
  .have hbr:b≠r:=fun e=>Yi (e ▸ hb)
   rw[g6 b (by rw[World.putObj_heap_other hbr];exact Yi),World.putObj_heap_other hbr]
  .rw [g7 b hlt,World.putObj_heap_other (by omega)]
def Zlt (tmps:Array Value):ResultVar->Sem Value
 | .tmp t=>pure (tmps.getD t undef)
 | .cell a t=>do loadVar t (<- asAddr (tmps.getD a undef))
theorem Z7m {t:Nat}{ty:Ty}{i o:Nat}{r:List Value}{v:Value}(H:HR G σ h w base)(ht:TyOk P t ty)(hl:h.load ⟨i,o,none⟩ ty.size=some r)(hv:toV ty.k.agg r=some v):
  ∃v',(loadVar t ⟨(σ i).b,(σ i).d+o,none⟩).run P w=.ok v' w/\VR σ h.next v v':=by
 obtain⟨r',h1,h2,h3,h4,h5⟩:=H.load (P:=P) hl;obtain⟨v',g1,g2,g3⟩:=Zji h2 hv;refine⟨v',?_,g1⟩;simp only[loadVar,Sem.run_bind,Sem.run_pure,Result.andThen_ok,ht.run_agg w];cases Zj5:ty.k.agg with
 |true=>simp[ht.run_size w,h1 w rfl,g2 Zj5]
 |false=>
  obtain⟨e1,e2⟩:=g3 Zj5;have Qf:ty.size=1:=by rw[<- h3,e1];rfl
  obtain⟨u',e3,e4⟩:=h5 v Qf e1;rw[e2]at e3;cases e3;simpa using e4
theorem Zgs {C:Ctx}(hC:TOk C P)(H:HR G σ h w base){sl:SL}{tmps:Array Value}(S:SR σ h.next sl tmps):∀ {rs:List ResultVar} {vs:List Value},Zhu C sl h rs=some vs ->
  ∃Qy,(rs.mapM (Zlt tmps)).run P w=.ok Qy w/\VRs σ h.next vs Qy
 | [],vs,hv=>by
   simp only[Zhu,Option.some.injEq]at hv;subst hv;exact⟨[],by simp,.nil⟩
 | .tmp t::rs,vs,hv=>by
   simp only[Zhu]at hv;split at hv
   .rename_i x xs hx hxs;cases hv;obtain⟨Qy,g1,g2⟩:=Zgs hC H S hxs;obtain⟨x',h1,h2⟩:=S t x hx;refine⟨x'::Qy,?_,.cons h2 g2⟩;simp[List.mapM_cons,Zlt,h1,g1]
   .cases hv
 | .cell p t::rs,vs,hv=>by
   simp only[Zhu]at hv;split at hv
   .rename_i ad ty xs hx ht hxs;rw[Option.map_eq_some_iff]at hv;obtain⟨x,hx2,rfl⟩:=hv;rw[Option.bind_eq_some_iff]at hx2;obtain⟨r,hr1,hr2⟩:=hx2;obtain⟨Qy,g1,g2⟩:=Zgs hC H S hxs;obtain⟨x',h1,h2⟩:=S p _ hx;obtain⟨i,o,hlt,rfl,rfl⟩:=h2.spot;obtain⟨y',Y6,hy⟩:=Z7m (P:=P) H (hC _ _ ht) hr1 hr2;refine⟨y'::Qy,?_,.cons hy g2⟩;simp[List.mapM_cons,Zlt,h1,g1,asAddr,Y6]
   .cases hv
theorem Zyi (fn:Func)(tmps:Array Value):results fn tmps=(do let vs <- fn.results.mapM (Zlt tmps);pure (if h:vs.size=1 then vs[0] else .tuple vs)):=rfl
theorem Zyh {C:Ctx}(hC:TOk C P)(H:HR G σ h w base){sl:SL}{tmps:Array Value}(S:SR σ h.next sl tmps){fn:Func}{vs:List Value}(hv:Zhu C sl h fn.results.toList=some vs):
  ∃v',(results fn tmps).run P w=.ok v' w/\VR σ h.next (Zpc vs) v':=by
 obtain⟨Qy,h1,h2⟩:=Zgs (P:=P) hC H S hv;refine⟨(if h:Qy.toArray.size=1 then Qy.toArray[0] else .tuple Qy.toArray),?_,?_⟩
 .rw [Zyi];simp[Array.mapM_eq_mapM_toList,h1]
 .cases h2 with
  |nil=>exact .tuple _ _ .nil
  |cons a r=>
   cases r with
   |nil=>exact a
   |cons a2 r2=>exact .tuple _ _ (.cons a (.cons a2 r2))
end
def Enters (P : Program) (f : Nat) : Prop := ∃ fn bd, P.funcs[f]? = some fn /\ (fn.name == "runtime.NumGoroutine") = false /\ fn.body = some bd
structure COk (C:Ctx)(P:Program):Prop where
 T:TOk C P
 F : ∀ f fn, C.F f = some fn -> P.funcs[f]? = some fn /\ (fn.name == "runtime.NumGoroutine") = false
 ext:∀f args v,C.ext f args=some v->Enters P f/\args.all (flat 4)=true/\flat 4 v=true/\∀w,Calls P f args.toArray w fun e w'=>e=.returned v/\Below w.heap.size w w'
def Zb0 (C:Ctx)(P:Program)(cf:Nat->List Value->VH->Option (Value×VH)):Prop:=
 ∀f args h v h',cf f args h=some (v,h')->Enters P f/\∀σ w base (args':Array Value),HR C.G σ h w base->VRs σ h.next args args'.toList->∀cs,∃σ' w' v' fr,
  Steps P (lone (Frame.enter P f args' .normal) cs w) (lone fr cs w')/\fr.fn=f/\fr.leaving P w' (.returned v')/\Holds C.G σ h w base v h' σ' w' v'
def YfSound (C:Ctx)(P:Program)(yf:Nat->List Value->VH->Option (Value×VH)):Prop:=
 ∀l args h v h',yf l args h=some (v,h')->∀σ w base (args':Array Value),HR C.G σ h w base->VRs σ h.next args args'.toList->∃fn tmps as bd,
  (Instr.yield (σ l).b args').run P w=.ok (.round (σ l).b fn tmps as bd) w/\∀c cs,∃σ' w' v',
    Steps P (lone (Frame.round (σ l).b fn tmps as bd .normal) (c::cs) w) (lone (c.finish v') cs w')/\Holds C.G σ h w base v h' σ' w' v'
theorem Zht {P:Program}{f:Nat}(he:Enters P f)(args:Array Value)(w:World):(callFunc f args).run P w=.ok (.enter f args) w:=by
 obtain⟨fn,bd,h1,h2,h3⟩:=he;simp only[callFunc,Sem.run_bind,program,Sem.run_pure];have h2' : fn.name ≠ "runtime.NumGoroutine" := by simpa using h2
 simp[Sem.run,h1,h2',h3]
section
variable {P:Program}{C:Ctx}{σ:Nat->Blk}{h:VH}{w:World}{base:Nat}{v:Value}{cf yf:Nat->List Value->VH->Option (Value×VH)}
theorem Zr5 (hC:COk C P)(hcf:Zb0 C P cf)(hyf:YfSound C P yf){sl:SL}{a:Act}{h':VH}{o:Oper}(b:Frame)(k:List Item)(cs:List Frame){ops:Array Oper}{i:Nat}(rest:List Nat)
  (H:HR C.G σ h w base) (S:SR σ h.next sl a.tmps) (hi:ops[i]?=some o) (hw:Region.wanted o (yielded ops a.tmps)=true) (ho:Xu C cf yf sl h o=some (v,h')):
  ∃σ' w' v',Steps P (lone (b.atR a (.inRegion ops (i::rest)::k)) cs w) (lone (b.atR (a.put o.dst v') (.inRegion ops rest::k)) cs w')/\Holds C.G σ h w base v h' σ' w' v':=by
 have hg:=stepGR_op (P:=P) (b:=b) (a:=a) (k:=k) (cs:=cs) (w:=w) (rest:=rest) hi hw
 have Xa:∀v,(b.atR a (.inRegion ops (i::rest)::k)).finish v=b.atR (a.put o.dst v) (.inRegion ops rest::k):=by
  intro v;rw[Frame.finish_atR,hi];rfl
 rw[Oper.semAt_eq _ _ _ (fun c hc=>by simp[Xu,hc]at ho)]at hg
 have Zwp:Zhd P C.G σ h w base (execOp a.eval o) v h'->∃σ' w' v',Steps P (lone (b.atR a (.inRegion ops (i::rest)::k)) cs w) (lone (b.atR (a.put o.dst v') (.inRegion ops rest::k)) cs w')/\Holds C.G σ h w base v h' σ' w' v':=by
  rintro⟨σ',w',v',nx,hr,U7,hh⟩;refine⟨σ',w',v',.one (step_lone_go ?_),hh⟩;rcases U7 with rfl | ⟨rfl,rfl⟩
  .rw [hg,<- Xa];simp[stepG.apply,hr]
  .rw [hg,<- Xa];simp[stepG.apply,hr]
 by_cases Zk2:∃c,o.op=.call c
 .obtain ⟨c,hc⟩:=Zk2;simp only[Xu,hc]at ho;cases Wt:c.callee with
  |builtin bi=>
   refine Zwp ?_;simp only[execOp,hc];exact Zxd o.type hC.T H S Wt ho
  |invoke r n=>
   unfold Tc at ho;simp only[Wt]at ho;split at ho<;>cases ho
  |value f=>
   unfold Tc at ho;simp only[Wt]at ho;split at ho
   .cases ho
   .rename_i args Xz;have hv:=Zaw H S Xz;split at ho
    .rename_i g first captured hf
     have hfv:=Zr H S hf;obtain⟨hen,hgo⟩:=hcf _ _ _ _ _ ho;generalize hev:a.eval f=fv at hfv;cases hfv with
     |fn _ _ Ze3 _ Sv h1 h2=>
      have hr:(execOp a.eval o).run P w=.ok (.enter g (Ze3++c.args.map a.eval++Sv)) w:=by
       simp only[execOp,hc,resolve,Wt,hev,Deferred.ofValue,Sem.run_bind,Sem.run_pure,Result.andThen_ok,invoke];exact Zht hen _ w
      obtain⟨σ',w',v',fr,hs,_,hl,hh⟩:=hgo σ w base (Ze3++c.args.map a.eval++Sv) H (by
       simp only[Array.toList_append,Array.toList_map];exact (h1.append hv).append h2) (b.atR a (.inRegion ops (i::rest)::k)::cs)
      have Zex:step P (lone (b.atR a (.inRegion ops (i::rest)::k)) cs w)=.next (lone (Frame.enter P g (Ze3++c.args.map a.eval++Sv) .normal) (b.atR a (.inRegion ops (i::rest)::k)::cs) w):=
       step_lone_go (by rw[hg];simp[stepG.apply,hr,Frame.atR])
      refine⟨σ',w',v',.head Zex (hs.trans (.one ?_)),hh⟩;rw[<- Xa];exact step_leave_returned hl
    .rename_i l _ _ hf;have hfv:=Zr H S hf;generalize hev:a.eval f=fv at hfv;cases hfv with
     |yield _ hlt=>
      obtain⟨fn,tmps,as,bd,Y6,hgo⟩:=hyf _ _ _ _ _ ho σ w base (c.args.map a.eval) H (by simpa using hv);obtain⟨σ',w',v',hs,hh⟩:=hgo (b.atR a (.inRegion ops (i::rest)::k)) cs
      have hr:(execOp a.eval o).run P w=.ok (.round (σ l).b fn tmps as bd) w:=by
       simp only[execOp,hc,resolve,Wt,hev,Deferred.ofValue,Sem.run_bind,Sem.run_pure,Result.andThen_ok,invoke,Array.empty_append];exact Y6
      have Zex:step P (lone (b.atR a (.inRegion ops (i::rest)::k)) cs w)=.next (lone (Frame.round (σ l).b fn tmps as bd .normal) (b.atR a (.inRegion ops (i::rest)::k)::cs) w):=
       step_lone_go (by rw[hg];simp[stepG.apply,hr,Frame.atR])
      refine⟨σ',w',v',.head Zex ?_,hh⟩;rw[<- Xa];exact hs
    .cases ho
 .exact Zwp (Z3k hC.T H S (fun c hc=>Zk2 ⟨c,hc⟩) ho)
theorem Qc {sl:SL}{n:Nat}{ops:Array Oper}{tmps:Array Value}(S:SR σ n sl tmps){o:Oper}{r:Bool}(hw:Q2 ops.toList sl o=some r):Region.wanted o (yielded ops tmps)=r:=by
 unfold Q2 at hw;unfold Region.wanted;cases hg:o.guard with
 |none=>simp only[hg]at hw;cases hw;rfl
 |some jw=>
  obtain⟨j,want⟩:=jw;simp only[hg]at hw;simp only[yielded];have hto:ops.toList[j]?=ops[j]?:=by simp
  rw[hto]at hw;cases hb:(ops[j]?).bind (·.dst) with
  |none=>simp only[hb]at hw;cases hw;simp
  |some d=>
   simp only[hb]at hw;split at hw
   .rename_i x hx;cases hw;obtain⟨x',h1,h2⟩:=S d _ hx;cases h2;simp[h1]
   .rename_i u Yi hx;cases hw;obtain⟨x',h1,h2⟩:=S d _ hx;simp only[Option.bind_some,h1];cases h2<;>first | exact absurd rfl (Yi _) | rfl
   .cases hw
theorem SR.putV {sl:SL}{a:Act}{dst:Option Nat}{n:Nat}{v v':Value}(S:SR σ n sl a.tmps)(hd:∀d,dst=some d->d < a.tmps.size)(hv:VR σ n v v'):SR σ n (putV sl dst v) (a.put dst v').tmps:=by
 cases dst with
 |none=>exact S
 |some d=>exact S.put (hd d rfl) hv
theorem Zeg (a:Act)(dst:Option Nat)(v:Value):(a.put dst v).tmps.size=a.tmps.size:=by cases dst<;>simp[Act.put]
theorem Zgt (a:Act)(dst:Option Nat)(v:Value):(a.put dst v).defers=a.defers:=by cases dst<;>rfl
def Zvi (n:Nat)(ops:Array Oper):Prop:=∀(i:Nat) (o:Oper) (d:Nat),ops[i]?=some o->o.dst=some d->d < n
theorem Z7d {n:Nat}{ops:Array Oper}{id:Nat}{dr:Bool}(h:Wa n (.region id ops dr)=true):Zvi n ops:=by
 intro i o d hi hd
 have R6:o∈ops.toList:=by
  rw[Array.mem_toList_iff];exact Array.mem_of_getElem? hi
 have:=List.all_eq_true.1 h o R6;simp only[hd]at this;rw[Nat.blt_eq]at this;exact this
theorem Zyn (hC:COk C P)(hcf:Zb0 C P cf)(hyf:YfSound C P yf){ops:Array Oper}(b:Frame)(k:List Item)(cs:List Frame):∀(m i:Nat) {sl Yw:SL} {h h':VH} {σ:Nat->Blk} {w:World} {a:Act},i+m=ops.size ->
  HR C.G σ h w base->SR σ h.next sl a.tmps->Zvi a.tmps.size ops->Zh1 C cf yf ops.toList (ops.toList.drop i) sl h=some (Yw,h') ->
  ∃σ' w' a',Steps P (lone (b.atR a (.inRegion ops (List.range' i m)::k)) cs w) (lone (b.atR a' (.inRegion ops []::k)) cs w')/\HR C.G σ' h' w' base/\SR σ' h'.next Yw a'.tmps/\TR σ h w σ' h' w'/\a'.tmps.size=a.tmps.size/\a'.defers=a.defers:=by
 intro m
 induction m with
 |zero=>
  intro i sl Yw h h' σ w a hm H S hd ho;rw[List.drop_eq_nil_of_le (by simp;omega)]at ho;simp only[Zh1,Option.some.injEq,Prod.mk.injEq]at ho;obtain⟨rfl,rfl⟩:=ho;exact⟨σ,w,a,.refl P _,H,S,TR.refl σ h w H.lt,rfl,rfl⟩
 |succ m ih=>
  intro i sl Yw h h' σ w a hm H S hd ho;have hlt:i < ops.toList.length:=by simp;omega
  rw[List.drop_eq_getElem_cons hlt]at ho;have hi:ops[i]?=some ops.toList[i]:=by simp[Array.getElem?_eq_getElem (show i < ops.size by omega)]
  generalize ops.toList[i]=o at ho hi;simp only[Zh1]at ho;rw[List.range'_succ];split at ho
  .rename_i hw;split at ho
   .rename_i v h1 X7;obtain⟨σ1,w1,v',s1,hh⟩:=Zr5 hC hcf hyf b k cs (List.range' (i+1) m) H S hi (Qc S hw) X7;have S1:SR σ1 h1.next sl a.tmps:=S.mono hh.tr.sig hh.tr.next;obtain⟨σ2,w2,a2,s2,H2,S2,T2,z2,d2⟩:=ih (i+1) (a:=a.put o.dst v') (by omega) hh.hr (S1.putV (fun d hdd=>hd i o d hi hdd) hh.vr) (by rw[Zeg];exact hd) ho;exact⟨σ2,w2,a2,s1.trans s2,H2,S2,hh.tr.trans T2,z2.trans (Zeg ..),d2.trans (Zgt ..)⟩
   .cases ho
  .rename_i hw;have hwf:=Qc S hw;have s1:=stepR_op_skip (P:=P) (b:=b) (a:=a) (k:=k) (cs:=cs) (w:=w) (ops:=ops) (i:=i) (rest:=List.range' (i+1) m) (by simp[hi,hwf]);simp only[hi,Option.bind_some]at s1;obtain⟨σ2,w2,a2,s2,H2,S2,T2,z2,d2⟩:=ih (i+1) (a:=a.put o.dst undef) (by omega) H (S.putV (fun d hdd=>hd i o d hi hdd) (.tuple _ _ .nil)) (by rw[Zeg];exact hd) ho;exact⟨σ2,w2,a2,.head s1 s2,H2,S2,T2,z2.trans (Zeg ..),d2.trans (Zgt ..)⟩
  .cases ho
end
def Zamt (code:Code)(it:Item):Prop:=it=.code code\/∃b,code=.loop b/\it=.inLoop b
def Ends (P:Program)(b:Frame)(a:Act)(k:List Item)(cs:List Frame)(w:World)(it:Item)(x:Ex)(a':Act)(w':World):Prop:=
 match x with
 | .normal=>Steps P (lone (b.atR a (it::k)) cs w) (lone (b.atR a' k) cs w')
 | .exit id=>∀k',exitTo id k=some k'->Steps P (lone (b.atR a (it::k)) cs w) (lone (b.atR a' k') cs w')
 | .ret=>b.roundOf=none->∃todo,Steps P (lone (b.atR a (it::k)) cs w) (lone {b.atR a' todo with mode:=.returning} cs w')
def Zts (C:Ctx)(P:Program)(ex:Code->SL->VH->Option (Ex×SL×VH))(Xy:Bool):Prop:=
 ∀code sl h x Yw h',ex code sl h=some (x,Yw,h')->∀σ w base (b:Frame) (a:Act) k cs lo it,HR C.G σ h w base->SR σ h.next sl a.tmps->Wa a.tmps.size code=true->(Xy=true->b.roundOf=none) ->
  DS w lo w.heap.size a.defers->lo<=w.heap.size->Zamt code it->∃σ' w' a',HR C.G σ' h' w' base/\SR σ' h'.next Yw a'.tmps/\TR σ h w σ' h' w'/\a'.tmps.size=a.tmps.size/\DS w' lo w'.heap.size a'.defers /\
   (Xy=false->a'.defers=a.defers)/\Ends P b a k cs w it x a' w'
theorem Zvj {n m:Nat}(hm:n<=m):∀ {c:Code},Wa n c=true->Wa m c=true:=by
 intro c
 induction c with
 |region id ops d=>
  intro h;refine List.all_eq_true.2 fun o ho=>?_
  have:=List.all_eq_true.1 h o ho;cases hd:o.dst with
  |none=>rfl
  |some d=>
   simp only[hd]at this ⊢;rw[Nat.blt_eq]at this ⊢;omega
 |seq a b iha ihb=>intro h;simp only[Wa,Bool.and_eq_true]at h ⊢;exact⟨iha h.1,ihb h.2⟩
 |cond c a b iha ihb=>intro h;simp only[Wa,Bool.and_eq_true]at h ⊢;exact⟨iha h.1,ihb h.2⟩
 |block id b ih=>exact ih
 |loop b ih=>exact ih
 |rangeFunc f ps a b iha ihb=>
  intro h;simp only[Wa,Bool.and_eq_true]at h ⊢;refine⟨⟨List.all_eq_true.2 fun p hp=>?_,iha h.1.2⟩,ihb h.2⟩;have:=List.all_eq_true.1 h.1.1 p hp;rw[Nat.blt_eq]at this ⊢;omega
 |scope b ih=>exact ih
 | _=>intro _;rfl
section
variable {P:Program}{C:Ctx}{σ σ':Nat->Blk}{h h':VH}{w w':World}{base:Nat}{v v':Value}
theorem TR.still (H:HR C.G σ h w base)(hB:Below w.heap.size w w'):TR σ h w σ h w':=
 ⟨fun _ _=>rfl,Nat.le_refl _,Nat.le_refl _,fun i o _ h1 h2=>⟨o,h1,h2⟩,fun i o hi h1 _=>absurd (H.lt i o h1) (by omega),fun _ _ _=>rfl,hB.os,hB.tape,hB.output,hB.size,fun b hb _=>hB.block b hb⟩
theorem Z3a (H:HR C.G σ h w base)(H':HR C.G σ' h' w' base)(T:TR σ {h with wr:=h.next} w σ' h' w')(hv:VR σ' h'.next v v')(raw:Bool):∃σ2,Holds C.G σ h w base (settle raw h v h').1 (settle raw h v h').2 σ2 w' v':=by
 unfold settle;split
 .rename_i hc;simp only[Bool.and_eq_true,Nat.ble_eq]at hc
  have hb:∀b,b < w.heap.size->w'.heap[b]?=w.heap[b]?:=fun b hb=>T.block b hb fun i o hi _ hw=>by
   have:=H.lt i o hi;omega
  refine⟨σ,H.move T.size fun i o hi=>hb _ (H.block_lt hi),?_,TR.still H ⟨T.os,T.tape,T.output,T.size,hb⟩⟩;rw[hv.eq_of_flat 4 hc.1.2];exact VR.of_flat 4 _ hc.1.2
 .refine ⟨σ',H'.sub rfl (fun _ _ h=>h),hv,T.sig,T.next,Nat.min_le_left _ _,T.old,?_,?_,T.os,T.tape,T.output,T.size,?_⟩
  .intro i o hi ho hm;rcases T.new i o hi ho hm with h | ⟨j,o0,x,y,z,u⟩
   .exact .inl h
   .exact .inr ⟨j,o0,x,y,Nat.le_trans (Nat.min_le_right _ _) z,u⟩
  .intro i hi hw;exact T.same i hi (Nat.lt_of_lt_of_le hw (Nat.min_le_right _ _))
  .intro b hb hc;exact T.block b hb fun i o hi hm hw=>hc i o hi hm (Nat.le_trans (Nat.min_le_right _ _) hw)
theorem Zlb {ex:Code->SL->VH->Option (Ex×SL×VH)}(hC:COk C P)(Ub:∀f fn c,C.F f=some fn->fn.body=some c->Wa fn.ntmps c=true)(hex:Zts C P ex true):Zb0 C P (callF C ex):=by
 intro f args h v h' hc;unfold callF at hc;split at hc
 .rename_i u Vx;cases hc;obtain⟨hen,hfa,hfv,Zak2⟩:=hC.ext _ _ _ Vx;refine⟨hen,fun σ w base args' H Xz cs=>?_⟩;have Zzj:args'.toList=args:=VRs.eq_of_flat 4 Xz hfa;obtain⟨e,w',fr,⟨rfl,hB⟩,Z9f,Rn,hl⟩:=Zak2 w cs;rw[<- Zzj]at Z9f;refine⟨σ,w',v,fr,Z9f,Rn,hl,H.move hB.size fun i o hi=>hB.block _ (H.block_lt hi),VR.of_flat 4 _ hfv,TR.still H hB⟩
 .split at hc
  .cases hc
  .rename_i fn hF;split at hc
   .cases hc
   .rename_i c Zqx;obtain⟨Rn,Znt⟩:=hC.F _ _ hF;refine⟨⟨fn,c,Rn,Znt,Zqx⟩,fun σ w base args' H Xz cs=>?_⟩
    have key:∀x Yw h2,(x=.normal\/x=.ret)->ex c (Uc 0 args) {h with wr:=h.next}=some (x,Yw,h2)->(Zhu C Yw h2 fn.results.toList).map (fun vs=>settle (C.raw f) h (Zpc vs) h2)=some (v,h') ->
      ∃σ' w' v' fr,Steps P (lone (Frame.enter P f args' .normal) cs w) (lone fr cs w')/\fr.fn=f/\fr.leaving P w' (.returned v')/\Holds C.G σ h w base v h' σ' w' v':=by
     intro x Yw h2 hx Z9b Wv;rw[Option.map_eq_some_iff]at Wv;obtain⟨vs,Wv,Zaz⟩:=Wv
     let b:Frame:={(default:Frame) with fn:=f,kind:=.normal,roundOf:=none}
     have Zex:Frame.enter P f args' .normal=b.atR {tmps:=args'++Array.replicate (fn.ntmps - args'.size) undef,defers:=[]} [.code c]:=by
      simp[Frame.enter,Frame.atR,Rn,Zqx,b]
     have H0:HR C.G σ {h with wr:=h.next} w base:=H.sub rfl (fun _ _ h=>h)
     obtain⟨σ1,w1,a1,H1,S1,T1,_,D1,_,E1⟩:=hex _ _ _ _ _ _ Z9b σ w base b {tmps:=args'++Array.replicate (fn.ntmps - args'.size) undef,defers:=[]} [] cs w.heap.size (.code c) H0 (SR.enter Xz _)
      (Zvj (by simp;omega) (Ub _ _ _ hF Zqx)) (fun _=>rfl) (.nil _) (Nat.le_refl _) (.inl rfl)
     have hret:∃todo,Steps P (lone (Frame.enter P f args' .normal) cs w) (lone {b.atR a1 todo with mode:=.returning} cs w1):=by
      rw[Zex];rcases hx with rfl | rfl
      .exact ⟨[],Steps.trans E1 (.one (stepR_end rfl))⟩
      .exact E1 rfl
     obtain⟨todo,s1⟩:=hret;obtain⟨w2,s2,g1,g2,g3,g4,g5,g6⟩:=Zhn cs (P:=P) {b.atR a1 todo with mode:=.returning} rfl rfl D1;have H2:HR C.G σ1 h2 w2 base:=H1.move (by omega) fun i o hi=>g5 _ fun hd=>H1.not_deferred hd hi rfl
     have T2:TR σ {h with wr:=h.next} w σ1 h2 w2:=⟨T1.sig,T1.next,T1.wr,T1.old,T1.new,T1.same,g1.trans T1.os,g2.trans T1.tape,g3.trans T1.output,by rw[g4];exact T1.size,fun b hb hcb=>(g6 b hb).trans (T1.block b hb hcb)⟩
     obtain⟨v',r1,r2⟩:=Zyh (P:=P) hC.T H2 S1 Wv;obtain⟨σ2,hh⟩:=Z3a H H2 T2 r2 (C.raw f);rw[Zaz]at hh;exact⟨σ2,w2,v',_,s1.trans s2,rfl,⟨rfl,rfl,rfl,fn,Rn,r1⟩,hh⟩
    split at hc
    .rename_i Yw h2 Z9b;exact key _ _ _ (.inl rfl) Z9b hc
    .rename_i Yw h2 Z9b;exact key _ _ _ (.inr rfl) Z9b hc
    .cases hc
end
section
variable {P:Program}{C:Ctx}{G:Nat}{σ σ':Nat->Blk}{h h':VH}{w w':World}{base:Nat}{v v':Value}
theorem TR.putObj (T:TR σ h w σ' h' w')(B:Nat)(x:Obj)(hB:B < w.heap.size):TR σ h (w.putObj B x) σ' h' (w'.putObj B x):=
 ⟨T.sig,T.next,T.wr,T.old,fun i o hi ho hm=>by
   rcases T.new i o hi ho hm with h | h
   .exact .inl (by simpa using h)
   .exact .inr h,T.same,T.os,T.tape,T.output,by simpa using T.size,fun b hb hc=>by
  by_cases e:b=B
  .subst e;rw[World.putObj_heap_same hB,World.putObj_heap_same (Nat.lt_of_lt_of_le hB T.size)]
  .rw [World.putObj_heap_other e,World.putObj_heap_other e];exact T.block b (by simpa using hb) hc⟩
theorem TR.change {w0 w1:World}(T:TR σ h w σ' h' w')(h1:w.os=w0.os)(h2:w.tape=w0.tape)(h3:w.output=w0.output)(h4:w.heap.size=w0.heap.size)(h5:∀b:Nat,w.heap[b]?=w0.heap[b]?)
  (k1:w'.os=w1.os) (k2:w'.tape=w1.tape) (k3:w'.output=w1.output) (k4:w'.heap.size=w1.heap.size) (k5:∀b:Nat,w'.heap[b]?=w1.heap[b]?):TR σ h w0 σ' h' w1:=
 ⟨T.sig,T.next,T.wr,T.old,fun i o hi ho hm=>by
   rcases T.new i o hi ho hm with h | h
   .exact .inl (by rw[<- h4];exact h)
   .exact .inr h,T.same,k1.symm.trans (T.os.trans h1),k2.symm.trans (T.tape.trans h2),k3.symm.trans (T.output.trans h3),by rw[<- h4,<- k4];exact T.size,fun b hb hc=>by
  rw[<- k5,<- h5];exact T.block b (by rw[h4];exact hb) hc⟩
theorem Zev (H:HR G σ h w base){l:Nat}{o:VO}(hl:h.get l=some o)(hm:Uf o=true)(T:TR σ (h.put l none) w σ' h' w'):∀i oi,h'.get i=some oi->Uf oi=true->(σ' i).b≠(σ l).b:=by
 have Zy7:∀j oj,(h.put l none).get j=some oj->j≠l/\h.get j=some oj:=fun j oj hj=>by
  rw[VH.put_get]at hj;by_cases e:j=l
  .simp [e]at hj
  .exact ⟨e,by simpa[e]using hj⟩
 intro i oi hi hmi he;by_cases hlt:i < h.next
 .obtain ⟨o0,h0,m0⟩:=T.old i oi hlt hi hmi;obtain⟨n1,n2⟩:=Zy7 _ _ h0;rw[T.sig i hlt]at he;exact n1 (H.inj i l o0 o n2 hl m0 hm he)
 .rcases T.new i oi (by show h.next<=i;omega) hi hmi with hb | ⟨j,o0,x,y,_,u⟩
  .have:=H.block_lt hl;omega
  .obtain ⟨n1,n2⟩:=Zy7 _ _ x;exact n1 (H.inj j l o0 o n2 hl y hm (u.symm.trans he))
theorem HR.loop_not_row (H:HR G σ h w base){B:Nat}{r:Loop}(hB:w.heap[B]?=some (.loop r))(hf:∀i oi,h.get i=some oi->Uf oi=true->(σ i).b≠B):∀i oi,h.get i=some oi->(σ i).b≠B:=by
 intro i oi hi;cases hm:Uf oi with
 |true=>exact hf i oi hi hm
 |false=>
  intro e;cases oi with
  |row cs e' own=>
   obtain⟨_,_,c,el,fr,h3,_⟩:=H.row i cs e' own hi;rw[e,hB]at h3;cases h3
  |map es=>cases hm
  |loop sl ps as bd=>cases hm
theorem Ziv {n:Nat}:∀ {ps:List Nat} {args args':List Value} {sl:SL} {tmps:Array Value},SR σ n sl tmps->VRs σ n args args'->ps.length=args.length->ps.all (fun p=>Nat.blt p tmps.size)=true ->
  SR σ n (Zeh sl (ps.zip args)) ((ps.zip args').foldl (fun (tmps:Array Value) (x:Nat×Value)=>tmps.setIfInBounds x.1 x.2) tmps)/\((ps.zip args').foldl (fun (tmps:Array Value) (x:Nat×Value)=>tmps.setIfInBounds x.1 x.2) tmps).size=tmps.size
 | [],args,args',sl,tmps,S,hv,hl,hp=>by
   cases hv with
   |nil=>exact⟨S,rfl⟩
   |cons _ _=>simp at hl
 |p::ps,_,_,sl,tmps,S,hv,hl,hp=>by
  cases hv with
  |nil=>simp at hl
  |cons hv r=>
   simp only[List.all_cons,Bool.and_eq_true]at hp;have hlt:p < tmps.size:=by have:=hp.1;rw[Nat.blt_eq]at this;exact this
   obtain⟨g1,g2⟩:=Ziv (S.put hlt hv) r (by simpa using hl) (by simpa using hp.2);exact⟨by simpa only[List.zip_cons_cons,Zeh,List.foldl_cons]using g1,by simpa only[List.zip_cons_cons,List.foldl_cons,Array.size_setIfInBounds]using g2⟩
theorem Zrn {ex:Code->SL->VH->Option (Ex×SL×VH)}(hex:Zts C P ex false):YfSound C P (yieldF ex):=by
 intro l args h v h' hy σ w base args' H Xz;unfold yieldF at hy;split at hy
 .rename_i Ud ps as bd hl;obtain⟨Zahx,fn,tmps,dfr,Zss,S0,ok1,ok2,hps⟩:=H.loop l _ _ _ _ hl;split at hy
  .rename_i hlen;have hlt:=H.block_lt hl;have Zqu:args'.size=args.length:=by have:=Xz.length;simpa using this
   have Y6:=run_yield (P:=P) (args:=args') Zss (by simp only[List.size_toArray];omega);refine⟨fn,_,as,bd,Y6,fun c cs=>?_⟩
   have Zarv:(ps.toArray.zip args').foldl (fun (tmps:Array Value) (x:Nat×Value)=>match x with | (t,a)=>tmps.setIfInBounds t a) tmps=(ps.zip args'.toList).foldl (fun (tmps:Array Value) (x:Nat×Value)=>tmps.setIfInBounds x.1 x.2) tmps:=by
    rw[<- Array.foldl_toList];simp
   obtain⟨Sp,zp⟩:=Ziv (σ:=σ) (n:=h.next) S0 Xz hlen hps;simp only[]at Y6 ⊢;rw[Zarv];generalize hT:(ps.zip args'.toList).foldl (fun (tmps:Array Value) (x:Nat×Value)=>tmps.setIfInBounds x.1 x.2) tmps=Z6j at Sp zp;split at hy
   .rename_i Q5 h1 hex1;split at hy
    .rename_i h2 hex2;cases hy
     let b:Frame:={(default:Frame) with fn:=fn,kind:=.normal,roundOf:=some (σ l).b}
     have hb0:Frame.round (σ l).b fn Z6j as bd .normal=b.atR {tmps:=Z6j,defers:=[]} [.code as,.beginRound,.code bd]:=by simp[Frame.round,Frame.atR,b]
     have H0:HR C.G σ (h.put l none) w base:=H.sub rfl fun j oj hj=>by
      rw[VH.put_get]at hj;by_cases e:j=l
      .simp [e]at hj
      .simpa [e]using hj
     obtain⟨σ1,w1,a1,H1,S1,T1,z1,_,df1,E1⟩:=hex _ _ _ _ _ _ hex1 σ w base b {tmps:=Z6j,defers:=[]} [.beginRound,.code bd] (c::cs) w.heap.size (.code as) H0 Sp (by rw[zp];exact ok1) (fun e=>by cases e) (.nil _) (Nat.le_refl _) (.inl rfl)
     have Zahw:w1.heap[(σ l).b]?=some (.loop {state:=.ready,pending:=none,fn,tmps,params:=ps.toArray,assign:=as,body:=bd,defers:=dfr}):=by
      rw[T1.block _ hlt fun i oi hi hm _ he=>?_]
      .exact Zss
      .exact Zev H hl rfl (TR.refl σ (h.put l none) w H0.lt) i oi hi hm he
     have Z89:=H1.loop_not_row Zahw (Zev H hl rfl T1);have s2:=stepR_beginRound (P:=P) (b:=b) (a:=a1) (k:=[.code bd]) (cs:=c::cs) (w:=w1) rfl (run_beginRound Zahw rfl);generalize Z9k:(Obj.loop {state:=.busy,pending:=none,fn,tmps,params:=ps.toArray,assign:=as,body:=bd,defers:=dfr})=busy at s2;have Zzb:(σ l).b < w1.heap.size:=Nat.lt_of_lt_of_le hlt T1.size;have H1b:HR C.G σ1 h1 (w1.putObj (σ l).b busy) base:=H1.move (by simp) fun i oi hi=>World.putObj_heap_other (Z89 i oi hi)
     obtain⟨σ2,w2,a2,H2,S2,T2,_,_,df2,E2⟩:=hex _ _ _ _ _ _ hex2 σ1 (w1.putObj (σ l).b busy) base b a1 [] (c::cs) 0 (.code bd) H1b S1 (by rw[z1];simp only[zp];exact ok2) (fun e=>by cases e) (by rw[df1 rfl];exact .nil _) (Nat.zero_le _) (.inl rfl);have T12:TR σ (h.put l none) (w.putObj (σ l).b busy) σ2 h2 w2:=(T1.putObj (σ l).b busy hlt).trans T2
     have Znz:w2.heap[(σ l).b]?=some busy:=by
      rw[T2.block _ (by simpa using Zzb) fun i oi hi hm _ he=>?_]
      .exact World.putObj_heap_same Zzb
      .exact Z89 i oi hi he
     have Zpm:(σ l).b < w2.heap.size:=(Array.getElem?_eq_some_iff.1 Znz).1;subst Z9k;have s4:=stepR_round_end (P:=P) (b:=b) (a:=a2) (c:=c) (cs:=cs) (w:=w2) rfl rfl (run_endRound none Znz);simp only[Option.isNone_none,if_true]at s4;generalize hrd:(Obj.loop {state:=.ready,pending:=none,fn,tmps,params:=ps.toArray,assign:=as,body:=bd,defers:=dfr})=rd at s4 Zss;generalize Z9k:(Obj.loop {state:=.busy,pending:=none,fn,tmps,params:=ps.toArray,assign:=as,body:=bd,defers:=dfr})=busy at T12 Znz T2 H1b
     have T3:TR σ (h.put l none) w σ2 h2 (w2.putObj (σ l).b rd):=(T12.putObj (σ l).b rd (by simpa using hlt)).change rfl rfl rfl (by simp) (fun k=>by
      by_cases e:k=(σ l).b
      .subst e;rw[World.putObj_heap_same (by simpa using hlt),Zss]
      .rw [World.putObj_heap_other e,World.putObj_heap_other e]) rfl rfl rfl rfl (fun _=>rfl)
     have Zzg:∀i oi,h2.get i=some oi->(σ2 i).b≠(σ l).b:=by
      subst Z9k;exact H2.loop_not_row Znz (Zev H hl rfl T3)
     have H3:HR C.G σ2 h2 (w2.putObj (σ l).b rd) base:=H2.move (by simp) fun i oi hi=>World.putObj_heap_other (Zzg i oi hi)
     have hln:l < h.next:=H.lt _ _ hl;have hlσ:σ2 l=σ l:=T3.sig l hln
     have Zk:∀j oj,(h2.put l (some (.loop Ud ps as bd))).get j=some oj->j=l/\oj=.loop Ud ps as bd\/j≠l/\h2.get j=some oj:=fun j oj hj=>by
      rw[VH.put_get]at hj;by_cases e:j=l
      .simp [e]at hj;exact .inl ⟨e,hj.symm⟩
      .exact .inr ⟨e,by simpa[e]using hj⟩
     have U7:h.next<=h2.next:=T3.next;refine⟨σ2,w2.putObj (σ l).b rd,.bool true,?_,?_,.bool true,?_⟩
     .rw [hb0];exact Steps.trans E1 (.head s2 (Steps.trans E2 (.one s4)))
     .refine ⟨fun i oi hi=>?_,H3.glob,H3.base_,fun i cs e own hi=>?_,fun i es hi=>?_,fun i sl ps' as' bd' hi=>?_,fun i j oi oj hi hj mi mj he=>?_⟩
      .rcases Zk _ _ hi with⟨rfl,_⟩ | ⟨_,hi⟩
       .exact Nat.lt_of_lt_of_le hln U7
       .exact H3.lt i oi hi
      .rcases Zk _ _ hi with⟨_,e⟩ | ⟨_,hi⟩
       .cases e
       .exact H3.row i cs _ own hi
      .rcases Zk _ _ hi with⟨_,e⟩ | ⟨_,hi⟩
       .cases e
       .exact H3.map i es hi
      .rcases Zk _ _ hi with⟨rfl,e⟩ | ⟨_,hi⟩
       .cases e;rw[hlσ];exact⟨Zahx,fn,tmps,dfr,by rw[hrd];exact World.putObj_heap_same Zpm,S0.mono T3.sig U7,ok1,ok2,hps⟩
       .exact H3.loop i sl ps' as' bd' hi
      .rcases Zk _ _ hi with⟨e1,_⟩ | ⟨n1,hi'⟩<;>rcases Zk _ _ hj with⟨e2,_⟩ | ⟨n2,hj'⟩
       .rw [e1,e2]
       .rw [e1,hlσ]at he;exact absurd he.symm (Zzg j oj hj')
       .rw [e2,hlσ]at he;exact absurd he (Zzg i oi hi')
       .exact H3.inj i j oi oj hi' hj' mi mj he
     .refine ⟨T3.sig,U7,T3.wr,fun i o hi ho hm=>?_,fun i o hi ho hm=>?_,fun i hi hwi=>?_,T3.os,T3.tape,T3.output,T3.size,fun k hk hc=>?_⟩
      .rcases Zk _ _ ho with⟨rfl,rfl⟩ | ⟨n1,ho⟩
       .exact ⟨_,hl,rfl⟩
       .obtain ⟨o0,x,y⟩:=T3.old i o hi ho hm;rw[VH.put_get,if_neg n1]at x;exact⟨o0,x,y⟩
      .rcases Zk _ _ ho with⟨rfl,rfl⟩ | ⟨n1,ho⟩
       .omega
       .rcases T3.new i o hi ho hm with hb | ⟨j,o0,x,y,z,u⟩
        .exact .inl hb
        .rw [VH.put_get]at x;by_cases e:j=l
         .simp [e]at x
         .exact .inr ⟨j,o0,by simpa[e]using x,y,z,u⟩
      .by_cases e:i=l
       .subst e;rw[VH.put_get,if_pos rfl,hl]
       .have:=T3.same i hi hwi;rw[VH.put_get,if_neg e]at this;rw[VH.put_get,if_neg e,this]
      .refine T3.block k hk fun i o hi hm hwi=>?_
       rw[VH.put_get]at hi;by_cases e:i=l
       .simp [e]at hi
       .exact hc i o (by simpa[e]using hi) hm hwi
    .cases hy
   .cases hy
  .cases hy
 .cases hy
end
def Zrm (C:Ctx)(P:Program):Prop:=
 ∀cf yf,Zb0 C P cf->YfSound C P yf->∀ops sl h Yw h',Zi1 C cf yf ops sl h=some (Yw,h')->∀(t:Nat) σ w base (b:Frame) (a:Act) k cs,HR C.G σ h w base->SR σ h.next sl a.tmps->Zvi a.tmps.size ops ->
  ∃σ' w' a',Steps P (lone (b.atR a (.inRegion ops (Region.schedule (P.follows .mixedOrders) ops t)::k)) cs w) (lone (b.atR a' (.inRegion ops []::k)) cs w')/\HR C.G σ' h' w' base/\SR σ' h'.next Yw a'.tmps/\TR σ h w σ' h' w'/\a'.tmps.size=a.tmps.size/\a'.defers=a.defers
section
variable {P:Program}{C:Ctx}{G:Nat}{σ σ':Nat->Blk}{h h':VH}{w w':World}{base:Nat}{v v':Value}
theorem HR.loops_apart (H:HR G σ h w base){l:Nat}{o:VO}(hl:h.get l=some o)(hm:Uf o=true){r:Loop}(hb:w.heap[(σ l).b]?=some (.loop r)):∀i oi,h.get i=some oi->i≠l->(σ i).b≠(σ l).b:=by
 intro i oi hi Yi e;cases hmi:Uf oi with
 |true=>exact Yi (H.inj i l oi o hi hl hmi hm e)
 |false=>
  cases oi with
  |row cs e' own=>
   obtain⟨_,_,c,el,fr,h3,_⟩:=H.row i cs e' own hi;rw[e,hb]at h3;cases h3
  |map es=>cases hmi
  |loop sl ps as bd=>cases hmi
theorem Zu3 {cf:Nat->List Value->VH->Option (Value×VH)}(hcf:Zb0 C P cf){f:Operand}{ps:Array Nat}{as bd:Code}{sl:SL}{g:Nat}{first captured:Array Value}{u:Value}{h2:VH}{Q5:SL}{ps1:List Nat}{as1 bd1:Code}
  (b:Frame) (a:Act) (k:List Item) (cs:List Frame) {lo:Nat} (H:HR C.G σ h w base) (S:SR σ h.next sl a.tmps) (hok:Wa a.tmps.size (.rangeFunc f ps as bd)=true) (hro:b.roundOf=none)
  (D:DS w lo w.heap.size a.defers) (Sr:lo<=w.heap.size) (hf:opd C sl f=some (.func (.func g) first captured))
  (Zk2:cf g (first.toList++[.func (.yield h.next) #[] #[]]++captured.toList) (h.new (.loop sl ps.toList as bd))=some (u,h2)) (Zk:h2.get h.next=some (.loop Q5 ps1 as1 bd1)):
  ∃σ' w' a',HR C.G σ' (h2.put h.next none) w' base/\SR σ' h2.next sl a'.tmps/\TR σ h w σ' (h2.put h.next none) w'/\a'.tmps.size=a.tmps.size/\DS w' lo w'.heap.size a'.defers /\
   Steps P (lone (b.atR a (.code (.rangeFunc f ps as bd)::k)) cs w) (lone (b.atR a' k) cs w'):=by
 simp only[Wa,Bool.and_eq_true]at hok;obtain⟨⟨hps,hok1⟩,hok2⟩:=hok;have Zex:=run_enterLoop_outer (P:=P) (w:=w) b.fn a.tmps ps as bd;generalize Vb:(w.alloc (.deferred (some []))).alloc (.loop {state:=.ready,pending:=none,fn:=b.fn,tmps:=a.tmps,params:=ps,assign:=as,body:=bd,defers:=w.heap.size})=w1 at Zex;have hsz1:w1.heap.size=w.heap.size+2:=by rw[<- Vb];simp
 have Zakj:w1.heap[w.heap.size+1]?=some (.loop {state:=.ready,pending:=none,fn:=b.fn,tmps:=a.tmps,params:=ps,assign:=as,body:=bd,defers:=w.heap.size}):=by
  rw[<- Vb];have:=World.alloc_heap_new (w.alloc (.deferred (some []))) (.loop {state:=.ready,pending:=none,fn:=b.fn,tmps:=a.tmps,params:=ps,assign:=as,body:=bd,defers:=w.heap.size});rw[World.size_alloc]at this;exact this
 have Zv5:∀k,k < w.heap.size->(w.alloc (.deferred (some []))).heap[k]?=w.heap[k]?:=fun k hk=>Below.heap_alloc _ _ _ hk
 have Z8u:∀k,k < w.heap.size+1->w1.heap[k]?=(w.alloc (.deferred (some []))).heap[k]?:=fun k hk=>by
  rw[<- Vb];exact Below.heap_alloc _ _ _ (by simpa using hk)
 have Zahq:w1.heap[w.heap.size]?=some (.deferred (some [])):=by
  rw[Z8u _ (by omega)];exact World.alloc_heap_new w _
 have HB:Below w.heap.size w (w.alloc (.deferred (some []))):=⟨rfl,rfl,rfl,by simp,Zv5⟩
 have H0:HR C.G σ h (w.alloc (.deferred (some []))) base:=H.move (by simp) fun i o hi=>Zv5 _ (H.block_lt hi)
 have T0:TR σ h w σ h (w.alloc (.deferred (some []))):=TR.still H HB
 have H1:HR C.G (upd σ h.next ⟨w.heap.size+1,0,0,0,true,true⟩) (h.new (.loop sl ps.toList as bd)) w1 base:=by
  refine HR.new H0 _ _ (fun i o hi e=>?_) (by have:=H.base_;show base<=w.heap.size+1;omega) (by rw[hsz1];simp) (fun k hk _=>Z8u k (by simpa using hk)) (fun _ _ _ e=>by cases e) (fun _ e=>by cases e) ?_
  .have:=H.block_lt hi;dsimp only at e;omega
  .intro Yw ps' as' bd' e;cases e;refine⟨b.fn,a.tmps,w.heap.size,by simpa using Zakj,S.mono (Zc1 σ h.next _) (Nat.le_succ _),hok1,hok2,hps⟩
 have T1:TR σ h w (upd σ h.next ⟨w.heap.size+1,0,0,0,true,true⟩) (h.new (.loop sl ps.toList as bd)) w1:=
  T0.trans (TR.ofNew H0 _ _ (by simp) (by rw[hsz1];simp) (fun k hk=>Z8u k (by simpa using hk)) (by rw[<- Vb];rfl) (by rw[<- Vb];rfl) (by rw[<- Vb];rfl))
 have hfv:=Zr H S hf;obtain⟨hen,hgo⟩:=hcf _ _ _ _ _ Zk2;generalize hev:a.eval f=fv at hfv;cases hfv with
 |fn _ _ Ze3 _ Sv v1 v2=>
  have Wv:(resolve a.eval (rangeCall f (w.heap.size+1)) 0).run P w1=.ok {target:=.fn (.func g) Sv,args:=Ze3++#[.func (.yield (w.heap.size+1)) #[] #[]]} w1:=by
   have hm:Array.map a.eval #[.const (.func (.yield (w.heap.size+1)) #[] #[])]=#[.func (.yield (w.heap.size+1)) #[] #[]]:=by simp[Act.eval]
   simp only[resolve,rangeCall,hev,Deferred.ofValue,hm];rfl
  have hinv:(invoke (.fn (.func g) Sv) (Ze3++#[.func (.yield (w.heap.size+1)) #[] #[]])).run P w1=.ok (.enter g (Ze3++#[.func (.yield (w.heap.size+1)) #[] #[]]++Sv)) w1:=Zht hen _ w1;have s1:=stepR_rangeFunc (P:=P) (b:=b) (a:=a) (k:=k) (cs:=cs) (by rw[hro];exact Zex) Wv hinv
  have hyv:VR (upd σ h.next ⟨w.heap.size+1,0,0,0,true,true⟩) (h.next+1) (.func (.yield h.next) #[] #[]) (.func (.yield (w.heap.size+1)) #[] #[]):=by
   have:=VR.yield (σ:=upd σ h.next ⟨w.heap.size+1,0,0,0,true,true⟩) (n:=h.next+1) h.next ⟨Nat.lt_succ_self _,by rw[Zp]⟩;simpa only[Zp]using this
  obtain⟨σ2,w2,v',fr,s2,_,hl,hh⟩:=hgo _ w1 base (Ze3++#[.func (.yield (w.heap.size+1)) #[] #[]]++Sv) H1 (by
   simp only[Array.toList_append];exact ((v1.mono (Zc1 σ h.next _) (Nat.le_succ _)).append (.cons hyv .nil)).append (v2.mono (Zc1 σ h.next _) (Nat.le_succ _)))
   (b.atR {a with defers:=[{target:=.collected w.heap.size,args:=#[]}]++a.defers} (.inRangeFunc (w.heap.size+1)::k)::cs)
  have s3:=step_leave_returned (c:=b.atR {a with defers:=[{target:=.collected w.heap.size,args:=#[]}]++a.defers} (.inRangeFunc (w.heap.size+1)::k)) (cs:=cs) hl;rw[finish_atR_inRangeFunc]at s3;have hσ:σ2 h.next=⟨w.heap.size+1,0,0,0,true,true⟩:=by rw[hh.tr.sig h.next (Nat.lt_succ_self _),Zp]
  obtain⟨_,fn2,Zao6,dfr2,Znz,_⟩:=hh.hr.loop _ _ _ _ _ Zk;have Zzi:=Znz;rw[hσ]at Zzi;dsimp only at Zzi;have s4:=stepR_endRangeFunc (P:=P) (b:=b) (a:={a with defers:=[{target:=.collected w.heap.size,args:=#[]}]++a.defers}) (k:=k) (cs:=cs) (run_endLoop Zzi (by simp));simp only[Option.map_none,Option.toList_none,List.nil_append]at s4;generalize (Obj.loop {state:=.exhausted,pending:=none,fn:=fn2,tmps:=Zao6,params:=ps1.toArray,assign:=as1,body:=bd1,defers:=dfr2})=ex at s4;have T2:TR σ h w σ2 h2 w2:=T1.trans hh.tr
  have Zy7:∀j oj,(h2.put h.next none).get j=some oj->j≠h.next/\h2.get j=some oj:=fun j oj hj=>by
   rw[VH.put_get]at hj;by_cases e:j=h.next
   .simp [e]at hj
   .exact ⟨e,by simpa[e]using hj⟩
  refine⟨σ2,w2.putObj (w.heap.size+1) ex,{a with defers:=[{target:=.collected w.heap.size,args:=#[]}]++a.defers},?_,S.mono T2.sig T2.next,?_,rfl,?_,.head s1 (s2.trans (.head s3 (.one s4)))⟩
  .refine (hh.hr.sub (h':=h2.put h.next none) rfl fun j oj hj=>(Zy7 j oj hj).2).move (by simp) fun i o hi=>?_
   obtain⟨n1,hi⟩:=Zy7 _ _ hi;have:=hh.hr.loops_apart Zk rfl Znz i o hi n1;rw[hσ]at this;exact World.putObj_heap_other this
  .refine ⟨T2.sig,T2.next,T2.wr,fun i o hi ho hm=>T2.old i o hi (Zy7 _ _ ho).2 hm,fun i o hi ho hm=>T2.new i o hi (Zy7 _ _ ho).2 hm,fun i hi hw=>?_,T2.os,T2.tape,T2.output,by simpa using T2.size,fun k hk hc=>?_⟩
   .rw [VH.put_get,if_neg (by omega)];exact T2.same i hi hw
   .rw [World.putObj_heap_other (by omega)];exact T2.block k hk hc
  .have hd2:(w2.putObj (w.heap.size+1) ex).heap[w.heap.size]?=some (.deferred (some [])):=by
    rw[World.putObj_heap_other (by omega),hh.tr.block _ (by omega) fun i o hi _ _=>H1.not_deferred Zahq hi];exact Zahq
   refine .cons ?_ Sr rfl hd2 ((D.step H T2).keep fun r hr hb=>?_)
   .have:=T2.size;simp only[World.putObj_size];have h3:=hh.tr.size;omega
   .rw [World.putObj_heap_other (by omega)];exact hb
theorem Zzx (hC:COk C P)(Ub:∀f fn c,C.F f=some fn->fn.body=some c->Wa fn.ntmps c=true)(hD:Zrm C P):∀n Xy,Zts C P (exec C n Xy) Xy:=by
 intro n
 induction n with
 |zero=>intro Xy code sl h x Yw h' he;simp only[exec]at he;cases he
 |succ n ih=>
  intro Xy code sl h x Yw h' he σ w base b a k cs lo it H S hok hro D Sr X2;have hcf:=Zlb hC Ub (ih true);have hyf:YfSound C P (yieldF (exec C n false)):=Zrn (ih false)
  have plain:(∀b,code≠.loop b)->it=.code code:=fun Yi=>by
   rcases X2 with e | ⟨c,e,_⟩
   .exact e
   .exact absurd e (Yi c)
  cases code with
  |skip=>
   have:=plain (fun _=>by simp);subst this;simp only[exec,Option.some.injEq,Prod.mk.injEq]at he;obtain⟨rfl,rfl,rfl⟩:=he;exact⟨σ,w,a,H,S,TR.refl σ h w H.lt,rfl,D,fun _=>rfl,.one stepR_skip⟩
  |region id ops draw=>
   have:=plain (fun _=>by simp);subst this;have Ro:=Z7d hok;simp only[exec]at he;rw[Option.map_eq_some_iff]at he;obtain⟨⟨sl2,h2⟩,he,e⟩:=he;cases e;cases draw with
   |false=>
    simp only[Bool.false_eq_true,if_false]at he;obtain⟨σ2,w2,a2,s2,H2,S2,T2,z2,d2⟩:=Zyn hC hcf hyf b k cs ops.size 0 (by omega) H S Ro (by simpa using he);refine⟨σ2,w2,a2,H2,S2,T2,z2,by rw[d2];exact (D.step H T2).mono T2.size,fun _=>d2,.head stepR_region ?_⟩;rw[List.range_eq_range'];exact s2.trans (.one stepR_region_end)
   |true=>
    simp only[if_true]at he;have Hd:HR C.G σ h {w with drawn:=w.drawn+1} base:=H.move (Nat.le_refl _) fun _ _ _=>rfl
    obtain⟨σ2,w2,a2,s2,H2,S2,T2,z2,d2⟩:=hD _ _ hcf hyf _ _ _ _ _ he (w.tape w.drawn (.order b.fn id)) σ {w with drawn:=w.drawn+1} base b a k cs Hd S Ro;have T2':TR σ h w σ2 h2 w2:=T2.change rfl rfl rfl rfl (fun _=>rfl) rfl rfl rfl rfl (fun _=>rfl);refine⟨σ2,w2,a2,H2,S2,T2',z2,by rw[d2];exact (D.step H T2').mono T2'.size,fun _=>d2,.head stepR_region_draw (s2.trans (.one stepR_region_end))⟩
  |seq p q=>
   have:=plain (fun _=>by simp);subst this;simp only[Wa,Bool.and_eq_true]at hok;simp only[exec]at he;have s0:=stepR_seq (P:=P) (b:=b) (a:=a) (k:=k) (cs:=cs) (w:=w) (x:=p) (y:=q);split at he
   .rename_i Q5 h1 h1e;obtain⟨σ1,w1,a1,H1,S1,T1,z1,D1,f1,E1⟩:=ih Xy _ _ _ _ _ _ h1e σ w base b a (.code q::k) cs lo _ H S hok.1 hro D Sr (.inl rfl);obtain⟨σ2,w2,a2,H2,S2,T2,z2,D2,f2,E2⟩:=ih Xy _ _ _ _ _ _ he σ1 w1 base b a1 k cs lo _ H1 S1 (by rw[z1];exact hok.2) hro D1 (Nat.le_trans Sr T1.size) (.inl rfl);refine⟨σ2,w2,a2,H2,S2,T1.trans T2,z2.trans z1,D2,fun hr=>(f2 hr).trans (f1 hr),?_⟩;have s01:=Steps.head s0 E1;cases x with
    |normal=>exact s01.trans E2
    |exit id=>exact fun k' hk=>s01.trans (E2 k' hk)
    |ret=>exact fun hb=>by obtain⟨t,st⟩:=E2 hb;exact⟨t,s01.trans st⟩
   .rename_i Yi;obtain⟨σ1,w1,a1,H1,S1,T1,z1,D1,f1,E1⟩:=ih Xy _ _ _ _ _ _ he σ w base b a (.code q::k) cs lo _ H S hok.1 hro D Sr (.inl rfl);refine⟨σ1,w1,a1,H1,S1,T1,z1,D1,f1,?_⟩;cases x with
    |normal=>exact absurd he (Yi _ _)
    |exit id=>exact fun k' hk=>.head s0 (E1 k' (by simpa[exitTo]using hk))
    |ret=>exact fun hb=>by obtain⟨t,st⟩:=E1 hb;exact⟨t,.head s0 st⟩
  |cond c p q=>
   have:=plain (fun _=>by simp);subst this;simp only[Wa,Bool.and_eq_true]at hok;simp only[exec]at he;split at he
   .rename_i hc;have hv:=Zr H S hc;have hev:a.eval c=.bool true:=by generalize a.eval c=cv at hv;cases hv;rfl
    have s0:=stepR_cond (P:=P) (b:=b) (a:=a) (k:=k) (cs:=cs) (w:=w) (x:=p) (y:=q) hev;simp only[if_true]at s0;obtain⟨σ1,w1,a1,H1,S1,T1,z1,D1,f1,E1⟩:=ih Xy _ _ _ _ _ _ he σ w base b a k cs lo _ H S hok.1 hro D Sr (.inl rfl);refine⟨σ1,w1,a1,H1,S1,T1,z1,D1,f1,?_⟩;cases x with
    |normal=>exact .head s0 E1
    |exit id=>exact fun k' hk=>.head s0 (E1 k' hk)
    |ret=>exact fun hb=>by obtain⟨t,st⟩:=E1 hb;exact⟨t,.head s0 st⟩
   .rename_i hc;have hv:=Zr H S hc;have hev:a.eval c=.bool false:=by generalize a.eval c=cv at hv;cases hv;rfl
    have s0:=stepR_cond (P:=P) (b:=b) (a:=a) (k:=k) (cs:=cs) (w:=w) (x:=p) (y:=q) hev;simp only[Bool.false_eq_true,if_false]at s0;obtain⟨σ1,w1,a1,H1,S1,T1,z1,D1,f1,E1⟩:=ih Xy _ _ _ _ _ _ he σ w base b a k cs lo _ H S hok.2 hro D Sr (.inl rfl);refine⟨σ1,w1,a1,H1,S1,T1,z1,D1,f1,?_⟩;cases x with
    |normal=>exact .head s0 E1
    |exit id=>exact fun k' hk=>.head s0 (E1 k' hk)
    |ret=>exact fun hb=>by obtain⟨t,st⟩:=E1 hb;exact⟨t,.head s0 st⟩
   .cases he
  |block id c=>
   have:=plain (fun _=>by simp);subst this;simp only[exec]at he;have s0:=stepR_block (P:=P) (b:=b) (a:=a) (k:=k) (cs:=cs) (w:=w) (id:=id) (c:=c);split at he
   .rename_i id' Q5 h1 h1e;obtain⟨σ1,w1,a1,H1,S1,T1,z1,D1,f1,E1⟩:=ih Xy _ _ _ _ _ _ h1e σ w base b a (.inBlock id::k) cs lo _ H S hok hro D Sr (.inl rfl);split at he
    .rename_i hid;cases he;subst hid;exact⟨σ1,w1,a1,H1,S1,T1,z1,D1,f1,.head s0 (E1 k (by simp[exitTo]))⟩
    .rename_i hid;cases he;refine⟨σ1,w1,a1,H1,S1,T1,z1,D1,f1,fun k' hk=>.head s0 (E1 k' ?_)⟩;simp only[exitTo];rw[if_neg (by simpa using fun e=>hid e.symm)];exact hk
   .rename_i Yi;obtain⟨σ1,w1,a1,H1,S1,T1,z1,D1,f1,E1⟩:=ih Xy _ _ _ _ _ _ he σ w base b a (.inBlock id::k) cs lo _ H S hok hro D Sr (.inl rfl);refine⟨σ1,w1,a1,H1,S1,T1,z1,D1,f1,?_⟩;cases x with
    |normal=>exact .head s0 (Steps.trans E1 (.one stepR_inBlock))
    |exit id'=>exact absurd he (Yi _ _ _)
    |ret=>exact fun hb=>by obtain⟨t,st⟩:=E1 hb;exact⟨t,.head s0 st⟩
  |loop c=>
   simp only[exec]at he
   have s0:step P (lone (b.atR a (it::k)) cs w)=.next (lone (b.atR a (.code c::.inLoop c::k)) cs w):=by
    rcases X2 with rfl | ⟨c',e,rfl⟩
    .exact stepR_loop
    .cases e;exact stepR_inLoop
   split at he
   .rename_i Q5 h1 h1e;obtain⟨σ1,w1,a1,H1,S1,T1,z1,D1,f1,E1⟩:=ih Xy _ _ _ _ _ _ h1e σ w base b a (.inLoop c::k) cs lo _ H S hok hro D Sr (.inl rfl);obtain⟨σ2,w2,a2,H2,S2,T2,z2,D2,f2,E2⟩:=ih Xy _ _ _ _ _ _ he σ1 w1 base b a1 k cs lo (.inLoop c) H1 (S1.take _) (by rw[z1];exact hok) hro D1 (Nat.le_trans Sr T1.size) (.inr ⟨c,rfl,rfl⟩);refine⟨σ2,w2,a2,H2,S2,T1.trans T2,z2.trans z1,D2,fun hr=>(f2 hr).trans (f1 hr),?_⟩;have s01:=Steps.head s0 E1;cases x with
    |normal=>exact s01.trans E2
    |exit id=>exact fun k' hk=>s01.trans (E2 k' hk)
    |ret=>exact fun hb=>by obtain⟨t,st⟩:=E2 hb;exact⟨t,s01.trans st⟩
   .rename_i Yi;obtain⟨σ1,w1,a1,H1,S1,T1,z1,D1,f1,E1⟩:=ih Xy _ _ _ _ _ _ he σ w base b a (.inLoop c::k) cs lo _ H S hok hro D Sr (.inl rfl);refine⟨σ1,w1,a1,H1,S1,T1,z1,D1,f1,?_⟩;cases x with
    |normal=>exact absurd he (Yi _ _)
    |exit id=>exact fun k' hk=>.head s0 (E1 k' (by simpa[exitTo]using hk))
    |ret=>exact fun hb=>by obtain⟨t,st⟩:=E1 hb;exact⟨t,.head s0 st⟩
  |exit id=>
   have:=plain (fun _=>by simp);subst this;simp only[exec,Option.some.injEq,Prod.mk.injEq]at he;obtain⟨rfl,rfl,rfl⟩:=he;exact⟨σ,w,a,H,S,TR.refl σ h w H.lt,rfl,D,fun _=>rfl,fun k' hk=>.one (stepR_exit hk)⟩
  |ret=>
   have:=plain (fun _=>by simp);subst this;simp only[exec,Option.some.injEq,Prod.mk.injEq]at he;obtain⟨rfl,rfl,rfl⟩:=he;exact⟨σ,w,a,H,S,TR.refl σ h w H.lt,rfl,D,fun _=>rfl,fun hb=>⟨_,.one (stepR_ret hb)⟩⟩
  |rangeFunc f ps as bd=>
   have:=plain (fun _=>by simp);subst this;simp only[exec]at he;split at he
   .rename_i hr;split at he
    .rename_i g first captured hf
     split at he
     .rename_i u h2 Zk2;split at he
      .rename_i Q5 ps1 as1 bd1 Zk;cases he;obtain⟨σ2,w2,a2,H2,S2,T2,z2,D2,st⟩:=Zu3 hcf b a k cs H S hok (hro hr) D Sr hf Zk2 Zk;exact⟨σ2,w2,a2,H2,S2,T2,z2,D2,(fun e=>by rw[e]at hr;cases hr),st⟩
      .cases he
     .cases he
    .cases he
   .cases he
  | _=>simp only[exec]at he;cases he
end
section
variable {σ σ':Nat->Blk}{n n':Nat}
mutual
theorem VR.back (hs:∀i,Lv σ n i->σ' i=σ i):∀ {u u0 u':Value},VR σ n u u0->VR σ' n' u u'->VR σ n u u'
 | _,_,_,.bool b,.bool _=>.bool b
 | _,_,_,.int k i,.int _ _=>.int k i
 | _,_,_,.float k i,.float _ _=>.float k i
 | _,_,_,.complex k i j,.complex _ _ _=>.complex k i j
 | _,_,_,.string s,.string _=>.string s
 | _,_,_,.nilptr,.nilptr=>.nilptr
 | _,_,_,.ptr i o h,.ptr _ _ _=>by rw[hs i h];exact .ptr i o h
 | _,_,_,.nilslice,.nilslice=>.nilslice
 | _,_,_,.slice i o len cap W7 h hl hb,.slice _ _ _ _ Zaae _ hl' hb'=>by rw[hs i h]at hb' ⊢;exact .slice i o len cap Zaae h hl' hb'
 | _,_,_,.slice i o _ cap W7 h hl hb,.empty _ _ o' _ _=>by rw[hs i h];exact .empty i o o' cap h
 | _,_,_,.empty i o o' cap h,.slice _ _ _ _ Zaae _ hl' hb'=>by rw[hs i h]at hb' ⊢;exact .slice i o 0 cap Zaae h hl' hb'
 | _,_,_,.empty i o o' cap h,.empty _ _ o'' _ _=>by rw[hs i h];exact .empty i o o'' cap h
 | _,_,_,.nilmap,.nilmap=>.nilmap
 | _,_,_,.map i h,.map _ _=>by rw[hs i h];exact .map i h
 | _,_,_,.nilchan,.nilchan=>.nilchan
 | _,_,_,.fn g a a' c c' h1 h2,.fn _ _ a'' _ c'' k1 k2=>.fn g a a'' c c'' (VRs.back hs h1 k1) (VRs.back hs h2 k2)
 | _,_,_,.yield i h,.yield _ _=>by rw[hs i h];exact .yield i h
 | _,_,_,.nilFunc,.nilFunc=>.nilFunc
 | _,_,_,.nilIface,.nilIface=>.nilIface
 | _,_,_,.iface t v v' h,.iface _ _ v'' k=>.iface t v v'' (VR.back hs h k)
 | _,_,_,.agg cs cs' h,.agg _ cs'' k=>.agg cs cs'' (VRs.back hs h k)
 | _,_,_,.tuple cs cs' h,.tuple _ cs'' k=>.tuple cs cs'' (VRs.back hs h k)
theorem VRs.back (hs:∀i,Lv σ n i->σ' i=σ i):∀ {l l0 l':List Value},VRs σ n l l0->VRs σ' n' l l'->VRs σ n l l'
 | _,_,_,.nil,.nil=>.nil
 | _,_,_,.cons h r,.cons k s=>.cons (VR.back hs h k) (VRs.back hs r s)
end
theorem MR.back (hs:∀i,Lv σ n i->σ' i=σ i):∀ {l:List (Value×Value)} {l0 l':List MapEntry},MR σ n l l0->MR σ' n' l l'->MR σ n l l'
 | _,_,_,.nil,.nil=>.nil
 | _,_,_,.cons h v r,.cons k x s=>.cons (h.back hs k) (v.back hs x) (r.back hs s)
theorem SR.back (hs:∀i,Lv σ n i->σ' i=σ i){sl:SL}{t0 t1:Array Value}(h:SR σ n sl t0)(k:SR σ' n' sl t1):SR σ n sl t1:=fun t v hv=>by
 obtain⟨v0,_,h2⟩:=h t v hv;obtain⟨v',k1,k2⟩:=k t v hv;exact⟨v',k1,h2.back hs k2⟩
theorem SR.mono' (hs:∀i,Lv σ n i->σ' i=σ i)(hn:n<=n'){sl:SL}{tmps:Array Value}(h:SR σ n sl tmps):SR σ' n' sl tmps:=fun t v hv=>by
 obtain⟨v',h1,h2⟩:=h t v hv;exact⟨v',h1,h2.mono' hs hn⟩
theorem MR.mono' (hs:∀i,Lv σ n i->σ' i=σ i)(hn:n<=n'):∀ {l:List (Value×Value)} {l':List MapEntry},MR σ n l l'->MR σ' n' l l'
 | _,_,.nil=>.nil
 | _,_,.cons h v r=>.cons (h.mono' hs hn) (v.mono' hs hn) (r.mono' hs hn)
end
section
variable {P:Program}{C:Ctx}{G:Nat}{σ σ1:Nat->Blk}{h h1:VH}{w w1:World}{base:Nat}
theorem HR.back (H:HR G σ h w base)(H1:HR G σ1 h1 w1 base)(hs:∀i,i < h.next->σ1 i=σ i)(hg:∀i o,h.get i=some o->h1.get i=some o):HR G σ h w1 base where
 lt:=H.lt
 glob:=H.glob
 base_:=H1.base_
 row:=fun i cs e own hi=>by
  have hi':=H.lt i _ hi;obtain⟨_,_,c0,el0,fr0,_,h4,_⟩:=H.row i cs e own hi;obtain⟨k1,k2,c,el,fr,k3,k4,k5,k6⟩:=H1.row i cs e own (hg i _ hi);rw[hs i hi']at k1 k3 k4 k5 k6;refine⟨k1,k2,c,el,fr,k3,fun j v hj=>?_,k5,k6⟩;obtain⟨v0,_,g2⟩:=h4 j v hj;obtain⟨v',g3,g4⟩:=k4 j v hj;exact⟨v',g3,g2.back (fun i hi=>hs i hi.1) g4⟩
 map:=fun i es hi=>by
  obtain⟨_,es0,_,_,h3⟩:=H.map i es hi;obtain⟨k1,Rk,ck,k2,k3⟩:=H1.map i es (hg i _ hi);rw[hs i (H.lt i _ hi)]at k1 k2;exact⟨k1,Rk,ck,k2,h3.back (fun i hi=>hs i hi.1) k3⟩
 loop:=fun i sl ps as bd hi=>by
  obtain⟨_,_,_,_,_,h3,_⟩:=H.loop i sl ps as bd hi;obtain⟨k1,fn,tmps,dfr,k2,k3,k4⟩:=H1.loop i sl ps as bd (hg i _ hi);rw[hs i (H.lt i _ hi)]at k1 k2;exact⟨k1,fn,tmps,dfr,k2,h3.back (fun i hi=>hs i hi.1) k3,k4⟩
 inj:=H.inj
theorem U1 (σ:Nat->Blk){i j:Nat}(k:Blk)(h:i≠j):upd σ j k i=σ i:=by simp[upd,h]
theorem HR.addAt (H:HR G σ h w base){j:Nat}(k:Blk)(o:VO)(hj:j < h.next)(hG:G<=j)(hd:(σ j).live=false)(hk:∀i o,h.get i=some o->(σ i).b≠k.b)
  (Ug:∀cs e own,o=.row cs e own->k.own=own/\(∀v∈cs,cellB v=true)/\∃c el fr,w.heap[k.b]?=some (.cells c el fr)/\(∀j v,cs[j]?=some v->∃v',c[k.d+j]?=some v'/\VR σ h.next v v') /\
    (own=true->k.e=e/\base<=k.b/\k.d+k.N=c.size/\cs.length<=k.N/\∀j,j < c.size->¬ (fr.1<=j/\j < fr.2))/\(own=false->k.b < base))
  (hmap:∀es,o=.map es->base<=k.b/\∃Rk ck,w.heap[k.b]?=some (.map Rk ck)/\MR σ h.next es Rk.toList)
  (Z80:∀sl ps as bd,o≠.loop sl ps as bd):HR G (upd σ j k) (h.put j (some o)) w base:=by
 have hlv:∀i,Lv σ h.next i->upd σ j k i=σ i:=fun i hi=>U1 σ k fun e=>by rw[e]at hi;rw[hi.2]at hd;cases hd
 have Zk:∀i oi,(h.put j (some o)).get i=some oi->i=j/\oi=o\/i≠j/\h.get i=some oi:=fun i oi hi=>by
  rw[VH.put_get]at hi;by_cases e:i=j
  .simp [e]at hi;exact .inl ⟨e,hi.symm⟩
  .exact .inr ⟨e,by simpa[e]using hi⟩
 refine⟨fun i oi hi=>?_,⟨H.glob.1,fun g hg=>by rw[U1 σ k (by omega)];exact H.glob.2 g hg⟩,H.base_,fun i cs e own hi=>?_,fun i es hi=>?_,fun i sl ps as bd hi=>?_,fun i i' oi oi' hi hi' m m' he=>?_⟩
 .rcases Zk _ _ hi with⟨rfl,_⟩ | ⟨_,hi⟩
  .exact hj
  .exact H.lt i oi hi
 .rcases Zk _ _ hi with⟨rfl,e1⟩ | ⟨n1,hi⟩
  .obtain ⟨a1,a2,c,el,fr,a3,a4,a5,a6⟩:=Ug cs e own e1.symm;refine⟨by rw[Zp];exact a1,a2,c,el,fr,by rw[Zp];exact a3,fun q v hq=>?_,by rw[Zp];exact a5,by rw[Zp];exact a6⟩;obtain⟨v',g1,g2⟩:=a4 q v hq;exact⟨v',by rw[Zp];exact g1,g2.mono' hlv (Nat.le_refl _)⟩
  .obtain ⟨a1,a2,c,el,fr,a3,a4,a5,a6⟩:=H.row i cs e own hi;refine⟨by rw[U1 σ k n1];exact a1,a2,c,el,fr,by rw[U1 σ k n1];exact a3,fun q v hq=>?_,by rw[U1 σ k n1];exact a5,by rw[U1 σ k n1];exact a6⟩;obtain⟨v',g1,g2⟩:=a4 q v hq;exact⟨v',by rw[U1 σ k n1];exact g1,g2.mono' hlv (Nat.le_refl _)⟩
 .rcases Zk _ _ hi with⟨rfl,e1⟩ | ⟨n1,hi⟩
  .obtain ⟨a1,Rk,ck,a2,a3⟩:=hmap es e1.symm;rw[Zp];exact⟨a1,Rk,ck,a2,a3.mono' hlv (Nat.le_refl _)⟩
  .obtain ⟨a1,Rk,ck,a2,a3⟩:=H.map i es hi;rw[U1 σ k n1];exact⟨a1,Rk,ck,a2,a3.mono' hlv (Nat.le_refl _)⟩
 .rcases Zk _ _ hi with⟨rfl,e1⟩ | ⟨n1,hi⟩
  .exact absurd e1.symm (Z80 _ _ _ _)
  .obtain ⟨a1,fn,tmps,dfr,a2,a3,a4⟩:=H.loop i sl ps as bd hi;rw[U1 σ k n1];exact⟨a1,fn,tmps,dfr,a2,a3.mono' hlv (Nat.le_refl _),a4⟩
 .rcases Zk _ _ hi with⟨e1,_⟩ | ⟨n1,hi1⟩<;>rcases Zk _ _ hi' with⟨e2,_⟩ | ⟨n2,hi2⟩
  .rw [e1,e2]
  .rw [e1,Zp,U1 σ k n2]at he;exact absurd he.symm (hk _ _ hi2)
  .rw [e2,Zp,U1 σ k n1]at he;exact absurd he (hk _ _ hi1)
  .rw [U1 σ k n1,U1 σ k n2]at he;exact H.inj _ _ _ _ hi1 hi2 m m' he
def Zabg (σ:Nat->Blk)(n:Nat):VO->Prop
 | .row cs _ own=>own=true/\∃cs',VRs σ n cs cs'
 | .map es=>es=[]
 | .loop _ _ _ _=>False
theorem HR.renew {σ0:Nat->Blk}{h0:VH}{w0:World}(H:HR G σ h w base){o:VO}{sh:Shape}{v':Value}(hh:Holds G σ h w base (sh.val h.next) (h.new o) σ1 w1 v')(hc:Zabg σ h.next o)
  {j:Nat} (hj:j < h.next) (hG:G<=j) (hd:(σ j).live=false) (hn:h.get j=none) (T:TR σ0 h0 w0 σ h w) (h0j:h0.next<=j):
  ∃σ2,HR G σ2 (h.put j (some o)) w1 base/\VR σ2 h.next (sh.val j) v'/\TR σ0 h0 w0 σ2 (h.put j (some o)) w1/\(∀i,Lv σ h.next i->σ2 i=σ i)/\(∀i,i≠j->σ2 i=σ i):=by
 have hm:Uf o=true:=by
  cases o with
  |row cs e own=>exact hc.1
  |map _=>rfl
  |loop _ _ _ _=>exact hc.elim
 have hgn:(h.new o).get h.next=some o:=by rw[VH.new_get,if_pos rfl]
 have hgo:∀i oi,h.get i=some oi->(h.new o).get i=some oi:=fun i oi hi=>by
  have:=H.lt i oi hi;rw[VH.new_get,if_neg (by omega)];exact hi
 have Hb:HR G σ h w1 base:=H.back hh.hr (fun i hi=>hh.tr.sig i hi) hgo
 have hk:∀i oi,h.get i=some oi->(σ i).b≠(σ1 h.next).b:=by
  intro i oi hi e;have hlt:=H.lt i oi hi;rw[<- hh.tr.sig i hlt]at e;cases hmi:Uf oi with
  |true=>
   have:=hh.hr.inj i h.next oi o (hgo i oi hi) hgn hmi hm e;omega
  |false=>
   cases oi with
   |map _=>cases hmi
   |loop _ _ _ _=>cases hmi
   |row cs e' own=>
    obtain⟨_,_,_,_,_,_,_,_,r6⟩:=hh.hr.row i cs e' own (hgo i _ hi);have hb:=r6 hmi;rw[e]at hb;cases o with
    |row cs2 e2 Zvc=>
     obtain⟨_,_,_,_,_,_,_,r5,_⟩:=hh.hr.row _ cs2 e2 Zvc hgn;have:=(r5 hc.1).2.1;omega
    |map es=>
     have:=(hh.hr.map _ es hgn).1;omega
    |loop _ _ _ _=>exact hc.elim
 have hlv:∀i,Lv σ h.next i->upd σ j (σ1 h.next) i=σ i:=fun i hi=>U1 σ _ fun e=>by rw[e]at hi;rw[hi.2]at hd;cases hd
 refine⟨upd σ j (σ1 h.next),Hb.addAt _ o hj hG hd hk (fun cs e own eo=>?_) (fun es eo=>?_) (fun sl ps as bd eo=>?_),?_,?_,hlv,fun i hi=>U1 σ _ hi⟩
 .subst eo;obtain⟨cs',R7⟩:=hc.2;obtain⟨r1,r2,c,el,fr,r3,r4,r5,r6⟩:=hh.hr.row _ cs e own hgn;refine⟨r1,r2,c,el,fr,r3,fun q v hq=>?_,r5,r6⟩;obtain⟨v',g1,g2⟩:=r4 q v hq;obtain⟨v0,_,g4⟩:=R7.get hq;exact⟨v',g1,g4.back (fun i hi=>hh.tr.sig i hi.1) g2⟩
 .subst eo;obtain⟨r1,Rk,ck,r2,r3⟩:=hh.hr.map _ es hgn;cases hc;cases hl:Rk.toList with
  |nil=>exact⟨r1,Rk,ck,r2,by rw[hl];exact .nil⟩
  |cons a l=>rw[hl]at r3;cases r3
 .subst eo;exact hc.elim
 .have hv:=hh.vr;cases sh with
  |ptr=>
   simp only[Shape.val]at hv ⊢;cases hv with
   |ptr _ _ hl=>
    have:=VR.ptr (σ:=upd σ j (σ1 h.next)) (n:=h.next) j 0 ⟨hj,by rw[Zp];exact hl.2⟩
    rwa [Zp]at this
  |slice m=>
   simp only[Shape.val]at hv ⊢;cases hv with
   |slice _ _ _ _ W7 hl h2 h3=>
    have:=VR.slice (σ:=upd σ j (σ1 h.next)) (n:=h.next) j 0 m m W7 ⟨hj,by rw[Zp];exact hl.2⟩ h2 (by rw[Zp];exact h3)
    rwa [Zp]at this
   |empty _ _ o' _ hl=>
    have:=VR.empty (σ:=upd σ j (σ1 h.next)) (n:=h.next) j 0 o' 0 ⟨hj,by rw[Zp];exact hl.2⟩
    rwa [Zp]at this
  |map=>
   simp only[Shape.val]at hv ⊢;cases hv with
   |map _ hl=>
    have:=VR.map (σ:=upd σ j (σ1 h.next)) (n:=h.next) j ⟨hj,by rw[Zp];exact hl.2⟩
    rwa [Zp]at this
 .have T1:=T.trans hh.tr;have Yi:∀i,i < h0.next->i≠j:=fun i hi e=>by omega
  refine⟨fun i hi=>by rw[U1 σ _ (Yi i hi)];exact T.sig i hi,T.next,T1.wr,fun i oi hi ho hm'=>?_,fun i oi hi ho hm'=>?_,fun i hi hw=>?_,T1.os,T1.tape,T1.output,T1.size,T1.block⟩
  .rw [VH.put_get,if_neg (Yi i hi)]at ho;exact T.old i oi hi ho hm'
  .by_cases e:i=j
   .subst e;rw[Zp];exact T1.new h.next o T.next hgn hm
   .rw [VH.put_get,if_neg e]at ho;rw[U1 σ _ e];exact T.new i oi hi ho hm'
  .rw [VH.put_get,if_neg (Yi i hi)];exact T.same i hi hw
theorem Zyz {sl:SL}{a:Act}{o:Oper}{sh:Shape}{ob:VO}(hC:TOk C P)(H:HR C.G σ h w base)(S:SR σ h.next sl a.tmps)(ho:Qp C sl o=some (sh,ob)):
  Zabg σ h.next ob/\(∃σ' w' v',(execOp a.eval o).run P w=.ok (.value v') w'/\Holds C.G σ h w base (sh.val h.next) (h.new ob) σ' w' v'):=by
 have fin:∀ {s:Sem Value},Yk P C.G σ h w base s (sh.val h.next) (h.new ob)->(execOp a.eval o=do pure (.value (<- s)))->∃σ' w' v',(execOp a.eval o).run P w=.ok (.value v') w'/\Holds C.G σ h w base (sh.val h.next) (h.new ob) σ' w' v':=by
  rintro s ⟨σ',w',v',hr,hh⟩ he;exact⟨σ',w',v',by rw[he];simp[hr],hh⟩
 unfold Qp at ho;split at ho
 .rename_i t X7;split at ho
  .rename_i ty ht;cases ho;exact⟨⟨rfl,_,VRs.of_flat 1 _ (hC _ _ ht).zflat⟩,fin (Zxn H (hC _ _ ht)) (by simp only[execOp,X7])⟩
  .cases ho
 .rename_i t x X7;split at ho
  .rename_i u hu;split at ho
   .rename_i hcb;cases ho;have hv:=Zr H S hu;exact⟨⟨rfl,_,hv.cells⟩,fin (Zaap (t:=t) H hv hcb) (by simp only[execOp,X7])⟩
   .cases ho
  .cases ho
 .rename_i t len ps X7;split at ho
  .rename_i ty vs ht hvs;have hps:=Zbr H S hvs;split at ho
   .rename_i e hk;split at ho
    .rename_i te V9;split at ho
     .rename_i Wo;rw[Option.map_eq_some_iff]at ho;obtain⟨cs,h1,h2⟩:=ho;cases h2;obtain⟨cs',g1,g2,_⟩:=Zix (place':=fun i=>some (i*te.size,te.size)) (fun i p hp=>hp) hps (Zce (σ:=σ) (h:=h) (hC _ _ V9).zflat len) h1;refine⟨⟨rfl,cs',g2⟩,fin (Zgj (t:=t) H (hC _ _ ht) hk (hC _ _ V9) Wo hps h1) ?_⟩;simp only[execOp,X7];rw[Ztp]
     .cases ho
    .cases ho
   .cases ho
  .cases ho
 .rename_i t l c X7;split at ho
  .rename_i ty kn n km m ht hn hm;split at ho
   .rename_i e hk;split at ho
    .rename_i te V9;split at ho
     .rename_i Wo;cases ho;have g1:=Zr H S hn;have g2:=Zr H S hm;generalize Rm:a.eval l=lv at g1;generalize hg2:a.eval c=cv at g2;cases g1;cases g2;exact⟨⟨rfl,_,Zce (σ:=σ) (h:=h) (hC _ _ V9).zflat n.toNat⟩,fin (Zia (t:=t) (kn:=kn) (km:=km) H (hC _ _ ht) hk (hC _ _ V9) Wo.1 Wo.2.1 Wo.2.2.1 Wo.2.2.2) (by simp only[execOp,X7,Rm,hg2])⟩
     .cases ho
    .cases ho
   .cases ho
  .cases ho
 .rename_i t X7;cases ho;exact⟨rfl,fin (Zm8 (t:=t) H) (by simp only[execOp,X7,Option.map_none])⟩
 .cases ho
end
def stg (st:DSt)(k:Nat):Option VH:=st.hs.reverse[k]?
def rcd (st:DSt)(j:Nat):Option Rec:=st.recs.reverse[j]?
def SlP (Ud:SL)(st:DSt)(i d:Nat)(v:Value):Prop:=
 (∃(j:Nat) (r:Rec),j < i/\rcd st j=some r/\r.o.dst=some d/\r.v=v)\/((∀(j:Nat) (r:Rec),j < i->rcd st j=some r->r.o.dst≠some d)/\Xg Ud d=some v)
section
variable (C:Ctx)(cf yf:Nat->List Value->VH->Option (Value×VH))(B M:Nat)(all:List Oper)(masks:Array Nat)
def Fact (st:DSt)(j:Nat)(r:Rec):Prop:=
 (r.kind=0/\Q2 all r.pk r.o=some false/\r.v=.tuple #[]) \/
 (Q2 all r.pk r.o=some true /\
   ((r.kind=1/\∃sh ob,Qp C r.pk r.o=some (sh,ob)/\r.v=sh.val (B+j) /\
      ∀k S,stg st k=some S->(∀(c:Nat) (q:Rec),rcd st c=some q->q.kind=3->q.k < k->(masks.getD c 0).testBit j=false)->S.get (B+j)=some ob) \/
    ((∀x,r.vis.testBit x=true↔(masks.getD j 0).testBit x=true/\x < j/\∃q,rcd st x=some q/\q.kind=1) /\
      ((r.kind=2/\∃S h',stg st r.k=some S/\Xu C cf yf r.pk (view B M r.vis S) r.o=some (r.v,h')/\h'.next=S.next/\h'.wr=S.next) \/
       (r.kind=3/\∃S S' h',stg st r.k=some S/\stg st (r.k+1)=some S'/\Xu C cf yf r.pk (view B M r.vis S) r.o=some (r.v,h')/\S'.next=h'.next/\S'.wr=min S.wr h'.wr/\∀x,S'.get x=(over B M r.vis S h').get x)))))
structure PInv (h0:VH)(Ud:SL)(i:Nat)(st:DSt):Prop where
 first:∃S,stg st 0=some S/\S.next=M/\S.wr=h0.wr/\∀x,¬ (B<=x/\x < M)->S.get x=h0.get x
 len:st.recs.length=i
 hlen:st.hs.length=st.k+1
 sl:∀d v,Xg st.sl d=some v->SlP Ud st i d v
 made:∀j,st.made.testBit j=true↔∃r,rcd st j=some r/\r.kind=1
 op:∀j r,rcd st j=some r->all[j]?=some r.o/\(∀d v,Xg r.pk d=some v->d∈Yf all r.o/\SlP Ud st j d v)/\Fact C cf yf B M all masks st j r
 nothing:∀k S j,stg st k=some S->B<=j->j < M->st.made.testBit (j - B)=false->S.get j=none
 wk:∀k,k < st.k->∃c r,rcd st c=some r/\r.kind=3/\r.k=k
 wb:∀(c:Nat) (r:Rec),rcd st c=some r->r.kind=3->r.k < st.k
variable {C cf yf B M all masks}
theorem Zgq (sl:SL):∀(ds:List Nat) (d:Nat) (v:Value),Xg (pick sl ds) d=some v->d∈ds/\Xg sl d=some v
 | [],d,v,h=>by simp[pick,Xg]at h
 |e::ds,d,v,h=>by
  simp only[pick]at h;split at h
  .rename_i u hu;simp only[Xg]at h;by_cases he:e=d
   .subst he;have:Nat.beq e e=true:=Nat.beq_refl e;rw[this]at h;simp only[cond_true,Option.some.injEq]at h;subst h;exact⟨by simp,hu⟩
   .rw [T7 he]at h;simp only[cond_false]at h;obtain⟨h1,h2⟩:=Zgq sl ds d v h;exact⟨by simp[h1],h2⟩
  .obtain ⟨h1,h2⟩:=Zgq sl ds d v h;exact⟨by simp[h1],h2⟩
theorem W3 {st st':DSt}{r:Rec}{i:Nat}(hr:st'.recs=r::st.recs)(hl:st.recs.length=i)(c:Nat):rcd st' c=if c=i then some r else rcd st c:=by
 unfold rcd;rw[hr,List.reverse_cons,List.getElem?_append];split
 .rename_i h;rw[List.length_reverse]at h;rw[if_neg (by omega)]
 .rename_i h;rw[List.length_reverse]at h;by_cases e:c=i
  .subst e;simp[hl]
  .rw [if_neg e,List.getElem?_eq_none (by simp;omega),List.getElem?_eq_none (by simp;omega)]
theorem Zc6 {st:DSt}{i c:Nat}{r:Rec}(hl:st.recs.length=i)(h:rcd st c=some r):c < i:=by
 have:=(List.getElem?_eq_some_iff.1 h).1;simpa[hl]using this
theorem SlP.push {Ud:SL}{st st':DSt}{r:Rec}{i j d:Nat}{v:Value}(hr:st'.recs=r::st.recs)(hl:st.recs.length=i)(hj:j<=i)(h:SlP Ud st j d v):SlP Ud st' j d v:=by
 rcases h with⟨j',r',h1,h2,h3⟩ | ⟨h1,h2⟩
 .exact .inl ⟨j',r',h1,by rw[W3 hr hl,if_neg (by omega)];exact h2,h3⟩
 .refine .inr ⟨fun j' r' hj' hr'=>?_,h2⟩;rw[W3 hr hl,if_neg (by omega)]at hr';exact h1 j' r' hj' hr'
theorem SlP.put {Ud:SL}{st st':DSt}{r:Rec}{i:Nat}(hr:st'.recs=r::st.recs)(hl:st.recs.length=i)(h:∀d v,Xg st.sl d=some v->SlP Ud st i d v)(hs:st'.sl=putV st.sl r.o.dst r.v):
  ∀d v,Xg st'.sl d=some v->SlP Ud st' (i+1) d v:=by
 intro d v hd;rw[hs]at hd
 have keep:r.o.dst≠some d->Xg st.sl d=some v->SlP Ud st' (i+1) d v:=by
  intro Yi hd;rcases (h d v hd).push hr hl (Nat.le_refl _) with⟨j',r',h1,h2⟩ | ⟨h1,h2⟩
  .exact .inl ⟨j',r',by omega,h2⟩
  .refine .inr ⟨fun j' r' hj' hr'=>?_,h2⟩;by_cases e:j'=i
   .subst e;rw[W3 hr hl,if_pos rfl]at hr';cases hr';exact Yi
   .exact h1 j' r' (by omega) hr'
 cases Ro:r.o.dst with
 |none=>
  rw[Ro]at hd;exact keep (by simp[Ro]) hd
 |some e=>
  rw[Ro]at hd;simp only[putV,Zp9]at hd;by_cases he:e=d
  .subst he;simp only[if_true,Option.some.injEq]at hd;exact .inl ⟨i,r,by omega,by rw[W3 hr hl,if_pos rfl],Ro,hd⟩
  .rw [if_neg he]at hd;exact keep (by simp[Ro,he]) hd
structure Nudge (B i:Nat)(f:VH->VH):Prop where
 next:∀S,(f S).next=S.next
 wr:∀S,(f S).wr=S.wr
 get:∀S x,x≠B+i->(f S).get x=S.get x
 at_:∀S S':VH,S.get (B+i)=S'.get (B+i)->(f S).get (B+i)=(f S').get (B+i)
theorem Nudge.id {i:Nat}:Nudge B i (fun S=>S):=⟨fun _=>rfl,fun _=>rfl,fun _ _ _=>rfl,fun _ _ h=>h⟩
theorem Nudge.put {i:Nat}(o:Option VO):Nudge B i (·.put (B+i) o):=⟨fun _=>rfl,fun _=>rfl,fun S x h=>by rw[VH.put_get,if_neg h],fun S S' _=>by rw[VH.put_get,VH.put_get,if_pos rfl,if_pos rfl]⟩
theorem Zii {B M x:Nat}:(Nat.ble B x&&Nat.blt x M)=true↔B<=x/\x < M:=by
 rw[Bool.and_eq_true,Nat.ble_eq,Nat.blt_eq]
theorem We (p:Nat->Bool)(S:VH)(x:Nat):(X5 B M p S).get x=if B<=x/\x < M then (if p (x - B)=true then S.get x else none) else S.get x:=by
 simp only[X5];by_cases h:B<=x/\x < M
 .rw [Zii.2 h,if_pos h];cases p (x - B)<;>rfl
 .rw [if_neg h]
  have:(Nat.ble B x&&Nat.blt x M)=false:=by
   cases e:(Nat.ble B x&&Nat.blt x M)
   .rfl
   .exact absurd (Zii.1 e) h
  rw[this];rfl
theorem over_get (vis:Nat)(S h':VH)(x:Nat):(over B M vis S h').get x=if B<=x/\x < M/\vis.testBit (x - B)=false then S.get x else h'.get x:=by
 simp only[over];by_cases h:B<=x/\x < M
 .rw [Zii.2 h];cases hb:vis.testBit (x - B)
  .rw [if_pos ⟨h.1,h.2,rfl⟩];rfl
  .rw [if_neg (by simp)];rfl
 .rw [if_neg (fun hh=>h ⟨hh.1,hh.2.1⟩)]
  have:(Nat.ble B x&&Nat.blt x M)=false:=by
   cases e:(Nat.ble B x&&Nat.blt x M)
   .rfl
   .exact absurd (Zii.1 e) h
  rw[this];rfl
theorem Nudge.view {f:VH->VH}{i vis:Nat}(N:Nudge B i f)(hi:B+i < M)(hv:vis.testBit i=false)(S:VH):view B M vis (f S)=view B M vis S:=by
 have:(X5 B M vis.testBit (f S)).get=(X5 B M vis.testBit S).get:=by
  funext x;rw[We,We];by_cases hx:x=B+i
  .subst hx;have hb:B<=B+i/\B+i < M:=⟨by omega,hi⟩
   rw[if_pos hb,if_pos hb,Nat.add_sub_cancel_left,hv];rfl
  .rw [N.get S x hx]
 simp only[Virt.view,X5]at this ⊢;rw[this,N.next]
theorem Fact.nudge {st st':DSt}{i j:Nat}{r rn:Rec}{f:VH->VH}(hr:st'.recs=rn::st.recs)(hl:st.recs.length=i)(hi:B+i < M)(hj:j < i)(N:Nudge B i f)
  (X2:∀k,k<=st.k->stg st' k=(stg st k).map f) (hlen:st.hs.length=st.k+1)
  (Z8z:∀ob k S',st.k < k->stg st' k=some S'->(∀(c:Nat) (q:Rec),rcd st' c=some q->q.kind=3->q.k < k->(masks.getD c 0).testBit j=false) ->
    (∀k S,stg st k=some S->(∀(c:Nat) (q:Rec),rcd st c=some q->q.kind=3->q.k < k->(masks.getD c 0).testBit j=false)->S.get (B+j)=some ob)->S'.get (B+j)=some ob)
  (F:Fact C cf yf B M all masks st j r):Fact C cf yf B M all masks st' j r:=by
 have hrc:∀c q,rcd st c=some q->rcd st' c=some q:=fun c q hq=>by
  have:=Zc6 hl hq;rw[W3 hr hl,if_neg (by omega)];exact hq
 have hk:∀k S,stg st k=some S->stg st' k=some (f S):=fun k S hS=>by
  have hlt:k < st.hs.length:=by simpa using (List.getElem?_eq_some_iff.1 hS).1
  rw[X2 k (by omega),hS];rfl
 rcases F with h0 | ⟨hw,F⟩
 .exact .inl h0
 .refine .inr ⟨hw,?_⟩;rcases F with⟨k1,sh,ob,m1,m2,m3⟩ | ⟨Zv3,F⟩
  .refine .inl ⟨k1,sh,ob,m1,m2,fun k S' hS' hc=>?_⟩;by_cases hkk:k<=st.k
   .rw [X2 k hkk]at hS';rw[Option.map_eq_some_iff]at hS';obtain⟨S,hS,rfl⟩:=hS';rw[N.get S _ (by omega)];exact m3 k S hS fun c q hq=>hc c q (hrc c q hq)
   .exact Z8z ob k S' (by omega) hS' hc m3
  .have hvi:r.vis.testBit i=false:=by
    cases e:r.vis.testBit i
    .rfl
    .have:=((Zv3 i).1 e).2.1;omega
   refine .inr ⟨fun x=>?_,?_⟩
   .rw [Zv3 x];constructor
    .rintro ⟨a1,a2,q,a3,a4⟩;exact⟨a1,a2,q,hrc _ _ a3,a4⟩
    .rintro ⟨a1,a2,q,a3,a4⟩;rw[W3 hr hl,if_neg (by omega)]at a3;exact⟨a1,a2,q,a3,a4⟩
   .rcases F with⟨k2,S,h',f1,f2,f3,f4⟩ | ⟨k3,S,S',h',f1,f2,f3,f4,f5,f6⟩
    .exact .inl ⟨k2,f S,h',hk _ _ f1,by rw[N.view hi hvi];exact f2,by rw[N.next];exact f3,by rw[N.next];exact f4⟩
    .refine .inr ⟨k3,f S,f S',h',hk _ _ f1,hk _ _ f2,by rw[N.view hi hvi];exact f3,by rw[N.next];exact f4,by rw[N.wr,N.wr];exact f5,fun x=>?_⟩;by_cases hx:x=B+i
     .subst hx;have h6:=f6 (B+i);rw[over_get,if_pos ⟨by omega,hi,by rw[Nat.add_sub_cancel_left];exact hvi⟩]at h6 ⊢;exact N.at_ _ _ h6
     .rw [N.get S' x hx,f6 x,over_get,over_get,N.get S x hx]
end
section
variable {C:Ctx}{cf yf:Nat->List Value->VH->Option (Value×VH)}{B M:Nat}{all:List Oper}{masks:Array Nat}
theorem PInv.push {h0:VH}{Ud:SL}{i:Nat}{st st':DSt}{rn:Rec}{f:VH->VH}(H:PInv C cf yf B M all masks h0 Ud i st)(hr:st'.recs=rn::st.recs)(hsl:st'.sl=putV st.sl rn.o.dst rn.v)(hi:B+i < M)
  (N:Nudge B i f) (X2:∀k,k<=st.k->stg st' k=(stg st k).map f) (Zqu:st'.hs.length=st'.k+1) (Zare:∀j,st'.made.testBit j=true↔st.made.testBit j=true\/(j=i/\rn.kind=1))
  (X7:all[i]?=some rn.o) (hpk:rn.pk=pick st.sl (Yf all rn.o)) (hF:Fact C cf yf B M all masks st' i rn) (hrk:rn.k=st.k) (hk3:rn.kind=3/\st'.k=st.k+1\/rn.kind≠3/\st'.k=st.k)
  (Z8z:∀j ob k S',j < i->st.k < k->stg st' k=some S'->(∀(c:Nat) (q:Rec),rcd st' c=some q->q.kind=3->q.k < k->(masks.getD c 0).testBit j=false) ->
    (∀k S,stg st k=some S->(∀(c:Nat) (q:Rec),rcd st c=some q->q.kind=3->q.k < k->(masks.getD c 0).testBit j=false)->S.get (B+j)=some ob)->S'.get (B+j)=some ob)
  (Zky:∀k S j,stg st' k=some S->B<=j->j < M->st'.made.testBit (j - B)=false->S.get j=none):PInv C cf yf B M all masks h0 Ud (i+1) st' where
 first:=by
  obtain⟨S,h1,h2,h3,h4⟩:=H.first;refine⟨f S,by rw[X2 0 (Nat.zero_le _),h1];rfl,by rw[N.next];exact h2,by rw[N.wr];exact h3,fun x hx=>?_⟩;rw[N.get S x (fun e=>hx ⟨by omega,by omega⟩)];exact h4 x hx
 len:=by rw[hr,List.length_cons,H.len]
 hlen:=Zqu
 sl:=SlP.put hr H.len H.sl hsl
 made:=fun j=>by
  rw[Zare,H.made];constructor
  .rintro (⟨r,h1,h2⟩ | ⟨rfl,h2⟩)
   .have:=Zc6 H.len h1;exact⟨r,by rw[W3 hr H.len,if_neg (by omega)];exact h1,h2⟩
   .exact ⟨rn,by rw[W3 hr H.len,if_pos rfl],h2⟩
  .rintro ⟨r,h1,h2⟩;rw[W3 hr H.len]at h1;by_cases e:j=i
   .subst e;rw[if_pos rfl]at h1;cases h1;exact .inr ⟨rfl,h2⟩
   .rw [if_neg e]at h1;exact .inl ⟨r,h1,h2⟩
 op:=fun j r hj=>by
  rw[W3 hr H.len]at hj;by_cases e:j=i
  .subst e;rw[if_pos rfl]at hj;cases hj;refine⟨X7,fun d v hd=>?_,hF⟩;rw[hpk]at hd;obtain⟨h1,h2⟩:=Zgq _ _ _ _ hd;exact⟨h1,(H.sl d v h2).push hr H.len (Nat.le_refl _)⟩
  .rw [if_neg e]at hj;have hlt:=Zc6 H.len hj;obtain⟨a1,a2,a3⟩:=H.op j r hj;exact⟨a1,fun d v hd=>⟨(a2 d v hd).1,(a2 d v hd).2.push hr H.len (Nat.le_of_lt hlt)⟩,a3.nudge hr H.len hi hlt N X2 H.hlen (fun ob k S'=>Z8z j ob k S' hlt)⟩
 nothing:=Zky
 wk:=fun k hk=>by
  have old:k < st.k->∃c r,rcd st' c=some r/\r.kind=3/\r.k=k:=fun hk=>by
   obtain⟨c,r,h1,h2⟩:=H.wk k hk;have:=Zc6 H.len h1;exact⟨c,r,by rw[W3 hr H.len,if_neg (by omega)];exact h1,h2⟩
  rcases hk3 with⟨h3,hk'⟩ | ⟨h3,hk'⟩
  .by_cases e:k=st.k
   .exact ⟨i,rn,by rw[W3 hr H.len,if_pos rfl],h3,by rw[hrk,e]⟩
   .exact old (by omega)
  .exact old (by omega)
 wb:=fun c r hc h3=>by
  rw[W3 hr H.len]at hc;by_cases e:c=i
  .rw [if_pos e]at hc;cases hc;rcases hk3 with⟨_,hk'⟩ | ⟨hn,_⟩
   .omega
   .exact absurd h3 hn
  .rw [if_neg e]at hc;have:=H.wb c r hc h3;rcases hk3 with⟨_,hk'⟩ | ⟨_,hk'⟩<;>omega
theorem Zyc {st:DSt}{k:Nat}{S:VH}(h:stg st k=some S):k < st.hs.length:=by
 simpa using (List.getElem?_eq_some_iff.1 h).1
theorem Zuv {st:DSt}{S:VH}{r:List VH}(h:st.hs=S::r):stg st r.length=some S:=by
 unfold stg;rw[h,List.reverse_cons,List.getElem?_append_right (by simp)];simp
theorem Zkp (a i j:Nat):(a|||2^i).testBit j=true↔a.testBit j=true\/j=i:=by
 rw[Nat.testBit_or,Nat.testBit_two_pow,Bool.or_eq_true,decide_eq_true_iff];constructor
 .rintro (h | h)
  .exact .inl h
  .exact .inr h.symm
 .rintro (h | h)
  .exact .inl h
  .exact .inr h.symm
theorem PInv.step {h0:VH}{Ud:SL}{i:Nat}{st st':DSt}{o:Oper}(H:PInv C cf yf B M all masks h0 Ud i st)(hi:B+i < M)(X7:all[i]?=some o)(Za1m:(masks.getD i 0).testBit i=false)
  (hs:Zdn C cf yf B M all masks o i st=some st'):PInv C cf yf B M all masks h0 Ud (i+1) st':=by
 have idst:∀ {st':DSt},st'.hs=st.hs->∀k,k<=st.k->stg st' k=(stg st k).map (fun S=>S):=fun e k _=>by unfold stg;rw[e];simp
 have Zyo:∀ {st':DSt},st'.hs.length=st.hs.length->∀ {k:Nat} {S':VH},st.k < k->stg st' k=some S'->False:=fun {st'} e {k} {S'} h1 h2=>by
  have:=Zyc h2;have:=H.hlen;omega
 have Za08:st.made.testBit i=false:=by
  cases e:st.made.testBit i
  .rfl
  .obtain ⟨r,h1,_⟩:=(H.made i).1 e;have:=Zc6 H.len h1;omega
 rcases hw:Q2 all (pick st.sl (Yf all o)) o with _ | (_ | _)
 .simp only [Zdn,hw]at hs;cases hs
 .simp only [Zdn,hw]at hs;cases hs
  refine H.push (rn:=⟨o,pick st.sl (Yf all o),.tuple #[],0,st.k,0⟩) (f:=fun S=>S) rfl rfl hi Nudge.id (idst rfl) H.hlen (fun j=>by simp) X7 rfl (.inl ⟨rfl,hw,rfl⟩) rfl (.inr ⟨by simp,rfl⟩)
   (fun j ob k S' _ h1 h2=>(Zyo (st':={st with sl:=putV st.sl o.dst (.tuple #[]),recs:=⟨o,pick st.sl (Yf all o),.tuple #[],0,st.k,0⟩::st.recs}) rfl h1 h2).elim) (fun k S j h1=>H.nothing k S j h1)
 .rcases hm:Qp C (pick st.sl (Yf all o)) o with _ | ⟨sh,ob⟩
  rotate_left
  ·
   simp only[Zdn,hw,hm]at hs;cases hs
   have hstg:∀k,stg {sl:=putV st.sl o.dst (sh.val (B+i)),recs:=⟨o,pick st.sl (Yf all o),sh.val (B+i),1,st.k,0⟩::st.recs,hs:=st.hs.map (·.put (B+i) (some ob)),k:=st.k,made:=st.made|||2^i} k=(stg st k).map (·.put (B+i) (some ob)):=fun k=>by
    unfold stg;rw[<- List.map_reverse,List.getElem?_map]
   refine H.push (rn:=⟨o,pick st.sl (Yf all o),sh.val (B+i),1,st.k,0⟩) (f:=(·.put (B+i) (some ob))) rfl rfl hi (Nudge.put _) (fun k _=>hstg k) (by simp[H.hlen]) (fun j=>?_) X7 rfl ?_ rfl (.inr ⟨by simp,rfl⟩)
    (fun j ob' k S' _ h1 h2=>(Zyo (st':={sl:=putV st.sl o.dst (sh.val (B+i)),recs:=⟨o,pick st.sl (Yf all o),sh.val (B+i),1,st.k,0⟩::st.recs,hs:=st.hs.map (·.put (B+i) (some ob)),k:=st.k,made:=st.made|||2^i}) (by simp) h1 h2).elim) ?_
   .show (st.made|||2^i).testBit j=true↔_;rw[Zkp];simp
   .refine .inr ⟨hw,.inl ⟨rfl,sh,ob,hm,rfl,fun k S hS _=>?_⟩⟩;rw[hstg,Option.map_eq_some_iff]at hS;obtain⟨S0,_,rfl⟩:=hS;rw[VH.put_get,if_pos rfl]
   .intro k S j hS h1 h2 h3;rw[hstg,Option.map_eq_some_iff]at hS;obtain⟨S0,hS0,rfl⟩:=hS
    have h3':¬ (st.made|||2^i).testBit (j - B)=true:=by
     change (st.made|||2^i).testBit (j - B)=false at h3;rw[h3];simp
    rw[Zkp]at h3';rw[VH.put_get,if_neg (fun e=>h3' (.inr (by omega)))];exact H.nothing k S0 j hS0 h1 h2 (by cases e:st.made.testBit (j - B)<;>simp_all)
  .simp only [Zdn,hw,hm]at hs;rcases hhs:st.hs with _ | ⟨S,r⟩
   .rw [hhs]at hs;cases hs
   .rw [hhs]at hs;dsimp only at hs
    have Z1p:stg st st.k=some S:=by
     have:=Zuv hhs;have hl:=H.hlen;rw[hhs]at hl;simp only[List.length_cons]at hl
     rwa [show r.length=st.k by omega]at this
    rcases Y6:Xu C cf yf (pick st.sl (Yf all o)) (view B M (masks.getD i 0&&&st.made) S) o with _ | ⟨v,h'⟩
    .rw [Y6]at hs;cases hs
    .rw [Y6]at hs;dsimp only at hs
     have Zv3:∀(Z0z:List Rec) (rn:Rec),Z0z=rn::st.recs->∀x,(masks.getD i 0&&&st.made).testBit x=true↔(masks.getD i 0).testBit x=true/\x < i/\∃q,Z0z.reverse[x]?=some q/\q.kind=1:=by
      intro Z0z rn he x;rw[Nat.testBit_and,Bool.and_eq_true,H.made];have hp:=W3 (st:=st) (st':={st with recs:=Z0z}) (r:=rn) he H.len x;unfold rcd at hp;dsimp only at hp;rw[hp];constructor
      .rintro ⟨a1,q,a2,a3⟩;have:=Zc6 H.len a2;exact⟨a1,this,q,by rw[if_neg (by omega)];exact a2,a3⟩
      .rintro ⟨a1,a2,q,a3,a4⟩;rw[if_neg (by omega)]at a3;exact⟨a1,q,a3,a4⟩
     split at hs
     ·
      rename_i hq;rw[Bool.and_eq_true,Nat.beq_eq,Nat.beq_eq]at hq;rw[<- hhs]at hs;cases hs
      refine H.push (rn:=⟨o,pick st.sl (Yf all o),v,2,st.k,masks.getD i 0&&&st.made⟩) (f:=fun S=>S) rfl rfl hi Nudge.id (idst rfl) H.hlen (fun j=>by simp) X7 rfl ?_ rfl (.inr ⟨by simp,rfl⟩)
       (fun j ob k S' _ h1 h2=>(Zyo (st':={st with sl:=putV st.sl o.dst v,recs:=⟨o,pick st.sl (Yf all o),v,2,st.k,masks.getD i 0&&&st.made⟩::st.recs}) rfl h1 h2).elim) (fun k S j h1=>H.nothing k S j h1)
      exact .inr ⟨hw,.inr ⟨Zv3 _ _ rfl,.inl ⟨rfl,S,h',Z1p,Y6,hq.1,hq.2⟩⟩⟩
     ·
      cases hs
      have Rf:∀k,stg {sl:=putV st.sl o.dst v,recs:=⟨o,pick st.sl (Yf all o),v,3,st.k,masks.getD i 0&&&st.made⟩::st.recs,hs:=over B M (masks.getD i 0&&&st.made) S h'::S::r,k:=st.k+1,made:=st.made} k =
        if k=st.k+1 then some (over B M (masks.getD i 0&&&st.made) S h') else stg st k:=fun k=>by
       unfold stg;have hl:=H.hlen;rw[<- hhs,List.reverse_cons,List.getElem?_append];split
       .rename_i hlt;rw[List.length_reverse]at hlt;rw[if_neg (by omega)]
       .rename_i hlt;rw[List.length_reverse]at hlt;by_cases e:k=st.k+1
        .rw [if_pos e];simp[e,hl]
        .rw [if_neg e,List.getElem?_eq_none (by simp;omega),List.getElem?_eq_none (by simp;omega)]
      refine H.push (rn:=⟨o,pick st.sl (Yf all o),v,3,st.k,masks.getD i 0&&&st.made⟩) (f:=fun S=>S) rfl rfl hi Nudge.id (fun k hk=>by rw[Rf,if_neg (by omega)];simp) (by rw[<- hhs,List.length_cons,H.hlen]) (fun j=>by simp) X7 rfl ?_ rfl (.inl ⟨rfl,rfl⟩) ?_ ?_
      .refine .inr ⟨hw,.inr ⟨Zv3 _ _ rfl,.inr ⟨rfl,S,over B M (masks.getD i 0&&&st.made) S h',h',?_,?_,Y6,rfl,rfl,fun _=>rfl⟩⟩⟩
       .rw [Rf,if_neg (by simp)];exact Z1p
       .rw [Rf,if_pos rfl]
      .intro j ob k S' hj h1 hS' hc Xc;rw[Rf]at hS';by_cases e:k=st.k+1
       .rw [if_pos e]at hS';cases hS';have hb:(masks.getD i 0).testBit j=false:=hc i ⟨o,pick st.sl (Yf all o),v,3,st.k,masks.getD i 0&&&st.made⟩ (by rw[W3 rfl H.len,if_pos rfl]) rfl (by show st.k < k;omega);rw[over_get,if_pos ⟨by omega,by omega,by rw[Nat.add_sub_cancel_left,Nat.testBit_and,hb];rfl⟩];refine Xc st.k S Z1p fun c q hq h3 hlt=>hc c q ?_ h3 (by omega)
        have:=Zc6 H.len hq;rw[W3 rfl H.len,if_neg (by omega)];exact hq
       .rw [if_neg e]at hS';have:=Zyc hS';have hl:=H.hlen;omega
      .intro k S' j hS' h1 h2 h3;rw[Rf]at hS';by_cases e:k=st.k+1
       .rw [if_pos e]at hS';cases hS';change st.made.testBit (j - B)=false at h3;rw[over_get,if_pos ⟨h1,h2,by rw[Nat.testBit_and,h3,Bool.and_false]⟩];exact H.nothing st.k S j Z1p h1 h2 h3
       .rw [if_neg e]at hS';exact H.nothing k S' j hS' h1 h2 h3
theorem PInv.pass {h0:VH}{Ud:SL}:∀(l:List Oper) (i:Nat) {st st':DSt},PInv C cf yf B M all masks h0 Ud i st->all.drop i=l->B+all.length<=M->(∀j,j < all.length->(masks.getD j 0).testBit j=false) ->
  Zcg C cf yf B M all masks l i st=some st'->PInv C cf yf B M all masks h0 Ud all.length st'
 | [],i,st,st',H,hl,hM,hm,hs=>by
   simp only[Zcg,Option.some.injEq]at hs;subst hs;have:all.length<=i:=by rw[List.drop_eq_nil_iff]at hl;exact hl
   have hlen:=H.len;by_cases e:i=all.length
   .rw [<- e];exact H
   .exfalso;have hlt:i - 1 < st.recs.length:=by omega
    have hex:∃r,rcd st (i - 1)=some r:=⟨st.recs.reverse[i - 1]'(by simpa using hlt),List.getElem?_eq_getElem _⟩
    obtain⟨r,hr⟩:=hex;have:=(H.op _ _ hr).1;have:=(List.getElem?_eq_some_iff.1 this).1;omega
 |o::l,i,st,st',H,hl,hM,hm,hs=>by
  have hlt:i < all.length:=by
   rcases Nat.lt_or_ge i all.length with h | h
   .exact h
   .rw [List.drop_eq_nil_of_le h]at hl;cases hl
  rw[List.drop_eq_getElem_cons hlt]at hl;injection hl with h1 h2
  simp only[Zcg]at hs;split at hs
  .rename_i st1 h1s;exact PInv.pass l (i+1) (H.step (by omega) (by rw[<- h1];exact List.getElem?_eq_getElem hlt) (hm i hlt) h1s) h2 hM hm hs
  .cases hs
end
mutual
theorem Zmw:∀(n:Nat) {a b:Value},Xh n a b=true->a=b
 |n,.bool a,b,h=>by cases b<;>cases n<;>simp[Xh]at h<;>simp[h]
 |n,.int j a,b,h=>by cases b<;>cases n<;>simp[Xh]at h<;>simp[h]
 |n,.string a,b,h=>by
  cases b with
  |string s=>
   have h':a.data.toList=s.data.toList:=by cases n<;>simpa[Xh]using h
   have:a=s:=by
    cases a;cases s;simp only[ByteArray.mk.injEq];exact Array.toList_inj.1 h'
   rw[this]
  | _=>cases n<;>simp[Xh]at h
 |n,.pointer a,b,h=>by cases b<;>cases n<;>simp[Xh]at h<;>simp[h]
 |n,.slice a l c,b,h=>by cases b<;>cases n<;>simp[Xh]at h<;>simp[h]
 |n,.map a,b,h=>by cases b<;>cases n<;>simp[Xh]at h<;>simp[h]
 |n,.nilFunc,b,h=>by cases b<;>cases n<;>simp[Xh]at h<;>rfl
 |n,.nilIface,b,h=>by cases b<;>cases n<;>simp[Xh]at h<;>rfl
 |n,.float _ _,b,h=>by cases b<;>cases n<;>simp[Xh]at h
 |n,.complex _ _ _,b,h=>by cases b<;>cases n<;>simp[Xh]at h
 |n,.chan _,b,h=>by cases b<;>cases n<;>simp[Xh]at h
 | 0,.func _ _ _,b,h=>by cases b<;>simp[Xh]at h
 |n+1,.func f a c,b,h=>by
  cases b with
  |func g a' c'=>
   simp only[Xh,Bool.and_eq_true,beq_iff_eq]at h;have h1:a.toList=a'.toList:=Zed n h.1.2;have h2:c.toList=c'.toList:=Zed n h.2;rw[h.1.1,Array.toList_inj.1 h1,Array.toList_inj.1 h2]
  | _=>simp[Xh]at h
 | 0,.iface _ _,b,h=>by cases b<;>simp[Xh]at h
 |n+1,.iface t v,b,h=>by
  cases b with
  |iface t' v'=>
   simp only[Xh,Bool.and_eq_true,beq_iff_eq]at h;rw[h.1,Zmw n h.2]
  | _=>simp[Xh]at h
 | 0,.agg _,b,h=>by cases b<;>simp[Xh]at h
 |n+1,.agg cs,b,h=>by
  cases b with
  |agg cs'=>
   have hh:cs.toList=cs'.toList:=Zed n (by simpa only[Xh]using h);rw[Array.toList_inj.1 hh]
  | _=>simp[Xh]at h
 | 0,.tuple _,b,h=>by cases b<;>simp[Xh]at h
 |n+1,.tuple cs,b,h=>by
  cases b with
  |tuple cs'=>
   have hh:cs.toList=cs'.toList:=Zed n (by simpa only[Xh]using h);rw[Array.toList_inj.1 hh]
  | _=>simp[Xh]at h
theorem Zed:∀(n:Nat) {l m:List Value},Xh.sames n l m=true->l=m
 |n,[],[],_=>rfl
 |n,[],_::_,h=>by simp[Xh.sames]at h
 |n,_::_,[],h=>by simp[Xh.sames]at h
 |n,a::l,b::m,h=>by
  simp only[Xh.sames,Bool.and_eq_true]at h;rw[Zmw n h.1,Zed n h.2]
end
theorem Zyg {n:Nat}{v:Value}{x:Option (Value×VH)}(h:Zhs n v x=true):∃h',x=some (v,h')/\h'.next=n/\h'.wr=n:=by
 cases x with
 |none=>cases h
 |some p=>
  obtain⟨u,h'⟩:=p;simp only[Zhs,Bool.and_eq_true,Nat.beq_eq]at h;exact⟨h',by rw[Zmw 3 h.1.1],h.1.2,h.2⟩
section
variable {all:List Oper}{masks:Array Nat}
theorem Zbs {α:Type}{l:List α}{i:Nat}{x:α}(h:l[i]?=some x):(x,i)∈l.zipIdx:=by
 rw[List.mem_zipIdx_iff_getElem?];exact h
theorem Zmt (h:S7 all masks=true){i:Nat}{o:Oper}(hi:all[i]?=some o){e:Edge}(he:e∈o.after)(hb:Region.binds .any e=true):e.on < i:=by
 have h1:=List.all_eq_true.1 h _ (Zbs hi);dsimp only at h1;rw[Bool.and_eq_true]at h1;have h2:=Array.all_eq_true_iff_forall_mem.1 h1.1 e he;simpa[hb]using h2
theorem Zc4 (h:S7 all masks=true){i j d:Nat}{o p:Oper}(hi:all[i]?=some o)(hj:all[j]?=some p)(Yi:i≠j)(hd:p.dst=some d):
  o.dst≠some d/\(d∈Yf all o->(j < i->(masks.getD i 0).testBit j=true)/\(i < j->(masks.getD j 0).testBit i=true)):=by
 have h1:=List.all_eq_true.1 h _ (Zbs hi);dsimp only at h1;rw[Bool.and_eq_true]at h1;have h2:=List.all_eq_true.1 h1.2 _ (Zbs hj);dsimp only at h2;rw[T7 Yi,Bool.false_or,hd]at h2;dsimp only at h2;rw[Bool.and_eq_true]at h2;refine⟨fun e=>?_,fun hl=>?_⟩
 .rw [e]at h2;simp at h2
 .have h3:=h2.2;have hc:(Yf all o).contains d=true:=by simpa using hl
  rw[hc,Bool.not_true,Bool.false_or]at h3;refine⟨fun hlt=>?_,fun hlt=>?_⟩
  .rw [Nat.blt_eq.mpr hlt]at h3;exact h3
  .have:Nat.blt j i=false:=by
    cases e:Nat.blt j i
    .rfl
    .rw [Nat.blt_eq]at e;omega
   rw[this]at h3;exact h3
theorem Zhg {recs:List Rec}(h:Zca masks recs.zipIdx=true){i j:Nat}{r q:Rec}(hi:recs[i]?=some r)(hj:recs[j]?=some q)(hr:r.kind=3)(hq:q.kind=3)(Yi:i≠j):
  (r.k < q.k/\(masks.getD j 0).testBit i=true)\/(q.k < r.k/\(masks.getD i 0).testBit j=true):=by
 have h1:=List.all_eq_true.1 h _ (Zbs hi);dsimp only at h1;rw[hr]at h1;have h2:=List.all_eq_true.1 (by simpa using h1:(recs.zipIdx.all fun (q,j)=>!Nat.beq q.kind 3||Nat.beq i j||(Nat.blt r.k q.k&&(masks.getD j 0).testBit i)||(Nat.blt q.k r.k&&(masks.getD i 0).testBit j))=true) _ (Zbs hj);dsimp only at h2;rw[hq,T7 Yi]at h2;simp only[Nat.beq_refl,Bool.not_true,Bool.false_or,Bool.or_eq_true,Bool.and_eq_true]at h2;rw[Nat.blt_eq,Nat.blt_eq]at h2;exact h2
theorem Z0g {recs:List Rec}{i k:Nat}(h:∀(c:Nat) (q:Rec),recs[c]?=some q->q.kind=3->((masks.getD i 0).testBit c=true->q.k < k)/\((masks.getD c 0).testBit i=true->k<=q.k)):Zja masks recs.zipIdx i k=true:=by
 refine List.all_eq_true.2 ?_;rintro⟨q,c⟩ hm;rw[List.mem_zipIdx_iff_getElem?]at hm;dsimp only at hm ⊢;by_cases h3:q.kind=3
 .obtain ⟨h1,h2⟩:=h c q hm h3;rw[h3];simp only[Nat.beq_refl,Bool.not_true,Bool.false_or,Bool.and_eq_true,Bool.not_eq_true',Bool.and_eq_false_iff];refine⟨?_,?_⟩
  .cases e:(masks.getD i 0).testBit c
   .exact .inl rfl
   .refine .inr ?_;have:=h1 e;cases e2:Nat.ble k q.k
    .rfl
    .rw [Nat.ble_eq]at e2;omega
  .cases e:(masks.getD c 0).testBit i
   .exact .inl rfl
   .refine .inr ?_;have:=h2 e;cases e2:Nat.blt q.k k
    .rfl
    .rw [Nat.blt_eq]at e2;omega
 .rw [T7 h3];rfl
theorem Z61 {C:Ctx}{cf yf:Nat->List Value->VH->Option (Value×VH)}{B M:Nat}{recs:List Rec}{hs:List VH}(h:Zhw C cf yf B M masks recs.zipIdx hs.zipIdx=true){i k:Nat}{r:Rec}{S:VH}(hi:recs[i]?=some r)(hr:r.kind=2)
  (hk:hs[k]?=some S) (Yi:k≠r.k) (ha:Zja masks recs.zipIdx i k=true):∃h',Xu C cf yf r.pk (view B M r.vis S) r.o=some (r.v,h')/\h'.next=S.next/\h'.wr=S.next:=by
 have h1:=List.all_eq_true.1 h _ (Zbs hi);dsimp only at h1;rw[hr,Nat.beq_refl,Bool.not_true,Bool.false_or]at h1;have h2:=List.all_eq_true.1 h1 _ (Zbs hk);dsimp only at h2;rw[T7 Yi,ha,Bool.not_true,Bool.false_or,Bool.false_or]at h2;exact Zyg h2
end
theorem Zos:∀(l:List Oper) (acc:Array Nat) (done:List Oper),acc.size=done.length ->
  (∀i j,(acc.getD i 0).testBit j=true->∃o,done[i]?=some o/\∃e∈o.after,Region.binds .any e=true/\(j=e.on\/(acc.getD e.on 0).testBit j=true)) ->
  let m:=l.foldl (fun acc o=>acc.push (o.after.foldl (fun s e=>if Region.binds .any e then s|||2^e.on|||acc.getD e.on 0 else s) 0)) acc
  ∀i j,(m.getD i 0).testBit j=true->∃o,(done++l)[i]?=some o/\∃e∈o.after,Region.binds .any e=true/\(j=e.on\/(m.getD e.on 0).testBit j=true)
 | [],acc,done,_,h=>by simpa using h
 |o::l,acc,done,hl,h=>by
  have key:∀(es:List Edge) (s:Nat) (j:Nat),(es.foldl (fun s e=>if Region.binds .any e then s|||2^e.on|||acc.getD e.on 0 else s) s).testBit j=true->s.testBit j=true\/∃e∈es,Region.binds .any e=true/\(j=e.on\/(acc.getD e.on 0).testBit j=true):=by
   intro es
   induction es with
   |nil=>intro s j hj;exact .inl hj
   |cons e es ih=>
    intro s j hj;rw[List.foldl_cons]at hj;rcases ih _ j hj with h1 | ⟨e',h1,h2⟩
    .split at h1
     .rename_i hb;rw[Nat.testBit_or,Nat.testBit_or,Nat.testBit_two_pow,Bool.or_eq_true,Bool.or_eq_true,decide_eq_true_iff]at h1;rcases h1 with (h1 | h1) | h1
      .exact .inl h1
      .exact .inr ⟨e,by simp,hb,.inl h1.symm⟩
      .exact .inr ⟨e,by simp,hb,.inr h1⟩
     .exact .inl h1
    .exact .inr ⟨e',by simp[h1],h2⟩
  rw[List.foldl_cons];have:=Zos l (acc.push (o.after.foldl (fun s e=>if Region.binds .any e then s|||2^e.on|||acc.getD e.on 0 else s) 0)) (done++[o]) (by simp[hl]) (fun i j hij=>?_)
  .simpa using this
  .have grow:∀i j,(acc.getD i 0).testBit j=true->((acc.push (o.after.foldl (fun s e=>if Region.binds .any e then s|||2^e.on|||acc.getD e.on 0 else s) 0)).getD i 0).testBit j=true:=by
    intro i j hij;rcases Nat.lt_or_ge i acc.size with hlt | hge
    .simp only [Array.getD_eq_getD_getElem?]at hij ⊢;rw[Array.getElem?_push,if_neg (by omega)];exact hij
    .simp [Array.getElem?_eq_none hge]at hij
   by_cases hi:i=acc.size
   .subst hi;simp only[Array.getD_eq_getD_getElem?,Array.getElem?_push,if_true,Option.getD_some]at hij;rw[<- Array.foldl_toList]at hij;have hij':=key o.after.toList 0 j (by simpa only[Array.getD_eq_getD_getElem?]using hij);rcases hij' with h1 | ⟨e,h1,h2,h3⟩
    .simp at h1
    .refine ⟨o,by rw[hl];simp,e,by simpa using h1,h2,h3.imp (fun h=>h) (grow _ _)⟩
   .have hlt:i < acc.size:=by
     rcases Nat.lt_trichotomy i acc.size with h | h | h
     .exact h
     .exact absurd h hi
     .simp only [Array.getD_eq_getD_getElem?,Array.getElem?_push,if_neg hi]at hij;rw[Array.getElem?_eq_none (by omega)]at hij;simp at hij
    simp only[Array.getD_eq_getD_getElem?,Array.getElem?_push,if_neg hi]at hij;obtain⟨o',h1,e,h2,h3,h4⟩:=h i j (by simpa only[Array.getD_eq_getD_getElem?]using hij);exact⟨o',by rw[List.getElem?_append_left (by omega)];exact h1,e,h2,h3,h4.imp (fun h=>h) (grow _ _)⟩
theorem Zld (ops:Array Oper){i j:Nat}(h:((Region.before ops).getD i 0).testBit j=true):∃o,ops[i]?=some o/\∃e∈o.after,Region.binds .any e=true/\(j=e.on\/((Region.before ops).getD e.on 0).testBit j=true):=by
 have hb:Region.before ops=ops.toList.foldl (fun acc o=>acc.push (o.after.foldl (fun s e=>if Region.binds .any e then s|||2^e.on|||acc.getD e.on 0 else s) 0)) #[]:=by
  unfold Region.before;rw[<- Array.foldl_toList]
 have:=Zos ops.toList #[] [] rfl (fun i j hij=>by simp at hij) i j (by rw[<- hb];exact h)
 rw[<- hb]at this;simpa using this
section
variable {P:Program}{C:Ctx}{G:Nat}{σ σ':Nat->Blk}{h h' V O:VH}{w w':World}{base:Nat}
theorem HR.widen (H:HR G σ h w base)(hs:∀i,i < h.next->σ' i=σ i)(hn:h.next<=h'.next)(hg:∀i o,h'.get i=some o->h.get i=some o):HR G σ' h' w base where
 lt:=fun i o hi=>Nat.lt_of_lt_of_le (H.lt i o (hg i o hi)) hn
 glob:=⟨Nat.le_trans H.glob.1 hn,fun g hgg=>by rw[hs g (Nat.lt_of_lt_of_le hgg H.glob.1)];exact H.glob.2 g hgg⟩
 base_:=H.base_
 row:=fun i cs e own hi=>by
  have hi':=H.lt i _ (hg i _ hi);obtain⟨k1,k2,c,el,fr,k3,k4,k5,k6⟩:=H.row i cs e own (hg i _ hi);rw[<- hs i hi']at k1 k3 k4 k5 k6;refine⟨k1,k2,c,el,fr,k3,fun j v hj=>?_,k5,k6⟩;obtain⟨v',g1,g2⟩:=k4 j v hj;exact⟨v',g1,g2.mono hs hn⟩
 map:=fun i es hi=>by
  obtain⟨k1,Rk,ck,k2,k3⟩:=H.map i es (hg i _ hi);rw[<- hs i (H.lt i _ (hg i _ hi))]at k1 k2;exact⟨k1,Rk,ck,k2,k3.mono hs hn⟩
 loop:=fun i sl ps as bd hi=>by
  obtain⟨k1,fn,tmps,dfr,k2,k3,k4⟩:=H.loop i sl ps as bd (hg i _ hi);rw[<- hs i (H.lt i _ (hg i _ hi))]at k1 k2;exact⟨k1,fn,tmps,dfr,k2,k3.mono hs hn,k4⟩
 inj:=fun i j oi oj hi hj mi mj he=>by
  rw[hs i (H.lt i _ (hg i _ hi)),hs j (H.lt j _ (hg j _ hj))]at he;exact H.inj i j oi oj (hg i _ hi) (hg j _ hj) mi mj he
theorem frame (H:HR G σ h w base)(hid:Nat->Prop)(hVn:V.next=h.next)(hV1:∀j,hid j->V.get j=none)(hV2:∀j,¬ hid j->V.get j=h.get j)(Zip:∀j,hid j->j < h.next)(H':HR G σ' h' w' base)(T:TR σ V w σ' h' w')
  (hOn:O.next=h'.next) (hOw1:O.wr<=h.wr) (hOw2:O.wr<=h'.wr) (hO1:∀j,hid j->O.get j=h.get j) (hO2:∀j,¬ hid j->O.get j=h'.get j):HR G σ' O w' base/\TR σ h w σ' O w':=by
 have Zik:∀j o,V.get j=some o->h.get j=some o:=fun j o hj=>by
  by_cases hh:hid j
  .rw [hV1 j hh]at hj;cases hj
  .rw [<- hV2 j hh];exact hj
 have Zdw:∀i,i < h.next->σ' i=σ i:=fun i hi=>T.sig i (by rw[hVn];exact hi)
 have Zaru:∀j o,hid j->h.get j=some o->Uf o=true->w'.heap[(σ j).b]?=w.heap[(σ j).b]?:=fun j o hj ho hm=>by
  refine T.block _ (H.block_lt ho) fun i oi hi hmi _ e=>?_
  have:=H.inj i j oi o (Zik i oi hi) ho hmi hm e;subst this;rw[hV1 i hj]at hi;cases hi
 have Zcr:∀j o,hid j->h.get j=some o->w'.heap[(σ j).b]?=w.heap[(σ j).b]?:=fun j o hj ho=>by
  cases hm:Uf o with
  |true=>exact Zaru j o hj ho hm
  |false=>
   cases o with
   |map _=>cases hm
   |loop _ _ _ _=>cases hm
   |row cs e own=>
    obtain⟨_,_,_,_,_,_,_,_,r6⟩:=H.row j cs e own ho;have hb:=r6 hm;refine T.block _ (H.block_lt ho) fun i oi hi hmi _ e=>?_
    have hi':=Zik i oi hi;cases oi with
    |row cs2 e2 Zvc=>
     obtain⟨_,_,_,_,_,_,_,r5,_⟩:=H.row i cs2 e2 Zvc hi';have:=(r5 hmi).2.1;omega
    |map es=>have:=(H.map i es hi').1;omega
    |loop sl ps as bd=>have:=(H.loop i sl ps as bd hi').1;omega
 have Z8x:h.next<=h'.next:=by rw[<- hVn];exact T.next
 have Zgf:∀i o,O.get i=some o->(hid i/\h.get i=some o)\/(¬ hid i/\h'.get i=some o):=fun i o hi=>by
  by_cases hh:hid i
  .exact .inl ⟨hh,by rw[<- hO1 i hh];exact hi⟩
  .exact .inr ⟨hh,by rw[<- hO2 i hh];exact hi⟩
 have Z9d:∀i j oi oj,hid i->h.get i=some oi->Uf oi=true->h'.get j=some oj->Uf oj=true->(σ' j).b=(σ i).b->False:=by
  intro i j oi oj hi hoi hmi hoj hmj he;by_cases hj:j < V.next
  .obtain ⟨o0,x,y⟩:=T.old j oj hj hoj hmj;rw[T.sig j hj]at he;have:=H.inj j i o0 oi (Zik j o0 x) hoi y hmi he;subst this;rw[hV1 j hi]at x;cases x
  .rcases T.new j oj (by omega) hoj hmj with hb | ⟨q,o0,x,y,_,u⟩
   .have:=H.block_lt hoi;omega
   .have:=H.inj q i o0 oi (Zik q o0 x) hoi y hmi (u.symm.trans he);subst this;rw[hV1 q hi]at x;cases x
 refine⟨⟨fun i o hi=>?_,?_,H'.base_,fun i cs e own hi=>?_,fun i es hi=>?_,fun i sl ps as bd hi=>?_,fun i j oi oj hi hj mi mj he=>?_⟩,?_⟩
 .rw [hOn];rcases Zgf i o hi with⟨h1,h2⟩ | ⟨_,h2⟩
  .exact Nat.lt_of_lt_of_le (Zip i h1) Z8x
  .exact H'.lt i o h2
 .rw [hOn];exact H'.glob
 .rw [hOn];rcases Zgf i _ hi with⟨h1,h2⟩ | ⟨_,h2⟩
  .obtain ⟨k1,k2,c,el,fr,k3,k4,k5,k6⟩:=H.row i cs e own h2;rw[<- Zcr i _ h1 h2]at k3;rw[<- Zdw i (Zip i h1)]at k1 k3 k4 k5 k6;refine⟨k1,k2,c,el,fr,k3,fun j v hj=>?_,k5,k6⟩;obtain⟨v',g1,g2⟩:=k4 j v hj;exact⟨v',g1,g2.mono Zdw Z8x⟩
  .exact H'.row i cs e own h2
 .rw [hOn];rcases Zgf i _ hi with⟨h1,h2⟩ | ⟨_,h2⟩
  .obtain ⟨k1,Rk,ck,k2,k3⟩:=H.map i es h2;rw[<- Zcr i _ h1 h2]at k2;rw[<- Zdw i (Zip i h1)]at k1 k2;exact⟨k1,Rk,ck,k2,k3.mono Zdw Z8x⟩
  .exact H'.map i es h2
 .rw [hOn];rcases Zgf i _ hi with⟨h1,h2⟩ | ⟨_,h2⟩
  .obtain ⟨k1,fn,tmps,dfr,k2,k3,k4⟩:=H.loop i sl ps as bd h2;rw[<- Zcr i _ h1 h2]at k2;rw[<- Zdw i (Zip i h1)]at k1 k2;exact⟨k1,fn,tmps,dfr,k2,k3.mono Zdw Z8x,k4⟩
  .exact H'.loop i sl ps as bd h2
 .rcases Zgf i _ hi with⟨h1,h2⟩ | ⟨h1,h2⟩<;>rcases Zgf j _ hj with⟨k1,k2⟩ | ⟨k1,k2⟩
  .rw [Zdw i (Zip i h1),Zdw j (Zip j k1)]at he;exact H.inj i j oi oj h2 k2 mi mj he
  .rw [Zdw i (Zip i h1)]at he;exact (Z9d i j oi oj h1 h2 mi k2 mj he.symm).elim
  .rw [Zdw j (Zip j k1)]at he;exact (Z9d j i oj oi k1 k2 mj h2 mi he).elim
  .exact H'.inj i j oi oj h2 k2 mi mj he
 .refine ⟨Zdw,by rw[hOn];exact Z8x,hOw1,fun i o hi ho hm=>?_,fun i o hi ho hm=>?_,fun i hi hw=>?_,T.os,T.tape,T.output,T.size,fun b hb hc=>?_⟩
  .rcases Zgf i _ ho with⟨h1,h2⟩ | ⟨h1,h2⟩
   .exact ⟨o,h2,hm⟩
   .obtain ⟨o0,x,y⟩:=T.old i o (by rw[hVn];exact hi) h2 hm;exact⟨o0,Zik i o0 x,y⟩
  .rcases Zgf i _ ho with⟨h1,h2⟩ | ⟨h1,h2⟩
   .have:=Zip i h1;omega
   .rcases T.new i o (by rw[hVn];exact hi) h2 hm with hb | ⟨j,o0,x,y,z,u⟩
    .exact .inl hb
    .exact .inr ⟨j,o0,Zik j o0 x,y,Nat.le_trans hOw2 z,u⟩
  .by_cases hh:hid i
   .exact hO1 i hh
   .rw [hO2 i hh,T.same i (by rw[hVn];exact hi) (Nat.lt_of_lt_of_le hw hOw2),hV2 i hh]
  .exact T.block b hb fun i o hi hm hw=>hc i o (Zik i o hi) hm (Nat.le_trans hOw2 hw)
end
def SlL (Ud:SL)(st:DSt)(L:Nat->Bool)(d:Nat)(v:Value):Prop:=
 (∃(j:Nat) (r:Rec),L j=true/\rcd st j=some r/\r.o.dst=some d/\r.v=v)\/((∀(j:Nat) (r:Rec),L j=true->rcd st j=some r->r.o.dst≠some d)/\Xg Ud d=some v)
structure At (G:Nat)(B M:Nat)(masks:Array Nat)(st:DSt)(Ud:SL)(h0:VH)(σ0:Nat->Blk)(w0:World)(a0:Act)(base n:Nat)(L:Nat->Bool)(k:Nat)(S:VH)(σ:Nat->Blk)(w:World)(a:Act):Prop where
 stage:stg st k=some S
 big:M<=S.next
 low:S.wr<=S.next
 wr:∀(c:Nat) (r:Rec),rcd st c=some r->r.kind=3->(L c=true↔r.k < k)
 hr:HR G σ (X5 B M L S) w base
 dead:∀j,j < n->L j=false->(σ (B+j)).live=false
 sl:∀d v,SlL Ud st L d v->∃v',a.tmps[d]?=some v'/\VR σ S.next v v'
 tr:TR σ0 h0 w0 σ (X5 B M L S) w
 size:a.tmps.size=a0.tmps.size
 dfr:a.defers=a0.defers
 down:∀i,L i=true->∀j,(masks.getD i 0).testBit j=true->L j=true
section
variable {P:Program}{C:Ctx}{cf yf:Nat->List Value->VH->Option (Value×VH)}{B M:Nat}{ops:Array Oper}{st:DSt}{Ud:SL}{h0:VH}{σ0 σ:Nat->Blk}{w0 w:World}{a0 a:Act}{base:Nat}{k:Nat}{S:VH}
theorem Zu0 {L L':Nat->Bool}{i:Nat}(hn:S.get (B+i)=none)(hL:∀x,x≠i->L' x=L x):X5 B M L' S=X5 B M L S:=by
 have:(X5 B M L' S).get=(X5 B M L S).get:=by
  funext x;rw[We,We];by_cases hx:B<=x/\x < M
  .rw [if_pos hx,if_pos hx];by_cases e:x - B=i
   .have:x=B+i:=by omega
    subst this;simp[hn]
   .rw [hL _ e]
  .rw [if_neg hx,if_neg hx]
 simp only[X5]at this ⊢;rw[this]
theorem SlL.add {L L':Nat->Bool}{i d:Nat}{v:Value}{r:Rec}(hL':L' i=true)(hL:∀x,x≠i->L' x=L x)(hi:L i=false)(hr:rcd st i=some r)
  (Zy9:∀j q,rcd st j=some q->j≠i->q.o.dst=some d->r.o.dst≠some d) (h:SlL Ud st L' d v):(r.o.dst=some d/\v=r.v)\/(r.o.dst≠some d/\SlL Ud st L d v):=by
 by_cases hd:r.o.dst=some d
 .refine .inl ⟨hd,?_⟩;rcases h with⟨j,q,h1,h2,h3,h4⟩ | ⟨h1,h2⟩
  .by_cases e:j=i
   .subst e;rw[hr]at h2;cases h2;exact h4.symm
   .exact absurd hd (Zy9 j q h2 e h3)
  .exact absurd hd (h1 i r hL' hr)
 .refine .inr ⟨hd,?_⟩;rcases h with⟨j,q,h1,h2,h3,h4⟩ | ⟨h1,h2⟩
  .by_cases e:j=i
   .subst e;rw[hr]at h2;cases h2;exact absurd h3 hd
   .exact .inl ⟨j,q,by rw[<- hL j e];exact h1,h2,h3,h4⟩
  .refine .inr ⟨fun j q hj hq=>h1 j q ?_ hq,h2⟩;by_cases e:j=i
   .rw [e];exact hL'
   .rw [hL j e];exact hj
theorem At.more (hC:COk C P)(hcf:Zb0 C P cf)(hyf:YfSound C P yf)(hp:PInv C cf yf B M ops.toList (Region.before ops) h0 Ud ops.size st)(hM:M=B+ops.size)(hB:B=h0.next)(hG:C.G<=B)
  (hs:S7 ops.toList (Region.before ops)=true) (hw:Zca (Region.before ops) st.recs.reverse.zipIdx=true) (hrd:Zhw C cf yf B M (Region.before ops) st.recs.reverse.zipIdx st.hs.reverse.zipIdx=true) (Ro:Zvi a0.tmps.size ops)
  {L:Nat->Bool} (A:At C.G B M (Region.before ops) st Ud h0 σ0 w0 a0 base ops.size L k S σ w a) {i:Nat} {o:Oper} (hi:ops[i]?=some o) (hLi:L i=false) (Zg2:∀j,((Region.before ops).getD i 0).testBit j=true->L j=true)
  {L':Nat->Bool} (hL':L' i=true) (hL:∀x,x≠i->L' x=L x) (b:Frame) (rest:List Nat) (kk:List Item) (cs:List Frame):
  ∃k' S' σ' w' a',At C.G B M (Region.before ops) st Ud h0 σ0 w0 a0 base ops.size L' k' S' σ' w' a'/\Steps P (lone (b.atR a (.inRegion ops (i::rest)::kk)) cs w) (lone (b.atR a' (.inRegion ops rest::kk)) cs w'):=by
 have W1:i < ops.size:=(Array.getElem?_eq_some_iff.1 hi).1;have hrec:∃r,rcd st i=some r:=⟨st.recs.reverse[i]'(by simp[hp.len];exact W1),List.getElem?_eq_getElem _⟩
 obtain⟨r,hr⟩:=hrec;obtain⟨X7,hpk,hF⟩:=hp.op i r hr
 have ho:r.o=o:=by
  have:ops.toList[i]?=some o:=by simpa using hi
  rw[this]at X7;exact (Option.some.inj X7).symm
 have hali:ops.toList[i]?=some o:=by simpa using hi
 have hLL:∀x,L x=true->L' x=true:=fun x hx=>by
  by_cases e:x=i
  .rw [e];exact hL'
  .rw [hL x e];exact hx
 have Z1q:∀x,L' x=true->∀j,((Region.before ops).getD x 0).testBit j=true->L' j=true:=fun x hx j hj=>by
  by_cases e:x=i
  .subst e;exact hLL j (Zg2 j hj)
  .rw [hL x e]at hx;exact hLL j (A.down x hx j hj)
 have Zy9:∀d j q,rcd st j=some q->j≠i->q.o.dst=some d->r.o.dst≠some d:=fun d j q hq Yi hd=>by
  rw[ho];exact (Zc4 hs hali (hp.op j q hq).1 (fun e=>Yi e.symm) hd).1
 have hSR:SR σ S.next r.pk a.tmps:=fun d v hv=>by
  obtain⟨Z81,hsl⟩:=hpk d v hv;rw[ho]at Z81;refine A.sl d v ?_;rcases hsl with⟨j,q,h1,h2,h3,h4⟩ | ⟨h1,h2⟩
  .exact .inl ⟨j,q,Zg2 j (((Zc4 hs hali (hp.op j q h2).1 (by omega) h3).2 Z81).1 h1),h2,h3,h4⟩
  .refine .inr ⟨fun j q hj hq hd=>?_,h2⟩;rcases Nat.lt_trichotomy j i with hlt | heq | hgt
   .exact h1 j q hlt hq hd
   .rw [heq,hLi]at hj;cases hj
   .have:=((Zc4 hs hali (hp.op j q hq).1 (by omega) hd).2 Z81).2 hgt;have:=A.down j hj i this;rw[hLi]at this;cases this
 have Zsd:∀ {σ':Nat->Blk} {n':Nat} {v':Value},(∀x,Lv σ S.next x->σ' x=σ x)->S.next<=n'->VR σ' n' r.v v'->∀d v,SlL Ud st L' d v->∃u,(a.put o.dst v').tmps[d]?=some u/\VR σ' n' v u:=by
  intro σ' n' v' hσ hn hv d v hd;rcases SlL.add hL' hL hLi hr (Zy9 d) hd with⟨h1,h2⟩ | ⟨h1,h2⟩
  .rw [ho]at h1;have hlt:d < a.tmps.size:=by rw[A.size];exact Ro i o d hi h1
   refine⟨v',?_,by rw[h2];exact hv⟩;simp only[Act.put,h1];simp[hlt]
  .rw [ho]at h1;obtain⟨u,g1,g2⟩:=A.sl d v h2;refine⟨u,?_,g2.mono' hσ hn⟩;cases hdo:o.dst with
   |none=>exact g1
   |some e=>
    simp only[Act.put];rw[Array.getElem?_setIfInBounds_ne (fun ee=>h1 (by rw[hdo,ee]))];exact g1
 have Z1r:∀ {σ':Nat->Blk},(∀x,x < S.next->x≠B+i->σ' x=σ x)->∀j,j < ops.size->L' j=false->(σ' (B+j)).live=false:=fun hσ j hj hLj=>by
  have Yi:j≠i:=fun e=>by rw[e,hL']at hLj;cases hLj
  have:=A.big;rw[hσ (B+j) (by omega) (by omega)];exact A.dead j hj (by rw[<- hL j Yi];exact hLj)
 have Zfo:∀v',(a.put o.dst v').tmps.size=a0.tmps.size:=fun v'=>(Zeg _ _ _).trans A.size
 have Zil:∀v',(a.put o.dst v').defers=a0.defers:=fun v'=>(Zgt _ _ _).trans A.dfr
 have Zky:r.kind≠1->S.get (B+i)=none:=fun h1=>by
  refine hp.nothing k S (B+i) A.stage (by omega) (by omega) ?_;rw[Nat.add_sub_cancel_left];cases e:st.made.testBit i
  .rfl
  .obtain ⟨q,g1,g2⟩:=(hp.made i).1 e;rw[hr]at g1;cases g1;exact absurd g2 h1
 have hwr:r.kind≠3->∀(c:Nat) (q:Rec),rcd st c=some q->q.kind=3->(L' c=true↔q.k < k):=fun h3 c q hq hq3=>by
  have Yi:c≠i:=fun e=>by
   subst e;rw[hr]at hq;cases hq;exact h3 hq3
  rw[hL c Yi];exact A.wr c q hq hq3
 have Zahl:∀(c:Nat) (q:Rec),rcd st c=some q->q.kind=3->q.k < k->((Region.before ops).getD c 0).testBit i=false:=fun c q hq h3 hlt=>by
  cases e:((Region.before ops).getD c 0).testBit i
  .rfl
  .have:=A.down c ((A.wr c q hq h3).2 hlt) i e;rw[hLi]at this;cases this
 rcases hF with⟨hk0,Zv1,hv0⟩ | ⟨Zv1,hF⟩
 ·
  rw[ho]at Zv1;have hwf:=Qc hSR Zv1;have s1:=stepR_op_skip (P:=P) (b:=b) (a:=a) (k:=kk) (cs:=cs) (w:=w) (ops:=ops) (i:=i) (rest:=rest) (by simp[hi,hwf]);simp only[hi,Option.bind_some]at s1;have heq:X5 B M L' S=X5 B M L S:=Zu0 (Zky (by omega)) hL;refine⟨k,S,σ,w,a.put o.dst undef,⟨A.stage,A.big,A.low,hwr (by omega),by rw[heq];exact A.hr,Z1r (fun _ _ _=>rfl),Zsd (fun _ _=>rfl) (Nat.le_refl _) (by rw[hv0];exact .tuple _ _ .nil),by rw[heq];exact A.tr,Zfo _,Zil _,Z1q⟩,.one s1⟩
 .rw [ho]at Zv1;have hwt:=Qc hSR Zv1;rcases hF with⟨hk1,sh,ob,hm,hv1,hat⟩ | ⟨Zv3,hF⟩
  ·
   rw[ho]at hm;have hSR':SR σ (X5 B M L S).next r.pk a.tmps:=hSR;obtain⟨Zad3,σ1,w1,v',Y6,hh⟩:=Zyz (P:=P) hC.T A.hr hSR' hm;have Ts:S.get (B+i)=some ob:=hat k S A.stage Zahl;have Zez:=A.big
   have hgn:(X5 B M L S).get (B+i)=none:=by
    rw[We,if_pos ⟨by omega,by omega⟩,Nat.add_sub_cancel_left,hLi];rfl
   obtain⟨σ2,H2,V2,T2,e1,e2⟩:=A.hr.renew hh Zad3 (j:=B+i) (show B+i < S.next by omega) (by omega) (A.dead i W1 hLi) hgn A.tr (by omega)
   have heq:X5 B M L' S=(X5 B M L S).put (B+i) (some ob):=by
    have:(X5 B M L' S).get=((X5 B M L S).put (B+i) (some ob)).get:=by
     funext x;rw[We,VH.put_get,We];by_cases hx:x=B+i
     .subst hx;rw[if_pos ⟨by omega,by omega⟩,Nat.add_sub_cancel_left,if_pos hL',if_pos rfl,Ts]
     .rw [if_neg hx];by_cases hr:B<=x/\x < M
      .rw [if_pos hr,if_pos hr,hL (x - B) (by omega)]
      .rw [if_neg hr,if_neg hr]
    simp only[X5,VH.put]at this ⊢;rw[this]
   have hg:=stepGR_op (P:=P) (b:=b) (a:=a) (k:=kk) (cs:=cs) (w:=w) (rest:=rest) hi hwt
   have Xa:∀v,(b.atR a (.inRegion ops (i::rest)::kk)).finish v=b.atR (a.put o.dst v) (.inRegion ops rest::kk):=by
    intro v;rw[Frame.finish_atR,hi];rfl
   rw[Oper.semAt_eq _ _ _ (fun c hc=>by simp[Qp,hc]at hm)]at hg
   have s1:step P (lone (b.atR a (.inRegion ops (i::rest)::kk)) cs w)=.next (lone (b.atR (a.put o.dst v') (.inRegion ops rest::kk)) cs w1):=by
    refine step_lone_go ?_;rw[hg,<- Xa];simp[stepG.apply,Y6]
   refine⟨k,S,σ2,w1,a.put o.dst v',⟨A.stage,A.big,A.low,hwr (by omega),by rw[heq];exact H2,Z1r (fun x _ hx=>e2 x hx),Zsd (n':=S.next) e1 (Nat.le_refl _) (by rw[hv1];exact V2),by rw[heq];exact T2,Zfo _,Zil _,Z1q⟩,.one s1⟩
  ·
   have hvL:∀x,r.vis.testBit x=true->L x=true:=fun x hx=>Zg2 x ((Zv3 x).1 hx).1
   have hvi:r.vis.testBit i=false:=by
    cases e:r.vis.testBit i
    .rfl
    .have:=((Zv3 i).1 e).2.1;omega
   have Z9o:∀x,(view B M r.vis S).get x=if B<=x/\x < M then (if r.vis.testBit (x - B)=true then S.get x else none) else S.get x:=fun x=>We _ _ _
   have HV:HR C.G σ (view B M r.vis S) w base:=A.hr.sub rfl fun x ob hx=>by
    rw[Z9o]at hx;rw[We];by_cases hr:B<=x/\x < M
    .rw [if_pos hr]at hx ⊢;by_cases hb:r.vis.testBit (x - B)=true
     .rw [if_pos hb]at hx;rw[if_pos (hvL _ hb)];exact hx
     .rw [if_neg hb]at hx;cases hx
    .rw [if_neg hr]at hx ⊢;exact hx
   let hid:Nat->Prop:=fun x=>(B<=x/\x < M)/\¬ r.vis.testBit (x - B)=true
   have hV1:∀x,hid x->(view B M r.vis S).get x=none:=fun x hx=>by rw[Z9o,if_pos hx.1,if_neg hx.2]
   have hV2:∀x,¬ hid x->(view B M r.vis S).get x=(X5 B M L S).get x:=fun x hx=>by
    rw[Z9o,We];by_cases hr:B<=x/\x < M
    .have hb:r.vis.testBit (x - B)=true:=Classical.byContradiction fun hb=>hx ⟨hr,hb⟩
     rw[if_pos hr,if_pos hr,if_pos hb,if_pos (hvL _ hb)]
    .rw [if_neg hr,if_neg hr]
   have Zez:=A.big;have Zip:∀x,hid x->x < (X5 B M L S).next:=fun x hx=>Nat.lt_of_lt_of_le hx.1.2 Zez
   have hSRv:SR σ (view B M r.vis S).next r.pk a.tmps:=hSR;rcases hF with⟨hk2,S1,h1',f1,f2,f3,f4⟩ | ⟨hk3,S1,S2,h1',f1,f2,f3,f4,f5,f6⟩
   ·
    have hex:∃h',Xu C cf yf r.pk (view B M r.vis S) r.o=some (r.v,h')/\h'.next=S.next/\h'.wr=S.next:=by
     by_cases e:k=r.k
     .have:S1=S:=by
       have:=A.stage;rw[e,f1]at this;exact Option.some.inj this
      rw[this]at f2 f3 f4;exact⟨h1',f2,f3,f4⟩
     .refine Z61 hrd hr hk2 A.stage e (Z0g fun c q hq h3=>⟨fun hb=>?_,fun hb=>?_⟩)
      .exact (A.wr c q hq h3).1 (Zg2 c hb)
      .rcases Nat.lt_or_ge q.k k with hlt | hge
       .rw [Zahl c q hq h3 hlt]at hb;cases hb
       .exact hge
    obtain⟨h',g1,g2,g3⟩:=hex;rw[ho]at g1;obtain⟨σ1,w1,v',s1,hh⟩:=Zr5 hC hcf hyf b kk cs rest HV hSRv hi hwt g1;have heq:X5 B M L' S=X5 B M L S:=Zu0 (Zky (by omega)) hL
    have hgn:∀x,¬ hid x->(X5 B M L S).get x=h'.get x:=fun x hx=>by
     rw[<- hV2 x hx];rcases Nat.lt_or_ge x S.next with hlt | hge
     .exact (hh.tr.same x hlt (by rw[g3];exact hlt)).symm
     .cases e1:(view B M r.vis S).get x with
      |some ob=>have:=HV.lt x ob e1;change x < S.next at this;omega
      |none=>
       cases e2:h'.get x with
       |some ob=>have:=hh.hr.lt x ob e2;omega
       |none=>rfl
    have hlow:S.wr<=h'.wr:=by rw[g3];exact A.low
    obtain⟨H2,T2⟩:=frame (V:=view B M r.vis S) (O:=X5 B M L S) A.hr hid rfl hV1 hV2 Zip hh.hr hh.tr g2.symm (Nat.le_refl _) hlow (fun _ _=>rfl) hgn;have hv:VR σ1 S.next r.v v':=by have:=hh.vr;rw[g2]at this;exact this
    refine⟨k,S,σ1,w1,a.put o.dst v',⟨A.stage,A.big,A.low,hwr (by omega),by rw[heq];exact H2,Z1r (fun x hx _=>hh.tr.sig x hx),Zsd (fun x hx=>hh.tr.sig x hx.1) (Nat.le_refl _) hv,by rw[heq];exact A.tr.trans T2,Zfo _,Zil _,Z1q⟩,s1⟩
   ·
    have hrk:r.k=k:=by
     have h1:¬ r.k < k:=fun hlt=>by
      have:=(A.wr i r hr hk3).2 hlt;rw[hLi]at this;cases this
     rcases Nat.lt_or_ge k r.k with hlt | hge
     .obtain ⟨c,q,q1,q2,q3⟩:=hp.wk k (Nat.lt_trans hlt (hp.wb i r hr hk3))
      have Yi:c≠i:=fun e=>by
       subst e;rw[hr]at q1;cases q1;omega
      rcases Zhg hw q1 hr q2 hk3 Yi with⟨_,hb⟩ | ⟨Zpm,_⟩
      .have:=(A.wr c q q1 q2).1 (Zg2 c hb);omega
      .omega
     .omega
    have hS1:S1=S:=by
     have:=A.stage;rw[<- hrk,f1]at this;exact Option.some.inj this
    subst hS1;rw[ho]at f3;obtain⟨σ1,w1,v',s1,hh⟩:=Zr5 hC hcf hyf b kk cs rest HV hSRv hi hwt f3
    have hO1:∀x,hid x->(X5 B M L' S2).get x=(X5 B M L S1).get x:=fun x hx=>by
     have hov:S2.get x=S1.get x:=by
      rw[f6,over_get,if_pos ⟨hx.1.1,hx.1.2,by cases e:r.vis.testBit (x - B)<;>first | rfl | exact absurd e hx.2⟩]
     rw[We,We,if_pos hx.1,if_pos hx.1];by_cases e:x - B=i
     .have hxi:x=B+i:=by have:=hx.1.1;omega
      have hn:=Zky (by omega);rw[<- hxi]at hn;rw[hov,hn];simp
     .rw [hL _ e,hov]
    have hO2:∀x,¬ hid x->(X5 B M L' S2).get x=h1'.get x:=fun x hx=>by
     rw[We];by_cases hr':B<=x/\x < M
     .have hb:r.vis.testBit (x - B)=true:=Classical.byContradiction fun hb=>hx ⟨hr',hb⟩
      rw[if_pos hr',if_pos (hLL _ (hvL _ hb)),f6,over_get,if_neg (fun hh=>by rw[hh.2.2]at hb;cases hb)]
     .rw [if_neg hr',f6,over_get,if_neg (fun hh=>hr' ⟨hh.1,hh.2.1⟩)]
    obtain⟨H2,T2⟩:=frame (V:=view B M r.vis S1) (O:=X5 B M L' S2) A.hr hid rfl hV1 hV2 Zip hh.hr hh.tr f4 (by show S2.wr<=S1.wr;rw[f5];exact Nat.min_le_left _ _) (by show S2.wr<=h1'.wr;rw[f5];exact Nat.min_le_right _ _) hO1 hO2;have Z84:S1.next<=S2.next:=by rw[f4];exact hh.tr.next
    have hv:VR σ1 S2.next r.v v':=by rw[f4];exact hh.vr
    refine⟨k+1,S2,σ1,w1,a.put o.dst v',⟨by rw[<- hrk];exact f2,Nat.le_trans Zez Z84,by rw[f5];exact Nat.le_trans (Nat.min_le_left _ _) (Nat.le_trans A.low Z84),fun c q hq hq3=>?_,H2,Z1r (fun x hx _=>hh.tr.sig x hx),Zsd (fun x hx=>hh.tr.sig x hx.1) Z84 hv,A.tr.trans T2,Zfo _,Zil _,Z1q⟩,s1⟩;by_cases e:c=i
    .subst e;rw[hr]at hq;cases hq;exact⟨fun _=>by omega,fun _=>hL'⟩
    .rw [hL c e,A.wr c q hq hq3];rcases Zhg hw hq hr hq3 hk3 e with⟨h1,_⟩ | ⟨h1,_⟩
     .exact ⟨fun _=>by omega,fun _=>by omega⟩
     .exact ⟨fun _=>by omega,fun _=>by omega⟩
end
def unl (L:Nat->Bool):List Nat->Nat
 | []=>0
 |i::r=>(if L i=true then 0 else 1)+unl L r
theorem Zup {L L':Nat->Bool}(h:∀x,L x=true->L' x=true):∀r,unl L' r<=unl L r
 | []=>Nat.le_refl _
 |i::r=>by
  have:=Zup h r;simp only[unl];by_cases hi:L i=true
  .rw [if_pos hi,if_pos (h i hi)];omega
  .rw [if_neg hi];split<;>omega
theorem Zuo {L L':Nat->Bool}(h:∀x,L x=true->L' x=true){i:Nat}(hi:L i=false)(hi':L' i=true):∀r,i∈r->unl L' r+1<=unl L r
 | [],hm=>by cases hm
 |j::r,hm=>by
  simp only[unl];by_cases e:j=i
  .subst e;have:=Zup h r;rw[if_pos hi',if_neg (by simp[hi])];omega
  .have:=Zuo h hi hi' r (by
    cases hm with
    |head=>exact absurd rfl e
    |tail _ hm=>exact hm)
   by_cases hj:L j=true
   .rw [if_pos hj,if_pos (h j hj)];omega
   .rw [if_neg hj];split<;>omega
theorem Zun {L:Nat->Bool}:∀r,unl L r=0->∀i∈r,L i=true
 | [],_,i,hm=>by cases hm
 |j::r,h,i,hm=>by
  simp only[unl]at h
  have h1:L j=true:=by
   cases e:L j
   .rw [e]at h;simp at h
   .rfl
  cases hm with
  |head=>exact h1
  |tail _ hm=>exact Zun r (by rw[if_pos h1]at h;omega) i hm
theorem Z6i (L:Nat->Bool):∀r,unl L r<=r.length
 | []=>Nat.le_refl _
 |i::r=>by
  have:=Z6i L r;simp only[unl,List.length_cons];split<;>omega
section
variable {P:Program}{C:Ctx}{cf yf:Nat->List Value->VH->Option (Value×VH)}{B M:Nat}{ops:Array Oper}{st:DSt}{Ud:SL}{h0:VH}{σ0:Nat->Blk}{w0:World}{a0:Act}{base:Nat}
theorem Zqp (L:Nat->Bool):∀n,(∃i,i < n/\L i=false)->∃i,i < n/\L i=false/\∀j,j < i->L j=true
 | 0,⟨i,hi,_⟩=>by omega
 |n+1,⟨i,hi,hL⟩=>by
  by_cases h:∃i,i < n/\L i=false
  .obtain ⟨i,h1,h2,h3⟩:=Zqp L n h;exact⟨i,by omega,h2,h3⟩
  .refine ⟨i,hi,hL,fun j hj=>?_⟩;cases e:L j
   .exact absurd ⟨j,by omega,e⟩ h
   .rfl
theorem Zvd (hC:COk C P)(hcf:Zb0 C P cf)(hyf:YfSound C P yf)(hp:PInv C cf yf B M ops.toList (Region.before ops) h0 Ud ops.size st)(hM:M=B+ops.size)(hB:B=h0.next)(hG:C.G<=B)
  (hs:S7 ops.toList (Region.before ops)=true) (hw:Zca (Region.before ops) st.recs.reverse.zipIdx=true) (hrd:Zhw C cf yf B M (Region.before ops) st.recs.reverse.zipIdx st.hs.reverse.zipIdx=true) (Ro:Zvi a0.tmps.size ops)
  (b:Frame) (kk:List Item) (cs:List Frame):∀(fuel t:Nat) (listed:Array Bool) {k:Nat} {S:VH} {σ:Nat->Blk} {w:World} {a:Act},listed.size=ops.size->unl (fun i=>listed.getD i false) (List.range ops.size)<=fuel ->
  At C.G B M (Region.before ops) st Ud h0 σ0 w0 a0 base ops.size (fun i=>listed.getD i false) k S σ w a ->
  ∃(L:Nat->Bool) (k':Nat) (S':VH) (σ':Nat->Blk) (w':World) (a':Act),(∀i,i < ops.size->L i=true)/\At C.G B M (Region.before ops) st Ud h0 σ0 w0 a0 base ops.size L k' S' σ' w' a' /\
   Steps P (lone (b.atR a (.inRegion ops (Region.linearise.go .any ops fuel t listed [])::kk)) cs w) (lone (b.atR a' (.inRegion ops []::kk)) cs w'):=by
 intro fuel
 induction fuel with
 |zero=>
  intro t listed k S σ w a hl hu A;exact⟨fun i=>listed.getD i false,k,S,σ,w,a,fun i hi=>Zun (List.range ops.size) (Nat.le_zero.1 hu) i (by simpa using hi),A,.refl P _⟩
 |succ fuel ih=>
  intro t listed k S σ w a hl hu A
  have hgo:Region.linearise.go .any ops (fuel+1) t listed []=(match (Region.ready .any ops listed)[t % (Region.ready .any ops listed).length]? with
   |some i=>Region.linearise.go .any ops fuel (t / (Region.ready .any ops listed).length) (listed.setIfInBounds i true) [i]
   |none=>[].reverse):=rfl
  rw[hgo];cases hi:(Region.ready .any ops listed)[t % (Region.ready .any ops listed).length]? with
  |none=>
   have Zg4:Region.ready .any ops listed=[]:=by
    cases hr:Region.ready .any ops listed with
    |nil=>rfl
    |cons x xs=>
     rw[hr]at hi;have hlt:t % (x::xs).length < (x::xs).length:=Nat.mod_lt _ (by simp);simp at hi;simp at hlt;omega
   refine⟨fun i=>listed.getD i false,k,S,σ,w,a,fun i W1=>?_,A,.refl P _⟩;show listed.getD i false=true;cases e:listed.getD i false
   .exfalso;obtain⟨j,h1,h2,h3⟩:=Zqp (fun i=>listed.getD i false) ops.size ⟨i,W1,e⟩;have X7:ops[j]?=some ops[j]:=Array.getElem?_eq_getElem h1
    have:j∈Region.ready .any ops listed:=by
     rw[mem_ready];refine⟨?_,ops[j],X7,fun e' he hb=>h3 _ (Zmt hs (by simp) he hb)⟩;have h2':listed.getD j false=false:=h2;rw[Array.getD_eq_getD_getElem?]at h2' ⊢;rw[Array.getElem?_eq_getElem (show j < listed.size by omega)]at h2' ⊢;simpa using h2'
    rw[Zg4]at this;cases this
   .rfl
  |some i=>
   have R6:=List.mem_of_getElem? hi;rw[mem_ready]at R6;obtain⟨m1,o,m2,m3⟩:=R6;have W1:i < ops.size:=(Array.getElem?_eq_some_iff.1 m2).1
   have hLi:listed.getD i false=false:=by
    rw[Array.getD_eq_getD_getElem?]at m1 ⊢;rw[Array.getElem?_eq_getElem (show i < listed.size by omega)]at m1 ⊢;simpa using m1
   have hL':(listed.setIfInBounds i true).getD i false=true:=by simp[show i < listed.size by omega]
   have hLne:∀x,x≠i->(listed.setIfInBounds i true).getD x false=listed.getD x false:=fun x hx=>getD_set_ne false (Ne.symm hx)
   have Zg2:∀j,((Region.before ops).getD i 0).testBit j=true->listed.getD j false=true:=fun j hj=>by
    obtain⟨o',g1,e,g2,g3,g4⟩:=Zld ops hj;rw[m2]at g1;cases g1;have:=m3 e g2 g3;rcases g4 with rfl | g4
    .exact this
    .exact A.down e.on this j g4
   obtain⟨k',S',σ',w',a',A',s1⟩:=A.more hC hcf hyf hp hM hB hG hs hw hrd Ro m2 hLi Zg2 (L':=fun x=>(listed.setIfInBounds i true).getD x false) hL' hLne b (Region.linearise.go .any ops fuel (t / (Region.ready .any ops listed).length) (listed.setIfInBounds i true) []) kk cs
   have Zard:∀x,listed.getD x false=true->(listed.setIfInBounds i true).getD x false=true:=fun x hx=>by
    by_cases e:x=i
    .rw [e];exact hL'
    .rw [hLne x e];exact hx
   have hun:=Zuo (L:=fun i=>listed.getD i false) (L':=fun x=>(listed.setIfInBounds i true).getD x false) Zard hLi hL' (List.range ops.size) (by simpa using W1);obtain⟨L,k2,S2,σ2,w2,a2,f1,A2,s2⟩:=ih (t / (Region.ready .any ops listed).length) (listed.setIfInBounds i true) (by simpa using hl) (by omega) A';refine⟨L,k2,S2,σ2,w2,a2,f1,A2,?_⟩;dsimp only;rw[linearise_go_acc,List.reverse_singleton,List.singleton_append];exact s1.trans s2
theorem Z5m (hs:S7 ops.toList (Region.before ops)=true):∀(i j:Nat),((Region.before ops).getD i 0).testBit j=true->j < i:=by
 intro i
 induction i using Nat.strongRecOn with
 |ind i ih=>
  intro j hj;obtain⟨o,h1,e,h2,h3,h4⟩:=Zld ops hj;have hlt:=Zmt hs (by simpa using h1) h2 h3;rcases h4 with rfl | h4
  .exact hlt
  .exact Nat.lt_trans (ih e.on hlt j h4) hlt
def Zbw:Blk:=⟨0,0,0,0,false,false⟩
theorem Zzz (hC:COk C P)(hmix:P.follows .mixedOrders=true):Zrm C P:=by
 intro cf yf hcf hyf ops sl h Yw h' hd t σ w base b a k cs H S Ro;unfold Zi1 at hd;dsimp only at hd;split at hd
 .cases hd
 .rename_i st Zahk;split at hd
  .cases hd
  .rename_i S1 r1 hhs;split at hd
   .rename_i Zey;rw[Bool.and_eq_true,Bool.and_eq_true,Bool.and_eq_true,Nat.ble_eq]at Zey;obtain⟨⟨⟨c1,c2⟩,c3⟩,c4⟩:=Zey;cases hd;have hlen:ops.toList.length=ops.size:=by simp
    rw[hlen]at Zahk c4
    have hp0:PInv C cf yf h.next (h.next+ops.size) ops.toList (Region.before ops) h sl 0 {sl,recs:=[],hs:=[{h with next:=h.next+ops.size}],k:=0,made:=0}:=by
     refine⟨⟨{h with next:=h.next+ops.size},rfl,rfl,rfl,fun _ _=>rfl⟩,rfl,rfl,fun d v hv=>.inr ⟨fun j r hj=>by omega,hv⟩,fun j=>?_,fun j r hj=>?_,fun k S j hS h1 h2 _=>?_,fun k hk=>(by cases hk),fun c r hc=>?_⟩
     .simp [rcd]
     .simp [rcd]at hj
     .cases k with
      |zero=>
       simp[stg]at hS;subst hS;cases e:h.get j with
       |none=>rfl
       |some o=>have:=H.lt j o e;omega
      |succ k=>simp[stg]at hS
     .simp [rcd]at hc
    have hp:=PInv.pass ops.toList 0 hp0 rfl (by rw[hlen];exact Nat.le_refl _) (fun j hj=>by
     cases e:((Region.before ops).getD j 0).testBit j
     .rfl
     .have:=Z5m c2 j j e;omega) Zahk
    rw[hlen]at hp
    have Zaj2:Region.schedule (P.follows .mixedOrders) ops t=Region.linearise.go .any ops ops.size t (Array.replicate ops.size false) []:=by
     simp only[Region.schedule,hmix,Bool.true_or,if_true];rfl
    rw[Zaj2];obtain⟨S0,f1,f2,f3,f4⟩:=hp.first
    have Z87:∀x o,(X5 h.next (h.next+ops.size) (fun i=>(Array.replicate ops.size false).getD i false) S0).get x=some o->h.get x=some o:=fun x o hx=>by
     rw[We]at hx;by_cases hr:h.next<=x/\x < h.next+ops.size
     .rw [if_pos hr]at hx;by_cases hh:x - h.next < ops.size
      .simp [hh]at hx
      .omega
     .rw [if_neg hr,f4 x hr]at hx;exact hx
    have Zdw:∀i,i < h.next->(fun j=>if j < h.next then σ j else Zbw) i=σ i:=fun i hi=>by simp[hi]
    have A0:At C.G h.next (h.next+ops.size) (Region.before ops) st sl h σ w a base ops.size (fun i=>(Array.replicate ops.size false).getD i false) 0 S0 (fun j=>if j < h.next then σ j else Zbw) w a:=by
     refine⟨f1,by omega,by omega,fun c r _ _=>?_,H.widen Zdw (by show h.next<=S0.next;omega) Z87,fun j hj _=>?_,fun d v hv=>?_,?_,rfl,rfl,fun i hi=>?_⟩
     .constructor
      .intro hh;by_cases hc:c < ops.size<;>simp[hc]at hh
      .intro hh;omega
     .show (if h.next+j < h.next then σ (h.next+j) else Zbw).live=false;rw[if_neg (by omega)];rfl
     .rcases hv with⟨j,r,h1,_⟩ | ⟨_,h2⟩
      .by_cases hc:j < ops.size<;>simp[hc]at h1
      .obtain ⟨v',g1,g2⟩:=S d v h2;exact⟨v',g1,g2.mono Zdw (by omega)⟩
     .refine ⟨Zdw,by show h.next<=S0.next;omega,by show S0.wr<=h.wr;omega,fun i o hi ho hm=>⟨o,Z87 i o ho,hm⟩,fun i o hi ho hm=>?_,fun i hi hw=>?_,rfl,rfl,rfl,Nat.le_refl _,fun _ _ _=>rfl⟩
      .have:=H.lt i o (Z87 i o ho);omega
      .rw [We,if_neg (by omega)];exact f4 i (by omega)
     .by_cases hc:i < ops.size<;>simp[hc]at hi
    obtain⟨L,k',S',σ',w',a',g1,A',s1⟩:=Zvd hC hcf hyf hp rfl rfl (H.glob.1) c2 c3 c4 Ro b k cs ops.size t (Array.replicate ops.size false) (by simp) (by simpa using Z6i (fun i=>(Array.replicate ops.size false).getD i false) (List.range ops.size)) A0
    have hk:k'=st.k:=by
     have h1:=Zyc A'.stage;have h2:=hp.hlen;rcases Nat.lt_or_ge k' st.k with hlt | hge
     .obtain ⟨c,r,q1,q2,q3⟩:=hp.wk k' hlt;have:=(A'.wr c r q1 q2).1 (g1 c (Zc6 hp.len q1));omega
     .omega
    have hS':S'=h':=by
     have h1:=Zuv hhs;have h2:=hp.hlen;rw[hhs]at h2;simp only[List.length_cons]at h2;have h3:=A'.stage;rw[hk,show st.k=r1.length by omega,h1]at h3;exact (Option.some.inj h3).symm
    rw[hS']at A'
    have hre:X5 h.next (h.next+ops.size) L h'=h':=by
     have:(X5 h.next (h.next+ops.size) L h').get=h'.get:=by
      funext x;rw[We];by_cases hr:h.next<=x/\x < h.next+ops.size
      .rw [if_pos hr,if_pos (g1 _ (by omega))]
      .rw [if_neg hr]
     simp only[X5]at this ⊢;rw[this]
    have Hf:=A'.hr;have Tf:=A'.tr;rw[hre]at Hf Tf;refine⟨σ',w',a',s1,Hf,fun d v hv=>A'.sl d v ?_,Tf,A'.size,A'.dfr⟩;rcases hp.sl d v hv with⟨j,r,h1,h2,h3⟩ | ⟨h1,h2⟩
    .exact .inl ⟨j,r,g1 j h1,h2,h3⟩
    .exact .inr ⟨fun j r _ hr=>h1 j r (Zc6 hp.len hr) hr,h2⟩
   .cases hd
end
structure Sound (C:Ctx)(P:Program):Prop where
 ok:COk C P
 code:∀f fn c,C.F f=some fn->fn.body=some c->Wa fn.ntmps c=true
 mix:P.follows .mixedOrders=true
theorem call_sound {C:Ctx}{P:Program}(hS:Sound C P)(n:Nat):Zb0 C P (call C n):=
 Zlb hS.ok hS.code (Zzx hS.ok hS.code (Zzz hS.ok hS.mix) n true)
def VH.none:VH:={next:=0,get:=fun _=>Option.none,wr:=0}
theorem HR.none (w:World):HR 0 (fun _=>Zbw) VH.none w 0 where
 lt:=fun i o h=>by cases h
 glob:=⟨Nat.le_refl _,fun g hg=>by omega⟩
 base_:=Nat.zero_le _
 row:=fun i cs e own h=>by cases h
 map:=fun i es h=>by cases h
 loop:=fun i sl ps as bd h=>by cases h
 inj:=fun i j oi oj h=>by cases h
theorem Zz6 {C:Ctx}{P:Program}(hS:Sound C P)(hG:C.G=0){n f:Nat}{args:List Value}{v:Value}{h':VH}(he:call C n f args VH.none=some (v,h'))(ha:args.all (flat 4)=true)(hv:flat 4 v=true):
  Enters P f/\∀w,Calls P f args.toArray w fun e w'=>e=.returned v/\Below w.heap.size w w':=by
 obtain⟨hen,hgo⟩:=call_sound hS n f args VH.none v h' he;refine⟨hen,fun w cs=>?_⟩;have H:HR C.G (fun _=>Zbw) VH.none w 0:=by rw[hG];exact HR.none w
 obtain⟨σ',w',v',fr,s,Rn,hl,hh⟩:=hgo (fun _=>Zbw) w 0 args.toArray H (VRs.of_flat 4 _ ha) cs;have hvv:v'=v:=hh.vr.eq_of_flat 4 hv;subst hvv;exact⟨.returned v',w',fr,⟨rfl,hh.tr.os,hh.tr.tape,hh.tr.output,hh.tr.size,fun b hb=>hh.tr.block b hb fun i o hi=>by cases hi⟩,s,Rn,hl⟩
theorem Sound.of {C:Ctx}{P:Program}(n:Nat)(hT:(List.range n).all (fun t=>match C.T t with | some ty=>tyB P t ty | none=>true)=true)(hTn:∀t,n<=t->C.T t=Option.none)(hF:∀f,C.F f=P.funcs[f]?)
  (hn : P.funcs.toList.all (fun fn => !(fn.name == "runtime.NumGoroutine")) = true) (hc : P.funcs.toList.all (fun fn => match fn.body with | some c => Wa fn.ntmps c | none => true) = true) (Vx : ∀ f a, C.ext f a = Option.none) (hmix : P.follows .mixedOrders = true) : Sound C P := by
 have R6:∀f fn,C.F f=some fn->P.funcs[f]?=some fn/\fn∈P.funcs.toList:=fun f fn h=>by
  rw[hF]at h;exact⟨h,Array.mem_toList_iff.2 (Array.mem_of_getElem? h)⟩
 refine⟨⟨fun t ty ht=>?_,fun f fn h=>?_,fun f a v h=>by rw[Vx]at h;cases h⟩,fun f fn c h hb=>?_,hmix⟩
 .rcases Nat.lt_or_ge t n with hlt | hge
  .have:=List.all_eq_true.1 hT t (by simpa using hlt);rw[ht]at this;exact TyOk.of this
  .rw [hTn t hge]at ht;cases ht
 .obtain ⟨h1,h2⟩:=R6 f fn h;have:=List.all_eq_true.1 hn fn h2;exact⟨h1,by simpa using this⟩
 .obtain ⟨_,h2⟩:=R6 f fn h;have:=List.all_eq_true.1 hc fn h2;rw[hb]at this;exact this
theorem Sound.more {C:Ctx}{P:Program}(hS:Sound C P)(e:Nat->List Value->Option Value)
  (he:∀f args v,e f args=some v->Enters P f/\args.all (flat 4)=true/\flat 4 v=true/\∀w,Calls P f args.toArray w fun e w'=>e=.returned v/\Below w.heap.size w w'):Sound {C with ext:=e} P:=
 ⟨⟨hS.ok.T,hS.ok.F,he⟩,hS.code,hS.mix⟩
end Go.Virt
end
section
namespace Go.Virt
open Go
def Vy (h h':VH):Prop:=h.next<=h'.next/\h'.wr<=h.wr/\∀q,q < h.next->q < h'.wr->h'.get q=h.get q
theorem Vy.refl (h:VH):Vy h h:=⟨Nat.le_refl _,Nat.le_refl _,fun _ _ _=>rfl⟩
theorem Vy.trans {a b c:VH}(h:Vy a b)(k:Vy b c):Vy a c:=⟨Nat.le_trans h.1 k.1,Nat.le_trans k.2.1 h.2.1,fun q h1 h2=>(k.2.2 q (Nat.lt_of_lt_of_le h1 h.1) h2).trans (h.2.2 q h1 (Nat.lt_of_lt_of_le h2 k.2.1))⟩
theorem nbq {a b:Nat}(h:a≠b):Nat.beq a b=false:=by
 cases e:Nat.beq a b
 .rfl
 .exact absurd (Nat.eq_of_beq_eq_true e) h
theorem Vy.new (h:VH)(o:VO):Vy h (h.new o):=⟨Nat.le_succ _,Nat.le_refl _,fun q h1 _=>by simp[VH.new,nbq (show q≠h.next by omega)]⟩
theorem Vy.put (h:VH)(i:Nat)(o:Option VO):Vy h ((h.put i o).note i):=⟨Nat.le_refl _,Nat.min_le_left _ _,fun q _ h2=>by
 have:q < i:=Nat.lt_of_lt_of_le h2 (Nat.min_le_right _ _);simp[VH.note,VH.put,nbq (show q≠i by omega)]⟩
theorem Vy.store {h h':VH}{a:Addr}{vs:List Value}(he:h.store a vs=some h'):Vy h h':=by
 unfold VH.store at he;split at he
 .split at he
  .split at he
   .cases he;exact Vy.put _ _ _
   .cases he
  .cases he
 .cases he
theorem Vy.append {h:VH}{ty:Ty}{s x:Value}{r:Value×VH}(he:Ux h ty s x=some r):Vy h r.2:=by
 unfold Ux at he;split at he
 .split at he
  .split at he
   .split at he<;>cases he
    .exact .refl _
    .exact .new _ _
   .split at he
    .split at he
     .cases he;exact (Vy.put _ _ _).trans (Vy.new _ _)
     .cases he
    .cases he
  .cases he
 .cases he
theorem Vy.appends {h:VH}{ty tx:Ty}{s x:Value}{r:Value×VH}(he:Td h ty tx s x=some r):Vy h r.2:=by
 unfold Td at he;split at he
 .split at he
  .split at he
   .split at he<;>cases he
    .exact .refl _
    .exact .new _ _
   .cases he
  .cases he
 .split at he
  .split at he
   .exact Vy.append he
   .cases he
  .exact Vy.append he
def Zbi (cf:Nat->List Value->VH->Option (Value×VH)):Prop:=∀f args h r,cf f args h=some r->Vy h r.2
section
variable {C:Ctx}{cf yf:Nat->List Value->VH->Option (Value×VH)}
theorem Vy.call (hc:Zbi cf)(hy:Zbi yf){sl:SL}{h:VH}{c:Call}{r:Value×VH}(he:Tc C cf yf sl h c=some r):Vy h r.2:=by
 unfold Tc at he;split at he
 .cases he
 .rename_i args Xz;cases Wt:c.callee with
  |invoke a b=>simp only[Wt]at he;cases he
  |value f=>
   simp only[Wt]at he;split at he
   .exact hc _ _ _ _ he
   .exact hy _ _ _ _ he
   .cases he
  |builtin b=>
   simp only[Wt]at he;split at he
   .split at he
    .split at he<;>first
      | (cases he;exact .refl _)
      | (split at he<;>first | (cases he;exact .refl _) | cases he)
      |cases he
    .cases he
   .split at he
    .split at he<;>first | (cases he;exact .refl _) | cases he
    .cases he
   .cases he;exact .refl _
   .cases he;exact .refl _
   .split at he
    .split at he
     .split at he
      .exact Vy.appends he
      .cases he
     .cases he
    .cases he
   .split at he
    .split at he
     .split at he
      .split at he
       .rw [Option.map_eq_some_iff]at he;obtain⟨es,_,rfl⟩:=he;exact Vy.put _ _ _
       .cases he
      .cases he
     .cases he
    .cases he
   .cases he
theorem Vy.mapRefl {α:Type}{x:Option α}{f:α->Value}{h:VH}{r:Value×VH}(he:x.map (fun a=>(f a,h))=some r):Vy h r.2:=by
 rw[Option.map_eq_some_iff]at he;obtain⟨a,_,rfl⟩:=he;exact .refl _
theorem Vy.op (hc:Zbi cf)(hy:Zbi yf){sl:SL}{h:VH}{o:Oper}{r:Value×VH}(he:Xu C cf yf sl h o=some r):Vy h r.2:=by
 cases X7:o.op with
 |call c=>simp only[Xu,X7]at he;exact Vy.call hc hy he
 |store t a x=>
  simp only[Xu,X7]at he;split at he
  .split at he
   .cases he
   .split at he
    .rw [Option.map_eq_some_iff]at he;obtain⟨h',h1,rfl⟩:=he;exact Vy.store h1
    .cases he
  .cases he
 |alloc t=>
  simp only[Xu,X7]at he;split at he<;>cases he;exact .new _ _
 |box t x=>
  simp only[Xu,X7]at he;split at he
  .split at he<;>cases he;exact .new _ _
  .cases he
 |makeMap t m=>
  cases m with
  |none=>simp only[Xu,X7]at he;cases he;exact .new _ _
  |some m=>simp[Xu,X7]at he
 |makeSlice t l c=>
  simp only[Xu,X7]at he;split at he
  .split at he
   .split at he
    .split at he
     .split at he<;>cases he;exact .new _ _
     .cases he
    .cases he
   .cases he
  .cases he
 |buildSlice t l ps=>
  simp only[Xu,X7]at he;split at he
  .split at he
   .split at he
    .split at he
     .rw [Option.map_eq_some_iff]at he;obtain⟨cs,_,rfl⟩:=he;exact .new _ _
     .cases he
    .cases he
   .cases he
  .cases he
 |convert s d x=>
  simp only[Xu,X7]at he;split at he
  .split at he
   .cases he;exact .refl _
   .cases he;exact .refl _
   .split at he
    .split at he
     .split at he<;>cases he;exact .new _ _
     .cases he
    .cases he
   .split at he
    .split at he
     .split at he
      .exact Vy.mapRefl he
      .cases he
     .cases he
    .cases he
   .cases he
  .cases he
 |mapUpdate t m k x=>
  simp only[Xu,X7]at he;split at he
  .split at he
   .split at he
    .split at he
     .rw [Option.map_eq_some_iff]at he;obtain⟨es,_,rfl⟩:=he;exact Vy.put _ _ _
     .cases he
    .cases he
   .cases he
  .cases he
 |insert t m k x=>
  simp only[Xu,X7]at he;split at he
  .split at he
   .split at he
    .split at he
     .rw [Option.map_eq_some_iff]at he;obtain⟨es,_,rfl⟩:=he;exact Vy.put _ _ _
     .cases he
    .cases he
   .cases he
  .cases he
 |slice t x lo hi mx=>
  cases mx with
  |some m=>simp[Xu,X7]at he
  |none=>
   simp only[Xu,X7]at he;split at he
   .split at he
    .split at he
     .exact Vy.mapRefl he
     .split at he<;>cases he;exact .refl _
     .split at he
      .split at he<;>cases he;exact .refl _
      .cases he
     .cases he
    .cases he
   .cases he
 |move x=>simp only[Xu,X7]at he;exact Vy.mapRefl he
 |assign x=>simp only[Xu,X7]at he;exact Vy.mapRefl he
 |pick c a b=>simp only[Xu,X7]at he;split at he<;>first | exact Vy.mapRefl he | cases he
 |build t ps=>
  simp only[Xu,X7]at he;split at he
  .split at he
   .split at he
    .exact Vy.mapRefl he
    .cases he
   .split at he
    .exact Vy.mapRefl he
    .cases he
   .cases he
  .cases he
 |load t a=>
  simp only[Xu,X7]at he;split at he
  .split at he
   .cases he
   .exact Vy.mapRefl he
  .cases he
 |nilCheck x=>
  simp only[Xu,X7]at he;split at he
  .cases he;exact .refl _
  .split at he<;>cases he;exact .refl _
  .cases he
 |binOp op t x y t2=>
  simp only[Xu,X7]at he;split at he
  .exact Vy.mapRefl he
  .cases he
 |unOp op t x=>simp only[Xu,X7]at he;exact Vy.mapRefl he
 |makeInterface t x=>
  simp only[Xu,X7]at he;split at he
  .split at he
   .cases he
   .exact Vy.mapRefl he
  .cases he
 |makeFunc f a b=>
  simp only[Xu,X7]at he;split at he
  .cases he;exact .refl _
  .cases he
 |fieldAddr t x f=>
  simp only[Xu,X7]at he;split at he
  .split at he
   .split at he
    .split at he
     .split at he<;>cases he;exact .refl _
     .cases he
    .cases he
   .cases he
  .cases he
 |field t x f=>
  simp only[Xu,X7]at he;split at he
  .split at he
   .split at he
    .split at he
     .exact Vy.mapRefl he
     .cases he
    .cases he
   .cases he
  .cases he
 |indexAddr t x i=>
  simp only[Xu,X7]at he;split at he
  .split at he
   .split at he
    .split at he
     .split at he<;>cases he;exact .refl _
     .cases he
    .cases he
   .split at he
    .split at he
     .split at he<;>cases he;exact .refl _
     .cases he
    .cases he
   .cases he
  .cases he
 |index t x i=>
  simp only[Xu,X7]at he;split at he
  .split at he
   .split at he
    .split at he
     .exact Vy.mapRefl he
     .cases he
    .cases he
   .split at he
    .exact Vy.mapRefl he
    .cases he
   .cases he
  .cases he
 |lookup t x i ok=>
  simp only[Xu,X7]at he;split at he
  .split at he
   .split at he
    .split at he
     .split at he
      .cases he
      .split at he
       .cases he;exact .refl _
       .exact Vy.mapRefl he
       .cases he
     .cases he
    .cases he
   .cases he
  .cases he
 |extract t i=>
  simp only[Xu,X7]at he;split at he
  .exact Vy.mapRefl he
  .cases he
 | _=>simp[Xu,X7]at he
theorem Vy.ops (hc:Zbi cf)(hy:Zbi yf){all:List Oper}:∀ {l:List Oper} {sl:SL} {h:VH} {r:SL×VH},Zh1 C cf yf all l sl h=some r->Vy h r.2
 | [],sl,h,r,he=>by simp only[Zh1,Option.some.injEq]at he;subst he;exact .refl _
 |o::l,sl,h,r,he=>by
  simp only[Zh1]at he;split at he
  .split at he
   .rename_i v h1 ho;exact (Vy.op hc hy ho).trans (Vy.ops hc hy he)
   .cases he
  .exact Vy.ops hc hy he
  .cases he
theorem Vy.step (hc:Zbi cf)(hy:Zbi yf){h0:VH}{M:Nat}(hM:h0.next<=M){all:List Oper}{masks:Array Nat}{o:Oper}{i:Nat}{st st':DSt}(hI:∀S∈st.hs,Vy h0 S)(he:Zdn C cf yf h0.next M all masks o i st=some st'):∀S∈st'.hs,Vy h0 S:=by
 unfold Zdn at he
 try dsimp only at he
 split at he
 .cases he
 .cases he;exact hI
 .split at he
  .cases he;intro S hS;obtain⟨T,hT,rfl⟩:=List.mem_map.1 hS;obtain⟨a,b,c⟩:=hI T hT;refine⟨a,b,fun q h1 h2=>?_⟩;simp only[VH.put,nbq (show q≠h0.next+i by omega),cond_false];exact c q h1 h2
  .split at he
   .cases he
   .rename_i S r hhs;split at he
    .cases he
    .rename_i v h' ho;split at he
     .cases he;exact hI
     .cases he;intro T hT;rcases List.mem_cons.1 hT with rfl | hT
      .obtain ⟨a,b,c⟩:=hI S (by rw[hhs];simp);obtain⟨a1,b1,c1⟩:=Vy.op hc hy ho;refine⟨Nat.le_trans a a1,Nat.le_trans (Nat.min_le_left _ _) b,fun q h1 h2=>?_⟩
       have hq:Nat.ble h0.next q=false:=by
        cases e:Nat.ble h0.next q
        .rfl
        .rw [Nat.ble_eq]at e;omega
       have h3:q < h'.wr:=Nat.lt_of_lt_of_le h2 (Nat.min_le_right _ _);have h4:q < S.wr:=Nat.lt_of_lt_of_le h2 (Nat.min_le_left _ _);have h5:=c1 q (Nat.lt_of_lt_of_le h1 a) h3;simp only[over,hq,Bool.false_and,cond_false];rw[h5];simp only[view,X5,hq,Bool.false_and,cond_false];exact c q h1 h4
      .exact hI T (by rw[hhs];exact hT)
theorem Vy.pass (hc:Zbi cf)(hy:Zbi yf){h0:VH}{M:Nat}(hM:h0.next<=M){all:List Oper}{masks:Array Nat}:∀ {l:List Oper} {i:Nat} {st st':DSt},(∀S∈st.hs,Vy h0 S)->Zcg C cf yf h0.next M all masks l i st=some st'->∀S∈st'.hs,Vy h0 S
 | [],i,st,st',hI,he=>by simp only[Zcg,Option.some.injEq]at he;subst he;exact hI
 |o::l,i,st,st',hI,he=>by
  simp only[Zcg]at he;split at he
  .rename_i s hs;exact Vy.pass hc hy hM (Vy.step hc hy hM hI hs) he
  .cases he
theorem Vy.draw (hc:Zbi cf)(hy:Zbi yf){ops:Array Oper}{sl:SL}{h:VH}{r:SL×VH}(he:Zi1 C cf yf ops sl h=some r):Vy h r.2:=by
 unfold Zi1 at he
 try dsimp only at he
 split at he
 .cases he
 .rename_i st hp
  have:=Vy.pass hc hy (Nat.le_add_right _ _) (fun S hS=>by
   simp only[List.mem_singleton]at hS;subst hS;exact⟨Nat.le_add_right _ _,Nat.le_refl _,fun _ _ _=>rfl⟩) hp
  split at he
  .cases he
  .rename_i S r' hhs;split at he
   .cases he;exact this S (by rw[hhs];simp)
   .cases he
theorem Vy.callF {ex:Code->SL->VH->Option (Ex×SL×VH)}(hex:∀c sl h x Yw h',ex c sl h=some (x,Yw,h')->Vy h h'):Zbi (Virt.callF C ex):=by
 intro f args h r he;unfold Virt.callF at he;split at he
 .cases he;exact .refl _
 .split at he
  .cases he
  .split at he
   .cases he
   .have key:∀(raw:Bool) (v:Value) (h':VH),Vy {h with wr:=h.next} h'->Vy h (settle raw h v h').2:=by
     intro raw v h' hf;unfold settle;split
     .exact .refl _
     .exact ⟨hf.1,Nat.min_le_left _ _,fun q h1 h2=>hf.2.2 q h1 (Nat.lt_of_lt_of_le h2 (Nat.min_le_right _ _))⟩
    split at he
    .rename_i Yw h' hx;rw[Option.map_eq_some_iff]at he;obtain⟨vs,_,rfl⟩:=he;exact key _ _ _ (hex _ _ _ _ _ _ hx)
    .rename_i Yw h' hx;rw[Option.map_eq_some_iff]at he;obtain⟨vs,_,rfl⟩:=he;exact key _ _ _ (hex _ _ _ _ _ _ hx)
    .cases he
theorem Vy.yieldF {ex:Code->SL->VH->Option (Ex×SL×VH)}(hex:∀c sl h x Yw h',ex c sl h=some (x,Yw,h')->Vy h h'):Zbi (Virt.yieldF ex):=by
 intro l args h r he;unfold Virt.yieldF at he;split at he
 .rename_i Ud ps as bd hl;split at he
  .split at he
   .rename_i Q5 h1 hx;split at he
    .rename_i sl2 h2 hx2;cases he;have hf:=(hex _ _ _ _ _ _ hx).trans (hex _ _ _ _ _ _ hx2);refine⟨hf.1,hf.2.1,fun q k1 k2=>?_⟩;by_cases e:q=l
     .subst e;simp[VH.put,hl]
     .have:=hf.2.2 q k1 k2;simp only[VH.put,nbq e,cond_false]at this ⊢;exact this
    .cases he
   .cases he
  .cases he
 .cases he
end
theorem Vy.exec {C:Ctx}:∀(n:Nat) (Xy:Bool) (code:Code) (sl:SL) (h:VH) (x:Ex) (Yw:SL) (h':VH),Virt.exec C n Xy code sl h=some (x,Yw,h')->Vy h h':=by
 intro n
 induction n with
 |zero=>intro Xy code sl h x Yw h' he;simp[Virt.exec]at he
 |succ n ih=>
  intro Xy code sl h x Yw h' he;have hc:Zbi (Virt.callF C (Virt.exec C n true)):=Vy.callF (ih true);have hy:Zbi (Virt.yieldF (Virt.exec C n false)):=Vy.yieldF (ih false);cases code with
  |region id ops draw=>
   rw[Virt.exec]at he
   try dsimp only at he
   rw[Option.map_eq_some_iff]at he;obtain⟨⟨a,b⟩,hx,e⟩:=he;simp only[Prod.mk.injEq]at e;obtain⟨_,_,rfl⟩:=e;cases draw with
   |true=>simp only[if_true]at hx;exact Vy.draw hc hy hx
   |false=>simp only[Bool.false_eq_true,if_false]at hx;exact Vy.ops hc hy hx
  |seq a b=>
   rw[Virt.exec]at he
   try dsimp only at he
   split at he
   .rename_i Q5 h1 hx;exact (ih _ _ _ _ _ _ _ hx).trans (ih _ _ _ _ _ _ _ he)
   .exact ih _ _ _ _ _ _ _ he
  |cond c a b=>
   rw[Virt.exec]at he
   try dsimp only at he
   split at he
   .exact ih _ _ _ _ _ _ _ he
   .exact ih _ _ _ _ _ _ _ he
   .cases he
  |block id b=>
   rw[Virt.exec]at he
   try dsimp only at he
   split at he
   .rename_i id' Q5 h1 hx;have:=ih _ _ _ _ _ _ _ hx;split at he<;>cases he<;>exact this
   .exact ih _ _ _ _ _ _ _ he
  |loop b=>
   rw[Virt.exec]at he
   try dsimp only at he
   split at he
   .rename_i Q5 h1 hx;exact (ih _ _ _ _ _ _ _ hx).trans (ih _ _ _ _ _ _ _ he)
   .exact ih _ _ _ _ _ _ _ he
  |rangeFunc f ps as bd=>
   rw[Virt.exec]at he
   try dsimp only at he
   split at he
   .split at he
    .split at he
     .rename_i u h2 hx;split at he
      .cases he;obtain⟨a,b,c⟩:=(Vy.new h _).trans (hc _ _ _ _ hx);refine⟨a,b,fun q h1 h2=>?_⟩;simp only[VH.put,nbq (show q≠h.next by omega),cond_false];exact c q h1 h2
      .cases he
     .cases he
    .cases he
   .cases he
  |skip=>simp only[Virt.exec,Option.some.injEq,Prod.mk.injEq]at he;rw[he.2.2];exact .refl _
  |exit id=>simp only[Virt.exec,Option.some.injEq,Prod.mk.injEq]at he;rw[he.2.2];exact .refl _
  |ret=>simp only[Virt.exec,Option.some.injEq,Prod.mk.injEq]at he;rw[he.2.2];exact .refl _
  | _=>simp[Virt.exec]at he
end Go.Virt
end
