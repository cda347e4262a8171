/- Regions whose order is drawn, in a plain run: what is kept on the way. -/
import Derived.Test.YtabcdhcpilpojaaGreatDoorPB
import Derived.Test.YtabcdhcpilpojaaGreatDoorVB
set_option linter.unusedSimpArgs false
set_option linter.unusedVariables false
section
namespace Go.Pure
open Go Go.Virt
abbrev Ent:=Nat->Option (SE×Option Nat)
def zr (E:Ent)(L:Nat->Bool):Vf:=fun Zy=>match E Zy with
 |some (s,none)=>some s
 |some (s,some j)=>if L j then some s else none
 |none=>none
theorem X7 {E:Ent}{L:Nat->Bool}{Zy:Nat}{s:SE}:zr E L Zy=some s↔∃ow,E Zy=some (s,ow)/\∀j,ow=some j->L j=true:=by
 unfold zr;constructor
 .intro h;split at h
  .rename_i s' he;cases h;exact⟨none,he,fun j e=>by cases e⟩
  .rename_i s' j he;split at h
   .rename_i hl;cases h;exact⟨some j,he,fun j' e=>by cases e;exact hl⟩
   .cases h
  .cases h
 .rintro ⟨ow,h1,h2⟩;rw[h1];cases ow with
  |none=>rfl
  |some j=>simp[h2 j rfl]
theorem Za8 {E E':Ent}{L L':Nat->Bool}(he:∀Zy x,E Zy=some x->E' Zy=some x)(hl:∀j,L j=true->L' j=true):Vf.le (zr E L) (zr E' L'):=fun Zy s hs=>by
 obtain⟨ow,h1,h2⟩:=X7.1 hs;exact X7.2 ⟨ow,he _ _ h1,fun j e=>hl j (h2 j e)⟩
def Vr (masks:Array Nat)(c j:Nat):Bool:=(masks.getD c 0).testBit j
def Qw (masks:Array Nat)(c j:Nat):Bool:=Vr masks c j||Nat.beq j c
theorem Zwi {ops:Array Oper}(h:Zsj ops=true):Sq ops.toList (Region.before ops)=true/\(∀i j,i < ops.size->Vr (Region.before ops) i j=true->j < i) /\
  ∀i j k,i < ops.size->Vr (Region.before ops) i j=true->Vr (Region.before ops) j k=true->Vr (Region.before ops) i k=true:=by
 unfold Zsj at h;simp only[Bool.and_eq_true]at h;obtain⟨h1,h2⟩:=h
 have hlt:∀i j,i < ops.size->Vr (Region.before ops) i j=true->j < i:=by
  intro i j hi hm;have h3:=List.all_eq_true.1 h2 i (List.mem_range.2 hi);simp only[Bool.and_eq_true]at h3
  have h4:(Region.before ops).getD i 0 < 2^i:=by
   have:=h3.1;rw[Nat.blt_eq]at this;exact this
  rcases Nat.lt_or_ge j i with h5 | h5
  .exact h5
  .exfalso;have:=Nat.testBit_lt_two_pow (Nat.lt_of_lt_of_le h4 (Nat.pow_le_pow_right (by omega) h5));unfold Vr at hm;rw[this]at hm;cases hm
 refine⟨h1,hlt,fun i j k hi hm hk=>?_⟩;have hj:=hlt i j hi hm;have h3:=List.all_eq_true.1 h2 i (List.mem_range.2 hi);simp only[Bool.and_eq_true]at h3;have h4:=List.all_eq_true.1 h3.2 j (List.mem_range.2 hj);rw[Bool.or_eq_true,Bool.not_eq_true']at h4;rcases h4 with h4 | h4
 .unfold Vr at hm;rw[hm]at h4;cases h4
 .rw [Nat.beq_eq]at h4;unfold Vr at hk ⊢;rw[<- h4,Nat.testBit_or,hk,Bool.true_or]
structure SX (K:Loc)(YA:Nat->Nat)(h0:PH)(Wt:VH)(ρ:Nat->Nat)(h:PH)(S:VH):Prop where
 ext:Rd YA (Zp h0) ρ (Zp h)
 next:h0.next<=h.next
 wr:S.wr<=Wt.wr
 keep:∀i,can K i=false->h.get i=h0.get i
 same:∀i Zc o,i < K.lo->h0.get i=some (Zc,o)->h.get i=some (Zc,o)\/(∃g own xs,o=.row g own xs/\h.get i=some (Zc,.row g false xs))\/S.wr<=YA i
 plc:∀i x,h.get i=some x->((∃y,h0.get i=some y)/\ρ i=YA i)\/Wt.next<=ρ i
 vkeep:∀i x,h0.get i=some x->can K i=false->S.get (YA i)=Wt.get (YA i)
 vnone:∀q,q < Wt.next->Wt.get q=none->(∀i x,h0.get i=some x->YA i≠q)->S.get q=none
 low:∀b,b<=Wt.next->b<=Wt.wr->(∀i x,h0.get i=some x->can K i=true->b<=YA i)->b<=S.wr
section
variable {C:Ctx}{K:Loc}{YA ρ YB:Nat->Nat}{h0 h h':PH}{Wt S S' V vh':VH}{Z Z':Vf}{M i p Zc:Nat}{o:PO}
theorem SX.step {hid:Nat->Prop}(x:SX K YA h0 Wt ρ h S)(H0:∀i y,h0.get i=some y->YA i < Wt.next)(Zh9:∀q,hid q->Wt.next<=q)(hSM:Wt.next<=S.next)(st:St C K ρ Z h V YB Z' h' vh')(hVn:V.next=S.next)(hVw:V.wr=S.next)(hV:∀q,¬ hid q->V.get q=S.get q)
  (hS:∀q,¬ hid q->S'.get q=vh'.get q) (W4:S'.wr<=S.wr) (Vj:∀q,q < Wt.next->vh'.wr<=q->S'.wr<=q) (hw3:∀b,b<=S.wr->b<=vh'.wr->b<=S'.wr):SX K YA h0 Wt YB h' S':=by
 have hn:∀q,q < Wt.next->¬ hid q:=fun q hq hh=>by have:=Zh9 q hh;omega
 refine⟨x.ext.trans st.ext,Nat.le_trans x.next st.next,Nat.le_trans W4 x.wr,fun i hi=>(st.keep i hi).trans (x.keep i hi),?_,?_,?_,?_,?_⟩
 .intro i Zc o Sh ho
  have Zfj:∀o1,h.get i=some (Zc,o1)->ρ i=YA i:=fun o1 h1=>by
   obtain⟨c',h2,_,h3⟩:=x.ext i Zc (Zt.2 ⟨_,ho⟩);rw[Zt.2 ⟨_,h1⟩]at h2;cases h2;exact h3 rfl
  have hlt:=H0 i _ ho;rcases x.same i Zc o Sh ho with h1 | ⟨g,own,xs,rfl,h1⟩ | h1
  .rcases st.same i Zc o Sh h1 with h2 | h2 | h2
   .exact .inl h2
   .exact .inr (.inl h2)
   .rw [Zfj _ h1]at h2;exact .inr (.inr (Vj _ hlt h2))
  .rcases st.same i Zc _ Sh h1 with h2 | ⟨g2,Zux,xs2,e,h2⟩ | h2
   .exact .inr (.inl ⟨g,own,xs,rfl,h2⟩)
   .cases e;exact .inr (.inl ⟨g,own,xs,rfl,h2⟩)
   .rw [Zfj _ h1]at h2;exact .inr (.inr (Vj _ hlt h2))
  .exact .inr (.inr (Nat.le_trans W4 h1))
 .intro i y hy;rcases st.plc i y hy with⟨⟨z,h1⟩,h2⟩ | h1
  .rcases x.plc i z h1 with⟨h3,h4⟩ | h3
   .exact .inl ⟨h3,h2.trans h4⟩
   .exact .inr (by rw[h2];exact h3)
  .exact .inr (Nat.le_trans hSM (by rw[<- hVn];exact h1))
 .intro i y hy hc;have hlt:=H0 i _ hy;have h1:=x.keep i hc
  have hr:ρ i=YA i:=by
   obtain⟨Zc,o⟩:=y;obtain⟨c',h2,_,h3⟩:=x.ext i Zc (Zt.2 ⟨_,hy⟩);rw[Zt.2 ⟨o,by rw[h1];exact hy⟩]at h2;cases h2;exact h3 rfl
  have h2:=st.vkeep i _ (h1.trans hy) hc;rw[hr]at h2;rw[hS _ (hn _ hlt),h2,hV _ (hn _ hlt)];exact x.vkeep i _ hy hc
 .intro q hq hno hi;rw[hS _ (hn _ hq)];refine st.vnone q (by rw[hVn];omega) (by rw[hV _ (hn _ hq)];exact x.vnone q hq hno hi) fun i y hy e=>?_
  rcases x.plc i y hy with⟨⟨z,hz⟩,h2⟩ | h2
  .exact hi i z hz (h2.symm.trans e)
  .omega
 .intro b h1 h2 h3;refine hw3 b (x.low b h1 h2 h3) (st.low b (by rw[hVn];omega) (by rw[hVw];omega) fun i y hy hc=>?_);rcases x.plc i y hy with⟨⟨z,hz⟩,e⟩ | e
  .rw [e];exact h3 i z hz hc
  .omega
theorem SX.make (x:SX K YA h0 Wt ρ h S)(hx:Rd ρ (Zp h) (fun j=>if j=i then p else ρ j) (Zp (h.put i Zc o)))(hc:can K i=true)(Sh:K.lo<=i)(hp:Wt.next<=p)(H0:∀i y,h0.get i=some y->YA i < Wt.next){vo:VO}:SX K YA h0 Wt (fun j=>if j=i then p else ρ j) (h.put i Zc o) (S.put p (some vo)) where
 ext:=x.ext.trans hx
 next:=x.next
 wr:=x.wr
 keep:=fun j hj=>by
  have:j≠i:=fun e=>by subst e;rw[hc]at hj;cases hj
  simp only[PH.put,this,if_false];exact x.keep j hj
 same:=fun j w ob hl ho=>by
  have:j≠i:=fun e=>by subst e;omega
  simp only[PH.put,this,if_false];exact x.same j w ob hl ho
 plc:=fun j y hy=>by
  by_cases e:j=i
  .subst e;exact .inr (by simp;exact hp)
  .simp only [PH.put,e,if_false]at hy ⊢;exact x.plc j y hy
 vkeep:=fun j y hy hcj=>by
  have:=H0 j y hy;simp only[VH.put,Sy (show YA j≠p by omega),cond_false];exact x.vkeep j y hy hcj
 vnone:=fun q hq hn hi=>by
  simp only[VH.put,Sy (show q≠p by omega),cond_false];exact x.vnone q hq hn hi
 low:=x.low
theorem SX.lit (x:SX K YA h0 Wt ρ h S)(hp:Wt.next<=p)(H0:∀i y,h0.get i=some y->YA i < Wt.next){vo:VO}:SX K YA h0 Wt ρ h (S.put p (some vo)) where
 ext:=x.ext
 next:=x.next
 wr:=x.wr
 keep:=x.keep
 same:=x.same
 plc:=x.plc
 vkeep:=fun j y hy hcj=>by
  have:=H0 j y hy;simp only[VH.put,Sy (show YA j≠p by omega),cond_false];exact x.vkeep j y hy hcj
 vnone:=fun q hq hn hi=>by
  simp only[VH.put,Sy (show q≠p by omega),cond_false];exact x.vnone q hq hn hi
 low:=x.low
end
theorem Zus (sl:SL):∀(ds:List Nat) (d:Nat) (v:Value),d∈ds->Xf sl d=some v->Xf (pick sl ds) d=some v
 | [],d,v,h,_=>by simp at h
 |e::ds,d,v,h,hv=>by
  simp only[pick];by_cases he:d=e
  .subst he;rw[hv];simp[Xf]
  .have hm:d∈ds:=by simpa[he]using h
   have:=Zus sl ds d v hm hv;split
   .simp only [Xf,Sy (Ne.symm he),cond_false];exact this
   .exact this
theorem Zsd {C:Ctx}{Xi:Yt}{o:Oper}{x:PV}(h:Yi C Xi o=some x)(Y4:SL):Qa C Y4 o=none:=by
 cases ho:o.op with
 |alloc t=>simp[Yi,ho]at h
 |box t y=>simp[Yi,ho]at h
 |buildSlice t l ps=>simp[Yi,ho]at h
 |makeSlice t l c=>simp[Yi,ho]at h
 |makeMap t r=>simp[Yi,ho]at h
 | _=>simp[Qa,ho]
theorem Zfp {C:Ctx}{pcf:CF}{pyf:YF}{all:List Oper}{K:Loc}{Xi:Yt}{h:PH}{o:Oper}{r:PV×PH}(he:Zh C pcf pyf all K Xi h o=some r)(Y4:SL):Qa C Y4 o=none:=by
 cases ho:o.op with
 |alloc t=>simp[Zh,ho]at he
 |box t y=>simp[Zh,ho]at he
 |buildSlice t l ps=>simp[Zh,ho]at he
 |makeSlice t l c=>simp[Zh,ho]at he
 |makeMap t r=>simp[Zh,ho]at he
 | _=>simp[Qa,ho]
theorem Zpo {C:Ctx}{ρ:Nat->Nat}{vf:Nat->Option Nat}{Z:Vf}:∀(n:Nat) {x:PV} {v:Value},W2 n x=true->R C ρ vf Z x v->Xg n v v=true:=by
 have hD:∀(n:Nat) {x:PV} {v:Value},W2 n x=true->RD C Z x v->Xg n v v=true:=by
  intro n
  induction n with
  |zero=>
   intro x v hs hr;cases hr with
   |iface=>simp[W2]at hs
   |agg=>simp[W2]at hs
   | _=>simp[Xg]
  |succ n ih=>
   have hl:∀ {cs:List PV} {cs':List Value},cs.all (W2 n)=true->RDs C Z cs cs'->Xg.sames n cs' cs'=true:=by
    intro cs
    induction cs with
    |nil=>intro cs' _ h;cases h;rfl
    |cons c cs ih2=>
     intro cs' ha h;simp only[List.all_cons,Bool.and_eq_true]at ha;cases h with | cons h r=>simp[Xg.sames,ih ha.1 h,ih2 ha.2 r]
   intro x v hs hr;cases hr with
   |iface t y w h=>simp only[Xg,beq_self_eq_true,Bool.true_and];exact ih (by simpa only[W2]using hs) h
   |agg cs cs' h=>simp only[Xg];exact hl (by simpa only[W2]using hs) h
   | _=>simp[Xg]
 intro n
 induction n with
 |zero=>
  intro x v hs hr;cases hr with
  |d h=>exact hD 0 hs h
  |iface=>simp[W2]at hs
  |agg=>simp[W2]at hs
  |tuple=>simp[W2]at hs
  |fn=>simp[W2]at hs
  |yield=>simp[W2]at hs
  | _=>simp[Xg]
 |succ n ih=>
  have hl:∀ {cs:List PV} {cs':List Value},cs.all (W2 n)=true->Rs C ρ vf Z cs cs'->Xg.sames n cs' cs'=true:=by
   intro cs
   induction cs with
   |nil=>intro cs' _ h;cases h;rfl
   |cons c cs ih2=>
    intro cs' ha h;simp only[List.all_cons,Bool.and_eq_true]at ha;cases h with | cons h r=>simp[Xg.sames,ih ha.1 h,ih2 ha.2 r]
  intro x v hs hr;cases hr with
  |d h=>exact hD (n+1) hs h
  |iface t y w h=>simp only[Xg,beq_self_eq_true,Bool.true_and];exact ih (by simpa only[W2]using hs) h
  |agg cs cs' h=>simp only[Xg];exact hl (by simpa only[W2]using hs) h
  |tuple cs cs' h=>simp only[Xg];exact hl (by simpa only[W2]using hs) h
  |fn f a c a' c' h1 h2=>
   simp only[W2,Bool.and_eq_true]at hs;simp only[Xg,beq_self_eq_true,Bool.true_and,Bool.and_eq_true];exact⟨hl hs.1 h1,hl hs.2 h2⟩
  |yield=>simp[Xg,Xg.sames]
  | _=>simp[Xg]
def sgP (st:DSt)(k:Nat):Option VH:=st.hs.reverse[k]?
def rcP (st:DSt)(c:Nat):Option Rec:=st.recs.reverse[c]?
section
variable (C:Ctx)(cf yf:Nat->List Value->VH->Option (Value×VH))(K:Loc)(n:Nat)(ops:Array Oper)(B M:Nat)(YA:Nat->Nat)(Z0:Vf)(h0:PH)(Wt:VH)
def Zj9 (i:Nat)(sl:Yt)(Y4:SL)(E:Ent)(ρ:Nat->Nat)(h:PH):Prop:=
 ∀t x,sl t=some x->∃v L,Xf Y4 t=some v/\R C ρ (Zp h) (zr E L) x v /\
  ((∃j o,j < i/\ops.toList[j]?=some o/\o.dst=some t/\L=Qw (Region.before ops) j)\/(L=(fun _=>false)/\∀j o,j < i->ops.toList[j]?=some o->o.dst≠some t))
def Zahw (c:Nat)(q:Rec)(E:Ent)(made:Nat):Prop:=
 ∃ZF:Vf,(∀Zy s',ZF Zy=some s'->∃ow,E Zy=some (s',ow)/\∀j,ow=some j->Vr (Region.before ops) c j=true) /\
  (∀j,Vr (Region.before ops) c j=true->made.testBit j=true->q.vis.testBit j=true)/\∀vh',Zq0 ZF vh'->Xn C cf yf q.pk vh' q.o=some (q.v,vh')
structure DI (i:Nat)(s:PD)(st:DSt)(E:Ent)(LH:Nat->Bool)(ka:Nat->Nat)(ρ:Nat->Nat)(S:VH)(rest:List VH):Prop where
 hs:st.hs=S::rest
 hlen:rest.length=st.k
 rlen:st.recs.length=i
 sm:∀k SS,sgP st k=some SS->M<=SS.next
 hp:HP C ρ (zr E LH) S s.h
 e0:∀Zy s',Z0 Zy=some s'->E Zy=some (s',none)
 eN:∀Zy s',E Zy=some (s',none)->Zy < B
 eO:∀Zy s' j,E Zy=some (s',some j)->(Zy=B+j/\st.made.testBit j=true/\ka j=0/\j∉s.made)\/((Zy < B\/M<=Zy\/∃c∈s.made,Zy=B+c/\Vr (Region.before ops) j c=true)/\(j,true)∈s.st)
 slot:Zj9 C ops i s.sl st.sl E ρ s.h
 lh:∀j,LH j=true->∃c,((c,true)∈s.st\/c∈s.made)/\Qw (Region.before ops) c j=true
 lhF:∀j,(j,true)∈s.st->LH j=true
 md:∀c∈s.made,c < i/\st.made.testBit c=true
 pl:∀id x,s.h.get id=some x->B<=ρ id->ρ id < M->∃c∈s.made,ρ id=B+c
 mb:∀c,st.made.testBit c=true->c < i
 ml:∀c,st.made.testBit c=true->c∈s.made\/∃y,E (B+c)=some y
 no:∀c k SS,st.made.testBit c=false->B+c < M->sgP st k=some SS->SS.get (B+c)=none
 sti:∀c w,(c,w)∈s.st->c < i
 sg:∀k SS Zy s' ow,sgP st k=some SS->E Zy=some (s',ow)->(∀j,ow=some j->ka j<=k)->SS.get Zy=some (.row s'.cells s'.e s'.own)
 kaT:∀j,(j,true)∈s.st->∃q,rcP st j=some q/\(q.kind=2/\ka j=q.k\/q.kind=3/\ka j=q.k+1)
 ord:∀c w c' w',(c,w)∈s.st->(c',w')∈s.st->c' < c->(w=true\/w'=true)->Vr (Region.before ops) c c'=true
 rk:∀c q,rcP st c=some q->q.k<=st.k/\(q.kind=3->q.k < st.k)
 rm:∀c c' q q',c < c'->rcP st c=some q->rcP st c'=some q'->q.k<=q'.k/\(q.kind=3->q.k < q'.k)
 rw:∀k,k < st.k->∃c q,rcP st c=some q/\q.kind=3/\q.k=k
 rc:∀c q,rcP st c=some q->(q.kind=0\/q.kind=1)\/(q.kind=2/\Xg 3 q.v q.v=true/\(Zahw C cf yf ops c q E st.made\/∃u,(c,u)∈s.rb))\/∃w,(c,w)∈s.st/\(q.kind=2\/q.kind=3/\w=true)
 sx:SX K YA h0 Wt ρ s.h S
end
section
variable {C:Ctx}{cf yf:Nat->List Value->VH->Option (Value×VH)}{K:Loc}{n:Nat}{ops:Array Oper}{B M:Nat}{YA:Nat->Nat}{Z0:Vf}{h0:PH}{Wt:VH}
 {i:Nat} {s:PD} {st:DSt} {E E':Ent} {LH:Nat->Bool} {ka:Nat->Nat} {ρ YB:Nat->Nat} {h h':PH} {S:VH} {rest:List VH} {o:Oper} {x:PV} {v:Value} {sl:Yt} {Y4:SL}
theorem Zj9.push (so:Zj9 C ops i sl Y4 E ρ h)(ho:ops.toList[i]?=some o)(hr:R C YB (Zp h') (zr E' (Qw (Region.before ops) i)) x v)(he:Rd ρ (Zp h) YB (Zp h'))(hE:∀Zy y,E Zy=some y->E' Zy=some y):
  Zj9 C ops (i+1) (putP sl o.dst x) (putV Y4 o.dst v) E' YB h':=by
 have old:∀t y,sl t=some y->o.dst≠some t->∃v L,Xf Y4 t=some v/\R C YB (Zp h') (zr E' L) y v /\
   ((∃j o,j < i+1/\ops.toList[j]?=some o/\o.dst=some t/\L=Qw (Region.before ops) j)\/(L=(fun _=>false)/\∀j o,j < i+1->ops.toList[j]?=some o->o.dst≠some t)):=by
  intro t y hy Yp;obtain⟨w,L,h1,h2,h3⟩:=so t y hy;refine⟨w,L,h1,h2.mono he (Za8 hE fun _ h=>h),?_⟩;rcases h3 with⟨j,o',a,b,c,d⟩ | ⟨a,b⟩
  .exact .inl ⟨j,o',by omega,b,c,d⟩
  .refine .inr ⟨a,fun j o' hj hoj=>?_⟩;rcases Nat.lt_or_ge j i with h5 | h5
   .exact b j o' h5 hoj
   .have:j=i:=by omega
    subst this;rw[ho]at hoj;cases hoj;exact Yp
 intro t y hy;cases hd:o.dst with
 |none=>
  rw[hd]at hy;simp only[putP,putV];exact old t y hy (by rw[hd];simp)
 |some d=>
  rw[hd]at hy;simp only[putP,Yt.put]at hy;simp only[putV];rw[Zuc];by_cases e:t=d
  .subst e;simp only[if_true,Option.some.injEq]at hy ⊢;subst hy;exact⟨v,_,rfl,hr,.inl ⟨i,o,by omega,ho,hd,rfl⟩⟩
  .simp only [e,if_false]at hy;rw[if_neg (fun h=>e h.symm)];exact old t y hy (by rw[hd];simp;exact fun h=>e h.symm)
theorem Zj9.look (so:Zj9 C ops i sl Y4 E ρ h)(D1:Sq ops.toList (Region.before ops)=true)(D3:∀i j k,i < ops.size->Vr (Region.before ops) i j=true->Vr (Region.before ops) j k=true->Vr (Region.before ops) i k=true)(hi:i < ops.size)(ho:ops.toList[i]?=some o):
  SR C ρ (Zp h) (zr E (Vr (Region.before ops) i)) (fun t=>if (Yc ops.toList o).contains t then sl t else none) (pick Y4 (Yc ops.toList o)):=by
 intro t y hy
 try dsimp only at hy
 split at hy
 .rename_i hc;have hm:t∈Yc ops.toList o:=by simpa using hc
  obtain⟨w,L,h1,h2,h3⟩:=so t y hy;refine⟨w,Zus _ _ _ _ hm h1,h2.mono (Rd.refl _ _) (Za8 (fun _ _ h=>h) fun j hj=>?_)⟩;rcases h3 with⟨j',o',a,b,c,rfl⟩ | ⟨rfl,_⟩
  .have hmk:=((Zcs D1 ho b (by omega) c).2 hm).1 a;unfold Qw at hj;rw[Bool.or_eq_true]at hj;rcases hj with hj | hj
   .exact D3 i j' j hi hmk hj
   .rw [Nat.beq_eq]at hj;subst hj;exact hmk
  .cases hj
 .cases hy
theorem Zad {st':DSt}{q:Rec}(hr:st'.recs=q::st.recs)(hl:st.recs.length=i)(c:Nat):rcP st' c=if c=i then some q else rcP st c:=by
 unfold rcP;rw[hr,List.reverse_cons];by_cases e:c=i
 .subst e;rw[if_pos rfl,List.getElem?_append_right (by simp[hl])];simp[hl]
 .rw [if_neg e];rcases Nat.lt_or_ge c i with h1 | h1
  .rw [List.getElem?_append_left (by simp[hl,h1])]
  .rw [List.getElem?_append_right (by simp[hl];omega)];simp only[List.length_reverse,hl];rw[List.getElem?_eq_none (by simp;omega),List.getElem?_eq_none (by simp[hl];omega)]
theorem Sv {c:Nat}{q:Rec}(hl:st.recs.length=i)(h:rcP st c=some q):c < i:=by
 unfold rcP at h;obtain⟨h1,_⟩:=List.getElem?_eq_some_iff.1 h;simpa[hl]using h1
theorem Vn (D:DI C cf yf K ops B M YA Z0 h0 Wt i s st E LH ka ρ S rest):sgP st st.k=some S:=by
 unfold sgP;rw[D.hs,List.reverse_cons,List.getElem?_append_right (by simp[D.hlen])];simp[D.hlen]
theorem Zrc {k:Nat}{SS:VH}(D:DI C cf yf K ops B M YA Z0 h0 Wt i s st E LH ka ρ S rest)(h:sgP st k=some SS):k<=st.k:=by
 unfold sgP at h;obtain⟨h1,_⟩:=List.getElem?_eq_some_iff.1 h;rw[D.hs]at h1;simp[D.hlen]at h1;omega
theorem DI.quiet (D:DI C cf yf K ops B M YA Z0 h0 Wt i s st E LH ka ρ S rest)(ho:ops.toList[i]?=some o){q:Rec}(hq:q.k=st.k)(hk:q.kind=0\/q.kind=2)(hr:R C ρ (Zp s.h) (zr E (Qw (Region.before ops) i)) x v)
  {lst:List (Nat×Bool)} (hl:lst=s.st\/(lst=(i,false)::s.st/\∀c,(c,true)∈s.st->Vr (Region.before ops) i c=true)) {rbn:List (Nat×Nat)} (hrb:∀y,y∈s.rb->y∈rbn) (hc:q.kind=0\/(Xg 3 q.v q.v=true/\(Zahw C cf yf ops i q E st.made\/∃u,(i,u)∈rbn))\/(i,false)∈lst):
  DI C cf yf K ops B M YA Z0 h0 Wt (i+1) {s with sl:=putP s.sl o.dst x,st:=lst,rb:=rbn} {st with sl:=putV st.sl o.dst v,recs:=q::st.recs} E LH ka ρ S rest:=by
 have hrc:=fun c=>Zad (st:=st) (st':={st with sl:=putV st.sl o.dst v,recs:=q::st.recs}) (q:=q) rfl D.rlen c
 have Uv:∀c w,(c,w)∈s.st->(c,w)∈lst:=fun c w h=>by
  rcases hl with rfl | ⟨rfl,_⟩
  .exact h
  .exact List.mem_cons_of_mem _ h
 have Qz:∀c w,(c,w)∈lst->(c,w)∈s.st\/(c=i/\w=false):=fun c w h=>by
  rcases hl with rfl | ⟨rfl,_⟩
  .exact .inl h
  .rcases List.mem_cons.1 h with h | h
   .cases h;exact .inr ⟨rfl,rfl⟩
   .exact .inl h
 have htr:∀c,(c,true)∈lst->(c,true)∈s.st:=fun c h=>by
  rcases Qz c true h with h | ⟨_,h⟩
  .exact h
  .cases h
 refine⟨D.hs,D.hlen,by simp[D.rlen],D.sm,D.hp,D.e0,D.eN,fun Zy s' j hE=>(D.eO Zy s' j hE).imp id fun h=>⟨h.1,Uv _ _ h.2⟩,D.slot.push ho hr (Rd.refl _ _) (fun _ _ h=>h),fun j hj=>?_,fun j hj=>D.lhF j (htr j hj),fun c hc=>?_,D.pl,fun c hc=>by have:=D.mb c hc;omega,D.ml,D.no,fun c w hc=>?_,
  D.sg,fun j hj=>?_,fun c w c' w' h1 h2 hlt hw=>?_,fun c q' hq'=>?_,fun c c' q1 q2 hlt h1 h2=>?_,fun k hk=>?_,fun c q' hq'=>?_,D.sx⟩
 .obtain ⟨c,h1,h2⟩:=D.lh j hj;exact⟨c,h1.imp (Uv _ _) id,h2⟩
 .obtain ⟨a,b⟩:=D.md c hc;exact⟨by omega,b⟩
 .rcases Qz c w hc with h | ⟨h,_⟩
  .have:=D.sti c w h;omega
  .omega
 .obtain ⟨q',h1,h2⟩:=D.kaT j (htr j hj);refine⟨q',?_,h2⟩;rw[hrc,if_neg (by have:=Sv D.rlen h1;omega)];exact h1
 .rcases Qz c w h1 with h1' | ⟨rfl,rfl⟩
  .rcases Qz c' w' h2 with h2' | ⟨rfl,rfl⟩
   .exact D.ord c w c' w' h1' h2' hlt hw
   .have:=D.sti c w h1';omega
  .rcases Qz c' w' h2 with h2' | ⟨rfl,rfl⟩
   .rcases hw with hw | hw
    .cases hw
    .subst hw;rcases hl with rfl | ⟨_,hl⟩
     .exact absurd (D.sti _ _ h1) (by omega)
     .exact hl c' h2'
   .omega
 .rw [hrc]at hq';split at hq'
  .cases hq';refine⟨by rw[hq];exact Nat.le_refl _,fun h3=>?_⟩;rcases hk with hk | hk<;>rw[hk]at h3<;>cases h3
  .exact D.rk c q' hq'
 .rw [hrc]at h1 h2;split at h1
  .split at h2
   .omega
   .have:=Sv D.rlen h2;omega
  .split at h2
   .cases h2;obtain⟨a,b⟩:=D.rk c q1 h1;rw[hq];exact⟨a,b⟩
   .exact D.rm c c' q1 q2 hlt h1 h2
 .obtain ⟨c,q',h1,h2⟩:=D.rw k hk;refine⟨c,q',?_,h2⟩;rw[hrc,if_neg (by have:=Sv D.rlen h1;omega)];exact h1
 .rw [hrc]at hq';split at hq'
  .rename_i e;cases hq';subst e;rcases hc with hc | hc | hc
   .exact .inl (.inl hc)
   .rcases hk with hk | hk
    .exact .inl (.inl hk)
    .exact .inr (.inl ⟨hk,hc⟩)
   .rcases hk with hk | hk
    .exact .inl (.inl hk)
    .exact .inr (.inr ⟨false,hc,.inl hk⟩)
  .rcases D.rc c q' hq' with h | h | ⟨w,h1,h2⟩
   .exact .inl h
   .exact .inr (.inl ⟨h.1,h.2.1,h.2.2.imp id fun⟨u,hu⟩=>⟨u,hrb _ hu⟩⟩)
   .exact .inr (.inr ⟨w,Uv _ _ h1,h2⟩)
end
section
variable {C:Ctx}{cf yf:Nat->List Value->VH->Option (Value×VH)}{K:Loc}{n:Nat}{ops:Array Oper}{B M:Nat}{YA:Nat->Nat}{Z0:Vf}{h0:PH}{Wt:VH}
 {i:Nat} {s:PD} {st:DSt} {E E':Ent} {LH LH':Nat->Bool} {ka:Nat->Nat} {ρ YB:Nat->Nat} {h h':PH} {S S' vh':VH} {rest:List VH} {o:Oper} {x:PV} {v:Value} {sl:Yt} {Y4:SL}
theorem Zeu (m i j:Nat):(m|||2^i).testBit j=(m.testBit j||Nat.beq j i):=by
 rw[Nat.testBit_or,Nat.testBit_two_pow];congr 1;by_cases e:i=j
 .subst e;simp
 .simp [e,Sy (Ne.symm e)]
theorem DI.make (D:DI C cf yf K ops B M YA Z0 h0 Wt i s st E LH ka ρ S rest)(D2:∀i j,i < ops.size->Vr (Region.before ops) i j=true->j < i)(ho:ops.toList[i]?=some o)(hiM:B+i < M){q:Rec}(hq:q.k=st.k)(hk:q.kind=1){vo:VO}{made':List Nat}
  (hE:∀Zy y,E Zy=some y->E' Zy=some y) (hE':∀Zy y,E' Zy=some y->E Zy=some y\/(Zy=B+i/\y.2=some i/\vo=.row y.1.cells y.1.e y.1.own))
  (hp':HP C YB (zr E' LH') (S.put (B+i) (some vo)) h') (hr:R C YB (Zp h') (zr E' (Qw (Region.before ops) i)) x v) (Ur:Rd ρ (Zp s.h) YB (Zp h'))
  (hl1:∀j,LH j=true->LH' j=true) (hl2:∀j,LH' j=true->LH j=true\/(i∈made'/\Qw (Region.before ops) i j=true)) (hm:(made'=s.made/\∃y,E' (B+i)=some y)\/(made'=i::s.made/\E' (B+i)=none))
  (hpl:∀id y,h'.get id=some y->B<=YB id->YB id < M->∃c∈made',YB id=B+c) (hsx:SX K YA h0 Wt YB h' (S.put (B+i) (some vo))):
  DI C cf yf K ops B M YA Z0 h0 Wt (i+1) {s with sl:=putP s.sl o.dst x,h:=h',made:=made'} {st with sl:=putV st.sl o.dst v,recs:=q::st.recs,hs:=st.hs.map (·.put (B+i) (some vo)),made:=st.made|||2^i} E' LH' (fun j=>if j=i then 0 else ka j) YB (S.put (B+i) (some vo)) (rest.map (·.put (B+i) (some vo))):=by
 have hrc:=fun c=>Zad (st:=st) (st':={st with sl:=putV st.sl o.dst v,recs:=q::st.recs,hs:=st.hs.map (·.put (B+i) (some vo)),made:=st.made|||2^i}) (q:=q) rfl D.rlen c
 have hsg:∀k SS,sgP {st with sl:=putV st.sl o.dst v,recs:=q::st.recs,hs:=st.hs.map (·.put (B+i) (some vo)),made:=st.made|||2^i} k=some SS->∃TT,sgP st k=some TT/\SS=TT.put (B+i) (some vo):=by
  intro k SS h1;unfold sgP at h1 ⊢;rw[<- List.map_reverse,List.getElem?_map,Option.map_eq_some_iff]at h1;obtain⟨TT,h2,h3⟩:=h1;exact⟨TT,h2,h3.symm⟩
 have hEne:∀Zy y,E Zy=some y->Zy≠B+i:=by
  intro Zy y hy e;subst e;obtain⟨s',ow⟩:=y;cases ow with
  |none=>have:=D.eN _ _ hy;omega
  |some j=>
   rcases D.eO _ _ _ hy with⟨a,b,_⟩ | ⟨a,_⟩
   .have:=D.mb j b;omega
   .rcases a with a | a | ⟨c,hc,a,_⟩
    .omega
    .omega
    .have:=(D.md c hc).1;omega
 have Uv:∀c,c∈s.made->c∈made':=fun c hc=>by
  rcases hm with⟨rfl,_⟩ | ⟨rfl,_⟩
  .exact hc
  .exact List.mem_cons_of_mem _ hc
 refine⟨by simp[D.hs],by simp[D.hlen],by simp[D.rlen],fun k SS hk=>?_,hp',fun Zy s' h=>hE _ _ (D.e0 Zy s' h),fun Zy s' h=>?_,fun Zy s' j h=>?_,D.slot.push ho hr Ur hE,fun j hj=>?_,fun j hj=>hl1 j (D.lhF j hj),fun c hc=>?_,hpl,fun c hc=>?_,fun c hc=>?_,fun c k SS hc hcM hS=>?_,fun c w hc=>by have:=D.sti c w hc;omega,
  fun k SS Zy s' ow hS h hka=>?_,fun j hj=>?_,D.ord,fun c q' hq'=>?_,fun c c' q1 q2 hlt h1 h2=>?_,fun k hk=>?_,fun c q' hq'=>?_,hsx⟩
 .obtain ⟨TT,h1,rfl⟩:=hsg k SS hk;exact D.sm k TT h1
 .rcases hE' _ _ h with h | ⟨_,h,_⟩
  .exact D.eN _ _ h
  .cases h
 .rcases hE' _ _ h with h | ⟨h1,h2,_⟩
  .rcases D.eO _ _ _ h with⟨a,b,c,d⟩ | ⟨a,b⟩
   .refine .inl ⟨a,by rw[Zeu,b];rfl,?_,?_⟩
    .try dsimp only
     split
     .rfl
     .exact c
    .rcases hm with⟨rfl,_⟩ | ⟨rfl,_⟩
     .exact d
     .have:=D.mb j b;simp only[List.mem_cons,not_or];exact⟨by omega,d⟩
   .refine .inr ⟨?_,b⟩;rcases a with a | a | ⟨c,hc,a⟩
    .exact .inl a
    .exact .inr (.inl a)
    .exact .inr (.inr ⟨c,Uv c hc,a⟩)
  .cases h2;refine .inl ⟨h1,by rw[Zeu];simp,by simp,?_⟩;rcases hm with⟨rfl,_⟩ | ⟨rfl,h5⟩
   .intro Sg;have:=(D.md _ Sg).1;omega
   .rw [h1]at h;rw[h5]at h;cases h
 .rcases hl2 j hj with h | ⟨h1,h2⟩
  .obtain ⟨c,h3,h4⟩:=D.lh j h;exact⟨c,h3.imp id (Uv c),h4⟩
  .exact ⟨i,.inr h1,h2⟩
 .have Xa:∀c∈s.made,c < i+1/\(st.made|||2^i).testBit c=true:=fun c hc=>by
   obtain⟨a,b⟩:=D.md c hc;exact⟨by omega,by rw[Zeu,b];rfl⟩
  rcases hm with⟨rfl,_⟩ | ⟨rfl,h⟩
  .exact Xa c hc
  .rcases List.mem_cons.1 hc with rfl | hc
   .exact ⟨by omega,by rw[Zeu];simp⟩
   .exact Xa c hc
 .rw [Zeu,Bool.or_eq_true]at hc;rcases hc with hc | hc
  .have:=D.mb c hc;omega
  .rw [Nat.beq_eq]at hc;omega
 .rw [Zeu,Bool.or_eq_true]at hc;rcases hc with hc | hc
  .rcases D.ml c hc with h | ⟨y,h⟩
   .exact .inl (Uv c h)
   .exact .inr ⟨y,hE _ _ h⟩
  .rw [Nat.beq_eq]at hc;subst hc;rcases hm with⟨rfl,h⟩ | ⟨rfl,_⟩
   .exact .inr h
   .exact .inl (by simp)
 .obtain ⟨TT,h1,rfl⟩:=hsg k SS hS;rw[Zeu,Bool.or_eq_false_iff]at hc;have Yp:c≠i:=fun e=>by subst e;simp at hc
  simp only[VH.put,Sy (show B+c≠B+i by omega),cond_false];exact D.no c k TT hc.1 hcM h1
 .obtain ⟨TT,h1,rfl⟩:=hsg k SS hS;rcases hE' _ _ h with h | ⟨h2,h3,h4⟩
  .simp only [VH.put,Sy (hEne _ _ h),cond_false];refine D.sg k TT Zy s' ow h1 h fun j hj=>?_
   have:=hka j hj;split at this
   .rename_i e;subst e;subst hj;rcases D.eO _ _ _ h with⟨_,b,c⟩ | ⟨_,b⟩
    .have:=D.mb j b;omega
    .have:=D.sti j true b;omega
   .exact this
  .subst h2;simp only[VH.put,Nat.beq_refl,cond_true];rw[h4]
 .obtain ⟨q',h1,h2⟩:=D.kaT j hj;have:=Sv D.rlen h1;refine⟨q',by rw[hrc,if_neg (by omega)];exact h1,?_⟩;rw[if_neg (by omega)];exact h2
 .rw [hrc]at hq';split at hq'
  .cases hq';refine⟨by rw[hq];exact Nat.le_refl _,fun h3=>?_⟩;rw[hk]at h3;cases h3
  .exact D.rk c q' hq'
 .rw [hrc]at h1 h2;split at h1
  .split at h2
   .omega
   .have:=Sv D.rlen h2;omega
  .split at h2
   .cases h2;obtain⟨a,b⟩:=D.rk c q1 h1;rw[hq];exact⟨a,b⟩
   .exact D.rm c c' q1 q2 hlt h1 h2
 .obtain ⟨c,q',h1,h2⟩:=D.rw k hk;refine⟨c,q',?_,h2⟩;rw[hrc,if_neg (by have:=Sv D.rlen h1;omega)];exact h1
 .rw [hrc]at hq';split at hq'
  .cases hq';exact .inl (.inr hk)
  .rename_i Yp;have hci:=Sv D.rlen hq';rcases D.rc c q' hq' with h | ⟨h1,h2,⟨ZF,h3,h4,h5⟩ | hb⟩ | h
   .exact .inl h
   .refine .inr (.inl ⟨h1,h2,.inl ⟨ZF,fun Zy s' hz=>?_,fun j hj hb=>?_,h5⟩⟩)
    .obtain ⟨ow,a,b⟩:=h3 Zy s' hz;exact⟨ow,hE _ _ a,b⟩
    .rw [Zeu,Bool.or_eq_true]at hb;rcases hb with hb | hb
     .exact h4 j hj hb
     .rw [Nat.beq_eq]at hb;subst hb
      have hsz:j < ops.size:=by
       obtain⟨h6,_⟩:=List.getElem?_eq_some_iff.1 ho;simpa using h6
      have:=D2 c j (by omega) hj;omega
   .exact .inr (.inl ⟨h1,h2,.inr hb⟩)
   .exact .inr (.inr h)
def hid (B M vis q:Nat):Prop:=B<=q/\q < M/\vis.testBit (q - B)=false
theorem Ztt {vis q:Nat}(h:hid B M vis q):(view B M vis S).get q=none:=by
 obtain⟨h1,h2,h3⟩:=h;have e1:Nat.ble B q=true:=by rw[Nat.ble_eq];exact h1
 have e2:Nat.blt q M=true:=by rw[Nat.blt_eq];exact h2
 simp[view,X0,e1,e2,h3]
theorem U9 {vis q:Nat}(h:¬ hid B M vis q):(view B M vis S).get q=S.get q:=by
 unfold view X0;simp only;cases e1:Nat.ble B q&&Nat.blt q M with
 |false=>rfl
 |true=>
  rw[Bool.and_eq_true,Nat.ble_eq,Nat.blt_eq]at e1;cases e2:vis.testBit (q - B) with
  |true=>rfl
  |false=>exact absurd ⟨e1.1,e1.2,e2⟩ h
theorem over_get {vis q:Nat}:(hid B M vis q->(over B M vis S vh').get q=S.get q)/\(¬ hid B M vis q->(over B M vis S vh').get q=vh'.get q):=by
 unfold over;simp only;constructor
 .rintro ⟨h1,h2,h3⟩;have e1:Nat.ble B q=true:=by rw[Nat.ble_eq];exact h1
  have e2:Nat.blt q M=true:=by rw[Nat.blt_eq];exact h2
  simp[e1,e2,h3]
 .intro h;cases e1:Nat.ble B q&&Nat.blt q M with
  |false=>simp
  |true=>
   rw[Bool.and_eq_true,Nat.ble_eq,Nat.blt_eq]at e1;cases e2:vis.testBit (q - B) with
   |true=>simp
   |false=>exact absurd ⟨e1.1,e1.2,e2⟩ h
theorem DI.lhs (D:DI C cf yf K ops B M YA Z0 h0 Wt i s st E LH ka ρ S rest)(D3:∀i j k,i < ops.size->Vr (Region.before ops) i j=true->Vr (Region.before ops) j k=true->Vr (Region.before ops) i k=true)(hi:i < ops.size)
  (h1:∀c,(c,true)∈s.st->Vr (Region.before ops) i c=true) (h2:∀c∈s.made,Vr (Region.before ops) i c=true) (j:Nat) (hj:LH j=true):Vr (Region.before ops) i j=true:=by
 obtain⟨c,hc,hm⟩:=D.lh j hj;have hic:Vr (Region.before ops) i c=true:=hc.elim (h1 c) (h2 c);unfold Qw at hm;rw[Bool.or_eq_true]at hm;rcases hm with hm | hm
 .exact D3 i c j hi hic hm
 .rw [Nat.beq_eq]at hm;subst hm;exact hic
theorem DI.place (D:DI C cf yf K ops B M YA Z0 h0 Wt i s st E LH ka ρ S rest)(h2:∀c∈s.made,Vr (Region.before ops) i c=true){id:Nat}{y:Nat×PO}(hy:s.h.get id=some y):¬ hid B M ((Region.before ops).getD i 0&&&st.made) (ρ id):=by
 rintro⟨a,b,c⟩;obtain⟨d,hd,e⟩:=D.pl id y hy a b;rw[e,Nat.add_sub_cancel_left,Nat.testBit_and,(D.md d hd).2,Bool.and_true]at c;have:=h2 d hd;unfold Vr at this;rw[this]at c;cases c
theorem DI.seen (D:DI C cf yf K ops B M YA Z0 h0 Wt i s st E LH ka ρ S rest)(D3:∀i j k,i < ops.size->Vr (Region.before ops) i j=true->Vr (Region.before ops) j k=true->Vr (Region.before ops) i k=true)(hi:i < ops.size){Zy:Nat}{s':SE}(h:zr E (Vr (Region.before ops) i) Zy=some s')(hB:B<=S.next):¬ hid B M ((Region.before ops).getD i 0&&&st.made) Zy:=by
 rintro⟨a,b,c⟩;obtain⟨ow,h1,h2⟩:=X7.1 h;cases ow with
 |none=>have:=D.eN _ _ h1;omega
 |some j=>
  rcases D.eO _ _ _ h1 with⟨d,e,_⟩ | ⟨d,_⟩
  .subst d;rw[Nat.add_sub_cancel_left,Nat.testBit_and,e,Bool.and_true]at c;have:=h2 j rfl;unfold Vr at this;rw[this]at c;cases c
  .rcases d with d | d | ⟨g,hg,d,hm⟩
   .omega
   .omega
   .subst d;rw[Nat.add_sub_cancel_left,Nat.testBit_and,(D.md g hg).2,Bool.and_true]at c;have:=D3 i j g hi (h2 j rfl) hm;unfold Vr at this;rw[this]at c;cases c
theorem DI.pnone (D:DI C cf yf K ops B M YA Z0 h0 Wt i s st E LH ka ρ S rest){id:Nat}{y:Nat×PO}(hM:B+i<=M)(hy:s.h.get id=some y)(hz:zr E LH (ρ id)=none):E (ρ id)=none:=by
 cases e:E (ρ id) with
 |none=>rfl
 |some z=>
  obtain⟨s',ow⟩:=z
  have:∀j,ow=some j->LH j=true:=by
   intro j hj;subst hj;rcases D.eO _ _ _ e with⟨a,b,c,g⟩ | ⟨a,b⟩
   .exfalso;have:=D.mb j b;obtain⟨d,hd,e2⟩:=D.pl id y hy (by omega) (by omega);have:d=j:=by omega
    subst this;exact g hd
   .exact D.lhF j b
  rw[X7.2 ⟨ow,e,this⟩]at hz;cases hz
end
section
variable {C:Ctx}{cf yf:Nat->List Value->VH->Option (Value×VH)}{K:Loc}{n:Nat}{ops:Array Oper}{B M:Nat}{YA:Nat->Nat}{Z0:Vf}{h0:PH}{Wt:VH}
 {i:Nat} {s:PD} {st:DSt} {E E':Ent} {LH LH':Nat->Bool} {ka:Nat->Nat} {ρ YB:Nat->Nat} {h h':PH} {S S' vh':VH} {rest:List VH} {o:Oper} {x:PV} {v:Value} {sl:Yt} {Y4:SL} {Z':Vf}
theorem DI.viewHP (D:DI C cf yf K ops B M YA Z0 h0 Wt i s st E LH ka ρ S rest)(D3:∀i j k,i < ops.size->Vr (Region.before ops) i j=true->Vr (Region.before ops) j k=true->Vr (Region.before ops) i k=true)(hi:i < ops.size)(hM:B+i<=M)
  (h1:∀c,(c,true)∈s.st->Vr (Region.before ops) i c=true) (h2:∀c∈s.made,Vr (Region.before ops) i c=true):HP C ρ (zr E (Vr (Region.before ops) i)) (view B M ((Region.before ops).getD i 0&&&st.made) S) s.h:=by
 have hSM:M<=S.next:=D.sm _ _ (Vn D);have hle:Vf.le (zr E LH) (zr E (Vr (Region.before ops) i)):=Za8 (fun _ _ h=>h) (D.lhs D3 hi h1 h2);refine⟨D.hp.lt,D.hp.inj,fun q y hy=>?_,fun Zy s' hs=>?_,fun id Zc ob Tn=>?_,Nat.le_refl _⟩
 .by_cases e:hid B M ((Region.before ops).getD i 0&&&st.made) q
  .rw [Ztt e]at hy;cases hy
  .rw [U9 e]at hy;exact D.hp.vlt q y hy
 .rw [U9 (D.seen D3 hi hs (by omega))];obtain⟨ow,a,b⟩:=X7.1 hs;refine D.sg st.k S Zy s' ow (Vn D) a fun j hj=>?_
  subst hj;rcases D.eO _ _ _ a with⟨_,_,c,_⟩ | ⟨_,c⟩
  .omega
  .obtain ⟨q,k1,k2⟩:=D.kaT j c;have:=D.rk j q k1;rcases k2 with⟨_,k2⟩ | ⟨k3,k2⟩
   .omega
   .have:=this.2 k3;omega
 .refine (D.hp.obj id Zc ob Tn).mono (Rd.refl _ _) hle (fun hz=>?_) (fun _=>U9 (D.place h2 Tn)) (Nat.le_refl _) (Nat.le_refl _);have:=D.pnone hM Tn hz;unfold zr;rw[this]
theorem DI.write (D:DI C cf yf K ops B M YA Z0 h0 Wt i s st E LH ka ρ S rest)(D3:∀i j k,i < ops.size->Vr (Region.before ops) i j=true->Vr (Region.before ops) j k=true->Vr (Region.before ops) i k=true)(hi:i < ops.size)(hM:B+i < M)(hB:B=Wt.next)
  (H0:∀i y,h0.get i=some y->YA i < Wt.next) (ho:ops.toList[i]?=some o) (h1:∀c w,(c,w)∈s.st->Vr (Region.before ops) i c=true) (h2:∀c∈s.made,Vr (Region.before ops) i c=true)
  (st1:St C K ρ (zr E (Vr (Region.before ops) i)) s.h (view B M ((Region.before ops).getD i 0&&&st.made) S) YB Z' h' vh') (hR:R C YB (Zp h') Z' x v)
  (hS1:∀q,hid B M ((Region.before ops).getD i 0&&&st.made) q->S'.get q=S.get q) (hS2:∀q,¬ hid B M ((Region.before ops).getD i 0&&&st.made) q->S'.get q=vh'.get q) (hSn:S'.next=vh'.next) (W4:S'.wr<=S.wr) (Vj:∀q,q < Wt.next->vh'.wr<=q->S'.wr<=q) (hw3:∀b,b<=S.wr->b<=vh'.wr->b<=S'.wr)
  {wtn:List (Nat×Option (List Nat×Nat))} {q:Rec} (hq:q.k=st.k) {k':Nat} {Re:List VH} (hkk:(q.kind=2/\k'=st.k/\Re=rest/\S'=S)\/(q.kind=3/\k'=st.k+1/\Re=S::rest)):
  ∃E' LH' ka',DI C cf yf K ops B M YA Z0 h0 Wt (i+1) {s with sl:=putP s.sl o.dst x,h:=h',st:=(i,true)::s.st,wt:=wtn} {st with sl:=putV st.sl o.dst v,recs:=q::st.recs,hs:=S'::Re,k:=k'} E' LH' ka' YB S' Re:=by
 classical
 have hSM:M<=S.next:=D.sm _ _ (Vn D)
 let vis:=(Region.before ops).getD i 0&&&st.made
 have h1':∀c,(c,true)∈s.st->Vr (Region.before ops) i c=true:=fun c hc=>h1 c true hc
 have hVn:(view B M vis S).next=S.next:=rfl
 have Z77:∀id y,h'.get id=some y->¬ hid B M vis (YB id):=by
  intro id y hy;rcases st1.plc id y hy with⟨⟨z,hz⟩,e⟩ | e
  .rw [e];exact D.place h2 hz
  .rintro ⟨_,a,_⟩;have:S.next<=YB id:=e;omega
 have Z85:∀Zy,hid B M vis Zy->Z' Zy=none:=by
  intro Zy hh;cases e:Z' Zy with
  |none=>rfl
  |some s'=>
   have:=st1.hp.sig Zy s' e;rw[st1.vnone Zy (by rw[hVn];have:=hh.2.1;omega) (Ztt hh) fun id y hy e2=>D.place h2 hy (e2 ▸ hh)]at this;cases this
 let E':Ent:=fun Zy=>match E Zy with
  |some y=>some y
  |none=>(Z' Zy).map fun s'=>(s',some i)
 have hE:∀Zy y,E Zy=some y->E' Zy=some y:=fun Zy y hy=>by simp only[E',hy]
 have hE':∀Zy y,E' Zy=some y->E Zy=some y\/(E Zy=none/\Z' Zy=some y.1/\y.2=some i):=by
  intro Zy y hy;simp only[E']at hy;split at hy
  .rename_i z hz;cases hy;exact .inl hz
  .rename_i hz;rw[Option.map_eq_some_iff]at hy;obtain⟨s',a,rfl⟩:=hy;exact .inr ⟨hz,a,rfl⟩
 have Xa:∀Zy s' ow,E Zy=some (s',ow)->¬ hid B M vis Zy->zr E (Vr (Region.before ops) i) Zy=some s':=by
  intro Zy s' ow he hh;refine X7.2 ⟨ow,he,fun j hj=>?_⟩;subst hj;rcases D.eO _ _ _ he with⟨a,b,_⟩ | ⟨_,b⟩
  .have hji:=D.mb j b;cases e:Vr (Region.before ops) i j with
   |true=>rfl
   |false=>
    refine absurd ⟨by omega,by omega,?_⟩ hh;rw[a,Nat.add_sub_cancel_left,Nat.testBit_and];unfold Vr at e;rw[e];rfl
  .exact h1' j b
 have hZ:∀Zy s',Z' Zy=some s'↔zr E' (Qw (Region.before ops) i) Zy=some s':=by
  intro Zy s';constructor
  .intro hz;cases e:E Zy with
   |none=>exact X7.2 ⟨some i,by simp only[E',e,hz,Option.map_some],fun j hj=>by cases hj;simp[Qw]⟩
   |some y=>
    obtain⟨s2,ow⟩:=y;have hh:¬ hid B M vis Zy:=fun hh=>by rw[Z85 Zy hh]at hz;cases hz
    have a:=Xa Zy s2 ow e hh;have b:=st1.sig _ _ a;rw[hz]at b;cases b;obtain⟨ow',c,d⟩:=X7.1 a;exact X7.2 ⟨ow',hE _ _ c,fun j hj=>by unfold Qw;rw[d j hj];rfl⟩
  .intro hz;obtain⟨ow,a,b⟩:=X7.1 hz;rcases hE' _ _ a with c | ⟨_,c,_⟩
   .refine st1.sig _ _ (X7.2 ⟨ow,c,fun j hj=>?_⟩);have:=b j hj;unfold Qw at this;rw[Bool.or_eq_true]at this;rcases this with h | h
    .exact h
    .rw [Nat.beq_eq]at h;subst h;subst hj;rcases D.eO _ _ _ c with⟨_,e,_⟩ | ⟨_,e⟩
     .have:=D.mb _ e;omega
     .have:=D.sti _ _ e;omega
   .exact c
 have hZeq:Z'=zr E' (Qw (Region.before ops) i):=by
  funext Zy;cases e:zr E' (Qw (Region.before ops) i) Zy with
  |some s'=>exact (hZ Zy s').2 e
  |none=>
   cases e2:Z' Zy with
   |none=>rfl
   |some s'=>rw[(hZ Zy s').1 e2]at e;cases e
 let LH':Nat->Bool:=fun j=>LH j||Qw (Region.before ops) i j
 have hSM':M<=S'.next:=by rw[hSn];have:S.next<=vh'.next:=st1.vnext;omega
 have Zdj:∀Zy y,E' Zy=some y->S'.get Zy=some (.row y.1.cells y.1.e y.1.own):=by
  intro Zy y hy;obtain⟨s',ow⟩:=y;by_cases hh:hid B M vis Zy
  .rw [hS1 Zy hh];rcases hE' _ _ hy with c | ⟨_,c,_⟩
   .refine D.sg st.k S Zy s' ow (Vn D) c fun j hj=>?_
    subst hj;rcases D.eO _ _ _ c with⟨_,_,e,_⟩ | ⟨_,e⟩
    .omega
    .obtain ⟨q1,k1,k2⟩:=D.kaT j e;have:=D.rk j q1 k1;rcases k2 with⟨_,k2⟩ | ⟨k3,k2⟩
     .omega
     .have:=this.2 k3;omega
   .rw [Z85 Zy hh]at c;cases c
  .rw [hS2 Zy hh];rcases hE' _ _ hy with c | ⟨_,c,_⟩
   .exact st1.hp.sig _ _ (st1.sig _ _ (Xa Zy s' ow c hh))
   .exact st1.hp.sig _ _ c
 have hp':HP C YB (zr E' LH') S' h':=by
  refine⟨st1.hp.lt,st1.hp.inj,fun p y hy=>?_,fun Zy s' hs=>?_,fun id Zc ob Tn=>?_,?_⟩
  .by_cases hh:hid B M vis p
   .rw [hS1 p hh]at hy;have:=D.hp.vlt p y hy;rw[hSn];have:S.next<=vh'.next:=st1.vnext;omega
   .rw [hS2 p hh]at hy;rw[hSn];exact st1.hp.vlt p y hy
  .obtain ⟨ow,a,_⟩:=X7.1 hs;exact Zdj Zy _ a
  .refine (st1.hp.obj id Zc ob Tn).mono (Rd.refl _ _) ?_ (fun hz=>?_) (fun _=>hS2 _ (Z77 id _ Tn)) (Nat.le_refl _) (by rw[hSn];exact Nat.le_refl _)
   .rw [hZeq];exact Za8 (fun _ _ h=>h) fun j hj=>by simp only[LH',hj,Bool.or_true]
   .have hh:=Z77 id _ Tn;cases e:E' (YB id) with
    |none=>unfold zr;rw[e]
    |some y=>
     exfalso;obtain⟨s',ow⟩:=y;rcases hE' _ _ e with c | ⟨_,c,_⟩
     .rw [st1.sig _ _ (Xa _ s' ow c hh)]at hz;cases hz
     .rw [c]at hz;cases hz
  .rcases hkk with⟨_,_,_,e⟩ | ⟨_,_,_⟩
   .rw [e];exact D.hp.wr
   .rw [hSn];have:=D.hp.wr;have:S.next<=vh'.next:=st1.vnext;omega
 have hsx:SX K YA h0 Wt YB h' S':=D.sx.step (hid:=hid B M vis) H0 (fun p hp=>by have:=hp.1;omega) (by omega) st1 hVn rfl (fun p hp=>U9 hp) (fun p hp=>hS2 p hp) W4 Vj hw3
 let ka':Nat->Nat:=fun j=>if j=i then k' else ka j
 have hka:∀j,j < i->ka' j=ka j:=fun j hj=>by simp only[ka'];rw[if_neg (by omega)]
 have hrc:=fun c=>Zad (st:=st) (st':={st with sl:=putV st.sl o.dst v,recs:=q::st.recs,hs:=S'::Re,k:=k'}) (q:=q) rfl D.rlen c
 have hkle:st.k<=k':=by rcases hkk with⟨_,e,_⟩ | ⟨_,e,_⟩<;>omega
 have hsgc:∀k SS,sgP {st with sl:=putV st.sl o.dst v,recs:=q::st.recs,hs:=S'::Re,k:=k'} k=some SS->(k=k'/\SS=S')\/(k < k'/\sgP st k=some SS/\(q.kind=2->k < st.k)):=by
  intro k SS hk;unfold sgP at hk ⊢;rcases hkk with⟨a,b,c,d⟩ | ⟨a,b,c⟩
  .simp only [List.reverse_cons]at hk;rcases Nat.lt_or_ge k st.k with h5 | h5
   .refine .inr ⟨by omega,?_,fun _=>h5⟩;rw[List.getElem?_append_left (by simp[c,D.hlen,h5])]at hk;rw[D.hs,List.reverse_cons,List.getElem?_append_left (by simp[D.hlen,h5]),<- c];exact hk
   .rw [List.getElem?_append_right (by simp[c,D.hlen,h5])]at hk;simp only[List.length_reverse,c,D.hlen]at hk
    have:k=st.k:=by
     rcases Nat.lt_or_ge (k - st.k) 1 with h6 | h6
     .omega
     .rw [List.getElem?_eq_none (by simp;omega)]at hk;cases hk
    subst this;simp at hk;exact .inl ⟨b.symm,hk.symm⟩
  .simp only [List.reverse_cons,c]at hk;rcases Nat.lt_or_ge k (st.k+1) with h5 | h5
   .refine .inr ⟨by omega,?_,fun h=>by rw[a]at h;cases h⟩;rw[List.getElem?_append_left (by simp[D.hlen];omega)]at hk;rw[D.hs,List.reverse_cons];exact hk
   .rw [List.getElem?_append_right (by simp[D.hlen];omega)]at hk;simp only[List.length_append,List.length_reverse,D.hlen,List.length_cons,List.length_nil]at hk
    have:k=st.k+1:=by
     rcases Nat.lt_or_ge (k - (st.k+1)) 1 with h6 | h6
     .omega
     .rw [List.getElem?_eq_none (by simp;omega)]at hk;cases hk
    subst this;simp at hk;exact .inl ⟨b.symm,hk.symm⟩
 refine⟨E',LH',ka',rfl,?_,by simp[D.rlen],fun k SS hk=>?_,hp',fun Zy s' h=>hE _ _ (D.e0 Zy s' h),fun Zy s' h=>?_,fun Zy s' j h=>?_,D.slot.push ho (by rw[<- hZeq];exact hR) st1.ext hE,fun j hj=>?_,fun j hj=>?_,fun c hc=>?_,fun id y hy ha hb=>?_,fun c hc=>by have:=D.mb c hc;omega,fun c hc=>(D.ml c hc).imp id fun⟨y,h⟩=>⟨y,hE _ _ h⟩,fun c k SS hc hcM hS=>?_,fun c w hc=>?_,
  fun k SS Zy s' ow hS h hk=>?_,fun j hj=>?_,fun c w c' w' g1 g2 hlt hw=>?_,fun c q' hq'=>?_,fun c c' q1 q2 hlt g1 g2=>?_,fun k hk=>?_,fun c q' hq'=>?_,hsx⟩
 .rcases hkk with⟨_,b,c,_⟩ | ⟨_,b,c⟩
  .rw [c];exact D.hlen.trans b.symm
  .rw [c];simp[D.hlen,b]
 .rcases hsgc k SS hk with⟨_,e⟩ | ⟨_,e,_⟩
  .rw [e];exact hSM'
  .exact D.sm k SS e
 .rcases hE' _ _ h with c | ⟨_,_,c⟩
  .exact D.eN _ _ c
  .cases c
 .rcases hE' _ _ h with c | ⟨hn,c,d⟩
  .rcases D.eO _ _ _ c with⟨a,b,d,e⟩ | ⟨a,b⟩
   .exact .inl ⟨a,b,by rw[hka j (D.mb j b)];exact d,e⟩
   .exact .inr ⟨a,List.mem_cons_of_mem _ b⟩
  .cases d;refine .inr ⟨?_,by simp⟩;rcases Nat.lt_or_ge Zy B with h5 | h5
   .exact .inl h5
   .rcases Nat.lt_or_ge Zy M with h6 | h6
    .right;right;have hh:¬ hid B M vis Zy:=fun hh=>by rw[Z85 Zy hh]at c;cases c
     have Z83:Vr (Region.before ops) i (Zy - B)=true/\st.made.testBit (Zy - B)=true:=by
      cases e:vis.testBit (Zy - B) with
      |false=>exact absurd ⟨h5,h6,e⟩ hh
      |true=>
       simp only[vis,Nat.testBit_and,Bool.and_eq_true]at e;exact e
     rcases D.ml _ Z83.2 with h7 | ⟨y,h7⟩
     .exact ⟨Zy - B,h7,by omega,Z83.1⟩
     .rw [show B+(Zy - B)=Zy by omega,hn]at h7;cases h7
    .exact .inr (.inl h6)
 .simp only [LH',Bool.or_eq_true]at hj;rcases hj with hj | hj
  .obtain ⟨c,a,b⟩:=D.lh j hj;exact⟨c,a.imp (fun h=>List.mem_cons_of_mem _ h) id,b⟩
  .exact ⟨i,.inl (by simp),hj⟩
 .simp only [LH',Bool.or_eq_true];rcases List.mem_cons.1 hj with h | h
  .cases h;right;simp[Qw]
  .exact .inl (D.lhF j h)
 .obtain ⟨a,b⟩:=D.md c hc;exact⟨by omega,b⟩
 .rcases st1.plc id y hy with⟨⟨z,hz⟩,e⟩ | e
  .rw [e]at ha hb ⊢;exact D.pl id z hz ha hb
  .have:S.next<=YB id:=e;omega
 .rcases hsgc k SS hS with⟨_,e⟩ | ⟨_,e,_⟩
  .have hh:hid B M vis (B+c):=⟨by omega,hcM,by
    rw[Nat.add_sub_cancel_left,Nat.testBit_and];have:st.made.testBit c=false:=hc;rw[this,Bool.and_false]⟩
   rw[e,hS1 _ hh];exact D.no c st.k S hc hcM (Vn D)
  .exact D.no c k SS hc hcM e
 .rcases List.mem_cons.1 hc with h | h
  .cases h;omega
  .have:=D.sti c w h;omega
 .rcases hsgc k SS hS with⟨_,e⟩ | ⟨h5,e,h6⟩
  .rw [e];exact Zdj Zy _ h
  .rcases hE' _ _ h with c | ⟨_,_,c⟩
   .refine D.sg k SS Zy s' ow e c fun j hj=>?_
    have:=hk j hj;subst hj;rw[hka]at this
    .exact this
    .rcases D.eO _ _ _ c with⟨_,g,_⟩ | ⟨_,g⟩
     .exact D.mb j g
     .exact D.sti j _ g
   .exfalso;have:=hk i c;simp only[ka',if_true]at this;omega
 .rcases List.mem_cons.1 hj with h | h
  .cases h;refine⟨q,by rw[hrc,if_pos rfl],?_⟩;simp only[ka',if_true];rcases hkk with⟨a,b,_⟩ | ⟨a,b,_⟩
   .exact .inl ⟨a,by rw[hq];exact b⟩
   .exact .inr ⟨a,by rw[hq];exact b⟩
  .obtain ⟨q',g1,g2⟩:=D.kaT j h;have:=Sv D.rlen g1;refine⟨q',by rw[hrc,if_neg (by omega)];exact g1,?_⟩;rw[hka j this];exact g2
 .rcases List.mem_cons.1 g1 with h | h
  .cases h;rcases List.mem_cons.1 g2 with h | h
   .cases h;omega
   .exact h1 c' w' h
  .rcases List.mem_cons.1 g2 with h' | h'
   .cases h';have:=D.sti c w h;omega
   .exact D.ord c w c' w' h h' hlt hw
 .rw [hrc]at hq';split at hq'
  .cases hq';refine⟨by rw[hq];exact hkle,fun h3=>?_⟩;rcases hkk with⟨a,_⟩ | ⟨_,b,_⟩
   .rw [a]at h3;cases h3
   .show q.k < k';omega
  .obtain ⟨a,b⟩:=D.rk c q' hq';exact⟨Nat.le_trans a hkle,fun h3=>Nat.lt_of_lt_of_le (b h3) hkle⟩
 .rw [hrc]at g1 g2;split at g1
  .split at g2
   .omega
   .have:=Sv D.rlen g2;omega
  .split at g2
   .cases g2;obtain⟨a,b⟩:=D.rk c q1 g1;rw[hq];exact⟨a,b⟩
   .exact D.rm c c' q1 q2 hlt g1 g2
 .rcases Nat.lt_or_ge k st.k with h5 | h5
  .obtain ⟨c,q',g1,g2⟩:=D.rw k h5;refine⟨c,q',?_,g2⟩;rw[hrc,if_neg (by have:=Sv D.rlen g1;omega)];exact g1
  .rcases hkk with⟨_,b,_⟩ | ⟨a,b,_⟩
   .have hk':k < k':=hk;omega
   .have hk':k < k':=hk;exact⟨i,q,by rw[hrc,if_pos rfl],a,by rw[hq];omega⟩
 .rw [hrc]at hq';split at hq'
  .rename_i e;cases hq';subst e;rcases hkk with⟨a,_⟩ | ⟨a,_⟩
   .exact .inr (.inr ⟨true,by simp,.inl a⟩)
   .exact .inr (.inr ⟨true,by simp,.inr ⟨a,rfl⟩⟩)
  .rcases D.rc c q' hq' with g | ⟨g1,g2,⟨ZF,g3,g4,g5⟩ | gb⟩ | ⟨w,g1,g2⟩
   .exact .inl g
   .refine .inr (.inl ⟨g1,g2,.inl ⟨ZF,fun Zy s' hz=>?_,g4,g5⟩⟩);obtain⟨ow,a,b⟩:=g3 Zy s' hz;exact⟨ow,hE _ _ a,b⟩
   .exact .inr (.inl ⟨g1,g2,.inr gb⟩)
   .exact .inr (.inr ⟨w,List.mem_cons_of_mem _ g1,g2⟩)
end
def Zz0 (st:DSt)(q:Rec)(Zy:Nat):Prop:=q.kind=3->∀A A',sgP st q.k=some A->sgP st (q.k+1)=some A'->A'.get Zy=A.get Zy
section
variable (C:Ctx)(cf yf:Nat->List Value->VH->Option (Value×VH))(ops:Array Oper)(B M:Nat)(YA:Nat->Nat)(h0:PH)
def Zahv (st:DSt)(q:Rec)(Zy:Nat):Prop:=∀A,sgP st q.k=some A->∀S':VH,S'.get Zy=A.get Zy->Xn C cf yf q.pk (view B M q.vis S') q.o=some (q.v,view B M q.vis S')
structure BI (s:PD)(st:DSt):Prop where
 ol:∀u,s.old u=(h0.get u).map (·.1)
 rb:∀c u,(c,u)∈s.rb->(∃x,h0.get u=some x)/\∃q,rcP st c=some q/\q.kind=2/\Zahv C cf yf B M st q (YA u)
 we:∀j,(j,true)∈s.st->∃t,(j,t)∈s.wt
 wt:∀j t,(j,t)∈s.wt->∃q,rcP st j=some q/\∀u,s.cur u=true->Wk t u=true->Zz0 st q (YA u)
 rw:∀c u j t,(c,u)∈s.rb->(j,t)∈s.wt->Vr (Region.before ops) c j=true\/Vr (Region.before ops) j c=true\/∃q,rcP st j=some q/\Zz0 st q (YA u)
end
section
variable {C:Ctx}{cf yf:Nat->List Value->VH->Option (Value×VH)}{K:Loc}{n:Nat}{ops:Array Oper}{B M:Nat}{YA:Nat->Nat}{Z0:Vf}{h0:PH}{Wt:VH}
 {i:Nat} {s s':PD} {st st':DSt} {E E':Ent} {LH LH':Nat->Bool} {ka:Nat->Nat} {ρ YB:Nat->Nat} {h h':PH} {S S' vh':VH} {rest:List VH} {o:Oper} {x:PV} {v:Value} {sl:Yt} {Y4:SL} {Z':Vf}
theorem BI.stay_mono (D:DI C cf yf K ops B M YA Z0 h0 Wt i s st E LH ka ρ S rest)(hsg:∀k A,k<=st.k->sgP st' k=some A->∃A0,sgP st k=some A0/\∀u,(∃x,h0.get u=some x)->A.get (YA u)=A0.get (YA u))
  {j u:Nat} {q:Rec} (hq:rcP st j=some q) (hu:∃x,h0.get u=some x) (hs:Zz0 st q (YA u)):Zz0 st' q (YA u):=by
 intro h3 A A' hA Vb;have:=(D.rk j q hq).2 h3;obtain⟨A0,a1,a2⟩:=hsg _ _ (by omega) hA;obtain⟨A1,b1,b2⟩:=hsg _ _ (by omega) Vb;rw[a2 u hu,b2 u hu];exact hs h3 A0 A1 a1 b1
theorem PD.cur_old (b:BI C cf yf ops B M YA h0 s st){u:Nat}(hc:s.cur u=true):∃x,h0.get u=some x:=by
 unfold PD.cur at hc;split at hc
 .rename_i v ob w h1 h2;rw[b.ol]at h2;cases hx:h0.get u with
  |none=>rw[hx]at h2;cases h2
  |some x=>exact⟨x,rfl⟩
 .cases hc
theorem BI.step (D:DI C cf yf K ops B M YA Z0 h0 Wt i s st E LH ka ρ S rest)(b:BI C cf yf ops B M YA h0 s st)(hrc:∀c q,rcP st c=some q->rcP st' c=some q)
  (hsg:∀k A,k<=st.k->sgP st' k=some A->∃A0,sgP st k=some A0/\∀u,(∃x,h0.get u=some x)->A.get (YA u)=A0.get (YA u))
  (Xa:s'.old=s.old) (Znh:∀u,s'.cur u=true->s.cur u=true) (hrb:s'.rb=s.rb) (hwt:s'.wt=s.wt) (Xr:∀j,(j,true)∈s'.st->(j,true)∈s.st):BI C cf yf ops B M YA h0 s' st':=by
 refine⟨fun u=>by rw[Xa];exact b.ol u,fun c u hc=>?_,fun j hj=>?_,fun j t hj=>?_,fun c u j t hc hj=>?_⟩
 .rw [hrb]at hc;obtain⟨hu,q,h1,h2,h3⟩:=b.rb c u hc;refine⟨hu,q,hrc _ _ h1,h2,fun A hA S' hS=>?_⟩;obtain⟨A0,a1,a2⟩:=hsg _ _ (D.rk c q h1).1 hA;exact h3 A0 a1 S' (by rw[hS,a2 u hu])
 .obtain ⟨t,ht⟩:=b.we j (Xr j hj);exact⟨t,by rw[hwt];exact ht⟩
 .rw [hwt]at hj;obtain⟨q,h1,h2⟩:=b.wt j t hj;refine⟨q,hrc _ _ h1,fun u hc ha=>?_⟩;have hc':=Znh u hc;exact BI.stay_mono D hsg h1 (PD.cur_old b hc') (h2 u hc' ha)
 .rw [hrb]at hc;rw[hwt]at hj;rcases b.rw c u j t hc hj with h1 | h1 | ⟨q,h1,h2⟩
  .exact .inl h1
  .exact .inr (.inl h1)
  .exact .inr (.inr ⟨q,hrc _ _ h1,BI.stay_mono D hsg h1 (b.rb c u hc).1 h2⟩)
theorem BI.addRb (b:BI C cf yf ops B M YA h0 s st){u:Nat}{q:Rec}(hq:rcP st i=some q)(h2:q.kind=2)(hl:Zahv C cf yf B M st q (YA u))(Znh:s.cur u=true)
  (Zek:∀j t,(j,t)∈s.wt->Vr (Region.before ops) i j=true\/Wk t u=true):BI C cf yf ops B M YA h0 {s with rb:=(i,u)::s.rb} st:=by
 refine⟨b.ol,fun c u' hc=>?_,b.we,b.wt,fun c u' j t hc hj=>?_⟩
 .rcases List.mem_cons.1 hc with e | hc
  .cases e;exact⟨PD.cur_old b Znh,q,hq,h2,hl⟩
  .exact b.rb c u' hc
 .rcases List.mem_cons.1 hc with e | hc
  .cases e;rcases Zek j t hj with h | h
   .exact .inl h
   .obtain ⟨q',h1,h2⟩:=b.wt j t hj;exact .inr (.inr ⟨q',h1,h2 u Znh h⟩)
  .exact b.rw c u' j t hc hj
theorem BI.addWt (b:BI C cf yf ops B M YA h0 s st){t:Option (List Nat×Nat)}{q:Rec}(hq:rcP st i=some q)(h1:∀u,s.cur u=true->Wk t u=true->Zz0 st q (YA u))
  (h2:∀c u,(c,u)∈s.rb->Vr (Region.before ops) i c=true\/Zz0 st q (YA u)):BI C cf yf ops B M YA h0 {s with st:=(i,true)::s.st,wt:=(i,t)::s.wt} st:=by
 refine⟨b.ol,b.rb,fun j hj=>?_,fun j t' hj=>?_,fun c u j t' hc hj=>?_⟩
 .rcases List.mem_cons.1 hj with e | hj
  .cases e;exact⟨t,by simp⟩
  .obtain ⟨t',ht⟩:=b.we j hj;exact⟨t',List.mem_cons_of_mem _ ht⟩
 .rcases List.mem_cons.1 hj with e | hj
  .cases e;exact⟨q,hq,h1⟩
  .exact b.wt j t' hj
 .rcases List.mem_cons.1 hj with e | hj
  .cases e;rcases h2 c u hc with h | h
   .exact .inr (.inl h)
   .exact .inr (.inr ⟨q,hq,h⟩)
  .exact b.rw c u j t' hc hj
theorem Ze9 {u:Nat}:s.cur u=true↔∃v ob,s.h.get u=some (v,ob)/\s.old u=some v:=by
 unfold PD.cur;constructor
 .intro hc;split at hc
  .rename_i v ob w h1 h2;rw[Nat.beq_eq]at hc;exact⟨v,ob,h1,by rw[h2,hc]⟩
  .cases hc
 .rintro ⟨v,ob,h1,h2⟩;rw[h1,h2];simp
theorem Zet (Xa:s'.old=s.old)(ol:∀u,s.old u=(h0.get u).map (·.1))(e0:Rd YA (Zp h0) ρ (Zp s.h))(e:Rd ρ (Zp s.h) YB (Zp s'.h)){u:Nat}(hc:s'.cur u=true):s.cur u=true:=by
 rw[Ze9]at hc ⊢;obtain⟨v,ob,h1,h2⟩:=hc;rw[Xa]at h2;have h2':=h2;rw[ol,Option.map_eq_some_iff]at h2';obtain⟨⟨w',ob0⟩,hx,hw⟩:=h2';simp only at hw;subst hw;obtain⟨c1,a1,a2,_⟩:=e0 u w' (Zt.2 ⟨_,hx⟩);obtain⟨c2,b1,b2,_⟩:=e u c1 a1;obtain⟨ob1,a3⟩:=Zt.1 a1;rw[Zt.2 ⟨_,h1⟩]at b1;have:w'=c2:=by simpa using b1
 have:c1=w':=by omega
 subst this;exact⟨_,_,a3,h2⟩
theorem Zsl (ol:∀u,s.old u=(h0.get u).map (·.1))(e0:Rd YA (Zp h0) ρ (Zp s.h)){u:Nat}(hc:s.cur u=true):ρ u=YA u/\∃x,s.h.get u=some x:=by
 rw[Ze9]at hc;obtain⟨v,ob,h1,h2⟩:=hc;rw[ol,Option.map_eq_some_iff]at h2;obtain⟨⟨w',ob0⟩,hx,hw⟩:=h2;simp only at hw;subst hw;obtain⟨c1,a1,a2,a3⟩:=e0 u w' (Zt.2 ⟨_,hx⟩);rw[Zt.2 ⟨_,h1⟩]at a1;have:w'=c1:=by simpa using a1
 exact⟨a3 this.symm,_,h1⟩
theorem BI.quiet (D:DI C cf yf K ops B M YA Z0 h0 Wt i s st E LH ka ρ S rest)(b:BI C cf yf ops B M YA h0 s st){q:Rec}{vsl':SL}(Xa:s'.old=s.old)(hh:s'.h=s.h)(hrb:s'.rb=s.rb)(hwt:s'.wt=s.wt)(Xr:∀j,(j,true)∈s'.st->(j,true)∈s.st):
  BI C cf yf ops B M YA h0 s' {st with sl:=vsl',recs:=q::st.recs}:=by
 refine b.step D (fun c q' h=>?_) (fun k A _ hA=>⟨A,hA,fun _ _=>rfl⟩) Xa (fun u hu=>?_) hrb hwt Xr
 .rw [Zad (st:=st) (st':={st with sl:=vsl',recs:=q::st.recs}) rfl D.rlen c,if_neg (by have:=Sv D.rlen h;omega)];exact h
 .rw [Ze9]at hu ⊢
  rwa [hh,Xa]at hu
theorem BI.make (D:DI C cf yf K ops B M YA Z0 h0 Wt i s st E LH ka ρ S rest)(b:BI C cf yf ops B M YA h0 s st)(hB:B=Wt.next)(H0:∀i y,h0.get i=some y->YA i < Wt.next){q:Rec}{vsl':SL}{vo:Option VO}{md:Nat}(Xa:s'.old=s.old)(he:Rd ρ (Zp s.h) YB (Zp s'.h))(hrb:s'.rb=s.rb)(hwt:s'.wt=s.wt)(Xr:s'.st=s.st):
  BI C cf yf ops B M YA h0 s' {st with sl:=vsl',recs:=q::st.recs,hs:=st.hs.map (·.put (B+i) vo),made:=md}:=by
 refine b.step D (fun c q' h=>?_) (fun k A _ hA=>?_) Xa (fun u hu=>Zet Xa b.ol D.sx.ext he hu) hrb hwt (fun j hj=>by rw[Xr]at hj;exact hj)
 .rw [Zad (st:=st) (st':={st with sl:=vsl',recs:=q::st.recs,hs:=st.hs.map (·.put (B+i) vo),made:=md}) rfl D.rlen c,if_neg (by have:=Sv D.rlen h;omega)];exact h
 .unfold sgP at hA;rw[<- List.map_reverse,List.getElem?_map,Option.map_eq_some_iff]at hA;obtain⟨A0,h1,rfl⟩:=hA;refine⟨A0,h1,fun u hu=>?_⟩;obtain⟨x,hx⟩:=hu;have:=H0 u x hx;simp[VH.put,Sy (show YA u≠B+i by omega)]
theorem BI.write (D:DI C cf yf K ops B M YA Z0 h0 Wt i s st E LH ka ρ S rest)(b:BI C cf yf ops B M YA h0 s st){q:Rec}{vsl':SL}{k':Nat}{Re:List VH}{S':VH}{x:Yt}{t:Option (List Nat×Nat)}(hq:q.k=st.k)(hkk:(q.kind=2/\k'=st.k/\Re=rest/\S'=S)\/(q.kind=3/\k'=st.k+1/\Re=S::rest))
  (he:Rd ρ (Zp s.h) YB (Zp h')) (Zcd:∀u,s.cur u=true->Wk t u=true->S'.get (YA u)=S.get (YA u)) (Zek:∀c u,(c,u)∈s.rb->Vr (Region.before ops) i c=true\/(Wk t u=true/\s.cur u=true)):
  BI C cf yf ops B M YA h0 {s with sl:=x,h:=h',st:=(i,true)::s.st,wt:=(i,t)::s.wt} {st with sl:=vsl',recs:=q::st.recs,hs:=S'::Re,k:=k'}:=by
 have hrc:=fun c=>Zad (st:=st) (st':={st with sl:=vsl',recs:=q::st.recs,hs:=S'::Re,k:=k'}) (q:=q) rfl D.rlen c
 have Xa:∀k A,k<=st.k->sgP {st with sl:=vsl',recs:=q::st.recs,hs:=S'::Re,k:=k'} k=some A->sgP st k=some A:=by
  intro k A hk hA;unfold sgP at hA ⊢;rw[D.hs];rcases hkk with⟨_,_,c,d⟩ | ⟨_,_,c⟩
  .rw [c,d]at hA;exact hA
  .simp only [List.reverse_cons,c]at hA ⊢;rw[List.getElem?_append_left (by simp[D.hlen];omega)]at hA;exact hA
 have b1:BI C cf yf ops B M YA h0 {s with sl:=x,h:=h'} {st with sl:=vsl',recs:=q::st.recs,hs:=S'::Re,k:=k'}:=b.step D (fun c q' h=>by
   rw[hrc,if_neg (by have:=Sv D.rlen h;omega)];exact h) (fun k A hk hA=>⟨A,Xa k A hk hA,fun _ _=>rfl⟩) rfl (fun u hu=>Zet (s:=s) (s':={s with sl:=x,h:=h'}) rfl b.ol D.sx.ext he hu) rfl rfl (fun j hj=>hj)
 have Zagx:∀u,s.cur u=true->Wk t u=true->Zz0 {st with sl:=vsl',recs:=q::st.recs,hs:=S'::Re,k:=k'} q (YA u):=by
  intro u hu ha h3 A A' hA Vb;rcases hkk with⟨a,_⟩ | ⟨_,hk',hr⟩
  .rw [a]at h3;cases h3
  .have h1:=Xa _ _ (by omega) hA;rw[hq,Vn D]at h1;cases h1
   have h2:A'=S':=by
    unfold sgP at Vb;simp only[List.reverse_cons,hr]at Vb;rw[List.getElem?_append_right (by simp[D.hlen];omega)]at Vb;have:q.k+1 - (rest.reverse++[S]).length=0:=by simp[D.hlen];omega
    rw[this]at Vb;simpa using Vb.symm
   rw[h2];exact Zcd u hu ha
 exact b1.addWt (t:=t) (q:=q) (by rw[hrc,if_pos rfl]) (fun u hu ha=>Zagx u (Zet (s:=s) (s':={s with sl:=x,h:=h'}) rfl b.ol D.sx.ext he hu) ha) fun c u hc=>(Zek c u hc).imp id fun h=>Zagx u h.2 h.1
structure BU (YA:Nat->Nat)(h0:PH)(Wt:VH)(s:PD)(st:DSt):Prop where
 z0:∀S0,sgP st 0=some S0->∀u,(∃x,h0.get u=some x)->S0.get (YA u)=Wt.get (YA u)
 un:∀u,s.cur u=true->(∀j t,(j,t)∈s.wt->Wk t u=true)->s.h.get u=h0.get u
theorem BU.quiet (b:BU YA h0 Wt s st){q:Rec}{vsl':SL}(Xa:s'.old=s.old)(hh:s'.h=s.h)(hwt:s'.wt=s.wt):BU YA h0 Wt s' {st with sl:=vsl',recs:=q::st.recs}:=by
 refine⟨b.z0,fun u hu hw=>?_⟩
 have hc:s.cur u=true:=by
  rw[Ze9]at hu ⊢
  rwa [hh,Xa]at hu
 rw[hh];exact b.un u hc fun j t hj=>hw j t (by rw[hwt];exact hj)
theorem BU.make (D:DI C cf yf K ops B M YA Z0 h0 Wt i s st E LH ka ρ S rest)(b':BI C cf yf ops B M YA h0 s st)(b:BU YA h0 Wt s st)(hB:B=Wt.next)(H0:∀i y,h0.get i=some y->YA i < Wt.next){q:Rec}{vsl':SL}{vo:Option VO}{md:Nat}(Xa:s'.old=s.old)(he:Rd ρ (Zp s.h) YB (Zp s'.h))(hwt:s'.wt=s.wt)
  (hg:∀u,s'.cur u=true->s'.h.get u=s.h.get u):BU YA h0 Wt s' {st with sl:=vsl',recs:=q::st.recs,hs:=st.hs.map (·.put (B+i) vo),made:=md}:=by
 refine⟨fun S0 hA u hu=>?_,fun u hu hw=>?_⟩
 .unfold sgP at hA;rw[<- List.map_reverse,List.getElem?_map,Option.map_eq_some_iff]at hA;obtain⟨A0,h1,rfl⟩:=hA;rw[<- b.z0 A0 h1 u hu];obtain⟨x,hx⟩:=hu;have:=H0 u x hx;simp[VH.put,Sy (show YA u≠B+i by omega)]
 .rw [hg u hu];exact b.un u (Zet Xa b'.ol D.sx.ext he hu) fun j t hj=>hw j t (by rw[hwt];exact hj)
theorem BU.write (D:DI C cf yf K ops B M YA Z0 h0 Wt i s st E LH ka ρ S rest)(b':BI C cf yf ops B M YA h0 s st)(b:BU YA h0 Wt s st){q:Rec}{vsl':SL}{k':Nat}{Re:List VH}{S':VH}{x:Yt}{t:Option (List Nat×Nat)}(hkk:(Re=rest/\S'=S)\/Re=S::rest)
  (he:Rd ρ (Zp s.h) YB (Zp h')) (Zcd:∀u,s.cur u=true->Wk t u=true->h'.get u=s.h.get u):
  BU YA h0 Wt {s with sl:=x,h:=h',st:=(i,true)::s.st,wt:=(i,t)::s.wt} {st with sl:=vsl',recs:=q::st.recs,hs:=S'::Re,k:=k'}:=by
 refine⟨fun S0 hA u hu=>b.z0 S0 ?_ u hu,fun u hu hw=>?_⟩
 .unfold sgP at hA ⊢;rw[D.hs];rcases hkk with⟨c,d⟩ | c
  .rw [c,d]at hA;exact hA
  .simp only [List.reverse_cons,c]at hA ⊢;rw[List.getElem?_append_left (by simp)]at hA;exact hA
 .have hc:s.cur u=true:=Zet (s:=s) (s':={s with sl:=x,h:=h',st:=(i,true)::s.st,wt:=(i,t)::s.wt}) rfl b'.ol D.sx.ext he hu;show h'.get u=h0.get u;rw[Zcd u hc (hw i t (by simp))];exact b.un u hc fun j t hj=>hw j t (by simp[hj])
theorem BU.top (D:DI C cf yf K ops B M YA Z0 h0 Wt i s st E LH ka ρ S rest)(b':BI C cf yf ops B M YA h0 s st)(b:BU YA h0 Wt s st){u:Nat}(hc:s.cur u=true)(hw:∀j t,(j,t)∈s.wt->Wk t u=true):S.get (YA u)=Wt.get (YA u):=by
 have key:∀k,k<=st.k->∀A,sgP st k=some A->A.get (YA u)=Wt.get (YA u):=by
  intro k
  induction k with
  |zero=>intro _ A hA;exact b.z0 A hA u (PD.cur_old b' hc)
  |succ k ih=>
   intro hk A hA;obtain⟨c,q,h1,h2,h3⟩:=D.rw k (by omega)
   have Xr:(c,true)∈s.st:=by
    rcases D.rc c q h1 with h | h | ⟨w,h4,h5⟩
    .omega
    .omega
    .rcases h5 with h5 | h5
     .omega
     .rw [h5.2]at h4;exact h4
   obtain⟨t,ht⟩:=b'.we c Xr;obtain⟨q',h4,h5⟩:=b'.wt c t ht;rw[h1]at h4;cases h4;have h6:=h5 u hc (hw c t ht)
   obtain⟨A0,hA0⟩:∃A0,sgP st k=some A0:=by
    have h7:=Vn D;unfold sgP at h7 ⊢;obtain⟨h8,_⟩:=List.getElem?_eq_some_iff.1 h7;exact⟨_,List.getElem?_eq_getElem (by omega)⟩
   rw[h6 h2 A0 A (by rw[h3];exact hA0) (by rw[h3];exact hA)];exact ih (by omega) A0 hA0
 exact key st.k (Nat.le_refl _) S (Vn D)
theorem Zait {Z Z':Vf}{ρ:Nat->Nat}{vf':Nat->Option Nat}{YE:Nat->Nat}{h:PH}{vh:VH}{Xi:Yt}{Y4:SL}{all:List Oper}{t:TypeId}{y:Operand}{u Zc nx:Nat}{pcf:CF}{pyf:YF}{h1:PH}{x:PV}(H:HP C ρ Z vh h)(S:SR C ρ (Zp h) Z Xi Y4)(ho:o.op=.load t y)(he:Zh C pcf pyf all K Xi h o=some (x,h1)){cs:List PV}
  (Tn:h.get u=some (Zc,.cells cs)) (had:(∃off,Yx Xi y=some (.ptr u Zc off))\/(∃g ix off,Yx Xi y=some (.eptr u Zc g ix off))) {V8:VH} (hor:OR C YE vf' Z' nx V8 u (ρ u) (.cells cs)) (heq:vh.get (ρ u)=V8.get (ρ u)) {w:Value} {vh':VH} (hw:Xn C cf yf Y4 vh o=some (w,vh')):R C YE vf' Z' x w:=by
 simp only[Zh,ho]at he;rcases had with⟨off,had⟩ | ⟨g,ix,off,had⟩
 .rw [had]at he;split at he
  .rename_i ty i ver' Z60 ht hy;cases hy;obtain⟨w0,W4,Vj⟩:=Zj S had;split at he
   .rename_i v cs' hi;rw[Tn]at hi;cases hi;split at he
    .rw [Option.map_eq_some_iff]at he;obtain⟨z,hz,e⟩:=he;cases e;rw[Option.bind_eq_some_iff]at hz;obtain⟨q,hq,hz⟩:=hz;have hw3:=Vj.ptr_inv Tn;subst hw3;cases hor with
     |cells cs Wg e2 hzz hg hr=>
      obtain⟨q',h1,h2⟩:=hr.read hq;obtain⟨z',h3,h4⟩:=Zha h2 hz;rw[<- heq]at hg;simp only[Xn,ho,ht,W4,Option.isSome_none,Bool.false_eq_true,if_false,VH.load,hg,h1,Option.bind_some,h3,Option.map_some,Option.some.injEq,Prod.mk.injEq]at hw;rw[<- hw.1];exact h4
    .cases he
   .cases he
  .rename_i hy;cases hy
  .cases he
 .rw [had]at he;split at he
  .rename_i hy;cases hy
  .rename_i ty i ver' g' ix' Z60 ht hy;cases hy;split at he
   .rename_i own xs V7;have hi:=Rw.1 V7;rw[Tn]at hi;cases hi
   .cases he
  .cases he
theorem Zacz {Z Z':Vf}{ρ:Nat->Nat}{vf':Nat->Option Nat}{YE:Nat->Nat}{h:PH}{vh:VH}{Xi:Yt}{Y4:SL}{all:List Oper}{t:TypeId}{y:Operand}{u Zc nx:Nat}{pcf:CF}{pyf:YF}{h1:PH}{x:PV}(H:HP C ρ Z vh h)(S:SR C ρ (Zp h) Z Xi Y4)(ho:o.op=.load t y)(he:Zh C pcf pyf all K Xi h o=some (x,h1)){g0:Nat}{ys:List PV}
  (Tn:h.get u=some (Zc,.row g0 true ys)) (had:(∃off,Yx Xi y=some (.ptr u Zc off))\/(∃g ix off,Yx Xi y=some (.eptr u Zc g ix off))) {V8:VH} (hor:OR C YE vf' Z' nx V8 u (ρ u) (.row g0 true ys)) (heq:vh.get (ρ u)=V8.get (ρ u)) {w:Value} {vh':VH} (hw:Xn C cf yf Y4 vh o=some (w,vh')):R C YE vf' Z' x w:=by
 simp only[Zh,ho]at he;rcases had with⟨off,had⟩ | ⟨g,ix,off,had⟩
 .rw [had]at he;split at he
  .rename_i ty i ver' Z60 ht hy;cases hy;split at he
   .rename_i v cs' hi;rw[Tn]at hi;cases hi
   .cases he
  .rename_i hy;cases hy
  .cases he
 .rw [had]at he;split at he
  .rename_i hy;cases hy
  .rename_i ty i ver' g' ix' Z60 ht hy;cases hy;obtain⟨w0,W4,Vj⟩:=Zj S had;split at he
   .rename_i own xs V7;have hi:=Rw.1 V7;have hi2:=hi;rw[Tn]at hi2;cases hi2;split at he
    .rename_i el hel;rw[Option.map_eq_some_iff]at he;obtain⟨z,hz,e⟩:=he;cases e;rw[Option.bind_eq_some_iff]at hz;obtain⟨q,hq,hz⟩:=hz;obtain⟨ty1,h1',rfl⟩:=Vj.eptr_inv hi;cases hor with
     |row g2 xs2 Wg ty2 ht2 hzz hg hrr S5=>
      rw[h1']at ht2;cases ht2;obtain⟨hlt,hx⟩:=List.getElem?_eq_some_iff.1 hel;have hxl:(Zd el).length=ty1.size:=S5 el (by rw[<- hx];exact List.getElem_mem hlt);have hle:ix*ty1.size+ty1.size<=xs.length*ty1.size:=by rw[<- Nat.succ_mul];exact Nat.mul_le_mul_right _ hlt
      have h3:X1 (xs.flatMap Zd) (ix*ty1.size) ty1.size=some (Zd el):=by
       unfold X1;rw[if_pos (by rw[U5 S5];exact hle),Znv S5 hel]
      obtain⟨r1,h4,h5⟩:=hrr.read h3;obtain⟨r2,h6,h7⟩:=h5.read hq;obtain⟨z',h8,h9⟩:=Zg9 h7 hz
      have Zyu:off+ty.size<=ty1.size:=by
       unfold X1 at hq;split at hq
       .rename_i hq2;rw[hxl]at hq2;exact hq2
       .cases hq
      rw[<- heq]at hg;simp only[Xn,ho,ht,W4,Option.isSome_none,Bool.false_eq_true,if_false,VH.load,hg,R4 h4 h6 Zyu,Option.bind_some,h8,Option.map_some,Option.some.injEq,Prod.mk.injEq]at hw;rw[<- hw.1];exact .d h9
    .cases he
   .cases he
  .cases he
end
section
variable {C:Ctx}{cf yf:Nat->List Value->VH->Option (Value×VH)}{pcf:CF}{pyf:YF}{K:Loc}{n:Nat}{ops:Array Oper}{B M:Nat}{YA:Nat->Nat}{Z0:Vf}{h0:PH}{Wt:VH}
 {i:Nat} {s:PD} {st:DSt} {E E':Ent} {LH LH':Nat->Bool} {ka:Nat->Nat} {ρ YB:Nat->Nat} {h h':PH} {S S' vh':VH} {rest:List VH} {o:Oper} {x:PV} {v:Value} {sl:Yt} {Y4:SL} {Z':Vf}
theorem DI.kaLe (D:DI C cf yf K ops B M YA Z0 h0 Wt i s st E LH ka ρ S rest){Zy:Nat}{s':SE}{j:Nat}(h:E Zy=some (s',some j)):ka j<=st.k:=by
 rcases D.eO _ _ _ h with⟨_,_,c,_⟩ | ⟨_,c⟩
 .omega
 .obtain ⟨q,k1,k2⟩:=D.kaT j c;have:=D.rk j q k1;rcases k2 with⟨_,k2⟩ | ⟨k3,k2⟩
  .omega
  .have:=this.2 k3;omega
theorem DI.viewSig (D:DI C cf yf K ops B M YA Z0 h0 Wt i s st E LH ka ρ S rest)(D3:∀i j k,i < ops.size->Vr (Region.before ops) i j=true->Vr (Region.before ops) j k=true->Vr (Region.before ops) i k=true)(hi:i < ops.size)(hBM:B<=M):
  Zq0 (zr E (Vr (Region.before ops) i)) (view B M ((Region.before ops).getD i 0&&&st.made) S):=by
 have hSM:M<=S.next:=D.sm _ _ (Vn D);intro Zy s' hs;rw[U9 (D.seen D3 hi hs (by omega))];obtain⟨ow,a,b⟩:=X7.1 hs;refine D.sg st.k S Zy s' ow (Vn D) a fun j hj=>?_
 subst hj;exact D.kaLe a
theorem Zx8 (hpu:Ziy C pcf cf){ρ:Nat->Nat}{Z:Vf}{vh:VH}{h:PH}{Xi:Yt}{Y4:SL}{all:List Oper}{o:Oper}{v:PV}{h':PH}(H:HP C ρ Z vh h)(hw:vh.wr=vh.next)(S:SR C ρ (Zp h) Z Xi Y4)(he:Zh C pcf pyf all K Xi h o=some (v,h'))(hp:Rf C Xi o v=true):
  h'=h/\∃w,Xn C cf yf Y4 vh o=some (w,vh)/\R C ρ (Zp h) Z v w:=by
 unfold Rf at hp;split at hp
 .rename_i c ho;split at hp
  .rename_i f Ws;split at hp
   .rename_i g first captured hf
    split at hp
    .rename_i args Xt;simp only[Bool.and_eq_true,Bool.not_eq_true',List.isEmpty_iff]at hp;obtain⟨⟨⟨h1,h2⟩,h3⟩,h4⟩:=hp;simp only[Zh,ho,Xt,Ws,hf]at he;obtain⟨Wl,Ro,Qg⟩:=Se S Xt;obtain⟨w,W4,Vj⟩:=Zj S hf;cases Vj with
     |d h=>cases h
     |fn g a c2 a' c' r1 r2=>
      obtain⟨e,hgo⟩:=hpu K g _ h v h' he h1 h2 h3 h4;obtain⟨u,hu1,hu2⟩:=hgo ρ Z vh (a'.toList++Wl++c'.toList) H hw ((r1.append Qg).append r2);refine⟨e,u,?_,hu2⟩;simp only[Xn,ho,U6,Ro,Ws,W4];exact hu1
    .cases hp
   .cases hp
  .cases hp
 .cases hp
theorem Zyl {t:TypeId}{y:Operand}{a:Addr}{A A':VH}{w:Value}(ho:o.op=.load t y)(hy:opd C Y4 y=some (.pointer (some a)))(h1:Xn C cf yf Y4 A o=some (w,A))(hg:A'.get a.block=A.get a.block):Xn C cf yf Y4 A' o=some (w,A'):=by
 simp only[Xn,ho,hy,VH.load]at h1 ⊢;cases hT:C.T t with
 |none=>rw[hT]at h1;cases h1
 |some ty=>
  rw[hT]at h1;simp only at h1 ⊢;rw[hg];split at h1
  .cases h1
  .rw [Option.map_eq_some_iff]at h1;obtain⟨z,hz,e⟩:=h1;cases e;rename_i hsp;rw[if_neg hsp,Option.map_eq_some_iff];exact⟨w,by simpa[hsp]using hz,rfl⟩
theorem Z69 {pk:Yt}{all:List Oper}{u Zc:Nat}{x:PV}{h1:PH}(hl:Zhx pk o=some (u,Zc))(Xr:Zh C pcf pyf all K pk h o=some (x,h1)):∃t y,o.op=.load t y/\(∃ob,h.get u=some (Zc,ob))/\((∃off,Yx pk y=some (.ptr u Zc off))\/∃g ix off,Yx pk y=some (.eptr u Zc g ix off)):=by
 unfold Zhx at hl;split at hl
 .rename_i t y ho;refine⟨t,y,ho,?_⟩;simp only[Zh,ho]at Xr;split at hl
  .rename_i i v off hy;cases hl;rw[hy]at Xr;split at Xr
   .rename_i ty i' v' Z60 h1 h2;cases h2;split at Xr
    .rename_i v2 cs hi;split at Xr
     .rename_i e;subst e;exact⟨⟨_,hi⟩,.inl ⟨_,hy⟩⟩
     .cases Xr
    .cases Xr
   .rename_i h2;cases h2
   .cases Xr
  .rename_i i v g ix off hy;cases hl;rw[hy]at Xr;split at Xr
   .rename_i h2;cases h2
   .rename_i ty i' v' g' ix' Z60 h1 h2;cases h2;split at Xr
    .rename_i own xs V7;exact⟨⟨_,Rw.1 V7⟩,.inr ⟨_,_,_,hy⟩⟩
    .cases Xr
   .cases Xr
  .cases hl
 .cases hl
theorem DI.hpAll (D:DI C cf yf K ops B M YA Z0 h0 Wt i s st E LH ka ρ S rest)(hi:B+i<=M):HP C ρ (zr E fun _=>true) S s.h:=by
 refine⟨D.hp.lt,D.hp.inj,D.hp.vlt,fun Zy s' hz=>?_,fun id Zc ob Tn=>?_,D.hp.wr⟩
 .obtain ⟨ow,a,_⟩:=X7.1 hz;refine D.sg _ _ Zy s' ow (Vn D) a fun j hj=>?_
  subst hj;exact D.kaLe a
 .refine (D.hp.obj id Zc ob Tn).mono (Rd.refl _ _) (Za8 (fun _ _ h=>h) fun _ _=>rfl) (fun hz=>?_) (fun _=>rfl) (Nat.le_refl _) (Nat.le_refl _);have:=D.pnone hi Tn hz;unfold zr;rw[this]
theorem Z4o (hcf:Ziz C K n pcf cf)(hyf:YfSim C K n pyf yf)(hpu:Ziy C pcf cf)(hts:Zew C pcf cf)(hfc:Za7 cf)(hfy:Za7 yf)(hK0:KOk K n h0.next)(hd:∀o∈ops.toList,∀d,o.dst=some d->d < n)(hB:B=Wt.next)(hM:M=B+ops.size)(H0:∀i y,h0.get i=some y->YA i < Wt.next)
  (D1:Sq ops.toList (Region.before ops)=true) (D2:∀i j,i < ops.size->Vr (Region.before ops) i j=true->j < i) (D3:∀i j k,i < ops.size->Vr (Region.before ops) i j=true->Vr (Region.before ops) j k=true->Vr (Region.before ops) i k=true)
  (D:DI C cf yf K ops B M YA Z0 h0 Wt i s st E LH ka ρ S rest) (b:BI C cf yf ops B M YA h0 s st) (bu:BU YA h0 Wt s st) (H00:HP C YA Z0 Wt h0) (ho:ops.toList[i]?=some o) {s1:PD} (he:Zc9 C pcf pyf K ops.toList (Region.before ops) o i s=some s1):
  ∃st1 E1 LH1 ka1 YE S1 Zuh,Zda C cf yf B M ops.toList (Region.before ops) o i st=some st1/\DI C cf yf K ops B M YA Z0 h0 Wt (i+1) s1 st1 E1 LH1 ka1 YE S1 Zuh/\BI C cf yf ops B M YA h0 s1 st1/\BU YA h0 Wt s1 st1:=by
 have hi:i < ops.size:=by
  obtain⟨h6,_⟩:=List.getElem?_eq_some_iff.1 ho;simpa using h6
 have Sg:o∈ops.toList:=List.mem_of_getElem? ho;have hSM:M<=S.next:=D.sm _ _ (Vn D);have Spk:=D.slot.look D1 D3 hi ho;have hK:KOk K n s.h.next:=⟨hK0.1,Nat.le_trans hK0.2 D.sx.next⟩
 have hle:∀(j:Nat),Vr (Region.before ops) i j=true->Qw (Region.before ops) i j=true:=fun j hj=>by unfold Qw;rw[hj];rfl
 unfold Zc9 at he
 try dsimp only at he
 unfold Zda
 try dsimp only
 split at he
 .cases he
 ·
  rename_i hw;cases he;rw[Zbc Spk hw];exact⟨_,E,LH,ka,ρ,S,rest,rfl,D.quiet ho (q:=⟨o,pick st.sl (Yc ops.toList o),.tuple #[],0,st.k,0⟩) rfl (.inl rfl) (.tuple [] #[] .nil) (.inl rfl) (fun _ h=>h) (.inl rfl),b.quiet D rfl rfl rfl rfl (fun _ h=>h),bu.quiet rfl rfl rfl⟩
 .rename_i hw;rw[Zbc Spk hw]
  try dsimp only
  split at he
  ·
   rename_i x hf;split at he
   .rename_i Vu;cases he;obtain⟨w,hR,X6⟩:=Zv9 Spk hf;rw[Zsd hf]
    try dsimp only
    rw[D.hs]
    try dsimp only
    have hop1:=X6 cf yf (view B M ((Region.before ops).getD i 0&&&st.made) S) (D.viewSig D3 hi (by omega));rw[hop1]
    try dsimp only
    rw[if_pos (by simp[view,X0])]
    have hq:=D.quiet ho (q:=⟨o,pick st.sl (Yc ops.toList o),w,2,st.k,(Region.before ops).getD i 0&&&st.made⟩) rfl (.inr rfl) (hR.mono (Rd.refl _ _) (Za8 (fun _ _ h=>h) hle)) (.inl rfl) (fun _ h=>h) (.inr (.inl ⟨Zpo 3 Vu hR,.inl ⟨zr E (Vr (Region.before ops) i),fun Zy s' hz=>X7.1 hz,fun j hj hb=>by
     rw[Nat.testBit_and,hb,Bool.and_true];exact hj,fun vh' hv=>X6 cf yf vh' hv⟩⟩))
    have hbu:=bu.quiet (s':={s with sl:=putP s.sl o.dst x}) (q:=⟨o,pick st.sl (Yc ops.toList o),w,2,st.k,(Region.before ops).getD i 0&&&st.made⟩) (vsl':=putV st.sl o.dst w) rfl rfl rfl;have hb:=b.quiet D (s':={s with sl:=putP s.sl o.dst x}) (q:=⟨o,pick st.sl (Yc ops.toList o),w,2,st.k,(Region.before ops).getD i 0&&&st.made⟩) (vsl':=putV st.sl o.dst w) rfl rfl rfl rfl (fun _ h=>h);rw[D.hs]at hq hb hbu;exact⟨_,E,LH,ka,ρ,S,rest,rfl,hq,hb,hbu⟩
   .cases he
  .rename_i hf;split at he
   ·
    rename_i m hm;obtain⟨sh,vo,hmk,hmv,_⟩:=Zpz Spk hm;rw[hmv]
    try dsimp only
    have Zar1:∀k SS,sgP st k=some SS->SS.get (B+i)=none:=fun k SS hk=>D.no i k SS (by
     cases e:st.made.testBit i with
     |false=>rfl
     |true=>have:=D.mb i e;omega) (by omega) hk
    have hS0:=Zar1 _ _ (Vn D)
    have hpl:∀id y,s.h.get id=some y->ρ id≠B+i:=fun id y hy e=>by
     obtain⟨c,hc,e2⟩:=D.pl id y hy (by omega) (by omega);have:=(D.md c hc).1;omega
    have hEn:E (B+i)=none:=by
     cases e:E (B+i) with
     |none=>rfl
     |some y=>
      exfalso;obtain⟨s',ow⟩:=y;cases ow with
      |none=>have:=D.eN _ _ e;omega
      |some j=>
       rcases D.eO _ _ _ e with⟨a,b,_⟩ | ⟨a,_⟩
       .have:=D.mb j b;omega
       .rcases a with a | a | ⟨c,hc,a,_⟩
        .omega
        .omega
        .have:=(D.md c hc).1;omega
    have Zk:∀q,q≠B+i->(S.put (B+i) (some vo)).get q=S.get q:=fun q hq=>by simp[VH.put,Sy hq]
    split at he
    ·
     rename_i Tn;cases he;cases hmk with
     |lit g xs Wg ty ht hr hl=>
      let E1:Ent:=fun Zy=>if Zy=B+i then some (⟨Wg,ty.size,true,none⟩,some i) else E Zy
      have hE:∀Zy y,E Zy=some y->E1 Zy=some y:=fun Zy y hy=>by
       have:Zy≠B+i:=fun e=>by subst e;rw[hEn]at hy;cases hy
       simp only[E1,this,if_false];exact hy
      have hE':∀Zy y,E1 Zy=some y->E Zy=some y\/(Zy=B+i/\y.2=some i/\(VO.row Wg ty.size true)=.row y.1.cells y.1.e y.1.own):=fun Zy y hy=>by
       simp only[E1]at hy;split at hy
       .rename_i e;cases hy;exact .inr ⟨e,rfl,rfl⟩
       .exact .inl hy
      have hp':HP C ρ (zr E1 LH) (S.put (B+i) (some (.row Wg ty.size true))) s.h:=by
       refine⟨D.hp.lt,D.hp.inj,fun q y hq=>?_,fun Zy s' hs=>?_,fun id Zc ob Q0=>?_,D.hp.wr⟩
       .by_cases e:q=B+i
        .subst e;show B+i < S.next;omega
        .rw [Zk q e]at hq;exact D.hp.vlt q y hq
       .obtain ⟨ow,a,b⟩:=X7.1 hs;rcases hE' _ _ a with c | ⟨c,_,d⟩
        .rw [Zk Zy (fun e=>by subst e;rw[hEn]at c;cases c)];refine D.hp.sig _ _ (X7.2 ⟨ow,c,b⟩)
        .subst c;simp[VH.put,d]
       .refine (D.hp.obj id Zc ob Q0).mono (Rd.refl _ _) (Za8 hE fun _ h=>h) (fun hz=>?_) (fun _=>Zk _ (hpl id _ Q0)) (Nat.le_refl _) (Nat.le_refl _);have:=D.pnone (by omega) Q0 hz;unfold zr;simp only[E1,hpl id _ Q0,if_false,this]
      have hlst:RD C (zr E1 (Qw (Region.before ops) i)) (.lst g xs) (.slice (some ⟨B+i,0,none⟩) xs.length xs.length):=by
       refine .lst g xs (B+i) 0 xs.length ⟨Wg,ty.size,true,none⟩ Wg ty (X7.2 ⟨some i,by simp[E1],fun j hj=>by cases hj;simp[Qw]⟩) rfl (.inl rfl) ht ?_ (hr.mono (Za8 hE hle)) hl;have Uq:=U5 hl;rw[Tc];have hvl:Wg.length=xs.length*ty.size:=by rw[hr.length];exact Uq
       refine⟨?_,.inl (by simp[hvl])⟩;simp[<- hvl]
      have hDm:=D.make D2 ho (by omega) (q:=⟨o,pick st.sl (Yc ops.toList o),(Shape.slice xs.length).val (B+i),1,st.k,0⟩) rfl rfl (vo:=.row Wg ty.size true) (made':=s.made) hE hE' hp' (.d hlst) (Rd.refl _ _) (fun _ h=>h) (fun _ h=>.inl h) (.inl ⟨rfl,(⟨Wg,ty.size,true,none⟩,some i),by simp[E1]⟩) D.pl (D.sx.lit (by omega) H0);exact⟨_,_,_,_,_,_,_,rfl,hDm,b.make D hB H0 rfl (Rd.refl _ _) rfl rfl rfl,bu.make D b hB H0 rfl (Rd.refl _ _) rfl (fun _ _=>rfl)⟩
     | _=>simp[Mk.obj]at Tn
    ·
     rename_i ob d Tn Rb;cases he;have hdn:=hd o Sg d Rb;have Sh:K.lo<=K.base+d:=by have:=hK.1;omega
     have Zu:can K (K.base+d)=true:=Zwo hK.1 d
     let YE:Nat->Nat:=fun j=>if j=K.base+d then B+i else ρ j
     let LH1:Nat->Bool:=fun j=>LH j||Qw (Region.before ops) i j
     have Ur:Rd ρ (Zp s.h) YE (Zp (s.h.put (K.base+d) (s.h.stamp (K.base+d)) ob)):=by
      intro j c hj;obtain⟨o',hj'⟩:=Zt.1 hj;by_cases e:j=K.base+d
      .subst e;have:s.h.stamp (K.base+d)=c+1:=by simp[PH.stamp,hj']
       exact⟨s.h.stamp (K.base+d),by simp[Zp,PH.put],by omega,fun e=>by omega⟩
      .exact ⟨c,by simp[Zp,PH.put,e,hj'],Nat.le_refl _,fun _=>by simp[YE,e]⟩
     have hOR:OR C YE (Zp (s.h.put (K.base+d) (s.h.stamp (K.base+d)) ob)) (zr E LH1) s.h.next (S.put (B+i) (some vo)) (K.base+d) (B+i) ob:=by
      have hzn:zr E LH1 (B+i)=none:=by unfold zr;rw[hEn]
      have hSp:(S.put (B+i) (some vo)).get (B+i)=some vo:=by simp[VH.put]
      have hl2:Vf.le (zr E (Vr (Region.before ops) i)) (zr E LH1):=Za8 (fun _ _ h=>h) fun j hj=>by simp only[LH1,hle j hj,Bool.or_true]
      cases hmk with
      |lit=>simp[Mk.obj]at Tn
      |ptr cs Wg e hr=>
       simp only[Mk.obj,Option.some.injEq]at Tn;subst Tn;exact .cells cs Wg e hzn hSp (hr.mono Ur hl2)
      |slice g m xs Wg ty ht hr hl=>
       simp only[Mk.obj,Option.some.injEq]at Tn;subst Tn;exact .row g xs Wg ty ht hzn hSp (hr.mono hl2) hl
      |map=>
       simp only[Mk.obj,Option.some.injEq]at Tn;subst Tn;exact .map [] [] hzn hSp .nil
     have hp':HP C YE (zr E LH1) (S.put (B+i) (some vo)) (s.h.put (K.base+d) (s.h.stamp (K.base+d)) ob):=by
      refine⟨fun j y hj=>?_,fun j k y z hj hk e=>?_,fun q y hq=>?_,fun Zy s' hs=>?_,fun id Zc ob2 Q0=>?_,D.hp.wr⟩
      .by_cases e:j=K.base+d
       .subst e;exact Nat.lt_of_lt_of_le (Nat.add_lt_add_left hdn K.base) hK.2
       .simp [PH.put,e]at hj;exact D.hp.lt j y hj
      .by_cases e1:j=K.base+d<;>by_cases e2:k=K.base+d
       .rw [e1,e2]
       .subst e1;simp[PH.put,e2]at hk;simp[YE,e2]at e;exact absurd e.symm (hpl k _ hk)
       .subst e2;simp[PH.put,e1]at hj;simp[YE,e1]at e;exact absurd e (hpl j _ hj)
       .simp [PH.put,e1,e2]at hj hk;simp[YE,e1,e2]at e;exact D.hp.inj _ _ _ _ hj hk e
      .by_cases e:q=B+i
       .subst e;show B+i < S.next;omega
       .rw [Zk q e]at hq;exact D.hp.vlt q y hq
      .obtain ⟨ow,a,b⟩:=X7.1 hs;rw[Zk Zy (fun e=>by subst e;rw[hEn]at a;cases a)];refine D.sg st.k S Zy s' ow (Vn D) a fun j hj=>?_
       subst hj;exact D.kaLe a
      .by_cases e:id=K.base+d
       .subst e;simp[PH.put]at Q0;obtain⟨rfl,rfl⟩:=Q0;simp only[YE,if_true];exact hOR
       .simp [PH.put,e]at Q0;have h1:=D.hp.obj id Zc ob2 Q0;simp only[YE,e,if_false];refine h1.mono Ur (Za8 (fun _ _ h=>h) fun j hj=>by simp only[LH1,hj,Bool.true_or]) (fun hz=>?_) (fun _=>Zk _ (hpl id _ Q0)) (Nat.le_refl _) (Nat.le_refl _);have:=D.pnone (by omega) Q0 hz;unfold zr;rw[this]
     have Zgl:R C YE (Zp (s.h.put (K.base+d) (s.h.stamp (K.base+d)) ob)) (zr E (Qw (Region.before ops) i)) (m.val (K.base+d) (s.h.stamp (K.base+d))) (sh.val (B+i)):=by
      cases hmk with
      |lit=>simp[Mk.obj]at Tn
      |ptr cs Wg e hr=>exact .ptr _ _ 0 _ ⟨B+i,0,none⟩ Zhr (Nat.le_refl _) rfl fun _=>by simp[YE]
      |slice g m xs Wg ty ht hr hl=>exact Ze3 ht _
      |map=>exact .map _ _ _ (B+i) Zhr (Nat.le_refl _) fun _=>by simp[YE]
     have hDm:=D.make D2 ho (by omega) (q:=⟨o,pick st.sl (Yc ops.toList o),sh.val (B+i),1,st.k,0⟩) rfl rfl (vo:=vo) (made':=i::s.made) (fun _ _ h=>h) (fun _ _ h=>.inl h) hp' Zgl Ur (fun j hj=>by simp only[LH1,hj,Bool.true_or]) (fun j hj=>by
       simp only[LH1,Bool.or_eq_true]at hj;exact hj.imp id fun h=>⟨by simp,h⟩) (.inr ⟨rfl,hEn⟩) (fun id y hy ha hb=>by
       by_cases e:id=K.base+d
       .subst e;simp only[YE,if_true];exact⟨i,by simp,rfl⟩
       .simp [PH.put,e]at hy;simp only[YE,e,if_false]at ha hb ⊢;obtain⟨c,hc,e2⟩:=D.pl id y hy ha hb;exact⟨c,List.mem_cons_of_mem _ hc,e2⟩) (D.sx.make Ur Zu Sh (by omega) H0)
     have e:putP s.sl o.dst (m.val (K.base+d) (s.h.stamp (K.base+d)))=s.sl.put d (m.val (K.base+d) (s.h.stamp (K.base+d))):=by rw[Rb];rfl
     rw[e]at hDm
     exact⟨_,_,_,_,_,_,_,rfl,hDm,b.make D hB H0 rfl Ur rfl rfl rfl,bu.make D b hB H0 rfl Ur rfl fun u hu=>by
      by_cases e:u=K.base+d
      .obtain ⟨y,hy⟩:=PD.cur_old (b.make (q:=⟨o,pick st.sl (Yc ops.toList o),sh.val (B+i),1,st.k,0⟩) (vsl':=st.sl) (vo:=vo) (md:=0) (s':={s with sl:=s.sl.put d (m.val (K.base+d) (s.h.stamp (K.base+d))),h:=s.h.put (K.base+d) (s.h.stamp (K.base+d)) ob,made:=i::s.made}) D hB H0 rfl Ur rfl rfl rfl) hu;have h1:=H0 u y hy;have h2:=(Zsl (s:={s with sl:=s.sl.put d (m.val (K.base+d) (s.h.stamp (K.base+d))),h:=s.h.put (K.base+d) (s.h.stamp (K.base+d)) ob,made:=i::s.made}) b.ol (D.sx.ext.trans Ur) hu).1;subst e;simp only[YE,if_true]at h2;omega
      .simp [PH.put,e]⟩
    .cases he
   ·
    split at he
    .rename_i x h' Xr;unfold Z0p at he;split at he
     ·
      rename_i u hbl;split at he
      .rename_i Zek;cases he;unfold Zod at hbl;split at hbl
       .rename_i u' Zc hlk;split at hbl
        .rename_i w0 Zvv;split at hbl
         .rename_i Wm;cases hbl;simp only[Bool.and_eq_true,Nat.beq_eq]at Wm;obtain⟨⟨hver,Zei⟩,Vu⟩:=Wm;subst hver;obtain⟨t,y,hop0,⟨ob,Tn⟩,hadr⟩:=Z69 hlk Xr;have Znh:s.cur u=true:=Ze9.2 ⟨_,_,Tn,Zvv⟩;obtain⟨Zfj,_⟩:=Zsl b.ol D.sx.ext Znh;obtain⟨y0,hy0⟩:=PD.cur_old b Znh;have hlt:YA u < B:=by rw[hB];exact H0 u y0 hy0
          have Sall:SR C ρ (Zp s.h) (zr E fun _=>true) (fun t=>if (Yc ops.toList o).contains t then s.sl t else none) (pick st.sl (Yc ops.toList o)):=fun t x hx=>by
           obtain⟨v,a1,a2⟩:=Spk t x hx;exact⟨v,a1,a2.mono (Rd.refl _ _) (Za8 (fun _ _ h=>h) fun _ _=>rfl)⟩
          obtain⟨hh,w,W4,Vj⟩:=Zmy (cf:=cf) (yf:=yf) (D.hpAll (by omega)) Sall hop0 Xr;have hh':h'=s.h:=hh;subst hh'
          have Zarx:∃a:Addr,opd C (pick st.sl (Yc ops.toList o)) y=some (.pointer (some a))/\a.block=YA u:=by
           rcases hadr with⟨off,h5⟩ | ⟨g,ix,off,h5⟩
           .obtain ⟨v,a1,a2⟩:=Zj Sall h5;have:=a2.ptr_inv Tn;subst this;exact⟨_,a1,Zfj⟩
           .obtain ⟨v,a1,a2⟩:=Zj Sall h5;obtain⟨ty,_,rfl⟩:=a2.eptr_inv Tn;exact⟨_,a1,Zfj⟩
          obtain⟨a,Ro,Qg⟩:=Zarx;have hnh:∀vis,¬ hid B M vis (YA u):=fun vis hh=>by have:=hh.1;omega
          have hloc:∀S':VH,S'.get (YA u)=S.get (YA u)->∀vis,Xn C cf yf (pick st.sl (Yc ops.toList o)) (view B M vis S') o=some (w,view B M vis S'):=fun S' hS' vis=>
           Zyl hop0 Ro W4 (by rw[Qg,U9 (hnh vis),hS'])
          rw[Zfp Xr]
          try dsimp only
          rw[D.hs]
          try dsimp only
          rw[hloc S rfl]
          try dsimp only
          rw[if_pos (by simp[view,X0])]
          have hrw:R C ρ (Zp s.h) (zr E (Qw (Region.before ops) i)) x w:=by
           rcases (Bool.or_eq_true _ _).mp Zei with Zei | hcl
           .exact (Znw 4 (Zaas 4 Zei Vj) Vj).1
           .unfold PD.clear at hcl;rw[Bool.and_eq_true]at hcl;obtain⟨hcl1,hcl2⟩:=hcl;have hap:∀j t,(j,t)∈s.wt->Wk t u=true:=fun j t hj=>List.all_eq_true.1 hcl1 (j,t) hj
            have hun:=bu.un u Znh hap;have htop:=bu.top D b Znh hap;split at hcl2
            .rename_i v0 cs Q0;rw[Tn]at Q0;cases Q0;rw[Tn]at hun;have hor:=(H00.obj u _ _ hun.symm)
             have hor2:R C YA (Zp h0) Z0 x w:=Zait (D.hpAll (by omega)) Sall hop0 Xr Tn hadr (by rw[Zfj];exact hor) (by rw[Zfj];exact htop) W4;exact hor2.mono D.sx.ext fun Zy s' hz=>X7.2 ⟨none,D.e0 Zy s' hz,fun j hj=>by cases hj⟩
            .rename_i v0 g0 ys Q0;rw[Tn]at Q0;cases Q0;rw[Tn]at hun;have hor:=(H00.obj u _ _ hun.symm)
             have hor2:R C YA (Zp h0) Z0 x w:=Zacz (D.hpAll (by omega)) Sall hop0 Xr Tn hadr (by rw[Zfj];exact hor) (by rw[Zfj];exact htop) W4;exact hor2.mono D.sx.ext fun Zy s' hz=>X7.2 ⟨none,D.e0 Zy s' hz,fun j hj=>by cases hj⟩
            .cases hcl2
          have hq:=D.quiet ho (q:=⟨o,pick st.sl (Yc ops.toList o),w,2,st.k,(Region.before ops).getD i 0&&&st.made⟩) (lst:=s.st) (rbn:=(i,u)::s.rb) rfl (.inr rfl) hrw (.inl rfl) (fun _ h=>List.mem_cons_of_mem _ h) (.inr (.inl ⟨Zpo 3 Vu Vj,.inr ⟨u,by simp⟩⟩));have hbu:=bu.quiet (s':={s with sl:=putP s.sl o.dst x,rb:=(i,u)::s.rb}) (q:=⟨o,pick st.sl (Yc ops.toList o),w,2,st.k,(Region.before ops).getD i 0&&&st.made⟩) (vsl':=putV st.sl o.dst w) rfl rfl rfl;have hb0:=b.quiet D (s':={s with sl:=putP s.sl o.dst x}) (q:=⟨o,pick st.sl (Yc ops.toList o),w,2,st.k,(Region.before ops).getD i 0&&&st.made⟩) (vsl':=putV st.sl o.dst w) rfl rfl rfl rfl (fun _ h=>h)
          have hb:=hb0.addRb (i:=i) (u:=u) (q:=⟨o,pick st.sl (Yc ops.toList o),w,2,st.k,(Region.before ops).getD i 0&&&st.made⟩) (by
            rw[Zad (st:=st) (st':={st with sl:=putV st.sl o.dst w,recs:=⟨o,pick st.sl (Yc ops.toList o),w,2,st.k,(Region.before ops).getD i 0&&&st.made⟩::st.recs}) rfl D.rlen i,if_pos rfl]) rfl (fun A hA S' hS'=>by
            have:A=S:=by
             have h8:=Vn D;rw[show sgP st st.k=some A from hA]at h8;cases h8;rfl
            subst this;exact hloc S' hS' _) (Ze9.2 ⟨_,_,Tn,Zvv⟩) (fun j t hj=>by
            have h8:=List.all_eq_true.1 Zek (j,t) hj;rw[Bool.or_eq_true]at h8;exact h8)
          rw[D.hs]at hq hb hbu;exact⟨_,E,LH,ka,ρ,S,rest,rfl,hq,hb,hbu⟩
         .cases hbl
        .cases hbl
       .cases hbl
      .cases he
     split at he
     .rename_i Zek;rw[Bool.and_eq_true,Bool.and_eq_true]at Zek;have Z8x:∀c∈s.made,Vr (Region.before ops) i c=true:=fun c hc=>List.all_eq_true.1 Zek.1.2 c hc
      have Z8w:∀c w,(c,w)∈s.st->(w=true\/Qo C (fun t=>if (Yc ops.toList o).contains t then s.sl t else none) o x=true)->Vr (Region.before ops) i c=true:=fun c w hc hw=>by
       have:=List.all_eq_true.1 Zek.1.1 _ hc
       try dsimp only at this
       rw[Bool.or_eq_true]at this;rcases this with h1 | h1
       .rw [Bool.and_eq_true,Bool.not_eq_true',Bool.not_eq_true']at h1;rcases hw with hw | hw
        .rw [hw]at h1;cases h1.1
        .rw [hw]at h1;cases h1.2
       .exact h1
      have Zahb:∀c,(c,true)∈s.st->Vr (Region.before ops) i c=true:=fun c hc=>Z8w c true hc (.inl rfl)
      have HV:=D.viewHP D3 hi (by omega) Zahb Z8x;cases he;rw[Zfp Xr]
      try dsimp only
      rw[D.hs]
      try dsimp only
      cases hwr:Qo C (fun t=>if (Yc ops.toList o).contains t then s.sl t else none) o x with
      |false=>
       have hrd:h'=s.h/\∃w,Xn C cf yf (pick st.sl (Yc ops.toList o)) (view B M ((Region.before ops).getD i 0&&&st.made) S) o=some (w,view B M ((Region.before ops).getD i 0&&&st.made) S)/\R C ρ (Zp s.h) (zr E (Vr (Region.before ops) i)) x w:=by
        unfold Qo at hwr;rw[Bool.and_eq_false_iff,Bool.not_eq_false']at hwr;rcases hwr with hwr | hwr
        .exact Z6o (cf:=cf) (yf:=yf) HV Spk hwr Xr
        .exact Zx8 hpu HV rfl Spk Xr hwr
       obtain⟨hh,w,X6,hR⟩:=hrd;rw[X6]
       try dsimp only
       rw[if_pos (by simp[view,X0])];have hh':h'=s.h:=hh;subst hh';have hq:=D.quiet ho (q:=⟨o,pick st.sl (Yc ops.toList o),w,2,st.k,(Region.before ops).getD i 0&&&st.made⟩) rfl (.inr rfl) (hR.mono (Rd.refl _ _) (Za8 (fun _ _ h=>h) hle)) (.inr ⟨rfl,Zahb⟩) (fun _ h=>h) (.inr (.inr (by simp)));have hbu:=bu.quiet (s':={s with sl:=putP s.sl o.dst x,st:=(i,false)::s.st}) (q:=⟨o,pick st.sl (Yc ops.toList o),w,2,st.k,(Region.before ops).getD i 0&&&st.made⟩) (vsl':=putV st.sl o.dst w) rfl rfl rfl
       have hb:=b.quiet D (s':={s with sl:=putP s.sl o.dst x,st:=(i,false)::s.st}) (q:=⟨o,pick st.sl (Yc ops.toList o),w,2,st.k,(Region.before ops).getD i 0&&&st.made⟩) (vsl':=putV st.sl o.dst w) rfl rfl rfl rfl (fun j hj=>by
        rcases List.mem_cons.1 hj with e | hj
        .cases e
        .exact hj)
       rw[D.hs]at hq hb hbu;exact⟨_,E,LH,ka,ρ,S,rest,rfl,hq,hb,hbu⟩
      |true=>
       obtain⟨w,vh1,YE,Z1,X6,hR,st1⟩:=Zl8 hcf hyf HV Spk hK (hd o Sg) Xr;rw[X6]
       try dsimp only
       have hfr:=Vx.op hfc hfy X6
       have hnh:∀u,s.cur u=true->ρ u=YA u/\YA u < B/\∃y,s.h.get u=some y:=fun u hu=>by
        obtain⟨a1,a2⟩:=Zsl b.ol D.sx.ext hu;obtain⟨y,hy⟩:=PD.cur_old b hu;exact⟨a1,by rw[hB];exact H0 u y hy,a2⟩
       have hkp:∀u,s.cur u=true->Wk (X3 C K (fun t=>if (Yc ops.toList o).contains t then s.sl t else none) s.h o) u=true->vh1.get (YA u)=S.get (YA u):=fun u hu ha=>by
        obtain⟨a1,a2,a3⟩:=hnh u hu;have:=(Zl2 hts HV Spk hK.2 (hd o Sg) Xr X6 ha a3).1;rw[a1]at this;rw[this,U9 (fun hh=>by have:=hh.1;omega)]
       have hkq:∀u,s.cur u=true->Wk (X3 C K (fun t=>if (Yc ops.toList o).contains t then s.sl t else none) s.h o) u=true->h'.get u=s.h.get u:=fun u hu ha=>by
        obtain⟨a1,a2,a3⟩:=hnh u hu;exact (Zl2 hts HV Spk hK.2 (hd o Sg) Xr X6 ha a3).2
       have hck3:∀c u,(c,u)∈s.rb->Vr (Region.before ops) i c=true\/(Wk (X3 C K (fun t=>if (Yc ops.toList o).contains t then s.sl t else none) s.h o) u=true/\s.cur u=true):=fun c u hc=>by
        have h7:=Zek.2;rw[hwr]at h7;rw[Bool.not_true,Bool.false_or]at h7;have h8:=List.all_eq_true.1 h7 (c,u) hc;simp only[Bool.or_eq_true,Bool.and_eq_true]at h8;exact h8
       by_cases Vu:vh1.next=S.next/\vh1.wr=S.next
       .rw [if_pos (by simp[Vu.1,Vu.2])]
        have hg:∀q,¬ hid B M ((Region.before ops).getD i 0&&&st.made) q->S.get q=vh1.get q:=by
         intro q hq;rcases Nat.lt_or_ge q S.next with h5 | h5
         .rw [hfr.2.2 q h5 (by rw[Vu.2];exact h5),U9 hq]
         .cases e1:S.get q with
          |some y=>have:=D.hp.vlt q y e1;omega
          |none=>
           cases e2:vh1.get q with
           |none=>rfl
           |some y=>have:=st1.hp.vlt q y e2;omega
        obtain⟨E1,LH1,ka1,hDw⟩:=D.write D3 hi (by omega) hB H0 ho (fun c w hc=>Z8w c w hc (.inr hwr)) Z8x st1 hR (S':=S) (fun _ _=>rfl) hg Vu.1.symm (Nat.le_refl _) (fun q hq hw=>by omega) (fun b h _=>h)
         (q:=⟨o,pick st.sl (Yc ops.toList o),w,2,st.k,(Region.before ops).getD i 0&&&st.made⟩) rfl (.inl ⟨rfl,rfl,rfl,rfl⟩)
        exact⟨_,E1,LH1,ka1,YE,S,rest,rfl,hDw,b.write D (t:=X3 C K (fun t=>if (Yc ops.toList o).contains t then s.sl t else none) s.h o) (q:=⟨o,pick st.sl (Yc ops.toList o),w,2,st.k,(Region.before ops).getD i 0&&&st.made⟩) rfl (.inl ⟨rfl,rfl,rfl,rfl⟩) st1.ext (fun _ _ _=>rfl) hck3,bu.write D b (.inl ⟨rfl,rfl⟩) st1.ext hkq⟩
       .rw [if_neg (by
         intro hh;simp only[Bool.and_eq_true,Nat.beq_eq]at hh;exact Vu hh)]
        obtain⟨E1,LH1,ka1,hDw⟩:=D.write D3 hi (by omega) hB H0 ho (fun c w hc=>Z8w c w hc (.inr hwr)) Z8x st1 hR (S':=over B M ((Region.before ops).getD i 0&&&st.made) S vh1) (fun q hq=>over_get.1 hq) (fun q hq=>over_get.2 hq) rfl (Nat.min_le_left _ _) (fun q hq hw=>Nat.le_trans (Nat.min_le_right _ _) hw) (fun b h1 h2=>Nat.le_min.2 ⟨h1,h2⟩)
         (q:=⟨o,pick st.sl (Yc ops.toList o),w,3,st.k,(Region.before ops).getD i 0&&&st.made⟩) rfl (.inr ⟨rfl,rfl,rfl⟩)
        exact⟨_,E1,LH1,ka1,YE,_,_,rfl,hDw,b.write D (t:=X3 C K (fun t=>if (Yc ops.toList o).contains t then s.sl t else none) s.h o) (q:=⟨o,pick st.sl (Yc ops.toList o),w,3,st.k,(Region.before ops).getD i 0&&&st.made⟩) rfl (.inr ⟨rfl,rfl,rfl⟩) st1.ext (fun u hu ha=>by rw[over_get.2 (fun hh=>by have:=hh.1;have:=(hnh u hu).2.1;omega)];exact hkp u hu ha) hck3,bu.write D b (.inr rfl) st1.ext hkq⟩
     .cases he
    .cases he
end
section
variable {C:Ctx}{cf yf:Nat->List Value->VH->Option (Value×VH)}{pcf:CF}{pyf:YF}{K:Loc}{n:Nat}{ops:Array Oper}{B M:Nat}{YA:Nat->Nat}{Z0:Vf}{h0:PH}{Wt:VH}
 {i:Nat} {s:PD} {st:DSt} {E E':Ent} {LH LH':Nat->Bool} {ka:Nat->Nat} {ρ YB:Nat->Nat} {h h':PH} {S S' vh':VH} {rest:List VH} {o:Oper} {x:PV} {v:Value} {sl:Yt} {Y4:SL} {Z':Vf}
theorem Zqp (hcf:Ziz C K n pcf cf)(hyf:YfSim C K n pyf yf)(hpu:Ziy C pcf cf)(hts:Zew C pcf cf)(hfc:Za7 cf)(hfy:Za7 yf)(hK0:KOk K n h0.next)(hd:∀o∈ops.toList,∀d,o.dst=some d->d < n)(hB:B=Wt.next)(hM:M=B+ops.size)(H0:∀i y,h0.get i=some y->YA i < Wt.next)(H00:HP C YA Z0 Wt h0)
  (D1:Sq ops.toList (Region.before ops)=true) (D2:∀i j,i < ops.size->Vr (Region.before ops) i j=true->j < i) (D3:∀i j k,i < ops.size->Vr (Region.before ops) i j=true->Vr (Region.before ops) j k=true->Vr (Region.before ops) i k=true):
  ∀(l:List Oper) {i:Nat} {s:PD} {st:DSt} {E:Ent} {LH:Nat->Bool} {ka:Nat->Nat} {ρ:Nat->Nat} {S:VH} {rest:List VH} {s1:PD},ops.toList.drop i=l->DI C cf yf K ops B M YA Z0 h0 Wt i s st E LH ka ρ S rest->BI C cf yf ops B M YA h0 s st->BU YA h0 Wt s st->Qm C pcf pyf K ops.toList (Region.before ops) l i s=some s1 ->
  ∃st1 E1 LH1 ka1 YE S1 Zuh,Zb3 C cf yf B M ops.toList (Region.before ops) l i st=some st1/\DI C cf yf K ops B M YA Z0 h0 Wt (i+l.length) s1 st1 E1 LH1 ka1 YE S1 Zuh/\BI C cf yf ops B M YA h0 s1 st1/\BU YA h0 Wt s1 st1
 | [],i,s,st,E,LH,ka,ρ,S,rest,s1,hl,D,b,bu,he=>by
   simp only[Qm,Option.some.injEq]at he;subst he;exact⟨st,E,LH,ka,ρ,S,rest,rfl,D,b,bu⟩
 |o::l,i,s,st,E,LH,ka,ρ,S,rest,s1,hl,D,b,bu,he=>by
  have ho:ops.toList[i]?=some o:=by
   have:(ops.toList.drop i)[0]?=some o:=by rw[hl];rfl
   simpa using this
  simp only[Qm]at he;split at he
  .rename_i s2 hs;obtain⟨st2,E2,LH2,ka2,YD,S2,Zaz7,h1,D2',b2,bu2⟩:=Z4o hcf hyf hpu hts hfc hfy hK0 hd hB hM H0 D1 D2 D3 D b bu H00 ho hs
   obtain⟨st3,E3,LH3,ka3,YJ,S3,Zaoz,h2,D3',b3,bu3⟩:=Zqp hcf hyf hpu hts hfc hfy hK0 hd hB hM H0 H00 D1 D2 D3 l (by
    rw[<- List.tail_drop,hl];rfl) D2' b2 bu2 he
   refine⟨st3,E3,LH3,ka3,YJ,S3,Zaoz,by simp only[Zb3,h1,h2],?_,b3,bu3⟩;rw[List.length_cons,Nat.add_comm l.length 1,<- Nat.add_assoc];exact D3'
  .cases he
theorem Tj {masks:Array Nat}{recs:List Rec}{c0 k:Nat}(h:Zix masks recs.zipIdx c0 k=true){c:Nat}{q:Rec}(hq:recs[c]?=some q)(h3:q.kind=3):(Vr masks c0 c=true->q.k < k)/\(Vr masks c c0=true->k<=q.k):=by
 have h1:=List.all_eq_true.1 h _ (Zbh hq)
 try dsimp only at h1
 rw[h3]at h1;simp only[Nat.beq_refl,Bool.not_true,Bool.false_or,Bool.and_eq_true,Bool.not_eq_true']at h1;constructor
 .intro hm;have:=h1.1;unfold Vr at hm;rw[hm,Bool.true_and]at this;rcases Nat.lt_or_ge q.k k with h5 | h5
  .exact h5
  .rw [Nat.ble_eq.mpr h5]at this;cases this
 .intro hm;have:=h1.2;unfold Vr at hm;rw[hm,Bool.true_and]at this;rcases Nat.lt_or_ge q.k k with h5 | h5
  .rw [Nat.blt_eq.mpr h5]at this;cases this
  .exact h5
theorem Zzm (hBM:B<=M)(D2:∀i j,i < ops.size->Vr (Region.before ops) i j=true->j < i)(D3:∀i j k,i < ops.size->Vr (Region.before ops) i j=true->Vr (Region.before ops) j k=true->Vr (Region.before ops) i k=true)(D:DI C cf yf K ops B M YA Z0 h0 Wt ops.size s st E LH ka ρ S rest)(b:BI C cf yf ops B M YA h0 s st):
  Zhg C cf yf B M (Region.before ops) st.recs.reverse.zipIdx st.hs.reverse.zipIdx=true:=by
 refine List.all_eq_true.2 ?_;rintro⟨r,c0⟩ hr;rw[List.mem_zipIdx_iff_getElem?]at hr
 try dsimp only at hr ⊢
 rw[Bool.or_eq_true];by_cases hk2:r.kind=2
 .right;refine List.all_eq_true.2 ?_;rintro⟨SS,k⟩ hS;rw[List.mem_zipIdx_iff_getElem?]at hS
  try dsimp only at hS ⊢
  rw[Bool.or_eq_true,Bool.or_eq_true];by_cases hkr:k=r.k
  .left;left;rw[hkr];simp
  .cases hal:Zix (Region.before ops) st.recs.reverse.zipIdx c0 k with
   |false=>left;right;rfl
   |true=>
    right;have hrr:rcP st c0=some r:=hr;have hsg:sgP st k=some SS:=hS;have hc0:c0 < ops.size:=Sv D.rlen hrr;have hkle:=Zrc D hsg;rcases D.rc c0 r hrr with h | ⟨_,Vu,⟨ZF,h3,h4,h5⟩ | ⟨u,hub⟩⟩ | ⟨w,h1,h2⟩
    .rcases h with h | h<;>rw[h]at hk2<;>cases hk2
    ·
     have hsi:Zq0 ZF (view B M r.vis SS):=by
      intro Zy s' hz;obtain⟨ow,a,b⟩:=h3 Zy s' hz
      have hka:∀j,ow=some j->ka j<=k:=by
       intro j hj;subst hj;rcases D.eO _ _ _ a with⟨_,_,e,_⟩ | ⟨_,e⟩
       .omega
       .obtain ⟨q,k1,k2⟩:=D.kaT j e;rcases k2 with⟨k3,k2⟩ | ⟨k3,k2⟩
        ·
         rcases Nat.eq_zero_or_pos q.k with h0' | h0'
         .omega
         .obtain ⟨c,q2,g1,g2,g3⟩:=D.rw (q.k - 1) (by have:=(D.rk j q k1).1;omega)
          have hcj:c < j:=by
           rcases Nat.lt_trichotomy c j with h | h | h
           .exact h
           .subst h;rw[k1]at g1;cases g1;omega
           .have:=(D.rm j c q q2 h k1 g1).1;omega
          have hcw:(c,true)∈s.st:=by
           rcases D.rc c q2 g1 with h | ⟨h,_⟩ | ⟨w2,h,h'⟩
           .rcases h with h | h<;>rw[h]at g2<;>cases g2
           .rw [h]at g2;cases g2
           .rcases h' with h' | ⟨_,h'⟩
            .rw [h']at g2;cases g2
            .rw [h']at h;exact h
          have:=D3 c0 j c hc0 (b j rfl) (D.ord j true c true e hcw hcj (.inl rfl));have:=(Tj hal g1 g2).1 this;omega
        .have:=(Tj hal k1 k3).1 (b j rfl);omega
      have Zk:=D.sg k SS Zy s' ow hsg a hka;rw[U9]
      .exact Zk
      .rintro ⟨x1,x2,x3⟩;cases ow with
       |none=>have:=D.eN _ _ a;omega
       |some j=>
        have Z83:∀g,Vr (Region.before ops) c0 g=true->st.made.testBit g=true->Zy=B+g->False:=fun g Qc hg2 hg3=>by
         rw[hg3,Nat.add_sub_cancel_left,h4 g Qc hg2]at x3;cases x3
        rcases D.eO _ _ _ a with⟨e1,e2,_⟩ | ⟨e1,e2⟩
        .exact Z83 j (b j rfl) e2 e1
        .rcases e1 with e1 | e1 | ⟨g,g1,g2,g3⟩
         .omega
         .omega
         .exact Z83 g (D3 c0 j g hc0 (b j rfl) g3) (D.md g g1).2 g2
     rw[h5 _ hsi];simp only[Zhc,Vu,Bool.true_and,Bool.and_eq_true,Nat.beq_eq];exact⟨rfl,rfl⟩
    ·
     obtain⟨hu0,q0,hq0,_,Zaq2⟩:=b.rb c0 u hub;rw[hrr]at hq0;cases hq0
     have Zcc:∀l A A',sgP st l=some A->sgP st (l+1)=some A'->((k<=l/\l < r.k)\/(r.k<=l/\l < k))->A'.get (YA u)=A.get (YA u):=by
      intro l A A' hA Vb hl;have hlk:=Zrc D Vb;obtain⟨c,q2,g1,g2,g3⟩:=D.rw l (by omega)
      have hcw:(c,true)∈s.st:=by
       rcases D.rc c q2 g1 with h | ⟨h,_⟩ | ⟨w2,h,h'⟩
       .rcases h with h | h<;>rw[h]at g2<;>cases g2
       .rw [h]at g2;cases g2
       .rcases h' with h' | ⟨_,h'⟩
        .rw [h']at g2;cases g2
        .rw [h']at h;exact h
      obtain⟨t,ht⟩:=b.we c hcw;have Zjv:c < ops.size:=D.sti c true hcw;rcases b.rw c0 u c t hub ht with h | h | ⟨q3,h1,h2⟩
      .exfalso;have h7:=(Tj hal g1 g2).1 h;have h8:=D2 c0 c hc0 h;have:=(D.rm c c0 q2 r h8 g1 hrr).2 g2;omega
      .exfalso;have h7:=(Tj hal g1 g2).2 h;have h8:=D2 c c0 Zjv h;have:=(D.rm c0 c r q2 h8 hrr g1).1;omega
      .rw [g1]at h1;cases h1;subst g3;exact h2 g2 A A' hA Vb
     have hex:∀l,l<=st.k->∃A,sgP st l=some A:=fun l hl=>by
      unfold sgP;rw[D.hs];exact⟨_,List.getElem?_eq_getElem (by simp[D.hlen];omega)⟩
     obtain⟨A0,hA0⟩:=hex r.k (D.rk c0 r hrr).1
     have Zajl:SS.get (YA u)=A0.get (YA u):=by
      rcases Nat.lt_or_ge k r.k with h5 | h5
      .have hup:∀m l,l=k+m->l<=r.k->∀A,sgP st l=some A->A.get (YA u)=SS.get (YA u):=by
        intro m
        induction m with
        |zero=>intro l hl _ A hA;simp only[Nat.add_zero]at hl;subst hl;rw[hsg]at hA;cases hA;rfl
        |succ m ih=>
         intro l hl hlr A hA;obtain⟨A1,hA1⟩:=hex (k+m) (by have:=Zrc D hA;omega);have h9:=ih (k+m) rfl (by omega) A1 hA1;rw[<- h9];subst hl;exact Zcc (k+m) A1 A hA1 hA (.inl ⟨by omega,by omega⟩)
       exact (hup (r.k - k) r.k (by omega) (Nat.le_refl _) A0 hA0).symm
      .have hup:∀m l,l=r.k+m->l<=k->∀A,sgP st l=some A->A.get (YA u)=A0.get (YA u):=by
        intro m
        induction m with
        |zero=>intro l hl _ A hA;simp only[Nat.add_zero]at hl;subst hl;rw[hA0]at hA;cases hA;rfl
        |succ m ih=>
         intro l hl hlr A hA;obtain⟨A1,hA1⟩:=hex (r.k+m) (by have:=Zrc D hA;omega);have h9:=ih (r.k+m) rfl (by omega) A1 hA1;rw[<- h9];subst hl;exact Zcc (r.k+m) A1 A hA1 hA (.inr ⟨by omega,by omega⟩)
       exact hup (k - r.k) k (by omega) (Nat.le_refl _) SS hsg
     rw[Zaq2 A0 hA0 SS Zajl];have Zm9:=Vu;simp only[Zhc,Vu,Bool.true_and,Bool.and_eq_true,Nat.beq_eq];exact⟨rfl,rfl⟩
    ·
     exfalso;rcases Nat.lt_or_ge k r.k with h5 | h5
     .obtain ⟨c,q2,g1,g2,g3⟩:=D.rw k (by have:=(D.rk c0 r hrr).1;omega)
      have hcj:c < c0:=by
       rcases Nat.lt_trichotomy c c0 with h | h | h
       .exact h
       .subst h;rw[hrr]at g1;cases g1;omega
       .have:=(D.rm c0 c r q2 h hrr g1).1;omega
      have hcw:(c,true)∈s.st:=by
       rcases D.rc c q2 g1 with h | ⟨h,_⟩ | ⟨w2,h,h'⟩
       .rcases h with h | h<;>rw[h]at g2<;>cases g2
       .rw [h]at g2;cases g2
       .rcases h' with h' | ⟨_,h'⟩
        .rw [h']at g2;cases g2
        .rw [h']at h;exact h
      have:=(Tj hal g1 g2).1 (D.ord c0 w c true h1 hcw hcj (.inr rfl));omega
     .obtain ⟨c,q2,g1,g2,g3⟩:=D.rw r.k (by omega)
      have hcj:c0 < c:=by
       rcases Nat.lt_trichotomy c0 c with h | h | h
       .exact h
       .subst h;rw[hrr]at g1;cases g1;rw[hk2]at g2;cases g2
       .have:=(D.rm c c0 q2 r h g1 hrr).2 g2;omega
      have hcw:(c,true)∈s.st:=by
       rcases D.rc c q2 g1 with h | ⟨h,_⟩ | ⟨w2,h,h'⟩
       .rcases h with h | h<;>rw[h]at g2<;>cases g2
       .rw [h]at g2;cases g2
       .rcases h' with h' | ⟨_,h'⟩
        .rw [h']at g2;cases g2
        .rw [h']at h;exact h
      have:=(Tj hal g1 g2).2 (D.ord c true c0 w hcw h1 hcj (.inl rfl));omega
 .left;rw[Sy hk2];rfl
theorem Zsh (D:DI C cf yf K ops B M YA Z0 h0 Wt ops.size s st E LH ka ρ S rest):Zbw (Region.before ops) st.recs.reverse.zipIdx=true:=by
 have hw:∀c q,rcP st c=some q->q.kind=3->(c,true)∈s.st:=by
  intro c q2 g1 g2;rcases D.rc c q2 g1 with h | ⟨h,_⟩ | ⟨w2,h,h'⟩
  .rcases h with h | h<;>rw[h]at g2<;>cases g2
  .rw [h]at g2;cases g2
  .rcases h' with h' | ⟨_,h'⟩
   .rw [h']at g2;cases g2
   .rw [h']at h;exact h
 refine List.all_eq_true.2 ?_;rintro⟨r,a⟩ hr;rw[List.mem_zipIdx_iff_getElem?]at hr
 try dsimp only at hr ⊢
 by_cases h3:r.kind=3
 .rw [Bool.or_eq_true];right;refine List.all_eq_true.2 ?_;rintro⟨q,b⟩ hq;rw[List.mem_zipIdx_iff_getElem?]at hq
  try dsimp only at hq ⊢
  by_cases h4:q.kind=3
  .have hr':rcP st a=some r:=hr;have hq':rcP st b=some q:=hq;have hwa:=hw a r hr' h3;have hwb:=hw b q hq' h4;rcases Nat.lt_trichotomy a b with h | h | h
   .have h5:=(D.rm a b r q h hr' hq').2 h3;have h6:=D.ord b true a true hwb hwa h (.inl rfl);unfold Vr at h6;rw[Nat.blt_eq.mpr h5,h6];simp
   .subst h;simp
   .have h5:=(D.rm b a q r h hq' hr').2 h4;have h6:=D.ord a true b true hwa hwb h (.inl rfl);unfold Vr at h6;rw[Nat.blt_eq.mpr h5,h6];simp
  .rw [Sy h4];simp
 .rw [Sy h3];rfl
theorem Z9r:Z2f C:=by
 intro K n pcf pyf cf yf hcf hyf hpu hts hfc hfy ops Xi Y4 h vh ρ Z q H S hK hd hok he;unfold Zcj at he
 .rw [Option.map_eq_some_iff]at he;obtain⟨s1,hp,rfl⟩:=he;obtain⟨D1,D2,D3⟩:=Zwi hok;have hM:vh.next+ops.toList.length=vh.next+ops.size:=by simp
  let E0:Ent:=fun Zy=>(Z Zy).map fun s=>(s,none)
  have hzr:∀L,zr E0 L=Z:=by
   intro L;funext Zy;unfold zr;simp only[E0];cases Z Zy<;>rfl
  have hS0:HP C ρ Z {vh with next:=vh.next+ops.toList.length} h:=H.sub rfl H.lt rfl (by simp) (by have:=H.wr;simp;omega)
  have hE0:∀Zy s' ow,E0 Zy=some (s',ow)->Z Zy=some s'/\ow=none:=by
   intro Zy s' ow he;simp only[E0,Option.map_eq_some_iff,Prod.mk.injEq]at he;obtain⟨a,b,c,d⟩:=he;exact⟨by rw[b,c],d.symm⟩
  have D0:DI C cf yf K ops vh.next (vh.next+ops.toList.length) ρ Z h vh 0 {sl:=Xi,h:=h,st:=[],made:=[],old:=fun u=>(h.get u).map (·.1),rb:=[],wt:=[]} {sl:=Y4,recs:=[],hs:=[{vh with next:=vh.next+ops.toList.length}],k:=0,made:=0} E0 (fun _=>false) (fun _=>0) ρ {vh with next:=vh.next+ops.toList.length} []:=by
   refine⟨rfl,rfl,rfl,fun k SS hk=>?_,by rw[hzr];exact hS0,fun Zy s' hz=>by simp only[E0,hz,Option.map_some],fun Zy s' he=>?_,fun Zy s' j he=>?_,fun t x hx=>?_,fun j hj=>(by cases hj),fun j hj=>(by simp at hj),fun c hc=>(by simp at hc),fun id y hy ha hb=>?_,fun c hc=>(by simp at hc),fun c hc=>(by simp at hc),fun c k SS _ hc hk=>?_,fun c w hc=>(by simp at hc),fun k SS Zy s' ow hk he _=>?_,fun j hj=>(by simp at hj),fun c w c' w' hc=>(by simp at hc),fun c q' hq=>(by simp[rcP]at hq),fun c c' q1 q2 _ hq=>(by simp[rcP]at hq),fun k hk=>(by cases hk),fun c q' hq=>(by simp[rcP]at hq),?_⟩
   .unfold sgP at hk;have:=List.mem_of_getElem? hk;simp at this;subst this;exact Nat.le_refl _
   .exact H.vlt _ _ (H.sig _ _ (hE0 _ _ _ he).1)
   .cases (hE0 _ _ _ he).2
   .obtain ⟨v,h1,h2⟩:=S t x hx;exact⟨v,_,h1,by rw[hzr];exact h2,.inr ⟨rfl,fun j o hj=>by omega⟩⟩
   .have:=H.rho_lt hy;omega
   .unfold sgP at hk;have:=List.mem_of_getElem? hk;simp at this;subst this;cases e:vh.get (vh.next+c) with
    |none=>rfl
    |some y=>have:=H.vlt _ _ e;omega
   .unfold sgP at hk;have:=List.mem_of_getElem? hk;simp at this;subst this;exact H.sig _ _ (hE0 _ _ _ he).1
   .exact ⟨Rd.refl _ _,Nat.le_refl _,Nat.le_refl _,fun _ _=>rfl,fun i Zc o _ ho=>.inl ho,fun i x hx=>.inl ⟨⟨x,hx⟩,rfl⟩,fun _ _ _ _=>rfl,fun q _ hq _=>hq,fun b _ h2 _=>h2⟩
  obtain⟨st1,E1,LH1,ka1,YE,S1,Zuh,W5,DE,bE,_⟩:=Zqp hcf hyf hpu hts hfc hfy hK hd rfl hM (fun i y hy=>H.rho_lt hy) H D1 D2 D3 ops.toList rfl D0 ⟨fun u=>rfl,fun c u hc=>(by simp at hc),fun j hj=>(by simp at hj),fun j t hj=>(by simp at hj),fun c u j t hc=>(by simp at hc)⟩ ⟨fun S0 hS u hu=>(by unfold sgP at hS;simp at hS;subst hS;rfl),fun u hu hw=>rfl⟩ hp
  have DE':DI C cf yf K ops vh.next (vh.next+ops.toList.length) ρ Z h vh ops.size s1 st1 E1 LH1 ka1 YE S1 Zuh:=by
   have:0+ops.toList.length=ops.size:=by simp
   rw[this]at DE;exact DE
  have hSM:=DE'.sm _ _ (Vn DE');have htop:Vf.le (zr E1 LH1) (zr E1 fun _=>true):=Za8 (fun _ _ h=>h) fun _ _=>rfl
  have hsgT:Zq0 (zr E1 fun _=>true) S1:=by
   intro Zy s' hz;obtain⟨ow,a,_⟩:=X7.1 hz;refine DE'.sg _ _ Zy s' ow (Vn DE') a fun j hj=>?_
   subst hj;exact DE'.kaLe a
  have hpT:HP C YE (zr E1 fun _=>true) S1 s1.h:=by
   refine⟨DE'.hp.lt,DE'.hp.inj,DE'.hp.vlt,hsgT,fun id Zc ob Tn=>?_,DE'.hp.wr⟩;refine (DE'.hp.obj id Zc ob Tn).mono (Rd.refl _ _) htop (fun hz=>?_) (fun _=>rfl) (Nat.le_refl _) (Nat.le_refl _);have:=DE'.pnone (by omega) Tn hz;unfold zr;rw[this]
  refine⟨st1.sl,S1,YE,zr E1 fun _=>true,?_,fun t x hx=>?_,⟨hpT,DE'.sx.ext,fun Zy s' hz=>X7.2 ⟨none,DE'.e0 Zy s' hz,fun j e=>by cases e⟩,DE'.sx.next,by omega,DE'.sx.wr,DE'.sx.keep,DE'.sx.same,DE'.sx.plc,DE'.sx.vkeep,DE'.sx.vnone,DE'.sx.low⟩⟩
  .unfold Zil
   try dsimp only
   rw[W5]
   try dsimp only
   rw[DE'.hs]
   try dsimp only
   have hr:=Zzm (by omega) D2 D3 DE' bE;have hw:=Zsh DE';rw[DE'.hs]at hr;rw[if_pos];simp only[Bool.and_eq_true];exact⟨⟨⟨Nat.ble_eq.mpr H.wr,D1⟩,hw⟩,hr⟩
  .obtain ⟨v,L,h1,h2,_⟩:=DE'.slot t x hx;exact⟨v,h1,h2.mono (Rd.refl _ _) (Za8 (fun _ _ h=>h) fun _ _=>rfl)⟩
end
theorem Z4z {C:Ctx}(hC:COkP C)(n:Nat)(K:Loc)(m:Nat):Ziz C K m (fun K=>Pure.call C n K) (Virt.call C n):=Zfb hC (Z9k hC Z9r n true) K m
end Go.Pure
end
