/- Replacing a subterm: plain facts. -/
import Derived.Test.YtabcdhcpilpojaaGreatDoorFG
import Derived.Test.YtabcdhcpilpojaaGreatDoorFB
import Derived.Test.YtabcdhcpilpojaaGreatDoorPD
import Derived.Test.YtabcdhcpilpojaaGreatDoorFC
import Derived.Test.YtabcdhcpilpojaaGreatDoorFF
import Derived.Test.YtabcdhcpilpojaaGreatDoorFH
set_option linter.unusedSimpArgs false
set_option linter.unusedVariables false
section
set_option maxRecDepth 20000
namespace Go.Proofs.YtabcdhcpilpojaaGreatDoor
open Go Go.Pure
open Go.Virt (Ex Ctx Ty TK)
mutual
def Zdh (o:List Nd)(W:Tr):Tr->Tr
 | .mk op sort name num ks=>if flat (.mk op sort name num ks)=o then W else .mk op sort name num (Zac o W (decide (op=15)) ks)
def Zac (o:List Nd)(W:Tr):Bool->List Tr->List Tr
 | _,[]=>[]
 |s,k::r=>(if s=true then k else Zdh o W k)::Zac o W false r
end
-- The parts of a term:some n:a node that stays;none:the Zati.
mutual
def Xp (o:List Nd):Tr->List (Option Nd)
 | .mk op sort name num ks=>if flat (.mk op sort name num ks)=o then [none] else some ⟨op,sort,name,num,(ks.length:Int)⟩::X8 o (decide (op=15)) ks
def X8 (o:List Nd):Bool->List Tr->List (Option Nd)
 | _,[]=>[]
 |s,k::r=>(if s=true then (flat k).map some else Xp o k)++X8 o false r
end
def Y7 (o:List Nd):Option Nd->List Nd
 |none=>o
 |some n=>[n]
def mkk (o:List Nd):Option Nd->List Bool
 |none=>List.replicate o.length false
 |some _=>[true]
def mkf (o:List Nd):Option Nd->List Bool
 |none=>true::List.replicate (o.length - 1) false
 |some _=>[false]
theorem Zpl (o:List Nd)(l:List Nd):(l.map some).flatMap (Y7 o)=l:=by
 induction l with
 |nil=>rfl
 |cons n l ih=>simp only[List.map_cons,List.flatMap_cons,ih,Y7];rfl
mutual
theorem Zas (o:List Nd):∀t,(Xp o t).flatMap (Y7 o)=flat t
 | .mk op sort name num ks=>by
   rw[Xp];split
   .rename_i h;simp[Y7,h]
   .rw [List.flatMap_cons,Zcg o _ ks];simp[Y7,flat]
theorem Zcg (o:List Nd):∀s ks,(X8 o s ks).flatMap (Y7 o)=Yl ks
 |s,[]=>rfl
 |s,k::r=>by
  rw[X8,List.flatMap_append,Zcg o false r,Yl];congr 1;split
  .exact Zpl o _
  .exact Zas o k
end
theorem Zcu (o:List Nd)(W:Tr):∀s ks,(Zac o W s ks).length=ks.length
 |s,[]=>rfl
 |s,k::r=>by rw[Zac,List.length_cons,Zcu o W false r,List.length_cons]
mutual
theorem Znu (o:List Nd)(W:Tr):∀t,flat (Zdh o W t)=(Xp o t).flatMap (Y7 (flat W))
 | .mk op sort name num ks=>by
   rw[Xp,Zdh];split
   .simp [Y7]
   .rw [flat,Zcu,List.flatMap_cons,Zqj o W _ ks];rfl
theorem Zqj (o:List Nd)(W:Tr):∀s ks,Yl (Zac o W s ks)=(X8 o s ks).flatMap (Y7 (flat W))
 |s,[]=>rfl
 |s,k::r=>by
  rw[X8,Zac,Yl,List.flatMap_append,Zqj o W false r];congr 1;split
  .exact (Zpl _ _).symm
  .exact Znu o W k
end
mutual
theorem Zx2 (o:List Nd){W:Tr}(hW:WF W):∀t,WF t->WF (Zdh o W t)
 | .mk op sort name num ks,hw=>by
   rw[Zdh];split
   .exact hW
   .rw [WF]at hw ⊢;exact⟨hw.1,by rw[Zcu];exact hw.2.1,Z0f o hW _ ks hw.2.2⟩
theorem Z0f (o:List Nd){W:Tr}(hW:WF W):∀s ks,WFs ks->WFs (Zac o W s ks)
 |s,[],_=>trivial
 |s,k::r,hw=>by
  rw[WFs]at hw;rw[Zac,WFs];refine⟨?_,Z0f o hW false r hw.2⟩;split
  .exact hw.1
  .exact Zx2 o hW k hw.1
end
theorem Z2o:∀(l:List Tr),(∀k∈l,0 < Zl k)->∀s∈Ym l,0 < s:=by
 intro l
 induction l with
 |nil=>intro _ s hs;simp[Ym]at hs
 |cons k r ih=>
  intro hl s hs;simp only[Ym,List.mem_cons]at hs;rcases hs with rfl | hs
  .exact hl k (by simp)
  .exact ih (fun k hk=>hl k (by simp[hk])) s hs
theorem Zlb {sort:Int}{name num:Y9}{ks:List Tr}(hw:WFs ks)(hp:0 < Zl (.mk 15 sort name num ks)):∃s n u r,ks=.mk 3 s n u []::r:=by
 obtain⟨_,he⟩:=Uj hp;rw[he]at hp;have h3:=Zach hp;cases ks with
 |nil=>simp[Vd]at h3
 |cons k r=>
  obtain⟨kop,s,n,u,kk⟩:=k;simp only[Vd,Tr.op]at h3;subst h3;rw[WFs]at hw;have:=Z62 hw.1;subst this;exact⟨s,n,u,r,rfl⟩
mutual
theorem Zub (o:List Nd){W:Tr}(hS:∀X,WF X->flat X=o->Zl W=Zl X):∀t,WF t->0 < Zl t->Zl (Zdh o W t)=Zl t
 | .mk op sort name num ks,hw,hp=>by
   rw[Zdh];split
   .rename_i h;exact hS _ hw h
   .have hw0:=hw;rw[WF]at hw;obtain⟨hks,he⟩:=Uj hp;have h1:=Zi9 o hS (decide (op=15)) ks hw.2.2 hks;rw[he,Zl,h1,if_pos (by rw[List.all_eq_true];intro s hs;rw[decide_eq_true_eq];exact Z2o ks hks s hs)];refine Z2u ?_;by_cases h15:op=15
    .right;subst h15;obtain⟨s,n,u,r,rfl⟩:=Zlb hw.2.2 hp;simp[Zac,Vd]
    .exact .inl h15
theorem Zi9 (o:List Nd){W:Tr}(hS:∀X,WF X->flat X=o->Zl W=Zl X):∀s ks,WFs ks->(∀k∈ks,0 < Zl k)->Ym (Zac o W s ks)=Ym ks
 |s,[],_,_=>rfl
 |s,k::r,hw,hp=>by
  rw[WFs]at hw;have h2:=Zi9 o hS false r hw.2 (fun k hk=>hp k (by simp[hk]));rw[Zac,Ym,Ym,h2];congr 1;split
  .rfl
  .exact Zub o hS k hw.1 (hp k (by simp))
end
-- The uses of the nodes that stay.
mutual
def kuT (o:List Nd):Tr->List Use
 | .mk op sort name num ks=>if flat (.mk op sort name num ks)=o then [] else Zt0 op sort name ks++Zvi o (decide (op=15)) ks
def Zvi (o:List Nd):Bool->List Tr->List Use
 | _,[]=>[]
 |s,k::r=>(if s=true then R2 k else kuT o k)++Zvi o false r
end
theorem mem_some {l:List Nd}:(none:Option Nd)∉l.map some:=by simp
mutual
theorem Zty (o:List Nd){W:Tr}(hS:∀X,WF X->flat X=o->Zl W=Zl X):∀t,WF t->0 < Zl t->∀u,u∈R2 (Zdh o W t)↔u∈kuT o t\/(none∈Xp o t/\u∈R2 W)
 | .mk op sort name num ks,hw,hp,u=>by
   rw[Zdh,kuT,Xp];split
   .simp
   .rw [WF]at hw;obtain⟨hks,he⟩:=Uj hp;have h1:=Zi9 o hS (decide (op=15)) ks hw.2.2 hks;have h2:=Zph o hS (decide (op=15)) ks hw.2.2 hks u;have hN:Zt0 op sort name (Zac o W (decide (op=15)) ks)=Zt0 op sort name ks:=by simp only[Zt0,h1]
    simp only[R2,hN,List.mem_append,h2,List.mem_cons,reduceCtorEq,false_or,or_assoc]
theorem Zph (o:List Nd){W:Tr}(hS:∀X,WF X->flat X=o->Zl W=Zl X):∀s ks,WFs ks->(∀k∈ks,0 < Zl k)->∀u,u∈Q9 (Zac o W s ks)↔u∈Zvi o s ks\/(none∈X8 o s ks/\u∈R2 W)
 |s,[],_,_,u=>by simp[Zac,Q9,Zvi,X8]
 |s,k::r,hw,hp,u=>by
  rw[WFs]at hw;have h1:=Zph o hS false r hw.2 (fun k hk=>hp k (by simp[hk])) u;rw[Zac,Zvi,X8,Q9];simp only[List.mem_append,h1];cases s with
  |true=>
   simp only[if_true,mem_some,false_or];constructor
   .rintro (h | h | h)
    .exact .inl (.inl h)
    .exact .inl (.inr h)
    .exact .inr h
   .rintro ((h | h) | h)
    .exact .inl h
    .exact .inr (.inl h)
    .exact .inr (.inr h)
  |false=>
   have h2:=Zty o hS k hw.1 (hp k (by simp)) u;simp only[Bool.false_eq_true,if_false,h2];constructor
   .rintro ((h | h) | (h | h))
    .exact .inl (.inl h)
    .exact .inr ⟨.inl h.1,h.2⟩
    .exact .inl (.inr h)
    .exact .inr ⟨.inr h.1,h.2⟩
   .rintro ((h | h) | ⟨h | h,h'⟩)
    .exact .inl (.inl h)
    .exact .inr (.inl h)
    .exact .inl (.inr ⟨h,h'⟩)
    .exact .inr (.inr ⟨h,h'⟩)
end
theorem Zm4 (o r:List Nd)(kr:List Bool):X2 (o++r) (List.replicate o.length false++kr)=X2 r kr:=by
 induction o with
 |nil=>rfl
 |cons n o ih=>rw[List.length_cons,List.replicate_succ,List.cons_append,List.cons_append,X2,ih];rfl
mutual
theorem Zvj (o:List Nd):∀(t:Tr) (r:List Nd) (kr:List Bool),WF t->0 < Zl t->Yq t<=258->X2 (flat t++r) ((Xp o t).flatMap (mkk o)++kr)=kuT o t++X2 r kr
 | .mk op sort name num ks,r,kr,hw,hp,hd=>by
   rw[Xp,kuT];split
   .rename_i h;rw[h];simp only[List.flatMap_cons,List.flatMap_nil,List.append_nil,mkk,List.nil_append];exact Zm4 o r kr
   .rw [Yq]at hd;rw[WF]at hw;obtain⟨hks,he⟩:=Uj hp
    have h1:=Zp6 o (decide (op=15)) ks r kr hw.2.2 hks (by omega) (by
     intro h;have h:op=15:=by simpa using h
     subst h;exact Zlb hw.2.2 hp)
    have h2:=Zbj ks 257 r hw.2.2 (by omega);simp only[flat,List.cons_append,List.flatMap_cons,mkk,List.nil_append,X2,if_true,Xl,Int.toNat_natCast,h2,h1,Zt0,List.append_assoc]
theorem Zp6 (o:List Nd):∀(s:Bool) (ks:List Tr) (r:List Nd) (kr:List Bool),WFs ks->(∀k∈ks,0 < Zl k)->Ys ks<=257->(s=true->∃a n u q,ks=.mk 3 a n u []::q)->X2 (Yl ks++r) ((X8 o s ks).flatMap (mkk o)++kr)=Zvi o s ks++X2 r kr
 |s,[],r,kr,hw,hp,hd,hs=>by simp[Yl,X8,Zvi]
 |s,k::ks,r,kr,hw,hp,hd,hs=>by
  rw[Ys]at hd;rw[WFs]at hw;have h2:=Zp6 o false ks r kr hw.2 (fun k hk=>hp k (by simp[hk])) (by omega) (by simp);rw[Yl,X8,Zvi,List.flatMap_append,List.append_assoc,List.append_assoc,List.append_assoc];cases s with
  |true=>
   obtain⟨a,n,u,q,e⟩:=hs rfl;cases e
   have:X2 (flat (.mk 3 a n u [])++(Yl ks++r)) (((flat (.mk 3 a n u [])).map some).flatMap (mkk o)++((X8 o false ks).flatMap (mkk o)++kr))=X2 (Yl ks++r) ((X8 o false ks).flatMap (mkk o)++kr):=by
    simp[flat,Yl,mkk,X2,Xl]
   rw[if_pos rfl,if_pos rfl,this,h2];simp[R2,Zt0,Q9]
  |false=>
   have h1:=Zvj o k (Yl ks++r) ((X8 o false ks).flatMap (mkk o)++kr) hw.1 (hp k (by simp)) (by omega);rw[if_neg (by simp),if_neg (by simp),h1,h2]
end
def Zs2 (o:List Nd):Bool->List (Option Nd)->List Nd->Prop
 | _,[],_=>True
 |fac,none::ps,r=>fac=false/\Zs2 o false ps r
 |fac,some n::ps,r=>(fac=false->¬ o <+:(n::ps.flatMap (Y7 o)++r))/\Zs2 o (decide (n.op=15)) ps r
theorem Zwd {O T:Tr}(hO:WF O)(hT:WF T){r:List Nd}(h:flat O <+:flat T++r):flat T=flat O:=by
 obtain⟨z,hz⟩:=h;have h1:=Ug O (max (Yq O) (Yq T)) z hO (by omega);have h2:=Ug T (max (Yq O) (Yq T)) r hT (by omega);rw[hz,h2]at h1;cases h1;rfl
mutual
theorem Zud {O:Tr}(hO:WF O):∀(t:Tr) (ps:List (Option Nd)) (r:List Nd),WF t->0 < Zl t->Zs2 (flat O) false ps r->Zs2 (flat O) false (Xp (flat O) t++ps) r
 | .mk op sort name num ks,ps,r,hw,hp,hs=>by
   rw[Xp];split
   .exact ⟨rfl,hs⟩
   .rename_i Yp;have hw0:=hw;rw[WF]at hw;obtain⟨hks,he⟩:=Uj hp
    refine⟨fun _ Z76=>Yp ?_,Zpn hO _ ks ps r hw.2.2 hks (by
     intro h;have h:op=15:=by simpa using h
     subst h;exact Zlb hw.2.2 hp) hs⟩
    replace Z76:flat O <+:(⟨op,sort,name,num,(ks.length:Int)⟩::(X8 (flat O) (decide (op=15)) ks++ps).flatMap (Y7 (flat O)))++r:=Z76;refine Zwd hO hw0 (r:=ps.flatMap (Y7 (flat O))++r) ?_;have e:=Zcg (flat O) (decide (op=15)) ks;simp only[flat];rw[<- e];simpa using Z76
theorem Zpn {O:Tr}(hO:WF O):∀(s:Bool) (ks:List Tr) (ps:List (Option Nd)) (r:List Nd),WFs ks->(∀k∈ks,0 < Zl k)->(s=true->∃a n u q,ks=.mk 3 a n u []::q)->Zs2 (flat O) false ps r->Zs2 (flat O) s (X8 (flat O) s ks++ps) r
 |s,[],ps,r,hw,hp,h3,hs=>by
  cases s with
  |true=>obtain⟨a,n,u,q,e⟩:=h3 rfl;cases e
  |false=>exact hs
 |s,k::ks,ps,r,hw,hp,h3,hs=>by
  rw[WFs]at hw;have h2:=Zpn hO false ks ps r hw.2 (fun k hk=>hp k (by simp[hk])) (by simp) hs;rw[X8,List.append_assoc];cases s with
  |true=>
   obtain⟨a,n,u,q,e⟩:=h3 rfl;cases e;exact⟨by simp,h2⟩
  |false=>exact Zud hO k _ r hw.1 (hp k (by simp)) h2
end
theorem Z4g {ks:List Tr}(h:Yl ks=[]):ks=[]:=by
 cases ks with
 |nil=>rfl
 |cons k r=>obtain⟨a,b,c,d,e⟩:=k;simp[Yl,flat]at h
mutual
theorem Zp5:∀(t:Tr) (n:Nd),WF t->(flat t).getLast?=some n->n.op≠15
 | .mk op sort name num ks,n,hw,h=>by
   have h1:=Zm3 ks n;rw[WF]at hw;rw[flat,List.getLast?_cons]at h;cases hr:(Yl ks).getLast? with
   |some m=>rw[hr]at h;exact h1 hw.2.2 (by rw[hr];simpa using h)
   |none=>
    rw[List.getLast?_eq_none_iff]at hr;have:=Z4g hr;subst this;simp[Yl]at h;rw[<- h];rintro rfl;have:=hw.2.1;simp[Yz]at this
theorem Zm3:∀(ks:List Tr) (n:Nd),WFs ks->(Yl ks).getLast?=some n->n.op≠15
 | [],n,hw,h=>by simp[Yl]at h
 |k::r,n,hw,h=>by
  have h1:=Zp5 k n;have h2:=Zm3 r n;rw[WFs]at hw;rw[Yl,List.getLast?_append]at h;cases hr:(Yl r).getLast? with
  |none=>rw[hr]at h;exact h1 hw.1 (by simpa using h)
  |some m=>rw[hr]at h;exact h2 hw.2 (by rw[hr];simpa using h)
end
theorem VT.flat_inj {t:List Nd}{tr:Tr}(v:VT t tr){X:Tr}(hX:WF X)(h:flat X=t):X=tr:=by
 have h1:=Ug X (max 257 (Yq X)) [] hX (by omega);rw[List.append_nil,h,Sw (by omega) v.parse]at h1;cases h1;rfl
def Zco (t o w:List Nd)(ps:List (Option Nd)):List Use:=X2 t (ps.flatMap (mkk o))++if none∈ps then Ya w else []
def Wf (t o w:List Nd)(ps:List (Option Nd)):List Nd×Int:=
 if sortL o≠sortL w then ([],3)
 else if Yv (Zco t o w ps)=false then ([],3)
 else if 20000 < (ps.flatMap (Y7 w)).length then ([],6)
 else if 0 < sortL (ps.flatMap (Y7 w)) then (ps.flatMap (Y7 w),0) else ([],6)
section
variable {t o w:List Nd}{T O W:Tr}(vt:VT t T)(vo:VT o O)(vw:VT w W)
include vt vo vw
omit vt in
theorem Z0h (hs:sortL o=sortL w):∀X,WF X->flat X=o->Zl W=Zl X:=by
 intro X hX h;rw[vo.flat_inj hX h,<- vo.sortL,<- vw.sortL,hs]
omit vo vw in
theorem Zacd:X2 t ((Xp o T).flatMap (mkk o))=kuT o T:=by
 have h:=Zvj o T [] [] vt.flatE.2 vt.pos (by have:=vt.depth;omega);rw[List.append_nil,List.append_nil,<- vt.flatE.1]at h;rw[h];simp[X2]
theorem Z0g (hs:sortL o=sortL w)(u:Use):u∈R2 (Zdh o W T)↔u∈Zco t o w (Xp o T):=by
 rw[Zty o (Z0h vo vw hs) T vt.flatE.2 vt.pos u,Zco,Zacd vt,List.mem_append,vw.usesE];refine or_congr Iff.rfl ?_;split
 .rename_i h;simp[h]
 .rename_i h;simp[h]
omit vt vo in
theorem Zacf:flat (Zdh o W T)=(Xp o T).flatMap (Y7 w):=by
 rw[Znu,<- vw.flatE.1]
omit vo in
theorem Zace:Good ((Xp o T).flatMap (Y7 w)):=by
 have Sg:∀n,some n∈Xp o T->n∈t:=by
  intro n hn;rw[vt.flatE.1,<- Zas o T,List.mem_flatMap];exact⟨_,hn,by simp[Y7]⟩
 have key:∀n∈(Xp o T).flatMap (Y7 w),n.Short/\n.Sm:=by
  intro n hn;rw[List.mem_flatMap]at hn;obtain⟨x,hx,hn⟩:=hn;cases x with
  |none=>exact⟨vw.good.short n hn,vw.good.sm n hn⟩
  |some m=>
   simp[Y7]at hn;subst hn;exact⟨vt.good.short n (Sg n hx),vt.good.sm n (Sg n hx)⟩
 exact⟨fun n hn=>(key n hn).1,fun n hn=>(key n hn).2⟩
theorem Zacg (hs:sortL o=sortL w)(hc:Yv (Zco t o w (Xp o T))=true)(hl:((Xp o T).flatMap (Y7 w)).length<=20000):
  (Tk [] ((Xp o T).flatMap (Y7 w))=true->sortL ((Xp o T).flatMap (Y7 w))=0)/\(Tk [] ((Xp o T).flatMap (Y7 w))=false->VT ((Xp o T).flatMap (Y7 w)) (Zdh o W T)/\Zl (Zdh o W T)=Zl T):=by
 have hw:=Zx2 o vw.flatE.2 T vt.flatE.2;have Zagy:=Zub o (Z0h vo vw hs) T vt.flatE.2 vt.pos;have Tz:0 < Zl (Zdh o W T):=by rw[Zagy];exact vt.pos
 have Ri:=Zace (o:=o) vt vw;have hu:=Z0g vt vo vw hs;rw[<- Zacf (o:=o) vw]at hl Ri ⊢;rw[Z4t];generalize Zdh o W T=X at *;constructor
 .intro hd;have hd:257 < Yq X:=by simpa using hd
  unfold sortL;rw[if_neg (by omega)];have hp:=Ug X (Yq X) [] hw (Nat.le_refl _);rw[List.append_nil]at hp;cases hq:Zg 257 (flat X) with
  |none=>rfl
  |some x=>
   have h2:=Sw (e:=Yq X) (by omega) hq;rw[hp]at h2;cases h2;have:=R7 hq;omega
 .intro hd;have hd:Yq X<=257:=by simpa using hd
  have hp:=Ug X 257 [] hw hd;rw[List.append_nil]at hp;refine⟨⟨hp,Tz,Ri,hl,?_⟩,Zagy⟩;rw[Zf7 hw (by omega)];have e:Yv (R2 X)=Yv (Zco t o w (Xp o T)):=Zfa hu;have:Yv (R2 X)=true:=by rw[e,hc]
  unfold Yv at this;exact of_decide_eq_true this
theorem Zx5 (hs:sortL o=sortL w)(hc:Yv (Zco t o w (Xp o T))=true):Wf t o w (Xp o T)=if 20000 < ((Xp o T).flatMap (Y7 w)).length then ([],6) else if Tk [] ((Xp o T).flatMap (Y7 w)) then ([],6) else ((Xp o T).flatMap (Y7 w),0):=by
 unfold Wf;rw[if_neg (by simpa using hs),if_neg (by rw[hc];simp)];by_cases hl:20000 < ((Xp o T).flatMap (Y7 w)).length
 .rw [if_pos hl,if_pos hl]
 .rw [if_neg hl,if_neg hl];have h:=Zacg vt vo vw hs hc (by omega);cases hd:Tk [] ((Xp o T).flatMap (Y7 w)) with
  |true=>rw[if_pos rfl,if_neg (by rw[h.1 hd];omega)]
  |false=>
   obtain⟨v2,e⟩:=h.2 hd;rw[if_pos (by rw[v2.sortL];exact v2.pos),if_neg (by simp)]
end
theorem Zrg {t o:List Nd}{T O:Tr}(vt:VT t T)(vo:VT o O):Wf t o o (Xp o T)=(t,0):=by
 have e:(Xp o T).flatMap (Y7 o)=t:=by rw[Zas,<- vt.flatE.1]
 have hu:∀u,u∈R2 (Zdh o O T)↔u∈Zco t o o (Xp o T):=Z0g vt vo vo rfl;have e2:flat (Zdh o O T)=flat T:=by rw[Znu,<- vo.flatE.1,Zas]
 have e3:Zdh o O T=T:=vt.flat_inj (Zx2 o vo.flatE.2 T vt.flatE.2) (by rw[e2,<- vt.flatE.1])
 have hc:Yv (Zco t o o (Xp o T))=true:=by
  rw[<- Zfa hu,e3,<- vt.usesE];unfold Yv;rw[decide_eq_true_eq];exact vt.clean
 unfold Wf;rw[if_neg (by simp),if_neg (by rw[hc];simp),e,if_neg (by have:=vt.len;omega),if_pos (by rw[vt.sortL];exact vt.pos)]
theorem Z2i {t o:List Nd}{T:Tr}(v:VT t T)(ps:List (Option Nd)):∀i,t.drop i=ps.flatMap (Y7 o)->Sn (Ww t) (ps.filterMap id)=X2 (t.drop i) (ps.flatMap (mkk o)):=by
 induction ps with
 |nil=>intro i h;rw[h];rfl
 |cons x ps ih=>
  intro i h;rw[List.flatMap_cons]at h;cases x with
  |none=>
   have h2:t.drop (i+o.length)=ps.flatMap (Y7 o):=by
    rw[<- List.drop_drop,h];simp[Y7]
   rw[h,List.flatMap_cons];simp only[Y7,mkk];rw[Zm4,show List.filterMap id ((none:Option Nd)::ps)=ps.filterMap id from rfl,ih _ h2,h2]
  |some n=>
   have hlt:i < t.length:=by
    rcases Nat.lt_or_ge i t.length with h1 | h1
    .exact h1
    .rw [List.drop_eq_nil_of_le h1]at h;cases h
   rw[List.drop_eq_getElem_cons hlt]at h;simp only[Y7,List.cons_append,List.nil_append,List.cons.injEq]at h;obtain⟨h1,h2⟩:=h;rw[List.drop_eq_getElem_cons hlt,List.flatMap_cons];simp only[mkk,List.cons_append,List.nil_append,X2,if_true];rw[show List.filterMap id (some n::ps)=n::ps.filterMap id from rfl,<- ih _ h2,Sn,List.flatMap_cons,<- h1,Zz8 v hlt];rfl
theorem Zyn {t:List Nd}{T:Tr}(v:VT t T){l:List Nd}(h:∀n∈l,n∈t):Zs5 l (Ww t):=by
 intro i hi h5;obtain⟨j,hj,e⟩:=List.getElem_of_mem (h _ (List.getElem_mem hi));rw[<- e]at h5 ⊢;obtain⟨k,hk,h1,h2,h3,h4⟩:=Z1j v hj h5;exact⟨k,hk,h1,by rw[Zz8 v hj,h3],h4⟩
theorem Zack {t o:List Nd}{T:Tr}(v:VT t T):∀n,some n∈Xp o T->n∈t:=by
 intro n hn;rw[v.flatE.1,<- Zas o T,List.mem_flatMap];exact⟨_,hn,by simp[Y7]⟩
theorem Zah8:vE.cmp 58=true:=by decide +kernel
theorem Zapd (n m:Nd):(n.op==m.op&&(n.sort==m.sort&&(n.name==m.name&&(n.num==m.num&&n.kids==m.kids))))=decide (n=m):=by
 obtain⟨a,b,c,d,e⟩:=n;obtain⟨a',b',c',d',e'⟩:=m;rw[Bool.eq_iff_iff];simp
theorem Zaag (b1 b2:Bool)(x y:List Nd)(hx:x.length < 2^62)(hy:y.length < 2^62):Xq vE 89 [L 58 b1 (x.map Zo),L 58 b2 (y.map Zo)] (.bool (decide (x=y))):=by
 have hC:=Zah8;by_cases hl:x.length=y.length
 .intro K H;refine Wc Tryz.func89 ?_
  (refine Zm ?_;repeat'(first|(refine Zi fun _=>?_;try simp(disch:=first|exact Zq|fail)[*,Yb,Tryz.f89])|refine Ye ?_|refine Zx ?_|refine Zn ?_ ?_))
  refine Zv [0,1,12] (fun n sl h=>∃i:Nat,n=x.length - i/\i<=x.length/\sl 13=some (.int .i64 i)/\∀j (hj:j < x.length) (hk:j < y.length),j < i->x[j]=y[j]) x.length rfl ⟨0,by simp⟩ ?_;rintro n sl h hf ⟨i,hn',hi,h5,hd⟩;simp at hf;replace hd:=Hide.mk hd;by_cases hlt:i < x.length
  .have Zng:i < y.length:=by omega
   clear hl;have hq:=Zapd x[i] y[i];generalize hxi:x[i]=a at *;generalize hyi:y[i]=c at *
   (refine Zm ?_;repeat'(first|(refine Zi fun _=>?_;try simp(disch:=first|exact Zq|fail)[*,Yb,Zn1,Zlq])|refine Ye ?_|refine Zx ?_|refine Zn ?_ ?_))
   .rename_i e;refine⟨_,by omega,i+1,rfl,by omega,by omega,fun j hj hk hji=>?_⟩;by_cases e':j=i
    .subst e';rw[hxi,hyi];exact e
    .exact hd.get j hj hk (by omega)
   .rename_i e;rintro rfl;exact e (hxi.symm.trans hyi)
  . (refine Zm ?_;repeat'(first|(refine Zi fun _=>?_;try simp(disch:=first|exact Zq|fail)[*,Yb])|refine Ye ?_|refine Zx ?_|refine Zn ?_ ?_))
    have:x=y:=List.ext_getElem hl fun j hj hk=>hd.get j hj hk (by omega)
    simp[this]
 .have:x≠y:=by rintro rfl;exact hl rfl
  have hq:decide (x=y)=false:=by simp[this]
  intro K H;refine Wc Tryz.func89 ?_
  (refine Zm ?_;repeat'(first|(refine Zi fun _=>?_;try simp(disch:=first|exact Zq|fail)[*,Yb,Tryz.f89])|refine Ye ?_|refine Zx ?_|refine Zn ?_ ?_))
structure ScanAt (t o:List Nd)(ps done rest:List (Option Nd))(fac:Bool)(i:Nat):Prop where
 split:ps=done++rest
 pos:i=(done.flatMap (Y7 o)).length
 scan:Zs2 o fac rest []
 zero:i=0->fac=false
 prev:∀j (h:j < t.length),i=j+1->fac=decide (t[j].op=15)
structure ScanE (t o:List Nd)(ps done:List (Option Nd))(i:Nat):Prop where
 ex:∃rest fac,ScanAt t o ps done rest fac i
theorem ScanAt.drop {t o:List Nd}{ps done rest:List (Option Nd)}{fac:Bool}{i:Nat}(Te:ps.flatMap (Y7 o)=t)(S:ScanAt t o ps done rest fac i):t.drop i=rest.flatMap (Y7 o)/\i<=t.length:=by
 have:t=done.flatMap (Y7 o)++rest.flatMap (Y7 o):=by rw[<- Te,S.split,List.flatMap_append]
 have hp:=S.pos;constructor
 .rw [this,hp];simp
 .have:=congrArg List.length this;rw[List.length_append]at this;omega
theorem ScanAt.start {t o:List Nd}{T O:Tr}(vt:VT t T)(vo:VT o O):ScanAt t o (Xp o T) [] (Xp o T) false 0:=by
 refine⟨rfl,rfl,?_,fun _=>rfl,fun j _ h=>by omega⟩;have h:=Zud vo.flatE.2 T [] [] vt.flatE.2 vt.pos trivial;rw[<- vo.flatE.1]at h;simpa using h
theorem ScanAt.put {t o:List Nd}{O:Tr}(vo:VT o O){ps done rest:List (Option Nd)}{fac:Bool}{i:Nat}(Te:ps.flatMap (Y7 o)=t)(S:ScanAt t o ps done (none::rest) fac i):fac=false/\i+o.length<=t.length/\(t.drop i).take o.length=o/\ScanAt t o ps (done++[none]) rest false (i+o.length):=by
 obtain⟨hd,hi⟩:=S.drop Te;have hs:=S.scan;rw[Zs2]at hs;rw[List.flatMap_cons]at hd;simp only[Y7]at hd;have hl:=congrArg List.length hd;rw[List.length_drop,List.length_append]at hl;have Yp:=vo.ne;refine⟨hs.1,by omega,by rw[hd];simp,⟨by rw[S.split];simp,?_,hs.2,fun h=>by omega,fun j hj e=>?_⟩⟩
 .rw [List.flatMap_append,List.length_append,<- S.pos];simp[Y7]
 .have h1:t[j]?=o[o.length - 1]?:=by
   have:(t.drop i)[o.length - 1]?=o[o.length - 1]?:=by rw[hd,List.getElem?_append_left (by omega)]
   rw[List.getElem?_drop]at this;rw[<- this];congr 1;omega
  rw[List.getElem?_eq_getElem hj]at h1;have h2:=Zp5 O t[j] vo.flatE.2 (by rw[<- vo.flatE.1,List.getLast?_eq_getElem?,<- h1]);simp[h2]
theorem ScanAt.keep {t o:List Nd}{ps done rest:List (Option Nd)}{fac:Bool}{i:Nat}{n:Nd}(Te:ps.flatMap (Y7 o)=t)(S:ScanAt t o ps done (some n::rest) fac i):∃h:i < t.length,t[i]=n/\(fac=false->∀q,q=o.length->i+q<=t.length->(t.drop i).take q≠o)/\ScanAt t o ps (done++[some n]) rest (decide (n.op=15)) (i+1):=by
 obtain⟨hd,hi⟩:=S.drop Te;have hs:=S.scan;rw[Zs2]at hs;rw[List.flatMap_cons]at hd;simp only[Y7,List.cons_append,List.nil_append]at hd
 have hlt:i < t.length:=by
  rcases Nat.lt_or_ge i t.length with h | h
  .exact h
  .rw [List.drop_eq_nil_of_le h]at hd;cases hd
 have hd0:=hd;rw[List.drop_eq_getElem_cons hlt,List.cons.injEq]at hd;refine⟨hlt,hd.1,fun hf q hq hl e=>hs.1 hf ?_,⟨by rw[S.split];simp,?_,hs.2,fun h=>by omega,fun j hj e=>?_⟩⟩
 .rw [List.append_nil,<- hd0,<- e];exact List.take_prefix _ _
 .rw [List.flatMap_append,List.length_append,<- S.pos];simp[Y7]
 .have:j=i:=by omega
  subst this;rw[hd.1]
theorem ScanAt.done {t o:List Nd}{ps done:List (Option Nd)}{rest:List (Option Nd)}{fac:Bool}(Yp:0 < o.length)(Te:ps.flatMap (Y7 o)=t)(S:ScanAt t o ps done rest fac t.length):rest=[]/\done=ps:=by
 obtain⟨hd,_⟩:=S.drop Te;rw[List.drop_length]at hd;cases rest with
 |nil=>exact⟨rfl,by rw[S.split,List.append_nil]⟩
 |cons x rest=>
  exfalso;cases x with
  |none=>
   rw[List.flatMap_cons]at hd;simp only[Y7]at hd;have:=congrArg List.length hd;rw[List.length_append,List.length_nil]at this;omega
  |some n=>cases hd
theorem Zaie {t o w:List Nd}{T W:Tr}(vt:VT t T)(vw:VT w W){ps:List (Option Nd)}(Te:ps.flatMap (Y7 o)=t):
  (none∈ps->(Wy [] [] (Ql w)).1=false->Yv (Zco t o w ps)=false) /\
  (none∈ps->(Wy [] [] (Ql w)).1=true->(Wy (Wy [] [] (Ql w)).2.1 (Wy [] [] (Ql w)).2.2 (Sn (Ww t) (ps.filterMap id))).1=Yv (Zco t o w ps)) /\
  (none∉ps->(Wy [] [] (Sn (Ww t) (ps.filterMap id))).1=Yv (Zco t o w ps)):=by
 have hK:Sn (Ww t) (ps.filterMap id)=X2 t (ps.flatMap (mkk o)):=by
  have:=Z2i vt ps 0 (by rw[List.drop_zero,Te])
  rwa [List.drop_zero]at this
 have hka:∀u∈X2 t (ps.flatMap (mkk o)),u.fn=false->u.args=[]:=fun u hu=>Zbx u (Zb8 hu)
 have hwa:∀u∈Ql w,u.fn=false->u.args=[]:=fun u hu=>Zbx u (Ze0.1 hu)
 refine⟨fun hn h=>?_,fun hn h=>?_,fun hn=>?_⟩
 .rw [Zrf hwa]at h;rw[<- Bool.not_eq_true]at h ⊢;unfold Yv at h ⊢;rw[decide_eq_true_eq]at h ⊢;refine fun hc=>h (Zqu (fun u hu=>?_) hc)
  unfold Zco;rw[if_pos hn];exact List.mem_append_right _ (Ze0.1 hu)
 .have h2:=Zdz (Sn (Ww t) (ps.filterMap id)) (Ql w) [] [];rw[if_pos h]at h2;rw[<- h2,hK,Zrf (fun u hu=>(List.mem_append.1 hu).elim (hwa u) (hka u))];refine Zfa fun u=>?_
  unfold Zco;rw[if_pos hn];simp only[List.mem_append,Ze0];exact or_comm
 .rw [hK,Zrf hka];unfold Zco;rw[if_neg hn,List.append_nil]
theorem Zmm {o:List Nd}{ps:List (Option Nd)}{w:List Nd}(x:Option Nd):((ps++[x]).map (Y7 w)).map Rj=(ps.map (Y7 w)).map Rj++[Rj (Y7 w x)]:=by simp
theorem Zp7 (ps:List (Option Nd))(x:Option Nd):((ps++[x]).filterMap id).map Zo=(ps.filterMap id).map Zo++x.toList.map Zo:=by
 cases x<;>simp
theorem Z2z {o:List Nd}(ho:0 < o.length)(ps:List (Option Nd)):ps.length<=(ps.flatMap (Y7 o)).length/\(ps.filterMap id).length<=(ps.flatMap (Y7 o)).length:=by
 induction ps with
 |nil=>simp
 |cons x ps ih=>
  rw[List.flatMap_cons,List.length_append,List.length_cons];cases x with
  |none=>rw[show List.filterMap id ((none:Option Nd)::ps)=ps.filterMap id from rfl];simp only[Y7];omega
  |some n=>rw[show List.filterMap id (some n::ps)=n::ps.filterMap id from rfl];simp only[Y7,List.length_cons,List.length_nil];omega
set_option maxHeartbeats 8000000 in
theorem Zal6 {t o w:List Nd}{T O W:Tr}(vt:VT t T)(vo:VT o O)(vw:VT w W)(b b1 b2:Bool):Xq vE 31 [L 58 b (t.map Zo),L 58 b1 (o.map Zo),L 58 b2 (w.map Zo)] (Zbz (Wf t o w (Xp o T))):=by
 have h49t:=Zzv vt b;have h49o:=Zzv vo b1;have h49w:=Zzv vw b2;have h54o:=Zaai vo b1;have h54w:=Zaai vw b2;have hso:=vo.sortL;have hsw:=vw.sortL;have hl:=vt.len;have Sh:=vo.len;have hlw:=vw.len;have hno:=vo.ne;have Te:=Zas o T;rw[<- vt.flatE.1]at Te;have hV:∃V,Wf t o w (Xp o T)=V:=⟨_,rfl⟩
 obtain⟨V,hV⟩:=hV;rw[hV];by_cases hS:Zl O=Zl W
 .have hs:sortL o=sortL w:=by rw[hso,hsw,hS]
  have heq:=fun hc=>Zx5 vt vo vw hs hc
  have Y5:=Zaie vt vw Te;have hS0:=ScanAt.start vt vo
  have Zar:Yv (Zco t o w (Xp o T))=false->V=([],3):=fun h=>by
   rw[<- hV];unfold Wf;rw[if_neg (by simpa using hs),if_pos h]
  have Ri:Yv (Zco t o w (Xp o T))=true->V=Zfv ((Xp o T).map (Y7 w)):=fun h=>by
   rw[<- hV,heq h];unfold Zfv;rw[<- List.flatMap_def]
  have hpm:=Zack (o:=o) vt;clear heq hso hsw hs hV;generalize Xp o T=ps at *;replace Y5:=Hide.mk Y5;replace Zar:=Hide.mk Zar;replace Ri:=Hide.mk Ri;replace hS0:=Hide.mk hS0;replace hpm:=Hide.mk hpm;replace Te:=Hide.mk Te;intro K H;refine Wc Tryz.func31 ?_;obtain⟨Zc,va,vb,h1,h53,U,Xa⟩:=Zacq {base:=H.next,lo:=H.next,ok:=[]} {H with next:=H.next+116};simp only at U h53;have Z8b:=U.lp
  (refine Zm ?_;repeat'(first|(refine Zi fun _=>?_;try simp(disch:=first|exact Zw|fail)[*,Yd,Tryz.f31])|refine Zx ?_|refine Zn ?_ ?_))
  refine Zv [0,1,2,8] (fun m sl h=>∃(i:Nat) (done:List (Option Nd)) (wp' wk:PV),m=t.length - i/\i<=t.length/\sl 12=some (.int .i64 i)/\sl 11=some (.bool (decide (none∈done)))/\sl 9=some wp'/\sl 10=some wk/\ScanE t o ps done i/\Pure.Acc [75,87] ⟨H.next,H.next,[]⟩ h 23 wp' ((done.map (Y7 w)).map Rj)/\Pure.Acc [94] ⟨H.next,H.next,[]⟩ h 58 wk ((done.filterMap id).map Zo) /\
    UM (H.next+116+4) Zc (H.next+116+1) va (H.next+116+2) vb [] [] h) t.length rfl
    ⟨0,[],.nils,.nils,by simp,by simp,by simp,by simp,by simp,by simp,⟨_,_,hS0.get⟩,Pure.Acc.nil,Pure.Acc.nil,U⟩ ?_
  clear U h53 hS0;rintro m sl h hfr ⟨i,done,wp',wk,hm,hi,h12,h11,h9,h10,⟨rest,fac,S⟩,hAp,hAk,U⟩;simp at hfr;have hpn:=U.lp;have hpl:=Z2z hno done;rw[<- S.pos]at hpl;by_cases hlt:i < t.length
  .cases rest with
   |nil=>
    exfalso;have:=(S.drop Te.get).1;rw[List.flatMap_nil,List.drop_eq_nil_iff]at this;omega
   |cons x rest=>
    have Vw:t.isEmpty=false:=by cases t<;>simp at hlt ⊢
    have hpv:fac=true->∃j,((i:Int) - 1).toNat=j/\∃h:j < t.length,t[j].op=15/\0 < i:=fun hf=>by
     have h0:i≠0:=fun e=>by have:=S.zero e;rw[hf]at this;cases this
     have hj:i - 1 < t.length:=by omega
     have:=S.prev (i - 1) hj (by omega);rw[hf]at this;exact⟨i - 1,by omega,hj,of_decide_eq_true this.symm,by omega⟩
    have hpw:fac=false->¬ 0 < i\/∃j,((i:Int) - 1).toNat=j/\∃h:j < t.length,t[j].op≠15/\0 < i:=fun hf=>by
     by_cases h0:0 < i
     .right;have hj:i - 1 < t.length:=by omega
      have:=S.prev (i - 1) hj (by omega);rw[hf]at this;exact⟨i - 1,by omega,hj,of_decide_eq_false this.symm,h0⟩
     .exact .inl h0
    cases x with
    |none=>
     obtain⟨hf0,hile,heqs,S2⟩:=S.put vo Te.get;subst hf0;have hsl:List.take o.length (List.drop i (t.map Zo))=o.map Zo:=by rw[<- List.map_drop,<- List.map_take,heqs]
     have h89:=Zaag false b1 o o (by omega) (by omega);rw[decide_eq_true rfl]at h89
     have hwL:L 58 b2 (w.map Zo)=.lst 58 (w.map Zo):=by
      have:=vw.ne;cases w<;>simp[Xe]at this ⊢
     obtain⟨wp2,h3,Zr6,Z34,Z79,Zib⟩:=hAp.app (dd:=75) (ys:=[PV.lst 58 (w.map Zo)]) (T:={k:=.slice 58,size:=1,bytes:=24,zero:=[.slice none 0 0]}) (by simp) rfl (by simp only[List.length_map,List.length_cons,List.length_nil];omega) (by decide) (by decide) (by simp);simp only[List.length_cons,List.length_nil]at Zr6
     have Zy8:Pure.Acc [75,87] ⟨H.next,H.next,[]⟩ h3 23 wp2 (((done++[none]).map (Y7 w)).map Rj):=by
      rw[Zmm (o:=o)]
      have e:Rj (Y7 w none)=.lst 58 (w.map Zo):=by
       have:=vw.ne;show L 58 true (w.map Zo)=_;cases w<;>simp[Xe]at this ⊢
      rw[e];exact Z34
     have Zza:Pure.Acc [94] ⟨H.next,H.next,[]⟩ h3 58 wk (((done++[none]).filterMap id).map Zo):=by
      rw[Zp7];simp only[Option.toList_none,List.map_nil,List.append_nil];exact hAk.frame fun d hd=>Zib _ (by intro e he;simp at he hd;subst hd;rcases he with rfl | rfl<;>simp)
     have hUf:UM (H.next+116+4) Zc (H.next+116+1) va (H.next+116+2) vb [] [] h3:=U.frame (Zib _ (by intro e he;simp at he;rcases he with rfl | rfl<;>show H.next+116+_≠H.next+_<;>omega)) (Zib _ (by intro e he;simp at he;rcases he with rfl | rfl<;>show H.next+116+_≠H.next+_<;>omega)) (Zib _ (by intro e he;simp at he;rcases he with rfl | rfl<;>show H.next+116+_≠H.next+_<;>omega)) (by rw[Z79];exact Nat.le_refl _);replace hpw:=hpw rfl;clear hpv S hAp Z34 hAk U Zib h49t h49o h49w h54o h54w;replace Zy8:=Hide.mk Zy8;replace Zza:=Hide.mk Zza;replace hUf:=Hide.mk hUf;replace S2:=Hide.mk S2;rcases hpw with hz | ⟨j,hj,hjl,h15,hz⟩
     all_goals (refine Zm ?_;repeat'(first|(refine Zi fun _=>?_;try simp(disch:=first|exact Zw|fail)[*,Yd])|refine Zx ?_|refine Zn ?_ ?_))
     all_goals exact⟨_,by omega,i+o.length,rfl,by omega,by omega,done++[none],by simp,⟨_,_,S2.get⟩,by simpa using Zy8.get,by simpa using Zza.get,hUf.get⟩
    |some n=>
     obtain⟨_,hnd,Yp,S2⟩:=S.keep Te.get
     have hsl1:List.take 1 (List.drop i (t.map Zo))=[Zo n]:=by
      rw[List.drop_eq_getElem_cons (by simpa using hlt)];simp[hnd]
     have hD:(¬ 0 < i/\t.length < i+o.length)\/(¬ 0 < i/\i+o.length<=t.length/\Xq vE 89 [L 58 false (List.take o.length (List.drop i (t.map Zo))),L 58 b1 (o.map Zo)] (.bool false))\/(∃j,((i:Int) - 1).toNat=j/\∃h:j < t.length,t[j].op=15/\0 < i)\/(∃j,((i:Int) - 1).toNat=j/\∃h:j < t.length,t[j].op≠15/\0 < i/\t.length < i+o.length) \/
       (∃j,((i:Int) - 1).toNat=j/\∃h:j < t.length,t[j].op≠15/\0 < i/\i+o.length<=t.length/\Xq vE 89 [L 58 false (List.take o.length (List.drop i (t.map Zo))),L 58 b1 (o.map Zo)] (.bool false)):=by
      cases hf:fac with
      |true=>exact .inr (.inr (.inl (hpv hf)))
      |false=>
       have h89:i+o.length<=t.length->Xq vE 89 [L 58 false (List.take o.length (List.drop i (t.map Zo))),L 58 b1 (o.map Zo)] (.bool false):=fun hle=>by
        have:=Zaag false b1 ((t.drop i).take o.length) o (by simp;omega) (by omega);rw[decide_eq_false (Yp hf _ rfl hle),List.map_take,List.map_drop]at this;exact this
       rcases hpw hf with hz | ⟨j,h1,h2,h3,h4⟩
       .rcases Nat.lt_or_ge t.length (i+o.length) with h | h
        .exact .inl ⟨hz,h⟩
        .exact .inr (.inl ⟨hz,h,h89 h⟩)
       .rcases Nat.lt_or_ge t.length (i+o.length) with h | h
        .exact .inr (.inr (.inr (.inl ⟨j,h1,h2,h3,h4,h⟩)))
        .exact .inr (.inr (.inr (.inr ⟨j,h1,h2,h3,h4,h,h89 h⟩)))
     obtain⟨wp2,h3,Zr6,Z34,Z79,Zib⟩:=hAp.app (dd:=87) (ys:=[PV.lst 58 [Zo n]]) (T:={k:=.slice 58,size:=1,bytes:=24,zero:=[.slice none 0 0]}) (by simp) rfl (by simp only[List.length_map,List.length_cons,List.length_nil];omega) (by decide) (by decide) (by simp);obtain⟨wk2,h4,hap2,hAk2,hnx4,Z8o⟩:=(hAk.frame (h':=h3) (fun d hd=>Zib _ (by intro e he;simp at he hd;subst hd;rcases he with rfl | rfl<;>simp))).app (dd:=94) (ys:=[Zo n]) (T:={k:=.struct [(0,3),(1,3),(2,9),(3,9),(4,3)],size:=5,bytes:=56,zero:=[.int .i64 0,.int .i64 0,.string ⟨#[]⟩,.string ⟨#[]⟩,.int .i64 0]}) (by simp) rfl (by simp only[List.length_map,List.length_cons,List.length_nil];omega) (by decide) (by decide) (by simp);simp only[List.length_cons,List.length_nil]at Zr6 hap2;have hs1:=hAp.same (n:=3);have hs2:=hAk.same (n:=3);have hs3:=Z34.same (n:=3);have hs4:=hAk2.same (n:=3)
     have Z04:∀j,j≠H.next+75->j≠H.next+87->j≠H.next+94->h4.get j=h.get j:=fun j a1 a2 a3=>by
      rw[Z8o j (by intro e he;simp at he;subst he;exact a3),Zib j (by intro e he;simp at he;rcases he with rfl | rfl;exact a1;exact a2)]
     have Zy8:Pure.Acc [75,87] ⟨H.next,H.next,[]⟩ h4 23 wp2 (((done++[some n]).map (Y7 w)).map Rj):=by
      rw[Zmm (o:=o)];exact Z34.frame fun d hd=>Z8o _ (by intro e he;simp at he hd;subst he;rcases hd with rfl | rfl<;>simp)
     have Zza:Pure.Acc [94] ⟨H.next,H.next,[]⟩ h4 58 wk2 (((done++[some n]).filterMap id).map Zo):=by
      rw[Zp7];exact hAk2
     have hUf:UM (H.next+116+4) Zc (H.next+116+1) va (H.next+116+2) vb [] [] h4:=U.frame (Z04 _ (by omega) (by omega) (by omega)) (Z04 _ (by omega) (by omega) (by omega)) (Z04 _ (by omega) (by omega) (by omega)) (by rw[hnx4,Z79];exact Nat.le_refl _);clear hpv hpw S hAp Z34 hAk hAk2 U Zib Z8o Z04 h49t h49o h49w h54o h54w Yp;replace Zy8:=Hide.mk Zy8;replace Zza:=Hide.mk Zza;replace hUf:=Hide.mk hUf;replace S2:=Hide.mk S2;obtain⟨op,sort,name,num,kids⟩:=n;rcases hD with⟨hz,hs⟩ | ⟨hz,hs,h89⟩ | ⟨j,hj,hjl,h15,hz⟩ | ⟨j,hj,hjl,h15,hz,hs⟩ | ⟨j,hj,hjl,h15,hz,hs,h89⟩
     all_goals (refine Zm ?_;repeat'(first|(refine Zi fun _=>?_;try simp(disch:=first|exact Zw|fail)[*,Yd])|refine Zx ?_|refine Zn ?_ ?_))
     all_goals refine Yw false true [85,91] [] [] [] false (by decide +kernel) ?_
     all_goals (refine Zm ?_;repeat'(first|(refine Zi fun _=>?_;try simp(disch:=first|exact Zw|fail)[*,Yd])|refine Zx ?_|refine Zn ?_ ?_))
     all_goals exact⟨_,by omega,i+1,rfl,by omega,by omega,done++[some ⟨op,sort,name,num,kids⟩],by simp,⟨_,_,S2.get⟩,by simpa using Zy8.get,by simpa using Zza.get,hUf.get⟩
  .have hit:i=t.length:=by omega
   subst hit;obtain⟨_,hdp⟩:=S.done hno Te.get;subst hdp;clear S;have h57:=Zaah vt b;have Sg:∀n∈done.filterMap id,n∈t:=fun n hn=>hpm.get n (by simpa[List.mem_filterMap]using hn)
   have hKK:=Zyn vt Sg
   have Uq:(Ww t).length < 2^29:=by
    have h1:=Zpw (Ya t) ([],[]);have h2:=Zdu t;unfold Ww Va;simp at h1;omega
   have hfar:∀g∈Ww t,g.args.length < 2^30:=fun g hgm=>vt.args g (Zjz.1 hgm).1
   have hmm:∀x∈done,∀n,x=some n->n∈t:=fun x hx n e=>hpm.get n (by rw[<- e];exact hx)
   have Yp:(done.map (Y7 w)).flatten≠[]:=by
    intro e;rw[List.flatten_eq_nil_iff]at e;have hn:=vt.ne;cases done with
    |nil=>rw[<- Te.get]at hn;simp at hn
    |cons x ps=>
     have:=e (Y7 w x) (by simp);have hw:=vw.ne;cases x with
     |none=>simp only[Y7]at this;rw[this]at hw;simp at hw
     |some n=>cases this
   have hpp:∀p∈done.map (Y7 w),p.length<=20000:=by
    intro p hp;obtain⟨x,_,rfl⟩:=List.mem_map.1 hp;cases x<;>simp[Y7];exact hlw
   have Zyw:∀n∈(done.map (Y7 w)).flatten,0<=n.kids/\n.kids < 2^60:=by
    intro n hn;rw[List.mem_flatten]at hn;obtain⟨p,hp,hn⟩:=hn;obtain⟨x,hx,rfl⟩:=List.mem_map.1 hp;cases x with
    |none=>exact vw.kids n hn
    |some m=>
     simp[Y7]at hn;subst hn;exact vt.kids n (hmm _ hx _ rfl)
   have h58:=Zal1 true (done.map (Y7 w)) Yp (by simp;omega) hpp Zyw
   have h56:∀(vs0 fs0:List Use) (h2:PH),(∀g∈fs0,g.args.length < 2^30)->UM (H.next+116+4) Zc (H.next+116+1) va (H.next+116+2) vb vs0 fs0 h2->Pure.Acc [94] ⟨H.next,H.next,[]⟩ h2 58 wk ((done.filterMap id).map Zo) ->
     ∃h5,Yh vE {base:=H.next,lo:=H.next,ok:=[]} 56 [.ptr (H.next+116+4) Zc 0,wk,L 155 true ((Va (Ya t)).2.map Y8)] h2=some (.bool (Wy vs0 fs0 (Sn (Ww t) (done.filterMap id))).1,h5)/\∀j,j≠H.next+116+4->j≠H.next+116+1->j≠H.next+116+2->j≠H.next+94->h5.get j=h2.get j:=by
    intro vs0 fs0 h2 hf0 U hA;rcases hA with⟨e0,rfl⟩ | ⟨d,Zov,Zne,hd,rfl,hgk⟩
    .obtain ⟨h5,hc,ho⟩:=Z9y (done.filterMap id) true (Ww t) hKK (by omega) Uq hfar hf0 U {base:=H.next,lo:=H.next,ok:=[]} (by simp;omega) (by simp;omega) (by simp;omega);rw[e0]at hc;exact⟨h5,hc,fun j a1 a2 a3 _=>ho j a1 a2 a3⟩
    .simp only [List.mem_singleton]at hd;subst hd;rw[List.length_map];obtain⟨h5,hc,ho⟩:=Z9z (done.filterMap id) (Ww t) hKK (by omega) Uq hfar hf0 U hgk (by show H.next+94≠_;omega) (by show H.next+94≠_;omega) (by show H.next+94≠_;omega) {base:=H.next,lo:=H.next,ok:=[]} (by simp;omega) (by simp;omega) (by simp;omega) (by simp);exact⟨h5,hc,fun j a1 a2 a3 a4=>ho j a1 a2 a3 a4⟩
   have fin:∀h5:PH,∀c:Bool,Pure.Acc [75,87] ⟨H.next,H.next,[]⟩ h5 23 wp' ((done.map (Y7 w)).map Rj)->(c=false->V=([],3))->(c=true->V=Zfv (done.map (Y7 w)))->c=true->∀K0:Pure.Loc,K0=⟨H.next,H.next,[]⟩->Yh vE K0 58 [wp'] h5=some (Zbz V,h5):=by
    rintro h5 c Zr7 _ hg rfl K0 rfl;rw[hg rfl];have:=Zr7.callT (C:=vE) (f:=58) rfl rfl [] [] h58 (Zkx (Zfv (done.map (Y7 w))).1 (Zfv (done.map (Y7 w))).2) (Zacr (Zfv (done.map (Y7 w))).1 (Zfv (done.map (Y7 w))).2) rfl rfl;simpa using this
   have Zy2:∀h2 h5:PH,Pure.Acc [75,87] ⟨H.next,H.next,[]⟩ h2 23 wp' ((done.map (Y7 w)).map Rj)->(∀j,j≠H.next+116+4->j≠H.next+116+1->j≠H.next+116+2->j≠H.next+94->h5.get j=h2.get j)->Pure.Acc [75,87] ⟨H.next,H.next,[]⟩ h5 23 wp' ((done.map (Y7 w)).map Rj):=fun h2 h5 hA ho=>hA.frame (fun d hd=>ho _ (by simp at hd;rcases hd with rfl | rfl<;>show H.next+_≠_<;>omega) (by simp at hd;rcases hd with rfl | rfl<;>show H.next+_≠_<;>omega) (by simp at hd;rcases hd with rfl | rfl<;>show H.next+_≠_<;>omega) (by simp at hd;rcases hd with rfl | rfl<;>show H.next+_≠_<;>omega))
   clear Zyw hpp Yp hmm Sg hKK Uq hfar h58;obtain⟨r1,r2,r3⟩:=Y5.get;by_cases hany:none∈done
   .have hde:decide (none∈done)=true:=decide_eq_true hany;have h55:=Zaeh vw b2 (vs0:=[]) (fs0:=[]) (by simp) U {base:=H.next,lo:=H.next,ok:=[]} (by simp;omega) (by simp;omega) (by simp;omega);cases hr1:(Wy [] [] (Ql w)).1 with
    |false=>
     have hv:=Zar.get (r1 hany hr1);subst hv;rw[hr1]at h55;clear r1 r2 r3 Zar Ri fin Zy2 h56 hAp hAk U hr1
     (refine Zm ?_;repeat'(first|(refine Zi fun _=>?_;try simp(disch:=first|exact Zw|fail)[*,Yd,Wn])|refine Zx ?_|refine Zn ?_ ?_))
    |true=>
     have Zv0:=Zja (Ql w) [] [] (by simp) (fun u hu=>vw.args u (Ze0.1 hu));obtain⟨h5,Zy5,ho5⟩:=h56 _ _ _ Zv0 (U.put (Wy [] [] (Ql w)).2.1 (Wy [] [] (Ql w)).2.2) (hAk.frame fun d hd=>by simp at hd;subst hd;simp);rw[r2 hany hr1]at Zy5;have Zr7:=Zy2 _ h5 (hAp.frame fun d hd=>by simp at hd;rcases hd with rfl | rfl<;>simp<;>omega) ho5;rw[hr1]at h55;cases hcl:Yv (Zco t o w done) with
     |false=>
      rw[hcl]at Zy5;have hv:=Zar.get hcl;subst hv;clear r1 r2 r3 Zar Ri fin Zy2 h56 hAp hAk U Zr7 ho5 Zv0
      (refine Zm ?_;repeat'(first|(refine Zi fun _=>?_;try simp(disch:=first|exact Zw|fail)[*,Yd,Wn])|refine Zx ?_|refine Zn ?_ ?_))
     |true=>
      rw[hcl]at Zy5;have hc58:=fin h5 true Zr7 (by simp) (fun _=>Ri.get hcl) rfl _ rfl;obtain⟨x,e⟩:=V;clear r1 r2 r3 Zar Ri fin Zy2 h56 hAp hAk U Zr7 ho5 Zv0
      (refine Zm ?_;repeat'(first|(refine Zi fun _=>?_;try simp(disch:=first|exact Zw|fail)[*,Yd])|refine Zx ?_|refine Zn ?_ ?_))
   .have hde:decide (none∈done)=false:=decide_eq_false hany;obtain⟨h5,Zy5,ho5⟩:=h56 _ _ _ (by simp) U hAk;rw[r3 hany]at Zy5;have Zr7:=Zy2 _ h5 hAp ho5;cases hcl:Yv (Zco t o w done) with
    |false=>
     rw[hcl]at Zy5;have hv:=Zar.get hcl;subst hv;clear r1 r2 r3 Zar Ri fin Zy2 h56 hAp hAk U Zr7 ho5
     (refine Zm ?_;repeat'(first|(refine Zi fun _=>?_;try simp(disch:=first|exact Zw|fail)[*,Yd,Wn])|refine Zx ?_|refine Zn ?_ ?_))
    |true=>
     rw[hcl]at Zy5;have hc58:=fin h5 true Zr7 (by simp) (fun _=>Ri.get hcl) rfl _ rfl;obtain⟨x,e⟩:=V;clear r1 r2 r3 Zar Ri fin Zy2 h56 hAp hAk U Zr7 ho5
     (refine Zm ?_;repeat'(first|(refine Zi fun _=>?_;try simp(disch:=first|exact Zw|fail)[*,Yd])|refine Zx ?_|refine Zn ?_ ?_))
 .have hs:sortL o≠sortL w:=by rw[hso,hsw];exact hS
  unfold Wf at hV;rw[if_pos hs]at hV;subst hV;have hSb:(Zl O==Zl W)=false:=by simpa using hS
  clear hs Te hso hsw;intro K H;refine Wc Tryz.func31 ?_
  (refine Zm ?_;repeat'(first|(refine Zi fun _=>?_;try simp(disch:=first|exact Zw|fail)[*,Yd,Tryz.f31,Wn])|refine Zx ?_|refine Zn ?_ ?_))
theorem Zuo (o:List Nd):∀(ks:List Tr) (s:Bool) (k:Nat) (hk:k < ks.length),X8 o s (ks.take (k+1))=X8 o s (ks.take k)++(if s=true/\k=0 then (flat ks[k]).map some else Xp o ks[k])
 | [],s,k,hk=>by simp at hk
 |x::ks,s,0,hk=>by simp[X8]
 |x::ks,s,k+1,hk=>by
  have:=Zuo o ks false k (by simpa using hk);simp only[List.take_succ_cons,X8,this,List.getElem_cons_succ,Bool.false_eq_true,false_and,if_false,List.append_assoc];simp
theorem Zns (ks:List Tr)(k:Nat)(hk:k < ks.length):Yl (ks.take (k+1))=Yl (ks.take k)++flat ks[k]:=by
 induction ks generalizing k with
 |nil=>simp at hk
 |cons x ks ih=>
  cases k with
  |zero=>simp[Yl]
  |succ k=>
   have:=ih k (by simpa using hk);simp only[List.take_succ_cons,Yl,this,List.getElem_cons_succ,List.append_assoc]
theorem Zc2 (ks:List Tr)(k:Nat)(hk:k < ks.length):Yl (ks.drop k)=flat ks[k]++Yl (ks.drop (k+1)):=by
 rw[List.drop_eq_getElem_cons hk,Yl]
theorem Zen (ks:List Tr)(k:Nat):Yl ks=Yl (ks.take k)++Yl (ks.drop k):=by
 induction ks generalizing k with
 |nil=>simp[Yl]
 |cons x ks ih=>
  cases k with
  |zero=>simp[Yl]
  |succ k=>simp only[List.take_succ_cons,List.drop_succ_cons,Yl,ih k,List.append_assoc]
theorem Zlc (o:List Nd)(ps:List (Option Nd))(ho:0 < o.length):(ps.flatMap (mkk o)).length=(ps.flatMap (Y7 o)).length/\(ps.flatMap (mkf o)).length=(ps.flatMap (Y7 o)).length:=by
 induction ps with
 |nil=>simp
 |cons x ps ih=>
  simp only[List.flatMap_cons,List.length_append,ih.1,ih.2];cases x<;>simp[mkk,mkf,Y7];omega
def Vo (a:List Bool)(n:Nat)(r:List Bool):List PV:=(a++(List.replicate n false++r)).map .bool
theorem Zmg (a:List Bool)(n:Nat)(r:List Bool):(Vo a (n+1) r).set a.length (.bool true)=Vo (a++[true]) n r:=by
 simp[Vo,List.replicate_succ,List.map_append]
theorem Zmi (a:List Bool)(n:Nat)(r:List Bool)(h:a.length < (Vo a (n+1) r).length):(Vo a (n+1) r)[a.length]=.bool false:=by
 simp[Vo,List.replicate_succ]
theorem Zmh (a:List Bool)(n:Nat)(r:List Bool):(Vo a n r).length=a.length+n+r.length:=by
 simp[Vo];omega
theorem Zqm {C:Ctx}{f:Nat}{x y z:PV}{l:List PV}:extP C f (x::y::z::l)=none:=by
 unfold extP;split
 .rename_i h;cases h
 .rename_i h;cases h
 .rfl
theorem Znt (ks:List Tr):ks.length<=(Yl ks).length:=by
 induction ks with
 |nil=>simp
 |cons k r ih=>obtain⟨x1,x2,x3,x4,x5⟩:=k;simp[Yl,flat];omega
theorem Z6m (a:List Bool)(n m:Nat)(r:List Bool):Vo a (n+m) r=Vo a n (List.replicate m false++r):=by
 simp only[Vo,<- List.append_assoc,List.replicate_append_replicate]
theorem Zio:∀ {ks:List Tr} {k:Nat} (hk:k < ks.length),Yq ks[k]<=Ys ks
 |x::ks,0,hk=>by rw[Ys];simp;omega
 |x::ks,k+1,hk=>by
  have:=Zio (ks:=ks) (k:=k) (by simpa using hk);rw[Ys];simp only[List.getElem_cons_succ];omega
theorem Zz5 {K:Pure.Loc}{f:Nat}{args:List PV}{h:PH}{fn:Func}{c:Code}{v:PV}{R:(Nat->Option (Nat×PO))->Prop}(Ur:extP vE f args=none)(hF:vE.F f=some fn)(hb:fn.body=some c)(Xb:vE.raw f=true)
  (hx:wp (Vt vE {base:=h.next,lo:=K.lo,ok:=K.ok} true c (R1 0 args) {h with next:=h.next+fn.ntmps}) fun r=>(r.1=.normal\/r.1=.ret)/\wp (Ut vE r.2.1 r.2.2 fn.results.toList) fun vs=>Vh vs=v/\h.next<=r.2.2.next/\R r.2.2.get):
  ∃h',Yh vE K f args h=some (v,h')/\h.next<=h'.next/\R h'.get:=by
 have:=Zlz (Q:=fun r=>r.1=v/\h.next<=r.2.next/\R r.2.get) Ur hF hb Xb (Pure.wp_mono hx fun r hr=>⟨hr.1,Pure.wp_mono hr.2 fun vs hv=>⟨hv.1,by split<;>first | exact Nat.le_refl _ | exact hv.2.1,by split<;>exact hv.2.2⟩⟩);obtain⟨⟨w,h'⟩,h1,rfl,h2,h3⟩:=X5.1 this;exact⟨h',h1,h2,h3⟩
set_option maxHeartbeats 4000000 in
theorem Zaef {t o:List Nd}(hsh:∀n∈t,n.Short)(hl:t.length < 2^30)(ho:0 < o.length)(hol:o.length < 2^30)(b b1:Bool):∀(d:Nat),d<=257->∀(T:Tr),Yq T<=d->WF T->0 < Zl T->∀(a r:List Nd),t=a++(flat T++r)->∀(ka kr fa fr:List Bool),ka.length=a.length->kr.length=r.length->fa.length=a.length->fr.length=r.length ->
  ∀(K:Pure.Loc) (h:PH) (p vp q vq:Nat),can K p=true->can K q=true->p≠q->h.get p=some (vp,.row 4 true (Vo ka (flat T).length kr))->h.get q=some (vq,.row 4 true (Vo fa (flat T).length fr)) ->
  ∃h',Yh vE K 90 [L 58 b (t.map Zo),L 58 b1 (o.map Zo),.int .i64 (a.length:Nat),.own p vp 4 0 t.length,.own q vq 4 0 t.length] h=some (.int .i64 ((a.length+(flat T).length:Nat):Int),h')/\h.next<=h'.next/\h'.get p=some (vp,.row 4 true (Vo (ka++(Xp o T).flatMap (mkk o)) 0 kr))/\h'.get q=some (vq,.row 4 true (Vo (fa++(Xp o T).flatMap (mkf o)) 0 fr))/\∀j,j≠p->j≠q->h'.get j=h.get j:=by
 intro d
 induction d with
 |zero=>
  intro _ T hd;obtain⟨op,sort,name,num,ks⟩:=T;rw[Yq]at hd;omega
 |succ d ih=>
  intro hd1 T hd hw hp a r ht ka kr fa fr hka hkr hfa hfr0 K h p vp q vq hcp hcq hpq hgp hgq;have hlen:=congrArg List.length ht;rw[List.length_append,List.length_append]at hlen
  have Z78:Zg 257 (t.drop a.length)=some (T,r):=by
   have h1:=Ug T 257 r hw (by omega);rw[ht];simpa using h1
  have h91:=Zss b t hsh hl 257 a.length (by omega) (by omega);unfold To at h91;rw[Z78]at h91;simp only at h91;rw[show t.length - r.length=a.length+(flat T).length by omega,show (257 - ((257:Nat):Int))=0 by omega]at h91
  have hsl:List.take (flat T).length (List.drop a.length (t.map Zo))=(flat T).map Zo:=by
   rw[<- List.map_drop,<- List.map_take,ht];simp
  have h18:=Zzx false b1 (flat T) o (by omega) (by omega);have Zei:flat T≠[]:=by obtain⟨op,sort,name,num,ks⟩:=T;simp[flat]
  have hn0:=List.length_pos_iff.2 Zei;obtain⟨n,hn⟩:∃n,(flat T).length=n+1:=⟨(flat T).length - 1,by omega⟩
  have Vw:t.isEmpty=false:=by cases t<;>simp at hlen ⊢;omega
  have hal:a.length < t.length:=by omega
  by_cases hm:flat T=o
  .have Z3l:Xp o T=[none]:=by obtain⟨op,sort,name,num,ks⟩:=T;rw[Xp,if_pos hm]
   rw[decide_eq_true hm]at h18;have hon:o.length=n+1:=by rw[<- hm];exact hn
   have Tm:=Zmg fa n fr;have Zk:=fun hh=>Zmi fa n fr hh
   have hrl:=Zmh fa (n+1) fr;rw[<- hn]at Tm Zk hrl;rw[hfa]at Tm Zk hrl
   have hP:Vo (ka++(Xp o T).flatMap (mkk o)) 0 kr=Vo ka (flat T).length kr:=by
    rw[Z3l,hn];simp[Vo,mkk,hon]
   have hF:Vo (fa++(Xp o T).flatMap (mkf o)) 0 fr=Vo (fa++[true]) n fr:=by
    rw[Z3l];simp[Vo,mkf,hon]
   rw[hP,hF,<- Tm];generalize hRP:Vo ka (flat T).length kr=RP at *;generalize hRF:Vo fa (flat T).length fr=RF at *;have hrt:RF.length=t.length:=by omega
   have hend:a.length+(flat T).length<=t.length:=by omega
   have hn1:0 < (flat T).length:=hn0;clear ih hP hF Z78 Tm ht hm Z3l hlen hn hon hrl Zei hRP hRF;generalize flat T=fT at *;refine Zz5 (fn:=Tryz.f90) (R:=fun g=>g p=some (vp,.row 4 true RP)/\g q=some (vq,.row 4 true (RF.set a.length (.bool true)))/\∀j,j≠p->j≠q->g j=h.get j) Zqm Tryz.func90 rfl (by decide +kernel) ?_;simp only[can]at hcp hcq
   (refine Zm ?_;repeat'(first|(refine Zi fun _=>?_;try simp(disch:=first|exact Zw|fail)[*,Yd,Tryz.f90])|refine Zx ?_|refine Zn ?_ ?_))
   exact fun j h1 h2 h3=>absurd h3 h2
  .obtain ⟨op,sort,name,num,ks⟩:=T;have Z3l:Xp o (.mk op sort name num ks)=some ⟨op,sort,name,num,(ks.length:Int)⟩::X8 o (decide (op=15)) ks:=by rw[Xp,if_neg hm]
   rw[decide_eq_false hm]at h18;rw[WF]at hw;obtain⟨hks,_⟩:=Uj hp;rw[Yq]at hd
   have h15:decide (op=15)=true->∃s n u r,ks=.mk 3 s n u []::r:=fun h=>by
    have h:op=15:=by simpa using h
    subst h;exact Zlb hw.2.2 hp
   have hnf:n=(Yl ks).length:=by simp[flat]at hn;omega
   have Z8d:∀hh,t[a.length]'hh=⟨op,sort,name,num,(ks.length:Int)⟩:=fun hh=>by
    have:t[a.length]?=some ⟨op,sort,name,num,(ks.length:Int)⟩:=by rw[ht,List.getElem?_append_right (Nat.le_refl _)];simp[flat]
    rw[List.getElem?_eq_getElem hh]at this;exact Option.some.inj this
   have Tm:=Zmg ka n kr;have Zk:=fun hh=>Zmi ka n kr hh
   have hrl:=Zmh ka (n+1) kr;rw[<- hn]at Tm Zk hrl;rw[hka]at Tm Zk hrl;have hF1:Vo fa (flat (.mk op sort name num ks)).length fr=Vo (fa++[false]) n fr:=by rw[hn];simp[Vo,List.replicate_succ]
   rw[hF1]at hgq;rw[Z3l];have ht2:t=a++(⟨op,sort,name,num,(ks.length:Int)⟩::(Yl ks++r)):=by rw[ht];simp[flat]
   have Uq:(flat (.mk op sort name num ks)).length=1+(Yl ks).length:=by simp[flat];omega
   have Q1:ks.length < 2^30:=by
    have:=Znt ks;omega
   generalize hRP:Vo ka (flat (.mk op sort name num ks)).length kr=RP at *;have hrt:RP.length=t.length:=by omega
   have Zr1:a.length < t.length:=by omega
   simp only[can]at hcp hcq;have Zgl:((a.length+(flat (.mk op sort name num ks)).length:Nat):Int)=(a.length:Int)+1+((Yl ks).length:Nat):=by rw[Uq];omega
   refine Zz5 (fn:=Tryz.f90) (R:=fun g=>g p=some (vp,.row 4 true (Vo (ka++(some ⟨op,sort,name,num,(ks.length:Int)⟩::X8 o (decide (op=15)) ks).flatMap (mkk o)) 0 kr))/\g q=some (vq,.row 4 true (Vo (fa++(some ⟨op,sort,name,num,(ks.length:Int)⟩::X8 o (decide (op=15)) ks).flatMap (mkf o)) 0 fr))/\∀j,j≠p->j≠q->g j=h.get j) Zqm Tryz.func90 rfl (by decide +kernel) ?_;have Z8d:=Z8d Zr1;generalize hdn:t[a.length]=dn at *;subst Z8d;have hend:a.length+(flat (.mk op sort name num ks)).length<=t.length:=by omega
   replace Zgl:=Hide.mk Zgl;clear ht hm Z3l hlen hn hrl Zei hRP Uq hF1 hdn;replace hnf:=Hide.mk hnf;generalize flat (.mk op sort name num ks)=fT at *;replace ih:=Hide.mk ih;replace ht2:=Hide.mk ht2;replace h15:=Hide.mk h15
   (refine Zm ?_;repeat'(first|(refine Zi fun _=>?_;try simp(disch:=first|exact Zw|fail)[*,Yd,Tryz.f90])|refine Zx ?_|refine Zn ?_ ?_))
   refine Z0 ?_
   (refine Zm ?_;repeat'(first|(refine Zi fun _=>?_;try simp(disch:=first|exact Zw|fail)[*,Yd])|refine Zx ?_|refine Zn ?_ ?_))
   have hnf:=hnf.get;obtain⟨nd,hnd⟩:∃nd:Nd,nd=⟨op,sort,name,num,(ks.length:Int)⟩:=⟨_,rfl⟩
   rw[<- hnd]at ht2 ⊢;obtain⟨RP0,hRP⟩:∃RP0:Nat->List PV,∀k,RP0 k=Vo (ka++(some nd::X8 o (decide (op=15)) (ks.take k)).flatMap (mkk o)) (Yl (ks.drop k)).length kr:=⟨_,fun _=>rfl⟩
   obtain⟨RQ0,hRQ⟩:∃RQ0:Nat->List PV,∀k,RQ0 k=Vo (fa++(some nd::X8 o (decide (op=15)) (ks.take k)).flatMap (mkf o)) (Yl (ks.drop k)).length fr:=⟨_,fun _=>rfl⟩
   obtain⟨PS,hPS⟩:∃PS:Nat->Nat,∀k,PS k=a.length+1+(Yl (ks.take k)).length:=⟨_,fun _=>rfl⟩
   have e1:RP0 0=Vo (ka++[true]) n kr:=by rw[hRP];simp[X8,mkk,hnf]
   have e2:RQ0 0=Vo (fa++[false]) n fr:=by rw[hRQ];simp[X8,mkf,hnf]
   have e3:PS 0=a.length+1:=by rw[hPS];simp[Yl]
   have f1:RP0 ks.length=Vo (ka++(some nd::X8 o (decide (op=15)) ks).flatMap (mkk o)) 0 kr:=by rw[hRP,List.take_length,List.drop_length];rfl
   have f2:RQ0 ks.length=Vo (fa++(some nd::X8 o (decide (op=15)) ks).flatMap (mkf o)) 0 fr:=by rw[hRQ,List.take_length,List.drop_length];rfl
   have f3:((PS ks.length:Nat):Int)=((a.length+fT.length:Nat):Int):=by rw[Zgl.get,hPS,List.take_length];omega
   rw[<- f1,<- f2];replace f3:=Hide.mk f3;replace hRP:=Hide.mk hRP;replace hRQ:=Hide.mk hRQ;replace hPS:=Hide.mk hPS;refine Zv [0,1,3,4,13,14] (fun m sl h'=>∃k:Nat,m=ks.length - k/\k<=ks.length/\sl 15=some (.int .i64 k)/\sl 2=some (.int .i64 (PS k:Nat))/\h'.get p=some (vp,.row 4 true (RP0 k))/\h'.get q=some (vq,.row 4 true (RQ0 k))/\(∀j,j≠p->j≠q->h'.get j=h.get j)/\h.next+70<=h'.next) ks.length rfl ⟨0,by simp,by simp,by simp,by simp[e3],?_,?_,?_,?_⟩ ?_
   .simp [Tm,e1]
   .simp [Ne.symm hpq,hgq,e2]
   .intro j h1 h2;simp[h1]
   .simp
   rintro m sl h' hfr ⟨k,hm,hk,hs15,hs2,hgp',hgq',Xa,Sj⟩;simp at hfr;clear Tm Zk hgp hgq h91 h18 hsl e1 e2 e3 f1 f2 hnd hnf;by_cases hlt:k < ks.length
   .have hwk:=Zlw.1 hw.2.2 _ (List.getElem_mem hlt);have hpk:=hks _ (List.getElem_mem hlt);have V9:=Zio hlt
    have hts:t=(a++nd::Yl (ks.take k))++(flat ks[k]++(Yl (ks.drop (k+1))++r)):=by
     rw[ht2.get,Zen ks k,Zc2 ks k hlt];simp
    have hl1:(ka++(some nd::X8 o (decide (op=15)) (ks.take k)).flatMap (mkk o)).length=PS k:=by
     rw[List.length_append,(Zlc o _ ho).1,List.flatMap_cons,List.length_append,Zcg,hka,hPS.get];simp[Y7];omega
    have hl2:(fa++(some nd::X8 o (decide (op=15)) (ks.take k)).flatMap (mkf o)).length=PS k:=by
     rw[List.length_append,(Zlc o _ ho).2,List.flatMap_cons,List.length_append,Zcg,hfa,hPS.get];simp[Y7];omega
    have hpt:=Zuo o ks (decide (op=15)) k hlt;have hft:=Zns ks k hlt;have hfd:=Zc2 ks k hlt;have hla:(a++nd::Yl (ks.take k)).length=PS k:=by rw[hPS.get];simp;omega
    have htl:=congrArg List.length hts;rw[List.length_append,hla,List.length_append]at htl;have Qc:=hRP.get k;have hg2:=hRQ.get k;rw[hfd,List.length_append]at Qc hg2;by_cases hsk:op=15/\k=0
    .have hkf:∃x,flat ks[k]=[x]:=by
      obtain⟨s1,n1,u1,r1,e⟩:=h15.get (by simp[hsk.1]);have hk0:=hsk.2;subst hk0;simp[e,flat,Yl]
     obtain⟨x,hx⟩:=hkf;rw[if_pos (by simpa using hsk),hx]at hpt;rw[hx,List.length_cons,List.length_nil,Nat.zero_add,Nat.add_comm]at Qc hg2;have Tm:=Zmg (ka++(some nd::X8 o (decide (op=15)) (ks.take k)).flatMap (mkk o)) (Yl (ks.drop (k+1))).length kr;have Zk:=fun hh=>Zmi (ka++(some nd::X8 o (decide (op=15)) (ks.take k)).flatMap (mkk o)) (Yl (ks.drop (k+1))).length kr hh
     have hrl:=Zmh (ka++(some nd::X8 o (decide (op=15)) (ks.take k)).flatMap (mkk o)) ((Yl (ks.drop (k+1))).length+1) kr
     have hP:Vo ((ka++(some nd::X8 o (decide (op=15)) (ks.take k)).flatMap (mkk o))++[true]) (Yl (ks.drop (k+1))).length kr=RP0 (k+1):=by
      rw[hRP.get,hpt];simp[List.flatMap_append,mkk]
     have hQ:RQ0 k=RQ0 (k+1):=by
      rw[hg2,hRQ.get,hpt];simp[List.flatMap_append,mkf,Vo,List.replicate_succ]
     rw[hP]at Tm;rw[hl1]at Tm Zk hrl;rw[<- Qc]at Tm Zk hrl;rw[hQ]at hgq';have hF:PS (k+1)=PS k+1:=by rw[hPS.get,hPS.get,hft,hx];simp;omega
     rw[hx]at htl;simp only[List.length_cons,List.length_nil,List.length_append]at htl;have hrt2:(RP0 k).length=t.length:=by omega
     have Tz:PS k < t.length:=by omega
     clear hrl hl1 hl2 hpt hft hfd hla hts hP hQ hx x hpk hwk V9 Qc hg2 htl;generalize RP0 k=RK at *;generalize hK2:RP0 (k+1)=RK2 at *;generalize hQ2:RQ0 (k+1)=RQ2 at *;replace hF:=Hide.mk hF;replace hK2:=Hide.mk hK2;replace hQ2:=Hide.mk hQ2;generalize hP2:PS (k+1)=P2 at *;generalize PS k=P at *;replace hP2:=Hide.mk hP2;obtain⟨ho15,hk0⟩:=hsk
     (refine Zm ?_;repeat'(first|(refine Zi fun _=>?_;try simp(disch:=first|exact Zw|fail)[*,Yd])|refine Zx ?_|refine Zn ?_ ?_))
     have hk1:k+1=1:=by omega
     have p1:=hP2.get;have p2:=hF.get;have p3:=hK2.get;have p4:=hQ2.get;rw[hk1]at p1 p3 p4;exact⟨_,by omega,1,rfl,by omega,by omega,by omega,p3.symm,by rw[if_neg (Ne.symm hpq),p4],fun j a1 a2=>by rw[if_neg a1];exact Xa j a1 a2⟩
    .rw [if_neg (by simpa using hsk)]at hpt;rw[Z6m]at Qc hg2;rw[Qc]at hgp';rw[hg2]at hgq';obtain⟨h2,hc,Z8a,g1,g2,Zag3⟩:=ih.get (by omega) ks[k] (by omega) hwk hpk (a++nd::Yl (ks.take k)) (Yl (ks.drop (k+1))++r) hts _ (List.replicate (Yl (ks.drop (k+1))).length false++kr) _ (List.replicate (Yl (ks.drop (k+1))).length false++fr) (hl1.trans hla.symm) (by simp[hkr]) (hl2.trans hla.symm) (by simp[hfr0]) ⟨h.next,K.lo,K.ok⟩ h' p vp q vq hcp hcq hpq hgp' hgq';have hF:PS (k+1)=PS k+(flat ks[k]).length:=by rw[hPS.get,hPS.get,hft,List.length_append];omega
     rw[hla,<- hF]at hc
     have hP:Vo ((ka++(some nd::X8 o (decide (op=15)) (ks.take k)).flatMap (mkk o))++(Xp o ks[k]).flatMap (mkk o)) 0 (List.replicate (Yl (ks.drop (k+1))).length false++kr)=RP0 (k+1):=by
      rw[hRP.get,hpt];simp[List.flatMap_append,Vo]
     have hQ:Vo ((fa++(some nd::X8 o (decide (op=15)) (ks.take k)).flatMap (mkf o))++(Xp o ks[k]).flatMap (mkf o)) 0 (List.replicate (Yl (ks.drop (k+1))).length false++fr)=RQ0 (k+1):=by
      rw[hRQ.get,hpt];simp[List.flatMap_append,Vo]
     rw[hP]at g1;rw[hQ]at g2;have Xx:Hide (h2.get p=some (vp,.row 4 true (RP0 (k+1)))/\h2.get q=some (vq,.row 4 true (RQ0 (k+1)))/\∀j,j≠p->j≠q->h2.get j=h.get j):=⟨g1,g2,fun j a1 a2=>(Zag3 j a1 a2).trans (Xa j a1 a2)⟩
     clear hl1 hl2 hpt hft hfd hla hts hP hQ hpk hwk V9 hgp' hgq' g1 g2 Zag3 Qc hg2 htl hF Xa;by_cases ho15:op=15
     .have hk0:k≠0:=fun e=>hsk ⟨ho15,e⟩
      (refine Zm ?_;repeat'(first|(refine Zi fun _=>?_;try simp(disch:=first|exact Zw|fail)[*,Yd])|refine Zx ?_|refine Zn ?_ ?_))
      exact⟨_,by omega,k+1,rfl,by omega,by omega,rfl,Xx.get.1,Xx.get.2.1,Xx.get.2.2,by omega⟩
     . (refine Zm ?_;repeat'(first|(refine Zi fun _=>?_;try simp(disch:=first|exact Zw|fail)[*,Yd])|refine Zx ?_|refine Zn ?_ ?_))
       exact⟨_,by omega,k+1,rfl,by omega,by omega,rfl,Xx.get.1,Xx.get.2.1,Xx.get.2.2,by omega⟩
   .have hke:k=ks.length:=by omega
    subst hke;have f3:=f3.get
    (refine Zm ?_;repeat'(first|(refine Zi fun _=>?_;try simp(disch:=first|exact Zw|fail)[*,Yd])|refine Zx ?_|refine Zn ?_ ?_))
    exact⟨by omega,Xa⟩
def V3 (w:List Nd):List Nd->List Bool->List Bool->List Nd
 |n::t,k::ks,f::fs=>((if k then [n] else [])++(if f then w else []))++V3 w t ks fs
 | _,_,_=>[]
theorem Zpu (w r:List Nd)(ks fs:List Bool):∀o:List Nd,V3 w (o++r) (List.replicate o.length false++ks) (List.replicate o.length false++fs)=V3 w r ks fs
 | []=>rfl
 |n::o=>by simp only[List.length_cons,List.replicate_succ,List.cons_append,V3,Bool.false_eq_true,if_false,List.nil_append];exact Zpu w r ks fs o
theorem Zmp {o:List Nd}(w:List Nd)(ho:0 < o.length):∀ps:List (Option Nd),V3 w (ps.flatMap (Y7 o)) (ps.flatMap (mkk o)) (ps.flatMap (mkf o))=ps.flatMap (Y7 w)
 | []=>rfl
 |some n::ps=>by
  have ih:=Zmp w ho ps;simp only[List.flatMap_cons,Y7,mkk,mkf,List.cons_append,List.nil_append,V3,if_true,Bool.false_eq_true,if_false,ih]
 |none::ps=>by
  have ih:=Zmp w ho ps;cases o with
  |nil=>simp at ho
  |cons n o=>
   have:=Zpu w (ps.flatMap (Y7 (n::o))) (ps.flatMap (mkk (n::o))) (ps.flatMap (mkf (n::o))) o;simp only[List.flatMap_cons,Y7,mkk,mkf,List.length_cons,List.replicate_succ,List.cons_append,Nat.add_sub_cancel,V3,Bool.false_eq_true,if_false,List.nil_append,if_true,this,ih]
theorem Zjg (w:List Nd):∀(t:List Nd) (ks fs:List Bool) (i:Nat) (h:i < t.length) (hk:i < ks.length) (hf:i < fs.length),V3 w (t.take (i+1)) (ks.take (i+1)) (fs.take (i+1))=V3 w (t.take i) (ks.take i) (fs.take i)++((if ks[i] then [t[i]] else [])++(if fs[i] then w else []))
 | [],ks,fs,i,h,hk,hf=>by simp at h
 |n::t,[],fs,i,h,hk,hf=>by simp at hk
 |n::t,k::ks,[],i,h,hk,hf=>by simp at hf
 |n::t,k::ks,f::fs,0,h,hk,hf=>by simp[V3]
 |n::t,k::ks,f::fs,i+1,h,hk,hf=>by
  have:=Zjg w t ks fs i (by simpa using h) (by simpa using hk) (by simpa using hf);simp only[List.take_succ_cons,V3,this,List.getElem_cons_succ,List.append_assoc]
theorem Zrk (w:List Nd):∀(t:List Nd) (ks fs:List Bool),(V3 w t ks fs).length<=t.length*(1+w.length)
 | [],ks,fs=>by simp[V3]
 |n::t,[],fs=>by simp[V3]
 |n::t,k::ks,[]=>by simp[V3]
 |n::t,k::ks,f::fs=>by
  have:=Zrk w t ks fs;simp only[V3,List.length_append,List.length_cons,Nat.add_mul,Nat.one_mul];have h1:(if k then [n] else []).length<=1:=by split<;>simp
  have h2:(if f then w else []).length<=w.length:=by split<;>simp
  rw[Nat.mul_add]at this ⊢;omega
theorem Zpt (w:List Nd):∀(t:List Nd) (ks fs:List Bool) (i:Nat),(V3 w (t.take i) (ks.take i) (fs.take i)).length<=(V3 w t ks fs).length
 | [],ks,fs,i=>by simp[V3]
 |n::t,[],fs,i=>by cases i<;>simp[V3]
 |n::t,k::ks,[],i=>by cases i<;>simp[V3]
 |n::t,k::ks,f::fs,0=>by simp[V3]
 |n::t,k::ks,f::fs,i+1=>by
  have:=Zpt w t ks fs i;simp only[List.take_succ_cons,V3,List.length_append];omega
theorem Zny {o:List Nd}(ho:0 < o.length):∀ps:List (Option Nd),((ps.flatMap (mkk o)).zip (ps.flatMap (mkf o))).all (fun p=>!(p.1&&p.2))=true
 | []=>rfl
 |some n::ps=>by simpa[mkk,mkf]using Zny ho ps
 |none::ps=>by
  have ih:=Zny ho ps;simp only[List.flatMap_cons];rw[List.zip_append (by simp[mkk,mkf];omega),List.all_append,ih,Bool.and_true,List.all_eq_true];intro p hp;have:=(List.of_mem_zip hp).1;simp only[mkk,List.mem_replicate]at this;rw[this.2];rfl
theorem Z1w {o:List Nd}:∀ps:List (Option Nd),(ps.flatMap (mkf o)).any id=decide (none∈ps)
 | []=>rfl
 |some n::ps=>by simp[mkf,Z1w ps]
 |none::ps=>by simp[mkf]
theorem Zaaf (fs:List Bool)(i:Nat)(h:i < fs.length):(fs.take (i+1)).any id=((fs.take i).any id||fs[i]):=by
 rw[Q5 fs i h,List.any_append];simp
theorem Zt9 {us vs fs:List Use}(e:us.foldl Rc ([],[])=(vs,fs))(ha:∀u∈us,(u.fn=false->u.args=[])/\u.args.length < 2^30)(hl:us.length < 2^29)(hf:(us.filter (·.fn)).length<=1):UL vs fs/\vs.length < 2^29/\fs.length<=1/\(∀g∈fs,g.args.length < 2^30)/\∀u,u∈vs++fs↔u∈us:=by
 obtain⟨i1,i2,i3,i4⟩:=Zaap us ([],[]) ⟨by simp,by simp,by simp⟩ (fun u hu=>(ha u hu).1);rw[e]at i1 i2 i3 i4;simp only[List.nil_append,List.not_mem_nil,false_or,List.length_nil,Nat.zero_add,List.append_nil]at i2 i3 i4;exact⟨i1,by omega,by omega,fun g hg=>(ha g ((i2 g).1 (List.mem_append_right _ hg))).2,i2⟩
structure RpS (us:List Use)(H:PH)(v10 v38 v41:Nat)(RK RF:List PV)(h:PH):Prop where
 u:∃vs fs lv lf,UR (H.next+10) v10 vs fs lv lf h/\us.foldl Rc ([],[])=(vs,fs)/\∀j∈lv++lf,H.next<=j/\j≠H.next+38/\j≠H.next+41
 r1:∃o,h.get (H.next+38)=some (v38,.row 4 o RK)
 r2:∃o,h.get (H.next+41)=some (v41,.row 4 o RF)
 next:H.next+104<=h.next
theorem RpS.add {us us2:List Use}{H:PH}{v10 v38 v41:Nat}{RK RF:List PV}{h h':PH}{vs fs:List Use}{lv lf ids:List Nat}(he:us.foldl Rc ([],[])=(vs,fs))(hj:∀j∈lv++lf,H.next<=j/\j≠H.next+38/\j≠H.next+41)(Sj:H.next+104<=h.next)
  (r1:∃o,h.get (H.next+38)=some (v38,.row 4 o RK)) (r2:∃o,h.get (H.next+41)=some (v41,.row 4 o RF)) (A:Added (H.next+10) v10 (us2.foldl Rc (vs,fs)).1 (us2.foldl Rc (vs,fs)).2 lv lf ids h h'):RpS (us++us2) H v10 v38 v41 RK RF h':=by
 obtain⟨lv',lf',U',e1,e2⟩:=A.u
 have V7:∀j v R,j < h.next->j≠H.next+10->j∉lv++lf->(∃o,h.get j=some (v,.row 4 o R))->∃o,h'.get j=some (v,.row 4 o R):=by
  rintro j v R h1 h2 h3 ⟨o,ho⟩;rcases A.old j h1 (by simp only[List.mem_cons,not_or];exact⟨h2,h3⟩) with e' | e'
  .exact ⟨o,by rw[e',ho]⟩
  .rw [Xc,ho]at e';simp only at e';split at e'
   .exact ⟨_,e'⟩
   .exact ⟨_,e'⟩
 refine⟨⟨_,_,lv',lf',U',by rw[List.foldl_append,he],?_⟩,V7 _ _ _ (by omega) (by omega) (fun hm=>(hj _ hm).2.1 rfl) r1,V7 _ _ _ (by omega) (by omega) (fun hm=>(hj _ hm).2.2 rfl) r2,by have:=A.next;omega⟩;intro j hjm;rcases List.mem_append.1 hjm with hm | hm
 .rcases e1 with rfl | ⟨_,i,rfl,hi⟩
  .exact hj j (by simp[hm])
  .simp at hm;omega
 .rcases e2 with rfl | ⟨_,i,rfl,hi⟩
  .exact hj j (by simp[hm])
  .simp at hm;omega
set_option maxHeartbeats 8000000 in
theorem Zal5 {t o w:List Nd}{T O W:Tr}(vt:VT t T)(vo:VT o O)(vw:VT w W)(hf1:((Ya t).filter (·.fn)).length<=1)(hf2:∀u∈Ya w,u.fn=false)(b b1 b2:Bool):Xq vE 32 [L 58 b (t.map Zo),L 58 b1 (o.map Zo),L 58 b2 (w.map Zo)] (Zbz (Wf t o w (Xp o T))):=by
 have h59t:=vt.ans59 b;have h59o:=vo.ans59 b1;have h59w:=vw.ans59 b2;have h34o:=vo.ans34 b1;have h34w:=vw.ans34 b2;have hso:=vo.sortL;have hsw:=vw.sortL;have hl:=vt.len;have Sh:=vo.len;have hlw:=vw.len;have hno:=vo.ne;have Te:=Zas o T;rw[<- vt.flatE.1]at Te;have hV:∃V,Wf t o w (Xp o T)=V:=⟨_,rfl⟩
 obtain⟨V,hV⟩:=hV;rw[hV];by_cases hS:Zl O=Zl W
 .have hs:sortL o=sortL w:=by rw[hso,hsw,hS]
  obtain⟨ks,hks⟩:∃ks,(Xp o T).flatMap (mkk o)=ks:=⟨_,rfl⟩
  obtain⟨fs0,Z3u⟩:∃fs0,(Xp o T).flatMap (mkf o)=fs0:=⟨_,rfl⟩
  have Q1:=(Zlc o (Xp o T) hno).1;have Uq:=(Zlc o (Xp o T) hno).2;have Qz:=Zmp w hno (Xp o T);have hany:=Z1w (o:=o) (Xp o T);have Z3v:=Zny hno (Xp o T);rw[hks,Z3u]at Z3v
  have Z3v:∀i (h:i < ks.length) (h2:i < fs0.length),¬ (ks[i]=true/\fs0[i]=true):=fun i h h2 hh=>by
   have hm:(ks.zip fs0)[i]'(by simp;omega)∈ks.zip fs0:=List.getElem_mem _;have:=List.all_eq_true.1 Z3v _ hm;rw[List.getElem_zip,hh.1,hh.2]at this;cases this
  rw[hks,Te]at Q1;rw[Z3u,Te]at Uq;rw[Te,hks,Z3u]at Qz;rw[Z3u]at hany
  have h90:∀(K:Pure.Loc) (h:PH) (p vp q vq:Nat),can K p=true->can K q=true->p≠q->h.get p=some (vp,.row 4 true (List.replicate t.length (.bool false)))->h.get q=some (vq,.row 4 true (List.replicate t.length (.bool false))) ->
    ∃h',Yh vE K 90 [L 58 b (t.map Zo),L 58 b1 (o.map Zo),.int .i64 0,.own p vp 4 0 t.length,.own q vq 4 0 t.length] h=some (.int .i64 (t.length:Nat),h')/\h.next<=h'.next/\h'.get p=some (vp,.row 4 true (ks.map .bool))/\h'.get q=some (vq,.row 4 true (fs0.map .bool))/\∀j,j≠p->j≠q->h'.get j=h.get j:=by
   intro K h p vp q vq a1 a2 a3 a4 a5;have:=Zaef (t:=t) (o:=o) vt.short (by omega) hno (by omega) b b1 257 (Nat.le_refl _) T vt.depth vt.flatE.2 vt.pos [] [] (by simp[<- vt.flatE.1]) [] [] [] [] rfl rfl rfl rfl K h p vp q vq a1 a2 a3 (by rw[a4,<- vt.flatE.1];simp[Vo]) (by rw[a5,<- vt.flatE.1];simp[Vo]);rw[<- vt.flatE.1,hks,Z3u]at this;simpa[Vo]using this
  have hV1:Hide ((if Yv (X2 t ks++if fs0.any id=true then Ya w else [])=false then ([],3) else if 20000 < (V3 w t ks fs0).length then ([],6) else if 0 < sortL (V3 w t ks fs0) then (V3 w t ks fs0,0) else ([],6))=V):=Hide.mk (by
   rw[<- hV];unfold Wf Zco;rw[if_neg (show ¬ (sortL o≠sortL w) by simpa using hs),Qz,hks,hany];simp only[decide_eq_true_eq])
  clear hV Qz hany hks Z3u hso hsw hs Te;replace hf1:=Hide.mk hf1;replace hf2:=Hide.mk hf2;replace Z3v:=Hide.mk Z3v;intro K H;refine Wc Tryz.func32 ?_
  (refine Zm ?_;repeat'(first|(refine Zi fun _=>?_;try simp(disch:=first|exact Zw|fail)[*,Yd,Tryz.f32])|refine Zx ?_|refine Zn ?_ ?_))
  refine Yw false true [] [] [] [] false (by decide +kernel) ?_
  (refine Zm ?_;repeat'(first|(refine Zi fun _=>?_;try simp(disch:=first|exact Zw|fail)[*,Yd])|refine Zx ?_|refine Zn ?_ ?_))
  generalize hv38:H.stamp (H.next+38)=v38;generalize hv41:H.stamp (H.next+41)=v41;obtain⟨h1,hc90,Z8b,g38,g41,Zvu⟩:=h90 {base:=H.next,lo:=H.next,ok:=[]} ((({next:=H.next+104,get:=H.get}:PH).put (H.next+38) v38 (PO.row 4 true (List.replicate t.length (PV.bool false)))).put (H.next+41) v41 (PO.row 4 true (List.replicate t.length (PV.bool false)))) (H.next+38) v38 (H.next+41) v41 (by simp) (by simp) (by omega) (by simp) (by simp);simp only[Zut]at Z8b;clear h90 Zvu;generalize hv10:h1.stamp (H.next+10)=v10;have hUR0:UR (H.next+10) v10 (([],[]):List Use×List Use).1 (([],[]):List Use×List Use).2 [] [] (h1.put (H.next+10) v10 (.cells [.nils,.nils])):=⟨⟨.nils,.nils,by simp,Own.nil,Own.nil⟩,by simp,by simp,by simp,by show H.next+10 < h1.next;omega,by simp,by simp⟩
  obtain⟨h2,hc63,A⟩:=Z1t vt b (.own (H.next+38) v38 4 0 t.length) (L 4 false (ks.map .bool)) ks Q1 (.inr ⟨false,rfl⟩) (s0:=([],[])) hUR0 (by simp) (by simp) (by simp) {base:=H.next,lo:=H.next,ok:=[]} (by simp) (by simp[g38,L,Q1];exact List.take_of_length_le (by simp only[List.length_map];omega)) rfl (by simp) (by simp) (by simp[L]);have R0:=RpS.add (us:=[]) (vs:=[]) (fs:=[]) (v38:=v38) (v41:=v41) (RK:=ks.map .bool) (RF:=fs0.map .bool) rfl (by simp) (by show H.next+104<=h1.next;omega) ⟨true,by simp[g38]⟩ ⟨true,by simp[g41]⟩ A;rw[List.nil_append]at R0;clear A hUR0;replace R0:=Hide.mk R0
  (refine Zm ?_;repeat'(first|(refine Zi fun _=>?_;try simp(disch:=first|exact Zw|fail)[*,Yd])|refine Zx ?_|refine Zn ?_ ?_))
  obtain⟨OUT,Z31⟩:∃OUT:Nat->Nat,∀i,OUT i=(V3 w (t.take i) (ks.take i) (fs0.take i)).length:=⟨_,fun _=>rfl⟩
  obtain⟨AN,hAN⟩:∃AN:Nat->Bool,∀i,AN i=(fs0.take i).any id:=⟨_,fun _=>rfl⟩
  have o0:OUT 0=0:=by rw[Z31];simp[V3]
  have a0:AN 0=false:=by rw[hAN];simp
  have oe:OUT t.length=(V3 w t ks fs0).length:=by rw[Z31,List.take_length,List.take_of_length_le (by omega),List.take_of_length_le (by omega)]
  have ae:AN t.length=fs0.any id:=by rw[hAN,List.take_of_length_le (by omega)]
  have os:∀i (h:i < t.length),OUT (i+1)=OUT i+((if ks[i]'(by omega)=true then 1 else 0)+(if fs0[i]'(by omega)=true then w.length else 0)):=fun i h=>by
   rw[Z31,Z31,Zjg w t ks fs0 i h (by omega) (by omega)];simp only[List.length_append];split<;>split<;>simp
  have as':∀i (h:i < t.length),AN (i+1)=(AN i||fs0[i]'(by omega)):=fun i h=>by rw[hAN,hAN,Zaaf fs0 i (by omega)]
  have ol:∀i,OUT i<=20000*20001:=fun i=>by
   have h1:=Zrk w (t.take i) (ks.take i) (fs0.take i);rw[<- Z31]at h1;exact Nat.le_trans h1 (Nat.mul_le_mul (by simp;omega) (by omega))
  clear Z31 hAN;replace os:=Hide.mk os;replace as':=Hide.mk as';replace ol:=Hide.mk ol;have Z8a:=R0.get.next;refine Zv [0,2,8,9,10] (fun m sl h=>∃i:Nat,m=t.length - i/\i<=t.length/\sl 13=some (.int .i64 i)/\sl 11=some (.int .i64 (OUT i:Nat))/\sl 12=some (.bool (AN i))/\h=h2) t.length rfl ⟨0,by simp,by simp,by simp,by simp[o0],by simp[a0],rfl⟩ ?_;rintro m sl h hfr ⟨i,hm,hi,h13,h11,h12,rfl⟩;simp at hfr;by_cases hlt:i < t.length
  .obtain ⟨o38,g38'⟩:=R0.get.r1;obtain⟨o41,g41'⟩:=R0.get.r2;have hos:=os.get i hlt;have has:=as'.get i hlt;have ol1:=ol.get i;have ol2:=ol.get (i+1);have hik:i < ks.length:=by omega
   have hif:i < fs0.length:=by omega
   generalize hkd:ks[i]=kd at *;generalize hfd:fs0[i]=fd at *;generalize hO2:OUT (i+1)=O2 at *;generalize hA2:AN (i+1)=A2 at *;replace hO2:=Hide.mk hO2;replace hA2:=Hide.mk hA2;clear hc63 hc90 g38 g41 o0 a0 oe ae;generalize OUT i=O1 at *;generalize AN i=A1 at *;cases kd<;>cases fd
   all_goals simp only[Bool.false_eq_true,if_false,if_true,Bool.or_false,Bool.or_true]at hos has
   all_goals (refine Zm ?_;repeat'(first|(refine Zi fun _=>?_;try simp(disch:=first|exact Zw|fail)[*,Yd])|refine Zx ?_|refine Zn ?_ ?_))
   all_goals exact⟨_,by omega,i+1,rfl,by omega,by omega,by rw[hO2.get];omega,by rw[hA2.get];first | exact has | exact has.symm⟩
  .have hit:i=t.length:=by omega
   subst hit;rw[oe]at h11;rw[ae]at h12;clear oe ae o0 a0 os as' ol hc63 hc90 g38 g41;obtain⟨US,hUS⟩:∃US,X2 t ks++(if fs0.any id=true then Ya w else [])=US:=⟨_,rfl⟩
   have hUa:∀u∈US,(u.fn=false->u.args=[])/\u.args.length < 2^30:=by
    intro u hu;rw[<- hUS]at hu;rcases List.mem_append.1 hu with hu | hu
    .exact ⟨Zbx u (Zb8 hu),vt.args u (Zb8 hu)⟩
    .split at hu
     .exact ⟨Zbx u hu,vw.args u hu⟩
     .cases hu
   have hkl2:(X2 t ks).length<=20000:=by
    have h1:=Zh2 (fun _=>true) (t:=t) (ks:=ks);rw[List.filter_eq_self.2 (by simp),List.filter_eq_self.2 (by simp)]at h1;have h2:=Zdu t;omega
   have hwl2:=Zdu w
   have hUl:US.length < 2^29:=by
    rw[<- hUS,List.length_append];split
    .omega
    .simp;omega
   have hUf:(US.filter (·.fn)).length<=1:=by
    rw[<- hUS,List.filter_append,List.length_append];have h1:=Zh2 (fun u=>u.fn) (t:=t) (ks:=ks)
    have h2:(List.filter (fun u:Use=>u.fn) (if fs0.any id=true then Ya w else []))=[]:=by
     rw[List.filter_eq_nil_iff];intro u hu;split at hu
     .rw [hf2.get u hu];simp
     .cases hu
    rw[h2];have h3:=hf1.get;simp only[List.length_nil];omega
   have Z80:∀(lv lf:List Nat),(∀j∈lv++lf,H.next<=j/\j≠H.next+38/\j≠H.next+41)->∀i∈(H.next+10)::(lv++lf),can {base:=H.next,lo:=H.next,ok:=[]} i=true:=by
    intro lv lf hj i hi;simp only[can,Bool.or_eq_true,Nat.ble_eq];left;rcases List.mem_cons.1 hi with rfl | hi
    .omega
    .exact (hj i hi).1
   have hR:∃h3,(fs0.any id=true->Yh vE {base:=H.next,lo:=H.next,ok:=[]} 63 [.ptr (H.next+10) v10 0,L 58 b2 (w.map Zo),.nils] h=some (.tuple [],h3))/\(fs0.any id=false->h3=h)/\RpS US H v10 v38 v41 (ks.map .bool) (fs0.map .bool) h3:=by
    cases hany:fs0.any id with
    |false=>
     refine⟨h,by simp,fun _=>rfl,?_⟩;rw[hany]at hUS;rw[<- hUS];simpa using R0.get
    |true=>
     obtain⟨vs,fs,lv,lf,U,e,hj⟩:=R0.get.u;have hka:∀u∈X2 t ks,(u.fn=false->u.args=[])/\u.args.length < 2^30:=fun u hu=>⟨Zbx u (Zb8 hu),vt.args u (Zb8 hu)⟩
     obtain⟨s1,s2,s3,s4,s5⟩:=Zt9 e hka (by omega) (by
      have h1:=Zh2 (fun u=>u.fn) (t:=t) (ks:=ks);have h3:=hf1.get;omega)
     obtain⟨h3,hc,A⟩:=Z1t vw b2 .nils (L 4 true []) (List.replicate w.length true) (by simp) (.inl ⟨rfl,rfl⟩) (s0:=(vs,fs)) U s2 (Nat.lt_of_le_of_lt s3 (by decide)) s4 {base:=H.next,lo:=H.next,ok:=[]} (Z80 lv lf hj) rfl rfl rfl (by simp) rfl;rw[Z7h]at A;refine⟨h3,fun _=>hc,by simp,?_⟩;rw[hany]at hUS;rw[<- hUS];simpa using RpS.add e hj R0.get.next R0.get.r1 R0.get.r2 A
   obtain⟨h3,hca,hcb,R⟩:=hR;obtain⟨vs,fs,lv,lf,U,e,hj⟩:=R.u;obtain⟨s1,s2,s3,s4,s5⟩:=Zt9 e hUa hUl hUf;have h66:=Zaeg U s1 (by omega) s3 {base:=H.next,lo:=H.next,ok:=[]} (Z80 lv lf hj);rw[Zfa s5]at h66;rw[hUS]at hV1;obtain⟨o38,r38⟩:=R.r1;obtain⟨o41,r41⟩:=R.r2;have Z79:=R.next;clear U e hj s1 s2 s3 s4 s5 R R0 hUa hUl hUf hUS Z80 hf1 hf2 hkl2 hwl2;have hOle:=Zrk w t ks fs0;have hOb:(V3 w t ks fs0).length<=20000*20001:=Nat.le_trans hOle (Nat.mul_le_mul hl (by omega));clear hOle;cases hcl:Yv US with
   |false=>
    rw[hcl]at h66;have hVV:=hV1.get;rw[if_pos hcl]at hVV;subst hVV;clear hV1 hcl;generalize (V3 w t ks fs0).length=SZ at *;cases hany:fs0.any id with
    |false=>
     have:=hcb hany;subst this;clear hca hcb
     (refine Zm ?_;repeat'(first|(refine Zi fun _=>?_;try simp(disch:=first|exact Zw|fail)[*,Yd,Wn])|refine Zx ?_|refine Zn ?_ ?_))
    |true=>
     replace hca:=hca hany;clear hcb
     (refine Zm ?_;repeat'(first|(refine Zi fun _=>?_;try simp(disch:=first|exact Zw|fail)[*,Yd,Wn])|refine Zx ?_|refine Zn ?_ ?_))
   |true=>
    rw[hcl]at h66;have hVV:=hV1.get;rw[if_neg (by rw[hcl];simp)]at hVV;clear hV1 hcl;by_cases Zc0:20000 < (V3 w t ks fs0).length
    .rw [if_pos Zc0]at hVV;subst hVV;generalize (V3 w t ks fs0).length=SZ at *;cases hany:fs0.any id with
     |false=>
      have:=hcb hany;subst this;clear hca hcb
      (refine Zm ?_;repeat'(first|(refine Zi fun _=>?_;try simp(disch:=first|exact Zw|fail)[*,Yd,Wn])|refine Zx ?_|refine Zn ?_ ?_))
     |true=>
      replace hca:=hca hany;clear hcb
      (refine Zm ?_;repeat'(first|(refine Zi fun _=>?_;try simp(disch:=first|exact Zw|fail)[*,Yd,Wn])|refine Zx ?_|refine Zn ?_ ?_))
    .rw [if_neg Zc0]at hVV;replace hVV:=Hide.mk hVV;obtain⟨OL,hOL⟩:∃OL:Nat->List Nd,∀i,OL i=V3 w (t.take i) (ks.take i) (fs0.take i):=⟨_,fun _=>rfl⟩
     have l0:OL 0=[]:=by rw[hOL];simp[V3]
     have le:OL t.length=V3 w t ks fs0:=by rw[hOL,List.take_length,List.take_of_length_le (by omega),List.take_of_length_le (by omega)]
     have ls:∀i (h:i < t.length),OL (i+1)=OL i++((if ks[i]'(by omega)=true then [t[i]] else [])++(if fs0[i]'(by omega)=true then w else [])):=fun i h=>by
      rw[hOL,hOL,Zjg w t ks fs0 i h (by omega) (by omega)]
     have ll:∀i,(OL i).length<=20000:=fun i=>by
      have:=Zpt w t ks fs0 i;rw[<- hOL]at this;omega
     have lsh:∀n∈OL t.length,n.Short:=by
      rw[le]
      have key:∀(t:List Nd) (ks fs:List Bool),(∀n∈t,n.Short)->∀n∈V3 w t ks fs,n.Short:=by
       intro t
       induction t with
       |nil=>intro ks fs _ n hn;simp[V3]at hn
       |cons m t ih=>
        intro ks fs hm n hn;cases ks with
        |nil=>simp[V3]at hn
        |cons k ks=>
         cases fs with
         |nil=>simp[V3]at hn
         |cons f fs=>
          simp only[V3,List.mem_append]at hn;rcases hn with (hn | hn) | hn
          .split at hn
           .simp at hn;subst hn;exact hm n (by simp)
           .cases hn
          .split at hn
           .exact vw.short n hn
           .cases hn
          .exact ih ks fs (fun x hx=>hm x (by simp[hx])) n hn
      exact key t ks fs0 vt.short
     clear hOL;rw[<- le]at hVV Zc0 h11 hOb;clear le;replace l0:=Hide.mk l0;replace ls:=Hide.mk ls;replace ll:=Hide.mk ll;replace lsh:=Hide.mk lsh;have hL:∃SZ,(OL t.length).length=SZ:=⟨_,rfl⟩
     obtain⟨SZ,hL⟩:=hL;rw[hL]at Zc0 h11 hOb;replace hL:=Hide.mk hL;rcases (Bool.eq_false_or_eq_true (fs0.any id)).symm with hany | hany
     case' inl=>
      have:=hcb hany;subst this;clear hca hcb
      (refine Zm ?_;repeat'(first|(refine Zi fun _=>?_;try simp(disch:=first|exact Zw|fail)[*,Yd,Wn])|refine Zx ?_|refine Zn ?_ ?_))
     case' inr=>
      replace hca:=hca hany;clear hcb
      (refine Zm ?_;repeat'(first|(refine Zi fun _=>?_;try simp(disch:=first|exact Zw|fail)[*,Yd,Wn])|refine Zx ?_|refine Zn ?_ ?_))
     all_goals
      clear h66 h34o h34w h59o h59w h59t;refine Zv [0,2,8,9] (fun m sl h=>∃(i:Nat) (w':PV),m=t.length - i/\i<=t.length/\sl 15=some (.int .i64 i)/\sl 14=some w'/\h.get (H.next+38)=some (v38,.row 4 o38 (ks.map .bool))/\h.get (H.next+41)=some (v41,.row 4 o41 (fs0.map .bool))/\Pure.Acc [92,99] ⟨H.next,H.next,[]⟩ h 58 w' ((OL i).map Zo)) t.length rfl ⟨0,.nils,by simp,by simp,by simp,by simp,by simp[*],by simp[*],by rw[l0.get];exact Pure.Acc.nil⟩ ?_;rintro m4 sl4 h4 hfr4 ⟨i,w',hm4,hi4,h15,h14,g38,g41,hA⟩;simp[hfr]at hfr4;by_cases hlt:i < t.length
      .have hls:=ls.get i hlt;have hl1:=ll.get i;have hl2:=ll.get (i+1);have hik:i < ks.length:=by omega
       have hif:i < fs0.length:=by omega
       have hex:=Z3v.get i hik hif;generalize hkd:ks[i]=kd at *;generalize hfd:fs0[i]=fd at *;generalize hO2:OL (i+1)=T2 at *;generalize hT1:OL i=T1 at *;generalize hdd:t[i]=d at *;replace hO2:=Hide.mk hO2;replace hT1:=Hide.mk hT1;obtain⟨w1,h5,Zr6,hA1,hnx5,Zia⟩:=hA.app (dd:=92) (ys:=[Zo d]) (T:={k:=.struct [(0,3),(1,3),(2,9),(3,9),(4,3)],size:=5,bytes:=56,zero:=[.int .i64 0,.int .i64 0,.string ⟨#[]⟩,.string ⟨#[]⟩,.int .i64 0]}) (by simp) rfl (by simp only[List.length_map,List.length_cons,List.length_nil];omega) (by decide) (by decide) (by simp);simp only[List.length_cons,List.length_nil]at Zr6;have g38a:=(Zia (H.next+38) (by simp)).trans g38;have g41a:=(Zia (H.next+41) (by simp)).trans g41;cases kd<;>cases fd
       .simp only [Bool.false_eq_true,if_false,List.append_nil]at hls;subst hls;replace hA:=Hide.mk hA;clear Zr6 hA1 Zia
        (refine Zm ?_;repeat'(first|(refine Zi fun _=>?_;try simp(disch:=first|exact Zw|fail)[*,Yd])|refine Zx ?_|refine Zn ?_ ?_))
        exact⟨_,by omega,i+1,rfl,by omega,by omega,by rw[hO2.get];exact hA.get⟩
       .simp only [Bool.false_eq_true,if_false,if_true,List.nil_append]at hls;subst hls;rw[List.length_append]at hl2;obtain⟨w2,h6,hap2,hA2,hnx6,Z8n⟩:=hA.app' (dd:=99) (ys:=w.map Zo) (T:={k:=.struct [(0,3),(1,3),(2,9),(3,9),(4,3)],size:=5,bytes:=56,zero:=[.int .i64 0,.int .i64 0,.string ⟨#[]⟩,.string ⟨#[]⟩,.int .i64 0]}) (by simp) rfl (by simp only[List.length_map];omega) (by decide) (by decide);rw[List.length_map]at hap2;have g38b:=(Z8n (H.next+38) (by simp)).trans g38;have g41b:=(Z8n (H.next+41) (by simp)).trans g41;rw[<- List.map_append]at hA2;replace hA2:=Hide.mk hA2;clear Zr6 hA1 Zia Z8n hA
        (refine Zm ?_;repeat'(first|(refine Zi fun _=>?_;try simp(disch:=first|exact Zw|fail)[*,Yd,-PH.elems])|refine Zx ?_|refine Zn ?_ ?_))
        exact⟨_,by omega,i+1,rfl,by omega,by omega,by rw[hO2.get];simpa using hA2.get⟩
       .simp only [Bool.false_eq_true,if_false,if_true,List.append_nil]at hls;subst hls;have hA2:Pure.Acc [92,99] ⟨H.next,H.next,[]⟩ h5 58 w1 ((T1++[d]).map Zo):=by rw[List.map_append];exact hA1
        replace hA2:=Hide.mk hA2;clear hA1 Zia hA;obtain⟨op,sort,name,num,kids⟩:=d
        (refine Zm ?_;repeat'(first|(refine Zi fun _=>?_;try simp(disch:=first|exact Zw|fail)[*,Yd])|refine Zx ?_|refine Zn ?_ ?_))
        exact⟨_,by omega,i+1,rfl,by omega,by omega,by rw[hO2.get];simpa using hA2.get⟩
       .exact absurd ⟨rfl,rfl⟩ hex
      .have hit4:i=t.length:=by omega
       subst hit4;have hLL:=hL.get;have h67:=Zal0 true (OL t.length) lsh.get (by omega);rw[hVV.get]at h67;obtain⟨x,e⟩:=V;obtain⟨h5,hc67,hnx5,Zia⟩:=hA.callF (C:=vE) (f:=67) rfl rfl [] [] h67 (Zkx x e) rfl rfl;simp only[List.nil_append]at hc67;clear hA Zia hVV
       (refine Zm ?_;repeat'(first|(refine Zi fun _=>?_;try simp(disch:=first|exact Zw|fail)[*,Yd,Zbz])|refine Zx ?_|refine Zn ?_ ?_))
 .have hs:sortL o≠sortL w:=by rw[hso,hsw];exact hS
  unfold Wf at hV;rw[if_pos hs]at hV;subst hV;have hSb:(Zl O==Zl W)=false:=by simpa using hS
  clear hs Te hso hsw;intro K H;refine Wc Tryz.func32 ?_
  (refine Zm ?_;repeat'(first|(refine Zi fun _=>?_;try simp(disch:=first|exact Zw|fail)[*,Yd,Tryz.f32,Wn])|refine Zx ?_|refine Zn ?_ ?_))
theorem Zq6 {ks:List Tr}{k:Tr}(hk:k∈ks):∀n∈flat k,n∈Yl ks:=by
 induction ks with
 |nil=>cases hk
 |cons a ks ih=>
  intro n hn;rw[Yl,List.mem_append];rcases List.mem_cons.1 hk with rfl | hk
  .exact .inl hn
  .exact .inr (ih hk n hn)
theorem Zxt {ks:List Tr}{k:Tr}(hk:k∈ks):∀u∈R2 k,u∈Q9 ks:=by
 induction ks with
 |nil=>cases hk
 |cons a ks ih=>
  intro u hu;rw[Q9,List.mem_append];rcases List.mem_cons.1 hk with rfl | hk
  .exact .inl hu
  .exact .inr (ih hk u hu)
theorem VT.kid {t:List Nd}{T:Tr}(v:VT t T){k:Tr}(hk:k∈T.kids):VT (flat k) k/\(flat k).length < t.length:=by
 obtain⟨e,hw⟩:=v.flatE;have hd:=v.depth;have hp:=v.pos;have hu:=v.usesE;obtain⟨op,sort,name,num,ks⟩:=T;simp only[Tr.kids]at hk;rw[WF]at hw;rw[Yq]at hd;obtain⟨hks,_⟩:=Uj hp;have hwk:=Zlw.1 hw.2.2 k hk;obtain⟨i,hi,hik⟩:=List.getElem_of_mem hk;have V9:=Zio hi;rw[hik]at V9;have Zh6:∀n∈flat k,n∈t:=fun n hn=>by rw[e,flat];exact List.mem_cons_of_mem _ (Zq6 hk n hn)
 have hlen:(flat k).length < t.length:=by
  rw[e,flat,List.length_cons,Zen ks i,Zc2 ks i hi,hik];simp;omega
 have Z78:=Ug k 257 [] hwk (by omega);rw[List.append_nil]at Z78;refine⟨⟨Z78,hks k hk,⟨fun n hn=>v.good.short n (Zh6 n hn),fun n hn=>v.good.sm n (Zh6 n hn)⟩,by have:=v.len;omega,?_⟩,hlen⟩;rw[Zf7 hwk (by omega)];refine Zqu (fun u hu'=>?_) v.clean;rw[hu,R2,List.mem_append];exact .inr (Zxt hk u hu')
set_option maxHeartbeats 2000000 in
theorem Zal4 {t:List Nd}{T:Tr}(v:VT t T)(b:Bool):Xq vE 33 [L 58 b (t.map Zo)] (L 23 true ((T.kids.map flat).map Rj)):=by
 have h59:=v.ans59 b;have hl:=v.len;obtain⟨e,hw⟩:=v.flatE;have hd:=v.depth;have hp:=v.pos;have hsh:=v.short;obtain⟨op,sort,name,num,ks⟩:=T;simp only[Tr.kids];rw[WF]at hw;rw[Yq]at hd;obtain⟨PS,hPS⟩:∃PS:Nat->Nat,∀k,PS k=1+(Yl (ks.take k)).length:=⟨_,fun _=>rfl⟩
 have p0:PS 0=1:=by rw[hPS];simp[Yl]
 have pe:PS ks.length=t.length:=by rw[hPS,List.take_length,e];simp[flat];omega
 have ps:∀k (hk:k < ks.length),PS (k+1)=PS k+(flat ks[k]).length/\0 < (flat ks[k]).length/\PS (k+1)<=t.length/\List.take (flat ks[k]).length (List.drop (PS k) (t.map Zo))=(flat ks[k]).map Zo/\Xq vE 91 [L 58 b (t.map Zo),.int .i64 (PS k:Nat),.int .i64 0] (.tuple [.int .i64 (PS (k+1):Nat),.int .i64 (Zl ks[k])]):=fun k hk=>by
  have h1:PS (k+1)=PS k+(flat ks[k]).length:=by rw[hPS,hPS,Zns ks k hk,List.length_append];omega
  have h2:0 < (flat ks[k]).length:=by
   cases hc:ks[k]with
   |mk a b c d e=>simp[flat]
  have hdr:t.drop (PS k)=flat ks[k]++Yl (ks.drop (k+1)):=by
   rw[e,hPS,flat,Nat.add_comm,List.drop_succ_cons,Zen ks k,Zc2 ks k hk];simp
  have h3:PS (k+1)<=t.length:=by
   have:=congrArg List.length hdr;rw[List.length_drop,List.length_append]at this;omega
  refine⟨h1,h2,h3,?_,?_⟩
  .rw [<- List.map_drop,hdr,<- List.map_take];simp
  .have h91:=Zss b t hsh (by omega) 257 (PS k) (by omega) (by omega);unfold To at h91;rw[hdr,Ug ks[k] 257 _ (Zlw.1 hw.2.2 _ (List.getElem_mem hk)) (by have:=Zio hk;omega)]at h91;simp only at h91;have hl2:=congrArg List.length hdr;rw[List.length_drop,List.length_append]at hl2;rw[show t.length - (Yl (ks.drop (k+1))).length=PS (k+1) by omega]at h91;simpa using h91
 have Q1:ks.length<=t.length:=by
  have:=Znt ks;have h2:=congrArg List.length e;simp[flat]at h2;omega
 have Yp:=v.ne;have Vw:t.isEmpty=false:=by cases t<;>simp at Yp ⊢
 clear hPS e hw hd hp hsh;replace ps:=Hide.mk ps;intro K H;refine Wc Tryz.func33 ?_
 (refine Zm ?_;repeat'(first|(refine Zi fun _=>?_;try simp(disch:=first|exact Zw|fail)[*,Yd,Tryz.f33])|refine Zx ?_|refine Zn ?_ ?_))
 refine Zv [0] (fun m sl h=>∃(k:Nat) (wv:PV),m=ks.length - k/\k<=ks.length/\sl 4=some (.int .i64 (PS k:Nat))/\sl 3=some wv/\Pure.Acc [27] ⟨H.next,H.next,[]⟩ h 23 wv (((ks.take k).map flat).map Rj)) ks.length rfl ⟨0,.nils,by simp,by simp,by simp[p0],by simp,Pure.Acc.nil⟩ ?_;rintro m sl h hfr ⟨k,wv,hm,hk,h4,h3,hA⟩;simp at hfr;by_cases hlt:k < ks.length
 .obtain ⟨s1,s2,s3,s4,s5⟩:=ps.get k hlt;have hn1:(flat ks[k]).map Zo≠[]:=by intro e;have:=congrArg List.length e;simp only[List.length_map,List.length_nil]at this;omega
  obtain⟨w2,h5,Zr6,hA1,hnx5,Zia⟩:=hA.app (dd:=27) (ys:=[PV.lst 58 ((flat ks[k]).map Zo)]) (T:={k:=.slice 58,size:=1,bytes:=24,zero:=[.slice none 0 0]}) (by simp) rfl (by simp only[List.length_map,List.length_cons,List.length_nil,List.length_take];omega) (by decide) (by decide) (by simp);simp only[List.length_cons,List.length_nil]at Zr6
  have hA2:Pure.Acc [27] ⟨H.next,H.next,[]⟩ h5 23 w2 (((ks.take (k+1)).map flat).map Rj):=by
   rw[Q5 ks k hlt,List.map_append,List.map_append]
   have e2:Rj (flat ks[k])=.lst 58 ((flat ks[k]).map Zo):=by
    show L 58 true ((flat ks[k]).map Zo)=_;cases hc:(flat ks[k]).map Zo with
    |nil=>exact absurd hc hn1
    |cons a l=>simp[Xe]
   simp only[List.map_cons,List.map_nil,e2];exact hA1
  have hLF:∀b,L 58 b ((flat ks[k]).map Zo)=.lst 58 ((flat ks[k]).map Zo):=fun b=>by
   cases hc:(flat ks[k]).map Zo with
   |nil=>exact absurd hc hn1
   |cons a l=>simp[Xe]
  replace hA2:=Hide.mk hA2;clear hA hA1 Zia hn1;have hPk:PS k < t.length:=by omega
  generalize hP2:PS (k+1)=P2 at *;generalize PS k=P at *;replace hP2:=Hide.mk hP2;generalize hks:ks[k]=kk at *;generalize Zl kk=ss at *;generalize hFL:flat kk=FL at *;replace hks:=Hide.mk hks;replace hFL:=Hide.mk hFL
  (refine Zm ?_;repeat'(first|(refine Zi fun _=>?_;try simp(disch:=first|exact Zw|fail)[*,Yd])|refine Zx ?_|refine Zn ?_ ?_))
  exact⟨_,by omega,k+1,rfl,by omega,by rw[hP2.get];omega,by simpa using hA2.get⟩
 .have hke:k=ks.length:=by omega
  subst hke;rw[List.take_length]at hA;have Uv:=hA.inl;have Zyy:=hA.inlT;have hot:=hA.ownT;rw[Uv]at Zyy
  (refine Zm ?_;repeat'(first|(refine Zi fun _=>?_;try simp(disch:=first|exact Zw|fail)[*,Yd])|refine Zx ?_|refine Zn ?_ ?_))
  exact fun x hx=>hot x hx
theorem Zct {s:List Int}{x out:Int}(h:out<=4):W7 s x out<=4:=by
 unfold W7;split
 .exact h
 .decide
theorem Up {p:Prop}[Decidable p]{a b:Int}(ha:p->a<=4)(hb:b<=4):(if p then a else b)<=4:=by
 by_cases h:p
 .rw [if_pos h];exact ha h
 .rw [if_neg h];exact hb
theorem Zaif {op sort first:Int}{s:List Int}(h1:op=3\/op=4\/op=5->sort<=4)(h2:∀i,atI s i<=4):Wz op sort first s<=4:=by
 unfold Wz;refine Up (fun _=>by decide) (Up (fun h=>h1 h) (Up (fun _=>Zct (by decide)) (Up (fun _=>Up (fun _=>h2 _) (by decide)) (Up (fun _=>Zct (by decide)) (Up (fun _=>Up (fun _=>Zct (by decide)) (by decide)) (Up (fun _=>Up (fun _=>Zct (h2 _)) (by decide)) (Up (fun _=>Up (fun _=>Zct (h2 _)) (by decide)) (Up (fun _=>Zct (by decide)) (Up (fun _=>Zct (by decide)) (Up (fun _=>Up (fun _=>by decide) (by decide)) (Up (fun _=>Up (fun _=>by decide) (by decide)) (by decide))))))))))))
mutual
theorem Z0c:∀t,WF t->Zl t<=4
 | .mk op sort name num ks,hw=>by
   rw[WF]at hw;have hk:=Zua ks hw.2.2;rw[Zl];split
   .refine Zaif (fun h=>?_) (fun i=>?_)
    .have h1:=hw.1;unfold Wa at h1;by_cases h3:op=3
     .rw [if_pos h3]at h1;simp at h1;omega
     .rw [if_neg h3,if_pos (by omega)]at h1;simp[Zcr]at h1;omega
    .unfold atI;rw[List.getD_eq_getElem?_getD];cases hg:(Ym ks)[i]? with
     |none=>simp
     |some x=>exact hk x (List.mem_of_getElem? hg)
   .decide
theorem Zua:∀ks,WFs ks->∀s∈Ym ks,s<=4
 | [],_=>by simp[Ym]
 |k::r,hw=>by
  rw[WFs]at hw;intro s hs;rw[Ym,List.mem_cons]at hs;rcases hs with rfl | hs
  .exact Z0c k hw.1
  .exact Zua r hw.2 s hs
end
theorem Zui (t o w:List Nd)(ps:List (Option Nd)):(Wf t o w ps).1.length<=20000:=by
 unfold Wf
 repeat' split
 all_goals first | (simp;done) | (simp only;omega)
set_option maxHeartbeats 4000000 in
theorem Zapo (b3 b4:Bool)(l m:List Int)(at':Int)(hl:l.length < 2^63)(hm:m.length < 2^63):Xq vE 7 [L 3 b3 (l.map (.int .i64)),L 3 b4 (m.map (.int .i64)),.int .i64 at'] (.bool true):=by
 have h19:=Zal8;have h22:=Zaak;obtain⟨t,i',_,_,hT,g13⟩:=Zak7 (b:=b3) (xs:=l.take 400) (i:=0) (by simp;omega) (by simp);obtain⟨T,vt⟩:=hT.vt;have Qi:=hT.fns;obtain⟨v1,j1,hv1,Ro,Sk,g1⟩:=Yy (b:=b4) (xs:=m.take 400) (i:=0) (by simp;omega) (by simp) 4 4 rfl (by omega) (by omega);have htne:t≠[]:=fun e=>by have:=vt.ne;rw[e]at this;simp at this
 clear hT
 have h31:∀(o w:List Nd) (O W:Tr),VT o O->VT w W->Xq vE 31 [TL t,TL o,TL w] (Zbz (Wf t o w (Xp o T))):=fun o w O W vo vw=>by
  have:=Zal6 vt vo vw false false false;simpa only[Tv]using this
 have h32:∀(o w:List Nd) (O W:Tr),VT o O->VT w W->(∀u∈Ya w,u.fn=false)->Xq vE 32 [TL t,TL o,TL w] (Zbz (Wf t o w (Xp o T))):=fun o w O W vo vw hf=>by
  have:=Zal5 vt vo vw Qi hf false false false;simpa only[Tv]using this
 have h33:∀(o:List Nd) (O:Tr),VT o O->Xq vE 33 [TL o] (L 23 true ((O.kids.map flat).map Rj)):=fun o O vo=>by
  have:=Zal4 vo false;simpa only[Tv]using this
 have h34:∀(o:List Nd) (O:Tr),VT o O->Xq vE 34 [TL o] (.int .i64 (Zl O)):=fun o O vo=>by
  have:=vo.ans34 false;simpa only[Tv]using this
 have hLT:∀(o:List Nd) (O:Tr),VT o O->Rj o=TL o:=fun o O vo=>Zok (fun e=>by have:=vo.ne;rw[e]at this;simp at this)
 replace h31:=Hide.mk h31;replace h32:=Hide.mk h32;replace h33:=Hide.mk h33;replace h34:=Hide.mk h34;replace hLT:=Hide.mk hLT;replace vt:=Hide.mk vt;clear Qi;intro K H;refine Wc Tryz.func7 ?_;unfold Tryz.f7
 (refine Zbb ?_;((try simp(disch:=first|exact Zq|fail)[*,Yb]);repeat'(first|refine Z8 ?_|refine Z9 ?_|refine Z0 ?_|refine Z1 fun _=>?_|refine Z2 fun _ _=>?_|refine Z3 (fun _=>?_) fun _ _=>?_|refine Z4 fun _=>?_|refine Z5 fun _=>?_|refine Z6 (fun _=>?_) fun _=>?_|refine Z7 (fun _=>?_) fun _=>?_)<;>(try simp(disch:=first|exact Zq|fail)[*,Yb]));all_goals try refine Ru ?_)
 (refine Zbb ?_;((try simp(disch:=first|exact Zq|fail)[*,Yb]);repeat'(first|refine Z8 ?_|refine Z9 ?_|refine Z0 ?_|refine Z1 fun _=>?_|refine Z2 fun _ _=>?_|refine Z3 (fun _=>?_) fun _ _=>?_|refine Z4 fun _=>?_|refine Z5 fun _=>?_|refine Z6 (fun _=>?_) fun _=>?_|refine Z7 (fun _=>?_) fun _=>?_)<;>(try simp(disch:=first|exact Zq|fail)[*,Yb]));all_goals try refine Ru ?_)
 obtain⟨ver1,k1,hc1,Qc,hn1,ho1⟩:=Z63 b3 l (by omega) {base:=H.next,lo:=H.next,ok:=[]} {next:=H.next+97,get:=H.get};refine X5.2 ⟨_,hc1,?_⟩;clear hc1 ho1;simp only at Qc hn1
 (refine Zm ?_;repeat'(first|(refine Zi fun _=>?_;try simp(disch:=first|exact Zw|fail)[*,Yd])|refine Zx ?_|refine Zn ?_ ?_))
 refine Ru ?_;have hkn:(k1.put (H.next+97+9) ver1 (chO b3 (l.take 400) i')).next=k1.next:=rfl;clear g13 Qc;generalize k1.put (H.next+97+9) ver1 (chO b3 (l.take 400) i')=k2 at *;have Sh:H.next+97 < k2.next:=by rw[hkn];omega
 clear hkn
 (refine Zbb ?_;((try simp(disch:=first|exact Zq|fail)[*,Yb]);repeat'(first|refine Z8 ?_|refine Z9 ?_|refine Z0 ?_|refine Z1 fun _=>?_|refine Z2 fun _ _=>?_|refine Z3 (fun _=>?_) fun _ _=>?_|refine Z4 fun _=>?_|refine Z5 fun _=>?_|refine Z6 (fun _=>?_) fun _=>?_|refine Z7 (fun _=>?_) fun _=>?_)<;>(try simp(disch:=first|exact Zq|fail)[*,Yb]));all_goals try refine Ru ?_)
 obtain⟨Zov,k3,hc2,hg2,hn2,ho2⟩:=Z63 b4 m (by omega) {base:=H.next,lo:=H.next,ok:=[]} k2;refine X5.2 ⟨_,hc2,?_⟩;clear hc2 ho2
 (refine Zm ?_;repeat'(first|(refine Zi fun _=>?_;try simp(disch:=first|exact Zw|fail)[*,Yd])|refine Zx ?_|refine Zn ?_ ?_))
 refine Ru ?_;generalize hQ:k2.next+9=Q at *;have hQ2:H.next+97 < Q:=by omega
 clear Sh
 (refine Zbb ?_;((try simp(disch:=first|exact Zq|fail)[*,Yb]);repeat'(first|refine Z8 ?_|refine Z9 ?_|refine Z0 ?_|refine Z1 fun _=>?_|refine Z2 fun _ _=>?_|refine Z3 (fun _=>?_) fun _ _=>?_|refine Z4 fun _=>?_|refine Z5 fun _=>?_|refine Z6 (fun _=>?_) fun _=>?_|refine Z7 (fun _=>?_) fun _=>?_)<;>(try simp(disch:=first|exact Zq|fail)[*,Yb]));all_goals try refine Ru ?_)
 obtain⟨k4,hk4⟩:∃k4,k3.put Q Zov (chO b4 (m.take 400) j1)=k4:=⟨_,rfl⟩
 have hg4:k4.get Q=some (Zov,chO b4 (m.take 400) j1):=by rw[<- hk4];simp
 have hn4:Q < k4.next:=by rw[<- hk4];exact hn2
 refine Zxq (fun sl h=>h=k4/\sl 7=some (TL t)/\sl 8=some (.ptr Q Zov 0)/\∃o O,VT o O/\sl 9=some (TL o)) ?_ ?_
 . (refine Zm ?_;repeat'(first|(refine Zi fun _=>?_;try simp(disch:=first|exact Zw|fail)[*,Yd])|refine Zx ?_|refine Zn ?_ ?_))
   refine Zv [2,7,8] (fun mm sl h=>∃(k:Nat) (o:List Nd) (O:Tr),mm=k/\k < 4/\VT o O/\h=k4/\sl 10=some (.int .i64 k)/\sl 9=some (TL o)) v1 rfl ⟨v1,t,T,rfl,hv1,vt.get,rfl,by simp,by simp⟩ ?_;rintro mm sl h hfr ⟨k,o,O,rfl,hk4',vo,rfl,h10,h9⟩;simp at hfr;by_cases hk:0 < mm
   .have h33':=h33.get o O vo;by_cases hz:O.kids=[]
    .rw [hz]at h33';simp only[List.map_nil,Wn]at h33';replace vo:=Hide.mk vo
     (refine Zm ?_;repeat'(first|(refine Zi fun _=>?_;try simp(disch:=first|exact Zw|fail)[*,Yd])|refine Zx ?_|refine Zn ?_ ?_))
     exact⟨o,⟨O,vo.get⟩,rfl⟩
    .have Q1:0 < O.kids.length:=List.length_pos_iff.2 hz
     have hkn:O.kids.length<=20000:=by
      have h1:=vo.len;have h2:=congrArg List.length vo.flatE.1;obtain⟨a1,a2,a3,a4,a5⟩:=O;have h3:=Znt a5;simp[flat,Tr.kids]at h2 h3 ⊢;omega
     have h27:=Zaaj at' O.kids.length Q1 (by omega);have hq:=Zrn at' Q1;generalize Zu8 at' O.kids.length=q at *;have vk:=(vo.kid (List.getElem_mem hq)).1;have hLK:=hLT.get _ _ vk;replace vo:=Hide.mk vo;replace vk:=Hide.mk vk;replace hLK:=Hide.mk hLK
     (refine Zm ?_;repeat'(first|(refine Zi fun _=>?_;try simp(disch:=first|exact Zw|fail)[*,Yd])|refine Zx ?_|refine Zn ?_ ?_))
     exact⟨mm - 1,by omega,by omega,_,⟨_,vk.get⟩,by omega,hLK.get⟩
   .have hk0:mm=0:=by omega
    subst hk0;replace vo:=Hide.mk vo
    (refine Zm ?_;repeat'(first|(refine Zi fun _=>?_;try simp(disch:=first|exact Zw|fail)[*,Yd])|refine Zx ?_|refine Zn ?_ ?_))
    exact⟨o,⟨O,vo.get⟩,rfl⟩
 .rintro sl h ⟨rfl,s7,s8,o,O,vo,s9⟩;have h34':=h34.get o O vo;have hp:=vo.pos;have h4:=Z0c O vo.flatE.2;obtain⟨v2,j2,hv2,Qg,hb2,g2⟩:=Yy (b:=b4) (xs:=m.take 400) (i:=j1) (by simp;omega) Sk 6 6 rfl (by omega) (by omega)
  have a18t:Xq vE 18 [L 58 true (t.map Zo),TL t] (.bool true):=by
   have:=Zzx true false t t (by have:=vt.get.len;omega) (by have:=vt.get.len;omega);simpa[Tv]using this
  have Xx:∀w W,VT w W->(∀u∈Ya w,u.fn=false)->∃V,Xq vE 31 [TL t,TL o,TL w] (Zbz V)/\Xq vE 32 [TL t,TL o,TL w] (Zbz V)/\Xq vE 18 [L 58 true (V.1.map Zo),L 58 true (V.1.map Zo)] (.bool true):=fun w W vw hf=>by
   refine⟨_,h31.get o w O W vo vw,h32.get o w O W vo vw hf,?_⟩;have h1:=Zui t o w (Xp o T);have:=Zzx true true (Wf t o w (Xp o T)).1 (Wf t o w (Xp o T)).1 (by omega) (by omega);simpa using this
  have a31s:=h31.get o o O O vo vo;rw[Zrg vt.get vo]at a31s;generalize Zl O=S at *;have hvoh:=Hide.mk vo;clear vo;by_cases h2:v2=0
  .subst h2;obtain⟨v3,j3,hv3,ha3,hb3,g3⟩:=Yy (b:=b4) (xs:=m.take 400) (i:=j2) (by simp;omega) hb2 4 4 rfl (by omega) (by omega);obtain⟨w,j4,ha4,hb4,hTw,g4⟩:=Zage (b:=b4) (xs:=m.take 400) (by simp;omega) (1+(v3:Int)) (by omega) (by omega) j3 hb3;obtain⟨W,vw,_⟩:=hTw.vt Zj8 (by omega) (by omega);obtain⟨V,a31,a32,a18⟩:=Xx w W vw (Zln hTw);obtain⟨x,e⟩:=V;clear Xx hTw vw;simp only[Int.cast_ofNat_Int]at g4
   (refine Zm ?_;repeat'(first|(refine Zi fun _=>?_;try simp(disch:=first|exact Zw|fail)[*,Yd,Z0j])|refine Zx ?_|refine Zn ?_ ?_))
  .have hvb:((v2:Int)==0)=false:=by simp;omega
   obtain⟨w,j4,ha4,hb4,hTw,g4⟩:=Zage (b:=b4) (xs:=m.take 400) (by simp;omega) S (by omega) h4 j2 hb2;obtain⟨W,vw,_⟩:=hTw.vt Zj8 (by omega) (by omega);obtain⟨V,a31,a32,a18⟩:=Xx w W vw (Zln hTw);obtain⟨x,e⟩:=V;clear Xx hTw vw;simp only[Int.cast_ofNat_Int]at g4
   (refine Zm ?_;repeat'(first|(refine Zi fun _=>?_;try simp(disch:=first|exact Zw|fail)[*,Yd,Z0j])|refine Zx ?_|refine Zn ?_ ?_))
end Go.Proofs.YtabcdhcpilpojaaGreatDoor
end
