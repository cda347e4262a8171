/- Rows that are written no more; slices as plain lists. -/
import Derived.Test.YtabcdhcpilpojaaGreatDoorPF
import Derived.Test.YtabcdhcpilpojaaGreatDoorPA
import Derived.Test.YtabcdhcpilpojaaGreatDoorVB
set_option linter.unusedSimpArgs false
set_option linter.unusedVariables false
section
namespace Go.Pure
open Go Go.Virt
section
variable {C:Ctx}{Z Z':Vj}{ρ ρ':Nat->Nat}{vf vf':Nat->Option Nat}{h h':PH}{vh vh':VH}{K:Loc}{n:Nat}{Xi:Yu}{Y4:SL}{o:Oper}{x:PV}{all:List Oper}
theorem freeze_next:∀(ids:List Nat) (h:PH),(h.freeze ids).next=h.next
 | [],h=>rfl
 |i::r,h=>by
  simp only[PH.freeze];split
  .rw [freeze_next r];rfl
  .exact freeze_next r h
theorem Xr:∀(ids:List Nat) (h:PH) (j:Nat),(h.freeze ids).get j=(match h.get j with
  |some (Zc,.row g own xs)=>if j∈ids then some (Zc,.row g false xs) else some (Zc,.row g own xs)
  |o=>o)
 | [],h,j=>by
   simp only[PH.freeze,List.not_mem_nil,if_false];split<;>simp_all
 |i::r,h,j=>by
  simp only[PH.freeze];split
  .rename_i Zc g own xs hi;rw[Xr r];by_cases e:j=i
   .subst e;simp only[PH.put,if_true,hi,List.mem_cons,true_or];split<;>rfl
   .simp only [PH.put,e,if_false,List.mem_cons,false_or]
  .rename_i Yi;rw[Xr r];by_cases e:j=i
   .subst e;split
    .rename_i Zc g own xs hj;exact absurd hj (Yi _ _ _ _)
    .rfl
   .simp only [List.mem_cons,e,false_or]
theorem Tl (ids:List Nat)(h:PH):Zo (h.freeze ids)=Zo h:=by
 funext j;unfold Zo;rw[Xr];split
 .rename_i Zc g own xs hj;rw[hj];split<;>rfl
 .rfl
structure Frz (C:Ctx)(bt:Bool)(ρ:Nat->Nat)(Z:Vj)(h:PH)(vh:VH)(ids:List Nat)(Z':Vj):Prop where
 hp:HP C ρ Z' vh (h.freeze ids)
 le:∀Yb s,Z Yb=some s->Z' Yb=some s
 new:∀Yb s,Z' Yb=some s->Z Yb=some s\/(Z Yb=none/\∃i∈ids,∃Zc g xs,h.get i=some (Zc,.row g true xs)/\Yb=ρ i/\s.tag=if bt then some g else none)
theorem Frz.sig {bt:Bool}{ids:List Nat}(f:Frz C bt ρ Z h vh ids Z'):Z.le Z':=f.le
theorem frz1 (bt:Bool)(H:HP C ρ Z vh h){i Zc g:Nat}{own:Bool}{xs:List PV}(hi:h.get i=some (Zc,.row g own xs)):
  ∃Z',HP C ρ Z' vh (h.put i Zc (.row g false xs))/\(∀Yb s,Z Yb=some s->Z' Yb=some s)/\∀Yb s,Z' Yb=some s->Z Yb=some s\/(Z Yb=none/\own=true/\Yb=ρ i/\s.tag=if bt then some g else none):=by
 have ho:=H.obj _ _ _ hi
 have hvf:Zo (h.put i Zc (.row g false xs))=Zo h:=by
  funext j;unfold Zo PH.put;by_cases e:j=i
  .subst e;simp[hi]
  .simp [e]
 cases own with
 |false=>
  have:h.put i Zc (.row g false xs)=h:=by
   unfold PH.put
   have:(fun j=>if j=i then some (Zc,PO.row g false xs) else h.get j)=h.get:=by
    funext j;by_cases e:j=i
    .subst e;simp[hi]
    .simp [e]
   rw[this]
  rw[this];exact⟨Z,H,fun _ _ h=>h,fun _ _ h=>.inl h⟩
 |true=>
  cases ho with
  |row g xs Wj ty ht hz hg hr hl=>
   let Z1:Vj:=fun q=>if q=ρ i then some ⟨Wj,ty.size,true,if bt then some g else none⟩ else Z q
   have hle:∀Yb s,Z Yb=some s->Z1 Yb=some s:=fun Yb s hs=>by
    have:Yb≠ρ i:=fun e=>by rw[e,hz]at hs;cases hs
    simp[Z1,this,hs]
   have Z33:Z.le Z1:=hle;refine⟨Z1,⟨?_,?_,H.vlt,?_,?_,H.wr⟩,hle,?_⟩
   .intro j x hj;by_cases e:j=i
    .subst e;exact H.lt _ _ hi
    .simp [PH.put,e]at hj;exact H.lt _ _ hj
   .intro j k x y hj hk e;by_cases e1:j=i<;>by_cases e2:k=i
    .rw [e1,e2]
    .subst e1;simp[PH.put,e2]at hk;exact H.inj _ _ _ _ hi hk e
    .subst e2;simp[PH.put,e1]at hj;exact H.inj _ _ _ _ hj hi e
    .simp [PH.put,e1,e2]at hj hk;exact H.inj _ _ _ _ hj hk e
   .intro Yb s hs;by_cases e:Yb=ρ i
    .simp only [Z1,e,if_true,Option.some.injEq]at hs;subst hs;rw[e];exact hg
    .simp only [Z1,e,if_false]at hs;exact H.sig _ _ hs
   .intro j w ob hj;rw[hvf];by_cases e:j=i
    .subst e;simp only[PH.put,if_true,Option.some.injEq,Prod.mk.injEq]at hj;obtain⟨rfl,rfl⟩:=hj;exact .frozen g xs ⟨Wj,ty.size,true,if bt then some g else none⟩ ty ht (by simp[Z1]) rfl (by cases bt<;>simp) (hr.mono Z33) hl
    .simp only [PH.put,e,if_false]at hj;have Yi:ρ j≠ρ i:=fun h2=>e (H.inj _ _ _ _ hj hi h2)
     exact (H.obj _ _ _ hj).mono (Rp.refl _ _) Z33 (fun hq=>by simp[Z1,Yi,hq]) (fun _=>rfl) (Nat.le_refl _) (Nat.le_refl _)
   .intro Yb s hs;by_cases e:Yb=ρ i
    .simp only [Z1,e,if_true,Option.some.injEq]at hs;subst hs;rw[e];exact .inr ⟨hz,rfl,rfl,rfl⟩
    .simp only [Z1,e,if_false]at hs;exact .inl hs
theorem frz (bt:Bool):∀(ids:List Nat) {Z:Vj} {h:PH},HP C ρ Z vh h->∃Z',Frz C bt ρ Z h vh ids Z'
 | [],Z,h,H=>⟨Z,H,fun _ _ h=>h,fun _ _ h=>.inl h⟩
 |i::r,Z,h,H=>by
  by_cases hi:∃Zc g own xs,h.get i=some (Zc,.row g own xs)
  .obtain ⟨Zc,g,own,xs,hi⟩:=hi;obtain⟨Z1,H1,l1,n1⟩:=frz1 bt H hi;obtain⟨Z2,f2⟩:=frz bt r H1;refine⟨Z2,by simp only[PH.freeze,hi];exact f2.hp,fun Yb s hs=>f2.le _ _ (l1 _ _ hs),fun Yb s hs=>?_⟩;rcases f2.new _ _ hs with h1 | ⟨h1,j,hj,Zb1,g2,xs2,hg,e,ht⟩
   .rcases n1 _ _ h1 with h2 | ⟨h2,h3,h4,h5⟩
    .exact .inl h2
    .subst h3;exact .inr ⟨h2,i,by simp,Zc,g,xs,hi,h4,h5⟩
   .have hji:j≠i:=fun e=>by subst e;simp[PH.put]at hg
    simp only[PH.put,hji,if_false]at hg;refine .inr ⟨?_,j,by simp[hj],Zb1,g2,xs2,hg,e,ht⟩;cases hq:Z Yb with
    |none=>rfl
    |some s'=>rw[l1 _ _ hq]at h1;cases h1
  .obtain ⟨Z2,f2⟩:=frz bt r H
   have e:h.freeze (i::r)=h.freeze r:=by
    simp only[PH.freeze];split
    .rename_i Zc g own xs hq;exact absurd ⟨_,_,_,_,hq⟩ hi
    .rfl
   refine⟨Z2,by rw[e];exact f2.hp,f2.le,fun Yb s hs=>?_⟩;rcases f2.new _ _ hs with h1 | ⟨h1,j,hj,q⟩
   .exact .inl h1
   .exact .inr ⟨h1,j,by simp[hj],q⟩
theorem St.frz {ids:List Nat}(H:HP C ρ Z vh h)(f:Frz C false ρ Z h vh ids Z')(hc:ids.all (can K)=true):St C K ρ Z h vh ρ Z' (h.freeze ids) vh where
 hp:=f.hp
 ext:=by rw[Tl];exact Rp.refl _ _
 sig:=f.sig
 next:=by rw[freeze_next];exact Nat.le_refl _
 vnext:=Nat.le_refl _
 wr:=Nat.le_refl _
 keep:=fun i hi=>by
  rw[Xr];split
  .rename_i Zc g own xs hj;rw[if_neg,hj];intro hm;rw[List.all_eq_true.1 hc i hm]at hi;cases hi
  .rfl
 same:=fun i Zc o _ ho=>by
  rw[Xr,ho];cases o with
  |row g own xs=>
   by_cases hm:i∈ids
   .exact .inr (.inl ⟨g,own,xs,rfl,by simp[hm]⟩)
   .exact .inl (by simp[hm])
  | _=>exact .inl rfl
 plc:=fun i x hx=>by
  rw[Xr]at hx;refine .inl ⟨?_,rfl⟩;cases hq:h.get i with
  |none=>rw[hq]at hx;cases hx
  |some y=>exact⟨y,rfl⟩
 vkeep:=fun _ _ _ _=>rfl
 vnone:=fun _ _ h _=>h
 low:=fun _ _ h _=>h
theorem Qe {i Zc g:Nat}{r:Bool×List PV}:h.row i Zc g=some r↔h.get i=some (Zc,.row g r.1 r.2):=by
 unfold PH.row;constructor
 .intro hh;split at hh
  .rename_i v g' own xs hi;split at hh
   .rename_i hc;cases hh;rw[hi,hc.1,hc.2]
   .cases hh
  .cases hh
 .intro hh;rw[hh];simp
theorem Zac0 (H:HP C ρ Z vh h){i Zc g off len:Nat}{xs:List PV}{v:Value}(hi:h.get i=some (Zc,.row g false xs))(hl:off+len<=xs.length)(hr:R C ρ (Zo h) Z (.own i Zc g off len) v):RD C Z (.lst g ((xs.drop off).take len)) v:=by
 cases hr with
 |d h=>cases h
 |own i Zc g off len c a cap ty hc hv hp ht ha=>
  rw[Zu.2 ⟨_,hi⟩]at hc;cases hc;cases ha rfl;cases H.obj _ _ _ hi with
  |frozen g xs s ty2 ht2 hs he Z8n hrr Rg=>
   rw[ht]at ht2;cases ht2;have hlen:((xs.drop off).take len).length=len:=by simp;omega
   have Uq:=Ta Rg
   have h1:X6 (xs.flatMap Zd) (off*ty.size) (len*ty.size)=some (((xs.drop off).take len).flatMap Zd):=by
    unfold X6;rw[if_pos (by rw[Uq,<- Nat.add_mul];exact Nat.mul_le_mul_right _ hl),Zcu Rg,flat_take fun x hx=>Rg x (List.drop_subset _ _ hx)]
   obtain⟨r',h2,h3⟩:=hrr.read h1;have:=RD.lst g ((xs.drop off).take len) (ρ i) (off*ty.size) cap s r' ty hs he Z8n ht (by rw[hlen];exact h2) h3 (fun x hx=>Rg x (List.drop_subset _ _ (List.take_subset _ _ hx)));rw[hlen]at this;exact this
theorem Zvx {h3:PH}(H3:HP C ρ Z vh h3)(hf:∀i Zc g own xs,i∈Sd x->h.get i=some (Zc,.row g own xs)->h3.get i=some (Zc,.row g false xs)){v:Value}{y:PV}(hi:Qw h x=some y)(hr:R C ρ (Zo h3) Z x v):R C ρ (Zo h3) Z y v:=by
 cases x with
 |own i Zc g off len=>
  simp only[Qw,Option.map_eq_some_iff]at hi;obtain⟨ys,hys,rfl⟩:=hi;simp only[PH.elems,if_true]at hys;split at hys
  .rename_i own xs Ug;split at hys
   .rename_i hl;cases hys;have:=Qe.1 Ug;exact .d (Zac0 H3 (hf _ _ _ _ _ (by simp[Sd]) this) hl hr)
   .cases hys
  .cases hys
 | _=>simp only[Qw,Option.some.injEq]at hi;subst hi;exact hr
theorem Zvo {f:PV->Option PV}{P:PV->Prop}{cs ys:List PV}{vs:List Value}(hf:∀x∈cs,∀y v,f x=some y->R C ρ vf Z x v->R C ρ vf Z y v)(h:Xe f cs=some ys)(hr:Rs C ρ vf Z cs vs):Rs C ρ vf Z ys vs:=by
 induction cs generalizing ys vs with
 |nil=>simp only[Xe,Option.some.injEq]at h;subst h;exact hr
 |cons c cs ih=>
  simp only[Xe]at h;split at h
  .rename_i y ys' hy hys;cases h;cases hr with | cons h1 r=>exact .cons (hf c (by simp) _ _ hy h1) (ih (fun x hx=>hf x (by simp[hx])) hys r)
  .cases h
theorem Zac1 (hx:∀cs,x≠.agg cs):ownV x=Sd x/\∀h,inlV h x=Qw h x:=by
 cases x<;>first | exact⟨rfl,fun _=>rfl⟩ | exact absurd rfl (hx _)
theorem Zac2 (hx:∀cs,x≠.tuple cs):ownT x=ownV x/\∀h,inlT h x=inlV h x:=by
 cases x<;>first | exact⟨rfl,fun _=>rfl⟩ | exact absurd rfl (hx _)
theorem Zih {h3:PH}(H3:HP C ρ Z vh h3)(hf:∀i Zc g own xs,i∈ownV x->h.get i=some (Zc,.row g own xs)->h3.get i=some (Zc,.row g false xs)){v:Value}{y:PV}(hi:inlV h x=some y)(hr:R C ρ (Zo h3) Z x v):R C ρ (Zo h3) Z y v:=by
 by_cases hx:∃cs,x=.agg cs
 .obtain ⟨cs,rfl⟩:=hx;simp only[inlV,Option.map_eq_some_iff]at hi;obtain⟨ys,hys,rfl⟩:=hi;obtain⟨cs',rfl,R7⟩:=hr.agg_inv;refine .agg _ _ (Zvo (P:=fun _=>True) (fun c hc y v hy hv=>Zvx H3 (fun i Zc g own xs hm=>hf i Zc g own xs ?_) hy hv) hys R7);simp only[ownV,List.mem_flatMap];exact⟨c,hc,hm⟩
 .obtain ⟨e1,e2⟩:=Zac1 (x:=x) fun cs e=>hx ⟨cs,e⟩
  rw[e2]at hi;rw[e1]at hf;exact Zvx H3 hf hi hr
theorem Z72 {h3:PH}(H3:HP C ρ Z vh h3)(hf:∀i Zc g own xs,i∈ownT x->h.get i=some (Zc,.row g own xs)->h3.get i=some (Zc,.row g false xs)){v:Value}{y:PV}(hi:inlT h x=some y)(hr:R C ρ (Zo h3) Z x v):R C ρ (Zo h3) Z y v:=by
 by_cases hx:∃cs,x=.tuple cs
 .obtain ⟨cs,rfl⟩:=hx;simp only[inlT,Option.map_eq_some_iff]at hi;obtain⟨ys,hys,rfl⟩:=hi;obtain⟨cs',rfl,R7⟩:=hr.tuple_inv;refine .tuple _ _ (Zvo (P:=fun _=>True) (fun c hc y v hy hv=>Zih H3 (fun i Zc g own xs hm=>hf i Zc g own xs ?_) hy hv) hys R7);simp only[ownT,List.mem_flatMap];exact⟨c,hc,hm⟩
 .obtain ⟨e1,e2⟩:=Zac2 (x:=x) fun cs e=>hx ⟨cs,e⟩
  rw[e2]at hi;rw[e1]at hf;exact Zih H3 hf hi hr
theorem Zl5 {ids:List Nat}{i Zc g:Nat}{own:Bool}{xs:List PV}(hm:i∈ids)(hi:h.get i=some (Zc,.row g own xs)):(h.freeze ids).get i=some (Zc,.row g false xs):=by
 rw[Xr,hi];simp[hm]
theorem Zu7 (H:HP C ρ Z vh h){g:Nat}{xs:List PV}{Wj:List Value}{ty:Ty}(ht:C.T g=some ty)(hr:RDs C Z (xs.flatMap Zd) Wj)(hl:∀x∈xs,(Zd x).length=ty.size):
  ∃Z',St C K ρ Z h vh ρ Z' h (vh.new (.row Wj ty.size true))/\RD C Z' (.lst g xs) (.slice (some ⟨vh.next,0,none⟩) xs.length xs.length)/\∀q s,Z' q=some s->Z q=some s\/q=vh.next:=by
 have hzn:Z vh.next=none:=by
  cases e:Z vh.next with
  |none=>rfl
  |some s=>exact absurd (H.vlt _ _ (H.sig _ _ e)) (Nat.lt_irrefl _)
 have Zk:∀q,q≠vh.next->(vh.new (.row Wj ty.size true)).get q=vh.get q:=fun q hq=>by simp[VH.new,Rd hq]
 let Z1:Vj:=fun q=>if q=vh.next then some ⟨Wj,ty.size,true,none⟩ else Z q
 have hle:∀Yb s,Z Yb=some s->Z1 Yb=some s:=fun Yb s hs=>by
  have:Yb≠vh.next:=fun e=>by rw[e,hzn]at hs;cases hs
  simp[Z1,this,hs]
 have Z33:Z.le Z1:=hle;have hlt:∀i x,h.get i=some x->ρ i≠vh.next:=fun i x hi=>by have:=H.rho_lt hi;omega
 refine⟨Z1,⟨⟨H.lt,H.inj,?_,?_,?_,?_⟩,Rp.refl _ _,Z33,Nat.le_refl _,by simp[VH.new],Nat.le_refl _,fun _ _=>rfl,fun _ _ _ _ h=>.inl h,fun i x hx=>.inl ⟨⟨x,hx⟩,rfl⟩,fun i x hx _=>Zk _ (hlt i x hx),fun q hq hn _=>by rw[Zk q (by omega)];exact hn,fun _ _ h2 _=>h2⟩,?_,?_⟩
 .intro q y hq;by_cases e:q=vh.next
  .subst e;simp[VH.new]
  .rw [Zk q e]at hq;have:=H.vlt _ _ hq;simp only[VH.new];omega
 .intro q s hq;by_cases e:q=vh.next
  .simp only [Z1,e,if_true,Option.some.injEq]at hq;subst hq;rw[e];simp[VH.new]
  .simp only [Z1,e,if_false]at hq;rw[Zk q e];exact H.sig _ _ hq
 .intro i Zc ob hi;exact (H.obj _ _ _ hi).mono (Rp.refl _ _) Z33 (fun hq=>by simp[Z1,hlt i _ hi,hq]) (fun _=>Zk _ (hlt i _ hi)) (Nat.le_refl _) (by simp[VH.new])
 .have:=H.wr;simp only[VH.new];omega
 .refine .lst g xs vh.next 0 xs.length ⟨Wj,ty.size,true,none⟩ Wj ty (by simp[Z1]) rfl (.inl rfl) ht ?_ (hr.mono Z33) hl;have Uq:=Ta hl;rw[Tk];have hvl:Wj.length=xs.length*ty.size:=by rw[hr.length];exact Uq
  refine⟨?_,.inl (by simp[hvl])⟩;simp[<- hvl]
 .intro q s hq;by_cases e:q=vh.next
  .exact .inr e
  .simp only [Z1,e,if_false]at hq;exact .inl hq
end
section
variable {C:Ctx}{Z Z':Vj}{ρ ρ':Nat->Nat}{vf vf':Nat->Option Nat}{h h':PH}{vh vh':VH}{K:Loc}{n:Nat}{Xi:Yu}{Y4:SL}{o:Oper}{x:PV}{all:List Oper}
theorem Zmy (H:HP C ρ Z vh h){i Zc g:Nat}{own:Bool}{xs:List PV}(hi:h.get i=some (Zc,.row g own xs)):
  ∃ty Wj b,C.T g=some ty/\vh.get (ρ i)=some (.row Wj ty.size b)/\RDs C Z (xs.flatMap Zd) Wj/\(∀x∈xs,(Zd x).length=ty.size)/\(own=true->b=true/\Z (ρ i)=none):=by
 cases H.obj _ _ _ hi with
 |row g xs Wj ty ht hz hg hr hl=>exact⟨ty,Wj,true,ht,hg,hr,hl,fun _=>⟨rfl,hz⟩⟩
 |frozen g xs s ty ht hs he Z8n hr hl=>exact⟨ty,s.cells,s.own,ht,by rw[H.sig _ _ hs,he],hr,hl,fun e=>by cases e⟩
theorem R.own_inv {i Zc g off len:Nat}{v:Value}{ob:PO}(hr:R C ρ (Zo h) Z (.own i Zc g off len) v)(hi:h.get i=some (Zc,ob)):∃ty cap,C.T g=some ty/\v=.slice (some ⟨ρ i,off*ty.size,none⟩) len cap:=by
 cases hr with
 |d h=>cases h
 |own i Zc g off len c a cap ty hc hv hp ht ha=>
  rw[Zu.2 ⟨_,hi⟩]at hc;cases hc;cases ha rfl;exact⟨ty,cap,ht,rfl⟩
theorem R.ptr_inv {i Zc off:Nat}{v:Value}{ob:PO}(hr:R C ρ (Zo h) Z (.ptr i Zc off) v)(hi:h.get i=some (Zc,ob)):v=.pointer (some ⟨ρ i,off,none⟩):=by
 cases hr with
 |d h=>cases h
 |ptr i Zc off c a hc hv hp ha=>
  rw[Zu.2 ⟨_,hi⟩]at hc;cases hc;cases ha rfl;rfl
theorem R.eptr_inv {i Zc g ix off:Nat}{v:Value}{ob:PO}(hr:R C ρ (Zo h) Z (.eptr i Zc g ix off) v)(hi:h.get i=some (Zc,ob)):∃ty,C.T g=some ty/\v=.pointer (some ⟨ρ i,ix*ty.size+off,none⟩):=by
 cases hr with
 |d h=>cases h
 |eptr i Zc g ix off c a ty hc hv hp ht ha=>
  rw[Zu.2 ⟨_,hi⟩]at hc;cases hc;cases ha rfl;exact⟨ty,ht,rfl⟩
theorem R.map_inv {i Zc:Nat}{v:Value}{ob:PO}(hr:R C ρ (Zo h) Z (.map i Zc) v)(hi:h.get i=some (Zc,ob)):v=.map (some (ρ i)):=by
 cases hr with
 |d h=>cases h
 |map i Zc c w hc hv ha=>
  rw[Zu.2 ⟨_,hi⟩]at hc;cases hc;rw[ha rfl]
theorem Zq9 (H:HP C ρ Z vh h){g:Nat}{ty:Ty}(hT:C.T g=some ty){v:Value}(hr:R C ρ (Zo h) Z x v){ys:List PV}(he:h.elems g x=some ys):
  Zr7 v=some ys.length/\∃Wj,vh.elems ty.size v=some Wj/\RDs C Z (ys.flatMap Zd) Wj/\∀y∈ys,(Zd y).length=ty.size:=by
 cases x with
 |nils=>
  simp only[PH.elems,Option.some.injEq]at he;subst he;rw[hr.nils_inv];exact⟨rfl,[],rfl,.nil,fun y hy=>by simp at hy⟩
 |lst g' xs=>
  simp only[PH.elems]at he;split at he
  .rename_i e;cases he;subst e;cases hr.lst_inv with
   |lst g xs Yb o cap s Wj ty2 hs he2 ht hty hrr hx hl=>
    rw[hT]at hty;cases hty;refine⟨rfl,Wj,?_,hx,hl⟩;simp only[VH.elems,VH.load,H.sig _ _ hs,Option.isSome_none,Bool.false_eq_true,if_false,hrr]
  .cases he
 |own i Zc g' off len=>
  simp only[PH.elems]at he;split at he
  .rename_i e;subst e;split at he
   .rename_i own xs Ug;split at he
    .rename_i hl;cases he;have hi:=Qe.1 Ug;obtain⟨ty1,cap,h1,rfl⟩:=hr.own_inv hi;obtain⟨ty2,Wj,b,h2,hg,hrr,Rg,_⟩:=Zmy H hi;rw[hT]at h1 h2;cases h1;cases h2;have hlen:((xs.drop off).take len).length=len:=by simp;omega
     have Uq:=Ta Rg
     have h1:X6 (xs.flatMap Zd) (off*ty.size) (len*ty.size)=some (((xs.drop off).take len).flatMap Zd):=by
      unfold X6;rw[if_pos (by rw[Uq,<- Nat.add_mul];exact Nat.mul_le_mul_right _ hl),Zcu Rg,flat_take fun x hx=>Rg x (List.drop_subset _ _ hx)]
     obtain⟨r',h2,h3⟩:=hrr.read h1;refine⟨by rw[hlen];rfl,r',?_,h3,fun y hy=>Rg y (List.drop_subset _ _ (List.take_subset _ _ hy))⟩;simp only[VH.elems,VH.load,hg,Option.isSome_none,Bool.false_eq_true,if_false,h2]
    .cases he
   .cases he
  .cases he
 | _=>simp[PH.elems]at he
theorem Zhz (H:HP C ρ Z vh h){i Zc:Nat}{ob0 ob:PO}{vo:VO}(hi:h.get i=some (Zc,ob0))(hc:can K i=true)(hz:Z (ρ i)=none)
  (ho:∀ρ' vf',Rp ρ (Zo h) ρ' vf'->OR C ρ' vf' Z h.next ((vh.put (ρ i) (some vo)).note (ρ i)) i (ρ i) ob):
  St C K ρ Z h vh (fun j=>if j=i then ρ i else ρ j) Z (h.put i Zc ob) ((vh.put (ρ i) (some vo)).note (ρ i)):=by
 refine HP.change H (.inr ⟨rfl,_,hi⟩) (H.lt _ _ hi) hc (fun w o' hw=>?_) (H.rho_lt hi) (.inl ⟨_,hi,rfl⟩) (Nat.le_refl _) (Nat.min_le_left _ _) (fun _ _=>Nat.min_le_right _ _) (fun q hq _=>?_) (fun _ _=>.inl hz) hz (fun q y hq=>?_) (fun ρ' vf' _ _ he=>ho ρ' vf' he)
 .rw [hi]at hw;cases hw;exact⟨Nat.le_refl _,fun _=>rfl⟩
 .simp [VH.note,VH.put,Rd hq]
 .by_cases e:q=ρ i
  .subst e;exact H.rho_lt hi
  .simp only [VH.note,VH.put,Rd e,cond_false]at hq;exact H.vlt _ _ hq
theorem Zr2 {p:Nat}{vo:VO}:((vh.put p (some vo)).note p).get p=some vo:=by simp[VH.note,VH.put]
def Z0l (C:Ctx)(ρ:Nat->Nat)(Z:Vj)(h:PH)(vh:VH)(x:PV)(h':PH)(r:Option (Value×VH)):Prop:=h'=h/\∃v,r=some (v,vh)/\R C ρ (Zo h) Z x v
theorem Z0l.up {x:PV}{h':PH}{r:Option (Value×VH)}(H:HP C ρ Z vh h)(s:Z0l C ρ Z h vh x h' r):Zf3 C K ρ Z h vh x h' r:=by
 obtain⟨rfl,v,h1,h2⟩:=s;exact⟨v,vh,ρ,Z,h1,h2,St.refl H⟩
theorem Znc {t:TypeId}{y:Operand}{cf yf:Nat->List Value->VH->Option (Value×VH)}{pcf:CF}{pyf:YF}(H:HP C ρ Z vh h)(S:SR C ρ (Zo h) Z Xi Y4)(ho:o.op=.load t y){r:PV×PH}(he:Zh C pcf pyf all K Xi h o=some r):
  Z0l C ρ Z h vh r.1 r.2 (Xu C cf yf Y4 vh o):=by
 simp only[Zh,ho]at he;split at he
 .rename_i ty i Zc off ht hy;obtain⟨w,Vb,Vn⟩:=Zj S hy;split at he
  .rename_i v cs hi;split at he
   .rename_i e;subst e;rw[Option.map_eq_some_iff]at he;obtain⟨z,hz,rfl⟩:=he;rw[Option.bind_eq_some_iff]at hz;obtain⟨q,hq,hz⟩:=hz;have hw:=Vn.ptr_inv hi;subst hw;cases H.obj _ _ _ hi with
    |cells cs Wj e2 hzz hg hr=>
     obtain⟨q',h1,h2⟩:=hr.read hq;obtain⟨z',h3,h4⟩:=Zhq h2 hz;refine⟨rfl,z',?_,h4⟩;simp only[Xu,ho,ht,Vb,Option.isSome_none,Bool.false_eq_true,if_false,VH.load,hg,h1,Option.bind_some,h3,Option.map_some]
   .cases he
  .cases he
 .rename_i ty i Zc g ix off ht hy;obtain⟨w,Vb,Vn⟩:=Zj S hy;split at he
  .rename_i own xs Ug;have hi:=Qe.1 Ug;split at he
   .rename_i el hel;rw[Option.map_eq_some_iff]at he;obtain⟨z,hz,rfl⟩:=he;rw[Option.bind_eq_some_iff]at hz;obtain⟨q,hq,hz⟩:=hz;obtain⟨ty1,h1,rfl⟩:=Vn.eptr_inv hi;obtain⟨ty2,Wj,b,h2,hg,hrr,Rg,_⟩:=Zmy H hi;rw[h1]at h2;cases h2;obtain⟨hlt,hx⟩:=List.getElem?_eq_some_iff.1 hel;have hxl:(Zd el).length=ty1.size:=Rg el (by rw[<- hx];exact List.getElem_mem hlt);have hle:ix*ty1.size+ty1.size<=xs.length*ty1.size:=by rw[<- Nat.succ_mul];exact Nat.mul_le_mul_right _ hlt
    have h3:X6 (xs.flatMap Zd) (ix*ty1.size) ty1.size=some (Zd el):=by
     unfold X6;rw[if_pos (by rw[Ta Rg];exact hle),Zob Rg hel]
    obtain⟨r1,h4,h5⟩:=hrr.read h3;obtain⟨r2,h6,h7⟩:=h5.read hq;obtain⟨z',h8,h9⟩:=Zhp h7 hz
    have Zzc:off+ty.size<=ty1.size:=by
     unfold X6 at hq;split at hq
     .rename_i hq2;rw[hxl]at hq2;exact hq2
     .cases hq
    refine⟨rfl,z',?_,.d h9⟩;simp only[Xu,ho,ht,Vb,Option.isSome_none,Bool.false_eq_true,if_false,VH.load,hg,Qj h4 h6 Zzc,Option.bind_some,h8,Option.map_some]
   .cases he
  .cases he
 .cases he
theorem Zx5 {cs:List PV}{off:Nat}{vs cs2:List PV}:∀ {cs' Qy:List Value},RDs C Z cs cs'->RDs C Z vs Qy->Ym cs off vs=some cs2->∃Zoh,Wg cs' off Qy=some Zoh/\RDs C Z cs2 Zoh:=by
 induction cs generalizing off vs cs2 with
 |nil=>
  intro cs' Qy h1 h2 h;cases vs with
  |nil=>simp only[Ym,Option.some.injEq]at h;subst h;cases h2;cases h1;exact⟨[],rfl,.nil⟩
  |cons v vs=>simp[Ym]at h
 |cons c cs ih=>
  intro cs' Qy h1 h2 h;cases vs with
  |nil=>
   have:Ym (c::cs) off []=some (c::cs):=by cases off<;>rfl
   rw[this]at h;cases h;cases h2;exact⟨cs',by cases cs'<;>cases off<;>rfl,h1⟩
  |cons v vs=>
   cases h1 with
   |cons g r=>
    cases h2 with
    |cons g2 r2=>
     cases off with
     |zero=>
      simp only[Ym,Option.map_eq_some_iff]at h;obtain⟨w,hw,rfl⟩:=h;obtain⟨w',h3,h4⟩:=ih r r2 hw;exact⟨_,by simp only[Wg,h3,Option.map_some],.cons g2 h4⟩
     |succ i=>
      simp only[Ym,Option.map_eq_some_iff]at h;obtain⟨w,hw,rfl⟩:=h;obtain⟨w',h3,h4⟩:=ih r (.cons g2 r2) hw;exact⟨_,by simp only[Wg,h3,Option.map_some],.cons g h4⟩
theorem Zt9 {xs:List PV}{sz:Nat}(hl:∀x∈xs,(Zd x).length=sz){i off:Nat}{x:PV}(hx:xs[i]?=some x){vs ys:List PV}(hw:Ym (Zd x) off vs=some ys):
  Ym (xs.flatMap Zd) (i*sz+off) vs=some ((xs.take i).flatMap Zd++ys++(xs.drop (i+1)).flatMap Zd):=by
 have e1:∀(l:List PV) (k:Nat),Ym l k []=some l:=fun l k=>by cases l<;>cases k<;>rfl
 have wapp:∀(a b vs:List PV) (o:Nat),Ym (a++b) (a.length+o) vs=(Ym b o vs).map (a++·):=by
  intro a
  induction a with
  |nil=>intro b vs o;simp
  |cons c a ih2=>
   intro b vs o;cases vs with
   |nil=>rw[e1,e1];rfl
   |cons v vs=>
    have:(c::a).length+o=(a.length+o)+1:=by simp;omega
    rw[this];simp only[List.cons_append,Ym,ih2,Option.map_map];rfl
 have Zaoy:∀(a b vs ys:List PV) (o:Nat),Ym a o vs=some ys->Ym (a++b) o vs=some (ys++b):=by
  intro a
  induction a with
  |nil=>
   intro b vs ys o h;cases vs with
   |nil=>simp only[Ym,Option.some.injEq]at h;subst h;rw[e1]
   |cons v vs=>simp[Ym]at h
  |cons c a ih2=>
   intro b vs ys o h;cases vs with
   |nil=>rw[e1]at h;cases h;rw[e1]
   |cons v vs=>
    cases o with
    |zero=>
     simp only[Ym,Option.map_eq_some_iff]at h;obtain⟨w,hw,rfl⟩:=h;simp only[List.cons_append,Ym,ih2 b _ _ _ hw,Option.map_some]
    |succ o=>
     simp only[Ym,Option.map_eq_some_iff]at h;obtain⟨w,hw,rfl⟩:=h;simp only[List.cons_append,Ym,ih2 b _ _ _ hw,Option.map_some]
 obtain⟨hi,e⟩:=List.getElem?_eq_some_iff.1 hx
 have Zajx:xs.flatMap Zd=(xs.take i).flatMap Zd++(Zd x++(xs.drop (i+1)).flatMap Zd):=by
  conv=>lhs;rw[<- List.take_append_drop i xs]
  rw[List.flatMap_append,List.drop_eq_getElem_cons hi,e,List.flatMap_cons]
 have hlen:((xs.take i).flatMap Zd).length=i*sz:=by
  rw[Ta fun y hy=>hl y (List.take_subset _ _ hy),List.length_take,Nat.min_eq_left (Nat.le_of_lt hi)]
 rw[Zajx,<- hlen,wapp,Zaoy _ _ _ _ _ hw];simp
theorem Zf9 {x y:PV}{off:Nat}{vs:List PV}(h:S9 x off vs=some y)(hc:vs.all Wy=true):Ym (Zd x) off vs=some (Zd y):=by
 unfold S9 at h;split at h
 .rw [Option.map_eq_some_iff]at h;obtain⟨q,hq,rfl⟩:=h;exact hq
 .rename_i Yi;split at h
  .rename_i v;cases h;have h1:Zd x=[x]:=by cases x<;>first | rfl | exact absurd rfl (Yi _)
   simp only[List.all_cons,List.all_nil,Bool.and_true]at hc;have h2:Zd y=[y]:=by cases y<;>first | rfl | simp[Wy]at hc
   rw[h1,h2];rfl
  .cases h
theorem Zp5 {t:TypeId}{y z:Operand}{cf yf:Nat->List Value->VH->Option (Value×VH)}{pcf:CF}{pyf:YF}(H:HP C ρ Z vh h)(S:SR C ρ (Zo h) Z Xi Y4)(ho:o.op=.store t y z){r:PV×PH}(he:Zh C pcf pyf all K Xi h o=some r):
  Zf3 C K ρ Z h vh r.1 r.2 (Xu C cf yf Y4 vh o):=by
 simp only[Zh,ho]at he;split at he
 .rename_i ty i Zc off v ht hy hv;obtain⟨w,Vb,Vn⟩:=Zj S hy;obtain⟨u,hu1,hu2⟩:=Zj S hv;split at he
  .rename_i hc;split at he
   .rename_i ver' cs hi;split at he
    .rename_i e;subst e;rw[Option.map_eq_some_iff]at he;obtain⟨cs2,hcs2,rfl⟩:=he;have hw:=Vn.ptr_inv hi;subst hw;cases H.obj _ _ _ hi with
     |cells cs Wj e2 hzz hg hr=>
      obtain⟨Zoh,h1,h2⟩:=Zgn hr hu2.cells hcs2;have Qf:u.cells.size=ty.size:=by rw[<- Array.length_toList,hu2.cells.length];exact hc.1
      have X2:=Zhz (K:=K) (ob:=.cells cs2) (vo:=.row Zoh e2 true) H hi hc.2.2 hzz fun ρ' vf' he=>.cells cs2 Zoh e2 hzz Zr2 (h2.mono he (Vj.le.refl _))
      refine⟨.tuple #[],_,_,_,?_,.tuple _ _ .nil,X2⟩;simp only[Xu,ho,ht,Vb,hu1,Option.isSome_none,Bool.false_eq_true,if_false,Qf,if_true,VH.store,hg];rw[if_pos (by rw[hu2.cells.cell hc.2.1];rfl),h1];rfl
    .cases he
   .cases he
  .cases he
 .rename_i ty i Zc g ix off v0 ht hy hv;obtain⟨w,Vb,Vn⟩:=Zj S hy;obtain⟨u,hu1,hu2⟩:=Zj S hv;split at he
  .cases he
  .rename_i v Z82;split at he
   .rename_i hc;split at he
    .rename_i xs Ug;have hi:=Qe.1 Ug;split at he
     .rename_i el hel;rw[Option.map_eq_some_iff]at he;obtain⟨el2,hel2,rfl⟩:=he;obtain⟨Z1,f⟩:=frz (bt:=false) (ownV v0) H;have Z8o:=St.frz (K:=K) H f hc.2.2.2.2;have hu3:R C ρ (Zo (h.freeze (ownV v0))) Z1 v u:=Zih f.hp (fun i Zc g own xs hm hg=>Zl5 hm hg) Z82 (hu2.mono Z8o.ext Z8o.sig);have hw3:=Vn.mono Z8o.ext Z8o.sig;obtain⟨ty1,h1,rfl⟩:=hw3.eptr_inv hi;obtain⟨ty2,Wj,b,h2,hg,hrr,Rg,Z35⟩:=Zmy f.hp hi;rw[h1]at h2;cases h2;obtain⟨rfl,hzz⟩:=Z35 rfl
      have hpl:RDs C Z1 (Zd v) u.cells.toList:=by
       have hrs:=hu3.cells;have hpl:=hc.2.2.1;clear hrs
       have key:∀ {l:List PV} {l':List Value},l.all (plain 3)=true->Rs C ρ (Zo (h.freeze (ownV v0))) Z1 l l'->RDs C Z1 l l':=by
        intro l
        induction l with
        |nil=>intro l' _ h;cases h;exact .nil
        |cons c cs ih=>
         intro l' ha h;simp only[List.all_cons,Bool.and_eq_true]at ha;cases h with | cons h r=>exact .cons (Z02 (m:=0) ha.1 h) (ih ha.2 r)
       exact key hpl hu3.cells
      have hwr:=Zt9 Rg hel (Zf9 hel2 hc.2.1);obtain⟨hlt,hx⟩:=List.getElem?_eq_some_iff.1 hel
      have Zaz:(xs.take ix).flatMap Zd++Zd el2++(xs.drop (ix+1)).flatMap Zd=(xs.set ix el2).flatMap Zd:=by
       rw[List.set_eq_take_append_cons_drop,if_pos hlt,List.flatMap_append,List.flatMap_cons];simp
      rw[Zaz]at hwr;obtain⟨Zoh,h3,h4⟩:=Zx5 hrr hpl hwr
      have Zar1:(Zd el2).length=ty1.size:=by
       have:=(Zmd (Zf9 hel2 hc.2.1)).1;rw[this];exact Rg el (by rw[<- hx];exact List.getElem_mem hlt)
      have hst2:=Zhz (K:=K) (ob:=.row g true (xs.set ix el2)) (vo:=.row Zoh ty1.size true) f.hp hi hc.2.2.2.1 hzz fun ρ' vf' he=>.row g _ Zoh ty1 h1 hzz Zr2 h4 (Z0x Rg Zar1)
      have Qf:u.cells.size=ty.size:=by rw[<- Array.length_toList,hu3.cells.length];exact hc.1
      refine⟨.tuple #[],_,_,_,?_,.tuple _ _ .nil,Z8o.trans H hst2⟩;simp only[Xu,ho,ht,Vb,hu1,Option.isSome_none,Bool.false_eq_true,if_false,Qf,if_true,VH.store,hg];rw[if_pos (by rw[hu3.cells.cell hc.2.1];rfl),h3];rfl
     .cases he
    .cases he
   .cases he
 .cases he
end
section
variable {C:Ctx}{Z Z':Vj}{ρ ρ':Nat->Nat}{vf vf':Nat->Option Nat}{h h':PH}{vh vh':VH}{K:Loc}{n:Nat}{Xi:Yu}{Y4:SL}{o:Oper}{x:PV}{all:List Oper}
 {cf yf:Nat->List Value->VH->Option (Value×VH)} {pcf:CF} {pyf:YF} {r:PV×PH}
theorem Zoq:∀ {ys:List PV} {Wj:List Value} {s:List Nat},RDs C Z ys Wj->Zh.bytesP ys=some s->∃b,Zdf Wj=some b/\s=b.data.toList.map UInt8.toNat
 | [],Wj,s,hr,h=>by
   simp only[Zh.bytesP,Option.some.injEq]at h;subst h;cases hr;exact⟨_,rfl,rfl⟩
 | .int .u8 m::ys,Wj,s,hr,h=>by
   simp only[Zh.bytesP,Option.map_eq_some_iff]at h;obtain⟨q,hq,rfl⟩:=h;cases hr with
   |cons g r=>
    cases g;obtain⟨b,h1,rfl⟩:=Zoq r hq;refine⟨⟨(UInt8.ofNat m.toNat::b.data.toList).toArray⟩,by simp only[Zdf,h1,Option.map_some],?_⟩;simp
 | .int .i8 _::_,_,_,_,h | .int .i16 _::_,_,_,_,h | .int .i32 _::_,_,_,_,h | .int .i64 _::_,_,_,_,h | .int .u16 _::_,_,_,_,h | .int .u32 _::_,_,_,_,h | .int .u64 _::_,_,_,_,h=>by simp[Zh.bytesP]at h
 | .bool _::_,_,_,_,h | .str _::_,_,_,_,h | .nilp::_,_,_,_,h | .nils::_,_,_,_,h | .nilm::_,_,_,_,h | .nilf::_,_,_,_,h | .nili::_,_,_,_,h | .lst _ _::_,_,_,_,h | .own _ _ _ _ _::_,_,_,_,h
 | .ptr _ _ _::_,_,_,_,h | .eptr _ _ _ _ _::_,_,_,_,h | .rptr _::_,_,_,_,h | .map _ _::_,_,_,_,h | .fn _ _ _::_,_,_,_,h | .yield _ _::_,_,_,_,h | .iface _ _::_,_,_,_,h | .agg _::_,_,_,_,h | .tuple _::_,_,_,_,h=>by simp[Zh.bytesP]at h
theorem Z0s (b:ByteArray):RDs C Z ((b.data.toList.map UInt8.toNat).map fun (b:Nat)=>PV.int .u8 (b:Int)) (b.data.toList.map fun b=>Value.int .u8 b.toNat):=by
 induction b.data.toList with
 |nil=>exact .nil
 |cons x l ih=>exact .cons (.int _ _) ih
theorem Zuq (l:List Nat):(l.map fun (b:Nat)=>PV.int .u8 (b:Int)).flatMap Zd=l.map fun (b:Nat)=>PV.int .u8 (b:Int):=by
 induction l with
 |nil=>rfl
 |cons x l ih=>simp[Zd,ih]
theorem Z0t (l:List Nat):∀x∈l.map (fun (b:Nat)=>PV.int .u8 (b:Int)),(Zd x).length=1:=by
 intro x hx;obtain⟨a,_,rfl⟩:=List.mem_map.1 hx;rfl
theorem Zfj {i Zc g len cap:Nat}{ob:PO}{ty:Ty}(ht:C.T g=some ty)(p:Nat):R C (fun j=>if j=i then p else ρ j) (Zo (h.put i Zc ob)) Z (.own i Zc g 0 len) (.slice (some ⟨p,0,none⟩) len cap):=
 .own i Zc g 0 len Zc ⟨p,0,none⟩ cap ty Zh6 (Nat.le_refl _) rfl ht fun _=>by simp
theorem Zk8 {g:Nat}{v:Value}{ys:List PV}(hr:R C ρ vf Z x v)(he:h.elems g x=some ys):∃a l c,v=.slice a l c:=by
 cases x with
 |nils=>rw[hr.nils_inv];exact⟨_,_,_,rfl⟩
 |lst g' xs=>cases hr.lst_inv;exact⟨_,_,_,rfl⟩
 |own i Zc g' off len=>cases hr with
  |d h=>cases h
  |own=>exact⟨_,_,_,rfl⟩
 | _=>simp[PH.elems]at he
theorem Zw2 {src dst:TypeId}{y:Operand}(H:HP C ρ Z vh h)(S:SR C ρ (Zo h) Z Xi Y4)(hK:KOk K n h.next)(hd:∀d,o.dst=some d->d < n)(ho:o.op=.convert src dst y)(he:Zh C pcf pyf all K Xi h o=some r):
  Zf3 C K ρ Z h vh r.1 r.2 (Xu C cf yf Y4 vh o):=by
 simp only[Zh,ho]at he;split at he
 .rename_i ts td v hs htd hv;obtain⟨w,Vb,Vn⟩:=Zj S hv;split at he
  .rename_i e s hk1 hk2;split at he
   .rename_i te d V9 Ro;split at he
    .rename_i hk3;split at he
     .rename_i hc;cases he;obtain⟨b,rfl,rfl⟩:=Vn.str_inv
      have X2:=Zcf (K:=K) (vo:=.row (b.data.toList.map fun b=>.int .u8 b.toNat) 1 true) H hK (hd d Ro) (ob:=.row e true ((b.data.toList.map UInt8.toNat).map fun (b:Nat)=>.int .u8 (b:Int))) fun ρ' vf' _=>
       .row e _ (b.data.toList.map fun b=>.int .u8 b.toNat) te V9 (by
        cases e:Z vh.next with
        |none=>rfl
        |some s=>exact absurd (H.vlt _ _ (H.sig _ _ e)) (Nat.lt_irrefl _)) (by rw[hc.2];simp[VH.new]) (by rw[Zuq];exact Z0s b) (by rw[hc.2];exact Z0t _)
      refine⟨.slice (some ⟨vh.next,0,none⟩) b.size b.size,_,_,_,?_,by rw[Sh];exact Zfj V9 _,X2⟩;simp only[Xu,ho,hs,htd,Vb,hk1,hk2,V9,hk3];rw[if_pos (by rw[Sh];exact hc.1)]
     .cases he
    .cases he
   .cases he
  .rename_i e v hk1 hk2;split at he
   .rename_i te V9;split at he
    .rename_i hk3;split at he
     .rename_i Qf;rw[Option.map_eq_some_iff]at he;obtain⟨q,hq,rfl⟩:=he;rw[Option.bind_eq_some_iff]at hq;obtain⟨ys,hys,hq⟩:=hq;obtain⟨hl,Wj,h1,h2,h3⟩:=Zq9 H V9 Vn hys
      have Znv:ys.flatMap Zd=ys:=by
       have:∀ {ys:List PV} {q:List Nat},Zh.bytesP ys=some q->ys.flatMap Zd=ys:=by
        intro ys
        induction ys with
        |nil=>intros;rfl
        |cons y ys ih=>
         intro q hq;cases y with
         |int k m=>
          cases k<;>simp[Zh.bytesP]at hq;obtain⟨q',hq',_⟩:=hq;simp[Zd,ih hq']
         | _=>simp[Zh.bytesP]at hq
       exact this hq
      rw[Znv]at h2;obtain⟨b,h4,rfl⟩:=Zoq h2 hq;rw[Qf]at h1;refine⟨.string b,vh,ρ,Z,?_,.d (.str b),St.refl H⟩;have hv':=Zk8 Vn hys;obtain⟨a,l,c,rfl⟩:=hv';simp only[Xu,ho,hs,htd,Vb,hk1,hk2,V9,hk3,Qf,if_true,h1,Option.bind_some,h4,Option.map_some]
     .cases he
    .cases he
   .cases he
  .cases he
 .cases he
theorem Z19 {t:TypeId}{y:Operand}{lo hi:Option Operand}(H:HP C ρ Z vh h)(S:SR C ρ (Zo h) Z Xi Y4)(ho:o.op=.slice t y lo hi none)(he:Zh C pcf pyf all K Xi h o=some r):
  Z0l C ρ Z h vh r.1 r.2 (Xu C cf yf Y4 vh o):=by
 simp only[Zh,ho]at he;split at he
 .rename_i ty i Zc g off len ht hy;obtain⟨w,Vb,Vn⟩:=Zj S hy;split at he
  .rename_i l u Sr hhi;obtain⟨l',hl1,hl2⟩:=Zh0 S Sr;obtain⟨u',hu1,hu2⟩:=Zh0 S hhi;split at he
   .rename_i e hk;split at he
    .rename_i te p q rw_ V9 hb Ug;split at he
     .rename_i hge;cases he;subst hge;have hi':=Qe.1 Ug;obtain⟨ty1,cap,h1,rfl⟩:=Vn.own_inv hi';obtain⟨ty2,Wj,b,h2,hg,_⟩:=Zmy H hi';rw[V9]at h1 h2;cases h1;cases h2;have hb':=Zbx hl2 hu2 hb;refine⟨rfl,_,?_,.own i Zc e (off+p) (q - p) Zc ⟨ρ i,off*te.size+p*te.size,none⟩ (q - p) te (Zu.2 ⟨_,hi'⟩) (Nat.le_refl _) rfl V9 (fun _=>by rw[Nat.add_mul])⟩;rw[Zfk ho ht Vb hl1 hu1];simp only[Zmu,hk,hb',V9,hg,if_true]
     .cases he
    .cases he
   .cases he
  .cases he
 .cases he
theorem Zgc {t:TypeId}{y z:Operand}(H:HP C ρ Z vh h)(S:SR C ρ (Zo h) Z Xi Y4)(ho:o.op=.indexAddr t y z)(he:Zh C pcf pyf all K Xi h o=some r):
  Z0l C ρ Z h vh r.1 r.2 (Xu C cf yf Y4 vh o):=by
 simp only[Zh,ho]at he;split at he
 .rename_i ty b Zc g off len k i ht hy hz;obtain⟨w,Vb,Vn⟩:=Zj S hy;obtain⟨u,hu1,hu2⟩:=Zj S hz;rw[hu2.int_inv]at hu1;split at he
  .rename_i e hk;split at he
   .rename_i te own xs V9 Ug;split at he
    .rename_i hc;cases he;obtain⟨rfl,h0,hlt,hle⟩:=hc;have hi':=Qe.1 Ug;obtain⟨ty1,cap,h1,rfl⟩:=Vn.own_inv hi';rw[V9]at h1;cases h1;refine⟨rfl,_,?_,.eptr b Zc e (off+i.toNat) 0 Zc ⟨ρ b,off*te.size+i.toNat*te.size,none⟩ te (Zu.2 ⟨_,hi'⟩) (Nat.le_refl _) rfl V9 (fun _=>by rw[Nat.add_mul];rfl)⟩;simp only[Xu,ho,ht,Vb,hu1,hk,V9];rw[if_pos ⟨h0,hlt⟩];rfl
    .cases he
   .cases he
  .cases he
 .cases he
theorem Znb {t:TypeId}{y z:Operand}{ok:Bool}(H:HP C ρ Z vh h)(S:SR C ρ (Zo h) Z Xi Y4)(ho:o.op=.lookup t y z ok)(he:Zh C pcf pyf all K Xi h o=some r):
  Z0l C ρ Z h vh r.1 r.2 (Xu C cf yf Y4 vh o):=by
 simp only[Zh,ho]at he;split at he
 .rename_i ty i Zc k ht hy hz;obtain⟨w,Vb,Vn⟩:=Zj S hy;obtain⟨u,hu1,hu2⟩:=Zj S hz;split at he
  .rename_i kt et hk;split at he
   .rename_i kty ety hkt het;split at he
    .rename_i Sy;split at he
     .rename_i ver' es hi;split at he
      .rename_i e;subst e;have hw:=Vn.map_inv hi;subst hw;cases H.obj _ _ _ hi with
       |map es ves hzz hg hr=>
        split at he
        .rename_i v hf;cases he;obtain⟨v',h1,h2⟩:=Zku hr hu2 hf;cases h2 with
         |some h2=>
          rename_i v';refine⟨rfl,if ok then .tuple #[v',.bool true] else v',?_,?_⟩
          .simp only [Xu,ho,ht,Vb,hu1,hk,hkt,het];rw[if_pos (Zif hu2 Sy)];simp only[hg,h1]
          .cases ok with
           |true=>exact .tuple _ _ (.cons h2 (.cons (.d (.bool _)) .nil))
           |false=>exact h2
        .rename_i hf;rw[Option.map_eq_some_iff]at he;obtain⟨zv,hzv,rfl⟩:=he;obtain⟨v',h1,h2⟩:=Zku hr hu2 hf;cases h2;obtain⟨zv',h3,h4⟩:=Zpz (Z:=Z) hzv;refine⟨rfl,if ok then .tuple #[zv',.bool false] else zv',?_,?_⟩
         .simp only [Xu,ho,ht,Vb,hu1,hk,hkt,het];rw[if_pos (Zif hu2 Sy)];simp only[hg,h1,h3,Option.map_some]
         .cases ok with
          |true=>exact .tuple _ _ (.cons (.d h4) (.cons (.d (.bool _)) .nil))
          |false=>exact .d h4
        .cases he
      .cases he
     .cases he
    .cases he
   .cases he
  .cases he
 .cases he
theorem Zgb {t:TypeId}{m k y:Operand}(H:HP C ρ Z vh h)(S:SR C ρ (Zo h) Z Xi Y4)(ho:o.op=.mapUpdate t m k y\/o.op=.insert t m k y)(he:Zh C pcf pyf all K Xi h o=some r):
  Zf3 C K ρ Z h vh r.1 r.2 (Xu C cf yf Y4 vh o):=by
 have he':(match C.T t,Yx Xi m,Yx Xi k,Yx Xi y with
  |some ty,some (.map i Zc),some kv,some v=>
   match ty.k with
   | .map kt _=>match C.T kt,h.get i with
     |some kty,some (w,.map es)=>if w=Zc/\Zr9 kty.k kv=true/\can K i=true then (Uw es kv v).map fun es=>(PV.tuple [],h.put i Zc (.map es)) else none
     | _,_=>none
   | _=>none
  | _,_,_,_=>none)=some r:=by
  rcases ho with ho | ho<;>simp only[Zh,ho]at he<;>exact he
 clear he;split at he'
 .rename_i ty i Zc kv v ht hm hk hy;obtain⟨w,Vb,Vn⟩:=Zj S hm;obtain⟨u,hu1,hu2⟩:=Zj S hk;obtain⟨z,hz1,hz2⟩:=Zj S hy;split at he'
  .rename_i kt et hkk;split at he'
   .rename_i kty ver' es hkt hi;split at he'
    .rename_i hc;obtain⟨rfl,Sy,Zt⟩:=hc;rw[Option.map_eq_some_iff]at he';obtain⟨es2,hes2,rfl⟩:=he';have hw:=Vn.map_inv hi;subst hw;cases H.obj _ _ _ hi with
     |map es ves hzz hg hr=>
      obtain⟨Z96,h1,h2⟩:=Zyx hr hu2 hz2 hes2;have X2:=Zhz (K:=K) (ob:=.map es2) (vo:=.map Z96) H hi Zt hzz fun ρ' vf' he=>.map es2 Z96 hzz Zr2 (h2.mono he (Vj.le.refl _))
      refine⟨.tuple #[],_,_,_,?_,.tuple _ _ .nil,X2⟩;rcases ho with ho | ho<;>simp only[Xu,ho,ht,Vb,hu1,hz1,hkk,hkt,hg]<;>rw[if_pos (Zif hu2 Sy),h1]<;>rfl
    .cases he'
   .cases he'
  .cases he'
 .cases he'
end
section
variable {C:Ctx}{Z Z':Vj}{ρ ρ':Nat->Nat}{vf vf':Nat->Option Nat}{h h':PH}{vh vh':VH}{K:Loc}{n:Nat}{Xi:Yu}{Y4:SL}{o:Oper}{x:PV}{all:List Oper}
 {cf yf:Nat->List Value->VH->Option (Value×VH)} {pcf:CF} {pyf:YF} {r:PV×PH}
theorem Q6 (H:HP C ρ Z vh h):Z vh.next=none:=by
 cases e:Z vh.next with
 |none=>rfl
 |some s=>exact absurd (H.vlt _ _ (H.sig _ _ e)) (Nat.lt_irrefl _)
theorem Zle (H:HP C ρ Z vh h)(hK:KOk K n h.next){d g:Nat}(hd:d < n){ty:Ty}(ht:C.T g=some ty){m:Nat}{ys:List PV}{s:PV}{s' x':Value}{ycs:List Value}(hs:R C ρ (Zo h) Z s s')(hm:Zr7 x'=some m)(hml:ys.length=m)
  (hx:vh.elems ty.size x'=some ycs) (hy:RDs C Z (ys.flatMap Zd) ycs) (hyl:∀y∈ys,(Zd y).length=ty.size) (he:Xq K h d g ty m ys s=some r):Zf3 C K ρ Z h vh r.1 r.2 (Ux vh ty s' x'):=by
 cases s with
 |nils=>
  rw[hs.nils_inv];have hn0:vh.elems ty.size (.slice none 0 0)=some []:=rfl;simp only[Xq]at he;split at he
  .rename_i hc;split at he
   .rename_i h0;cases he;refine⟨.slice none 0 0,vh,ρ,Z,?_,.d .nils,St.refl H⟩;unfold Ux;simp only[hm,hx,hn0];rw[if_pos ⟨by omega,hc.2⟩,if_pos h0]
   .rename_i h0;cases he;have X2:=Zcf (K:=K) (vo:=.row ycs ty.size true) H hK hd (ob:=.row g true ys) fun ρ' vf' _=>.row g ys ycs ty ht (Q6 H) (by simp[VH.new]) hy hyl
    refine⟨.slice (some ⟨vh.next,0,none⟩) m m,_,_,_,?_,Zfj ht _,X2⟩;unfold Ux;simp only[hm,hx,hn0];rw[if_pos ⟨by omega,hc.2⟩,if_neg h0]
  .cases he
 |own i Zc g' off len=>
  simp only[Xq]at he;split at he
  .rename_i hc;obtain⟨hc1,hc2,hc3,rfl,Zt⟩:=hc;split at he
   .rename_i xs Ug;split at he
    .rename_i hl;cases he;have hi:=Qe.1 Ug;obtain⟨ty1,cap,h1,rfl⟩:=hs.own_inv hi;obtain⟨ty2,Wj,b,h2,hg,hrr,Rg,Z35⟩:=Zmy H hi;rw[ht]at h1 h2;cases h1;cases h2;obtain⟨rfl,hzz⟩:=Z35 rfl;have Uq:=Ta Rg
     have h1:X6 (xs.flatMap Zd) (off*ty.size) (len*ty.size)=some (((xs.drop off).take len).flatMap Zd):=by
      unfold X6;rw[if_pos (by rw[Uq,<- Nat.add_mul];exact Nat.mul_le_mul_right _ hl),Zcu Rg,flat_take fun x hx=>Rg x (List.drop_subset _ _ hx)]
     obtain⟨r',h2,h3⟩:=hrr.read h1
     have hel:vh.elems ty.size (.slice (some ⟨ρ i,off*ty.size,none⟩) len cap)=some r':=by
      simp only[VH.elems,VH.load,hg,Option.isSome_none,Bool.false_eq_true,if_false,h2]
     have hlt:=H.rho_lt hi
     have X2:St C K ρ Z h vh (fun j=>if j=i then vh.next else ρ j) Z (h.put i (Zc+1) (.row g' true ((xs.drop off).take len++ys))) (((vh.put (ρ i) none).note (ρ i)).new (.row (r'++ycs) ty.size true)):=by
      refine HP.change H (.inr ⟨rfl,_,hi⟩) (H.lt _ _ hi) Zt (fun w o' hw=>?_) (by simp[VH.new,VH.note,VH.put]) (.inr (Nat.le_refl _)) (by simp[VH.new,VH.note,VH.put]) (Nat.min_le_left _ _) (fun _ _=>Nat.min_le_right _ _)
       (fun q hq1 hq2=>?_) (fun _ _=>.inl hzz) (Q6 H) (fun q y hq=>?_) (fun ρ' vf' _ _ Vx=>?_)
      .rw [hi]at hw;cases hw;exact⟨by omega,fun e=>by omega⟩
      .have:=hq2 ⟨_,hi⟩;simp[VH.new,VH.note,VH.put,Rd hq1,Rd this]
      .by_cases e:q=vh.next
       .subst e;simp[VH.new,VH.note,VH.put]
       .simp only [VH.new,VH.note,VH.put,Rd e,cond_false]at hq ⊢;cases e2:Nat.beq q (ρ i) with
        |true=>rw[e2]at hq;cases hq
        |false=>
         rw[e2]at hq;have:=H.vlt _ _ hq;omega
      .refine .row g' _ (r'++ycs) ty ht (Q6 H) (by simp[VH.new,VH.note,VH.put]) ?_ ?_
       .rw [List.flatMap_append];exact h3.append hy
       .intro x hx;rcases List.mem_append.1 hx with hx | hx
        .exact Rg x (List.drop_subset _ _ (List.take_subset _ _ hx))
        .exact hyl x hx
     refine⟨.slice (some ⟨vh.next,0,none⟩) (len+m) (len+m),_,_,_,?_,Zfj ht _,X2⟩;unfold Ux;simp only[hm,hx,hel];rw[if_pos ⟨hc1,hc2,hc3⟩];simp only[hg,if_true]
    .cases he
   .cases he
  .cases he
 | _=>simp[Xq]at he
theorem Z5d (H:HP C ρ Z vh h){g:Nat}{ty:Ty}(ht:C.T g=some ty){m:Nat}{ys:List PV}{s:PV}{s' x':Value}{ycs:List Value}(hs:R C ρ (Zo h) Z s s')(hm:Zr7 x'=some m)(hml:ys.length=m)
  (hx:vh.elems ty.size x'=some ycs) (hy:RDs C Z (ys.flatMap Zd) ycs) (hyl:∀y∈ys,(Zd y).length=ty.size) (he:Zla h g ty ys s=some r):Zf3 C K ρ Z h vh r.1 r.2 (Ux vh ty s' x'):=by
 cases s with
 |nils=>
  rw[hs.nils_inv];have hn0:vh.elems ty.size (.slice none 0 0)=some []:=rfl;simp only[Zla]at he;split at he
  .rename_i hc;rw[hml]at hc he;split at he
   .rename_i h0;cases he;refine⟨.slice none 0 0,vh,ρ,Z,?_,.d .nils,St.refl H⟩;unfold Ux;simp only[hm,hx,hn0];rw[if_pos ⟨by omega,hc.2⟩,if_pos h0]
   .rename_i h0;cases he;obtain⟨Z',q1,q2,q3⟩:=Zu7 (K:=K) H ht hy hyl;rw[hml]at q2;refine⟨.slice (some ⟨vh.next,0,none⟩) m m,_,_,Z',?_,.d q2,q1⟩;unfold Ux;simp only[hm,hx,hn0];rw[if_pos ⟨by omega,hc.2⟩,if_neg h0]
  .cases he
 | _=>simp[Zla]at he
theorem Zz2 {i Zc:Nat}{k:PV}{u:Value}{c:Call}(H:HP C ρ Z vh h)(S:SR C ρ (Zo h) Z Xi Y4)(ho:o.op=.call c)(Wt:c.callee=.builtin .delete){w:Value}(ha:opds C Y4 c.args.toList=some [w,u])(hw:R C ρ (Zo h) Z (.map i Zc) w)(hu:R C ρ (Zo h) Z k u)
  (he:(match (c.argTypes[0]?).bind C.T with
     |some ts=>match ts.k with
      | .map kt _=>
        match C.T kt,h.get i with
        |some kty,some (w,.map es)=>if w=Zc/\Zr9 kty.k k=true/\can K i=true then (Zc7 es k).map fun es=>(PV.tuple [],h.put i Zc (.map es)) else none
        | _,_=>none
      | _=>none
     |none=>none)=some r):Zf3 C K ρ Z h vh r.1 r.2 (Xu C cf yf Y4 vh o):=by
 split at he
 .rename_i ts ht;split at he
  .rename_i kt et hk;split at he
   .rename_i kty ver' es hkt hi;split at he
    .rename_i hc;obtain⟨rfl,Sy,Zt⟩:=hc;rw[Option.map_eq_some_iff]at he;obtain⟨es2,hes2,rfl⟩:=he;have hw':=hw.map_inv hi;subst hw';cases H.obj _ _ _ hi with
     |map es ves hzz hg hr=>
      obtain⟨Z96,h1,h2⟩:=Zyy hr hu hes2;have X2:=Zhz (K:=K) (ob:=.map es2) (vo:=.map Z96) H hi Zt hzz fun ρ' vf' he=>.map es2 Z96 hzz Zr2 (h2.mono he (Vj.le.refl _))
      refine⟨.tuple #[],_,_,_,?_,.tuple _ _ .nil,X2⟩;simp only[Xu,ho,Tc,ha,Wt,ht,hk,hkt,hg];rw[if_pos (Zif hu Sy),h1];rfl
    .cases he
   .cases he
  .cases he
 .cases he
def Zjc (C:Ctx)(K:Loc)(n:Nat)(pcf:CF)(cf:Nat->List Value->VH->Option (Value×VH)):Prop:=
 ∀f args h r,pcf K f args h=some r->∀(ρ:Nat->Nat) (Z:Vj) (vh:VH) (Wn:List Value),HP C ρ Z vh h->KOk K n h.next->Rs C ρ (Zo h) Z args Wn->Zf3 C K ρ Z h vh r.1 r.2 (cf f Wn vh)
def YfSim (C:Ctx)(K:Loc)(n:Nat)(pyf:YF)(yf:Nat->List Value->VH->Option (Value×VH)):Prop:=
 ∀l Zc args h r,pyf K l Zc args h=some r->∀(ρ:Nat->Nat) (Z:Vj) (vh:VH) (Wn:List Value) (w:Value),HP C ρ Z vh h->KOk K n h.next->Rs C ρ (Zo h) Z args Wn->R C ρ (Zo h) Z (.yield l Zc) w->∃p,w=.func (.yield p) #[] #[]/\Zf3 C K ρ Z h vh r.1 r.2 (yf p Wn vh)
theorem Zw7 {c:Call}(hcf:Zjc C K n pcf cf)(hyf:YfSim C K n pyf yf)(H:HP C ρ Z vh h)(S:SR C ρ (Zo h) Z Xi Y4)(hK:KOk K n h.next)(hd:∀d,o.dst=some d->d < n)(ho:o.op=.call c)(he:Zh C pcf pyf all K Xi h o=some r):
  Zf3 C K ρ Z h vh r.1 r.2 (Xu C cf yf Y4 vh o):=by
 simp only[Zh,ho]at he;split at he
 .cases he
 .rename_i args Xz;obtain⟨Wn,R8,Ry⟩:=Sq S Xz;split at he
  .rename_i f Wt;split at he
   .rename_i g first captured hf
    obtain⟨w,Vb,Vn⟩:=Zj S hf;cases Vn with
    |d h=>cases h
    |fn g a c2 a' c' r1 r2=>
     obtain⟨v,vh',ρ',Z',q1,q2,q3⟩:=hcf g _ h r he ρ Z vh (a'.toList++Wn++c'.toList) H hK ((r1.append Ry).append r2);refine⟨v,vh',ρ',Z',?_,q2,q3⟩;simp only[Xu,ho,Tc,R8,Wt,Vb];exact q1
   .rename_i l Zc hf;obtain⟨w,Vb,Vn⟩:=Zj S hf;obtain⟨p,rfl,v,vh',ρ',Z',q1,q2,q3⟩:=hyf l Zc args h r he ρ Z vh Wn w H hK Ry Vn;refine⟨v,vh',ρ',Z',?_,q2,q3⟩;simp only[Xu,ho,Tc,R8,Wt,Vb];exact q1
   .cases he
  .cases he
  .rename_i b Wt;split at he
   .rename_i i Zc;cases Ry with
    |cons hy hr=>
     cases hr;split at he
     .rename_i ty ht;split at he
      .rename_i kt et hk;split at he
       .rename_i w es hi;split at he
        .rename_i e;subst e;cases he;have hw:=hy.map_inv hi;subst hw;cases H.obj _ _ _ hi with
         |map es ves hzz hg hr=>
          refine⟨.int .i64 ves.length,vh,ρ,Z,?_,by rw[hr.length];exact .d (.int _ _),St.refl H⟩;simp only[Xu,ho,Tc,R8,Wt,ht,hk,hg]
        .cases he
       .cases he
      .cases he
     .cases he
   .rename_i s x;cases Ry with
    |cons hs hr=>
     rename_i s' l1;cases hr with
     |cons hx hr=>
      rename_i x' l2;cases hr;split at he
      .rename_i ts tx d hts htx Ro;split at he
       .rename_i e hk;split at he
        .rename_i ty hty
         have X7:Xu C cf yf Y4 vh o=Td vh ty tx s' x':=by
          simp only[Xu,ho,Tc,R8,Wt,hts,htx,hk,hty]
         rw[X7];split at he
         .rename_i k hkx;split at he
          .rename_i k2 m;have hs':=hs.nils_inv;have hx':=hx.int_inv;subst hs' hx';split at he
           .rename_i hc;split at he
            .rename_i h0;cases he;refine⟨.slice none 0 0,vh,ρ,Z,?_,.d .nils,St.refl H⟩;simp only[Td,hkx];rw[if_pos hc,if_pos h0]
            .rename_i h0;split at he
             .rename_i z hz;split at he
              .rename_i hzc;cases he;have Z3y:RDs C Z (Zd z) ty.zero:=Zgl hz
               have X2:=Zcf (K:=K) (vo:=.row (Vw m.toNat ty.zero) ty.size true) H hK (hd d Ro) (ob:=.row e true (List.replicate m.toNat z)) fun ρ' vf' _=>
                .row e _ _ ty hty (Q6 H) (by simp[VH.new]) (Zm0 Z3y m.toNat) (fun x hx=>by rw[(List.mem_replicate.1 hx).2];exact hzc.1)
               refine⟨.slice (some ⟨vh.next,0,none⟩) m.toNat m.toNat,_,_,_,?_,Zfj hty _,X2⟩;simp only[Td,hkx];rw[if_pos hc,if_neg h0]
              .cases he
             .cases he
           .cases he
          .cases he
         .rename_i hkx;split at he
          .rename_i b;split at he
           .rename_i Qf;obtain⟨bs,rfl,rfl⟩:=hx.str_inv
            have hA:Td vh ty tx s' (.string bs)=Ux vh ty s' (.string bs):=by
             unfold Td;split
             .rename_i k hk2;exact absurd hk2 (hkx _)
             .simp [Qf]
            rw[hA];refine Zle (ycs:=bs.data.toList.map fun b=>.int .u8 b.toNat) H hK (hd d Ro) hty hs (by simp only[Zr7];rw[Sh]) (by simp) rfl ?_ ?_ he
            .rw [Zuq];exact Z0s bs
            .rw [Qf];exact Z0t _
           .cases he
          .rename_i hns;split at he
           .rename_i ys hys;obtain⟨hl,Wj,h1,h2,h3⟩:=Zq9 H hty hx hys;obtain⟨a,l,c2,rfl⟩:=Zk8 hx hys
            have hA:Td vh ty tx s' (.slice a l c2)=Ux vh ty s' (.slice a l c2):=by
             unfold Td;split
             .rename_i k hk2;exact absurd hk2 (hkx _)
             .simp
            rw[hA];split at he
            .exact Z5d H hty hs hl rfl h1 h2 h3 he
            .exact Zle H hK (hd d Ro) hty hs hl rfl h1 h2 h3 he
           .cases he
        .cases he
       .cases he
      .cases he
   .rename_i i Zc k;cases Ry with
    |cons hs hr=>
     cases hr with
     |cons hx hr=>
      cases hr;exact Zz2 H S ho Wt R8 hs hx he
   .cases he
theorem Zmr (hcf:Zjc C K n pcf cf)(hyf:YfSim C K n pyf yf)(H:HP C ρ Z vh h)(S:SR C ρ (Zo h) Z Xi Y4)(hK:KOk K n h.next)(hd:∀d,o.dst=some d->d < n)(he:Zh C pcf pyf all K Xi h o=some r):
  Zf3 C K ρ Z h vh r.1 r.2 (Xu C cf yf Y4 vh o):=by
 cases ho:o.op with
 |load t y=>exact (Znc H S ho he).up H
 |store t y z=>exact Zp5 H S ho he
 |convert src dst y=>exact Zw2 H S hK hd ho he
 |slice t y lo hi mx=>
  cases mx with
  |none=>exact (Z19 H S ho he).up H
  |some m=>simp[Zh,ho]at he
 |indexAddr t y z=>exact (Zgc H S ho he).up H
 |lookup t y z ok=>exact (Znb H S ho he).up H
 |mapUpdate t m k y=>exact Zgb H S (.inl ho) he
 |insert t m k y=>exact Zgb H S (.inr ho) he
 |call c=>exact Zw7 hcf hyf H S hK hd ho he
 | _=>simp[Zh,ho]at he
theorem Z62 (H:HP C ρ Z vh h)(S:SR C ρ (Zo h) Z Xi Y4)(hw:Tg o=false)(he:Zh C pcf pyf all K Xi h o=some r):Z0l C ρ Z h vh r.1 r.2 (Xu C cf yf Y4 vh o):=by
 cases ho:o.op with
 |load t y=>exact Znc H S ho he
 |slice t y lo hi mx=>
  cases mx with
  |none=>exact Z19 H S ho he
  |some m=>simp[Zh,ho]at he
 |indexAddr t y z=>exact Zgc H S ho he
 |lookup t y z ok=>exact Znb H S ho he
 |call c=>
  simp only[Tg,ho]at hw;split at hw
  .rename_i Wt;simp only[Zh,ho]at he;split at he
   .cases he
   .rename_i args Xz;obtain⟨Wn,R8,Ry⟩:=Sq S Xz;rw[Wt]at he
    try dsimp only at he
    split at he
    .rename_i i Zc _;cases Ry with
     |cons hy hr=>
      cases hr;split at he
      .rename_i ty ht;split at he
       .rename_i kt et hk;split at he
        .rename_i w es hi;split at he
         .rename_i e;subst e;cases he;have hw:=hy.map_inv hi;subst hw;cases H.obj _ _ _ hi with
          |map es ves hzz hg hr=>
           refine⟨rfl,.int .i64 ves.length,?_,by rw[hr.length];exact .d (.int _ _)⟩;simp only[Xu,ho,Tc,R8,Wt,ht,hk,hg]
         .cases he
        .cases he
       .cases he
      .cases he
    .rename_i hh;cases hh
    .rename_i hh;cases hh
    .cases he
  .cases hw
 | _=>simp[Tg,ho]at hw<;>simp[Zh,ho]at he
theorem Zai3 {m:Mk}{sh:Shape}{vo:VO}(hm:MkOk C ρ (Zo h) Z m sh vo)(H:HP C ρ Z vh h)(hK:KOk K n h.next){d:Nat}(hd:d < n){ob:PO}(Ts:m.obj=some ob):
  Zf3 C K ρ Z h vh (m.val (K.base+d) (h.stamp (K.base+d))) (h.put (K.base+d) (h.stamp (K.base+d)) ob) (some (sh.val vh.next,vh.new vo)):=by
 cases hm with
 |lit=>simp[Mk.obj]at Ts
 |ptr cs Wj e hr=>
  simp only[Mk.obj,Option.some.injEq]at Ts;subst Ts;have X2:=Zcf (K:=K) (vo:=.row Wj e true) H hK hd (ob:=.cells cs) fun ρ' vf' he=>.cells cs Wj e (Q6 H) (by simp[VH.new]) (hr.mono he (Vj.le.refl _))
  exact⟨_,_,_,_,rfl,.ptr _ _ 0 _ ⟨vh.next,0,none⟩ Zh6 (Nat.le_refl _) rfl fun _=>by simp,X2⟩
 |slice g m xs Wj ty ht hr hl=>
  simp only[Mk.obj,Option.some.injEq]at Ts;subst Ts;have X2:=Zcf (K:=K) (vo:=.row Wj ty.size true) H hK hd (ob:=.row g true xs) fun ρ' vf' he=>.row g xs Wj ty ht (Q6 H) (by simp[VH.new]) hr hl
  exact⟨_,_,_,_,rfl,Zfj ht _,X2⟩
 |map=>
  simp only[Mk.obj,Option.some.injEq]at Ts;subst Ts;have X2:=Zcf (K:=K) (vo:=.map []) H hK hd (ob:=.map []) fun ρ' vf' he=>.map [] [] (Q6 H) (by simp[VH.new]) .nil
  exact⟨_,_,_,_,rfl,.map _ _ _ vh.next Zh6 (Nat.le_refl _) fun _=>by simp,X2⟩
theorem Zac3 (hcf:Zjc C K n pcf cf)(hyf:YfSim C K n pyf yf)(H:HP C ρ Z vh h)(S:SR C ρ (Zo h) Z Xi Y4)(hK:KOk K n h.next)(hd:∀d,o.dst=some d->d < n)(he:opP C pcf pyf all K Xi h o=some r):
  Zf3 C K ρ Z h vh r.1 r.2 (Xu C cf yf Y4 vh o):=by
 unfold opP at he;split at he
 .rename_i v hf;cases he;obtain⟨w,h1,h2⟩:=Zwq S hf;exact⟨w,vh,ρ,Z,h2 cf yf vh H.sig,h1,St.refl H⟩
 .split at he
  .rename_i m hm;obtain⟨sh,vo,h1,h2,h3⟩:=Zqk S hm;rw[h3 cf yf vh];split at he
   .rename_i Ts;cases he;cases h1 with
    |lit g xs Wj ty ht hr hl=>
     obtain⟨Z',X2,hrd,_⟩:=Zu7 (K:=K) H ht hr hl;exact⟨_,_,ρ,Z',rfl,.d hrd,X2⟩
    | _=>simp[Mk.obj]at Ts
   .rename_i ob d Ts Ro;cases he;exact Zai3 h1 H hK (hd d Ro) Ts
   .cases he
  .exact Zmr hcf hyf H S hK hd he
theorem Zbm {ops:List Oper}{b:Bool}(S:SR C ρ vf Z Xi Y4)(he:Vz ops Xi o=some b):Q2 ops Y4 o=some b:=by
 unfold Vz at he;unfold Q2;split at he
 .rename_i hg;rw[hg];exact he
 .rename_i j want hg;rw[hg]
  try dsimp only
  split at he
  .rename_i d hd;rw[hd]
   try dsimp only
   split at he
   .rename_i c hc;cases he;obtain⟨w,h1,h2⟩:=S _ _ hc;rw[h1,h2.bool_inv]
   .rename_i w Yi hc;cases he;obtain⟨u,h1,h2⟩:=S _ _ hc;rw[h1];cases h2 with
    |d h=>cases h<;>first | rfl | exact absurd rfl (Yi _)
    | _=>rfl
   .cases he
  .rename_i hd;rw[hd];exact he
theorem Z68 (hcf:Zjc C K n pcf cf)(hyf:YfSim C K n pyf yf):∀(l:List Oper) {Xi:Yu} {Y4:SL} {h:PH} {vh:VH} {ρ:Nat->Nat} {Z:Vj} {q:Yu×PH},HP C ρ Z vh h->SR C ρ (Zo h) Z Xi Y4->KOk K n h.next->(∀o∈l,∀d,o.dst=some d->d < n)->Zbg C pcf pyf K all l Xi h=some q ->
  ∃vsl' vh' ρ' Z',Zh1 C cf yf all l Y4 vh=some (vsl',vh')/\SR C ρ' (Zo q.2) Z' q.1 vsl'/\St C K ρ Z h vh ρ' Z' q.2 vh':=by
 intro l
 induction l with
 |nil=>
  intro Xi Y4 h vh ρ Z q H S hK hd he;simp only[Zbg,Option.some.injEq]at he;subst he;exact⟨Y4,vh,ρ,Z,rfl,S,St.refl H⟩
 |cons o l ih=>
  intro Xi Y4 h vh ρ Z q H S hK hd he;simp only[Zbg]at he;simp only[Zh1];split at he
  .rename_i hw;rw[Zbm S hw]
   try dsimp only
   split at he
   .rename_i v h1 ho;obtain⟨w,vh1,ρ1,Z1,a1,a2,a3⟩:=Zac3 hcf hyf H S hK (hd o (by simp)) ho;rw[a1]
    try dsimp only
    obtain⟨vsl',vh',ρ',Z',b1,b2,b3⟩:=ih a3.hp ((S.mono a3.ext a3.sig).putP o.dst a2) ⟨hK.1,Nat.le_trans hK.2 a3.next⟩ (fun o ho=>hd o (by simp[ho])) he;exact⟨vsl',vh',ρ',Z',b1,b2,a3.trans H b3⟩
   .cases he
  .rename_i hw;rw[Zbm S hw]
   try dsimp only
   exact ih H (S.putP o.dst (.tuple [] #[] .nil)) hK (fun o ho=>hd o (by simp[ho])) he
  .cases he
end
section
variable {C:Ctx}{Z Z':Vj}{ρ ρ':Nat->Nat}{vf vf':Nat->Option Nat}{h h':PH}{vh vh':VH}{K:Loc}{n:Nat}{Xi:Yu}{Y4:SL}{x:PV}{v:Value}
theorem HP.sub (H:HP C ρ Z vh h)(hg:h'.get=h.get)(hn:∀i x,h.get i=some x->i < h'.next)(hv:vh'.get=vh.get)(hvn:vh.next<=vh'.next)(hw:vh'.wr<=vh'.next):HP C ρ Z vh' h' where
 lt:=fun i x hx=>hn i x (by rw[<- hg];exact hx)
 inj:=fun i j x y hx hy e=>H.inj i j x y (by rw[<- hg];exact hx) (by rw[<- hg];exact hy) e
 vlt:=fun i o ho=>Nat.lt_of_lt_of_le (H.vlt i o (by rw[<- hv];exact ho)) hvn
 sig:=fun Yb s hs=>by rw[hv];exact H.sig Yb s hs
 obj:=fun i Zc o ho=>by
  rw[hg]at ho;have hvf:Zo h'=Zo h:=by unfold Zo;rw[hg]
  rw[hvf];have h1:=H.obj i Zc o ho;cases h1 with
  |loop K0 n sl Y4 ps as bd a b c d e f g=>exact .loop K0 n sl Y4 ps as bd a (by rw[hv];exact b) c d e f g
  |cells cs Wj e a b c=>exact .cells cs Wj e a (by rw[hv];exact b) c
  |row g xs Wj ty a b c d e=>exact .row g xs Wj ty a b (by rw[hv];exact c) d e
  |frozen g xs s ty a b c d e f=>exact .frozen g xs s ty a b c d e f
  |map es ves a b c=>exact .map es ves a (by rw[hv];exact b) c
  |gone a b=>exact .gone (by omega) b
 wr:=hw
theorem Zi7 {m:Nat}(hvf:∀i,i < m->vf' i=vf i):∀(k:Nat) {x:PV} {v:Value},below m k x=true->R C ρ vf Z x v->R C ρ vf' Z x v:=by
 intro k
 induction k with
 |zero=>
  intro x v hb hr;cases hr with
  |d h=>exact .d h
  |own i Zc g off len c a cap ty hi hv hp ht ha=>exact .own i Zc g off len c a cap ty (by rw[hvf i (by simpa[below]using hb)];exact hi) hv hp ht ha
  |ptr i Zc off c a hi hv hp ha=>exact .ptr i Zc off c a (by rw[hvf i (by simpa[below]using hb)];exact hi) hv hp ha
  |eptr i Zc g ix off c a ty hi hv hp ht ha=>exact .eptr i Zc g ix off c a ty (by rw[hvf i (by simpa[below]using hb)];exact hi) hv hp ht ha
  |rptr cs Yb o s Wj hs hr hx=>exact .rptr cs Yb o s Wj hs hr hx
  |map i Zc c w hi hv ha=>exact .map i Zc c w (by rw[hvf i (by simpa[below]using hb)];exact hi) hv ha
  |yield i Zc c w hi hv ha=>exact .yield i Zc c w (by rw[hvf i (by simpa[below]using hb)];exact hi) hv ha
  | _=>simp[below]at hb
 |succ k ih=>
  intro x v hb hr
  have hs:∀ {cs:List PV} {cs':List Value},cs.all (below m k)=true->Rs C ρ vf Z cs cs'->Rs C ρ vf' Z cs cs':=by
   intro cs
   induction cs with
   |nil=>intro cs' _ h;cases h;exact .nil
   |cons c cs ih2=>
    intro cs' ha h;simp only[List.all_cons,Bool.and_eq_true]at ha;cases h with | cons h r=>exact .cons (ih ha.1 h) (ih2 ha.2 r)
  cases hr with
  |d h=>exact .d h
  |own i Zc g off len c a cap ty hi hv hp ht ha=>exact .own i Zc g off len c a cap ty (by rw[hvf i (by simpa[below]using hb)];exact hi) hv hp ht ha
  |ptr i Zc off c a hi hv hp ha=>exact .ptr i Zc off c a (by rw[hvf i (by simpa[below]using hb)];exact hi) hv hp ha
  |eptr i Zc g ix off c a ty hi hv hp ht ha=>exact .eptr i Zc g ix off c a ty (by rw[hvf i (by simpa[below]using hb)];exact hi) hv hp ht ha
  |rptr cs Yb o s Wj hs hr hx=>exact .rptr cs Yb o s Wj hs hr hx
  |map i Zc c w hi hv ha=>exact .map i Zc c w (by rw[hvf i (by simpa[below]using hb)];exact hi) hv ha
  |yield i Zc c w hi hv ha=>exact .yield i Zc c w (by rw[hvf i (by simpa[below]using hb)];exact hi) hv ha
  |fn f a c a' c' h1 h2=>
   simp only[below,Bool.and_eq_true]at hb;exact .fn f a c a' c' (hs hb.1 h1) (hs hb.2 h2)
  |iface t y w h=>exact .iface t y w (ih (by simpa only[below]using hb) h)
  |agg cs cs' h=>exact .agg cs cs' (hs (by simpa only[below]using hb) h)
  |tuple cs cs' h=>exact .tuple cs cs' (hs (by simpa only[below]using hb) h)
theorem Zaas {m:Nat}(hvf:∀i,i < m->vf' i=vf i){k:Nat}{cs:List PV}{cs':List Value}(ha:cs.all (below m k)=true)(h:Rs C ρ vf Z cs cs'):Rs C ρ vf' Z cs cs':=by
 induction cs generalizing cs' with
 |nil=>cases h;exact .nil
 |cons c cs ih2=>
  simp only[List.all_cons,Bool.and_eq_true]at ha;cases h with | cons h r=>exact .cons (Zi7 hvf k ha.1 h) (ih2 ha.2 r)
theorem Zae5 {m:Nat}(hvf:∀i,i < m->vf' i=vf i){k:Nat}{es:List (PV×PV)}{Rk:List (Value×Value)}(ha:es.all (fun e=>below m k e.1&&below m k e.2)=true)(h:MRP C ρ vf Z es Rk):MRP C ρ vf' Z es Rk:=by
 induction h with
 |nil=>exact .nil
 |cons hk hv r ih=>
  simp only[List.all_cons,Bool.and_eq_true]at ha;exact .cons (Zi7 hvf k ha.1.1 hk) (Zi7 hvf k ha.1.2 hv) (ih ha.2)
theorem Zyp (g:Nat):∀(n:Nat) (x:PV),Yy g n x=true->Yy g (n+1) x=true:=by
 intro n
 induction n with
 |zero=>intro x h;cases x<;>simp_all[Yy]
 |succ n ih=>
  have hs:∀cs:List PV,cs.all (Yy g n)=true->cs.all (Yy g (n+1))=true:=fun cs h=>List.all_eq_true.2 fun c hc=>ih c (List.all_eq_true.1 h c hc)
  intro x h;cases x with
  |lst g' xs=>simp only[Yy,Bool.and_eq_true]at h ⊢;exact⟨h.1,hs _ h.2⟩
  |agg cs=>simp only[Yy]at h ⊢;exact hs _ h
  |tuple cs=>simp only[Yy]at h ⊢;exact hs _ h
  |iface t y=>simp only[Yy]at h ⊢;exact ih y h
  |fn f a c=>simp only[Yy,Bool.and_eq_true]at h ⊢;exact⟨hs _ h.1,hs _ h.2⟩
  | _=>simp_all[Yy]
theorem Zek {g n:Nat}{x:PV}(h:Yy g n x=true):(Zd x).all (Yy g n)=true:=by
 cases x with
 |agg cs=>
  cases n with
  |zero=>simp[Yy]at h
  |succ n=>simp only[Yy]at h;exact List.all_eq_true.2 fun c hc=>Zyp g n c (List.all_eq_true.1 h c hc)
 | _=>simp only[Zd,List.all_cons,List.all_nil,Bool.and_true];exact h
def Ztt (G:List Nat)(Z Z':Vj):Prop:=∀Yb s,Z Yb=some s->Z' Yb=some s\/∃g∈G,s.tag=some g
theorem Zs9 {G:List Nat}(hb:Ztt G Z Z'):∀(n:Nat) {x:PV} {v:Value},(∀g∈G,Yy g n x=true)->RD C Z x v->RD C Z' x v:=by
 intro n
 induction n with
 |zero=>
  intro x v ha hr;cases hr with
  |lst g xs Yb o cap s Wj ty hs he ht hty hr hx hl=>
   rcases hb Yb s hs with h1 | ⟨g',hg',h1⟩
   .by_cases hG:G=[]
    ·
     subst hG
     have hb':Z.le Z':=fun Yb s hs=>by
      rcases hb Yb s hs with h | ⟨g,hg,_⟩
      .exact h
      .simp at hg
     exact (RD.lst g xs Yb o cap s Wj ty hs he ht hty hr hx hl).mono hb'
    .obtain ⟨g',hg'⟩:=List.exists_mem_of_ne_nil G hG;have:=ha g' hg';simp[Yy]at this
   .have:=ha g' hg';simp[Yy]at this
  |iface t y w h=>
   by_cases hG:G=[]
   .subst hG
    have hb':Z.le Z':=fun Yb s hs=>by
     rcases hb Yb s hs with h | ⟨g,hg,_⟩
     .exact h
     .simp at hg
    exact (RD.iface t y w h).mono hb'
   .obtain ⟨g',hg'⟩:=List.exists_mem_of_ne_nil G hG;have:=ha g' hg';simp[Yy]at this
  |agg cs cs' h=>
   by_cases hG:G=[]
   .subst hG
    have hb':Z.le Z':=fun Yb s hs=>by
     rcases hb Yb s hs with h | ⟨g,hg,_⟩
     .exact h
     .simp at hg
    exact (RD.agg cs cs' h).mono hb'
   .obtain ⟨g',hg'⟩:=List.exists_mem_of_ne_nil G hG;have:=ha g' hg';simp[Yy]at this
  | _=>constructor
 |succ n ih=>
  have hs:∀ {cs:List PV} {cs':List Value},(∀g∈G,cs.all (Yy g n)=true)->RDs C Z cs cs'->RDs C Z' cs cs':=by
   intro cs
   induction cs with
   |nil=>intro cs' _ h;cases h;exact .nil
   |cons c cs ih2=>
    intro cs' ha h;cases h with
    |cons h r=>
     refine .cons (ih (fun g hg=>?_) h) (ih2 (fun g hg=>?_) r)
     .have:=ha g hg;simp only[List.all_cons,Bool.and_eq_true]at this;exact this.1
     .have:=ha g hg;simp only[List.all_cons,Bool.and_eq_true]at this;exact this.2
  intro x v ha hr;cases hr with
  |lst g xs Yb o cap s Wj ty hs1 he ht hty hr hx hl=>
   rcases hb Yb s hs1 with h1 | ⟨g',hg',h1⟩
   .refine .lst g xs Yb o cap s Wj ty h1 he ht hty hr (hs (fun g' hg'=>?_) hx) hl;have:=ha g' hg';simp only[Yy,Bool.and_eq_true]at this;rw[List.all_flatMap];exact List.all_eq_true.2 fun y hy=>Zek (List.all_eq_true.1 this.2 y hy)
   .have h2:=ha g' hg';simp only[Yy,Bool.and_eq_true]at h2;rcases ht with e | e
    .rw [e]at h1;cases h1
    .rw [h1]at e;cases e;simp at h2
  |iface t y w h=>exact .iface t y w (ih (fun g hg=>by have:=ha g hg;simpa only[Yy]using this) h)
  |agg cs cs' h=>exact .agg cs cs' (hs (fun g hg=>by have:=ha g hg;simpa only[Yy]using this) h)
  | _=>constructor
theorem Zxh {G:List Nat}(hb:Ztt G Z Z'){n:Nat}{cs:List PV}{cs':List Value}(ha:∀g∈G,cs.all (Yy g n)=true)(h:RDs C Z cs cs'):RDs C Z' cs cs':=by
 induction cs generalizing cs' with
 |nil=>cases h;exact .nil
 |cons c cs ih2=>
  cases h with
  |cons h r=>
   refine .cons (Zs9 hb n (fun g hg=>?_) h) (ih2 (fun g hg=>?_) r)
   .have:=ha g hg;simp only[List.all_cons,Bool.and_eq_true]at this;exact this.1
   .have:=ha g hg;simp only[List.all_cons,Bool.and_eq_true]at this;exact this.2
theorem Zta {G:List Nat}(hb:Ztt G Z Z')(hG:G≠[]):∀(n:Nat) {x:PV} {v:Value},(∀g∈G,Yy g n x=true)->R C ρ vf Z x v->R C ρ vf Z' x v:=by
 obtain⟨g0,hg0⟩:=List.exists_mem_of_ne_nil G hG;intro n
 induction n with
 |zero=>
  intro x v ha hr;have h0:=ha g0 hg0;cases hr with
  |d h=>exact .d (Zs9 hb 0 ha h)
  |own i Zc g off len c a cap ty hi hv hp ht hq=>exact .own i Zc g off len c a cap ty hi hv hp ht hq
  |ptr i Zc off c a hi hv hp hq=>exact .ptr i Zc off c a hi hv hp hq
  |eptr i Zc g ix off c a ty hi hv hp ht hq=>exact .eptr i Zc g ix off c a ty hi hv hp ht hq
  |map i Zc c w hi hv hq=>exact .map i Zc c w hi hv hq
  |yield i Zc c w hi hv hq=>exact .yield i Zc c w hi hv hq
  | _=>simp[Yy]at h0
 |succ n ih=>
  have hs:∀ {cs:List PV} {cs':List Value},(∀g∈G,cs.all (Yy g n)=true)->Rs C ρ vf Z cs cs'->Rs C ρ vf Z' cs cs':=by
   intro cs
   induction cs with
   |nil=>intro cs' _ h;cases h;exact .nil
   |cons c cs ih2=>
    intro cs' ha h;cases h with
    |cons h r=>
     refine .cons (ih (fun g hg=>?_) h) (ih2 (fun g hg=>?_) r)
     .have:=ha g hg;simp only[List.all_cons,Bool.and_eq_true]at this;exact this.1
     .have:=ha g hg;simp only[List.all_cons,Bool.and_eq_true]at this;exact this.2
  intro x v ha hr;have h0:=ha g0 hg0;cases hr with
  |d h=>exact .d (Zs9 hb (n+1) ha h)
  |own i Zc g off len c a cap ty hi hv hp ht hq=>exact .own i Zc g off len c a cap ty hi hv hp ht hq
  |ptr i Zc off c a hi hv hp hq=>exact .ptr i Zc off c a hi hv hp hq
  |eptr i Zc g ix off c a ty hi hv hp ht hq=>exact .eptr i Zc g ix off c a ty hi hv hp ht hq
  |map i Zc c w hi hv hq=>exact .map i Zc c w hi hv hq
  |yield i Zc c w hi hv hq=>exact .yield i Zc c w hi hv hq
  |rptr=>simp[Yy]at h0
  |fn f a c a' c' h1 h2=>exact .fn f a c a' c' (hs (fun g hg=>by have:=ha g hg;simp only[Yy,Bool.and_eq_true]at this;exact this.1) h1) (hs (fun g hg=>by have:=ha g hg;simp only[Yy,Bool.and_eq_true]at this;exact this.2) h2)
  |iface t y w h=>exact .iface t y w (ih (fun g hg=>by have:=ha g hg;simpa only[Yy]using this) h)
  |agg cs cs' h=>exact .agg cs cs' (hs (fun g hg=>by have:=ha g hg;simpa only[Yy]using this) h)
  |tuple cs cs' h=>exact .tuple cs cs' (hs (fun g hg=>by have:=ha g hg;simpa only[Yy]using this) h)
theorem Zae7 {G:List Nat}(hb:Ztt G Z Z'){n:Nat}{x:PV}{v:Value}(ha:∀g∈G,Yy g n x=true)(h:R C ρ vf Z x v):R C ρ vf Z' x v:=by
 by_cases hG:G=[]
 .subst hG;refine h.mono (Rp.refl _ _) fun Yb s hs=>?_
  rcases hb Yb s hs with h | ⟨g,hg,_⟩
  .exact h
  .simp at hg
 .exact Zta hb hG n ha h
theorem Zae6 {G:List Nat}(hb:Ztt G Z Z')(hG:G≠[]){n:Nat}{cs:List PV}{cs':List Value}(ha:∀g∈G,cs.all (Yy g n)=true)(h:Rs C ρ vf Z cs cs'):Rs C ρ vf Z' cs cs':=by
 induction cs generalizing cs' with
 |nil=>cases h;exact .nil
 |cons c cs ih2=>
  cases h with
  |cons h r=>
   refine .cons (Zta hb hG n (fun g hg=>?_) h) (ih2 (fun g hg=>?_) r)
   .have:=ha g hg;simp only[List.all_cons,Bool.and_eq_true]at this;exact this.1
   .have:=ha g hg;simp only[List.all_cons,Bool.and_eq_true]at this;exact this.2
theorem Zal3 {G:List Nat}(hb:Ztt G Z Z')(hG:G≠[]){n:Nat}{es:List (PV×PV)}{Rk:List (Value×Value)}(ha:∀g∈G,es.all (fun e=>Yy g n e.1&&Yy g n e.2)=true)(h:MRP C ρ vf Z es Rk):MRP C ρ vf Z' es Rk:=by
 induction h with
 |nil=>exact .nil
 |cons hk hv r ih=>
  have hh:∀g∈G,(Yy g n _=true/\Yy g n _=true)/\_:=fun g hg=>by
   have:=ha g hg;simp only[List.all_cons,Bool.and_eq_true]at this;exact this
  exact .cons (Zta hb hG n (fun g hg=>(hh g hg).1.1) hk) (Zta hb hG n (fun g hg=>(hh g hg).1.2) hv) (ih fun g hg=>(hh g hg).2)
theorem Zoc:∀(n:Nat) {x:PV} {v:Value},flat n v=true->R C ρ vf Z x v->R C ρ' vf' Z' x v/\X3 n x=true:=by
 have hD:∀(n:Nat) {x:PV} {v:Value},flat n v=true->RD C Z x v->RD C Z' x v/\X3 n x=true:=by
  intro n
  induction n with
  |zero=>
   intro x v hf hr;cases hr with
   |lst=>simp[flat]at hf
   |iface=>simp[flat]at hf
   |agg=>simp[flat]at hf
   | _=>exact⟨by constructor,by simp[X3]⟩
  |succ n ih=>
   have hs:∀ {cs:List PV} {cs':List Value},cs'.all (flat n)=true->RDs C Z cs cs'->RDs C Z' cs cs'/\cs.all (X3 n)=true:=by
    intro cs
    induction cs with
    |nil=>intro cs' _ h;cases h;exact⟨.nil,rfl⟩
    |cons c cs ih2=>
     intro cs' ha h;cases h with
     |cons h r=>
      simp only[List.all_cons,Bool.and_eq_true]at ha ⊢;obtain⟨a,b⟩:=ih ha.1 h;obtain⟨c,d⟩:=ih2 ha.2 r;exact⟨.cons a c,b,d⟩
   intro x v hf hr;cases hr with
   |lst=>simp[flat]at hf
   |iface t y w h=>
    obtain⟨a,b⟩:=ih (by simpa only[flat]using hf) h;exact⟨.iface t y w a,by simpa only[X3]using b⟩
   |agg cs cs' h=>
    obtain⟨a,b⟩:=hs (by simpa only[flat]using hf) h;exact⟨.agg cs cs' a,by simpa only[X3]using b⟩
   | _=>exact⟨by constructor,by simp[X3]⟩
 intro n
 induction n with
 |zero=>
  intro x v hf hr;cases hr with
  |d h=>exact⟨.d (hD 0 hf h).1,(hD 0 hf h).2⟩
  | _=>simp[flat]at hf
 |succ n ih=>
  have hs:∀ {cs:List PV} {cs':List Value},cs'.all (flat n)=true->Rs C ρ vf Z cs cs'->Rs C ρ' vf' Z' cs cs'/\cs.all (X3 n)=true:=by
   intro cs
   induction cs with
   |nil=>intro cs' _ h;cases h;exact⟨.nil,rfl⟩
   |cons c cs ih2=>
    intro cs' ha h;cases h with
    |cons h r=>
     simp only[List.all_cons,Bool.and_eq_true]at ha ⊢;obtain⟨a,b⟩:=ih ha.1 h;obtain⟨c,d⟩:=ih2 ha.2 r;exact⟨.cons a c,b,d⟩
  intro x v hf hr;cases hr with
  |d h=>exact⟨.d (hD (n+1) hf h).1,(hD (n+1) hf h).2⟩
  |iface t y w h=>
   obtain⟨a,b⟩:=ih (by simpa only[flat]using hf) h;exact⟨.iface t y w a,by simpa only[X3]using b⟩
  |agg cs cs' h=>
   obtain⟨a,b⟩:=hs (by simpa only[flat]using hf) h;exact⟨.agg cs cs' a,by simpa only[X3]using b⟩
  |tuple cs cs' h=>
   obtain⟨a,b⟩:=hs (by simpa only[flat]using hf) h;exact⟨.tuple cs cs' a,by simpa only[X3]using b⟩
  | _=>simp[flat]at hf
theorem Zabe:∀(n:Nat) {x:PV} {v:Value},X3 n x=true->R C ρ vf Z x v->flat n v=true:=by
 have hD:∀(n:Nat) {x:PV} {v:Value},X3 n x=true->RD C Z x v->flat n v=true:=by
  intro n
  induction n with
  |zero=>
   intro x v hf hr;cases hr<;>simp_all[X3,flat]
  |succ n ih=>
   have hs:∀ {cs:List PV} {cs':List Value},cs.all (X3 n)=true->RDs C Z cs cs'->cs'.all (flat n)=true:=by
    intro cs
    induction cs with
    |nil=>intro cs' _ h;cases h;rfl
    |cons c cs ih2=>
     intro cs' ha h;cases h with
     |cons h r=>
      simp only[List.all_cons,Bool.and_eq_true]at ha ⊢;exact⟨ih ha.1 h,ih2 ha.2 r⟩
   intro x v hf hr;cases hr with
   |lst=>simp[X3]at hf
   |iface t y w h=>simp only[flat];exact ih (by simpa only[X3]using hf) h
   |agg cs cs' h=>simp only[flat];exact hs (by simpa only[X3]using hf) h
   | _=>simp[flat]
 intro n
 induction n with
 |zero=>
  intro x v hf hr;cases hr with
  |d h=>exact hD 0 hf h
  | _=>simp[X3]at hf
 |succ n ih=>
  have hs:∀ {cs:List PV} {cs':List Value},cs.all (X3 n)=true->Rs C ρ vf Z cs cs'->cs'.all (flat n)=true:=by
   intro cs
   induction cs with
   |nil=>intro cs' _ h;cases h;rfl
   |cons c cs ih2=>
    intro cs' ha h;cases h with
    |cons h r=>
     simp only[List.all_cons,Bool.and_eq_true]at ha ⊢;exact⟨ih ha.1 h,ih2 ha.2 r⟩
  intro x v hf hr;cases hr with
  |d h=>exact hD _ hf h
  |iface t y w h=>simp only[flat];exact ih (by simpa only[X3]using hf) h
  |agg cs cs' h=>simp only[flat];exact hs (by simpa only[X3]using hf) h
  |tuple cs cs' h=>simp only[flat];exact hs (by simpa only[X3]using hf) h
  | _=>simp[X3]at hf
theorem Zod:∀(n:Nat) (x:PV),X3 n x=true->X3 (n+1) x=true:=by
 intro n
 induction n with
 |zero=>intro x h;cases x<;>simp_all[X3]
 |succ n ih=>
  have hs:∀cs:List PV,cs.all (X3 n)=true->cs.all (X3 (n+1))=true:=fun cs h=>List.all_eq_true.2 fun c hc=>ih c (List.all_eq_true.1 h c hc)
  intro x h;cases x with
  |agg cs=>simp only[X3]at h ⊢;exact hs _ h
  |tuple cs=>simp only[X3]at h ⊢;exact hs _ h
  |iface t y=>simp only[X3]at h ⊢;exact ih y h
  | _=>simp_all[X3]
theorem Zhv (H:HP C ρ Z vh h)(S:SR C ρ (Zo h) Z Xi Y4):∀ {rs:List ResultVar} {xs:List PV},Us C Xi h rs=some xs->∃vs,Zhu C Y4 vh rs=some vs/\Rs C ρ (Zo h) Z xs vs
 | [],xs,he=>by simp only[Us,Option.some.injEq]at he;subst he;exact⟨[],rfl,.nil⟩
 | .tmp t::r,xs,he=>by
   simp only[Us]at he;split at he
   .rename_i p ps hp hps;cases he;obtain⟨v,h1,h2⟩:=S _ _ hp;obtain⟨vs,h3,h4⟩:=Zhv H S hps;exact⟨v::vs,by simp only[Zhu,h1,h3],.cons h2 h4⟩
   .cases he
 | .cell a t::r,xs,he=>by
   simp only[Us]at he;split at he
   .rename_i i Zc off ty ps hp hty hps;split at he
    .rename_i w cs hi;split at he
     .rename_i e;subst e;rw[Option.map_eq_some_iff]at he;obtain⟨z,hz,rfl⟩:=he;rw[Option.bind_eq_some_iff]at hz;obtain⟨q,hq,hz⟩:=hz;obtain⟨v,h1,h2⟩:=S _ _ hp;have hv:=h2.ptr_inv hi;subst hv;obtain⟨vs,h3,h4⟩:=Zhv H S hps;cases H.obj _ _ _ hi with
      |cells cs Wj e2 hzz hg hr=>
       obtain⟨q',h5,h6⟩:=hr.read hq;obtain⟨z',h7,h8⟩:=Zhq h6 hz;refine⟨z'::vs,?_,.cons h8 h4⟩;simp only[Zhu,h1,hty,h3,VH.load,hg,Option.isSome_none,Bool.false_eq_true,if_false,h5,Option.bind_some,h7,Option.map_some]
     .cases he
    .cases he
   .cases he
theorem Zvh {xs:List PV}{vs:List Value}(h:Rs C ρ vf Z xs vs):R C ρ vf Z (Wr xs) (Zpc vs):=by
 cases h with
 |nil=>exact .tuple _ _ .nil
 |cons h r=>
  cases r with
  |nil=>exact h
  |cons h2 r=>exact .tuple _ _ (by simpa using .cons h (.cons h2 r))
theorem Z28 (l:List Value)(i t:Nat):Xg (Uc i l) t=if i<=t then l[t - i]? else none:=by
 induction l generalizing i with
 |nil=>simp[Uc,Xg]
 |cons v l ih=>
  simp only[Uc,Xg,ih];by_cases h:i=t
  .subst h;simp
  .have:Nat.beq i t=false:=Rd h;simp only[this,cond_false];by_cases hlt:i+1<=t
   .have h2:t - i=(t - (i+1))+1:=by omega
    simp[hlt,show i<=t by omega,h2]
   .simp [hlt,show ¬ i<=t by omega]
theorem Zt6 {xs:List PV}{vs:List Value}(h:Rs C ρ vf Z xs vs):SR C ρ vf Z (Sb 0 xs) (Uc 0 vs):=by
 intro t x hx;simp only[Sb,Nat.zero_le,if_true,Nat.sub_zero]at hx;rw[Z28];simp only[Nat.zero_le,if_true,Nat.sub_zero];exact h.get hx
theorem Uh (h3:PH):∀(ok:List Nat) (h:PH),(Yg h3 ok h).next=h.next
 | [],h=>rfl
 |i::r,h=>by
  simp only[Yg];split
  .rw [Uh h3 r];rfl
  .exact Uh h3 r h
theorem U9 (h3:PH):∀(ok:List Nat) (h:PH) (j:Nat),(Yg h3 ok h).get j=if j∈ok then (match h3.get j with | some y=>some y | none=>h.get j) else h.get j
 | [],h,j=>by simp[Yg]
 |i::r,h,j=>by
  simp only[Yg];split
  .rename_i Zc o hi;rw[U9 h3 r];by_cases e:j=i
   .subst e;simp[PH.put,hi]
   .simp [PH.put,e]
  .rename_i hi;rw[U9 h3 r];by_cases e:j=i
   .subst e;simp[hi]
   .simp [e]
end
section
variable {C:Ctx}{Z Z' Z1 Z2 Z3 ZF:Vj}{ρ ρ' ρ2:Nat->Nat}{vf vf':Nat->Option Nat}{h h' h2 h3:PH}{vh vh' Ua vhF:VH}{K:Loc}{n m:Nat}{Xi:Yu}{Y4:SL}{x:PV}{v w:Value}
theorem OR.back {j p nx nxF:Nat}{vf3 vfF:Nat->Option Nat}{o:PO}{G:List Nat}(O:OR C ρ2 vf3 Z3 nx Ua j p o)(hb:Wl m o=true)(hvf:∀i,i < m->vfF i=vf3 i)(hB:Ztt G Z3 ZF)(hT:∀g∈G,Zm4 g o=true)
  (hn:Z3 p=none->ZF p=none) (hs:∀s,Z3 p=some s->ZF p=some s) (hv:vhF.get=Ua.get) (hvn:vhF.next=Ua.next):OR C ρ2 vfF ZF nxF vhF j p o:=by
 cases O with
 |cells cs Wj e a b c=>
  refine .cells cs Wj e (hn a) (by rw[hv];exact b) ?_;have h1:=Zaas hvf hb c;by_cases hG:G=[]
  .subst hG;refine h1.mono (Rp.refl _ _) fun Yb s hs=>?_
   rcases hB Yb s hs with h | ⟨g,hg,_⟩
   .exact h
   .simp at hg
  .exact Zae6 hB hG (fun g hg=>hT g hg) h1
 |row g xs Wj ty a b c d e=>
  refine .row g xs Wj ty a (hn b) (by rw[hv];exact c) (Zxh hB (n:=12) (fun g hg=>?_) d) e;have:=hT g hg;simp only[Zm4]at this;rw[List.all_flatMap];exact List.all_eq_true.2 fun y hy=>Zek (List.all_eq_true.1 this y hy)
 |frozen g xs s ty a b c d e f=>
  refine .frozen g xs s ty a (hs s b) c d (Zxh hB (n:=12) (fun g hg=>?_) e) f;have:=hT g hg;simp only[Zm4]at this;rw[List.all_flatMap];exact List.all_eq_true.2 fun y hy=>Zek (List.all_eq_true.1 this y hy)
 |map es ves a b c=>
  refine .map es ves (hn a) (by rw[hv];exact b) ?_;have h1:=Zae5 hvf hb c;by_cases hG:G=[]
  .subst hG;refine h1.mono (Rp.refl _ _) fun Yb s hs=>?_
   rcases hB Yb s hs with h | ⟨g,hg,_⟩
   .exact h
   .simp at hg
  .exact Zal3 hB hG (fun g hg=>hT g hg) h1
 |loop=>simp[Wl]at hb
 |gone a b=>exact .gone (by rw[hvn];exact a) (hn b)
theorem Zs7 {lo:Nat}{ok:List Nat}{base j:Nat}(h1:j < lo)(h2:j∉ok):can {base:=base,lo:=lo,ok:=ok} j=false:=by
 unfold can;rw[Bool.or_eq_false_iff];constructor
 .cases e:Nat.ble lo j
  .rfl
  .rw [Nat.ble_eq]at e;omega
 .rw [List.any_eq_false];intro y hy e;rw[Nat.beq_eq]at e;exact h2 (e ▸ hy)
theorem Zk7 {g:PH}{ok:List Nat}(hx:∀i∈ok,∃Zc o,g.get i=some (Zc,o)/\(h3.get i=some (Zc,o)\/∃g' own xs,o=.row g' own xs/\h3.get i=some (Zc,.row g' false xs))):
  ∃Z3x,(∀i∈Z3x,i∈ok)/\Yg h3 ok g=g.freeze Z3x:=by
 classical
 refine⟨ok.filter fun i=>decide (∃Zc g' own xs,g.get i=some (Zc,.row g' own xs)/\h3.get i=some (Zc,.row g' false xs)),fun i hi=>(List.mem_filter.1 hi).1,?_⟩;have hn:(Yg h3 ok g).next=(g.freeze (ok.filter fun i=>decide (∃Zc g' own xs,g.get i=some (Zc,.row g' own xs)/\h3.get i=some (Zc,.row g' false xs)))).next:=by rw[Uh,freeze_next]
 have hg:(Yg h3 ok g).get=(g.freeze (ok.filter fun i=>decide (∃Zc g' own xs,g.get i=some (Zc,.row g' own xs)/\h3.get i=some (Zc,.row g' false xs)))).get:=by
  funext j;rw[U9,Xr];by_cases hj:j∈ok
  .rw [if_pos hj];obtain⟨Zc,o,h1,h2⟩:=hx j hj;rcases h2 with h2 | ⟨g',own,xs,rfl,h2⟩
   .rw [h1,h2];cases o with
    |row g' own xs=>
     try dsimp only
     by_cases hm:j∈ok.filter fun i=>decide (∃Zc g' own xs,g.get i=some (Zc,.row g' own xs)/\h3.get i=some (Zc,.row g' false xs))
     .rw [if_pos hm];obtain⟨_,hd⟩:=List.mem_filter.1 hm;obtain⟨a,b,c,d,e1,e2⟩:=of_decide_eq_true hd;rw[h1]at e1;rw[h2]at e2;cases e1;cases e2;rfl
     .rw [if_neg hm]
    | _=>rfl
   .rw [h1,h2]
    try dsimp only
    rw[if_pos];refine List.mem_filter.2 ⟨hj,decide_eq_true ⟨_,_,_,_,h1,h2⟩⟩
  .rw [if_neg hj];split
   .rename_i Zc g' own xs hgj;rw[if_neg fun hm=>hj (List.mem_filter.1 hm).1,hgj]
   .rfl
 cases hA:Yg h3 ok g;cases hB:g.freeze (ok.filter fun i=>decide (∃Zc g' own xs,g.get i=some (Zc,.row g' own xs)/\h3.get i=some (Zc,.row g' false xs)));rw[hA,hB]at hn hg;simp only at hn hg;rw[hn,hg]
structure Pre0 (C:Ctx)(K:Loc)(m:Nat)(ρ:Nat->Nat)(Z Z1:Vj)(h:PH)(vh:VH)(ok ids:List Nat)(nx:Nat)(ρ2:Nat->Nat)(Z3:Vj)(h3:PH)(Ua:VH):Prop where
 H:HP C ρ Z vh h
 hK:KOk K m h.next
 hok:∀i∈ok,can K i=true/\∃x,h.get i=some x
 hids:∀i∈ids,can K i=true
 f:Frz C true ρ Z h vh ids Z1
 st:St C {base:=h.next,lo:=h.next,ok:=ok} ρ Z1 {h.freeze ids with next:=nx} {vh with wr:=vh.next} ρ2 Z3 h3 Ua
section
variable {ok ids:List Nat}{nx:Nat}
theorem Pre0.old (P:Pre0 C K m ρ Z Z1 h vh ok ids nx ρ2 Z3 h3 Ua){j:Nat}(hj:j < h.next)(hn:j∉ok):h3.get j=(h.freeze ids).get j:=P.st.keep j (Zs7 hj hn)
theorem Pre0.live1 {j:Nat}{x:Nat×PO}(hx:h.get j=some x):∃o,(h.freeze ids).get j=some (x.1,o):=by
 obtain⟨Zc,o⟩:=x;rw[Xr,hx];cases o with
 |row g own xs=>
  try dsimp only
  split
  .exact ⟨_,rfl⟩
  .exact ⟨_,rfl⟩
 | _=>exact⟨_,rfl⟩
theorem Pre0.ext (P:Pre0 C K m ρ Z Z1 h vh ok ids nx ρ2 Z3 h3 Ua):Rp ρ (Zo h) ρ2 (Zo h3):=by
 have:=P.st.ext
 have hv:Zo ({h.freeze ids with next:=nx}:PH)=Zo h:=by
  rw[<- Tl ids h];rfl
 rw[hv]at this;exact this
theorem Pre0.live (P:Pre0 C K m ρ Z Z1 h vh ok ids nx ρ2 Z3 h3 Ua){j:Nat}{x:Nat×PO}(hx:h.get j=some x):∃y,h3.get j=some y:=by
 obtain⟨c',h1,_⟩:=P.ext j x.1 (Zu.2 ⟨x.2,hx⟩);obtain⟨o,ho⟩:=Zu.1 h1;exact⟨_,ho⟩
theorem Pre0.rho (P:Pre0 C K m ρ Z Z1 h vh ok ids nx ρ2 Z3 h3 Ua){j:Nat}{x:Nat×PO}(hx:h.get j=some x)(hn:j∉ok):ρ2 j=ρ j:=by
 obtain⟨c',h1,_,h3'⟩:=P.ext j x.1 (Zu.2 ⟨x.2,hx⟩);obtain⟨o,ho⟩:=Zu.1 h1;obtain⟨o1,ho1⟩:=Pre0.live1 (ids:=ids) hx;rw[P.old (P.H.lt _ _ hx) hn,ho1]at ho;cases ho;exact h3' rfl
theorem Pre0.away (P:Pre0 C K m ρ Z Z1 h vh ok ids nx ρ2 Z3 h3 Ua){j Zc:Nat}{o:PO}(hx:h.get j=some (Zc,o))(hn:j∉ok){vfF:Nat->Option Nat}(hE:Rp ρ (Zo h) ρ2 vfF)(hle:Z.le ZF)(hz:Z (ρ j)=none->ZF (ρ j)=none)
  (hv:vhF.get=Ua.get) (hvn:vh.next<=vhF.next):OR C ρ2 vfF ZF h.next vhF j (ρ2 j) o:=by
 rw[P.rho hx hn];obtain⟨o1,ho1⟩:=Pre0.live1 (ids:=ids) hx;have hg:Ua.get (ρ j)=vh.get (ρ j):=P.st.vkeep j _ ho1 (Zs7 (P.H.lt _ _ hx) hn);exact (P.H.obj _ _ _ hx).mono hE hle hz (fun _=>by rw[hv];exact hg) (Nat.le_refl _) hvn
theorem Pre0.zold (P:Pre0 C K m ρ Z Z1 h vh ok ids nx ρ2 Z3 h3 Ua){j Zc:Nat}{o:PO}(hx:h.get j=some (Zc,o))(hn:j∉ok)(hz:Z (ρ j)=none)(hi:∀g xs,o=.row g true xs->j∉ids):Z3 (ρ j)=none:=by
 have h1:=P.old (P.H.lt _ _ hx) hn;rw[Xr,hx]at h1
 have Ww:h3.get j=some (Zc,o):=by
  rw[h1];cases o with
  |row g own xs=>
   cases own with
   |true=>simp[hi g xs rfl]
   |false=>simp
  | _=>rfl
 have h2:=P.st.hp.obj _ _ _ Ww;rw[P.rho hx hn]at h2;cases h2 with
 |frozen g xs s ty a b c d e f=>
  cases P.H.obj _ _ _ hx with
  |frozen g2 xs2 s2 ty2 a2 b2=>rw[b2]at hz;cases hz
 | _=>assumption
theorem Pre0.marks (P:Pre0 C K m ρ Z Z1 h vh ok ids nx ρ2 Z3 h3 Ua){hF:PH}(hvg:vhF.get=Ua.get)(hvn:vhF.next=Ua.next)(hvw:vhF.wr=min vh.wr Ua.wr)(hp:HP C ρ2 ZF vhF hF)(hle:Z.le ZF)(hn:h.next<=hF.next)
  (W1:∀i,i∈ok->hF.get i=h3.get i) (Zcq:∀i,i < h.next->i∉ok->i∉ids->hF.get i=h.get i) (Zark:∀i,i < h.next->i∉ok->i∈ids->hF.get i=h.get i\/hF.get i=(h.freeze ids).get i) (Rf:∀i x,h.next<=i->hF.get i=some x->h3.get i=some x):St C K ρ Z h vh ρ2 ZF hF vhF:=by
 have Z9i:∀i,i < h.next->i∉ok->hF.get i=h.get i\/(i∈ids/\hF.get i=(h.freeze ids).get i):=fun i h1 h2=>by
  by_cases h4:i∈ids
  .rcases Zark i h1 h2 h4 with h5 | h5
   .exact .inl h5
   .exact .inr ⟨h4,h5⟩
  .exact .inl (Zcq i h1 h2 h4)
 have hvf:∀i,i < h.next->i∉ok->Zo hF i=Zo h i:=fun i h1 h2=>by
  rcases Z9i i h1 h2 with h4 | ⟨_,h4⟩
  .unfold Zo;rw[h4]
  .have:Zo (h.freeze ids) i=Zo h i:=by rw[Tl]
   rw[<- this];unfold Zo;rw[h4]
 have Sr:K.lo<=h.next:=by have:=P.hK.1;have:=P.hK.2;omega
 refine⟨hp,?_,hle,hn,by rw[hvn];exact P.st.vnext,by rw[hvw];exact Nat.min_le_left _ _,?_,?_,?_,?_,?_,?_⟩
 .intro i c hi;obtain⟨o,ho⟩:=Zu.1 hi;by_cases hk:i∈ok
  .obtain ⟨c',h1,h2,h4⟩:=P.ext i c hi;refine⟨c',?_,h2,h4⟩;unfold Zo at h1 ⊢;rw[W1 i hk];exact h1
  .exact ⟨c,by rw[hvf i (P.H.lt _ _ ho) hk];exact hi,Nat.le_refl _,fun _=>P.rho ho hk⟩
 .intro i hi;have hk:i∉ok:=fun hk=>by rw[(P.hok i hk).1]at hi;cases hi
  have hd:i∉ids:=fun hk=>by rw[P.hids i hk]at hi;cases hi
  have hilt:i < h.next:=by
   rcases Nat.lt_or_ge i h.next with h1 | h1
   .exact h1
   .unfold can at hi;rw[Bool.or_eq_false_iff]at hi;have:Nat.ble K.lo i=true:=by rw[Nat.ble_eq];omega
    rw[this]at hi;cases hi.1
  exact Zcq i hilt hk hd
 .intro i Zc o hilo ho;have hilt:=P.H.lt _ _ ho;by_cases hk:i∈ok
  .rw [W1 i hk];obtain⟨o1,ho1⟩:=Pre0.live1 (ids:=ids) ho;have h1:=P.st.same i Zc o1 hilt ho1;have Zlk:=ho1;rw[Xr,ho]at Zlk;rcases h1 with h1 | ⟨g,own,xs,rfl,h1⟩ | h1
   .cases o with
    |row g own xs=>
     simp only at Zlk;split at Zlk
     .cases Zlk;exact .inr (.inl ⟨_,_,_,rfl,h1⟩)
     .cases Zlk;exact .inl h1
    | _=>simp only at Zlk;cases Zlk;exact .inl h1
   .cases o with
    |row g own xs=>
     simp only at Zlk;split at Zlk<;>cases Zlk<;>exact .inr (.inl ⟨_,_,_,rfl,h1⟩)
    | _=>simp only at Zlk;cases Zlk
   .exact .inr (.inr (by rw[hvw];exact Nat.le_trans (Nat.min_le_right _ _) h1))
  .rcases Z9i i hilt hk with h4 | ⟨hd,h4⟩
   .exact .inl (h4.trans ho)
   .rw [Xr,ho]at h4;cases o with
    |row g own xs=>
     simp only[hd,if_true]at h4;exact .inr (.inl ⟨_,_,_,rfl,h4⟩)
    | _=>exact .inl h4
 .intro i x hx
  have hx3:∃y,h3.get i=some y:=by
   rcases Nat.lt_or_ge i h.next with h1 | h1
   .by_cases hk:i∈ok
    .exact ⟨x,by rw[<- W1 i hk];exact hx⟩
    .have:Zo h i=some x.1:=by rw[<- hvf i h1 hk];exact Zu.2 ⟨x.2,hx⟩
     obtain⟨o,ho⟩:=Zu.1 this;exact P.live ho
   .exact ⟨x,Rf i x h1 hx⟩
  obtain⟨y,hy⟩:=hx3;rcases P.st.plc i y hy with⟨⟨z,hz⟩,h2⟩ | h2
  .refine .inl ⟨?_,h2⟩;have:Zo (h.freeze ids) i=some z.1:=Zu.2 ⟨z.2,hz⟩;rw[Tl]at this;obtain⟨o,ho⟩:=Zu.1 this;exact⟨_,ho⟩
  .exact .inr h2
 .intro i x hx hc;have hk:i∉ok:=fun hk=>by rw[(P.hok i hk).1]at hc;cases hc
  obtain⟨o1,ho1⟩:=Pre0.live1 (ids:=ids) hx;rw[hvg];exact P.st.vkeep i _ ho1 (Zs7 (P.H.lt _ _ hx) hk)
 .intro q hq hn hi;rw[hvg];refine P.st.vnone q hq hn fun i x hx=>?_
  have:Zo (h.freeze ids) i=some x.1:=Zu.2 ⟨x.2,hx⟩;rw[Tl]at this;obtain⟨o,ho⟩:=Zu.1 this;exact hi i _ ho
 .intro b h1 h2 h3;rw[hvw];refine Nat.le_min.2 ⟨h2,P.st.low b h1 h1 fun i x hx hc=>?_⟩;have hx':(h.freeze ids).get i=some x:=hx;have:Zo h i=some x.1:=by rw[<- Tl (ids:=ids)];exact Zu.2 ⟨x.2,hx'⟩
  obtain⟨o,ho⟩:=Zu.1 this;have hlt:=P.H.lt _ _ ho
  have hk:i∈ok:=by
   unfold can at hc;rw[Bool.or_eq_true]at hc;rcases hc with hc | hc
   .rw [Nat.ble_eq]at hc;have hc':h.next<=i:=hc;omega
   .obtain ⟨j,hj,e⟩:=List.any_eq_true.1 hc;rw[Nat.beq_eq]at e;exact e ▸ hj
  exact h3 i _ ho (P.hok i hk).1
end
end
section
variable {C:Ctx}{Z Z' Z1 Z2 Z3 ZF:Vj}{ρ ρ' ρ2:Nat->Nat}{vf vf':Nat->Option Nat}{h h' h2 h3:PH}{vh vh' Ua vhF:VH}{K:Loc}{n m:Nat}{Xi:Yu}{Y4:SL}{x:PV}{v w:Value}{ok ids:List Nat}{nx:Nat}
theorem Pre0.restored (P:Pre0 C K m ρ Z Z1 h vh ok ids nx ρ2 Z3 h3 Ua)(hw:vh.next<=Ua.wr)(b:Bool)(hb:b=true->∀i∈ids,i∉ok):
  ∃ZF,St C K ρ Z h vh ρ ZF (Yg h3 ok (if b then h else h.freeze ids)) vh:=by
 have Ww:∀i∈ok,∃Zc o,(h.freeze ids).get i=some (Zc,o)/\(h3.get i=some (Zc,o)\/∃g' own xs,o=.row g' own xs/\h3.get i=some (Zc,.row g' false xs)):=by
  intro i hi;obtain⟨hc,x,hx⟩:=P.hok i hi;obtain⟨o1,ho1⟩:=Pre0.live1 (ids:=ids) hx;refine⟨x.1,o1,ho1,?_⟩;rcases P.st.same i x.1 o1 (P.H.lt _ _ hx) ho1 with h1 | h1 | h1
  .exact .inl h1
  .exact .inr h1
  .have:=P.H.rho_lt hx;omega
 cases b with
 |false=>
  obtain⟨Z3x,h1,h2⟩:=Zk7 Ww;obtain⟨Za,fa⟩:=frz (bt:=false) ids P.H;have sa:=St.frz (K:=K) P.H fa (List.all_eq_true.2 P.hids);obtain⟨Zb,fb⟩:=frz (bt:=false) Z3x sa.hp;have sb:=St.frz (K:=K) sa.hp fb (List.all_eq_true.2 fun i hi=>(P.hok i (h1 i hi)).1);refine⟨Zb,?_⟩;simp only[Bool.false_eq_true,if_false];rw[h2];exact sa.trans P.H sb
 |true=>
  have hb:=hb rfl
  have Zaj4:∀i∈ok,∃Zc o,h.get i=some (Zc,o)/\(h3.get i=some (Zc,o)\/∃g' own xs,o=.row g' own xs/\h3.get i=some (Zc,.row g' false xs)):=by
   intro i hi;obtain⟨Zc,o,h1,h2⟩:=Ww i hi;refine⟨Zc,o,?_,h2⟩;rw[Xr]at h1;split at h1
   .rename_i ver' g own xs hq;rw[if_neg fun hm=>hb i hm hi]at h1;rw[hq];exact h1
   .exact h1
  obtain⟨Z3x,h1,h2⟩:=Zk7 Zaj4;obtain⟨Zb,fb⟩:=frz (bt:=false) Z3x P.H;have sb:=St.frz (K:=K) P.H fb (List.all_eq_true.2 fun i hi=>(P.hok i (h1 i hi)).1);refine⟨Zb,?_⟩;simp only[if_true];rw[h2];exact sb
theorem Pre0.clean (P:Pre0 C K m ρ Z Z1 h vh ok ids nx ρ2 Z3 h3 Ua)(hvg:vhF.get=Ua.get)(hvn:vhF.next=Ua.next)(hvw:vhF.wr=min vh.wr Ua.wr)(Z4g:∀i∈ok,h3.belowAt h.next i=true)
  (hcl:∀i∈ids,i∉ok/\∃Zc g own xs,h.get i=some (Zc,.row g own xs)/\(own=true->Yy g 14 x=true/\∀j∈ok,∀Zc o,h3.get j=some (Zc,o)->Zm4 g o=true)) (hx:R C ρ2 (Zo h3) Z3 x w) (hxb:below h.next 4 x=true):
  ∃ZF,R C ρ2 (Zo (Yg h3 ok h)) ZF x w/\St C K ρ Z h vh ρ2 ZF (Yg h3 ok h) vhF:=by
 classical
 let Z7r:Nat->Prop:=fun Yb=>∃i∈ids,∃Zc g xs,h.get i=some (Zc,.row g true xs)/\Yb=ρ i
 let ZF:Vj:=fun Yb=>if Z7r Yb then none else Z3 Yb
 let G:List Nat:=ids.filterMap fun i=>match h.get i with | some (_,.row g true _)=>some g | _=>none
 have hG:∀g∈G,∃i∈ids,∃Zc xs,h.get i=some (Zc,.row g true xs):=by
  intro g hg;obtain⟨i,hi,e⟩:=List.mem_filterMap.1 hg;split at e
  .rename_i Zc g' xs hq;cases e;exact⟨i,hi,Zc,xs,hq⟩
  .cases e
 have hGm:∀i∈ids,∀Zc g xs,h.get i=some (Zc,.row g true xs)->g∈G:=by
  intro i hi Zc g xs hq;exact List.mem_filterMap.2 ⟨i,hi,by rw[hq]⟩
 have Zaha:∀i Zc g xs,h.get i=some (Zc,.row g true xs)->Z (ρ i)=none:=by
  intro i Zc g xs hq;cases P.H.obj _ _ _ hq with
  |row g xs Wj ty a b=>exact b
 have hB:Ztt G Z3 ZF:=by
  intro Yb s hs;by_cases hl:Z7r Yb
  .obtain ⟨i,hi,Zc,g,xs,hq,rfl⟩:=hl;refine .inr ⟨g,hGm i hi Zc g xs hq,?_⟩;have hfz:=Zl5 (ids:=ids) hi hq;cases P.f.hp.obj _ _ _ hfz with
   |frozen g xs s1 ty a b c d e f=>
    have:=P.st.sig _ _ b;rw[hs]at this;cases this;rcases P.f.new _ _ b with h1 | ⟨_,i',hi',ver',g',xs',hq',e1,e2⟩
    .rw [Zaha i _ _ _ hq]at h1;cases h1
    .have:i=i':=P.H.inj _ _ _ _ hq hq' e1;subst this;rw[hq]at hq';cases hq';exact e2
  .exact .inl (by simp only[ZF,hl,if_false];exact hs)
 have hle:Z.le ZF:=by
  intro Yb s hs;have hl:¬ Z7r Yb:=fun⟨i,hi,Zc,g,xs,hq,e⟩=>by rw[e,Zaha i _ _ _ hq]at hs;cases hs
  simp only[ZF,hl,if_false];exact P.st.sig _ _ (P.f.le _ _ hs)
 have W1:∀i,i∈ok->(Yg h3 ok h).get i=h3.get i:=fun i hi=>by
  obtain⟨_,y,hy⟩:=P.hok i hi;obtain⟨z,hz⟩:=P.live hy;rw[U9,if_pos hi,hz]
 have Zcq:∀i,i∉ok->(Yg h3 ok h).get i=h.get i:=fun i hi=>by rw[U9,if_neg hi]
 have Zy5:∀i,i < h.next->Zo (Yg h3 ok h) i=Zo h3 i:=by
  intro i hi;by_cases hk:i∈ok
  .unfold Zo;rw[W1 i hk]
  .have e1:Zo (Yg h3 ok h) i=Zo h i:=by unfold Zo;rw[Zcq i hk]
   have e2:Zo h3 i=Zo (h.freeze ids) i:=by unfold Zo;rw[P.old hi hk]
   rw[e1,e2,Tl]
 have hE:Rp ρ (Zo h) ρ2 (Zo (Yg h3 ok h)):=by
  intro i c hi;obtain⟨o,ho⟩:=Zu.1 hi;obtain⟨c',h1,h2,h4⟩:=P.ext i c hi;exact⟨c',by rw[Zy5 i (P.H.lt _ _ ho)];exact h1,h2,h4⟩
 have Zge:∀i y,(Yg h3 ok h).get i=some y->i < h.next/\∃z,h3.get i=some z:=by
  intro i y hy;by_cases hk:i∈ok
  .obtain ⟨_,q,hq⟩:=P.hok i hk;exact⟨P.H.lt _ _ hq,y,by rw[<- W1 i hk];exact hy⟩
  .rw [Zcq i hk]at hy;exact⟨P.H.lt _ _ hy,P.live hy⟩
 have Z8w:∀j y,h3.get j=some y->j∈ok->¬ Z7r (ρ2 j):=by
  intro j y hy hj ⟨i,hi,Zc,g,xs,hq,e⟩;have hik:=(hcl i hi).1;obtain⟨z,hz⟩:=P.live hq;rw[<- P.rho hq hik]at e;have:=P.st.hp.inj _ _ _ _ hy hz e;exact hik (this ▸ hj)
 have hp:HP C ρ2 ZF vhF (Yg h3 ok h):=by
  refine⟨fun i y hy=>by rw[Uh];exact (Zge i y hy).1,?_,fun i y hy=>by rw[hvn];exact P.st.hp.vlt i y (by rw[<- hvg];exact hy),?_,?_,?_⟩
  .intro i j y z hy hz e;obtain⟨_,y',hy'⟩:=Zge i y hy;obtain⟨_,z',hz'⟩:=Zge j z hz;exact P.st.hp.inj _ _ _ _ hy' hz' e
  .intro Yb s hs;simp only[ZF]at hs;split at hs
   .cases hs
   .rw [hvg];exact P.st.hp.sig _ _ hs
  .intro j Zc o hj;rw[Uh];by_cases hk:j∈ok
   .rw [W1 j hk]at hj;have hb:=Z4g j hk;simp only[PH.belowAt,hj]at hb;refine (P.st.hp.obj _ _ _ hj).back hb (fun i hi=>Zy5 i hi) hB (fun g hg=>?_) (fun hz=>by simp only[ZF];split<;>first | rfl | exact hz) (fun s hs=>by simp only[ZF,Z8w j _ hj hk,if_false];exact hs) hvg hvn;obtain⟨i,hi,ver',xs,hq⟩:=hG g hg;obtain⟨_,Zb1,g2,Zvc,xs2,hq2,hT⟩:=hcl i hi;rw[hq]at hq2;cases hq2;exact (hT rfl).2 j hk Zc o hj
   .rw [Zcq j hk]at hj;refine P.away hj hk hE hle (fun hz=>?_) hvg (by rw[hvn];exact P.st.vnext);by_cases hl:Z7r (ρ j)
    .simp only [ZF,hl,if_true]
    .simp only [ZF,hl,if_false];exact P.zold hj hk hz fun g xs e hi=>hl ⟨j,hi,Zc,g,xs,by rw[hj,e],rfl⟩
  .rw [hvw,hvn];exact Nat.le_trans (Nat.min_le_right _ _) P.st.hp.wr
 refine⟨ZF,?_,P.marks hvg hvn hvw hp hle (by rw[Uh];exact Nat.le_refl _) W1 (fun i _ hk _=>Zcq i hk) (fun i _ hk _=>.inl (Zcq i hk)) (fun i y hi hy=>absurd (Zge i y hy).1 (by omega))⟩;refine Zae7 hB (n:=14) (fun g hg=>?_) (Zi7 (fun i hi=>Zy5 i hi) 4 hxb hx);obtain⟨i,hi,ver',xs,hq⟩:=hG g hg;obtain⟨_,Zb1,g2,Zvc,xs2,hq2,hT⟩:=hcl i hi;rw[hq]at hq2;cases hq2;exact (hT rfl).1
theorem Pre0.frozen (P:Pre0 C K m ρ Z Z1 h vh ok ids nx ρ2 Z3 h3 Ua)(hvg:vhF.get=Ua.get)(hvn:vhF.next=Ua.next)(hvw:vhF.wr=min vh.wr Ua.wr)(Z4g:∀i∈ok,h3.belowAt h.next i=true)
  (hx:R C ρ2 (Zo h3) Z3 x w) (hxb:below h.next 4 x=true):
  ∃ZF,R C ρ2 (Zo (Yg h3 ok (h.freeze ids))) ZF x w/\St C K ρ Z h vh ρ2 ZF (Yg h3 ok (h.freeze ids)) vhF:=by
 have hle:Z.le Z3:=fun Yb s hs=>P.st.sig _ _ (P.f.le _ _ hs)
 have hB:Ztt [] Z3 Z3:=fun Yb s hs=>.inl hs
 have W1:∀i,i∈ok->(Yg h3 ok (h.freeze ids)).get i=h3.get i:=fun i hi=>by
  obtain⟨_,y,hy⟩:=P.hok i hi;obtain⟨z,hz⟩:=P.live hy;rw[U9,if_pos hi,hz]
 have Zcq:∀i,i∉ok->(Yg h3 ok (h.freeze ids)).get i=(h.freeze ids).get i:=fun i hi=>by rw[U9,if_neg hi]
 have Zy5:∀i,i < h.next->Zo (Yg h3 ok (h.freeze ids)) i=Zo h3 i:=by
  intro i hi;by_cases hk:i∈ok
  .unfold Zo;rw[W1 i hk]
  .unfold Zo;rw[Zcq i hk,P.old hi hk]
 have hE:Rp ρ (Zo h) ρ2 (Zo (Yg h3 ok (h.freeze ids))):=by
  intro i c hi;obtain⟨o,ho⟩:=Zu.1 hi;obtain⟨c',h1,h2,h4⟩:=P.ext i c hi;exact⟨c',by rw[Zy5 i (P.H.lt _ _ ho)];exact h1,h2,h4⟩
 have Uq:∀i y,(h.freeze ids).get i=some y->∃z,h.get i=some z:=by
  intro i y hy;have:Zo (h.freeze ids) i=some y.1:=Zu.2 ⟨y.2,hy⟩;rw[Tl]at this;obtain⟨o,ho⟩:=Zu.1 this;exact⟨_,ho⟩
 have Zge:∀i y,(Yg h3 ok (h.freeze ids)).get i=some y->i < h.next/\h3.get i=some y:=by
  intro i y hy;by_cases hk:i∈ok
  .obtain ⟨_,q,hq⟩:=P.hok i hk;exact⟨P.H.lt _ _ hq,by rw[<- W1 i hk];exact hy⟩
  .rw [Zcq i hk]at hy;obtain⟨z,hz⟩:=Uq i y hy;have hlt:=P.H.lt _ _ hz;exact⟨hlt,by rw[P.old hlt hk];exact hy⟩
 have U7:(Yg h3 ok (h.freeze ids)).next=h.next:=by rw[Uh,freeze_next]
 have hp:HP C ρ2 Z3 vhF (Yg h3 ok (h.freeze ids)):=by
  refine⟨fun i y hy=>by rw[U7];exact (Zge i y hy).1,?_,fun i y hy=>by rw[hvn];exact P.st.hp.vlt i y (by rw[<- hvg];exact hy),?_,?_,?_⟩
  .intro i j y z hy hz e;exact P.st.hp.inj _ _ _ _ (Zge i y hy).2 (Zge j z hz).2 e
  .intro Yb s hs;rw[hvg];exact P.st.hp.sig _ _ hs
  .intro j Zc o hj;rw[U7];have hj3:=(Zge j _ hj).2;have O3:=P.st.hp.obj _ _ _ hj3;by_cases hk:j∈ok
   .have hb:=Z4g j hk;simp only[PH.belowAt,hj3]at hb;exact O3.back hb (fun i hi=>Zy5 i hi) hB (fun g hg=>by simp at hg) id (fun s hs=>hs) hvg hvn
   .rw [Zcq j hk]at hj;obtain⟨z,hz⟩:=Uq j _ hj;by_cases Ug:∃g own xs,o=.row g own xs
    .obtain ⟨g,own,xs,rfl⟩:=Ug;cases O3 with
     |row g xs Wj ty a b c d e=>exact .row g xs Wj ty a b (by rw[hvg];exact c) d e
     |frozen g xs s ty a b c d e f=>exact .frozen g xs s ty a b c d e f
    .have hz':h.get j=some (Zc,o):=by
      rw[Xr,hz]at hj;obtain⟨zv,zo⟩:=z;cases zo with
      |row g own xs=>
       simp only at hj;split at hj<;>cases hj<;>exact absurd ⟨_,_,_,rfl⟩ Ug
      | _=>cases hj;exact hz
     exact P.away hz' hk hE hle (fun hz0=>P.zold hz' hk hz0 fun g xs e _=>Ug ⟨g,true,xs,e⟩) hvg (by rw[hvn];exact P.st.vnext)
  .rw [hvw,hvn];exact Nat.le_trans (Nat.min_le_right _ _) P.st.hp.wr
 refine⟨Z3,Zi7 (fun i hi=>Zy5 i hi) 4 hxb hx,P.marks hvg hvn hvw hp hle (by rw[U7];exact Nat.le_refl _) W1 (fun i _ hk hd=>?_) (fun i _ hk hd=>.inr (Zcq i hk)) (fun i y hi hy=>absurd (Zge i y hy).1 (by omega))⟩;rw[Zcq i hk,Xr];split
 .rename_i Zc g own xs hq;rw[if_neg hd,hq]
 .rfl
theorem Pre0.whole (P:Pre0 C K m ρ Z Z1 h vh ok ids nx ρ2 Z3 h3 Ua)(hvg:vhF.get=Ua.get)(hvn:vhF.next=Ua.next)(hvw:vhF.wr=min vh.wr Ua.wr)(U7:h.next<=nx):St C K ρ Z h vh ρ2 Z3 h3 vhF:=by
 have hp:HP C ρ2 Z3 vhF h3:=P.st.hp.sub rfl (fun i x hx=>P.st.hp.lt i x hx) hvg (by rw[hvn];exact Nat.le_refl _) (by rw[hvw,hvn];exact Nat.le_trans (Nat.min_le_right _ _) P.st.hp.wr);refine P.marks hvg hvn hvw hp (fun Yb s hs=>P.st.sig _ _ (P.f.le _ _ hs)) ?_ (fun _ _=>rfl) (fun i hi hk hd=>?_) (fun i hi hk _=>.inr (P.old hi hk)) (fun _ _ _ h=>h)
 .exact Nat.le_trans U7 P.st.next
 .rw [P.old hi hk,Xr];split
  .rename_i Zc g own xs hq;rw[if_neg hd,hq]
  .rfl
theorem Zye (H:HP C ρ Z vh h)(hK:KOk K m h.next)(hok:∀i∈ok,can K i=true/\∃x,h.get i=some x)(hids:∀i∈ids,can K i=true)(f:Frz C true ρ Z h vh ids Z1)(H1:HP C ρ Z1 {vh with wr:=vh.next} {h.freeze ids with next:=nx})(U7:h.next<=nx)
  (st:St C {base:=h.next,lo:=h.next,ok:=ok} ρ Z1 {h.freeze ids with next:=nx} {vh with wr:=vh.next} ρ2 Z2 h2 Ua) (hx:R C ρ2 (Zo h2) Z2 x w) {r:PV×PH} (he:Xm h h2 ok ids x=some r):
  Zf3 C K ρ Z h vh r.1 r.2 (some (Virt.settle false vh w Ua)):=by
 unfold Xm at he;split at he
 .cases he
 .rename_i x' Z82
  try dsimp only at he
  split at he
  .rename_i Zt;obtain⟨Z3,f3⟩:=frz (bt:=false) (ownT x) st.hp;have st3:=St.frz (K:={base:=h.next,lo:=h.next,ok:=ok}) st.hp f3 Zt;have stt:=st.trans H1 st3;have hx':R C ρ2 (Zo (h2.freeze (ownT x))) Z3 x' w:=Z72 f3.hp (fun i Zc g own xs hm hg=>Zl5 hm hg) Z82 (hx.mono st3.ext st3.sig);have P:Pre0 C K m ρ Z Z1 h vh ok ids nx ρ2 Z3 (h2.freeze (ownT x)) Ua:=⟨H,hK,hok,hids,f,stt⟩
   by_cases Wv:flat 4 w=true/\vh.next<=Ua.wr
   ·
    have Zaz:Virt.settle false vh w Ua=(w,vh):=by
     unfold Virt.settle;rw[if_pos];simp only[Bool.not_false,Bool.true_and,Bool.and_eq_true,Nat.ble_eq];exact Wv
    rw[Zaz];have Uq:=Zoc (C:=C) (ρ:=ρ2) (vf:=Zo (h2.freeze (ownT x))) (Z:=Z3) (ρ':=ρ2) (vf':=fun _=>none) (Z':=Z3) 4 Wv.1 hx';split at he
    .split at he
     .rename_i hb hcl;cases he
      obtain⟨ZF,X2⟩:=P.restored Wv.2 true fun _ i hi=>by
       have:=List.all_eq_true.1 hcl i hi;rw[Bool.and_eq_true,Bool.not_eq_true']at this;intro hk;rw[List.any_eq_false]at this;exact this.1 i hk (by simp)
      exact⟨w,vh,ρ,ZF,rfl,(Zoc 4 Wv.1 hx').1,X2⟩
     .cases he;obtain⟨ZF,X2⟩:=P.restored Wv.2 false (fun e=>by cases e);exact⟨w,vh,ρ,ZF,rfl,(Zoc 4 Wv.1 hx').1,X2⟩
    .split at he
     .rename_i Zcr hev;exfalso;rw[Bool.or_eq_true]at hev;rcases hev with hev | hev
      .rw [Zod 4 x' Uq.2]at hev;cases hev
      .obtain ⟨i,hi,hev⟩:=List.any_eq_true.1 hev;rw[Bool.and_eq_true,Bool.not_eq_true']at hev;obtain⟨_,⟨Zc,o⟩,hxx⟩:=hok i hi;have hlt:=H.lt _ _ hxx;obtain⟨o1,ho1⟩:=Pre0.live1 (ids:=ids) hxx
       have Ss:Wl h.next o1=true:=by
        have h5:=hev.2;simp only[PH.belowAt,hxx]at h5;have ho2:=ho1;rw[Xr,hxx]at ho2;cases o with
        |row g own xs=>
         simp only at ho2;split at ho2<;>cases ho2<;>rfl
        | _=>simp only at ho2;cases ho2;exact h5
       rcases stt.same i Zc o1 hlt ho1 with h1 | ⟨g,own,xs,rfl,h1⟩ | h1
       .have h5:=hev.1;simp only[PH.belowAt,h1,Ss]at h5;cases h5
       .have h5:=hev.1;simp only[PH.belowAt,h1]at h5;cases h5
       .have:=H.rho_lt hxx;omega
     .cases he
   .have Zaz:Virt.settle false vh w Ua=(w,{Ua with wr:=min vh.wr Ua.wr}):=by
     unfold Virt.settle;rw[if_neg];simp only[Bool.not_false,Bool.true_and,Bool.and_eq_true,Nat.ble_eq];exact Wv
    rw[Zaz];split at he
    .rename_i Zcr;rw[Bool.and_eq_true]at Zcr;have Z4g:∀i∈ok,(h2.freeze (ownT x)).belowAt h.next i=true:=fun i hi=>List.all_eq_true.1 Zcr.2 i hi
     split at he
     .rename_i hcl;cases he
      obtain⟨ZF,hR,X2⟩:=P.clean (vhF:={Ua with wr:=min vh.wr Ua.wr}) rfl rfl rfl Z4g (fun i hi=>by
       have h5:=List.all_eq_true.1 hcl i hi;rw[Bool.and_eq_true,Bool.not_eq_true']at h5;refine⟨fun hk=>?_,?_⟩
       .have:=h5.1;rw[List.any_eq_false]at this;exact this i hk (by simp)
       .have h6:=h5.2;split at h6
        .rename_i Zc g xs hq;refine⟨Zc,g,true,xs,hq,fun _=>?_⟩;rw[Bool.and_eq_true]at h6;refine⟨h6.1,fun j hj Zc o ho=>?_⟩;have:=List.all_eq_true.1 h6.2 j hj;rw[ho]at this;exact this
        .rename_i Zc g xs hq;exact⟨Zc,g,false,xs,hq,fun e=>by cases e⟩
        .cases h6) hx' Zcr.1
      exact⟨w,_,ρ2,ZF,rfl,hR,X2⟩
     .cases he;obtain⟨ZF,hR,X2⟩:=P.frozen (vhF:={Ua with wr:=min vh.wr Ua.wr}) rfl rfl rfl Z4g hx' Zcr.1;exact⟨w,_,ρ2,ZF,rfl,hR,X2⟩
    .split at he
     .cases he;exact⟨w,_,ρ2,Z3,rfl,hx',P.whole rfl rfl rfl U7⟩
     .cases he
  .cases he
end
def Zf4 (sl Yw:SL):Prop:=∃e,Yw.map Prod.fst=sl.map Prod.fst++e
theorem Zf4.refl (sl:SL):Zf4 sl sl:=⟨[],by simp⟩
theorem Zf4.trans {a b c:SL}(h:Zf4 a b)(k:Zf4 b c):Zf4 a c:=by
 obtain⟨e,h⟩:=h;obtain⟨f,k⟩:=k;exact⟨e++f,by rw[k,h,List.append_assoc]⟩
theorem Z9y (sl:SL)(d:Nat)(v:Value):Zf4 sl (Zcd sl d v):=by
 induction sl with
 |nil=>exact⟨[d],rfl⟩
 |cons x sl ih=>
  obtain⟨k,u⟩:=x;simp only[Zcd];cases Nat.beq k d with
  |true=>exact⟨[],by simp⟩
  |false=>
   obtain⟨e,he⟩:=ih;exact⟨e,by simp[he]⟩
theorem Zct (sl:SL)(d:Option Nat)(v:Value):Zf4 sl (putV sl d v):=by
 cases d with
 |none=>exact .refl _
 |some d=>exact Z9y sl d v
theorem Zn4 {C:Ctx}{cf yf:Nat->List Value->VH->Option (Value×VH)}{all:List Oper}:∀ {l:List Oper} {sl Yw:SL} {h h':VH},Zh1 C cf yf all l sl h=some (Yw,h')->Zf4 sl Yw
 | [],sl,Yw,h,h',he=>by simp only[Zh1,Option.some.injEq,Prod.mk.injEq]at he;rw[he.1];exact .refl _
 |o::l,sl,Yw,h,h',he=>by
  simp only[Zh1]at he;split at he
  .split at he
   .exact (Zct _ _ _).trans (Zn4 he)
   .cases he
  .exact (Zct _ _ _).trans (Zn4 he)
  .cases he
theorem Z4q {C:Ctx}{cf yf:Nat->List Value->VH->Option (Value×VH)}{B M:Nat}{all:List Oper}{masks:Array Nat}{o:Oper}{i:Nat}{st st':DSt}(he:Zdn C cf yf B M all masks o i st=some st'):Zf4 st.sl st'.sl:=by
 unfold Zdn at he
 try dsimp only at he
 split at he
 .cases he
 .cases he;exact Zct _ _ _
 .split at he
  .cases he;exact Zct _ _ _
  .split at he
   .cases he
   .split at he
    .cases he
    .split at he<;>cases he<;>exact Zct _ _ _
theorem Zq0 {C:Ctx}{cf yf:Nat->List Value->VH->Option (Value×VH)}{B M:Nat}{all:List Oper}{masks:Array Nat}:∀ {l:List Oper} {i:Nat} {st st':DSt},Zcg C cf yf B M all masks l i st=some st'->Zf4 st.sl st'.sl
 | [],i,st,st',he=>by simp only[Zcg,Option.some.injEq]at he;subst he;exact .refl _
 |o::l,i,st,st',he=>by
  simp only[Zcg]at he;split at he
  .rename_i s hs;exact (Z4q hs).trans (Zq0 he)
  .cases he
theorem Z4s {C:Ctx}{cf yf:Nat->List Value->VH->Option (Value×VH)}{ops:Array Oper}{sl Yw:SL}{h h':VH}(he:Zi1 C cf yf ops sl h=some (Yw,h')):Zf4 sl Yw:=by
 unfold Zi1 at he
 try dsimp only at he
 split at he
 .cases he
 .rename_i st hp;have:=Zq0 hp;split at he
  .cases he
  .split at he
   .cases he;exact this
   .cases he
theorem Zqz {sl Yw:SL}(h:Zf4 sl Yw):(Yw.take sl.length).map Prod.fst=sl.map Prod.fst:=by
 obtain⟨e,he⟩:=h;rw[List.map_take,he];simp
theorem Z4r {C:Ctx}:∀(n:Nat) (Xy:Bool) (code:Code) (sl Yw:SL) (h h':VH) (x:Ex),Virt.exec C n Xy code sl h=some (x,Yw,h')->Zf4 sl Yw:=by
 intro n
 induction n with
 |zero=>intro Xy code sl Yw h h' x he;simp[Virt.exec]at he
 |succ n ih=>
  intro Xy code sl Yw h h' x he;cases code with
  |region id ops draw=>
   rw[Virt.exec]at he
   try dsimp only at he
   rw[Option.map_eq_some_iff]at he;obtain⟨⟨a,b⟩,hx,e⟩:=he;simp only[Prod.mk.injEq]at e;obtain⟨_,rfl,_⟩:=e;cases draw with
   |true=>simp only[if_true]at hx;exact Z4s hx
   |false=>simp only[Bool.false_eq_true,if_false]at hx;exact Zn4 hx
  |seq a b=>
   rw[Virt.exec]at he
   try dsimp only at he
   split at he
   .rename_i Q5 h1 hx;exact (ih _ _ _ _ _ _ _ hx).trans (ih _ _ _ _ _ _ _ he)
   .exact ih _ _ _ _ _ _ _ he
  |cond c a b=>
   rw[Virt.exec]at he
   try dsimp only at he
   split at he
   .exact ih _ _ _ _ _ _ _ he
   .exact ih _ _ _ _ _ _ _ he
   .cases he
  |block id b=>
   rw[Virt.exec]at he
   try dsimp only at he
   split at he
   .rename_i id' Q5 h1 hx;have:=ih _ _ _ _ _ _ _ hx;split at he<;>cases he<;>exact this
   .exact ih _ _ _ _ _ _ _ he
  |loop b=>
   rw[Virt.exec]at he
   try dsimp only at he
   split at he
   .rename_i Q5 h1 hx;have h1:=ih _ _ _ _ _ _ _ hx;have h2:=ih _ _ _ _ _ _ _ he;exact Zf4.trans ⟨[],by rw[Zqz h1];simp⟩ h2
   .exact ih _ _ _ _ _ _ _ he
  |rangeFunc f ps as bd=>
   rw[Virt.exec]at he
   try dsimp only at he
   split at he
   .split at he
    .split at he
     .split at he
      .cases he;exact .refl _
      .cases he
     .cases he
    .cases he
   .cases he
  |skip=>simp only[Virt.exec,Option.some.injEq,Prod.mk.injEq]at he;rw[he.2.1];exact .refl _
  |exit id=>simp only[Virt.exec,Option.some.injEq,Prod.mk.injEq]at he;rw[he.2.1];exact .refl _
  |ret=>simp only[Virt.exec,Option.some.injEq,Prod.mk.injEq]at he;rw[he.2.1];exact .refl _
  | _=>simp[Virt.exec]at he
theorem Zyd {sl:SL}{t:Nat}{v:Value}(h:Xg sl t=some v):t∈sl.map Prod.fst:=by
 induction sl with
 |nil=>simp[Xg]at h
 |cons x sl ih=>
  obtain⟨k,u⟩:=x;simp only[Xg]at h;cases e:Nat.beq k t with
  |true=>simp[Nat.eq_of_beq_eq_true e]
  |false=>rw[e]at h;simp[ih h]
theorem slGet_take {sl:SL}{t k:Nat}(h:t∈(sl.take k).map Prod.fst):Xg (sl.take k) t=Xg sl t:=by
 induction sl generalizing k with
 |nil=>simp
 |cons x sl ih=>
  cases k with
  |zero=>simp at h
  |succ k=>
   obtain⟨j,u⟩:=x;simp only[List.take_succ_cons,Xg];cases e:Nat.beq j t with
   |true=>rfl
   |false=>
    simp only[List.take_succ_cons,List.map_cons,List.mem_cons]at h;rcases h with h | h
    .subst h;simp at e
    .exact ih h
section
variable {C:Ctx}{Z Z' Z1:Vj}{ρ ρ':Nat->Nat}{vf vf':Nat->Option Nat}{h h':PH}{vh vh':VH}{K:Loc}{n m:Nat}{Xi Zu6:Yu}{Y4 vsl':SL}
theorem SR.keep (S0:SR C ρ vf Z Xi Y4)(S:SR C ρ' vf' Z' Zu6 vsl')(hg:Zf4 Y4 vsl'):SR C ρ' vf' Z' (Zdq Xi Zu6) (vsl'.take Y4.length):=by
 intro t x hx;unfold Zdq at hx;split at hx
 .rename_i y hy;obtain⟨v0,h0,_⟩:=S0 _ _ hy;obtain⟨v,h1,h2⟩:=S _ _ hx;refine⟨v,?_,h2⟩;rw[slGet_take]
  .exact h1
  .rw [Zqz hg];exact Zyd h0
 .cases hx
def Zxt (C:Ctx)(pex:Loc->Code->Yu->PH->Option (Ex×Yu×PH))(ex:Code->SL->VH->Option (Ex×SL×VH)):Prop:=
 ∀K m code Xi h x Zu6 h',pex K code Xi h=some (x,Zu6,h')->Ue m code=true->∀(ρ:Nat->Nat) (Z:Vj) (vh:VH) (Y4:SL),HP C ρ Z vh h->KOk K m h.next->SR C ρ (Zo h) Z Xi Y4 ->
  ∃vsl' vh' ρ' Z',ex code Y4 vh=some (x,vsl',vh')/\SR C ρ' (Zo h') Z' Zu6 vsl'/\St C K ρ Z h vh ρ' Z' h' vh'
structure COkP (C:Ctx):Prop where
 ext:∀f a v,C.ext f a=some v->a=[]\/(C.raw f=true/\∃b k c,a=[.string b,.int k c])
 extP:∀f a v,C.ext f a=some v->(Yc 0 v).isSome=true
 code:∀f fn c,C.F f=some fn->fn.body=some c->Ue fn.ntmps c=true
theorem Zvp (H:HP C ρ Z vh h){ids:List Nat}(f:Frz C true ρ Z h vh ids Z1){nx:Nat}:∀ {args args':List PV} {Wn:List Value},(∀a∈args,∀i∈ownV a,i∈ids)->Xe (inlV h) args=some args' ->
  Rs C ρ (Zo h) Z args Wn->Rs C ρ (Zo ({h.freeze ids with next:=nx}:PH)) Z1 args' Wn
 | [],args',Wn,_,ha,hr=>by
   simp only[Xe,Option.some.injEq]at ha;subst ha;cases hr;exact .nil
 |a::l,args',Wn,hm,ha,hr=>by
  simp only[Xe]at ha;split at ha
  .rename_i y ys hy hys;cases ha;have hv:Zo ({h.freeze ids with next:=nx}:PH)=Zo (h.freeze ids):=rfl;cases hr with
   |cons h1 r=>
    refine .cons ?_ (Zvp H f (fun a ha=>hm a (by simp[ha])) hys r);rw[hv];have h1':=h1.mono (Rp.refl _ _) f.sig;rw[<- Tl ids h]at h1';exact Zih f.hp (fun i Zc g own xs hi hq=>Zl5 (hm a (by simp) i hi) hq) hy h1'
  .cases ha
theorem Zgi (b:ByteArray):Zi6 (b.data.toList.map UInt8.toNat)=b:=by
 unfold Zi6
 have:(b.data.toList.map UInt8.toNat).map Nat.toUInt8=b.data.toList:=by
  rw[List.map_map]
  conv=>rhs;rw[<- List.map_id b.data.toList]
  refine List.map_congr_left fun x _=>?_
  simp[Function.comp]
 rw[this]
theorem Z5n {ρ:Nat->Nat}{vf:Nat->Option Nat}{Z:Vj}{s:List Nat}{v:Value}(h:R C ρ vf Z (.str s) v):v=.string (Zi6 s):=by
 cases h with
 |d h=>cases h;rw[Zgi]
theorem Zabd {ρ:Nat->Nat}{vf:Nat->Option Nat}{Z:Vj}{x:PV}{b:ByteArray}(h:R C ρ vf Z x (.string b)):∃s,x=.str s/\Zi6 s=b:=by
 cases h with
 |d h=>cases h;exact⟨_,rfl,Zgi b⟩
theorem Z5p {ρ:Nat->Nat}{vf:Nat->Option Nat}{Z:Vj}{k:IntKind}{n:Int}{v:Value}(h:R C ρ vf Z (.int k n) v):v=.int k n:=by
 cases h with
 |d h=>cases h;rfl
theorem Z5o {ρ:Nat->Nat}{vf:Nat->Option Nat}{Z:Vj}{x:PV}{k:IntKind}{n:Int}(h:R C ρ vf Z x (.int k n)):x=.int k n:=by
 cases h with
 |d h=>cases h;rfl
theorem Zfq (hC:COkP C){pex:Loc->Code->Yu->PH->Option (Ex×Yu×PH)}{ex:Code->SL->VH->Option (Ex×SL×VH)}(hex:Zxt C pex ex)(K:Loc)(m:Nat):Zjc C K m (callF C pex) (Virt.callF C ex):=by
 intro f args h r he ρ Z vh Wn H hK Xz;unfold callF at he;unfold Virt.callF;split at he
 .rename_i x hx;cases he;unfold extP at hx;split at hx
  .cases Xz;simp only[Option.bind_eq_some_iff]at hx;obtain⟨w,h1,h2⟩:=hx;rw[h1];exact⟨w,vh,ρ,Z,rfl,.d (Ql 0 w h2),St.refl H⟩
  .split at hx
   .cases Xz with
    |cons r1 r2=>
     cases r2 with
     |cons r2 r3=>
      cases r3;rw[Z5n r1,Z5p r2];simp only[Option.bind_eq_some_iff]at hx;obtain⟨w,h1,h2⟩:=hx;rw[h1];exact⟨w,vh,ρ,Z,rfl,.d (Ql 0 w h2),St.refl H⟩
   .cases hx
  .cases hx
 rename_i Vx
 have Zary:C.ext f Wn=none:=by
  cases e:C.ext f Wn with
  |none=>rfl
  |some w=>
   have hs:=hC.extP f _ w e;rcases hC.ext f _ w e with rfl | ⟨Xk,b,k,c,rfl⟩
   .cases Xz;simp only[extP,e,Option.bind_some]at Vx;rw[Vx]at hs;cases hs
   .cases Xz with
    |cons r1 r2=>
     cases r2 with
     |cons r2 r3=>
      cases r3;obtain⟨s,rfl,hb⟩:=Zabd r1;have h2:=Z5o r2;subst h2;simp only[extP,Xk,if_true,hb,e,Option.bind_some]at Vx;rw[Vx]at hs;cases hs
 rw[Zary]
 try dsimp only
 split at he
 .cases he
 .rename_i fn hF;rw[hF]
  try dsimp only
  split at he
  .cases he
  .rename_i c Zqx;rw[Zqx]
   try dsimp only
   have Ub:=hC.code _ _ _ hF Zqx;split at he
   ·
    rename_i Xk;have H1:HP C ρ Z {vh with wr:=vh.next} {h with next:=h.next+fn.ntmps}:=H.sub rfl (fun i x hx=>Nat.lt_of_lt_of_le (H.lt i x hx) (Nat.le_add_right _ _)) rfl (Nat.le_refl _) (Nat.le_refl _);have Sr:K.lo<=h.next:=by have:=hK.1;have:=hK.2;omega
    have key:∀x Yw h2,pex {base:=h.next,lo:=K.lo,ok:=K.ok} c (Sb 0 args) {h with next:=h.next+fn.ntmps}=some (x,Yw,h2)->(match Us C Yw h2 fn.results.toList with
      |none=>none
      |some vs=>if h2.next=h.next+fn.ntmps/\Zis h2 h.next h2.next=true then some (Wr vs,{h2 with next:=h.next}) else some (Wr vs,h2))=some r ->
      ∃vsl' Ua,ex c (Uc 0 Wn) {vh with wr:=vh.next}=some (x,vsl',Ua)/\Zf3 C K ρ Z h vh r.1 r.2 ((Zhu C vsl' Ua fn.results.toList).map fun vs=>Virt.settle (C.raw f) vh (Zpc vs) Ua):=by
     intro x Yw h2 hp hr;obtain⟨vsl',Ua,ρ2,Z2,e1,S2,st⟩:=hex _ _ _ _ _ _ _ _ hp Ub ρ Z _ (Uc 0 Wn) H1 ⟨Sr,Nat.le_refl _⟩ (Zt6 Xz);refine⟨vsl',Ua,e1,?_⟩;split at hr
     .cases hr
     .rename_i vs Wv;obtain⟨vvs,hv1,hv2⟩:=Zhv st.hp S2 Wv;have Zf0:=Zvh hv2;rw[hv1,Xk]
      have Zaz:Virt.settle true vh (Zpc vvs) Ua=(Zpc vvs,{Ua with wr:=min vh.wr Ua.wr}):=by
       unfold Virt.settle;simp
      simp only[Option.map_some];rw[Zaz]
      have base:∀hF:PH,hF.get=h2.get->h.next<=hF.next->(∀i x,hF.get i=some x->i < hF.next)->St C K ρ Z h vh ρ2 Z2 hF {Ua with wr:=min vh.wr Ua.wr}:=by
       intro hF hg hn hlt;have hvf:Zo hF=Zo h2:=by unfold Zo;rw[hg]
       refine⟨st.hp.sub hg (fun i x hx=>hlt i x (by rw[hg];exact hx)) rfl (Nat.le_refl _) (Nat.le_trans (Nat.min_le_right _ _) st.hp.wr),by rw[hvf];exact st.ext,st.sig,hn,st.vnext,Nat.min_le_left _ _,fun i hi=>by rw[hg];exact st.keep i hi,fun i Zc o Sr ho=>?_,fun i x hx=>st.plc i x (by rw[<- hg];exact hx),fun i x hx hc=>st.vkeep i x hx hc,fun q hq hn hi=>st.vnone q hq hn hi,fun b h1 h2 h3=>Nat.le_min.2 ⟨h2,st.low b h1 h1 h3⟩⟩;rw[hg];rcases st.same i Zc o Sr ho with h5 | h5 | h5
       .exact .inl h5
       .exact .inr (.inl h5)
       .exact .inr (.inr (Nat.le_trans (Nat.min_le_right _ _) h5))
      split at hr
      .rename_i hfr;cases hr
       have hlt:∀i x,h2.get i=some x->i < h.next:=by
        intro i x hx;rcases Nat.lt_or_ge i h.next with h5 | h5
        .exact h5
        .exfalso;have h6:=st.hp.lt i x hx;have h7:=List.all_eq_true.1 hfr.2 (i - h.next) (List.mem_range.2 (by omega));rw[show h.next+(i - h.next)=i by omega,hx]at h7;cases h7
       exact⟨Zpc vvs,_,ρ2,Z2,rfl,Zf0,base _ rfl (Nat.le_refl _) hlt⟩
      .cases hr;exact⟨Zpc vvs,_,ρ2,Z2,rfl,Zf0,base _ rfl (Nat.le_trans (Nat.le_add_right _ _) st.next) st.hp.lt⟩
    split at he
    .rename_i Yw h2 hp;obtain⟨vsl',Ua,e1,e2⟩:=key _ _ _ hp he;rw[e1];exact e2
    .rename_i Yw h2 hp;obtain⟨vsl',Ua,e1,e2⟩:=key _ _ _ hp he;rw[e1];exact e2
    .cases he
   .rename_i Xk
    try dsimp only at he
    split at he
    .cases he
    .rename_i args' Z82;split at he
     .rename_i Zey;rw[Bool.and_eq_true]at Zey;obtain⟨Z1,fz⟩:=frz (bt:=true) (args.flatMap ownV) H;have U7:h.next<=h.next+fn.ntmps:=Nat.le_add_right _ _;have H1:HP C ρ Z1 {vh with wr:=vh.next} {h.freeze (args.flatMap ownV) with next:=h.next+fn.ntmps}:=fz.hp.sub rfl (fun i x hx=>by have:=fz.hp.lt i x hx;rw[freeze_next]at this;exact Nat.lt_of_lt_of_le this U7) rfl (Nat.le_refl _) (Nat.le_refl _);have Zzj:=Zvp (nx:=h.next+fn.ntmps) H fz (fun a ha i hi=>List.mem_flatMap.2 ⟨a,ha,hi⟩) Z82 Xz
      have hok:∀i∈reach h 4 (args'.flatMap (refs 3)),can K i=true/\∃x,h.get i=some x:=fun i hi=>by
       have:=List.all_eq_true.1 Zey.1 i hi;rw[Bool.and_eq_true]at this;exact⟨this.1,Option.isSome_iff_exists.1 this.2⟩
      have hids:∀i∈args.flatMap ownV,can K i=true:=fun i hi=>List.all_eq_true.1 Zey.2 i hi
      have hrw:C.raw f=false:=by simpa using Xk
      have key:∀x Yw h2,pex {base:=h.next,lo:=h.next,ok:=reach h 4 (args'.flatMap (refs 3))} c (Sb 0 args') {h.freeze (args.flatMap ownV) with next:=h.next+fn.ntmps}=some (x,Yw,h2) ->
        (match Us C Yw h2 fn.results.toList with
        |none=>none
        |some vs=>Xm h h2 (reach h 4 (args'.flatMap (refs 3))) (args.flatMap ownV) (Wr vs))=some r ->
        ∃vsl' Ua,ex c (Uc 0 Wn) {vh with wr:=vh.next}=some (x,vsl',Ua)/\Zf3 C K ρ Z h vh r.1 r.2 ((Zhu C vsl' Ua fn.results.toList).map fun vs=>Virt.settle (C.raw f) vh (Zpc vs) Ua):=by
       intro x Yw h2 hp hr;obtain⟨vsl',Ua,ρ2,Z2,e1,S2,st⟩:=hex _ _ _ _ _ _ _ _ hp Ub ρ Z1 _ (Uc 0 Wn) H1 ⟨Nat.le_refl _,Nat.le_refl _⟩ (Zt6 Zzj);refine⟨vsl',Ua,e1,?_⟩;split at hr
       .cases hr
       .rename_i vs Wv;obtain⟨vvs,hv1,hv2⟩:=Zhv st.hp S2 Wv;rw[hv1,hrw];exact Zye H hK hok hids fz H1 U7 st (Zvh hv2) hr
      split at he
      .rename_i Yw h2 hp;obtain⟨vsl',Ua,e1,e2⟩:=key _ _ _ hp he;rw[e1];exact e2
      .rename_i Yw h2 hp;obtain⟨vsl',Ua,e1,e2⟩:=key _ _ _ hp he;rw[e1];exact e2
      .cases he
     .cases he
theorem Z3j {ps:List Nat}:∀ {Xi:Yu} {Y4:SL} {xs:List PV} {vs:List Value},SR C ρ vf Z Xi Y4->Rs C ρ vf Z xs vs->SR C ρ vf Z (Zef Xi (ps.zip xs)) (Zeh Y4 (ps.zip vs)):=by
 induction ps with
 |nil=>intro Xi Y4 xs vs S _;simpa[Zef,Zeh]using S
 |cons p ps ih=>
  intro Xi Y4 xs vs S h;cases h with
  |nil=>simpa[Zef,Zeh]using S
  |cons h r=>simp only[List.zip_cons_cons,Zef,Zeh];exact ih (S.put p h) r
theorem St.wider {K K0:Loc}{Z':Vj}(st:St C K0 ρ Z h vh ρ' Z' h' vh')(Sr:K.lo<=K0.lo)(hc:∀i,can K0 i=true->can K i=true):St C K ρ Z h vh ρ' Z' h' vh':=
 ⟨st.hp,st.ext,st.sig,st.next,st.vnext,st.wr,fun i hi=>st.keep i (by cases e:can K0 i with | false=>rfl | true=>rw[hc i e]at hi;cases hi),fun i Zc o hl=>st.same i Zc o (Nat.lt_of_lt_of_le hl Sr),st.plc,fun i x hx hi=>st.vkeep i x hx (by cases e:can K0 i with | false=>rfl | true=>rw[hc i e]at hi;cases hi),st.vnone,fun b h1 h2 h3=>st.low b h1 h2 fun i x hx hi=>h3 i x hx (hc i hi)⟩
theorem Zjo (H:HP C ρ Z vh h){i Zc:Nat}{ob0 ob:PO}{vo:Option VO}(hi:h.get i=some (Zc,ob0))(Sr:K.lo<=i)(hz:Z (ρ i)=none)
  (ho:∀ρ' vf',Rp ρ (Zo h) ρ' vf'->OR C ρ' vf' Z h.next (vh.put (ρ i) vo) i (ρ i) ob):
  St C K ρ Z h vh (fun j=>if j=i then ρ i else ρ j) Z (h.put i Zc ob) (vh.put (ρ i) vo):=by
 refine HP.change H (.inl rfl) (H.lt _ _ hi) (by unfold can;rw[Bool.or_eq_true,Nat.ble_eq];exact .inl Sr) (fun w o' hw=>?_) (H.rho_lt hi) (.inl ⟨_,hi,rfl⟩) (Nat.le_refl _) (Nat.le_refl _) (fun h1 _=>by omega) (fun q hq _=>?_) (fun _ _=>.inl hz) hz (fun q y hq=>?_) (fun ρ' vf' _ _ he=>ho ρ' vf' he)
 .rw [hi]at hw;cases hw;exact⟨Nat.le_refl _,fun _=>rfl⟩
 .simp [VH.put,Rd hq]
 .by_cases e:q=ρ i
  .subst e;exact H.rho_lt hi
  .simp only [VH.put,Rd e,cond_false]at hq;exact H.vlt _ _ hq
theorem Zmz {i:Nat}:(fun j=>if j=i then ρ i else ρ j)=ρ:=by
 funext j;by_cases e:j=i
 .simp [e]
 .simp [e]
theorem Zx4 {pex:Loc->Code->Yu->PH->Option (Ex×Yu×PH)}{ex:Code->SL->VH->Option (Ex×SL×VH)}(hex:Zxt C pex ex)(K:Loc)(m:Nat):YfSim C K m (Pure.yieldF pex) (Virt.yieldF ex):=by
 intro l Zc args h r he ρ Z vh Wn w H hK Xz hw;unfold Pure.yieldF at he;split at he
 .rename_i w0 K0 Ud ps as bd hl;split at he
  .rename_i hc;obtain⟨rfl,hlen,Sr,hok⟩:=hc
   have hwv:w=.func (.yield (ρ l)) #[] #[]:=by
    cases hw with
    |d h=>cases h
    |yield i Zc c p hi hv ha=>
     rw[Zu.2 ⟨_,hl⟩]at hi;cases hi;rw[ha rfl]
   refine⟨ρ l,hwv,?_⟩;rw[Nat.ble_eq]at Sr;cases H.obj _ _ _ hl with
   |loop K0 n sl Y4 ps as bd hz hg hsl hK0 hb h1 h2=>
    unfold Virt.yieldF;rw[hg]
    try dsimp only
    rw[if_pos (by rw[Xz.length];exact hlen)];have hKl:K.lo<=l:=by omega
    have Zt:∀i,can K0 i=true->can K i=true:=by
     intro i hi;unfold can at hi;rw[Bool.or_eq_true]at hi;rcases hi with hi | hi
     .rw [Nat.ble_eq]at hi;unfold can;rw[Bool.or_eq_true,Nat.ble_eq];exact .inl (by omega)
     .obtain ⟨y,hy,e⟩:=List.any_eq_true.1 hi;rw[Nat.beq_eq]at e;subst e;exact List.all_eq_true.1 hok _ hy
    have st0:=Zjo (K:=K) (ob:=.gone) (vo:=none) H hl hKl hz fun ρ' vf' _=>.gone (H.rho_lt hl) hz
    rw[Zmz]at st0;have hKOk:KOk K0 n h.next:=⟨hK0,by have:=H.lt _ _ hl;omega⟩
    have S0:=Z3j (ps:=ps) (hsl.mono st0.ext st0.sig) (Rs.mono st0.ext st0.sig Xz);split at he
    .rename_i Q5 h1' hx1;obtain⟨Zfs,vh1,ρ1,Z1,a1,a2,a3⟩:=hex _ _ _ _ _ _ _ _ hx1 h1 ρ Z _ _ st0.hp hKOk S0;rw[a1]
     try dsimp only
     split at he
     .rename_i sl2 h2' hx2;obtain⟨vsl2,Ua,ρ2,Z2,b1,b2,b3⟩:=hex _ _ _ _ _ _ _ _ hx2 h2 ρ1 Z1 _ _ a3.hp ⟨hKOk.1,Nat.le_trans hKOk.2 a3.next⟩ a2;rw[b1]
      try dsimp only
      split at he
      .rename_i w2 Z85;split at he
       .rename_i e;subst e;cases he;have st2:St C K ρ Z h vh ρ2 Z2 h2' Ua:=(st0.trans H (a3.wider Sr Zt)).trans H (b3.wider Sr Zt)
        have Zfz:ρ2 l=ρ l:=by
         obtain⟨c',q1,_,q3⟩:=st2.ext l w2 (Zu.2 ⟨_,hl⟩);rw[Zu.2 ⟨_,Z85⟩]at q1;cases q1;exact q3 rfl
        have hz2:Z2 (ρ2 l)=none:=by
         cases st2.hp.obj _ _ _ Z85 with
         |gone q1 q2=>exact q2
        have st3:=Zjo (K:=K) (ob:=.loop K0 Ud ps as bd) (vo:=some (.loop Y4 ps as bd)) st2.hp Z85 hKl hz2 fun ρ' vf' hE=>.loop K0 n Ud Y4 ps as bd hz2 (by simp[VH.put]) ((hsl.mono st2.ext st2.sig).mono hE (Vj.le.refl _)) hK0 hb h1 h2
        rw[Zmz,Zfz]at st3;exact⟨.bool true,_,_,_,rfl,.d (.bool true),st2.trans H st3⟩
       .cases he
      .cases he
     .cases he
    .cases he
  .cases he
 .cases he
def Zjb (C:Ctx)(pcf:CF)(cf:Nat->List Value->VH->Option (Value×VH)):Prop:=
 ∀K f args h v h',pcf K f args h=some (v,h')->C.raw f=false->args.flatMap ownV=[]->args.flatMap (refs 3)=[]->X3 4 v=true ->
  h'=h/\∀(ρ:Nat->Nat) (Z:Vj) (vh:VH) (Wn:List Value),HP C ρ Z vh h->vh.wr=vh.next->Rs C ρ (Zo h) Z args Wn->∃w,cf f Wn vh=some (w,vh)/\R C ρ (Zo h) Z v w
theorem Z3v {h:PH}{a:PV}(ha:ownV a=[]):inlV h a=some a:=by
 have hc:∀cs:List PV,cs.flatMap Sd=[]->Xe (Qw h) cs=some cs:=by
  intro cs
  induction cs with
  |nil=>intro _;rfl
  |cons c cs ih=>
   intro hh;rw[List.flatMap_cons,List.append_eq_nil_iff]at hh;simp only[Xe,ih hh.2];cases c<;>simp_all[Sd,Qw]
 cases a with
 |agg cs=>simp only[inlV];rw[hc cs ha];rfl
 |own=>simp[ownV,Sd]at ha
 | _=>rfl
theorem Zqi {h:PH}:∀ {args:List PV},args.flatMap ownV=[]->Xe (inlV h) args=some args
 | [],_=>rfl
 |a::l,ho=>by
  rw[List.flatMap_cons,List.append_eq_nil_iff]at ho;simp only[Xe,Z3v ho.1,Zqi ho.2]
theorem Z64 (hC:COkP C){pex:Loc->Code->Yu->PH->Option (Ex×Yu×PH)}{ex:Code->SL->VH->Option (Ex×SL×VH)}(hex:Zxt C pex ex):Zjb C (Pure.callF C pex) (Virt.callF C ex):=by
 intro K f args h v h' he Xk ho hr hv
 have key:h'=h/\Pure.callF C pex {base:=h.next,lo:=h.next,ok:=[]} f args h=some (v,h):=by
  unfold Pure.callF at he ⊢;cases hx:extP C f args with
  |some w=>
   rw[hx]at he;cases he;exact⟨rfl,rfl⟩
  |none=>
   rw[hx]at he;simp only at he ⊢;cases hF:C.F f with
   |none=>rw[hF]at he;cases he
   |some fn=>
    rw[hF]at he;simp only at he ⊢;cases hb:fn.body with
    |none=>rw[hb]at he;cases he
    |some c=>
     rw[hb]at he;simp only[Xk,Bool.false_eq_true,if_false,Zqi ho,ho,hr,reach,List.all_nil,Bool.and_true,if_true]at he ⊢
     have Zaz:∀h2 x,Xm h h2 [] [] x=some (v,h')->h'=h:=by
      intro h2 x hs;unfold Xm at hs;split at hs
      .cases hs
      .rename_i v' hi;simp only[List.any_nil,Bool.or_false,List.all_nil,Bool.and_true,Yg,PH.freeze,if_true]at hs;split at hs
       .split at hs
        .simp only [Option.some.injEq,Prod.mk.injEq]at hs;exact hs.2.symm
        .split at hs
         .rename_i hf;simp only[Option.some.injEq,Prod.mk.injEq]at hs;rw[hs.1,Zod 4 v hv]at hf;cases hf
         .cases hs
       .cases hs
     have Zaqw:∀(q:Option (Ex×Yu×PH)),(match q with
       |some (.normal,Yw,h2) | some (.ret,Yw,h2)=>
        (match Us C Yw h2 fn.results.toList with
        |none=>none
        |some vs=>Xm h h2 [] [] (Wr vs))
       | _=>none)=some (v,h')->h'=h:=by
      intro q hq;split at hq
      .split at hq
       .cases hq
       .exact Zaz _ _ hq
      .split at hq
       .cases hq
       .exact Zaz _ _ hq
      .cases hq
     have e:=Zaqw _ he;subst e;exact⟨rfl,he⟩
 obtain⟨rfl,hc⟩:=key;refine⟨rfl,fun ρ Z vh Wn H hw ha=>?_⟩;obtain⟨w,vh1,ρ1,Z1,q1,q2,q3⟩:=Zfq hC hex {base:=h'.next,lo:=h'.next,ok:=[]} 0 f args h' _ hc ρ Z vh Wn H ⟨Nat.le_refl _,Nat.le_refl _⟩ ha;have hfw:flat 4 w=true:=Zabe 4 hv q2
 have hlow:vh.next<=vh1.wr:=q3.low vh.next (Nat.le_refl _) (by rw[hw];exact Nat.le_refl _) fun i x hx Zt=>by
  exfalso;have:=H.lt i x hx;unfold can at Zt;simp only[List.any_nil,Bool.or_false,Nat.ble_eq]at Zt;omega
 have Ww:vh1=vh:=by
  unfold Virt.callF at q1;split at q1
  .rename_i w' _;simp only[Option.some.injEq,Prod.mk.injEq]at q1;exact q1.2.symm
  .split at q1
   .cases q1
   .split at q1
    .cases q1
    .have Zaz:∀(vv:Value) (h2:VH),Virt.settle (C.raw f) vh vv h2=(w,vh1)->vh1=vh:=by
      intro vv h2 hs;unfold Virt.settle at hs;split at hs
      .simp only [Prod.mk.injEq]at hs;exact hs.2.symm
      .rename_i hn;simp only[Prod.mk.injEq]at hs;obtain⟨rfl,rfl⟩:=hs;exfalso;apply hn;simp only[Xk,hfw,Bool.not_false,Bool.true_and,Nat.ble_eq];exact Nat.le_trans hlow (Nat.min_le_right _ _)
     split at q1
     .rw [Option.map_eq_some_iff]at q1;obtain⟨vs,_,hs⟩:=q1;exact Zaz _ _ hs
     .rw [Option.map_eq_some_iff]at q1;obtain⟨vs,_,hs⟩:=q1;exact Zaz _ _ hs
     .cases q1
 subst Ww;exact⟨w,q1,(Zoc 4 hfw q2).1⟩
def Zfb (C:Ctx)(pcf:CF)(cf:Nat->List Value->VH->Option (Value×VH)):Prop:=
 ∀K f args h v h',pcf K f args h=some (v,h')->C.raw f=false->∀args',Xe (inlV h) args=some args'->∀(ρ:Nat->Nat) (Z:Vj) (vh:VH) (Wn:List Value),HP C ρ Z vh h->Rs C ρ (Zo h) Z args Wn ->
  ∀w vh1,cf f Wn vh=some (w,vh1)->∀u,u∉reach h 4 (args'.flatMap (refs 3))++args.flatMap ownV->(∃x,h.get u=some x)->vh1.get (ρ u)=vh.get (ρ u)/\h'.get u=h.get u
theorem Z20 (hC:COkP C){pex:Loc->Code->Yu->PH->Option (Ex×Yu×PH)}{ex:Code->SL->VH->Option (Ex×SL×VH)}(hex:Zxt C pex ex):Zfb C (Pure.callF C pex) (Virt.callF C ex):=by
 intro K f args h v h' he Xk args' hm ρ Z vh Wn H ha w vh1 hw u hu hx
 have key:Pure.callF C pex {base:=h.next,lo:=h.next,ok:=reach h 4 (args'.flatMap (refs 3))++args.flatMap ownV} f args h=some (v,h'):=by
  unfold Pure.callF at he ⊢;cases hx:extP C f args with
  |some w=>rw[hx]at he;exact he
  |none=>
   rw[hx]at he;simp only at he ⊢;cases hF:C.F f with
   |none=>rw[hF]at he;cases he
   |some fn=>
    rw[hF]at he;simp only at he ⊢;cases hb:fn.body with
    |none=>rw[hb]at he;cases he
    |some c=>
     rw[hb]at he;simp only[Xk,Bool.false_eq_true,if_false,hm]at he ⊢;split at he
     .rename_i hok;rw[Bool.and_eq_true,List.all_eq_true,List.all_eq_true]at hok;rw[if_pos]
      .exact he
      .rw [Bool.and_eq_true,List.all_eq_true,List.all_eq_true]
       have hc:∀i,i∈reach h 4 (args'.flatMap (refs 3))++args.flatMap ownV->can {base:=h.next,lo:=h.next,ok:=reach h 4 (args'.flatMap (refs 3))++args.flatMap ownV} i=true:=fun i hi=>by
        unfold can;rw[Bool.or_eq_true];exact .inr (List.any_eq_true.2 ⟨i,hi,Nat.beq_refl i⟩)
       refine⟨fun i hi=>?_,fun i hi=>hc i (List.mem_append_right _ hi)⟩;have:=hok.1 i hi;rw[Bool.and_eq_true]at this ⊢;exact⟨hc i (List.mem_append_left _ hi),this.2⟩
     .cases he
 obtain⟨w',Ua,ρ1,Z1,q1,q2,q3⟩:=Zfq hC hex {base:=h.next,lo:=h.next,ok:=reach h 4 (args'.flatMap (refs 3))++args.flatMap ownV} 0 f args h _ key ρ Z vh Wn H ⟨Nat.le_refl _,Nat.le_refl _⟩ ha;rw[hw]at q1;cases q1;obtain⟨x,hx⟩:=hx
 suffices hcn:can {base:=h.next,lo:=h.next,ok:=reach h 4 (args'.flatMap (refs 3))++args.flatMap ownV} u=false from ⟨q3.vkeep u x hx hcn,q3.keep u hcn⟩
 have hlt:=H.lt u x hx;unfold can;rw[Bool.or_eq_false_iff];constructor
 .rw [<- Bool.not_eq_true,Nat.ble_eq];show ¬ h.next<=u;omega
 .rw [<- Bool.not_eq_true];intro hh;obtain⟨i,hi,hb⟩:=List.any_eq_true.1 hh;rw[Nat.beq_eq]at hb;subst hb;exact hu hi
def Z2w (C:Ctx):Prop:=∀(K:Loc) (n:Nat) (pcf:CF) (pyf:YF) (cf yf:Nat->List Value->VH->Option (Value×VH)),Zjc C K n pcf cf->YfSim C K n pyf yf->Zjb C pcf cf->Zfb C pcf cf->Zbi cf->Zbi yf->∀(ops:Array Oper) (Xi:Yu) (Y4:SL) (h:PH) (vh:VH) (ρ:Nat->Nat) (Z:Vj) (q:Yu×PH),HP C ρ Z vh h ->
 SR C ρ (Zo h) Z Xi Y4->KOk K n h.next->(∀o∈ops.toList,∀d,o.dst=some d->d < n)->Zs4 ops=true->Zcw C pcf pyf K ops Xi h=some q->∃vsl' vh' ρ' Z',Zi1 C cf yf ops Y4 vh=some (vsl',vh')/\SR C ρ' (Zo q.2) Z' q.1 vsl'/\St C K ρ Z h vh ρ' Z' q.2 vh'
theorem Z90 (hC:COkP C)(hD:Z2w C):∀n Xy,Zxt C (fun K=>Pure.exec C n K Xy) (Virt.exec C n Xy):=by
 intro n
 induction n with
 |zero=>intro Xy K m code Xi h x Zu6 h' he;simp[Pure.exec]at he
 |succ n ih=>
  intro Xy K m code Xi h x Zu6 h' he Ub ρ Z vh Y4 H hK S;replace he:Pure.exec C (n+1) K Xy code Xi h=some (x,Zu6,h'):=he;have hcf:=Zfq hC (ih true) K m;have hyf:=Zx4 (ih false) K m;have hi:=ih Xy;cases code with
  |skip=>rw[Pure.exec]at he;cases he;exact⟨Y4,vh,ρ,Z,by rw[Virt.exec],S,St.refl H⟩
  |exit id=>rw[Pure.exec]at he;cases he;exact⟨Y4,vh,ρ,Z,by rw[Virt.exec],S,St.refl H⟩
  |ret=>rw[Pure.exec]at he;cases he;exact⟨Y4,vh,ρ,Z,by rw[Virt.exec],S,St.refl H⟩
  |region id ops draw=>
   rw[Pure.exec]at he
   try dsimp only at he
   rw[Option.map_eq_some_iff]at he;obtain⟨⟨a,b⟩,hx,e⟩:=he;simp only[Prod.mk.injEq]at e;obtain⟨rfl,rfl,rfl⟩:=e
   have hd:∀o∈ops.toList,∀d,o.dst=some d->d < m:=fun o ho d hd=>by
    have:=List.all_eq_true.1 (by simp only[Ue,Bool.and_eq_true]at Ub;exact Ub.1) o ho;simp only[hd]at this;exact Nat.blt_eq ▸ this
   rw[Virt.exec]
   try dsimp only
   cases draw with
   |true=>
    simp only[if_true]at hx ⊢;obtain⟨vsl',vh',ρ',Z',a1,a2,a3⟩:=hD K m _ _ _ _ hcf hyf (Z64 hC (ih true)) (Z20 hC (ih true)) (Vy.callF (Vy.exec n true)) (Vy.yieldF (Vy.exec n false)) ops Xi Y4 h vh ρ Z _ H S hK hd (by simp only[Ue,Bool.and_eq_true,Bool.not_true,Bool.false_or]at Ub;exact Ub.2) hx;exact⟨vsl',vh',ρ',Z',by rw[a1];rfl,a2,a3⟩
   |false=>
    simp only[Bool.false_eq_true,if_false]at hx ⊢;obtain⟨vsl',vh',ρ',Z',a1,a2,a3⟩:=Z68 hcf hyf ops.toList H S hK hd hx;exact⟨vsl',vh',ρ',Z',by rw[a1];rfl,a2,a3⟩
  |seq a b=>
   simp only[Ue,Bool.and_eq_true]at Ub;rw[Pure.exec]at he
   try dsimp only at he
   rw[Virt.exec]
   try dsimp only
   split at he
   .rename_i Q5 h1 hx;obtain⟨Zfs,vh1,ρ1,Z1,a1,a2,a3⟩:=hi _ _ _ _ _ _ _ _ hx Ub.1 ρ Z vh Y4 H hK S;rw[a1]
    try dsimp only
    obtain⟨vsl2,Ua,ρ2,Z2,b1,b2,b3⟩:=hi _ _ _ _ _ _ _ _ he Ub.2 ρ1 Z1 vh1 Zfs a3.hp ⟨hK.1,Nat.le_trans hK.2 a3.next⟩ a2;exact⟨vsl2,Ua,ρ2,Z2,b1,b2,a3.trans H b3⟩
   .rename_i Yi;obtain⟨Zfs,vh1,ρ1,Z1,a1,a2,a3⟩:=hi _ _ _ _ _ _ _ _ he Ub.1 ρ Z vh Y4 H hK S;rw[a1];cases x with
    |normal=>exact absurd he (Yi _ _)
    |exit id=>exact⟨Zfs,vh1,ρ1,Z1,rfl,a2,a3⟩
    |ret=>exact⟨Zfs,vh1,ρ1,Z1,rfl,a2,a3⟩
  |cond c a b=>
   simp only[Ue,Bool.and_eq_true]at Ub;rw[Pure.exec]at he
   try dsimp only at he
   rw[Virt.exec]
   try dsimp only
   split at he
   .rename_i hc;obtain⟨w,h1,h2⟩:=Zj S hc;rw[h1,h2.bool_inv];exact hi _ _ _ _ _ _ _ _ he Ub.1 ρ Z vh Y4 H hK S
   .rename_i hc;obtain⟨w,h1,h2⟩:=Zj S hc;rw[h1,h2.bool_inv];exact hi _ _ _ _ _ _ _ _ he Ub.2 ρ Z vh Y4 H hK S
   .cases he
  |block id b=>
   rw[Pure.exec]at he
   try dsimp only at he
   rw[Virt.exec]
   try dsimp only
   split at he
   .rename_i id' Q5 h1 hx;obtain⟨Zfs,vh1,ρ1,Z1,a1,a2,a3⟩:=hi _ _ _ _ _ _ _ _ hx Ub ρ Z vh Y4 H hK S;rw[a1]
    try dsimp only
    split at he
    .rename_i e;cases he;exact⟨Zfs,vh1,ρ1,Z1,by rw[if_pos e],a2,a3⟩
    .rename_i e;cases he;exact⟨Zfs,vh1,ρ1,Z1,by rw[if_neg e],a2,a3⟩
   .rename_i Yi;obtain⟨Zfs,vh1,ρ1,Z1,a1,a2,a3⟩:=hi _ _ _ _ _ _ _ _ he Ub ρ Z vh Y4 H hK S;rw[a1];cases x with
    |exit id=>exact absurd he (Yi _ _ _)
    |normal=>exact⟨Zfs,vh1,ρ1,Z1,rfl,a2,a3⟩
    |ret=>exact⟨Zfs,vh1,ρ1,Z1,rfl,a2,a3⟩
  |loop b=>
   rw[Pure.exec]at he
   try dsimp only at he
   rw[Virt.exec]
   try dsimp only
   split at he
   .rename_i Q5 h1 hx;obtain⟨Zfs,vh1,ρ1,Z1,a1,a2,a3⟩:=hi _ _ _ _ _ _ _ _ hx Ub ρ Z vh Y4 H hK S;rw[a1]
    try dsimp only
    obtain⟨vsl2,Ua,ρ2,Z2,b1,b2,b3⟩:=hi _ _ _ _ _ _ _ _ he Ub ρ1 Z1 vh1 _ a3.hp ⟨hK.1,Nat.le_trans hK.2 a3.next⟩ (S.keep a2 (Z4r _ _ _ _ _ _ _ _ a1));exact⟨vsl2,Ua,ρ2,Z2,b1,b2,a3.trans H b3⟩
   .rename_i Yi;obtain⟨Zfs,vh1,ρ1,Z1,a1,a2,a3⟩:=hi _ _ _ _ _ _ _ _ he Ub ρ Z vh Y4 H hK S;rw[a1];cases x with
    |normal=>exact absurd he (Yi _ _)
    |exit id=>exact⟨Zfs,vh1,ρ1,Z1,rfl,a2,a3⟩
    |ret=>exact⟨Zfs,vh1,ρ1,Z1,rfl,a2,a3⟩
  |rangeFunc f ps as bd=>
   simp only[Ue,Bool.and_eq_true]at Ub;rw[Pure.exec]at he
   try dsimp only at he
   rw[Virt.exec]
   try dsimp only
   split at he
   .rename_i hr;rw[if_pos hr];split at he
    .rename_i g first captured hf
     obtain⟨w,Vb,Vn⟩:=Zj S hf;cases Vn with
     |d h=>cases h
     |fn g first captured a' c' r1 r2=>
      rw[Vb]
      try dsimp only
      split at he
      .rename_i Xk;split at he
       .rename_i u h2 Zk2;have H1:HP C ρ Z vh {h with next:=h.next+1}:=H.sub rfl (fun i x hx=>Nat.lt_succ_of_lt (H.lt i x hx)) rfl (Nat.le_refl _) H.wr
        have Zky:h.get h.next=none:=by
         cases e:h.get h.next with
         |none=>rfl
         |some y=>exact absurd (H.lt _ _ e) (Nat.lt_irrefl _)
        have hKl:K.lo<=h.next:=by have:=hK.1;have:=hK.2;omega
        have Zt:can K h.next=true:=by unfold can;rw[Bool.or_eq_true,Nat.ble_eq];exact .inl hKl
        have Zahp:∀q,q≠vh.next->(vh.new (.loop Y4 ps.toList as bd)).get q=vh.get q:=fun q hq=>by simp[VH.new,Rd hq]
        have stL:=HP.change (K:=K) (vh':=vh.new (.loop Y4 ps.toList as bd)) (ver':=0) (p:=vh.next) (o:=.loop K Xi ps.toList as bd) H1 (.inl rfl) (i:=h.next) (Nat.lt_succ_self _) Zt (fun Zc o' hh=>by
          have hh':h.get h.next=some (Zc,o'):=hh;rw[Zky]at hh';cases hh') (by simp[VH.new]) (.inr (Nat.le_refl _)) (by simp[VH.new]) (Nat.le_refl _) (fun hlt=>by omega)
         (fun q hq _=>Zahp q hq) (fun y hy=>by
           have hy':h.get h.next=some y:=hy
           rw[Zky]at hy';cases hy') (Q6 H) (fun q y hq=>by
            by_cases e:q=vh.next
            .subst e;simp[VH.new]
            .rw [Zahp q e]at hq;have:=H.vlt _ _ hq;simp only[VH.new];omega) (fun ρ' vf' _ _ hE=>.loop K m Xi Y4 ps.toList as bd (Q6 H) (by simp[VH.new]) (S.mono hE (Vj.le.refl _)) hK.1 hK.2 Ub.1 Ub.2)
        have Z26:St C K ρ Z h vh (fun j=>if j=h.next then vh.next else ρ j) Z ({h.put h.next 0 (.loop K Xi ps.toList as bd) with next:=h.next+1}:PH) (vh.new (.loop Y4 ps.toList as bd)):=
         ⟨stL.hp,stL.ext,stL.sig,Nat.le_succ _,stL.vnext,stL.wr,fun i hi=>stL.keep i hi,fun i Zc o Sr ho=>stL.same i Zc o Sr ho,fun i x hx=>stL.plc i x hx,fun i x hx hc=>stL.vkeep i x hx hc,fun q hq hn hi=>stL.vnone q hq hn hi,fun b h1 h2 h3=>stL.low b h1 h2 h3⟩
        have hyv:R C (fun j=>if j=h.next then vh.next else ρ j) (Zo ({h.put h.next 0 (.loop K Xi ps.toList as bd) with next:=h.next+1}:PH)) Z (.yield h.next 0) (.func (.yield vh.next) #[] #[]):=.yield h.next 0 0 vh.next (by simp[Zo,PH.put]) (Nat.le_refl _) (fun _=>by simp);obtain⟨v,Ua,ρ2,Z2,q1,q2,q3⟩:=hcf g _ _ _ Zk2 _ _ _ (a'.toList++[.func (.yield vh.next) #[] #[]]++c'.toList) Z26.hp ⟨hK.1,Nat.le_succ_of_le hK.2⟩ (((r1.mono Z26.ext Z26.sig).append (.cons hyv .nil)).append (r2.mono Z26.ext Z26.sig));have q1':Virt.callF C (Virt.exec C n true) g (a'.toList++[Value.func (Fn.yield vh.next) #[] #[]]++c'.toList) (vh.new (.loop Y4 ps.toList as bd))=some (v,Ua):=q1;rw[q1']
        try dsimp only
        split at he
        .rename_i K1 Q5 ps1 as1 bd1 hl;cases he;have st2:=Z26.trans H q3
         have Zfz:ρ2 h.next=vh.next:=by
          obtain⟨c1,k1,_,k3⟩:=q3.ext h.next 0 (by simp[Zo,PH.put]);rw[Zu.2 ⟨_,hl⟩]at k1;cases k1;have:=k3 rfl;simpa using this
         cases q3.hp.obj _ _ _ hl with
         |loop K1 n1 Q5 Zfs ps1 as1 bd1 z1 g1 s1 k1 b1 d1 d2=>
          rw[Zfz]at g1 z1;rw[g1]
          try dsimp only
          have st3:=Zjo (K:=K) (ob:=.gone) (vo:=none) q3.hp hl hKl (by rw[Zfz];exact z1) fun ρ' vf' _=>.gone (q3.hp.rho_lt hl) (by rw[Zfz];exact z1)
          rw[Zmz,Zfz]at st3;have st4:=st2.trans H st3;exact⟨Y4,_,ρ2,Z2,rfl,S.mono st4.ext st4.sig,st4⟩
        .cases he
       .cases he
      .cases he
    .cases he
   .cases he
  | _=>simp[Pure.exec]at he
end
section
variable {C:Ctx}{cf yf:Nat->List Value->VH->Option (Value×VH)}{pcf:CF}{pyf:YF}{K K':Loc}{n:Nat}{all:List Oper}{Xi:Yu}{Y4:SL}{h:PH}{vh:VH}{ρ:Nat->Nat}{Z:Vj}{o:Oper}{r:PV×PH}
theorem Zacs {t:TypeId}{a x:Operand}{m:List Nat×Nat}(ho:o.op=.store t a x)(ht:X8 C K Xi h o=some m)(hc:∀i∈m.1,can K' i=true)(he:Zh C pcf pyf all K Xi h o=some r):Zh C pcf pyf all K' Xi h o=some r:=by
 simp only[X8,ho]at ht;simp only[Zh,ho]at he ⊢;split at he
 .rename_i ty i Zc off v h1 h2 h3;rw[h2,h3]at ht;simp only[Option.some.injEq]at ht;subst ht;split at he
  .rename_i hh;rw[if_pos ⟨hh.1,hh.2.1,hc i (by simp)⟩];exact he
  .cases he
 .rename_i ty i Zc g ix off v0 h1 h2 h3;rw[h2,h3]at ht;simp only[Option.some.injEq]at ht;subst ht;split at he
  .cases he
  .rename_i v h4;split at he
   .rename_i hh;rw[if_pos ⟨hh.1,hh.2.1,hh.2.2.1,hc i (by simp),List.all_eq_true.2 fun j hj=>hc j (by simp[hj])⟩];exact he
   .cases he
 .cases he
theorem Zrk {d g:Nat}{ty:Ty}{k:Nat}{ys:List PV}{s:PV}(hb:K'.base=K.base+d)(hc:∀i Zc g' off len,s=.own i Zc g' off len->can K' i=true){q:PV×PH}(he:Xq K h d g ty k ys s=some q):Xq K' h 0 g ty k ys s=some q:=by
 unfold Xq at he ⊢;split at he
 .rw [hb,Nat.add_zero];exact he
 .rename_i i Zc g' off len
  try dsimp only
  split at he
  .rename_i hh;rw[if_pos ⟨hh.1,hh.2.1,hh.2.2.1,hh.2.2.2.1,hc _ _ _ _ _ rfl⟩];exact he
  .cases he
 .cases he
theorem Zaau {c:Call}{d:Nat}{m:List Nat×Nat}(ho:o.op=.call c)(Wt:c.callee=.builtin .append)(hd:o.dst=some d)(ht:X8 C K Xi h o=some m)(hb:K'.base=K.base+d)(hc:∀i∈m.1,can K' i=true){pcf':CF}{pyf':YF}(he:Zh C pcf pyf all K Xi h o=some r):
  ∃Z0h,Zh C pcf' pyf' Z0h K' Xi h {o with dst:=some 0}=some r:=by
 obtain⟨Z0h,hall⟩:∃Z0h,((c.args[0]?).any fun a=>Znf all a d)=(c.args[0]?).any fun a=>Znf Z0h a 0:=by
  cases hq:Z3r all d with
  |true=>
   refine ⟨[⟨none, .build 0 #[(0, .tmp 0)], 0, "", #[], none⟩], ?_⟩;cases c.args[0]? with
   |none=>rfl
   |some a=>
    simp only[Option.any_some];unfold Znf;split
    .rw [hq];simp[Z3r]
    .rfl
  |false=>
   refine⟨[],?_⟩;cases c.args[0]? with
   |none=>rfl
   |some a=>
    simp only[Option.any_some];unfold Znf;split
    .rw [hq];simp[Z3r]
    .rfl
 refine⟨Z0h,?_⟩;simp only[X8,ho,Wt,hd]at ht;simp only[Zh,ho,Wt,hd]at he ⊢;cases hl:c.args.toList with
 |nil=>rw[hl]at ht;cases ht
 |cons x0 rest=>
  rw[hl]at ht he;simp only[Vd]at he ⊢
  try dsimp only at ht
  cases h0:Yx Xi x0 with
  |none=>rw[h0]at ht;cases ht
  |some s=>
   rw[h0]at ht he
   have hs:∀i Zc g' off len,s=.own i Zc g' off len->can K' i=true:=by
    rintro i Zc g' off len rfl;simp only[Option.some.injEq]at ht;subst ht;exact hc i (by simp)
   cases hr:Vd Xi rest with
   |none=>rw[hr]at he;cases he
   |some vs=>
    rw[hr]at he;cases vs with
    |nil=>cases he
    |cons x tail=>
     cases tail with
     |cons _ _=>cases he
     |nil=>
      dsimp only at he ⊢;split at he
      .rename_i ts tx dd e1 e2 e3;cases e3;rw[e1,e2];dsimp only;split at he
       .rename_i e hk
        try rw[hk]
        try dsimp only
        split at he
        .rename_i te V9
         try rw[V9]
         try dsimp only
         split at he
         .rename_i k hki
          try rw[hki]
          try dsimp only
          split at he
          .try dsimp only
           rw[hb,Nat.add_zero];exact he
          .cases he
         .rename_i hnk;split at he
          .split at he
           .rename_i hh
            try rw[if_pos hh]
            exact Zrk hb hs he
           .cases he
          .split at he
           .rename_i ys hys
            try rw[hys]
            split at he
            .rename_i hli
             try dsimp only
             rw[if_pos (hall.symm.trans hli)];exact he
            .rename_i hli
             try dsimp only
             rw[if_neg (fun hq=>hli (hall.trans hq))];exact Zrk hb hs he
           .cases he
        .cases he
       .cases he
      .cases he
theorem Zfr {m:List Nat×Nat}{u b:Nat}(hu:Wm (some m) u=true)(hb:b=m.2):can {base:=b,lo:=b,ok:=m.1} u=false:=by
 unfold Wm at hu;simp only[Bool.and_eq_true,Bool.not_eq_true',Nat.blt_eq]at hu;unfold can;rw[Bool.or_eq_false_iff];constructor
 .rw [<- Bool.not_eq_true,Nat.ble_eq];show ¬ b<=u;omega
 .rw [<- Bool.not_eq_true];intro hh;obtain⟨i,hi,hbq⟩:=List.any_eq_true.1 hh;rw[Nat.beq_eq]at hbq;subst hbq;have:=hu.1;rw[<- Bool.not_eq_true]at this;exact this (List.any_eq_true.2 ⟨u,hi,Nat.beq_refl u⟩)
theorem Z2a {m:List Nat}{b i:Nat}(hi:i∈m):can {base:=b,lo:=b,ok:=m} i=true:=by
 unfold can;rw[Bool.or_eq_true];exact .inr (List.any_eq_true.2 ⟨i,hi,Nat.beq_refl i⟩)
theorem Zml (hts:Zfb C pcf cf)(H:HP C ρ Z vh h)(S:SR C ρ (Zo h) Z Xi Y4)(hn:K.base+n<=h.next)(hd:∀d,o.dst=some d->d < n)(he:Zh C pcf pyf all K Xi h o=some r){w:Value}{vh1:VH}(X7:Xu C cf yf Y4 vh o=some (w,vh1))
  {u:Nat} (hu:Wm (X8 C K Xi h o) u=true) (hx:∃x,h.get u=some x):vh1.get (ρ u)=vh.get (ρ u)/\r.2.get u=h.get u:=by
 obtain⟨x,hx⟩:=hx;cases ht:X8 C K Xi h o with
 |none=>rw[ht]at hu;cases hu
 |some m=>
  rw[ht]at hu;cases ho:o.op with
  |store t a y=>
   have hm2:m.2=h.next:=by
    simp only[X8,ho]at ht;split at ht
    .cases ht;rfl
    .cases ht;rfl
    .cases ht
   obtain⟨v,vh',ρ',Z',q1,q2,q3⟩:=Zp5 (K:={base:=m.2,lo:=m.2,ok:=m.1}) (cf:=cf) (yf:=yf) H S ho (Zacs (K':={base:=m.2,lo:=m.2,ok:=m.1}) ho ht (fun i hi=>Z2a hi) he);rw[X7]at q1;cases q1;exact⟨q3.vkeep u x hx (Zfr hu rfl),q3.keep u (Zfr hu rfl)⟩
  |call c=>
   cases Wt:c.callee with
   |builtin b=>
    cases b with
    |append=>
     cases hdd:o.dst with
     |none=>
      simp only[X8,ho,Wt,hdd]at ht;split at ht
      .rename_i hh;cases hh
      .cases ht
     |some d=>
      have hm2:m.2=K.base+d:=by
       simp only[X8,ho,Wt,hdd]at ht;split at ht
       .rename_i hh;cases hh;split at ht
        .cases ht;rfl
        .cases ht;rfl
        .cases ht
       .cases ht
      have hK1:m.2+1<=h.next:=by
       have h9:=hd d hdd;rw[hm2];exact Nat.le_trans (Nat.add_le_add_left (Nat.succ_le_of_lt h9) K.base) hn
      have hop':Xu C cf yf Y4 vh {o with dst:=some 0}=some (w,vh1):=X7;obtain⟨Z0h,he'⟩:=Zaau (K':={base:=m.2,lo:=m.2,ok:=m.1}) (pcf':=fun _ _ _ _=>none) (pyf':=fun _ _ _ _ _=>none) ho Wt hdd ht hm2 (fun i hi=>Z2a hi) he;obtain⟨v,vh',ρ',Z',q1,q2,q3⟩:=Zw7 (K:={base:=m.2,lo:=m.2,ok:=m.1}) (n:=1) (cf:=cf) (yf:=yf) (pcf:=fun _ _ _ _=>none) (pyf:=fun _ _ _ _ _=>none) (all:=Z0h) (o:={o with dst:=some 0}) (fun _ _ _ _ hh=>by cases hh) (fun _ _ _ _ _ hh=>by cases hh) H S ⟨Nat.le_refl _,hK1⟩ (fun d' hd'=>by cases hd';exact Nat.zero_lt_one) ho he';rw[hop']at q1;cases q1;exact⟨q3.vkeep u x hx (Zfr hu rfl),q3.keep u (Zfr hu rfl)⟩
    | _=>simp only[X8,ho,Wt]at ht;cases ht
   |invoke a b=>simp only[X8,ho,Wt]at ht;cases ht
   |value f=>
    simp only[X8,ho,Wt]at ht;split at ht
    .rename_i g first captured args hf Xz
     split at ht
     .cases ht
     .rename_i Xk;split at ht
      .rename_i args' hm;cases ht;simp only[Zh,ho,Xz,Wt,hf]at he;obtain⟨Wn,R8,Ry⟩:=Sq S Xz;obtain⟨w0,Vb,Vn⟩:=Zj S hf;cases Vn with
       |d h=>cases h
       |fn g a c2 a' c' r1 r2=>
        simp only[Xu,ho,Tc,R8,Wt,Vb]at X7;refine hts K g _ h r.1 r.2 he (by simpa using Xk) args' hm ρ Z vh _ H ((r1.append Ry).append r2) w vh1 X7 u ?_ ⟨x,hx⟩;intro hh;unfold Wm at hu;simp only[Bool.and_eq_true,Bool.not_eq_true']at hu;have:=hu.1;rw[<- Bool.not_eq_true]at this;exact this (List.any_eq_true.2 ⟨u,hh,Nat.beq_refl u⟩)
      .cases ht
    .cases ht
  | _=>simp only[X8,ho]at ht;cases ht
end
end Go.Pure
end
