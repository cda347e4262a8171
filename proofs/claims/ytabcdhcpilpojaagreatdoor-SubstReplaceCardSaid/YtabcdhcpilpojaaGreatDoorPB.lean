/- Rows that are written no more; slices as plain lists. -/
import Derived.Test.YtabcdhcpilpojaaGreatDoorPF
import Derived.Test.YtabcdhcpilpojaaGreatDoorPA
import Derived.Test.YtabcdhcpilpojaaGreatDoorVB
set_option linter.unusedSimpArgs false
set_option linter.unusedVariables false
section
namespace Go.Pure
open Go Go.Virt
section
variable {C:Ctx}{Z Z':Vf}{ρ YB:Nat->Nat}{vf vf':Nat->Option Nat}{h h':PH}{vh vh':VH}{K:Loc}{n:Nat}{Xi:Yt}{Y4:SL}{o:Oper}{x:PV}{all:List Oper}
theorem Tg (ids:List Nat)(h:PH):Zp (h.freeze ids)=Zp h:=by
 funext j;unfold Zp;rw[Xc];split
 .rename_i Zc g own xs hj;rw[hj];split<;>rfl
 .rfl
structure Frz (C:Ctx)(bt:Bool)(ρ:Nat->Nat)(Z:Vf)(h:PH)(vh:VH)(ids:List Nat)(Z':Vf):Prop where
 hp:HP C ρ Z' vh (h.freeze ids)
 le:∀Zy s,Z Zy=some s->Z' Zy=some s
 new:∀Zy s,Z' Zy=some s->Z Zy=some s\/(Z Zy=none/\∃i∈ids,∃Zc g xs,h.get i=some (Zc,.row g true xs)/\Zy=ρ i/\s.tag=if bt then some g else none)
theorem Frz.sig {bt:Bool}{ids:List Nat}(f:Frz C bt ρ Z h vh ids Z'):Z.le Z':=f.le
theorem frz1 (bt:Bool)(H:HP C ρ Z vh h){i Zc g:Nat}{own:Bool}{xs:List PV}(hi:h.get i=some (Zc,.row g own xs)):
  ∃Z',HP C ρ Z' vh (h.put i Zc (.row g false xs))/\(∀Zy s,Z Zy=some s->Z' Zy=some s)/\∀Zy s,Z' Zy=some s->Z Zy=some s\/(Z Zy=none/\own=true/\Zy=ρ i/\s.tag=if bt then some g else none):=by
 have ho:=H.obj _ _ _ hi
 have hvf:Zp (h.put i Zc (.row g false xs))=Zp h:=by
  funext j;unfold Zp PH.put;by_cases e:j=i
  .subst e;simp[hi]
  .simp [e]
 cases own with
 |false=>
  have:h.put i Zc (.row g false xs)=h:=by
   unfold PH.put
   have:(fun j=>if j=i then some (Zc,PO.row g false xs) else h.get j)=h.get:=by
    funext j;by_cases e:j=i
    .subst e;simp[hi]
    .simp [e]
   rw[this]
  rw[this];exact⟨Z,H,fun _ _ h=>h,fun _ _ h=>.inl h⟩
 |true=>
  cases ho with
  |row g xs Wg ty ht hz hg hr hl=>
   let Z1:Vf:=fun q=>if q=ρ i then some ⟨Wg,ty.size,true,if bt then some g else none⟩ else Z q
   have hle:∀Zy s,Z Zy=some s->Z1 Zy=some s:=fun Zy s hs=>by
    have:Zy≠ρ i:=fun e=>by rw[e,hz]at hs;cases hs
    simp[Z1,this,hs]
   have Z3i:Z.le Z1:=hle;refine⟨Z1,⟨?_,?_,H.vlt,?_,?_,H.wr⟩,hle,?_⟩
   .intro j x hj;by_cases e:j=i
    .subst e;exact H.lt _ _ hi
    .simp [PH.put,e]at hj;exact H.lt _ _ hj
   .intro j k x y hj hk e;by_cases e1:j=i<;>by_cases e2:k=i
    .rw [e1,e2]
    .subst e1;simp[PH.put,e2]at hk;exact H.inj _ _ _ _ hi hk e
    .subst e2;simp[PH.put,e1]at hj;exact H.inj _ _ _ _ hj hi e
    .simp [PH.put,e1,e2]at hj hk;exact H.inj _ _ _ _ hj hk e
   .intro Zy s hs;by_cases e:Zy=ρ i
    .simp only [Z1,e,if_true,Option.some.injEq]at hs;subst hs;rw[e];exact hg
    .simp only [Z1,e,if_false]at hs;exact H.sig _ _ hs
   .intro j w ob hj;rw[hvf];by_cases e:j=i
    .subst e;simp only[PH.put,if_true,Option.some.injEq,Prod.mk.injEq]at hj;obtain⟨rfl,rfl⟩:=hj;exact .frozen g xs ⟨Wg,ty.size,true,if bt then some g else none⟩ ty ht (by simp[Z1]) rfl (by cases bt<;>simp) (hr.mono Z3i) hl
    .simp only [PH.put,e,if_false]at hj;have Yp:ρ j≠ρ i:=fun h2=>e (H.inj _ _ _ _ hj hi h2)
     exact (H.obj _ _ _ hj).mono (Rd.refl _ _) Z3i (fun hq=>by simp[Z1,Yp,hq]) (fun _=>rfl) (Nat.le_refl _) (Nat.le_refl _)
   .intro Zy s hs;by_cases e:Zy=ρ i
    .simp only [Z1,e,if_true,Option.some.injEq]at hs;subst hs;rw[e];exact .inr ⟨hz,rfl,rfl,rfl⟩
    .simp only [Z1,e,if_false]at hs;exact .inl hs
theorem frz (bt:Bool):∀(ids:List Nat) {Z:Vf} {h:PH},HP C ρ Z vh h->∃Z',Frz C bt ρ Z h vh ids Z'
 | [],Z,h,H=>⟨Z,H,fun _ _ h=>h,fun _ _ h=>.inl h⟩
 |i::r,Z,h,H=>by
  by_cases hi:∃Zc g own xs,h.get i=some (Zc,.row g own xs)
  .obtain ⟨Zc,g,own,xs,hi⟩:=hi;obtain⟨Z1,H1,l1,n1⟩:=frz1 bt H hi;obtain⟨Z2,f2⟩:=frz bt r H1;refine⟨Z2,by simp only[PH.freeze,hi];exact f2.hp,fun Zy s hs=>f2.le _ _ (l1 _ _ hs),fun Zy s hs=>?_⟩;rcases f2.new _ _ hs with h1 | ⟨h1,j,hj,Zov,g2,xs2,hg,e,ht⟩
   .rcases n1 _ _ h1 with h2 | ⟨h2,h3,h4,h5⟩
    .exact .inl h2
    .subst h3;exact .inr ⟨h2,i,by simp,Zc,g,xs,hi,h4,h5⟩
   .have hji:j≠i:=fun e=>by subst e;simp[PH.put]at hg
    simp only[PH.put,hji,if_false]at hg;refine .inr ⟨?_,j,by simp[hj],Zov,g2,xs2,hg,e,ht⟩;cases hq:Z Zy with
    |none=>rfl
    |some s'=>rw[l1 _ _ hq]at h1;cases h1
  .obtain ⟨Z2,f2⟩:=frz bt r H
   have e:h.freeze (i::r)=h.freeze r:=by
    simp only[PH.freeze];split
    .rename_i Zc g own xs hq;exact absurd ⟨_,_,_,_,hq⟩ hi
    .rfl
   refine⟨Z2,by rw[e];exact f2.hp,f2.le,fun Zy s hs=>?_⟩;rcases f2.new _ _ hs with h1 | ⟨h1,j,hj,q⟩
   .exact .inl h1
   .exact .inr ⟨h1,j,by simp[hj],q⟩
theorem St.frz {ids:List Nat}(H:HP C ρ Z vh h)(f:Frz C false ρ Z h vh ids Z')(hc:ids.all (can K)=true):St C K ρ Z h vh ρ Z' (h.freeze ids) vh where
 hp:=f.hp
 ext:=by rw[Tg];exact Rd.refl _ _
 sig:=f.sig
 next:=by rw[X4];exact Nat.le_refl _
 vnext:=Nat.le_refl _
 wr:=Nat.le_refl _
 keep:=fun i hi=>by
  rw[Xc];split
  .rename_i Zc g own xs hj;rw[if_neg,hj];intro hm;rw[List.all_eq_true.1 hc i hm]at hi;cases hi
  .rfl
 same:=fun i Zc o _ ho=>by
  rw[Xc,ho];cases o with
  |row g own xs=>
   by_cases hm:i∈ids
   .exact .inr (.inl ⟨g,own,xs,rfl,by simp[hm]⟩)
   .exact .inl (by simp[hm])
  | _=>exact .inl rfl
 plc:=fun i x hx=>by
  rw[Xc]at hx;refine .inl ⟨?_,rfl⟩;cases hq:h.get i with
  |none=>rw[hq]at hx;cases hx
  |some y=>exact⟨y,rfl⟩
 vkeep:=fun _ _ _ _=>rfl
 vnone:=fun _ _ h _=>h
 low:=fun _ _ h _=>h
theorem Rw {i Zc g:Nat}{r:Bool×List PV}:h.row i Zc g=some r↔h.get i=some (Zc,.row g r.1 r.2):=by
 unfold PH.row;constructor
 .intro hh;split at hh
  .rename_i v g' own xs hi;split at hh
   .rename_i hc;cases hh;rw[hi,hc.1,hc.2]
   .cases hh
  .cases hh
 .intro hh;rw[hh];simp
theorem Zacl (H:HP C ρ Z vh h){i Zc g off len:Nat}{xs:List PV}{v:Value}(hi:h.get i=some (Zc,.row g false xs))(hl:off+len<=xs.length)(hr:R C ρ (Zp h) Z (.own i Zc g off len) v):RD C Z (.lst g ((xs.drop off).take len)) v:=by
 cases hr with
 |d h=>cases h
 |own i Zc g off len c a cap ty hc hv hp ht ha=>
  rw[Zt.2 ⟨_,hi⟩]at hc;cases hc;cases ha rfl;cases H.obj _ _ _ hi with
  |frozen g xs s ty2 ht2 hs he Z73 hrr S5=>
   rw[ht]at ht2;cases ht2;have hlen:((xs.drop off).take len).length=len:=by simp;omega
   have Uq:=U5 S5
   have h1:X1 (xs.flatMap Zd) (off*ty.size) (len*ty.size)=some (((xs.drop off).take len).flatMap Zd):=by
    unfold X1;rw[if_pos (by rw[Uq,<- Nat.add_mul];exact Nat.mul_le_mul_right _ hl),Zch S5,flat_take fun x hx=>S5 x (List.drop_subset _ _ hx)]
   obtain⟨r',h2,h3⟩:=hrr.read h1;have:=RD.lst g ((xs.drop off).take len) (ρ i) (off*ty.size) cap s r' ty hs he Z73 ht (by rw[hlen];exact h2) h3 (fun x hx=>S5 x (List.drop_subset _ _ (List.take_subset _ _ hx)));rw[hlen]at this;exact this
theorem Zvk {h3:PH}(H3:HP C ρ Z vh h3)(hf:∀i Zc g own xs,i∈Zdi x->h.get i=some (Zc,.row g own xs)->h3.get i=some (Zc,.row g false xs)){v:Value}{y:PV}(hi:Zee h x=some y)(hr:R C ρ (Zp h3) Z x v):R C ρ (Zp h3) Z y v:=by
 cases x with
 |own i Zc g off len=>
  simp only[Zee,Option.map_eq_some_iff]at hi;obtain⟨ys,hys,rfl⟩:=hi;simp only[PH.elems,if_true]at hys;split at hys
  .rename_i own xs V7;split at hys
   .rename_i hl;cases hys;have:=Rw.1 V7;exact .d (Zacl H3 (hf _ _ _ _ _ (by simp[Zdi]) this) hl hr)
   .cases hys
  .cases hys
 | _=>simp only[Zee,Option.some.injEq]at hi;subst hi;exact hr
theorem Zva {f:PV->Option PV}{P:PV->Prop}{cs ys:List PV}{vs:List Value}(hf:∀x∈cs,∀y v,f x=some y->R C ρ vf Z x v->R C ρ vf Z y v)(h:Vi f cs=some ys)(hr:Rs C ρ vf Z cs vs):Rs C ρ vf Z ys vs:=by
 induction cs generalizing ys vs with
 |nil=>simp only[Vi,Option.some.injEq]at h;subst h;exact hr
 |cons c cs ih=>
  simp only[Vi]at h;split at h
  .rename_i y ys' hy hys;cases h;cases hr with | cons h1 r=>exact .cons (hf c (by simp) _ _ hy h1) (ih (fun x hx=>hf x (by simp[hx])) hys r)
  .cases h
theorem Zacm (hx:∀cs,x≠.agg cs):ownV x=Zdi x/\∀h,inlV h x=Zee h x:=by
 cases x<;>first | exact⟨rfl,fun _=>rfl⟩ | exact absurd rfl (hx _)
theorem Zacn (hx:∀cs,x≠.tuple cs):ownT x=ownV x/\∀h,inlT h x=inlV h x:=by
 cases x<;>first | exact⟨rfl,fun _=>rfl⟩ | exact absurd rfl (hx _)
theorem Zh3 {h3:PH}(H3:HP C ρ Z vh h3)(hf:∀i Zc g own xs,i∈ownV x->h.get i=some (Zc,.row g own xs)->h3.get i=some (Zc,.row g false xs)){v:Value}{y:PV}(hi:inlV h x=some y)(hr:R C ρ (Zp h3) Z x v):R C ρ (Zp h3) Z y v:=by
 by_cases hx:∃cs,x=.agg cs
 .obtain ⟨cs,rfl⟩:=hx;simp only[inlV,Option.map_eq_some_iff]at hi;obtain⟨ys,hys,rfl⟩:=hi;obtain⟨cs',rfl,hcs⟩:=hr.agg_inv;refine .agg _ _ (Zva (P:=fun _=>True) (fun c hc y v hy hv=>Zvk H3 (fun i Zc g own xs hm=>hf i Zc g own xs ?_) hy hv) hys hcs);simp only[ownV,List.mem_flatMap];exact⟨c,hc,hm⟩
 .obtain ⟨e1,e2⟩:=Zacm (x:=x) fun cs e=>hx ⟨cs,e⟩
  rw[e2]at hi;rw[e1]at hf;exact Zvk H3 hf hi hr
theorem Z7o {h3:PH}(H3:HP C ρ Z vh h3)(hf:∀i Zc g own xs,i∈ownT x->h.get i=some (Zc,.row g own xs)->h3.get i=some (Zc,.row g false xs)){v:Value}{y:PV}(hi:inlT h x=some y)(hr:R C ρ (Zp h3) Z x v):R C ρ (Zp h3) Z y v:=by
 by_cases hx:∃cs,x=.tuple cs
 .obtain ⟨cs,rfl⟩:=hx;simp only[inlT,Option.map_eq_some_iff]at hi;obtain⟨ys,hys,rfl⟩:=hi;obtain⟨cs',rfl,hcs⟩:=hr.tuple_inv;refine .tuple _ _ (Zva (P:=fun _=>True) (fun c hc y v hy hv=>Zh3 H3 (fun i Zc g own xs hm=>hf i Zc g own xs ?_) hy hv) hys hcs);simp only[ownT,List.mem_flatMap];exact⟨c,hc,hm⟩
 .obtain ⟨e1,e2⟩:=Zacn (x:=x) fun cs e=>hx ⟨cs,e⟩
  rw[e2]at hi;rw[e1]at hf;exact Zh3 H3 hf hi hr
theorem Zlo {ids:List Nat}{i Zc g:Nat}{own:Bool}{xs:List PV}(hm:i∈ids)(hi:h.get i=some (Zc,.row g own xs)):(h.freeze ids).get i=some (Zc,.row g false xs):=by
 rw[Xc,hi];simp[hm]
theorem Zuq (H:HP C ρ Z vh h){g:Nat}{xs:List PV}{Wg:List Value}{ty:Ty}(ht:C.T g=some ty)(hr:RDs C Z (xs.flatMap Zd) Wg)(hl:∀x∈xs,(Zd x).length=ty.size):
  ∃Z',St C K ρ Z h vh ρ Z' h (vh.new (.row Wg ty.size true))/\RD C Z' (.lst g xs) (.slice (some ⟨vh.next,0,none⟩) xs.length xs.length)/\∀q s,Z' q=some s->Z q=some s\/q=vh.next:=by
 have hzn:Z vh.next=none:=by
  cases e:Z vh.next with
  |none=>rfl
  |some s=>exact absurd (H.vlt _ _ (H.sig _ _ e)) (Nat.lt_irrefl _)
 have Zk:∀q,q≠vh.next->(vh.new (.row Wg ty.size true)).get q=vh.get q:=fun q hq=>by simp[VH.new,Sy hq]
 let Z1:Vf:=fun q=>if q=vh.next then some ⟨Wg,ty.size,true,none⟩ else Z q
 have hle:∀Zy s,Z Zy=some s->Z1 Zy=some s:=fun Zy s hs=>by
  have:Zy≠vh.next:=fun e=>by rw[e,hzn]at hs;cases hs
  simp[Z1,this,hs]
 have Z3i:Z.le Z1:=hle;have hlt:∀i x,h.get i=some x->ρ i≠vh.next:=fun i x hi=>by have:=H.rho_lt hi;omega
 refine⟨Z1,⟨⟨H.lt,H.inj,?_,?_,?_,?_⟩,Rd.refl _ _,Z3i,Nat.le_refl _,by simp[VH.new],Nat.le_refl _,fun _ _=>rfl,fun _ _ _ _ h=>.inl h,fun i x hx=>.inl ⟨⟨x,hx⟩,rfl⟩,fun i x hx _=>Zk _ (hlt i x hx),fun q hq hn _=>by rw[Zk q (by omega)];exact hn,fun _ _ h2 _=>h2⟩,?_,?_⟩
 .intro q y hq;by_cases e:q=vh.next
  .subst e;simp[VH.new]
  .rw [Zk q e]at hq;have:=H.vlt _ _ hq;simp only[VH.new];omega
 .intro q s hq;by_cases e:q=vh.next
  .simp only [Z1,e,if_true,Option.some.injEq]at hq;subst hq;rw[e];simp[VH.new]
  .simp only [Z1,e,if_false]at hq;rw[Zk q e];exact H.sig _ _ hq
 .intro i Zc ob hi;exact (H.obj _ _ _ hi).mono (Rd.refl _ _) Z3i (fun hq=>by simp[Z1,hlt i _ hi,hq]) (fun _=>Zk _ (hlt i _ hi)) (Nat.le_refl _) (by simp[VH.new])
 .have:=H.wr;simp only[VH.new];omega
 .refine .lst g xs vh.next 0 xs.length ⟨Wg,ty.size,true,none⟩ Wg ty (by simp[Z1]) rfl (.inl rfl) ht ?_ (hr.mono Z3i) hl;have Uq:=U5 hl;rw[Tc];have hvl:Wg.length=xs.length*ty.size:=by rw[hr.length];exact Uq
  refine⟨?_,.inl (by simp[hvl])⟩;simp[<- hvl]
 .intro q s hq;by_cases e:q=vh.next
  .exact .inr e
  .simp only [Z1,e,if_false]at hq;exact .inl hq
end
section
variable {C:Ctx}{Z Z':Vf}{ρ YB:Nat->Nat}{vf vf':Nat->Option Nat}{h h':PH}{vh vh':VH}{K:Loc}{n:Nat}{Xi:Yt}{Y4:SL}{o:Oper}{x:PV}{all:List Oper}
theorem Zmf (H:HP C ρ Z vh h){i Zc g:Nat}{own:Bool}{xs:List PV}(hi:h.get i=some (Zc,.row g own xs)):
  ∃ty Wg b,C.T g=some ty/\vh.get (ρ i)=some (.row Wg ty.size b)/\RDs C Z (xs.flatMap Zd) Wg/\(∀x∈xs,(Zd x).length=ty.size)/\(own=true->b=true/\Z (ρ i)=none):=by
 cases H.obj _ _ _ hi with
 |row g xs Wg ty ht hz hg hr hl=>exact⟨ty,Wg,true,ht,hg,hr,hl,fun _=>⟨rfl,hz⟩⟩
 |frozen g xs s ty ht hs he Z73 hr hl=>exact⟨ty,s.cells,s.own,ht,by rw[H.sig _ _ hs,he],hr,hl,fun e=>by cases e⟩
theorem R.own_inv {i Zc g off len:Nat}{v:Value}{ob:PO}(hr:R C ρ (Zp h) Z (.own i Zc g off len) v)(hi:h.get i=some (Zc,ob)):∃ty cap,C.T g=some ty/\v=.slice (some ⟨ρ i,off*ty.size,none⟩) len cap:=by
 cases hr with
 |d h=>cases h
 |own i Zc g off len c a cap ty hc hv hp ht ha=>
  rw[Zt.2 ⟨_,hi⟩]at hc;cases hc;cases ha rfl;exact⟨ty,cap,ht,rfl⟩
theorem R.ptr_inv {i Zc off:Nat}{v:Value}{ob:PO}(hr:R C ρ (Zp h) Z (.ptr i Zc off) v)(hi:h.get i=some (Zc,ob)):v=.pointer (some ⟨ρ i,off,none⟩):=by
 cases hr with
 |d h=>cases h
 |ptr i Zc off c a hc hv hp ha=>
  rw[Zt.2 ⟨_,hi⟩]at hc;cases hc;cases ha rfl;rfl
theorem R.eptr_inv {i Zc g ix off:Nat}{v:Value}{ob:PO}(hr:R C ρ (Zp h) Z (.eptr i Zc g ix off) v)(hi:h.get i=some (Zc,ob)):∃ty,C.T g=some ty/\v=.pointer (some ⟨ρ i,ix*ty.size+off,none⟩):=by
 cases hr with
 |d h=>cases h
 |eptr i Zc g ix off c a ty hc hv hp ht ha=>
  rw[Zt.2 ⟨_,hi⟩]at hc;cases hc;cases ha rfl;exact⟨ty,ht,rfl⟩
theorem R.map_inv {i Zc:Nat}{v:Value}{ob:PO}(hr:R C ρ (Zp h) Z (.map i Zc) v)(hi:h.get i=some (Zc,ob)):v=.map (some (ρ i)):=by
 cases hr with
 |d h=>cases h
 |map i Zc c w hc hv ha=>
  rw[Zt.2 ⟨_,hi⟩]at hc;cases hc;rw[ha rfl]
theorem Zqo (H:HP C ρ Z vh h){g:Nat}{ty:Ty}(hT:C.T g=some ty){v:Value}(hr:R C ρ (Zp h) Z x v){ys:List PV}(he:h.elems g x=some ys):
  Zro v=some ys.length/\∃Wg,vh.elems ty.size v=some Wg/\RDs C Z (ys.flatMap Zd) Wg/\∀y∈ys,(Zd y).length=ty.size:=by
 cases x with
 |nils=>
  simp only[PH.elems,Option.some.injEq]at he;subst he;rw[hr.nils_inv];exact⟨rfl,[],rfl,.nil,fun y hy=>by simp at hy⟩
 |lst g' xs=>
  simp only[PH.elems]at he;split at he
  .rename_i e;cases he;subst e;cases hr.lst_inv with
   |lst g xs Zy o cap s Wg ty2 hs he2 ht Rn hrr hx hl=>
    rw[hT]at Rn;cases Rn;refine⟨rfl,Wg,?_,hx,hl⟩;simp only[VH.elems,VH.load,H.sig _ _ hs,Option.isSome_none,Bool.false_eq_true,if_false,hrr]
  .cases he
 |own i Zc g' off len=>
  simp only[PH.elems]at he;split at he
  .rename_i e;subst e;split at he
   .rename_i own xs V7;split at he
    .rename_i hl;cases he;have hi:=Rw.1 V7;obtain⟨ty1,cap,h1,rfl⟩:=hr.own_inv hi;obtain⟨ty2,Wg,b,h2,hg,hrr,S5,_⟩:=Zmf H hi;rw[hT]at h1 h2;cases h1;cases h2;have hlen:((xs.drop off).take len).length=len:=by simp;omega
     have Uq:=U5 S5
     have h1:X1 (xs.flatMap Zd) (off*ty.size) (len*ty.size)=some (((xs.drop off).take len).flatMap Zd):=by
      unfold X1;rw[if_pos (by rw[Uq,<- Nat.add_mul];exact Nat.mul_le_mul_right _ hl),Zch S5,flat_take fun x hx=>S5 x (List.drop_subset _ _ hx)]
     obtain⟨r',h2,h3⟩:=hrr.read h1;refine⟨by rw[hlen];rfl,r',?_,h3,fun y hy=>S5 y (List.drop_subset _ _ (List.take_subset _ _ hy))⟩;simp only[VH.elems,VH.load,hg,Option.isSome_none,Bool.false_eq_true,if_false,h2]
    .cases he
   .cases he
  .cases he
 | _=>simp[PH.elems]at he
theorem Zhk (H:HP C ρ Z vh h){i Zc:Nat}{ob0 ob:PO}{vo:VO}(hi:h.get i=some (Zc,ob0))(hc:can K i=true)(hz:Z (ρ i)=none)
  (ho:∀YB vf',Rd ρ (Zp h) YB vf'->OR C YB vf' Z h.next ((vh.put (ρ i) (some vo)).note (ρ i)) i (ρ i) ob):
  St C K ρ Z h vh (fun j=>if j=i then ρ i else ρ j) Z (h.put i Zc ob) ((vh.put (ρ i) (some vo)).note (ρ i)):=by
 refine HP.change H (.inr ⟨rfl,_,hi⟩) (H.lt _ _ hi) hc (fun w o' hw=>?_) (H.rho_lt hi) (.inl ⟨_,hi,rfl⟩) (Nat.le_refl _) (Nat.min_le_left _ _) (fun _ _=>Nat.min_le_right _ _) (fun q hq _=>?_) (fun _ _=>.inl hz) hz (fun q y hq=>?_) (fun YB vf' _ _ he=>ho YB vf' he)
 .rw [hi]at hw;cases hw;exact⟨Nat.le_refl _,fun _=>rfl⟩
 .simp [VH.note,VH.put,Sy hq]
 .by_cases e:q=ρ i
  .subst e;exact H.rho_lt hi
  .simp only [VH.note,VH.put,Sy e,cond_false]at hq;exact H.vlt _ _ hq
theorem Zrh {p:Nat}{vo:VO}:((vh.put p (some vo)).note p).get p=some vo:=by simp[VH.note,VH.put]
def Zz1 (C:Ctx)(ρ:Nat->Nat)(Z:Vf)(h:PH)(vh:VH)(x:PV)(h':PH)(r:Option (Value×VH)):Prop:=h'=h/\∃v,r=some (v,vh)/\R C ρ (Zp h) Z x v
theorem Zz1.up {x:PV}{h':PH}{r:Option (Value×VH)}(H:HP C ρ Z vh h)(s:Zz1 C ρ Z h vh x h' r):Zfm C K ρ Z h vh x h' r:=by
 obtain⟨rfl,v,h1,h2⟩:=s;exact⟨v,vh,ρ,Z,h1,h2,St.refl H⟩
theorem Zmy {t:TypeId}{y:Operand}{cf yf:Nat->List Value->VH->Option (Value×VH)}{pcf:CF}{pyf:YF}(H:HP C ρ Z vh h)(S:SR C ρ (Zp h) Z Xi Y4)(ho:o.op=.load t y){r:PV×PH}(he:Zh C pcf pyf all K Xi h o=some r):
  Zz1 C ρ Z h vh r.1 r.2 (Xn C cf yf Y4 vh o):=by
 simp only[Zh,ho]at he;split at he
 .rename_i ty i Zc off ht hy;obtain⟨w,W4,Vj⟩:=Zj S hy;split at he
  .rename_i v cs hi;split at he
   .rename_i e;subst e;rw[Option.map_eq_some_iff]at he;obtain⟨z,hz,rfl⟩:=he;rw[Option.bind_eq_some_iff]at hz;obtain⟨q,hq,hz⟩:=hz;have hw:=Vj.ptr_inv hi;subst hw;cases H.obj _ _ _ hi with
    |cells cs Wg e2 hzz hg hr=>
     obtain⟨q',h1,h2⟩:=hr.read hq;obtain⟨z',h3,h4⟩:=Zha h2 hz;refine⟨rfl,z',?_,h4⟩;simp only[Xn,ho,ht,W4,Option.isSome_none,Bool.false_eq_true,if_false,VH.load,hg,h1,Option.bind_some,h3,Option.map_some]
   .cases he
  .cases he
 .rename_i ty i Zc g ix off ht hy;obtain⟨w,W4,Vj⟩:=Zj S hy;split at he
  .rename_i own xs V7;have hi:=Rw.1 V7;split at he
   .rename_i el hel;rw[Option.map_eq_some_iff]at he;obtain⟨z,hz,rfl⟩:=he;rw[Option.bind_eq_some_iff]at hz;obtain⟨q,hq,hz⟩:=hz;obtain⟨ty1,h1,rfl⟩:=Vj.eptr_inv hi;obtain⟨ty2,Wg,b,h2,hg,hrr,S5,_⟩:=Zmf H hi;rw[h1]at h2;cases h2;obtain⟨hlt,hx⟩:=List.getElem?_eq_some_iff.1 hel;have hxl:(Zd el).length=ty1.size:=S5 el (by rw[<- hx];exact List.getElem_mem hlt);have hle:ix*ty1.size+ty1.size<=xs.length*ty1.size:=by rw[<- Nat.succ_mul];exact Nat.mul_le_mul_right _ hlt
    have h3:X1 (xs.flatMap Zd) (ix*ty1.size) ty1.size=some (Zd el):=by
     unfold X1;rw[if_pos (by rw[U5 S5];exact hle),Znv S5 hel]
    obtain⟨r1,h4,h5⟩:=hrr.read h3;obtain⟨r2,h6,h7⟩:=h5.read hq;obtain⟨z',h8,h9⟩:=Zg9 h7 hz
    have Zyu:off+ty.size<=ty1.size:=by
     unfold X1 at hq;split at hq
     .rename_i hq2;rw[hxl]at hq2;exact hq2
     .cases hq
    refine⟨rfl,z',?_,.d h9⟩;simp only[Xn,ho,ht,W4,Option.isSome_none,Bool.false_eq_true,if_false,VH.load,hg,R4 h4 h6 Zyu,Option.bind_some,h8,Option.map_some]
   .cases he
  .cases he
 .cases he
theorem Zxp {cs:List PV}{off:Nat}{vs cs2:List PV}:∀ {cs' Qk:List Value},RDs C Z cs cs'->RDs C Z vs Qk->Yn cs off vs=some cs2->∃Zn5,We cs' off Qk=some Zn5/\RDs C Z cs2 Zn5:=by
 induction cs generalizing off vs cs2 with
 |nil=>
  intro cs' Qk h1 h2 h;cases vs with
  |nil=>simp only[Yn,Option.some.injEq]at h;subst h;cases h2;cases h1;exact⟨[],rfl,.nil⟩
  |cons v vs=>simp[Yn]at h
 |cons c cs ih=>
  intro cs' Qk h1 h2 h;cases vs with
  |nil=>
   have:Yn (c::cs) off []=some (c::cs):=by cases off<;>rfl
   rw[this]at h;cases h;cases h2;exact⟨cs',by cases cs'<;>cases off<;>rfl,h1⟩
  |cons v vs=>
   cases h1 with
   |cons g r=>
    cases h2 with
    |cons g2 r2=>
     cases off with
     |zero=>
      simp only[Yn,Option.map_eq_some_iff]at h;obtain⟨w,hw,rfl⟩:=h;obtain⟨w',h3,h4⟩:=ih r r2 hw;exact⟨_,by simp only[We,h3,Option.map_some],.cons g2 h4⟩
     |succ i=>
      simp only[Yn,Option.map_eq_some_iff]at h;obtain⟨w,hw,rfl⟩:=h;obtain⟨w',h3,h4⟩:=ih r (.cons g2 r2) hw;exact⟨_,by simp only[We,h3,Option.map_some],.cons g h4⟩
theorem Ztm {xs:List PV}{sz:Nat}(hl:∀x∈xs,(Zd x).length=sz){i off:Nat}{x:PV}(hx:xs[i]?=some x){vs ys:List PV}(hw:Yn (Zd x) off vs=some ys):
  Yn (xs.flatMap Zd) (i*sz+off) vs=some ((xs.take i).flatMap Zd++ys++(xs.drop (i+1)).flatMap Zd):=by
 have e1:∀(l:List PV) (k:Nat),Yn l k []=some l:=fun l k=>by cases l<;>cases k<;>rfl
 have wapp:∀(a b vs:List PV) (o:Nat),Yn (a++b) (a.length+o) vs=(Yn b o vs).map (a++·):=by
  intro a
  induction a with
  |nil=>intro b vs o;simp
  |cons c a ih2=>
   intro b vs o;cases vs with
   |nil=>rw[e1,e1];rfl
   |cons v vs=>
    have:(c::a).length+o=(a.length+o)+1:=by simp;omega
    rw[this];simp only[List.cons_append,Yn,ih2,Option.map_map];rfl
 have Zaod:∀(a b vs ys:List PV) (o:Nat),Yn a o vs=some ys->Yn (a++b) o vs=some (ys++b):=by
  intro a
  induction a with
  |nil=>
   intro b vs ys o h;cases vs with
   |nil=>simp only[Yn,Option.some.injEq]at h;subst h;rw[e1]
   |cons v vs=>simp[Yn]at h
  |cons c a ih2=>
   intro b vs ys o h;cases vs with
   |nil=>rw[e1]at h;cases h;rw[e1]
   |cons v vs=>
    cases o with
    |zero=>
     simp only[Yn,Option.map_eq_some_iff]at h;obtain⟨w,hw,rfl⟩:=h;simp only[List.cons_append,Yn,ih2 b _ _ _ hw,Option.map_some]
    |succ o=>
     simp only[Yn,Option.map_eq_some_iff]at h;obtain⟨w,hw,rfl⟩:=h;simp only[List.cons_append,Yn,ih2 b _ _ _ hw,Option.map_some]
 obtain⟨hi,e⟩:=List.getElem?_eq_some_iff.1 hx
 have Zaji:xs.flatMap Zd=(xs.take i).flatMap Zd++(Zd x++(xs.drop (i+1)).flatMap Zd):=by
  conv=>lhs;rw[<- List.take_append_drop i xs]
  rw[List.flatMap_append,List.drop_eq_getElem_cons hi,e,List.flatMap_cons]
 have hlen:((xs.take i).flatMap Zd).length=i*sz:=by
  rw[U5 fun y hy=>hl y (List.take_subset _ _ hy),List.length_take,Nat.min_eq_left (Nat.le_of_lt hi)]
 rw[Zaji,<- hlen,wapp,Zaod _ _ _ _ _ hw];simp
theorem Zfs {x y:PV}{off:Nat}{vs:List PV}(h:Ss x off vs=some y)(hc:vs.all Wv=true):Yn (Zd x) off vs=some (Zd y):=by
 unfold Ss at h;split at h
 .rw [Option.map_eq_some_iff]at h;obtain⟨q,hq,rfl⟩:=h;exact hq
 .rename_i Yp;split at h
  .rename_i v;cases h;have h1:Zd x=[x]:=by cases x<;>first | rfl | exact absurd rfl (Yp _)
   simp only[List.all_cons,List.all_nil,Bool.and_true]at hc;have h2:Zd y=[y]:=by cases y<;>first | rfl | simp[Wv]at hc
   rw[h1,h2];rfl
  .cases h
theorem Zpj {t:TypeId}{y z:Operand}{cf yf:Nat->List Value->VH->Option (Value×VH)}{pcf:CF}{pyf:YF}(H:HP C ρ Z vh h)(S:SR C ρ (Zp h) Z Xi Y4)(ho:o.op=.store t y z){r:PV×PH}(he:Zh C pcf pyf all K Xi h o=some r):
  Zfm C K ρ Z h vh r.1 r.2 (Xn C cf yf Y4 vh o):=by
 simp only[Zh,ho]at he;split at he
 .rename_i ty i Zc off v ht hy hv;obtain⟨w,W4,Vj⟩:=Zj S hy;obtain⟨u,hu1,hu2⟩:=Zj S hv;split at he
  .rename_i hc;split at he
   .rename_i ver' cs hi;split at he
    .rename_i e;subst e;rw[Option.map_eq_some_iff]at he;obtain⟨cs2,hcs2,rfl⟩:=he;have hw:=Vj.ptr_inv hi;subst hw;cases H.obj _ _ _ hi with
     |cells cs Wg e2 hzz hg hr=>
      obtain⟨Zn5,h1,h2⟩:=Zf6 hr hu2.cells hcs2;have hsz:u.cells.size=ty.size:=by rw[<- Array.length_toList,hu2.cells.length];exact hc.1
      have Xr:=Zhk (K:=K) (ob:=.cells cs2) (vo:=.row Zn5 e2 true) H hi hc.2.2 hzz fun YB vf' he=>.cells cs2 Zn5 e2 hzz Zrh (h2.mono he (Vf.le.refl _))
      refine⟨.tuple #[],_,_,_,?_,.tuple _ _ .nil,Xr⟩;simp only[Xn,ho,ht,W4,hu1,Option.isSome_none,Bool.false_eq_true,if_false,hsz,if_true,VH.store,hg];rw[if_pos (by rw[hu2.cells.cell hc.2.1];rfl),h1];rfl
    .cases he
   .cases he
  .cases he
 .rename_i ty i Zc g ix off v0 ht hy hv;obtain⟨w,W4,Vj⟩:=Zj S hy;obtain⟨u,hu1,hu2⟩:=Zj S hv;split at he
  .cases he
  .rename_i v Z8k;split at he
   .rename_i hc;split at he
    .rename_i xs V7;have hi:=Rw.1 V7;split at he
     .rename_i el hel;rw[Option.map_eq_some_iff]at he;obtain⟨el2,hel2,rfl⟩:=he;obtain⟨Z1,f⟩:=frz (bt:=false) (ownV v0) H;have Z74:=St.frz (K:=K) H f hc.2.2.2.2;have hu3:R C ρ (Zp (h.freeze (ownV v0))) Z1 v u:=Zh3 f.hp (fun i Zc g own xs hm hg=>Zlo hm hg) Z8k (hu2.mono Z74.ext Z74.sig);have hw3:=Vj.mono Z74.ext Z74.sig;obtain⟨ty1,h1,rfl⟩:=hw3.eptr_inv hi;obtain⟨ty2,Wg,b,h2,hg,hrr,S5,Z3m⟩:=Zmf f.hp hi;rw[h1]at h2;cases h2;obtain⟨rfl,hzz⟩:=Z3m rfl
      have hpl:RDs C Z1 (Zd v) u.cells.toList:=by
       have hrs:=hu3.cells;have hpl:=hc.2.2.1;clear hrs
       have key:∀ {l:List PV} {l':List Value},l.all (plain 3)=true->Rs C ρ (Zp (h.freeze (ownV v0))) Z1 l l'->RDs C Z1 l l':=by
        intro l
        induction l with
        |nil=>intro l' _ h;cases h;exact .nil
        |cons c cs ih=>
         intro l' ha h;simp only[List.all_cons,Bool.and_eq_true]at ha;cases h with | cons h r=>exact .cons (Z0l (m:=0) ha.1 h) (ih ha.2 r)
       exact key hpl hu3.cells
      have hwr:=Ztm S5 hel (Zfs hel2 hc.2.1);obtain⟨hlt,hx⟩:=List.getElem?_eq_some_iff.1 hel
      have Tm:(xs.take ix).flatMap Zd++Zd el2++(xs.drop (ix+1)).flatMap Zd=(xs.set ix el2).flatMap Zd:=by
       rw[List.set_eq_take_append_cons_drop,if_pos hlt,List.flatMap_append,List.flatMap_cons];simp
      rw[Tm]at hwr;obtain⟨Zn5,h3,h4⟩:=Zxp hrr hpl hwr
      have Zarh:(Zd el2).length=ty1.size:=by
       have:=(Zly (Zfs hel2 hc.2.1)).1;rw[this];exact S5 el (by rw[<- hx];exact List.getElem_mem hlt)
      have hst2:=Zhk (K:=K) (ob:=.row g true (xs.set ix el2)) (vo:=.row Zn5 ty1.size true) f.hp hi hc.2.2.2.1 hzz fun YB vf' he=>.row g _ Zn5 ty1 h1 hzz Zrh h4 (Z0e S5 Zarh)
      have hsz:u.cells.size=ty.size:=by rw[<- Array.length_toList,hu3.cells.length];exact hc.1
      refine⟨.tuple #[],_,_,_,?_,.tuple _ _ .nil,Z74.trans H hst2⟩;simp only[Xn,ho,ht,W4,hu1,Option.isSome_none,Bool.false_eq_true,if_false,hsz,if_true,VH.store,hg];rw[if_pos (by rw[hu3.cells.cell hc.2.1];rfl),h3];rfl
     .cases he
    .cases he
   .cases he
 .cases he
end
section
variable {C:Ctx}{Z Z':Vf}{ρ YB:Nat->Nat}{vf vf':Nat->Option Nat}{h h':PH}{vh vh':VH}{K:Loc}{n:Nat}{Xi:Yt}{Y4:SL}{o:Oper}{x:PV}{all:List Oper}
 {cf yf:Nat->List Value->VH->Option (Value×VH)} {pcf:CF} {pyf:YF} {r:PV×PH}
theorem Zoc:∀ {ys:List PV} {Wg:List Value} {s:List Nat},RDs C Z ys Wg->Zh.bytesP ys=some s->∃b,Zc4 Wg=some b/\s=b.data.toList.map UInt8.toNat
 | [],Wg,s,hr,h=>by
   simp only[Zh.bytesP,Option.some.injEq]at h;subst h;cases hr;exact⟨_,rfl,rfl⟩
 | .int .u8 m::ys,Wg,s,hr,h=>by
   simp only[Zh.bytesP,Option.map_eq_some_iff]at h;obtain⟨q,hq,rfl⟩:=h;cases hr with
   |cons g r=>
    cases g;obtain⟨b,h1,rfl⟩:=Zoc r hq;refine⟨⟨(UInt8.ofNat m.toNat::b.data.toList).toArray⟩,by simp only[Zc4,h1,Option.map_some],?_⟩;simp
 | .int .i8 _::_,_,_,_,h | .int .i16 _::_,_,_,_,h | .int .i32 _::_,_,_,_,h | .int .i64 _::_,_,_,_,h | .int .u16 _::_,_,_,_,h | .int .u32 _::_,_,_,_,h | .int .u64 _::_,_,_,_,h=>by simp[Zh.bytesP]at h
 | .bool _::_,_,_,_,h | .str _::_,_,_,_,h | .nilp::_,_,_,_,h | .nils::_,_,_,_,h | .nilm::_,_,_,_,h | .nilf::_,_,_,_,h | .nili::_,_,_,_,h | .lst _ _::_,_,_,_,h | .own _ _ _ _ _::_,_,_,_,h
 | .ptr _ _ _::_,_,_,_,h | .eptr _ _ _ _ _::_,_,_,_,h | .rptr _::_,_,_,_,h | .map _ _::_,_,_,_,h | .fn _ _ _::_,_,_,_,h | .yield _ _::_,_,_,_,h | .iface _ _::_,_,_,_,h | .agg _::_,_,_,_,h | .tuple _::_,_,_,_,h=>by simp[Zh.bytesP]at h
theorem Zz9 (b:ByteArray):RDs C Z ((b.data.toList.map UInt8.toNat).map fun (b:Nat)=>PV.int .u8 (b:Int)) (b.data.toList.map fun b=>Value.int .u8 b.toNat):=by
 induction b.data.toList with
 |nil=>exact .nil
 |cons x l ih=>exact .cons (.int _ _) ih
theorem Zt4 (l:List Nat):(l.map fun (b:Nat)=>PV.int .u8 (b:Int)).flatMap Zd=l.map fun (b:Nat)=>PV.int .u8 (b:Int):=by
 induction l with
 |nil=>rfl
 |cons x l ih=>simp[Zd,ih]
theorem Z0a (l:List Nat):∀x∈l.map (fun (b:Nat)=>PV.int .u8 (b:Int)),(Zd x).length=1:=by
 intro x hx;obtain⟨a,_,rfl⟩:=List.mem_map.1 hx;rfl
theorem Ze3 {i Zc g len cap:Nat}{ob:PO}{ty:Ty}(ht:C.T g=some ty)(p:Nat):R C (fun j=>if j=i then p else ρ j) (Zp (h.put i Zc ob)) Z (.own i Zc g 0 len) (.slice (some ⟨p,0,none⟩) len cap):=
 .own i Zc g 0 len Zc ⟨p,0,none⟩ cap ty Zhr (Nat.le_refl _) rfl ht fun _=>by simp
theorem Zkt {g:Nat}{v:Value}{ys:List PV}(hr:R C ρ vf Z x v)(he:h.elems g x=some ys):∃a l c,v=.slice a l c:=by
 cases x with
 |nils=>rw[hr.nils_inv];exact⟨_,_,_,rfl⟩
 |lst g' xs=>cases hr.lst_inv;exact⟨_,_,_,rfl⟩
 |own i Zc g' off len=>cases hr with
  |d h=>cases h
  |own=>exact⟨_,_,_,rfl⟩
 | _=>simp[PH.elems]at he
theorem Zwl {src dst:TypeId}{y:Operand}(H:HP C ρ Z vh h)(S:SR C ρ (Zp h) Z Xi Y4)(hK:KOk K n h.next)(hd:∀d,o.dst=some d->d < n)(ho:o.op=.convert src dst y)(he:Zh C pcf pyf all K Xi h o=some r):
  Zfm C K ρ Z h vh r.1 r.2 (Xn C cf yf Y4 vh o):=by
 simp only[Zh,ho]at he;split at he
 .rename_i ts td v hs htd hv;obtain⟨w,W4,Vj⟩:=Zj S hv;split at he
  .rename_i e s hk1 hk2;split at he
   .rename_i te d Vw Rb;split at he
    .rename_i hk3;split at he
     .rename_i hc;cases he;obtain⟨b,rfl,rfl⟩:=Vj.str_inv
      have Xr:=Zb2 (K:=K) (vo:=.row (b.data.toList.map fun b=>.int .u8 b.toNat) 1 true) H hK (hd d Rb) (ob:=.row e true ((b.data.toList.map UInt8.toNat).map fun (b:Nat)=>.int .u8 (b:Int))) fun YB vf' _=>
       .row e _ (b.data.toList.map fun b=>.int .u8 b.toNat) te Vw (by
        cases e:Z vh.next with
        |none=>rfl
        |some s=>exact absurd (H.vlt _ _ (H.sig _ _ e)) (Nat.lt_irrefl _)) (by rw[hc.2];simp[VH.new]) (by rw[Zt4];exact Zz9 b) (by rw[hc.2];exact Z0a _)
      refine⟨.slice (some ⟨vh.next,0,none⟩) b.size b.size,_,_,_,?_,by rw[T6];exact Ze3 Vw _,Xr⟩;simp only[Xn,ho,hs,htd,W4,hk1,hk2,Vw,hk3];rw[if_pos (by rw[T6];exact hc.1)]
     .cases he
    .cases he
   .cases he
  .rename_i e v hk1 hk2;split at he
   .rename_i te Vw;split at he
    .rename_i hk3;split at he
     .rename_i hsz;rw[Option.map_eq_some_iff]at he;obtain⟨q,hq,rfl⟩:=he;rw[Option.bind_eq_some_iff]at hq;obtain⟨ys,hys,hq⟩:=hq;obtain⟨hl,Wg,h1,h2,h3⟩:=Zqo H Vw Vj hys
      have Zei:ys.flatMap Zd=ys:=by
       have:∀ {ys:List PV} {q:List Nat},Zh.bytesP ys=some q->ys.flatMap Zd=ys:=by
        intro ys
        induction ys with
        |nil=>intros;rfl
        |cons y ys ih=>
         intro q hq;cases y with
         |int k m=>
          cases k<;>simp[Zh.bytesP]at hq;obtain⟨q',hq',_⟩:=hq;simp[Zd,ih hq']
         | _=>simp[Zh.bytesP]at hq
       exact this hq
      rw[Zei]at h2;obtain⟨b,h4,rfl⟩:=Zoc h2 hq;rw[hsz]at h1;refine⟨.string b,vh,ρ,Z,?_,.d (.str b),St.refl H⟩;have hv':=Zkt Vj hys;obtain⟨a,l,c,rfl⟩:=hv';simp only[Xn,ho,hs,htd,W4,hk1,hk2,Vw,hk3,hsz,if_true,h1,Option.bind_some,h4,Option.map_some]
     .cases he
    .cases he
   .cases he
  .cases he
 .cases he
theorem Z1r {t:TypeId}{y:Operand}{lo hi:Option Operand}(H:HP C ρ Z vh h)(S:SR C ρ (Zp h) Z Xi Y4)(ho:o.op=.slice t y lo hi none)(he:Zh C pcf pyf all K Xi h o=some r):
  Zz1 C ρ Z h vh r.1 r.2 (Xn C cf yf Y4 vh o):=by
 simp only[Zh,ho]at he;split at he
 .rename_i ty i Zc g off len ht hy;obtain⟨w,W4,Vj⟩:=Zj S hy;split at he
  .rename_i l u Sh hhi;obtain⟨l',hl1,hl2⟩:=Zhl S Sh;obtain⟨u',hu1,hu2⟩:=Zhl S hhi;split at he
   .rename_i e hk;split at he
    .rename_i te p q rw_ Vw hb V7;split at he
     .rename_i hge;cases he;subst hge;have hi':=Rw.1 V7;obtain⟨ty1,cap,h1,rfl⟩:=Vj.own_inv hi';obtain⟨ty2,Wg,b,h2,hg,_⟩:=Zmf H hi';rw[Vw]at h1 h2;cases h1;cases h2;have hb':=Zbm hl2 hu2 hb;refine⟨rfl,_,?_,.own i Zc e (off+p) (q - p) Zc ⟨ρ i,off*te.size+p*te.size,none⟩ (q - p) te (Zt.2 ⟨_,hi'⟩) (Nat.le_refl _) rfl Vw (fun _=>by rw[Nat.add_mul])⟩;rw[Ze4 ho ht W4 hl1 hu1];simp only[Zmb,hk,hb',Vw,hg,if_true]
     .cases he
    .cases he
   .cases he
  .cases he
 .cases he
theorem Zfw {t:TypeId}{y z:Operand}(H:HP C ρ Z vh h)(S:SR C ρ (Zp h) Z Xi Y4)(ho:o.op=.indexAddr t y z)(he:Zh C pcf pyf all K Xi h o=some r):
  Zz1 C ρ Z h vh r.1 r.2 (Xn C cf yf Y4 vh o):=by
 simp only[Zh,ho]at he;split at he
 .rename_i ty b Zc g off len k i ht hy hz;obtain⟨w,W4,Vj⟩:=Zj S hy;obtain⟨u,hu1,hu2⟩:=Zj S hz;rw[hu2.int_inv]at hu1;split at he
  .rename_i e hk;split at he
   .rename_i te own xs Vw V7;split at he
    .rename_i hc;cases he;obtain⟨rfl,h0,hlt,hle⟩:=hc;have hi':=Rw.1 V7;obtain⟨ty1,cap,h1,rfl⟩:=Vj.own_inv hi';rw[Vw]at h1;cases h1;refine⟨rfl,_,?_,.eptr b Zc e (off+i.toNat) 0 Zc ⟨ρ b,off*te.size+i.toNat*te.size,none⟩ te (Zt.2 ⟨_,hi'⟩) (Nat.le_refl _) rfl Vw (fun _=>by rw[Nat.add_mul];rfl)⟩;simp only[Xn,ho,ht,W4,hu1,hk,Vw];rw[if_pos ⟨h0,hlt⟩];rfl
    .cases he
   .cases he
  .cases he
 .cases he
theorem Zmx {t:TypeId}{y z:Operand}{ok:Bool}(H:HP C ρ Z vh h)(S:SR C ρ (Zp h) Z Xi Y4)(ho:o.op=.lookup t y z ok)(he:Zh C pcf pyf all K Xi h o=some r):
  Zz1 C ρ Z h vh r.1 r.2 (Xn C cf yf Y4 vh o):=by
 simp only[Zh,ho]at he;split at he
 .rename_i ty i Zc k ht hy hz;obtain⟨w,W4,Vj⟩:=Zj S hy;obtain⟨u,hu1,hu2⟩:=Zj S hz;split at he
  .rename_i kt et hk;split at he
   .rename_i kty ety hkt het;split at he
    .rename_i Si;split at he
     .rename_i ver' es hi;split at he
      .rename_i e;subst e;have hw:=Vj.map_inv hi;subst hw;cases H.obj _ _ _ hi with
       |map es ves hzz hg hr=>
        split at he
        .rename_i v hf;cases he;obtain⟨v',h1,h2⟩:=Zkh hr hu2 hf;cases h2 with
         |some h2=>
          rename_i v';refine⟨rfl,if ok then .tuple #[v',.bool true] else v',?_,?_⟩
          .simp only [Xn,ho,ht,W4,hu1,hk,hkt,het];rw[if_pos (Zh1 hu2 Si)];simp only[hg,h1]
          .cases ok with
           |true=>exact .tuple _ _ (.cons h2 (.cons (.d (.bool _)) .nil))
           |false=>exact h2
        .rename_i hf;rw[Option.map_eq_some_iff]at he;obtain⟨zv,hzv,rfl⟩:=he;obtain⟨v',h1,h2⟩:=Zkh hr hu2 hf;cases h2;obtain⟨zv',h3,h4⟩:=Zpd (Z:=Z) hzv;refine⟨rfl,if ok then .tuple #[zv',.bool false] else zv',?_,?_⟩
         .simp only [Xn,ho,ht,W4,hu1,hk,hkt,het];rw[if_pos (Zh1 hu2 Si)];simp only[hg,h1,h3,Option.map_some]
         .cases ok with
          |true=>exact .tuple _ _ (.cons (.d h4) (.cons (.d (.bool _)) .nil))
          |false=>exact .d h4
        .cases he
      .cases he
     .cases he
    .cases he
   .cases he
  .cases he
 .cases he
theorem Zfu {t:TypeId}{m k y:Operand}(H:HP C ρ Z vh h)(S:SR C ρ (Zp h) Z Xi Y4)(ho:o.op=.mapUpdate t m k y\/o.op=.insert t m k y)(he:Zh C pcf pyf all K Xi h o=some r):
  Zfm C K ρ Z h vh r.1 r.2 (Xn C cf yf Y4 vh o):=by
 have he':(match C.T t,Yx Xi m,Yx Xi k,Yx Xi y with
  |some ty,some (.map i Zc),some kv,some v=>
   match ty.k with
   | .map kt _=>match C.T kt,h.get i with
     |some kty,some (w,.map es)=>if w=Zc/\Zrp kty.k kv=true/\can K i=true then (Rx es kv v).map fun es=>(PV.tuple [],h.put i Zc (.map es)) else none
     | _,_=>none
   | _=>none
  | _,_,_,_=>none)=some r:=by
  rcases ho with ho | ho<;>simp only[Zh,ho]at he<;>exact he
 clear he;split at he'
 .rename_i ty i Zc kv v ht hm hk hy;obtain⟨w,W4,Vj⟩:=Zj S hm;obtain⟨u,hu1,hu2⟩:=Zj S hk;obtain⟨z,hz1,hz2⟩:=Zj S hy;split at he'
  .rename_i kt et hkk;split at he'
   .rename_i kty ver' es hkt hi;split at he'
    .rename_i hc;obtain⟨rfl,Si,Zu⟩:=hc;rw[Option.map_eq_some_iff]at he';obtain⟨es2,hes2,rfl⟩:=he';have hw:=Vj.map_inv hi;subst hw;cases H.obj _ _ _ hi with
     |map es ves hzz hg hr=>
      obtain⟨Z9q,h1,h2⟩:=Zyi hr hu2 hz2 hes2;have Xr:=Zhk (K:=K) (ob:=.map es2) (vo:=.map Z9q) H hi Zu hzz fun YB vf' he=>.map es2 Z9q hzz Zrh (h2.mono he (Vf.le.refl _))
      refine⟨.tuple #[],_,_,_,?_,.tuple _ _ .nil,Xr⟩;rcases ho with ho | ho<;>simp only[Xn,ho,ht,W4,hu1,hz1,hkk,hkt,hg]<;>rw[if_pos (Zh1 hu2 Si),h1]<;>rfl
    .cases he'
   .cases he'
  .cases he'
 .cases he'
end
section
variable {C:Ctx}{Z Z':Vf}{ρ YB:Nat->Nat}{vf vf':Nat->Option Nat}{h h':PH}{vh vh':VH}{K:Loc}{n:Nat}{Xi:Yt}{Y4:SL}{o:Oper}{x:PV}{all:List Oper}
 {cf yf:Nat->List Value->VH->Option (Value×VH)} {pcf:CF} {pyf:YF} {r:PV×PH}
theorem Qs (H:HP C ρ Z vh h):Z vh.next=none:=by
 cases e:Z vh.next with
 |none=>rfl
 |some s=>exact absurd (H.vlt _ _ (H.sig _ _ e)) (Nat.lt_irrefl _)
theorem Zkz (H:HP C ρ Z vh h)(hK:KOk K n h.next){d g:Nat}(hd:d < n){ty:Ty}(ht:C.T g=some ty){m:Nat}{ys:List PV}{s:PV}{s' x':Value}{ycs:List Value}(hs:R C ρ (Zp h) Z s s')(hm:Zro x'=some m)(hml:ys.length=m)
  (hx:vh.elems ty.size x'=some ycs) (hy:RDs C Z (ys.flatMap Zd) ycs) (hyl:∀y∈ys,(Zd y).length=ty.size) (he:Xk K h d g ty m ys s=some r):Zfm C K ρ Z h vh r.1 r.2 (Us vh ty s' x'):=by
 cases s with
 |nils=>
  rw[hs.nils_inv];have hn0:vh.elems ty.size (.slice none 0 0)=some []:=rfl;simp only[Xk]at he;split at he
  .rename_i hc;split at he
   .rename_i h0;cases he;refine⟨.slice none 0 0,vh,ρ,Z,?_,.d .nils,St.refl H⟩;unfold Us;simp only[hm,hx,hn0];rw[if_pos ⟨by omega,hc.2⟩,if_pos h0]
   .rename_i h0;cases he;have Xr:=Zb2 (K:=K) (vo:=.row ycs ty.size true) H hK hd (ob:=.row g true ys) fun YB vf' _=>.row g ys ycs ty ht (Qs H) (by simp[VH.new]) hy hyl
    refine⟨.slice (some ⟨vh.next,0,none⟩) m m,_,_,_,?_,Ze3 ht _,Xr⟩;unfold Us;simp only[hm,hx,hn0];rw[if_pos ⟨by omega,hc.2⟩,if_neg h0]
  .cases he
 |own i Zc g' off len=>
  simp only[Xk]at he;split at he
  .rename_i hc;obtain⟨hc1,hc2,hc3,rfl,Zu⟩:=hc;split at he
   .rename_i xs V7;split at he
    .rename_i hl;cases he;have hi:=Rw.1 V7;obtain⟨ty1,cap,h1,rfl⟩:=hs.own_inv hi;obtain⟨ty2,Wg,b,h2,hg,hrr,S5,Z3m⟩:=Zmf H hi;rw[ht]at h1 h2;cases h1;cases h2;obtain⟨rfl,hzz⟩:=Z3m rfl;have Uq:=U5 S5
     have h1:X1 (xs.flatMap Zd) (off*ty.size) (len*ty.size)=some (((xs.drop off).take len).flatMap Zd):=by
      unfold X1;rw[if_pos (by rw[Uq,<- Nat.add_mul];exact Nat.mul_le_mul_right _ hl),Zch S5,flat_take fun x hx=>S5 x (List.drop_subset _ _ hx)]
     obtain⟨r',h2,h3⟩:=hrr.read h1
     have hel:vh.elems ty.size (.slice (some ⟨ρ i,off*ty.size,none⟩) len cap)=some r':=by
      simp only[VH.elems,VH.load,hg,Option.isSome_none,Bool.false_eq_true,if_false,h2]
     have hlt:=H.rho_lt hi
     have Xr:St C K ρ Z h vh (fun j=>if j=i then vh.next else ρ j) Z (h.put i (Zc+1) (.row g' true ((xs.drop off).take len++ys))) (((vh.put (ρ i) none).note (ρ i)).new (.row (r'++ycs) ty.size true)):=by
      refine HP.change H (.inr ⟨rfl,_,hi⟩) (H.lt _ _ hi) Zu (fun w o' hw=>?_) (by simp[VH.new,VH.note,VH.put]) (.inr (Nat.le_refl _)) (by simp[VH.new,VH.note,VH.put]) (Nat.min_le_left _ _) (fun _ _=>Nat.min_le_right _ _)
       (fun q hq1 hq2=>?_) (fun _ _=>.inl hzz) (Qs H) (fun q y hq=>?_) (fun YB vf' _ _ Ur=>?_)
      .rw [hi]at hw;cases hw;exact⟨by omega,fun e=>by omega⟩
      .have:=hq2 ⟨_,hi⟩;simp[VH.new,VH.note,VH.put,Sy hq1,Sy this]
      .by_cases e:q=vh.next
       .subst e;simp[VH.new,VH.note,VH.put]
       .simp only [VH.new,VH.note,VH.put,Sy e,cond_false]at hq ⊢;cases e2:Nat.beq q (ρ i) with
        |true=>rw[e2]at hq;cases hq
        |false=>
         rw[e2]at hq;have:=H.vlt _ _ hq;omega
      .refine .row g' _ (r'++ycs) ty ht (Qs H) (by simp[VH.new,VH.note,VH.put]) ?_ ?_
       .rw [List.flatMap_append];exact h3.append hy
       .intro x hx;rcases List.mem_append.1 hx with hx | hx
        .exact S5 x (List.drop_subset _ _ (List.take_subset _ _ hx))
        .exact hyl x hx
     refine⟨.slice (some ⟨vh.next,0,none⟩) (len+m) (len+m),_,_,_,?_,Ze3 ht _,Xr⟩;unfold Us;simp only[hm,hx,hel];rw[if_pos ⟨hc1,hc2,hc3⟩];simp only[hg,if_true]
    .cases he
   .cases he
  .cases he
 | _=>simp[Xk]at he
theorem Z4x (H:HP C ρ Z vh h){g:Nat}{ty:Ty}(ht:C.T g=some ty){m:Nat}{ys:List PV}{s:PV}{s' x':Value}{ycs:List Value}(hs:R C ρ (Zp h) Z s s')(hm:Zro x'=some m)(hml:ys.length=m)
  (hx:vh.elems ty.size x'=some ycs) (hy:RDs C Z (ys.flatMap Zd) ycs) (hyl:∀y∈ys,(Zd y).length=ty.size) (he:Zkv h g ty ys s=some r):Zfm C K ρ Z h vh r.1 r.2 (Us vh ty s' x'):=by
 cases s with
 |nils=>
  rw[hs.nils_inv];have hn0:vh.elems ty.size (.slice none 0 0)=some []:=rfl;simp only[Zkv]at he;split at he
  .rename_i hc;rw[hml]at hc he;split at he
   .rename_i h0;cases he;refine⟨.slice none 0 0,vh,ρ,Z,?_,.d .nils,St.refl H⟩;unfold Us;simp only[hm,hx,hn0];rw[if_pos ⟨by omega,hc.2⟩,if_pos h0]
   .rename_i h0;cases he;obtain⟨Z',q1,q2,q3⟩:=Zuq (K:=K) H ht hy hyl;rw[hml]at q2;refine⟨.slice (some ⟨vh.next,0,none⟩) m m,_,_,Z',?_,.d q2,q1⟩;unfold Us;simp only[hm,hx,hn0];rw[if_pos ⟨by omega,hc.2⟩,if_neg h0]
  .cases he
 | _=>simp[Zkv]at he
theorem Zzo {i Zc:Nat}{k:PV}{u:Value}{c:Call}(H:HP C ρ Z vh h)(S:SR C ρ (Zp h) Z Xi Y4)(ho:o.op=.call c)(Ws:c.callee=.builtin .delete){w:Value}(ha:opds C Y4 c.args.toList=some [w,u])(hw:R C ρ (Zp h) Z (.map i Zc) w)(hu:R C ρ (Zp h) Z k u)
  (he:(match (c.argTypes[0]?).bind C.T with
     |some ts=>match ts.k with
      | .map kt _=>
        match C.T kt,h.get i with
        |some kty,some (w,.map es)=>if w=Zc/\Zrp kty.k k=true/\can K i=true then (Zcx es k).map fun es=>(PV.tuple [],h.put i Zc (.map es)) else none
        | _,_=>none
      | _=>none
     |none=>none)=some r):Zfm C K ρ Z h vh r.1 r.2 (Xn C cf yf Y4 vh o):=by
 split at he
 .rename_i ts ht;split at he
  .rename_i kt et hk;split at he
   .rename_i kty ver' es hkt hi;split at he
    .rename_i hc;obtain⟨rfl,Si,Zu⟩:=hc;rw[Option.map_eq_some_iff]at he;obtain⟨es2,hes2,rfl⟩:=he;have hw':=hw.map_inv hi;subst hw';cases H.obj _ _ _ hi with
     |map es ves hzz hg hr=>
      obtain⟨Z9q,h1,h2⟩:=Zyj hr hu hes2;have Xr:=Zhk (K:=K) (ob:=.map es2) (vo:=.map Z9q) H hi Zu hzz fun YB vf' he=>.map es2 Z9q hzz Zrh (h2.mono he (Vf.le.refl _))
      refine⟨.tuple #[],_,_,_,?_,.tuple _ _ .nil,Xr⟩;simp only[Xn,ho,U6,ha,Ws,ht,hk,hkt,hg];rw[if_pos (Zh1 hu Si),h1];rfl
    .cases he
   .cases he
  .cases he
 .cases he
def Ziz (C:Ctx)(K:Loc)(n:Nat)(pcf:CF)(cf:Nat->List Value->VH->Option (Value×VH)):Prop:=
 ∀f args h r,pcf K f args h=some r->∀(ρ:Nat->Nat) (Z:Vf) (vh:VH) (Wl:List Value),HP C ρ Z vh h->KOk K n h.next->Rs C ρ (Zp h) Z args Wl->Zfm C K ρ Z h vh r.1 r.2 (cf f Wl vh)
def YfSim (C:Ctx)(K:Loc)(n:Nat)(pyf:YF)(yf:Nat->List Value->VH->Option (Value×VH)):Prop:=
 ∀l Zc args h r,pyf K l Zc args h=some r->∀(ρ:Nat->Nat) (Z:Vf) (vh:VH) (Wl:List Value) (w:Value),HP C ρ Z vh h->KOk K n h.next->Rs C ρ (Zp h) Z args Wl->R C ρ (Zp h) Z (.yield l Zc) w->∃p,w=.func (.yield p) #[] #[]/\Zfm C K ρ Z h vh r.1 r.2 (yf p Wl vh)
theorem Zwq {c:Call}(hcf:Ziz C K n pcf cf)(hyf:YfSim C K n pyf yf)(H:HP C ρ Z vh h)(S:SR C ρ (Zp h) Z Xi Y4)(hK:KOk K n h.next)(hd:∀d,o.dst=some d->d < n)(ho:o.op=.call c)(he:Zh C pcf pyf all K Xi h o=some r):
  Zfm C K ρ Z h vh r.1 r.2 (Xn C cf yf Y4 vh o):=by
 simp only[Zh,ho]at he;split at he
 .cases he
 .rename_i args Xt;obtain⟨Wl,Ro,Qg⟩:=Se S Xt;split at he
  .rename_i f Ws;split at he
   .rename_i g first captured hf
    obtain⟨w,W4,Vj⟩:=Zj S hf;cases Vj with
    |d h=>cases h
    |fn g a c2 a' c' r1 r2=>
     obtain⟨v,vh',YB,Z',q1,q2,q3⟩:=hcf g _ h r he ρ Z vh (a'.toList++Wl++c'.toList) H hK ((r1.append Qg).append r2);refine⟨v,vh',YB,Z',?_,q2,q3⟩;simp only[Xn,ho,U6,Ro,Ws,W4];exact q1
   .rename_i l Zc hf;obtain⟨w,W4,Vj⟩:=Zj S hf;obtain⟨p,rfl,v,vh',YB,Z',q1,q2,q3⟩:=hyf l Zc args h r he ρ Z vh Wl w H hK Qg Vj;refine⟨v,vh',YB,Z',?_,q2,q3⟩;simp only[Xn,ho,U6,Ro,Ws,W4];exact q1
   .cases he
  .cases he
  .rename_i b Ws;split at he
   .rename_i i Zc;cases Qg with
    |cons hy hr=>
     cases hr;split at he
     .rename_i ty ht;split at he
      .rename_i kt et hk;split at he
       .rename_i w es hi;split at he
        .rename_i e;subst e;cases he;have hw:=hy.map_inv hi;subst hw;cases H.obj _ _ _ hi with
         |map es ves hzz hg hr=>
          refine⟨.int .i64 ves.length,vh,ρ,Z,?_,by rw[hr.length];exact .d (.int _ _),St.refl H⟩;simp only[Xn,ho,U6,Ro,Ws,ht,hk,hg]
        .cases he
       .cases he
      .cases he
     .cases he
   .rename_i s x;cases Qg with
    |cons hs hr=>
     rename_i s' l1;cases hr with
     |cons hx hr=>
      rename_i x' l2;cases hr;split at he
      .rename_i ts tx d hts htx Rb;split at he
       .rename_i e hk;split at he
        .rename_i ty Rn
         have X6:Xn C cf yf Y4 vh o=U7 vh ty tx s' x':=by
          simp only[Xn,ho,U6,Ro,Ws,hts,htx,hk,Rn]
         rw[X6];split at he
         .rename_i k hkx;split at he
          .rename_i k2 m;have hs':=hs.nils_inv;have hx':=hx.int_inv;subst hs' hx';split at he
           .rename_i hc;split at he
            .rename_i h0;cases he;refine⟨.slice none 0 0,vh,ρ,Z,?_,.d .nils,St.refl H⟩;simp only[U7,hkx];rw[if_pos hc,if_pos h0]
            .rename_i h0;split at he
             .rename_i z hz;split at he
              .rename_i hzc;cases he;have Z3d:RDs C Z (Zd z) ty.zero:=Zf4 hz
               have Xr:=Zb2 (K:=K) (vo:=.row (Vv m.toNat ty.zero) ty.size true) H hK (hd d Rb) (ob:=.row e true (List.replicate m.toNat z)) fun YB vf' _=>
                .row e _ _ ty Rn (Qs H) (by simp[VH.new]) (Zmk Z3d m.toNat) (fun x hx=>by rw[(List.mem_replicate.1 hx).2];exact hzc.1)
               refine⟨.slice (some ⟨vh.next,0,none⟩) m.toNat m.toNat,_,_,_,?_,Ze3 Rn _,Xr⟩;simp only[U7,hkx];rw[if_pos hc,if_neg h0]
              .cases he
             .cases he
           .cases he
          .cases he
         .rename_i hkx;split at he
          .rename_i b;split at he
           .rename_i hsz;obtain⟨bs,rfl,rfl⟩:=hx.str_inv
            have hA:U7 vh ty tx s' (.string bs)=Us vh ty s' (.string bs):=by
             unfold U7;split
             .rename_i k hk2;exact absurd hk2 (hkx _)
             .simp [hsz]
            rw[hA];refine Zkz (ycs:=bs.data.toList.map fun b=>.int .u8 b.toNat) H hK (hd d Rb) Rn hs (by simp only[Zro];rw[T6]) (by simp) rfl ?_ ?_ he
            .rw [Zt4];exact Zz9 bs
            .rw [hsz];exact Z0a _
           .cases he
          .rename_i hns;split at he
           .rename_i ys hys;obtain⟨hl,Wg,h1,h2,h3⟩:=Zqo H Rn hx hys;obtain⟨a,l,c2,rfl⟩:=Zkt hx hys
            have hA:U7 vh ty tx s' (.slice a l c2)=Us vh ty s' (.slice a l c2):=by
             unfold U7;split
             .rename_i k hk2;exact absurd hk2 (hkx _)
             .simp
            rw[hA];split at he
            .exact Z4x H Rn hs hl rfl h1 h2 h3 he
            .exact Zkz H hK (hd d Rb) Rn hs hl rfl h1 h2 h3 he
           .cases he
        .cases he
       .cases he
      .cases he
   .rename_i i Zc k;cases Qg with
    |cons hs hr=>
     cases hr with
     |cons hx hr=>
      cases hr;exact Zzo H S ho Ws Ro hs hx he
   .cases he
theorem Zl8 (hcf:Ziz C K n pcf cf)(hyf:YfSim C K n pyf yf)(H:HP C ρ Z vh h)(S:SR C ρ (Zp h) Z Xi Y4)(hK:KOk K n h.next)(hd:∀d,o.dst=some d->d < n)(he:Zh C pcf pyf all K Xi h o=some r):
  Zfm C K ρ Z h vh r.1 r.2 (Xn C cf yf Y4 vh o):=by
 cases ho:o.op with
 |load t y=>exact (Zmy H S ho he).up H
 |store t y z=>exact Zpj H S ho he
 |convert src dst y=>exact Zwl H S hK hd ho he
 |slice t y lo hi mx=>
  cases mx with
  |none=>exact (Z1r H S ho he).up H
  |some m=>simp[Zh,ho]at he
 |indexAddr t y z=>exact (Zfw H S ho he).up H
 |lookup t y z ok=>exact (Zmx H S ho he).up H
 |mapUpdate t m k y=>exact Zfu H S (.inl ho) he
 |insert t m k y=>exact Zfu H S (.inr ho) he
 |call c=>exact Zwq hcf hyf H S hK hd ho he
 | _=>simp[Zh,ho]at he
theorem Z6o (H:HP C ρ Z vh h)(S:SR C ρ (Zp h) Z Xi Y4)(hw:U8 o=false)(he:Zh C pcf pyf all K Xi h o=some r):Zz1 C ρ Z h vh r.1 r.2 (Xn C cf yf Y4 vh o):=by
 cases ho:o.op with
 |load t y=>exact Zmy H S ho he
 |slice t y lo hi mx=>
  cases mx with
  |none=>exact Z1r H S ho he
  |some m=>simp[Zh,ho]at he
 |indexAddr t y z=>exact Zfw H S ho he
 |lookup t y z ok=>exact Zmx H S ho he
 |call c=>
  simp only[U8,ho]at hw;split at hw
  .rename_i Ws;simp only[Zh,ho]at he;split at he
   .cases he
   .rename_i args Xt;obtain⟨Wl,Ro,Qg⟩:=Se S Xt;rw[Ws]at he
    try dsimp only at he
    split at he
    .rename_i i Zc _;cases Qg with
     |cons hy hr=>
      cases hr;split at he
      .rename_i ty ht;split at he
       .rename_i kt et hk;split at he
        .rename_i w es hi;split at he
         .rename_i e;subst e;cases he;have hw:=hy.map_inv hi;subst hw;cases H.obj _ _ _ hi with
          |map es ves hzz hg hr=>
           refine⟨rfl,.int .i64 ves.length,?_,by rw[hr.length];exact .d (.int _ _)⟩;simp only[Xn,ho,U6,Ro,Ws,ht,hk,hg]
         .cases he
        .cases he
       .cases he
      .cases he
    .rename_i hh;cases hh
    .rename_i hh;cases hh
    .cases he
  .cases hw
 | _=>simp[U8,ho]at hw<;>simp[Zh,ho]at he
theorem Zaip {m:Mk}{sh:Shape}{vo:VO}(hm:MkOk C ρ (Zp h) Z m sh vo)(H:HP C ρ Z vh h)(hK:KOk K n h.next){d:Nat}(hd:d < n){ob:PO}(Tn:m.obj=some ob):
  Zfm C K ρ Z h vh (m.val (K.base+d) (h.stamp (K.base+d))) (h.put (K.base+d) (h.stamp (K.base+d)) ob) (some (sh.val vh.next,vh.new vo)):=by
 cases hm with
 |lit=>simp[Mk.obj]at Tn
 |ptr cs Wg e hr=>
  simp only[Mk.obj,Option.some.injEq]at Tn;subst Tn;have Xr:=Zb2 (K:=K) (vo:=.row Wg e true) H hK hd (ob:=.cells cs) fun YB vf' he=>.cells cs Wg e (Qs H) (by simp[VH.new]) (hr.mono he (Vf.le.refl _))
  exact⟨_,_,_,_,rfl,.ptr _ _ 0 _ ⟨vh.next,0,none⟩ Zhr (Nat.le_refl _) rfl fun _=>by simp,Xr⟩
 |slice g m xs Wg ty ht hr hl=>
  simp only[Mk.obj,Option.some.injEq]at Tn;subst Tn;have Xr:=Zb2 (K:=K) (vo:=.row Wg ty.size true) H hK hd (ob:=.row g true xs) fun YB vf' he=>.row g xs Wg ty ht (Qs H) (by simp[VH.new]) hr hl
  exact⟨_,_,_,_,rfl,Ze3 ht _,Xr⟩
 |map=>
  simp only[Mk.obj,Option.some.injEq]at Tn;subst Tn;have Xr:=Zb2 (K:=K) (vo:=.map []) H hK hd (ob:=.map []) fun YB vf' he=>.map [] [] (Qs H) (by simp[VH.new]) .nil
  exact⟨_,_,_,_,rfl,.map _ _ _ vh.next Zhr (Nat.le_refl _) fun _=>by simp,Xr⟩
theorem Zaco (hcf:Ziz C K n pcf cf)(hyf:YfSim C K n pyf yf)(H:HP C ρ Z vh h)(S:SR C ρ (Zp h) Z Xi Y4)(hK:KOk K n h.next)(hd:∀d,o.dst=some d->d < n)(he:opP C pcf pyf all K Xi h o=some r):
  Zfm C K ρ Z h vh r.1 r.2 (Xn C cf yf Y4 vh o):=by
 unfold opP at he;split at he
 .rename_i v hf;cases he;obtain⟨w,h1,h2⟩:=Zv9 S hf;exact⟨w,vh,ρ,Z,h2 cf yf vh H.sig,h1,St.refl H⟩
 .split at he
  .rename_i m hm;obtain⟨sh,vo,h1,h2,h3⟩:=Zpz S hm;rw[h3 cf yf vh];split at he
   .rename_i Tn;cases he;cases h1 with
    |lit g xs Wg ty ht hr hl=>
     obtain⟨Z',Xr,hrd,_⟩:=Zuq (K:=K) H ht hr hl;exact⟨_,_,ρ,Z',rfl,.d hrd,Xr⟩
    | _=>simp[Mk.obj]at Tn
   .rename_i ob d Tn Rb;cases he;exact Zaip h1 H hK (hd d Rb) Tn
   .cases he
  .exact Zl8 hcf hyf H S hK hd he
theorem Zbc {ops:List Oper}{b:Bool}(S:SR C ρ vf Z Xi Y4)(he:Vy ops Xi o=some b):Qp ops Y4 o=some b:=by
 unfold Vy at he;unfold Qp;split at he
 .rename_i hg;rw[hg];exact he
 .rename_i j want hg;rw[hg]
  try dsimp only
  split at he
  .rename_i d hd;rw[hd]
   try dsimp only
   split at he
   .rename_i c hc;cases he;obtain⟨w,h1,h2⟩:=S _ _ hc;rw[h1,h2.bool_inv]
   .rename_i w Yp hc;cases he;obtain⟨u,h1,h2⟩:=S _ _ hc;rw[h1];cases h2 with
    |d h=>cases h<;>first | rfl | exact absurd rfl (Yp _)
    | _=>rfl
   .cases he
  .rename_i hd;rw[hd];exact he
theorem Z6u (hcf:Ziz C K n pcf cf)(hyf:YfSim C K n pyf yf):∀(l:List Oper) {Xi:Yt} {Y4:SL} {h:PH} {vh:VH} {ρ:Nat->Nat} {Z:Vf} {q:Yt×PH},HP C ρ Z vh h->SR C ρ (Zp h) Z Xi Y4->KOk K n h.next->(∀o∈l,∀d,o.dst=some d->d < n)->Za4 C pcf pyf K all l Xi h=some q ->
  ∃vsl' vh' YB Z',Zhm C cf yf all l Y4 vh=some (vsl',vh')/\SR C YB (Zp q.2) Z' q.1 vsl'/\St C K ρ Z h vh YB Z' q.2 vh':=by
 intro l
 induction l with
 |nil=>
  intro Xi Y4 h vh ρ Z q H S hK hd he;simp only[Za4,Option.some.injEq]at he;subst he;exact⟨Y4,vh,ρ,Z,rfl,S,St.refl H⟩
 |cons o l ih=>
  intro Xi Y4 h vh ρ Z q H S hK hd he;simp only[Za4]at he;simp only[Zhm];split at he
  .rename_i hw;rw[Zbc S hw]
   try dsimp only
   split at he
   .rename_i v h1 ho;obtain⟨w,vh1,YE,Z1,a1,a2,a3⟩:=Zaco hcf hyf H S hK (hd o (by simp)) ho;rw[a1]
    try dsimp only
    obtain⟨vsl',vh',YB,Z',b1,b2,b3⟩:=ih a3.hp ((S.mono a3.ext a3.sig).putP o.dst a2) ⟨hK.1,Nat.le_trans hK.2 a3.next⟩ (fun o ho=>hd o (by simp[ho])) he;exact⟨vsl',vh',YB,Z',b1,b2,a3.trans H b3⟩
   .cases he
  .rename_i hw;rw[Zbc S hw]
   try dsimp only
   exact ih H (S.putP o.dst (.tuple [] #[] .nil)) hK (fun o ho=>hd o (by simp[ho])) he
  .cases he
end
section
variable {C:Ctx}{Z Z':Vf}{ρ YB:Nat->Nat}{vf vf':Nat->Option Nat}{h h':PH}{vh vh':VH}{K:Loc}{n:Nat}{Xi:Yt}{Y4:SL}{x:PV}{v:Value}
theorem HP.sub (H:HP C ρ Z vh h)(hg:h'.get=h.get)(hn:∀i x,h.get i=some x->i < h'.next)(hv:vh'.get=vh.get)(hvn:vh.next<=vh'.next)(hw:vh'.wr<=vh'.next):HP C ρ Z vh' h' where
 lt:=fun i x hx=>hn i x (by rw[<- hg];exact hx)
 inj:=fun i j x y hx hy e=>H.inj i j x y (by rw[<- hg];exact hx) (by rw[<- hg];exact hy) e
 vlt:=fun i o ho=>Nat.lt_of_lt_of_le (H.vlt i o (by rw[<- hv];exact ho)) hvn
 sig:=fun Zy s hs=>by rw[hv];exact H.sig Zy s hs
 obj:=fun i Zc o ho=>by
  rw[hg]at ho;have hvf:Zp h'=Zp h:=by unfold Zp;rw[hg]
  rw[hvf];have h1:=H.obj i Zc o ho;cases h1 with
  |loop K0 n sl Y4 ps as bd a b c d e f g=>exact .loop K0 n sl Y4 ps as bd a (by rw[hv];exact b) c d e f g
  |cells cs Wg e a b c=>exact .cells cs Wg e a (by rw[hv];exact b) c
  |row g xs Wg ty a b c d e=>exact .row g xs Wg ty a b (by rw[hv];exact c) d e
  |frozen g xs s ty a b c d e f=>exact .frozen g xs s ty a b c d e f
  |map es ves a b c=>exact .map es ves a (by rw[hv];exact b) c
  |gone a b=>exact .gone (by omega) b
 wr:=hw
theorem Ziu {m:Nat}(hvf:∀i,i < m->vf' i=vf i):∀(k:Nat) {x:PV} {v:Value},below m k x=true->R C ρ vf Z x v->R C ρ vf' Z x v:=by
 intro k
 induction k with
 |zero=>
  intro x v hb hr;cases hr with
  |d h=>exact .d h
  |own i Zc g off len c a cap ty hi hv hp ht ha=>exact .own i Zc g off len c a cap ty (by rw[hvf i (by simpa[below]using hb)];exact hi) hv hp ht ha
  |ptr i Zc off c a hi hv hp ha=>exact .ptr i Zc off c a (by rw[hvf i (by simpa[below]using hb)];exact hi) hv hp ha
  |eptr i Zc g ix off c a ty hi hv hp ht ha=>exact .eptr i Zc g ix off c a ty (by rw[hvf i (by simpa[below]using hb)];exact hi) hv hp ht ha
  |rptr cs Zy o s Wg hs hr hx=>exact .rptr cs Zy o s Wg hs hr hx
  |map i Zc c w hi hv ha=>exact .map i Zc c w (by rw[hvf i (by simpa[below]using hb)];exact hi) hv ha
  |yield i Zc c w hi hv ha=>exact .yield i Zc c w (by rw[hvf i (by simpa[below]using hb)];exact hi) hv ha
  | _=>simp[below]at hb
 |succ k ih=>
  intro x v hb hr
  have hs:∀ {cs:List PV} {cs':List Value},cs.all (below m k)=true->Rs C ρ vf Z cs cs'->Rs C ρ vf' Z cs cs':=by
   intro cs
   induction cs with
   |nil=>intro cs' _ h;cases h;exact .nil
   |cons c cs ih2=>
    intro cs' ha h;simp only[List.all_cons,Bool.and_eq_true]at ha;cases h with | cons h r=>exact .cons (ih ha.1 h) (ih2 ha.2 r)
  cases hr with
  |d h=>exact .d h
  |own i Zc g off len c a cap ty hi hv hp ht ha=>exact .own i Zc g off len c a cap ty (by rw[hvf i (by simpa[below]using hb)];exact hi) hv hp ht ha
  |ptr i Zc off c a hi hv hp ha=>exact .ptr i Zc off c a (by rw[hvf i (by simpa[below]using hb)];exact hi) hv hp ha
  |eptr i Zc g ix off c a ty hi hv hp ht ha=>exact .eptr i Zc g ix off c a ty (by rw[hvf i (by simpa[below]using hb)];exact hi) hv hp ht ha
  |rptr cs Zy o s Wg hs hr hx=>exact .rptr cs Zy o s Wg hs hr hx
  |map i Zc c w hi hv ha=>exact .map i Zc c w (by rw[hvf i (by simpa[below]using hb)];exact hi) hv ha
  |yield i Zc c w hi hv ha=>exact .yield i Zc c w (by rw[hvf i (by simpa[below]using hb)];exact hi) hv ha
  |fn f a c a' c' h1 h2=>
   simp only[below,Bool.and_eq_true]at hb;exact .fn f a c a' c' (hs hb.1 h1) (hs hb.2 h2)
  |iface t y w h=>exact .iface t y w (ih (by simpa only[below]using hb) h)
  |agg cs cs' h=>exact .agg cs cs' (hs (by simpa only[below]using hb) h)
  |tuple cs cs' h=>exact .tuple cs cs' (hs (by simpa only[below]using hb) h)
theorem Zaab {m:Nat}(hvf:∀i,i < m->vf' i=vf i){k:Nat}{cs:List PV}{cs':List Value}(ha:cs.all (below m k)=true)(h:Rs C ρ vf Z cs cs'):Rs C ρ vf' Z cs cs':=by
 induction cs generalizing cs' with
 |nil=>cases h;exact .nil
 |cons c cs ih2=>
  simp only[List.all_cons,Bool.and_eq_true]at ha;cases h with | cons h r=>exact .cons (Ziu hvf k ha.1 h) (ih2 ha.2 r)
theorem Zaer {m:Nat}(hvf:∀i,i < m->vf' i=vf i){k:Nat}{es:List (PV×PV)}{S9:List (Value×Value)}(ha:es.all (fun e=>below m k e.1&&below m k e.2)=true)(h:MRP C ρ vf Z es S9):MRP C ρ vf' Z es S9:=by
 induction h with
 |nil=>exact .nil
 |cons hk hv r ih=>
  simp only[List.all_cons,Bool.and_eq_true]at ha;exact .cons (Ziu hvf k ha.1.1 hk) (Ziu hvf k ha.1.2 hv) (ih ha.2)
theorem Zyc (g:Nat):∀(n:Nat) (x:PV),Yu g n x=true->Yu g (n+1) x=true:=by
 intro n
 induction n with
 |zero=>intro x h;cases x<;>simp_all[Yu]
 |succ n ih=>
  have hs:∀cs:List PV,cs.all (Yu g n)=true->cs.all (Yu g (n+1))=true:=fun cs h=>List.all_eq_true.2 fun c hc=>ih c (List.all_eq_true.1 h c hc)
  intro x h;cases x with
  |lst g' xs=>simp only[Yu,Bool.and_eq_true]at h ⊢;exact⟨h.1,hs _ h.2⟩
  |agg cs=>simp only[Yu]at h ⊢;exact hs _ h
  |tuple cs=>simp only[Yu]at h ⊢;exact hs _ h
  |iface t y=>simp only[Yu]at h ⊢;exact ih y h
  |fn f a c=>simp only[Yu,Bool.and_eq_true]at h ⊢;exact⟨hs _ h.1,hs _ h.2⟩
  | _=>simp_all[Yu]
theorem Zd5 {g n:Nat}{x:PV}(h:Yu g n x=true):(Zd x).all (Yu g n)=true:=by
 cases x with
 |agg cs=>
  cases n with
  |zero=>simp[Yu]at h
  |succ n=>simp only[Yu]at h;exact List.all_eq_true.2 fun c hc=>Zyc g n c (List.all_eq_true.1 h c hc)
 | _=>simp only[Zd,List.all_cons,List.all_nil,Bool.and_true];exact h
def Zs7 (G:List Nat)(Z Z':Vf):Prop:=∀Zy s,Z Zy=some s->Z' Zy=some s\/∃g∈G,s.tag=some g
theorem Zso {G:List Nat}(hb:Zs7 G Z Z'):∀(n:Nat) {x:PV} {v:Value},(∀g∈G,Yu g n x=true)->RD C Z x v->RD C Z' x v:=by
 intro n
 induction n with
 |zero=>
  intro x v ha hr;cases hr with
  |lst g xs Zy o cap s Wg ty hs he ht Rn hr hx hl=>
   rcases hb Zy s hs with h1 | ⟨g',hg',h1⟩
   .by_cases hG:G=[]
    ·
     subst hG
     have hb':Z.le Z':=fun Zy s hs=>by
      rcases hb Zy s hs with h | ⟨g,hg,_⟩
      .exact h
      .simp at hg
     exact (RD.lst g xs Zy o cap s Wg ty hs he ht Rn hr hx hl).mono hb'
    .obtain ⟨g',hg'⟩:=List.exists_mem_of_ne_nil G hG;have:=ha g' hg';simp[Yu]at this
   .have:=ha g' hg';simp[Yu]at this
  |iface t y w h=>
   by_cases hG:G=[]
   .subst hG
    have hb':Z.le Z':=fun Zy s hs=>by
     rcases hb Zy s hs with h | ⟨g,hg,_⟩
     .exact h
     .simp at hg
    exact (RD.iface t y w h).mono hb'
   .obtain ⟨g',hg'⟩:=List.exists_mem_of_ne_nil G hG;have:=ha g' hg';simp[Yu]at this
  |agg cs cs' h=>
   by_cases hG:G=[]
   .subst hG
    have hb':Z.le Z':=fun Zy s hs=>by
     rcases hb Zy s hs with h | ⟨g,hg,_⟩
     .exact h
     .simp at hg
    exact (RD.agg cs cs' h).mono hb'
   .obtain ⟨g',hg'⟩:=List.exists_mem_of_ne_nil G hG;have:=ha g' hg';simp[Yu]at this
  | _=>constructor
 |succ n ih=>
  have hs:∀ {cs:List PV} {cs':List Value},(∀g∈G,cs.all (Yu g n)=true)->RDs C Z cs cs'->RDs C Z' cs cs':=by
   intro cs
   induction cs with
   |nil=>intro cs' _ h;cases h;exact .nil
   |cons c cs ih2=>
    intro cs' ha h;cases h with
    |cons h r=>
     refine .cons (ih (fun g hg=>?_) h) (ih2 (fun g hg=>?_) r)
     .have:=ha g hg;simp only[List.all_cons,Bool.and_eq_true]at this;exact this.1
     .have:=ha g hg;simp only[List.all_cons,Bool.and_eq_true]at this;exact this.2
  intro x v ha hr;cases hr with
  |lst g xs Zy o cap s Wg ty hs1 he ht Rn hr hx hl=>
   rcases hb Zy s hs1 with h1 | ⟨g',hg',h1⟩
   .refine .lst g xs Zy o cap s Wg ty h1 he ht Rn hr (hs (fun g' hg'=>?_) hx) hl;have:=ha g' hg';simp only[Yu,Bool.and_eq_true]at this;rw[List.all_flatMap];exact List.all_eq_true.2 fun y hy=>Zd5 (List.all_eq_true.1 this.2 y hy)
   .have h2:=ha g' hg';simp only[Yu,Bool.and_eq_true]at h2;rcases ht with e | e
    .rw [e]at h1;cases h1
    .rw [h1]at e;cases e;simp at h2
  |iface t y w h=>exact .iface t y w (ih (fun g hg=>by have:=ha g hg;simpa only[Yu]using this) h)
  |agg cs cs' h=>exact .agg cs cs' (hs (fun g hg=>by have:=ha g hg;simpa only[Yu]using this) h)
  | _=>constructor
theorem Zw0 {G:List Nat}(hb:Zs7 G Z Z'){n:Nat}{cs:List PV}{cs':List Value}(ha:∀g∈G,cs.all (Yu g n)=true)(h:RDs C Z cs cs'):RDs C Z' cs cs':=by
 induction cs generalizing cs' with
 |nil=>cases h;exact .nil
 |cons c cs ih2=>
  cases h with
  |cons h r=>
   refine .cons (Zso hb n (fun g hg=>?_) h) (ih2 (fun g hg=>?_) r)
   .have:=ha g hg;simp only[List.all_cons,Bool.and_eq_true]at this;exact this.1
   .have:=ha g hg;simp only[List.all_cons,Bool.and_eq_true]at this;exact this.2
theorem Zsp {G:List Nat}(hb:Zs7 G Z Z')(hG:G≠[]):∀(n:Nat) {x:PV} {v:Value},(∀g∈G,Yu g n x=true)->R C ρ vf Z x v->R C ρ vf Z' x v:=by
 obtain⟨g0,hg0⟩:=List.exists_mem_of_ne_nil G hG;intro n
 induction n with
 |zero=>
  intro x v ha hr;have h0:=ha g0 hg0;cases hr with
  |d h=>exact .d (Zso hb 0 ha h)
  |own i Zc g off len c a cap ty hi hv hp ht hq=>exact .own i Zc g off len c a cap ty hi hv hp ht hq
  |ptr i Zc off c a hi hv hp hq=>exact .ptr i Zc off c a hi hv hp hq
  |eptr i Zc g ix off c a ty hi hv hp ht hq=>exact .eptr i Zc g ix off c a ty hi hv hp ht hq
  |map i Zc c w hi hv hq=>exact .map i Zc c w hi hv hq
  |yield i Zc c w hi hv hq=>exact .yield i Zc c w hi hv hq
  | _=>simp[Yu]at h0
 |succ n ih=>
  have hs:∀ {cs:List PV} {cs':List Value},(∀g∈G,cs.all (Yu g n)=true)->Rs C ρ vf Z cs cs'->Rs C ρ vf Z' cs cs':=by
   intro cs
   induction cs with
   |nil=>intro cs' _ h;cases h;exact .nil
   |cons c cs ih2=>
    intro cs' ha h;cases h with
    |cons h r=>
     refine .cons (ih (fun g hg=>?_) h) (ih2 (fun g hg=>?_) r)
     .have:=ha g hg;simp only[List.all_cons,Bool.and_eq_true]at this;exact this.1
     .have:=ha g hg;simp only[List.all_cons,Bool.and_eq_true]at this;exact this.2
  intro x v ha hr;have h0:=ha g0 hg0;cases hr with
  |d h=>exact .d (Zso hb (n+1) ha h)
  |own i Zc g off len c a cap ty hi hv hp ht hq=>exact .own i Zc g off len c a cap ty hi hv hp ht hq
  |ptr i Zc off c a hi hv hp hq=>exact .ptr i Zc off c a hi hv hp hq
  |eptr i Zc g ix off c a ty hi hv hp ht hq=>exact .eptr i Zc g ix off c a ty hi hv hp ht hq
  |map i Zc c w hi hv hq=>exact .map i Zc c w hi hv hq
  |yield i Zc c w hi hv hq=>exact .yield i Zc c w hi hv hq
  |rptr=>simp[Yu]at h0
  |fn f a c a' c' h1 h2=>exact .fn f a c a' c' (hs (fun g hg=>by have:=ha g hg;simp only[Yu,Bool.and_eq_true]at this;exact this.1) h1) (hs (fun g hg=>by have:=ha g hg;simp only[Yu,Bool.and_eq_true]at this;exact this.2) h2)
  |iface t y w h=>exact .iface t y w (ih (fun g hg=>by have:=ha g hg;simpa only[Yu]using this) h)
  |agg cs cs' h=>exact .agg cs cs' (hs (fun g hg=>by have:=ha g hg;simpa only[Yu]using this) h)
  |tuple cs cs' h=>exact .tuple cs cs' (hs (fun g hg=>by have:=ha g hg;simpa only[Yu]using this) h)
theorem Zaet {G:List Nat}(hb:Zs7 G Z Z'){n:Nat}{x:PV}{v:Value}(ha:∀g∈G,Yu g n x=true)(h:R C ρ vf Z x v):R C ρ vf Z' x v:=by
 by_cases hG:G=[]
 .subst hG;refine h.mono (Rd.refl _ _) fun Zy s hs=>?_
  rcases hb Zy s hs with h | ⟨g,hg,_⟩
  .exact h
  .simp at hg
 .exact Zsp hb hG n ha h
theorem Zaes {G:List Nat}(hb:Zs7 G Z Z')(hG:G≠[]){n:Nat}{cs:List PV}{cs':List Value}(ha:∀g∈G,cs.all (Yu g n)=true)(h:Rs C ρ vf Z cs cs'):Rs C ρ vf Z' cs cs':=by
 induction cs generalizing cs' with
 |nil=>cases h;exact .nil
 |cons c cs ih2=>
  cases h with
  |cons h r=>
   refine .cons (Zsp hb hG n (fun g hg=>?_) h) (ih2 (fun g hg=>?_) r)
   .have:=ha g hg;simp only[List.all_cons,Bool.and_eq_true]at this;exact this.1
   .have:=ha g hg;simp only[List.all_cons,Bool.and_eq_true]at this;exact this.2
theorem Zaln {G:List Nat}(hb:Zs7 G Z Z')(hG:G≠[]){n:Nat}{es:List (PV×PV)}{S9:List (Value×Value)}(ha:∀g∈G,es.all (fun e=>Yu g n e.1&&Yu g n e.2)=true)(h:MRP C ρ vf Z es S9):MRP C ρ vf Z' es S9:=by
 induction h with
 |nil=>exact .nil
 |cons hk hv r ih=>
  have hh:∀g∈G,(Yu g n _=true/\Yu g n _=true)/\_:=fun g hg=>by
   have:=ha g hg;simp only[List.all_cons,Bool.and_eq_true]at this;exact this
  exact .cons (Zsp hb hG n (fun g hg=>(hh g hg).1.1) hk) (Zsp hb hG n (fun g hg=>(hh g hg).1.2) hv) (ih fun g hg=>(hh g hg).2)
theorem Znw:∀(n:Nat) {x:PV} {v:Value},flat n v=true->R C ρ vf Z x v->R C YB vf' Z' x v/\Xy n x=true:=by
 have hD:∀(n:Nat) {x:PV} {v:Value},flat n v=true->RD C Z x v->RD C Z' x v/\Xy n x=true:=by
  intro n
  induction n with
  |zero=>
   intro x v hf hr;cases hr with
   |lst=>simp[flat]at hf
   |iface=>simp[flat]at hf
   |agg=>simp[flat]at hf
   | _=>exact⟨by constructor,by simp[Xy]⟩
  |succ n ih=>
   have hs:∀ {cs:List PV} {cs':List Value},cs'.all (flat n)=true->RDs C Z cs cs'->RDs C Z' cs cs'/\cs.all (Xy n)=true:=by
    intro cs
    induction cs with
    |nil=>intro cs' _ h;cases h;exact⟨.nil,rfl⟩
    |cons c cs ih2=>
     intro cs' ha h;cases h with
     |cons h r=>
      simp only[List.all_cons,Bool.and_eq_true]at ha ⊢;obtain⟨a,b⟩:=ih ha.1 h;obtain⟨c,d⟩:=ih2 ha.2 r;exact⟨.cons a c,b,d⟩
   intro x v hf hr;cases hr with
   |lst=>simp[flat]at hf
   |iface t y w h=>
    obtain⟨a,b⟩:=ih (by simpa only[flat]using hf) h;exact⟨.iface t y w a,by simpa only[Xy]using b⟩
   |agg cs cs' h=>
    obtain⟨a,b⟩:=hs (by simpa only[flat]using hf) h;exact⟨.agg cs cs' a,by simpa only[Xy]using b⟩
   | _=>exact⟨by constructor,by simp[Xy]⟩
 intro n
 induction n with
 |zero=>
  intro x v hf hr;cases hr with
  |d h=>exact⟨.d (hD 0 hf h).1,(hD 0 hf h).2⟩
  | _=>simp[flat]at hf
 |succ n ih=>
  have hs:∀ {cs:List PV} {cs':List Value},cs'.all (flat n)=true->Rs C ρ vf Z cs cs'->Rs C YB vf' Z' cs cs'/\cs.all (Xy n)=true:=by
   intro cs
   induction cs with
   |nil=>intro cs' _ h;cases h;exact⟨.nil,rfl⟩
   |cons c cs ih2=>
    intro cs' ha h;cases h with
    |cons h r=>
     simp only[List.all_cons,Bool.and_eq_true]at ha ⊢;obtain⟨a,b⟩:=ih ha.1 h;obtain⟨c,d⟩:=ih2 ha.2 r;exact⟨.cons a c,b,d⟩
  intro x v hf hr;cases hr with
  |d h=>exact⟨.d (hD (n+1) hf h).1,(hD (n+1) hf h).2⟩
  |iface t y w h=>
   obtain⟨a,b⟩:=ih (by simpa only[flat]using hf) h;exact⟨.iface t y w a,by simpa only[Xy]using b⟩
  |agg cs cs' h=>
   obtain⟨a,b⟩:=hs (by simpa only[flat]using hf) h;exact⟨.agg cs cs' a,by simpa only[Xy]using b⟩
  |tuple cs cs' h=>
   obtain⟨a,b⟩:=hs (by simpa only[flat]using hf) h;exact⟨.tuple cs cs' a,by simpa only[Xy]using b⟩
  | _=>simp[flat]at hf
theorem Zaas:∀(n:Nat) {x:PV} {v:Value},Xy n x=true->R C ρ vf Z x v->flat n v=true:=by
 have hD:∀(n:Nat) {x:PV} {v:Value},Xy n x=true->RD C Z x v->flat n v=true:=by
  intro n
  induction n with
  |zero=>
   intro x v hf hr;cases hr<;>simp_all[Xy,flat]
  |succ n ih=>
   have hs:∀ {cs:List PV} {cs':List Value},cs.all (Xy n)=true->RDs C Z cs cs'->cs'.all (flat n)=true:=by
    intro cs
    induction cs with
    |nil=>intro cs' _ h;cases h;rfl
    |cons c cs ih2=>
     intro cs' ha h;cases h with
     |cons h r=>
      simp only[List.all_cons,Bool.and_eq_true]at ha ⊢;exact⟨ih ha.1 h,ih2 ha.2 r⟩
   intro x v hf hr;cases hr with
   |lst=>simp[Xy]at hf
   |iface t y w h=>simp only[flat];exact ih (by simpa only[Xy]using hf) h
   |agg cs cs' h=>simp only[flat];exact hs (by simpa only[Xy]using hf) h
   | _=>simp[flat]
 intro n
 induction n with
 |zero=>
  intro x v hf hr;cases hr with
  |d h=>exact hD 0 hf h
  | _=>simp[Xy]at hf
 |succ n ih=>
  have hs:∀ {cs:List PV} {cs':List Value},cs.all (Xy n)=true->Rs C ρ vf Z cs cs'->cs'.all (flat n)=true:=by
   intro cs
   induction cs with
   |nil=>intro cs' _ h;cases h;rfl
   |cons c cs ih2=>
    intro cs' ha h;cases h with
    |cons h r=>
     simp only[List.all_cons,Bool.and_eq_true]at ha ⊢;exact⟨ih ha.1 h,ih2 ha.2 r⟩
  intro x v hf hr;cases hr with
  |d h=>exact hD _ hf h
  |iface t y w h=>simp only[flat];exact ih (by simpa only[Xy]using hf) h
  |agg cs cs' h=>simp only[flat];exact hs (by simpa only[Xy]using hf) h
  |tuple cs cs' h=>simp only[flat];exact hs (by simpa only[Xy]using hf) h
  | _=>simp[Xy]at hf
theorem Znx:∀(n:Nat) (x:PV),Xy n x=true->Xy (n+1) x=true:=by
 intro n
 induction n with
 |zero=>intro x h;cases x<;>simp_all[Xy]
 |succ n ih=>
  have hs:∀cs:List PV,cs.all (Xy n)=true->cs.all (Xy (n+1))=true:=fun cs h=>List.all_eq_true.2 fun c hc=>ih c (List.all_eq_true.1 h c hc)
  intro x h;cases x with
  |agg cs=>simp only[Xy]at h ⊢;exact hs _ h
  |tuple cs=>simp only[Xy]at h ⊢;exact hs _ h
  |iface t y=>simp only[Xy]at h ⊢;exact ih y h
  | _=>simp_all[Xy]
theorem Zhf (H:HP C ρ Z vh h)(S:SR C ρ (Zp h) Z Xi Y4):∀ {rs:List ResultVar} {xs:List PV},Ut C Xi h rs=some xs->∃vs,Zhe C Y4 vh rs=some vs/\Rs C ρ (Zp h) Z xs vs
 | [],xs,he=>by simp only[Ut,Option.some.injEq]at he;subst he;exact⟨[],rfl,.nil⟩
 | .tmp t::r,xs,he=>by
   simp only[Ut]at he;split at he
   .rename_i p ps hp Te;cases he;obtain⟨v,h1,h2⟩:=S _ _ hp;obtain⟨vs,h3,h4⟩:=Zhf H S Te;exact⟨v::vs,by simp only[Zhe,h1,h3],.cons h2 h4⟩
   .cases he
 | .cell a t::r,xs,he=>by
   simp only[Ut]at he;split at he
   .rename_i i Zc off ty ps hp Rn Te;split at he
    .rename_i w cs hi;split at he
     .rename_i e;subst e;rw[Option.map_eq_some_iff]at he;obtain⟨z,hz,rfl⟩:=he;rw[Option.bind_eq_some_iff]at hz;obtain⟨q,hq,hz⟩:=hz;obtain⟨v,h1,h2⟩:=S _ _ hp;have hv:=h2.ptr_inv hi;subst hv;obtain⟨vs,h3,h4⟩:=Zhf H S Te;cases H.obj _ _ _ hi with
      |cells cs Wg e2 hzz hg hr=>
       obtain⟨q',h5,h6⟩:=hr.read hq;obtain⟨z',h7,h8⟩:=Zha h6 hz;refine⟨z'::vs,?_,.cons h8 h4⟩;simp only[Zhe,h1,Rn,h3,VH.load,hg,Option.isSome_none,Bool.false_eq_true,if_false,h5,Option.bind_some,h7,Option.map_some]
     .cases he
    .cases he
   .cases he
theorem Zu2 {xs:List PV}{vs:List Value}(h:Rs C ρ vf Z xs vs):R C ρ vf Z (Vh xs) (Zoz vs):=by
 cases h with
 |nil=>exact .tuple _ _ .nil
 |cons h r=>
  cases r with
  |nil=>exact h
  |cons h2 r=>exact .tuple _ _ (by simpa using .cons h (.cons h2 r))
theorem Z2q (l:List Value)(i t:Nat):Xf (Ub i l) t=if i<=t then l[t - i]? else none:=by
 induction l generalizing i with
 |nil=>simp[Ub,Xf]
 |cons v l ih=>
  simp only[Ub,Xf,ih];by_cases h:i=t
  .subst h;simp
  .have:Nat.beq i t=false:=Sy h;simp only[this,cond_false];by_cases hlt:i+1<=t
   .have h2:t - i=(t - (i+1))+1:=by omega
    simp[hlt,show i<=t by omega,h2]
   .simp [hlt,show ¬ i<=t by omega]
theorem Ztj {xs:List PV}{vs:List Value}(h:Rs C ρ vf Z xs vs):SR C ρ vf Z (R1 0 xs) (Ub 0 vs):=by
 intro t x hx;simp only[R1,Nat.zero_le,if_true,Nat.sub_zero]at hx;rw[Z2q];simp only[Nat.zero_le,if_true,Nat.sub_zero];exact h.get hx
theorem Uf (h3:PH):∀(ok:List Nat) (h:PH),(Yf h3 ok h).next=h.next
 | [],h=>rfl
 |i::r,h=>by
  simp only[Yf];split
  .rw [Uf h3 r];rfl
  .exact Uf h3 r h
theorem U4 (h3:PH):∀(ok:List Nat) (h:PH) (j:Nat),(Yf h3 ok h).get j=if j∈ok then (match h3.get j with | some y=>some y | none=>h.get j) else h.get j
 | [],h,j=>by simp[Yf]
 |i::r,h,j=>by
  simp only[Yf];split
  .rename_i Zc o hi;rw[U4 h3 r];by_cases e:j=i
   .subst e;simp[PH.put,hi]
   .simp [PH.put,e]
  .rename_i hi;rw[U4 h3 r];by_cases e:j=i
   .subst e;simp[hi]
   .simp [e]
end
section
variable {C:Ctx}{Z Z' Z1 Z2 Z3 ZF:Vf}{ρ YB YD:Nat->Nat}{vf vf':Nat->Option Nat}{h h' h2 h3:PH}{vh vh' V8 vhF:VH}{K:Loc}{n m:Nat}{Xi:Yt}{Y4:SL}{x:PV}{v w:Value}
theorem OR.back {j p nx nxF:Nat}{vf3 vfF:Nat->Option Nat}{o:PO}{G:List Nat}(O:OR C YD vf3 Z3 nx V8 j p o)(hb:Wj m o=true)(hvf:∀i,i < m->vfF i=vf3 i)(hB:Zs7 G Z3 ZF)(hT:∀g∈G,Zgh g o=true)
  (hn:Z3 p=none->ZF p=none) (hs:∀s,Z3 p=some s->ZF p=some s) (hv:vhF.get=V8.get) (hvn:vhF.next=V8.next):OR C YD vfF ZF nxF vhF j p o:=by
 cases O with
 |cells cs Wg e a b c=>
  refine .cells cs Wg e (hn a) (by rw[hv];exact b) ?_;have h1:=Zaab hvf hb c;by_cases hG:G=[]
  .subst hG;refine h1.mono (Rd.refl _ _) fun Zy s hs=>?_
   rcases hB Zy s hs with h | ⟨g,hg,_⟩
   .exact h
   .simp at hg
  .exact Zaes hB hG (fun g hg=>hT g hg) h1
 |row g xs Wg ty a b c d e=>
  refine .row g xs Wg ty a (hn b) (by rw[hv];exact c) (Zw0 hB (n:=12) (fun g hg=>?_) d) e;have:=hT g hg;simp only[Zgh]at this;rw[List.all_flatMap];exact List.all_eq_true.2 fun y hy=>Zd5 (List.all_eq_true.1 this y hy)
 |frozen g xs s ty a b c d e f=>
  refine .frozen g xs s ty a (hs s b) c d (Zw0 hB (n:=12) (fun g hg=>?_) e) f;have:=hT g hg;simp only[Zgh]at this;rw[List.all_flatMap];exact List.all_eq_true.2 fun y hy=>Zd5 (List.all_eq_true.1 this y hy)
 |map es ves a b c=>
  refine .map es ves (hn a) (by rw[hv];exact b) ?_;have h1:=Zaer hvf hb c;by_cases hG:G=[]
  .subst hG;refine h1.mono (Rd.refl _ _) fun Zy s hs=>?_
   rcases hB Zy s hs with h | ⟨g,hg,_⟩
   .exact h
   .simp at hg
  .exact Zaln hB hG (fun g hg=>hT g hg) h1
 |loop=>simp[Wj]at hb
 |gone a b=>exact .gone (by rw[hvn];exact a) (hn b)
theorem Zsm {lo:Nat}{ok:List Nat}{base j:Nat}(h1:j < lo)(h2:j∉ok):can {base:=base,lo:=lo,ok:=ok} j=false:=by
 unfold can;rw[Bool.or_eq_false_iff];constructor
 .cases e:Nat.ble lo j
  .rfl
  .rw [Nat.ble_eq]at e;omega
 .rw [List.any_eq_false];intro y hy e;rw[Nat.beq_eq]at e;exact h2 (e ▸ hy)
theorem Zks {g:PH}{ok:List Nat}(hx:∀i∈ok,∃Zc o,g.get i=some (Zc,o)/\(h3.get i=some (Zc,o)\/∃g' own xs,o=.row g' own xs/\h3.get i=some (Zc,.row g' false xs))):
  ∃Z3c,(∀i∈Z3c,i∈ok)/\Yf h3 ok g=g.freeze Z3c:=by
 classical
 refine⟨ok.filter fun i=>decide (∃Zc g' own xs,g.get i=some (Zc,.row g' own xs)/\h3.get i=some (Zc,.row g' false xs)),fun i hi=>(List.mem_filter.1 hi).1,?_⟩;have hn:(Yf h3 ok g).next=(g.freeze (ok.filter fun i=>decide (∃Zc g' own xs,g.get i=some (Zc,.row g' own xs)/\h3.get i=some (Zc,.row g' false xs)))).next:=by rw[Uf,X4]
 have hg:(Yf h3 ok g).get=(g.freeze (ok.filter fun i=>decide (∃Zc g' own xs,g.get i=some (Zc,.row g' own xs)/\h3.get i=some (Zc,.row g' false xs)))).get:=by
  funext j;rw[U4,Xc];by_cases hj:j∈ok
  .rw [if_pos hj];obtain⟨Zc,o,h1,h2⟩:=hx j hj;rcases h2 with h2 | ⟨g',own,xs,rfl,h2⟩
   .rw [h1,h2];cases o with
    |row g' own xs=>
     try dsimp only
     by_cases hm:j∈ok.filter fun i=>decide (∃Zc g' own xs,g.get i=some (Zc,.row g' own xs)/\h3.get i=some (Zc,.row g' false xs))
     .rw [if_pos hm];obtain⟨_,hd⟩:=List.mem_filter.1 hm;obtain⟨a,b,c,d,e1,e2⟩:=of_decide_eq_true hd;rw[h1]at e1;rw[h2]at e2;cases e1;cases e2;rfl
     .rw [if_neg hm]
    | _=>rfl
   .rw [h1,h2]
    try dsimp only
    rw[if_pos];refine List.mem_filter.2 ⟨hj,decide_eq_true ⟨_,_,_,_,h1,h2⟩⟩
  .rw [if_neg hj];split
   .rename_i Zc g' own xs hgj;rw[if_neg fun hm=>hj (List.mem_filter.1 hm).1,hgj]
   .rfl
 cases hA:Yf h3 ok g;cases hB:g.freeze (ok.filter fun i=>decide (∃Zc g' own xs,g.get i=some (Zc,.row g' own xs)/\h3.get i=some (Zc,.row g' false xs)));rw[hA,hB]at hn hg;simp only at hn hg;rw[hn,hg]
structure Pre0 (C:Ctx)(K:Loc)(m:Nat)(ρ:Nat->Nat)(Z Z1:Vf)(h:PH)(vh:VH)(ok ids:List Nat)(nx:Nat)(YD:Nat->Nat)(Z3:Vf)(h3:PH)(V8:VH):Prop where
 H:HP C ρ Z vh h
 hK:KOk K m h.next
 hok:∀i∈ok,can K i=true/\∃x,h.get i=some x
 hids:∀i∈ids,can K i=true
 f:Frz C true ρ Z h vh ids Z1
 st:St C {base:=h.next,lo:=h.next,ok:=ok} ρ Z1 {h.freeze ids with next:=nx} {vh with wr:=vh.next} YD Z3 h3 V8
section
variable {ok ids:List Nat}{nx:Nat}
theorem Pre0.old (P:Pre0 C K m ρ Z Z1 h vh ok ids nx YD Z3 h3 V8){j:Nat}(hj:j < h.next)(hn:j∉ok):h3.get j=(h.freeze ids).get j:=P.st.keep j (Zsm hj hn)
theorem Pre0.live1 {j:Nat}{x:Nat×PO}(hx:h.get j=some x):∃o,(h.freeze ids).get j=some (x.1,o):=by
 obtain⟨Zc,o⟩:=x;rw[Xc,hx];cases o with
 |row g own xs=>
  try dsimp only
  split
  .exact ⟨_,rfl⟩
  .exact ⟨_,rfl⟩
 | _=>exact⟨_,rfl⟩
theorem Pre0.ext (P:Pre0 C K m ρ Z Z1 h vh ok ids nx YD Z3 h3 V8):Rd ρ (Zp h) YD (Zp h3):=by
 have:=P.st.ext
 have hv:Zp ({h.freeze ids with next:=nx}:PH)=Zp h:=by
  rw[<- Tg ids h];rfl
 rw[hv]at this;exact this
theorem Pre0.live (P:Pre0 C K m ρ Z Z1 h vh ok ids nx YD Z3 h3 V8){j:Nat}{x:Nat×PO}(hx:h.get j=some x):∃y,h3.get j=some y:=by
 obtain⟨c',h1,_⟩:=P.ext j x.1 (Zt.2 ⟨x.2,hx⟩);obtain⟨o,ho⟩:=Zt.1 h1;exact⟨_,ho⟩
theorem Pre0.rho (P:Pre0 C K m ρ Z Z1 h vh ok ids nx YD Z3 h3 V8){j:Nat}{x:Nat×PO}(hx:h.get j=some x)(hn:j∉ok):YD j=ρ j:=by
 obtain⟨c',h1,_,h3'⟩:=P.ext j x.1 (Zt.2 ⟨x.2,hx⟩);obtain⟨o,ho⟩:=Zt.1 h1;obtain⟨o1,ho1⟩:=Pre0.live1 (ids:=ids) hx;rw[P.old (P.H.lt _ _ hx) hn,ho1]at ho;cases ho;exact h3' rfl
theorem Pre0.away (P:Pre0 C K m ρ Z Z1 h vh ok ids nx YD Z3 h3 V8){j Zc:Nat}{o:PO}(hx:h.get j=some (Zc,o))(hn:j∉ok){vfF:Nat->Option Nat}(hE:Rd ρ (Zp h) YD vfF)(hle:Z.le ZF)(hz:Z (ρ j)=none->ZF (ρ j)=none)
  (hv:vhF.get=V8.get) (hvn:vh.next<=vhF.next):OR C YD vfF ZF h.next vhF j (YD j) o:=by
 rw[P.rho hx hn];obtain⟨o1,ho1⟩:=Pre0.live1 (ids:=ids) hx;have hg:V8.get (ρ j)=vh.get (ρ j):=P.st.vkeep j _ ho1 (Zsm (P.H.lt _ _ hx) hn);exact (P.H.obj _ _ _ hx).mono hE hle hz (fun _=>by rw[hv];exact hg) (Nat.le_refl _) hvn
theorem Pre0.zold (P:Pre0 C K m ρ Z Z1 h vh ok ids nx YD Z3 h3 V8){j Zc:Nat}{o:PO}(hx:h.get j=some (Zc,o))(hn:j∉ok)(hz:Z (ρ j)=none)(hi:∀g xs,o=.row g true xs->j∉ids):Z3 (ρ j)=none:=by
 have h1:=P.old (P.H.lt _ _ hx) hn;rw[Xc,hx]at h1
 have Vu:h3.get j=some (Zc,o):=by
  rw[h1];cases o with
  |row g own xs=>
   cases own with
   |true=>simp[hi g xs rfl]
   |false=>simp
  | _=>rfl
 have h2:=P.st.hp.obj _ _ _ Vu;rw[P.rho hx hn]at h2;cases h2 with
 |frozen g xs s ty a b c d e f=>
  cases P.H.obj _ _ _ hx with
  |frozen g2 xs2 s2 ty2 a2 b2=>rw[b2]at hz;cases hz
 | _=>assumption
theorem Pre0.marks (P:Pre0 C K m ρ Z Z1 h vh ok ids nx YD Z3 h3 V8){hF:PH}(hvg:vhF.get=V8.get)(hvn:vhF.next=V8.next)(hvw:vhF.wr=min vh.wr V8.wr)(hp:HP C YD ZF vhF hF)(hle:Z.le ZF)(hn:h.next<=hF.next)
  (Uv:∀i,i∈ok->hF.get i=h3.get i) (Qz:∀i,i < h.next->i∉ok->i∉ids->hF.get i=h.get i) (Zaq5:∀i,i < h.next->i∉ok->i∈ids->hF.get i=h.get i\/hF.get i=(h.freeze ids).get i) (S4:∀i x,h.next<=i->hF.get i=some x->h3.get i=some x):St C K ρ Z h vh YD ZF hF vhF:=by
 have Z8y:∀i,i < h.next->i∉ok->hF.get i=h.get i\/(i∈ids/\hF.get i=(h.freeze ids).get i):=fun i h1 h2=>by
  by_cases h4:i∈ids
  .rcases Zaq5 i h1 h2 h4 with h5 | h5
   .exact .inl h5
   .exact .inr ⟨h4,h5⟩
  .exact .inl (Qz i h1 h2 h4)
 have hvf:∀i,i < h.next->i∉ok->Zp hF i=Zp h i:=fun i h1 h2=>by
  rcases Z8y i h1 h2 with h4 | ⟨_,h4⟩
  .unfold Zp;rw[h4]
  .have:Zp (h.freeze ids) i=Zp h i:=by rw[Tg]
   rw[<- this];unfold Zp;rw[h4]
 have Sh:K.lo<=h.next:=by have:=P.hK.1;have:=P.hK.2;omega
 refine⟨hp,?_,hle,hn,by rw[hvn];exact P.st.vnext,by rw[hvw];exact Nat.min_le_left _ _,?_,?_,?_,?_,?_,?_⟩
 .intro i c hi;obtain⟨o,ho⟩:=Zt.1 hi;by_cases hk:i∈ok
  .obtain ⟨c',h1,h2,h4⟩:=P.ext i c hi;refine⟨c',?_,h2,h4⟩;unfold Zp at h1 ⊢;rw[Uv i hk];exact h1
  .exact ⟨c,by rw[hvf i (P.H.lt _ _ ho) hk];exact hi,Nat.le_refl _,fun _=>P.rho ho hk⟩
 .intro i hi;have hk:i∉ok:=fun hk=>by rw[(P.hok i hk).1]at hi;cases hi
  have hd:i∉ids:=fun hk=>by rw[P.hids i hk]at hi;cases hi
  have hilt:i < h.next:=by
   rcases Nat.lt_or_ge i h.next with h1 | h1
   .exact h1
   .unfold can at hi;rw[Bool.or_eq_false_iff]at hi;have:Nat.ble K.lo i=true:=by rw[Nat.ble_eq];omega
    rw[this]at hi;cases hi.1
  exact Qz i hilt hk hd
 .intro i Zc o hilo ho;have hilt:=P.H.lt _ _ ho;by_cases hk:i∈ok
  .rw [Uv i hk];obtain⟨o1,ho1⟩:=Pre0.live1 (ids:=ids) ho;have h1:=P.st.same i Zc o1 hilt ho1;have Zk5:=ho1;rw[Xc,ho]at Zk5;rcases h1 with h1 | ⟨g,own,xs,rfl,h1⟩ | h1
   .cases o with
    |row g own xs=>
     simp only at Zk5;split at Zk5
     .cases Zk5;exact .inr (.inl ⟨_,_,_,rfl,h1⟩)
     .cases Zk5;exact .inl h1
    | _=>simp only at Zk5;cases Zk5;exact .inl h1
   .cases o with
    |row g own xs=>
     simp only at Zk5;split at Zk5<;>cases Zk5<;>exact .inr (.inl ⟨_,_,_,rfl,h1⟩)
    | _=>simp only at Zk5;cases Zk5
   .exact .inr (.inr (by rw[hvw];exact Nat.le_trans (Nat.min_le_right _ _) h1))
  .rcases Z8y i hilt hk with h4 | ⟨hd,h4⟩
   .exact .inl (h4.trans ho)
   .rw [Xc,ho]at h4;cases o with
    |row g own xs=>
     simp only[hd,if_true]at h4;exact .inr (.inl ⟨_,_,_,rfl,h4⟩)
    | _=>exact .inl h4
 .intro i x hx
  have hx3:∃y,h3.get i=some y:=by
   rcases Nat.lt_or_ge i h.next with h1 | h1
   .by_cases hk:i∈ok
    .exact ⟨x,by rw[<- Uv i hk];exact hx⟩
    .have:Zp h i=some x.1:=by rw[<- hvf i h1 hk];exact Zt.2 ⟨x.2,hx⟩
     obtain⟨o,ho⟩:=Zt.1 this;exact P.live ho
   .exact ⟨x,S4 i x h1 hx⟩
  obtain⟨y,hy⟩:=hx3;rcases P.st.plc i y hy with⟨⟨z,hz⟩,h2⟩ | h2
  .refine .inl ⟨?_,h2⟩;have:Zp (h.freeze ids) i=some z.1:=Zt.2 ⟨z.2,hz⟩;rw[Tg]at this;obtain⟨o,ho⟩:=Zt.1 this;exact⟨_,ho⟩
  .exact .inr h2
 .intro i x hx hc;have hk:i∉ok:=fun hk=>by rw[(P.hok i hk).1]at hc;cases hc
  obtain⟨o1,ho1⟩:=Pre0.live1 (ids:=ids) hx;rw[hvg];exact P.st.vkeep i _ ho1 (Zsm (P.H.lt _ _ hx) hk)
 .intro q hq hn hi;rw[hvg];refine P.st.vnone q hq hn fun i x hx=>?_
  have:Zp (h.freeze ids) i=some x.1:=Zt.2 ⟨x.2,hx⟩;rw[Tg]at this;obtain⟨o,ho⟩:=Zt.1 this;exact hi i _ ho
 .intro b h1 h2 h3;rw[hvw];refine Nat.le_min.2 ⟨h2,P.st.low b h1 h1 fun i x hx hc=>?_⟩;have hx':(h.freeze ids).get i=some x:=hx;have:Zp h i=some x.1:=by rw[<- Tg (ids:=ids)];exact Zt.2 ⟨x.2,hx'⟩
  obtain⟨o,ho⟩:=Zt.1 this;have hlt:=P.H.lt _ _ ho
  have hk:i∈ok:=by
   unfold can at hc;rw[Bool.or_eq_true]at hc;rcases hc with hc | hc
   .rw [Nat.ble_eq]at hc;have hc':h.next<=i:=hc;omega
   .obtain ⟨j,hj,e⟩:=List.any_eq_true.1 hc;rw[Nat.beq_eq]at e;exact e ▸ hj
  exact h3 i _ ho (P.hok i hk).1
end
end
section
variable {C:Ctx}{Z Z' Z1 Z2 Z3 ZF:Vf}{ρ YB YD:Nat->Nat}{vf vf':Nat->Option Nat}{h h' h2 h3:PH}{vh vh' V8 vhF:VH}{K:Loc}{n m:Nat}{Xi:Yt}{Y4:SL}{x:PV}{v w:Value}{ok ids:List Nat}{nx:Nat}
theorem Pre0.restored (P:Pre0 C K m ρ Z Z1 h vh ok ids nx YD Z3 h3 V8)(hw:vh.next<=V8.wr)(b:Bool)(hb:b=true->∀i∈ids,i∉ok):
  ∃ZF,St C K ρ Z h vh ρ ZF (Yf h3 ok (if b then h else h.freeze ids)) vh:=by
 have Vu:∀i∈ok,∃Zc o,(h.freeze ids).get i=some (Zc,o)/\(h3.get i=some (Zc,o)\/∃g' own xs,o=.row g' own xs/\h3.get i=some (Zc,.row g' false xs)):=by
  intro i hi;obtain⟨hc,x,hx⟩:=P.hok i hi;obtain⟨o1,ho1⟩:=Pre0.live1 (ids:=ids) hx;refine⟨x.1,o1,ho1,?_⟩;rcases P.st.same i x.1 o1 (P.H.lt _ _ hx) ho1 with h1 | h1 | h1
  .exact .inl h1
  .exact .inr h1
  .have:=P.H.rho_lt hx;omega
 cases b with
 |false=>
  obtain⟨Z3c,h1,h2⟩:=Zks Vu;obtain⟨Za,fa⟩:=frz (bt:=false) ids P.H;have sa:=St.frz (K:=K) P.H fa (List.all_eq_true.2 P.hids);obtain⟨Zb,fb⟩:=frz (bt:=false) Z3c sa.hp;have sb:=St.frz (K:=K) sa.hp fb (List.all_eq_true.2 fun i hi=>(P.hok i (h1 i hi)).1);refine⟨Zb,?_⟩;simp only[Bool.false_eq_true,if_false];rw[h2];exact sa.trans P.H sb
 |true=>
  have hb:=hb rfl
  have Zajm:∀i∈ok,∃Zc o,h.get i=some (Zc,o)/\(h3.get i=some (Zc,o)\/∃g' own xs,o=.row g' own xs/\h3.get i=some (Zc,.row g' false xs)):=by
   intro i hi;obtain⟨Zc,o,h1,h2⟩:=Vu i hi;refine⟨Zc,o,?_,h2⟩;rw[Xc]at h1;split at h1
   .rename_i ver' g own xs hq;rw[if_neg fun hm=>hb i hm hi]at h1;rw[hq];exact h1
   .exact h1
  obtain⟨Z3c,h1,h2⟩:=Zks Zajm;obtain⟨Zb,fb⟩:=frz (bt:=false) Z3c P.H;have sb:=St.frz (K:=K) P.H fb (List.all_eq_true.2 fun i hi=>(P.hok i (h1 i hi)).1);refine⟨Zb,?_⟩;simp only[if_true];rw[h2];exact sb
theorem Pre0.clean (P:Pre0 C K m ρ Z Z1 h vh ok ids nx YD Z3 h3 V8)(hvg:vhF.get=V8.get)(hvn:vhF.next=V8.next)(hvw:vhF.wr=min vh.wr V8.wr)(Z3x:∀i∈ok,h3.belowAt h.next i=true)
  (hcl:∀i∈ids,i∉ok/\∃Zc g own xs,h.get i=some (Zc,.row g own xs)/\(own=true->Yu g 14 x=true/\∀j∈ok,∀Zc o,h3.get j=some (Zc,o)->Zgh g o=true)) (hx:R C YD (Zp h3) Z3 x w) (hxb:below h.next 4 x=true):
  ∃ZF,R C YD (Zp (Yf h3 ok h)) ZF x w/\St C K ρ Z h vh YD ZF (Yf h3 ok h) vhF:=by
 classical
 let Z7f:Nat->Prop:=fun Zy=>∃i∈ids,∃Zc g xs,h.get i=some (Zc,.row g true xs)/\Zy=ρ i
 let ZF:Vf:=fun Zy=>if Z7f Zy then none else Z3 Zy
 let G:List Nat:=ids.filterMap fun i=>match h.get i with | some (_,.row g true _)=>some g | _=>none
 have hG:∀g∈G,∃i∈ids,∃Zc xs,h.get i=some (Zc,.row g true xs):=by
  intro g hg;obtain⟨i,hi,e⟩:=List.mem_filterMap.1 hg;split at e
  .rename_i Zc g' xs hq;cases e;exact⟨i,hi,Zc,xs,hq⟩
  .cases e
 have hGm:∀i∈ids,∀Zc g xs,h.get i=some (Zc,.row g true xs)->g∈G:=by
  intro i hi Zc g xs hq;exact List.mem_filterMap.2 ⟨i,hi,by rw[hq]⟩
 have Zagq:∀i Zc g xs,h.get i=some (Zc,.row g true xs)->Z (ρ i)=none:=by
  intro i Zc g xs hq;cases P.H.obj _ _ _ hq with
  |row g xs Wg ty a b=>exact b
 have hB:Zs7 G Z3 ZF:=by
  intro Zy s hs;by_cases hl:Z7f Zy
  .obtain ⟨i,hi,Zc,g,xs,hq,rfl⟩:=hl;refine .inr ⟨g,hGm i hi Zc g xs hq,?_⟩;have hfz:=Zlo (ids:=ids) hi hq;cases P.f.hp.obj _ _ _ hfz with
   |frozen g xs s1 ty a b c d e f=>
    have:=P.st.sig _ _ b;rw[hs]at this;cases this;rcases P.f.new _ _ b with h1 | ⟨_,i',hi',ver',g',xs',hq',e1,e2⟩
    .rw [Zagq i _ _ _ hq]at h1;cases h1
    .have:i=i':=P.H.inj _ _ _ _ hq hq' e1;subst this;rw[hq]at hq';cases hq';exact e2
  .exact .inl (by simp only[ZF,hl,if_false];exact hs)
 have hle:Z.le ZF:=by
  intro Zy s hs;have hl:¬ Z7f Zy:=fun⟨i,hi,Zc,g,xs,hq,e⟩=>by rw[e,Zagq i _ _ _ hq]at hs;cases hs
  simp only[ZF,hl,if_false];exact P.st.sig _ _ (P.f.le _ _ hs)
 have Uv:∀i,i∈ok->(Yf h3 ok h).get i=h3.get i:=fun i hi=>by
  obtain⟨_,y,hy⟩:=P.hok i hi;obtain⟨z,hz⟩:=P.live hy;rw[U4,if_pos hi,hz]
 have Qz:∀i,i∉ok->(Yf h3 ok h).get i=h.get i:=fun i hi=>by rw[U4,if_neg hi]
 have Zyr:∀i,i < h.next->Zp (Yf h3 ok h) i=Zp h3 i:=by
  intro i hi;by_cases hk:i∈ok
  .unfold Zp;rw[Uv i hk]
  .have e1:Zp (Yf h3 ok h) i=Zp h i:=by unfold Zp;rw[Qz i hk]
   have e2:Zp h3 i=Zp (h.freeze ids) i:=by unfold Zp;rw[P.old hi hk]
   rw[e1,e2,Tg]
 have hE:Rd ρ (Zp h) YD (Zp (Yf h3 ok h)):=by
  intro i c hi;obtain⟨o,ho⟩:=Zt.1 hi;obtain⟨c',h1,h2,h4⟩:=P.ext i c hi;exact⟨c',by rw[Zyr i (P.H.lt _ _ ho)];exact h1,h2,h4⟩
 have Zfy:∀i y,(Yf h3 ok h).get i=some y->i < h.next/\∃z,h3.get i=some z:=by
  intro i y hy;by_cases hk:i∈ok
  .obtain ⟨_,q,hq⟩:=P.hok i hk;exact⟨P.H.lt _ _ hq,y,by rw[<- Uv i hk];exact hy⟩
  .rw [Qz i hk]at hy;exact⟨P.H.lt _ _ hy,P.live hy⟩
 have Z8c:∀j y,h3.get j=some y->j∈ok->¬ Z7f (YD j):=by
  intro j y hy hj ⟨i,hi,Zc,g,xs,hq,e⟩;have hik:=(hcl i hi).1;obtain⟨z,hz⟩:=P.live hq;rw[<- P.rho hq hik]at e;have:=P.st.hp.inj _ _ _ _ hy hz e;exact hik (this ▸ hj)
 have hp:HP C YD ZF vhF (Yf h3 ok h):=by
  refine⟨fun i y hy=>by rw[Uf];exact (Zfy i y hy).1,?_,fun i y hy=>by rw[hvn];exact P.st.hp.vlt i y (by rw[<- hvg];exact hy),?_,?_,?_⟩
  .intro i j y z hy hz e;obtain⟨_,y',hy'⟩:=Zfy i y hy;obtain⟨_,z',hz'⟩:=Zfy j z hz;exact P.st.hp.inj _ _ _ _ hy' hz' e
  .intro Zy s hs;simp only[ZF]at hs;split at hs
   .cases hs
   .rw [hvg];exact P.st.hp.sig _ _ hs
  .intro j Zc o hj;rw[Uf];by_cases hk:j∈ok
   .rw [Uv j hk]at hj;have hb:=Z3x j hk;simp only[PH.belowAt,hj]at hb;refine (P.st.hp.obj _ _ _ hj).back hb (fun i hi=>Zyr i hi) hB (fun g hg=>?_) (fun hz=>by simp only[ZF];split<;>first | rfl | exact hz) (fun s hs=>by simp only[ZF,Z8c j _ hj hk,if_false];exact hs) hvg hvn;obtain⟨i,hi,ver',xs,hq⟩:=hG g hg;obtain⟨_,Zov,g2,Zux,xs2,hq2,hT⟩:=hcl i hi;rw[hq]at hq2;cases hq2;exact (hT rfl).2 j hk Zc o hj
   .rw [Qz j hk]at hj;refine P.away hj hk hE hle (fun hz=>?_) hvg (by rw[hvn];exact P.st.vnext);by_cases hl:Z7f (ρ j)
    .simp only [ZF,hl,if_true]
    .simp only [ZF,hl,if_false];exact P.zold hj hk hz fun g xs e hi=>hl ⟨j,hi,Zc,g,xs,by rw[hj,e],rfl⟩
  .rw [hvw,hvn];exact Nat.le_trans (Nat.min_le_right _ _) P.st.hp.wr
 refine⟨ZF,?_,P.marks hvg hvn hvw hp hle (by rw[Uf];exact Nat.le_refl _) Uv (fun i _ hk _=>Qz i hk) (fun i _ hk _=>.inl (Qz i hk)) (fun i y hi hy=>absurd (Zfy i y hy).1 (by omega))⟩;refine Zaet hB (n:=14) (fun g hg=>?_) (Ziu (fun i hi=>Zyr i hi) 4 hxb hx);obtain⟨i,hi,ver',xs,hq⟩:=hG g hg;obtain⟨_,Zov,g2,Zux,xs2,hq2,hT⟩:=hcl i hi;rw[hq]at hq2;cases hq2;exact (hT rfl).1
theorem Pre0.frozen (P:Pre0 C K m ρ Z Z1 h vh ok ids nx YD Z3 h3 V8)(hvg:vhF.get=V8.get)(hvn:vhF.next=V8.next)(hvw:vhF.wr=min vh.wr V8.wr)(Z3x:∀i∈ok,h3.belowAt h.next i=true)
  (hx:R C YD (Zp h3) Z3 x w) (hxb:below h.next 4 x=true):
  ∃ZF,R C YD (Zp (Yf h3 ok (h.freeze ids))) ZF x w/\St C K ρ Z h vh YD ZF (Yf h3 ok (h.freeze ids)) vhF:=by
 have hle:Z.le Z3:=fun Zy s hs=>P.st.sig _ _ (P.f.le _ _ hs)
 have hB:Zs7 [] Z3 Z3:=fun Zy s hs=>.inl hs
 have Uv:∀i,i∈ok->(Yf h3 ok (h.freeze ids)).get i=h3.get i:=fun i hi=>by
  obtain⟨_,y,hy⟩:=P.hok i hi;obtain⟨z,hz⟩:=P.live hy;rw[U4,if_pos hi,hz]
 have Qz:∀i,i∉ok->(Yf h3 ok (h.freeze ids)).get i=(h.freeze ids).get i:=fun i hi=>by rw[U4,if_neg hi]
 have Zyr:∀i,i < h.next->Zp (Yf h3 ok (h.freeze ids)) i=Zp h3 i:=by
  intro i hi;by_cases hk:i∈ok
  .unfold Zp;rw[Uv i hk]
  .unfold Zp;rw[Qz i hk,P.old hi hk]
 have hE:Rd ρ (Zp h) YD (Zp (Yf h3 ok (h.freeze ids))):=by
  intro i c hi;obtain⟨o,ho⟩:=Zt.1 hi;obtain⟨c',h1,h2,h4⟩:=P.ext i c hi;exact⟨c',by rw[Zyr i (P.H.lt _ _ ho)];exact h1,h2,h4⟩
 have Uq:∀i y,(h.freeze ids).get i=some y->∃z,h.get i=some z:=by
  intro i y hy;have:Zp (h.freeze ids) i=some y.1:=Zt.2 ⟨y.2,hy⟩;rw[Tg]at this;obtain⟨o,ho⟩:=Zt.1 this;exact⟨_,ho⟩
 have Zfy:∀i y,(Yf h3 ok (h.freeze ids)).get i=some y->i < h.next/\h3.get i=some y:=by
  intro i y hy;by_cases hk:i∈ok
  .obtain ⟨_,q,hq⟩:=P.hok i hk;exact⟨P.H.lt _ _ hq,by rw[<- Uv i hk];exact hy⟩
  .rw [Qz i hk]at hy;obtain⟨z,hz⟩:=Uq i y hy;have hlt:=P.H.lt _ _ hz;exact⟨hlt,by rw[P.old hlt hk];exact hy⟩
 have Sj:(Yf h3 ok (h.freeze ids)).next=h.next:=by rw[Uf,X4]
 have hp:HP C YD Z3 vhF (Yf h3 ok (h.freeze ids)):=by
  refine⟨fun i y hy=>by rw[Sj];exact (Zfy i y hy).1,?_,fun i y hy=>by rw[hvn];exact P.st.hp.vlt i y (by rw[<- hvg];exact hy),?_,?_,?_⟩
  .intro i j y z hy hz e;exact P.st.hp.inj _ _ _ _ (Zfy i y hy).2 (Zfy j z hz).2 e
  .intro Zy s hs;rw[hvg];exact P.st.hp.sig _ _ hs
  .intro j Zc o hj;rw[Sj];have hj3:=(Zfy j _ hj).2;have O3:=P.st.hp.obj _ _ _ hj3;by_cases hk:j∈ok
   .have hb:=Z3x j hk;simp only[PH.belowAt,hj3]at hb;exact O3.back hb (fun i hi=>Zyr i hi) hB (fun g hg=>by simp at hg) id (fun s hs=>hs) hvg hvn
   .rw [Qz j hk]at hj;obtain⟨z,hz⟩:=Uq j _ hj;by_cases V7:∃g own xs,o=.row g own xs
    .obtain ⟨g,own,xs,rfl⟩:=V7;cases O3 with
     |row g xs Wg ty a b c d e=>exact .row g xs Wg ty a b (by rw[hvg];exact c) d e
     |frozen g xs s ty a b c d e f=>exact .frozen g xs s ty a b c d e f
    .have hz':h.get j=some (Zc,o):=by
      rw[Xc,hz]at hj;obtain⟨zv,zo⟩:=z;cases zo with
      |row g own xs=>
       simp only at hj;split at hj<;>cases hj<;>exact absurd ⟨_,_,_,rfl⟩ V7
      | _=>cases hj;exact hz
     exact P.away hz' hk hE hle (fun hz0=>P.zold hz' hk hz0 fun g xs e _=>V7 ⟨g,true,xs,e⟩) hvg (by rw[hvn];exact P.st.vnext)
  .rw [hvw,hvn];exact Nat.le_trans (Nat.min_le_right _ _) P.st.hp.wr
 refine⟨Z3,Ziu (fun i hi=>Zyr i hi) 4 hxb hx,P.marks hvg hvn hvw hp hle (by rw[Sj];exact Nat.le_refl _) Uv (fun i _ hk hd=>?_) (fun i _ hk hd=>.inr (Qz i hk)) (fun i y hi hy=>absurd (Zfy i y hy).1 (by omega))⟩;rw[Qz i hk,Xc];split
 .rename_i Zc g own xs hq;rw[if_neg hd,hq]
 .rfl
theorem Pre0.whole (P:Pre0 C K m ρ Z Z1 h vh ok ids nx YD Z3 h3 V8)(hvg:vhF.get=V8.get)(hvn:vhF.next=V8.next)(hvw:vhF.wr=min vh.wr V8.wr)(Sj:h.next<=nx):St C K ρ Z h vh YD Z3 h3 vhF:=by
 have hp:HP C YD Z3 vhF h3:=P.st.hp.sub rfl (fun i x hx=>P.st.hp.lt i x hx) hvg (by rw[hvn];exact Nat.le_refl _) (by rw[hvw,hvn];exact Nat.le_trans (Nat.min_le_right _ _) P.st.hp.wr);refine P.marks hvg hvn hvw hp (fun Zy s hs=>P.st.sig _ _ (P.f.le _ _ hs)) ?_ (fun _ _=>rfl) (fun i hi hk hd=>?_) (fun i hi hk _=>.inr (P.old hi hk)) (fun _ _ _ h=>h)
 .exact Nat.le_trans Sj P.st.next
 .rw [P.old hi hk,Xc];split
  .rename_i Zc g own xs hq;rw[if_neg hd,hq]
  .rfl
theorem Zxz (H:HP C ρ Z vh h)(hK:KOk K m h.next)(hok:∀i∈ok,can K i=true/\∃x,h.get i=some x)(hids:∀i∈ids,can K i=true)(f:Frz C true ρ Z h vh ids Z1)(H1:HP C ρ Z1 {vh with wr:=vh.next} {h.freeze ids with next:=nx})(Sj:h.next<=nx)
  (st:St C {base:=h.next,lo:=h.next,ok:=ok} ρ Z1 {h.freeze ids with next:=nx} {vh with wr:=vh.next} YD Z2 h2 V8) (hx:R C YD (Zp h2) Z2 x w) {r:PV×PH} (he:Wq h h2 ok ids x=some r):
  Zfm C K ρ Z h vh r.1 r.2 (some (Virt.settle false vh w V8)):=by
 unfold Wq at he;split at he
 .cases he
 .rename_i x' Z8k
  try dsimp only at he
  split at he
  .rename_i Zu;obtain⟨Z3,f3⟩:=frz (bt:=false) (ownT x) st.hp;have st3:=St.frz (K:={base:=h.next,lo:=h.next,ok:=ok}) st.hp f3 Zu;have stt:=st.trans H1 st3;have hx':R C YD (Zp (h2.freeze (ownT x))) Z3 x' w:=Z7o f3.hp (fun i Zc g own xs hm hg=>Zlo hm hg) Z8k (hx.mono st3.ext st3.sig);have P:Pre0 C K m ρ Z Z1 h vh ok ids nx YD Z3 (h2.freeze (ownT x)) V8:=⟨H,hK,hok,hids,f,stt⟩
   by_cases Td:flat 4 w=true/\vh.next<=V8.wr
   ·
    have Tm:Virt.settle false vh w V8=(w,vh):=by
     unfold Virt.settle;rw[if_pos];simp only[Bool.not_false,Bool.true_and,Bool.and_eq_true,Nat.ble_eq];exact Td
    rw[Tm];have Uq:=Znw (C:=C) (ρ:=YD) (vf:=Zp (h2.freeze (ownT x))) (Z:=Z3) (YB:=YD) (vf':=fun _=>none) (Z':=Z3) 4 Td.1 hx';split at he
    .split at he
     .rename_i hb hcl;cases he
      obtain⟨ZF,Xr⟩:=P.restored Td.2 true fun _ i hi=>by
       have:=List.all_eq_true.1 hcl i hi;rw[Bool.and_eq_true,Bool.not_eq_true']at this;intro hk;rw[List.any_eq_false]at this;exact this.1 i hk (by simp)
      exact⟨w,vh,ρ,ZF,rfl,(Znw 4 Td.1 hx').1,Xr⟩
     .cases he;obtain⟨ZF,Xr⟩:=P.restored Td.2 false (fun e=>by cases e);exact⟨w,vh,ρ,ZF,rfl,(Znw 4 Td.1 hx').1,Xr⟩
    .split at he
     .rename_i Zcd hev;exfalso;rw[Bool.or_eq_true]at hev;rcases hev with hev | hev
      .rw [Znx 4 x' Uq.2]at hev;cases hev
      .obtain ⟨i,hi,hev⟩:=List.any_eq_true.1 hev;rw[Bool.and_eq_true,Bool.not_eq_true']at hev;obtain⟨_,⟨Zc,o⟩,hxx⟩:=hok i hi;have hlt:=H.lt _ _ hxx;obtain⟨o1,ho1⟩:=Pre0.live1 (ids:=ids) hxx
       have Sk:Wj h.next o1=true:=by
        have h5:=hev.2;simp only[PH.belowAt,hxx]at h5;have ho2:=ho1;rw[Xc,hxx]at ho2;cases o with
        |row g own xs=>
         simp only at ho2;split at ho2<;>cases ho2<;>rfl
        | _=>simp only at ho2;cases ho2;exact h5
       rcases stt.same i Zc o1 hlt ho1 with h1 | ⟨g,own,xs,rfl,h1⟩ | h1
       .have h5:=hev.1;simp only[PH.belowAt,h1,Sk]at h5;cases h5
       .have h5:=hev.1;simp only[PH.belowAt,h1]at h5;cases h5
       .have:=H.rho_lt hxx;omega
     .cases he
   .have Tm:Virt.settle false vh w V8=(w,{V8 with wr:=min vh.wr V8.wr}):=by
     unfold Virt.settle;rw[if_neg];simp only[Bool.not_false,Bool.true_and,Bool.and_eq_true,Nat.ble_eq];exact Td
    rw[Tm];split at he
    .rename_i Zcd;rw[Bool.and_eq_true]at Zcd;have Z3x:∀i∈ok,(h2.freeze (ownT x)).belowAt h.next i=true:=fun i hi=>List.all_eq_true.1 Zcd.2 i hi
     split at he
     .rename_i hcl;cases he
      obtain⟨ZF,hR,Xr⟩:=P.clean (vhF:={V8 with wr:=min vh.wr V8.wr}) rfl rfl rfl Z3x (fun i hi=>by
       have h5:=List.all_eq_true.1 hcl i hi;rw[Bool.and_eq_true,Bool.not_eq_true']at h5;refine⟨fun hk=>?_,?_⟩
       .have:=h5.1;rw[List.any_eq_false]at this;exact this i hk (by simp)
       .have h6:=h5.2;split at h6
        .rename_i Zc g xs hq;refine⟨Zc,g,true,xs,hq,fun _=>?_⟩;rw[Bool.and_eq_true]at h6;refine⟨h6.1,fun j hj Zc o ho=>?_⟩;have:=List.all_eq_true.1 h6.2 j hj;rw[ho]at this;exact this
        .rename_i Zc g xs hq;exact⟨Zc,g,false,xs,hq,fun e=>by cases e⟩
        .cases h6) hx' Zcd.1
      exact⟨w,_,YD,ZF,rfl,hR,Xr⟩
     .cases he;obtain⟨ZF,hR,Xr⟩:=P.frozen (vhF:={V8 with wr:=min vh.wr V8.wr}) rfl rfl rfl Z3x hx' Zcd.1;exact⟨w,_,YD,ZF,rfl,hR,Xr⟩
    .split at he
     .cases he;exact⟨w,_,YD,Z3,rfl,hx',P.whole rfl rfl rfl Sj⟩
     .cases he
  .cases he
end
def Zfn (sl Y6:SL):Prop:=∃e,Y6.map Prod.fst=sl.map Prod.fst++e
theorem Zfn.refl (sl:SL):Zfn sl sl:=⟨[],by simp⟩
theorem Zfn.trans {a b c:SL}(h:Zfn a b)(k:Zfn b c):Zfn a c:=by
 obtain⟨e,h⟩:=h;obtain⟨f,k⟩:=k;exact⟨e++f,by rw[k,h,List.append_assoc]⟩
theorem Z9i (sl:SL)(d:Nat)(v:Value):Zfn sl (Zb0 sl d v):=by
 induction sl with
 |nil=>exact⟨[d],rfl⟩
 |cons x sl ih=>
  obtain⟨k,u⟩:=x;simp only[Zb0];cases Nat.beq k d with
  |true=>exact⟨[],by simp⟩
  |false=>
   obtain⟨e,he⟩:=ih;exact⟨e,by simp[he]⟩
theorem Zcf (sl:SL)(d:Option Nat)(v:Value):Zfn sl (putV sl d v):=by
 cases d with
 |none=>exact .refl _
 |some d=>exact Z9i sl d v
theorem Znl {C:Ctx}{cf yf:Nat->List Value->VH->Option (Value×VH)}{all:List Oper}:∀ {l:List Oper} {sl Y6:SL} {h h':VH},Zhm C cf yf all l sl h=some (Y6,h')->Zfn sl Y6
 | [],sl,Y6,h,h',he=>by simp only[Zhm,Option.some.injEq,Prod.mk.injEq]at he;rw[he.1];exact .refl _
 |o::l,sl,Y6,h,h',he=>by
  simp only[Zhm]at he;split at he
  .split at he
   .exact (Zcf _ _ _).trans (Znl he)
   .cases he
  .exact (Zcf _ _ _).trans (Znl he)
  .cases he
theorem Z4b {C:Ctx}{cf yf:Nat->List Value->VH->Option (Value×VH)}{B M:Nat}{all:List Oper}{masks:Array Nat}{o:Oper}{i:Nat}{st st':DSt}(he:Zda C cf yf B M all masks o i st=some st'):Zfn st.sl st'.sl:=by
 unfold Zda at he
 try dsimp only at he
 split at he
 .cases he
 .cases he;exact Zcf _ _ _
 .split at he
  .cases he;exact Zcf _ _ _
  .split at he
   .cases he
   .split at he
    .cases he
    .split at he<;>cases he<;>exact Zcf _ _ _
theorem Zqe {C:Ctx}{cf yf:Nat->List Value->VH->Option (Value×VH)}{B M:Nat}{all:List Oper}{masks:Array Nat}:∀ {l:List Oper} {i:Nat} {st st':DSt},Zb3 C cf yf B M all masks l i st=some st'->Zfn st.sl st'.sl
 | [],i,st,st',he=>by simp only[Zb3,Option.some.injEq]at he;subst he;exact .refl _
 |o::l,i,st,st',he=>by
  simp only[Zb3]at he;split at he
  .rename_i s hs;exact (Z4b hs).trans (Zqe he)
  .cases he
theorem Z4d {C:Ctx}{cf yf:Nat->List Value->VH->Option (Value×VH)}{ops:Array Oper}{sl Y6:SL}{h h':VH}(he:Zil C cf yf ops sl h=some (Y6,h')):Zfn sl Y6:=by
 unfold Zil at he
 try dsimp only at he
 split at he
 .cases he
 .rename_i st hp;have:=Zqe hp;split at he
  .cases he
  .split at he
   .cases he;exact this
   .cases he
theorem Zqd {sl Y6:SL}(h:Zfn sl Y6):(Y6.take sl.length).map Prod.fst=sl.map Prod.fst:=by
 obtain⟨e,he⟩:=h;rw[List.map_take,he];simp
theorem Z4c {C:Ctx}:∀(n:Nat) (Xs:Bool) (code:Code) (sl Y6:SL) (h h':VH) (x:Ex),Virt.exec C n Xs code sl h=some (x,Y6,h')->Zfn sl Y6:=by
 intro n
 induction n with
 |zero=>intro Xs code sl Y6 h h' x he;simp[Virt.exec]at he
 |succ n ih=>
  intro Xs code sl Y6 h h' x he;cases code with
  |region id ops draw=>
   rw[Virt.exec]at he
   try dsimp only at he
   rw[Option.map_eq_some_iff]at he;obtain⟨⟨a,b⟩,hx,e⟩:=he;simp only[Prod.mk.injEq]at e;obtain⟨_,rfl,_⟩:=e;cases draw with
   |true=>simp only[if_true]at hx;exact Z4d hx
   |false=>simp only[Bool.false_eq_true,if_false]at hx;exact Znl hx
  |seq a b=>
   rw[Virt.exec]at he
   try dsimp only at he
   split at he
   .rename_i Qr h1 hx;exact (ih _ _ _ _ _ _ _ hx).trans (ih _ _ _ _ _ _ _ he)
   .exact ih _ _ _ _ _ _ _ he
  |cond c a b=>
   rw[Virt.exec]at he
   try dsimp only at he
   split at he
   .exact ih _ _ _ _ _ _ _ he
   .exact ih _ _ _ _ _ _ _ he
   .cases he
  |block id b=>
   rw[Virt.exec]at he
   try dsimp only at he
   split at he
   .rename_i id' Qr h1 hx;have:=ih _ _ _ _ _ _ _ hx;split at he<;>cases he<;>exact this
   .exact ih _ _ _ _ _ _ _ he
  |loop b=>
   rw[Virt.exec]at he
   try dsimp only at he
   split at he
   .rename_i Qr h1 hx;have h1:=ih _ _ _ _ _ _ _ hx;have h2:=ih _ _ _ _ _ _ _ he;exact Zfn.trans ⟨[],by rw[Zqd h1];simp⟩ h2
   .exact ih _ _ _ _ _ _ _ he
  |rangeFunc f ps as bd=>
   rw[Virt.exec]at he
   try dsimp only at he
   split at he
   .split at he
    .split at he
     .split at he
      .cases he;exact .refl _
      .cases he
     .cases he
    .cases he
   .cases he
  |skip=>simp only[Virt.exec,Option.some.injEq,Prod.mk.injEq]at he;rw[he.2.1];exact .refl _
  |exit id=>simp only[Virt.exec,Option.some.injEq,Prod.mk.injEq]at he;rw[he.2.1];exact .refl _
  |ret=>simp only[Virt.exec,Option.some.injEq,Prod.mk.injEq]at he;rw[he.2.1];exact .refl _
  | _=>simp[Virt.exec]at he
theorem Zxy {sl:SL}{t:Nat}{v:Value}(h:Xf sl t=some v):t∈sl.map Prod.fst:=by
 induction sl with
 |nil=>simp[Xf]at h
 |cons x sl ih=>
  obtain⟨k,u⟩:=x;simp only[Xf]at h;cases e:Nat.beq k t with
  |true=>simp[Nat.eq_of_beq_eq_true e]
  |false=>rw[e]at h;simp[ih h]
theorem slGet_take {sl:SL}{t k:Nat}(h:t∈(sl.take k).map Prod.fst):Xf (sl.take k) t=Xf sl t:=by
 induction sl generalizing k with
 |nil=>simp
 |cons x sl ih=>
  cases k with
  |zero=>simp at h
  |succ k=>
   obtain⟨j,u⟩:=x;simp only[List.take_succ_cons,Xf];cases e:Nat.beq j t with
   |true=>rfl
   |false=>
    simp only[List.take_succ_cons,List.map_cons,List.mem_cons]at h;rcases h with h | h
    .subst h;simp at e
    .exact ih h
section
variable {C:Ctx}{Z Z' Z1:Vf}{ρ YB:Nat->Nat}{vf vf':Nat->Option Nat}{h h':PH}{vh vh':VH}{K:Loc}{n m:Nat}{Xi Zup:Yt}{Y4 vsl':SL}
theorem SR.keep (S0:SR C ρ vf Z Xi Y4)(S:SR C YB vf' Z' Zup vsl')(hg:Zfn Y4 vsl'):SR C YB vf' Z' (Zdc Xi Zup) (vsl'.take Y4.length):=by
 intro t x hx;unfold Zdc at hx;split at hx
 .rename_i y hy;obtain⟨v0,h0,_⟩:=S0 _ _ hy;obtain⟨v,h1,h2⟩:=S _ _ hx;refine⟨v,?_,h2⟩;rw[slGet_take]
  .exact h1
  .rw [Zqd hg];exact Zxy h0
 .cases hx
def Zxa (C:Ctx)(pex:Loc->Code->Yt->PH->Option (Ex×Yt×PH))(ex:Code->SL->VH->Option (Ex×SL×VH)):Prop:=
 ∀K m code Xi h x Zup h',pex K code Xi h=some (x,Zup,h')->Ud m code=true->∀(ρ:Nat->Nat) (Z:Vf) (vh:VH) (Y4:SL),HP C ρ Z vh h->KOk K m h.next->SR C ρ (Zp h) Z Xi Y4 ->
  ∃vsl' vh' YB Z',ex code Y4 vh=some (x,vsl',vh')/\SR C YB (Zp h') Z' Zup vsl'/\St C K ρ Z h vh YB Z' h' vh'
structure COkP (C:Ctx):Prop where
 ext:∀f a v,C.ext f a=some v->a=[]\/(C.raw f=true/\∃b k c,a=[.string b,.int k c])
 extP:∀f a v,C.ext f a=some v->(Zz 0 v).isSome=true
 code:∀f fn c,C.F f=some fn->fn.body=some c->Ud fn.ntmps c=true
theorem Zvb (H:HP C ρ Z vh h){ids:List Nat}(f:Frz C true ρ Z h vh ids Z1){nx:Nat}:∀ {args args':List PV} {Wl:List Value},(∀a∈args,∀i∈ownV a,i∈ids)->Vi (inlV h) args=some args' ->
  Rs C ρ (Zp h) Z args Wl->Rs C ρ (Zp ({h.freeze ids with next:=nx}:PH)) Z1 args' Wl
 | [],args',Wl,_,ha,hr=>by
   simp only[Vi,Option.some.injEq]at ha;subst ha;cases hr;exact .nil
 |a::l,args',Wl,hm,ha,hr=>by
  simp only[Vi]at ha;split at ha
  .rename_i y ys hy hys;cases ha;have hv:Zp ({h.freeze ids with next:=nx}:PH)=Zp (h.freeze ids):=rfl;cases hr with
   |cons h1 r=>
    refine .cons ?_ (Zvb H f (fun a ha=>hm a (by simp[ha])) hys r);rw[hv];have h1':=h1.mono (Rd.refl _ _) f.sig;rw[<- Tg ids h]at h1';exact Zh3 f.hp (fun i Zc g own xs hi hq=>Zlo (hm a (by simp) i hi) hq) hy h1'
  .cases ha
theorem Zf2 (b:ByteArray):Zit (b.data.toList.map UInt8.toNat)=b:=by
 unfold Zit
 have:(b.data.toList.map UInt8.toNat).map Nat.toUInt8=b.data.toList:=by
  rw[List.map_map]
  conv=>rhs;rw[<- List.map_id b.data.toList]
  refine List.map_congr_left fun x _=>?_
  simp[Function.comp]
 rw[this]
theorem Z45 {ρ:Nat->Nat}{vf:Nat->Option Nat}{Z:Vf}{s:List Nat}{v:Value}(h:R C ρ vf Z (.str s) v):v=.string (Zit s):=by
 cases h with
 |d h=>cases h;rw[Zf2]
theorem Zaar {ρ:Nat->Nat}{vf:Nat->Option Nat}{Z:Vf}{x:PV}{b:ByteArray}(h:R C ρ vf Z x (.string b)):∃s,x=.str s/\Zit s=b:=by
 cases h with
 |d h=>cases h;exact⟨_,rfl,Zf2 b⟩
theorem Z47 {ρ:Nat->Nat}{vf:Nat->Option Nat}{Z:Vf}{k:IntKind}{n:Int}{v:Value}(h:R C ρ vf Z (.int k n) v):v=.int k n:=by
 cases h with
 |d h=>cases h;rfl
theorem Z46 {ρ:Nat->Nat}{vf:Nat->Option Nat}{Z:Vf}{x:PV}{k:IntKind}{n:Int}(h:R C ρ vf Z x (.int k n)):x=.int k n:=by
 cases h with
 |d h=>cases h;rfl
theorem Zfb (hC:COkP C){pex:Loc->Code->Yt->PH->Option (Ex×Yt×PH)}{ex:Code->SL->VH->Option (Ex×SL×VH)}(hex:Zxa C pex ex)(K:Loc)(m:Nat):Ziz C K m (callF C pex) (Virt.callF C ex):=by
 intro f args h r he ρ Z vh Wl H hK Xt;unfold callF at he;unfold Virt.callF;split at he
 .rename_i x hx;cases he;unfold extP at hx;split at hx
  .cases Xt;simp only[Option.bind_eq_some_iff]at hx;obtain⟨w,h1,h2⟩:=hx;rw[h1];exact⟨w,vh,ρ,Z,rfl,.d (R6 0 w h2),St.refl H⟩
  .split at hx
   .cases Xt with
    |cons r1 r2=>
     cases r2 with
     |cons r2 r3=>
      cases r3;rw[Z45 r1,Z47 r2];simp only[Option.bind_eq_some_iff]at hx;obtain⟨w,h1,h2⟩:=hx;rw[h1];exact⟨w,vh,ρ,Z,rfl,.d (R6 0 w h2),St.refl H⟩
   .cases hx
  .cases hx
 rename_i Ur
 have Z8r:C.ext f Wl=none:=by
  cases e:C.ext f Wl with
  |none=>rfl
  |some w=>
   have hs:=hC.extP f _ w e;rcases hC.ext f _ w e with rfl | ⟨Xb,b,k,c,rfl⟩
   .cases Xt;simp only[extP,e,Option.bind_some]at Ur;rw[Ur]at hs;cases hs
   .cases Xt with
    |cons r1 r2=>
     cases r2 with
     |cons r2 r3=>
      cases r3;obtain⟨s,rfl,hb⟩:=Zaar r1;have h2:=Z46 r2;subst h2;simp only[extP,Xb,if_true,hb,e,Option.bind_some]at Ur;rw[Ur]at hs;cases hs
 rw[Z8r]
 try dsimp only
 split at he
 .cases he
 .rename_i fn hF;rw[hF]
  try dsimp only
  split at he
  .cases he
  .rename_i c Zqc;rw[Zqc]
   try dsimp only
   have Ua:=hC.code _ _ _ hF Zqc;split at he
   ·
    rename_i Xb;have H1:HP C ρ Z {vh with wr:=vh.next} {h with next:=h.next+fn.ntmps}:=H.sub rfl (fun i x hx=>Nat.lt_of_lt_of_le (H.lt i x hx) (Nat.le_add_right _ _)) rfl (Nat.le_refl _) (Nat.le_refl _);have Sh:K.lo<=h.next:=by have:=hK.1;have:=hK.2;omega
    have key:∀x Y6 h2,pex {base:=h.next,lo:=K.lo,ok:=K.ok} c (R1 0 args) {h with next:=h.next+fn.ntmps}=some (x,Y6,h2)->(match Ut C Y6 h2 fn.results.toList with
      |none=>none
      |some vs=>if h2.next=h.next+fn.ntmps/\Zid h2 h.next h2.next=true then some (Vh vs,{h2 with next:=h.next}) else some (Vh vs,h2))=some r ->
      ∃vsl' V8,ex c (Ub 0 Wl) {vh with wr:=vh.next}=some (x,vsl',V8)/\Zfm C K ρ Z h vh r.1 r.2 ((Zhe C vsl' V8 fn.results.toList).map fun vs=>Virt.settle (C.raw f) vh (Zoz vs) V8):=by
     intro x Y6 h2 hp hr;obtain⟨vsl',V8,YD,Z2,e1,S2,st⟩:=hex _ _ _ _ _ _ _ _ hp Ua ρ Z _ (Ub 0 Wl) H1 ⟨Sh,Nat.le_refl _⟩ (Ztj Xt);refine⟨vsl',V8,e1,?_⟩;split at hr
     .cases hr
     .rename_i vs Td;obtain⟨vvs,hv1,hv2⟩:=Zhf st.hp S2 Td;have Zvt:=Zu2 hv2;rw[hv1,Xb]
      have Tm:Virt.settle true vh (Zoz vvs) V8=(Zoz vvs,{V8 with wr:=min vh.wr V8.wr}):=by
       unfold Virt.settle;simp
      simp only[Option.map_some];rw[Tm]
      have base:∀hF:PH,hF.get=h2.get->h.next<=hF.next->(∀i x,hF.get i=some x->i < hF.next)->St C K ρ Z h vh YD Z2 hF {V8 with wr:=min vh.wr V8.wr}:=by
       intro hF hg hn hlt;have hvf:Zp hF=Zp h2:=by unfold Zp;rw[hg]
       refine⟨st.hp.sub hg (fun i x hx=>hlt i x (by rw[hg];exact hx)) rfl (Nat.le_refl _) (Nat.le_trans (Nat.min_le_right _ _) st.hp.wr),by rw[hvf];exact st.ext,st.sig,hn,st.vnext,Nat.min_le_left _ _,fun i hi=>by rw[hg];exact st.keep i hi,fun i Zc o Sh ho=>?_,fun i x hx=>st.plc i x (by rw[<- hg];exact hx),fun i x hx hc=>st.vkeep i x hx hc,fun q hq hn hi=>st.vnone q hq hn hi,fun b h1 h2 h3=>Nat.le_min.2 ⟨h2,st.low b h1 h1 h3⟩⟩;rw[hg];rcases st.same i Zc o Sh ho with h5 | h5 | h5
       .exact .inl h5
       .exact .inr (.inl h5)
       .exact .inr (.inr (Nat.le_trans (Nat.min_le_right _ _) h5))
      split at hr
      .rename_i hfr;cases hr
       have hlt:∀i x,h2.get i=some x->i < h.next:=by
        intro i x hx;rcases Nat.lt_or_ge i h.next with h5 | h5
        .exact h5
        .exfalso;have h6:=st.hp.lt i x hx;have h7:=List.all_eq_true.1 hfr.2 (i - h.next) (List.mem_range.2 (by omega));rw[show h.next+(i - h.next)=i by omega,hx]at h7;cases h7
       exact⟨Zoz vvs,_,YD,Z2,rfl,Zvt,base _ rfl (Nat.le_refl _) hlt⟩
      .cases hr;exact⟨Zoz vvs,_,YD,Z2,rfl,Zvt,base _ rfl (Nat.le_trans (Nat.le_add_right _ _) st.next) st.hp.lt⟩
    split at he
    .rename_i Y6 h2 hp;obtain⟨vsl',V8,e1,e2⟩:=key _ _ _ hp he;rw[e1];exact e2
    .rename_i Y6 h2 hp;obtain⟨vsl',V8,e1,e2⟩:=key _ _ _ hp he;rw[e1];exact e2
    .cases he
   .rename_i Xb
    try dsimp only at he
    split at he
    .cases he
    .rename_i args' Z8k;split at he
     .rename_i Zek;rw[Bool.and_eq_true]at Zek;obtain⟨Z1,fz⟩:=frz (bt:=true) (args.flatMap ownV) H;have Sj:h.next<=h.next+fn.ntmps:=Nat.le_add_right _ _;have H1:HP C ρ Z1 {vh with wr:=vh.next} {h.freeze (args.flatMap ownV) with next:=h.next+fn.ntmps}:=fz.hp.sub rfl (fun i x hx=>by have:=fz.hp.lt i x hx;rw[X4]at this;exact Nat.lt_of_lt_of_le this Sj) rfl (Nat.le_refl _) (Nat.le_refl _);have Zy7:=Zvb (nx:=h.next+fn.ntmps) H fz (fun a ha i hi=>List.mem_flatMap.2 ⟨a,ha,hi⟩) Z8k Xt
      have hok:∀i∈reach h 4 (args'.flatMap (refs 3)),can K i=true/\∃x,h.get i=some x:=fun i hi=>by
       have:=List.all_eq_true.1 Zek.1 i hi;rw[Bool.and_eq_true]at this;exact⟨this.1,Option.isSome_iff_exists.1 this.2⟩
      have hids:∀i∈args.flatMap ownV,can K i=true:=fun i hi=>List.all_eq_true.1 Zek.2 i hi
      have hrw:C.raw f=false:=by simpa using Xb
      have key:∀x Y6 h2,pex {base:=h.next,lo:=h.next,ok:=reach h 4 (args'.flatMap (refs 3))} c (R1 0 args') {h.freeze (args.flatMap ownV) with next:=h.next+fn.ntmps}=some (x,Y6,h2) ->
        (match Ut C Y6 h2 fn.results.toList with
        |none=>none
        |some vs=>Wq h h2 (reach h 4 (args'.flatMap (refs 3))) (args.flatMap ownV) (Vh vs))=some r ->
        ∃vsl' V8,ex c (Ub 0 Wl) {vh with wr:=vh.next}=some (x,vsl',V8)/\Zfm C K ρ Z h vh r.1 r.2 ((Zhe C vsl' V8 fn.results.toList).map fun vs=>Virt.settle (C.raw f) vh (Zoz vs) V8):=by
       intro x Y6 h2 hp hr;obtain⟨vsl',V8,YD,Z2,e1,S2,st⟩:=hex _ _ _ _ _ _ _ _ hp Ua ρ Z1 _ (Ub 0 Wl) H1 ⟨Nat.le_refl _,Nat.le_refl _⟩ (Ztj Zy7);refine⟨vsl',V8,e1,?_⟩;split at hr
       .cases hr
       .rename_i vs Td;obtain⟨vvs,hv1,hv2⟩:=Zhf st.hp S2 Td;rw[hv1,hrw];exact Zxz H hK hok hids fz H1 Sj st (Zu2 hv2) hr
      split at he
      .rename_i Y6 h2 hp;obtain⟨vsl',V8,e1,e2⟩:=key _ _ _ hp he;rw[e1];exact e2
      .rename_i Y6 h2 hp;obtain⟨vsl',V8,e1,e2⟩:=key _ _ _ hp he;rw[e1];exact e2
      .cases he
     .cases he
theorem Z2y {ps:List Nat}:∀ {Xi:Yt} {Y4:SL} {xs:List PV} {vs:List Value},SR C ρ vf Z Xi Y4->Rs C ρ vf Z xs vs->SR C ρ vf Z (Zd1 Xi (ps.zip xs)) (Zd3 Y4 (ps.zip vs)):=by
 induction ps with
 |nil=>intro Xi Y4 xs vs S _;simpa[Zd1,Zd3]using S
 |cons p ps ih=>
  intro Xi Y4 xs vs S h;cases h with
  |nil=>simpa[Zd1,Zd3]using S
  |cons h r=>simp only[List.zip_cons_cons,Zd1,Zd3];exact ih (S.put p h) r
theorem St.wider {K K0:Loc}{Z':Vf}(st:St C K0 ρ Z h vh YB Z' h' vh')(Sh:K.lo<=K0.lo)(hc:∀i,can K0 i=true->can K i=true):St C K ρ Z h vh YB Z' h' vh':=
 ⟨st.hp,st.ext,st.sig,st.next,st.vnext,st.wr,fun i hi=>st.keep i (by cases e:can K0 i with | false=>rfl | true=>rw[hc i e]at hi;cases hi),fun i Zc o hl=>st.same i Zc o (Nat.lt_of_lt_of_le hl Sh),st.plc,fun i x hx hi=>st.vkeep i x hx (by cases e:can K0 i with | false=>rfl | true=>rw[hc i e]at hi;cases hi),st.vnone,fun b h1 h2 h3=>st.low b h1 h2 fun i x hx hi=>h3 i x hx (hc i hi)⟩
theorem Zjd (H:HP C ρ Z vh h){i Zc:Nat}{ob0 ob:PO}{vo:Option VO}(hi:h.get i=some (Zc,ob0))(Sh:K.lo<=i)(hz:Z (ρ i)=none)
  (ho:∀YB vf',Rd ρ (Zp h) YB vf'->OR C YB vf' Z h.next (vh.put (ρ i) vo) i (ρ i) ob):
  St C K ρ Z h vh (fun j=>if j=i then ρ i else ρ j) Z (h.put i Zc ob) (vh.put (ρ i) vo):=by
 refine HP.change H (.inl rfl) (H.lt _ _ hi) (by unfold can;rw[Bool.or_eq_true,Nat.ble_eq];exact .inl Sh) (fun w o' hw=>?_) (H.rho_lt hi) (.inl ⟨_,hi,rfl⟩) (Nat.le_refl _) (Nat.le_refl _) (fun h1 _=>by omega) (fun q hq _=>?_) (fun _ _=>.inl hz) hz (fun q y hq=>?_) (fun YB vf' _ _ he=>ho YB vf' he)
 .rw [hi]at hw;cases hw;exact⟨Nat.le_refl _,fun _=>rfl⟩
 .simp [VH.put,Sy hq]
 .by_cases e:q=ρ i
  .subst e;exact H.rho_lt hi
  .simp only [VH.put,Sy e,cond_false]at hq;exact H.vlt _ _ hq
theorem Zmj {i:Nat}:(fun j=>if j=i then ρ i else ρ j)=ρ:=by
 funext j;by_cases e:j=i
 .simp [e]
 .simp [e]
theorem Zxo {pex:Loc->Code->Yt->PH->Option (Ex×Yt×PH)}{ex:Code->SL->VH->Option (Ex×SL×VH)}(hex:Zxa C pex ex)(K:Loc)(m:Nat):YfSim C K m (Pure.yieldF pex) (Virt.yieldF ex):=by
 intro l Zc args h r he ρ Z vh Wl w H hK Xt hw;unfold Pure.yieldF at he;split at he
 .rename_i w0 K0 Uc ps as bd hl;split at he
  .rename_i hc;obtain⟨rfl,hlen,Sh,hok⟩:=hc
   have hwv:w=.func (.yield (ρ l)) #[] #[]:=by
    cases hw with
    |d h=>cases h
    |yield i Zc c p hi hv ha=>
     rw[Zt.2 ⟨_,hl⟩]at hi;cases hi;rw[ha rfl]
   refine⟨ρ l,hwv,?_⟩;rw[Nat.ble_eq]at Sh;cases H.obj _ _ _ hl with
   |loop K0 n sl Y4 ps as bd hz hg hsl hK0 hb h1 h2=>
    unfold Virt.yieldF;rw[hg]
    try dsimp only
    rw[if_pos (by rw[Xt.length];exact hlen)];have hKl:K.lo<=l:=by omega
    have Zu:∀i,can K0 i=true->can K i=true:=by
     intro i hi;unfold can at hi;rw[Bool.or_eq_true]at hi;rcases hi with hi | hi
     .rw [Nat.ble_eq]at hi;unfold can;rw[Bool.or_eq_true,Nat.ble_eq];exact .inl (by omega)
     .obtain ⟨y,hy,e⟩:=List.any_eq_true.1 hi;rw[Nat.beq_eq]at e;subst e;exact List.all_eq_true.1 hok _ hy
    have st0:=Zjd (K:=K) (ob:=.gone) (vo:=none) H hl hKl hz fun YB vf' _=>.gone (H.rho_lt hl) hz
    rw[Zmj]at st0;have hKOk:KOk K0 n h.next:=⟨hK0,by have:=H.lt _ _ hl;omega⟩
    have S0:=Z2y (ps:=ps) (hsl.mono st0.ext st0.sig) (Rs.mono st0.ext st0.sig Xt);split at he
    .rename_i Qr h1' hx1;obtain⟨Zfe,vh1,YE,Z1,a1,a2,a3⟩:=hex _ _ _ _ _ _ _ _ hx1 h1 ρ Z _ _ st0.hp hKOk S0;rw[a1]
     try dsimp only
     split at he
     .rename_i sl2 h2' hx2;obtain⟨vsl2,V8,YD,Z2,b1,b2,b3⟩:=hex _ _ _ _ _ _ _ _ hx2 h2 YE Z1 _ _ a3.hp ⟨hKOk.1,Nat.le_trans hKOk.2 a3.next⟩ a2;rw[b1]
      try dsimp only
      split at he
      .rename_i w2 Z8m;split at he
       .rename_i e;subst e;cases he;have st2:St C K ρ Z h vh YD Z2 h2' V8:=(st0.trans H (a3.wider Sh Zu)).trans H (b3.wider Sh Zu)
        have Zfj:YD l=ρ l:=by
         obtain⟨c',q1,_,q3⟩:=st2.ext l w2 (Zt.2 ⟨_,hl⟩);rw[Zt.2 ⟨_,Z8m⟩]at q1;cases q1;exact q3 rfl
        have hz2:Z2 (YD l)=none:=by
         cases st2.hp.obj _ _ _ Z8m with
         |gone q1 q2=>exact q2
        have st3:=Zjd (K:=K) (ob:=.loop K0 Uc ps as bd) (vo:=some (.loop Y4 ps as bd)) st2.hp Z8m hKl hz2 fun YB vf' hE=>.loop K0 n Uc Y4 ps as bd hz2 (by simp[VH.put]) ((hsl.mono st2.ext st2.sig).mono hE (Vf.le.refl _)) hK0 hb h1 h2
        rw[Zmj,Zfj]at st3;exact⟨.bool true,_,_,_,rfl,.d (.bool true),st2.trans H st3⟩
       .cases he
      .cases he
     .cases he
    .cases he
  .cases he
 .cases he
def Ziy (C:Ctx)(pcf:CF)(cf:Nat->List Value->VH->Option (Value×VH)):Prop:=
 ∀K f args h v h',pcf K f args h=some (v,h')->C.raw f=false->args.flatMap ownV=[]->args.flatMap (refs 3)=[]->Xy 4 v=true ->
  h'=h/\∀(ρ:Nat->Nat) (Z:Vf) (vh:VH) (Wl:List Value),HP C ρ Z vh h->vh.wr=vh.next->Rs C ρ (Zp h) Z args Wl->∃w,cf f Wl vh=some (w,vh)/\R C ρ (Zp h) Z v w
theorem Z3a {h:PH}{a:PV}(ha:ownV a=[]):inlV h a=some a:=by
 have hc:∀cs:List PV,cs.flatMap Zdi=[]->Vi (Zee h) cs=some cs:=by
  intro cs
  induction cs with
  |nil=>intro _;rfl
  |cons c cs ih=>
   intro hh;rw[List.flatMap_cons,List.append_eq_nil_iff]at hh;simp only[Vi,ih hh.2];cases c<;>simp_all[Zdi,Zee]
 cases a with
 |agg cs=>simp only[inlV];rw[hc cs ha];rfl
 |own=>simp[ownV,Zdi]at ha
 | _=>rfl
theorem Zpx {h:PH}:∀ {args:List PV},args.flatMap ownV=[]->Vi (inlV h) args=some args
 | [],_=>rfl
 |a::l,ho=>by
  rw[List.flatMap_cons,List.append_eq_nil_iff]at ho;simp only[Vi,Z3a ho.1,Zpx ho.2]
theorem Z6q (hC:COkP C){pex:Loc->Code->Yt->PH->Option (Ex×Yt×PH)}{ex:Code->SL->VH->Option (Ex×SL×VH)}(hex:Zxa C pex ex):Ziy C (Pure.callF C pex) (Virt.callF C ex):=by
 intro K f args h v h' he Xb ho hr hv
 have key:h'=h/\Pure.callF C pex {base:=h.next,lo:=h.next,ok:=[]} f args h=some (v,h):=by
  unfold Pure.callF at he ⊢;cases hx:extP C f args with
  |some w=>
   rw[hx]at he;cases he;exact⟨rfl,rfl⟩
  |none=>
   rw[hx]at he;simp only at he ⊢;cases hF:C.F f with
   |none=>rw[hF]at he;cases he
   |some fn=>
    rw[hF]at he;simp only at he ⊢;cases hb:fn.body with
    |none=>rw[hb]at he;cases he
    |some c=>
     rw[hb]at he;simp only[Xb,Bool.false_eq_true,if_false,Zpx ho,ho,hr,reach,List.all_nil,Bool.and_true,if_true]at he ⊢
     have Tm:∀h2 x,Wq h h2 [] [] x=some (v,h')->h'=h:=by
      intro h2 x hs;unfold Wq at hs;split at hs
      .cases hs
      .rename_i v' hi;simp only[List.any_nil,Bool.or_false,List.all_nil,Bool.and_true,Yf,PH.freeze,if_true]at hs;split at hs
       .split at hs
        .simp only [Option.some.injEq,Prod.mk.injEq]at hs;exact hs.2.symm
        .split at hs
         .rename_i hf;simp only[Option.some.injEq,Prod.mk.injEq]at hs;rw[hs.1,Znx 4 v hv]at hf;cases hf
         .cases hs
       .cases hs
     have Zaqh:∀(q:Option (Ex×Yt×PH)),(match q with
       |some (.normal,Y6,h2) | some (.ret,Y6,h2)=>
        (match Ut C Y6 h2 fn.results.toList with
        |none=>none
        |some vs=>Wq h h2 [] [] (Vh vs))
       | _=>none)=some (v,h')->h'=h:=by
      intro q hq;split at hq
      .split at hq
       .cases hq
       .exact Tm _ _ hq
      .split at hq
       .cases hq
       .exact Tm _ _ hq
      .cases hq
     have e:=Zaqh _ he;subst e;exact⟨rfl,he⟩
 obtain⟨rfl,hc⟩:=key;refine⟨rfl,fun ρ Z vh Wl H hw ha=>?_⟩;obtain⟨w,vh1,YE,Z1,q1,q2,q3⟩:=Zfb hC hex {base:=h'.next,lo:=h'.next,ok:=[]} 0 f args h' _ hc ρ Z vh Wl H ⟨Nat.le_refl _,Nat.le_refl _⟩ ha;have hfw:flat 4 w=true:=Zaas 4 hv q2
 have hlow:vh.next<=vh1.wr:=q3.low vh.next (Nat.le_refl _) (by rw[hw];exact Nat.le_refl _) fun i x hx Zu=>by
  exfalso;have:=H.lt i x hx;unfold can at Zu;simp only[List.any_nil,Bool.or_false,Nat.ble_eq]at Zu;omega
 have Vu:vh1=vh:=by
  unfold Virt.callF at q1;split at q1
  .rename_i w' _;simp only[Option.some.injEq,Prod.mk.injEq]at q1;exact q1.2.symm
  .split at q1
   .cases q1
   .split at q1
    .cases q1
    .have Tm:∀(vv:Value) (h2:VH),Virt.settle (C.raw f) vh vv h2=(w,vh1)->vh1=vh:=by
      intro vv h2 hs;unfold Virt.settle at hs;split at hs
      .simp only [Prod.mk.injEq]at hs;exact hs.2.symm
      .rename_i hn;simp only[Prod.mk.injEq]at hs;obtain⟨rfl,rfl⟩:=hs;exfalso;apply hn;simp only[Xb,hfw,Bool.not_false,Bool.true_and,Nat.ble_eq];exact Nat.le_trans hlow (Nat.min_le_right _ _)
     split at q1
     .rw [Option.map_eq_some_iff]at q1;obtain⟨vs,_,hs⟩:=q1;exact Tm _ _ hs
     .rw [Option.map_eq_some_iff]at q1;obtain⟨vs,_,hs⟩:=q1;exact Tm _ _ hs
     .cases q1
 subst Vu;exact⟨w,q1,(Znw 4 hfw q2).1⟩
def Zew (C:Ctx)(pcf:CF)(cf:Nat->List Value->VH->Option (Value×VH)):Prop:=
 ∀K f args h v h',pcf K f args h=some (v,h')->C.raw f=false->∀args',Vi (inlV h) args=some args'->∀(ρ:Nat->Nat) (Z:Vf) (vh:VH) (Wl:List Value),HP C ρ Z vh h->Rs C ρ (Zp h) Z args Wl ->
  ∀w vh1,cf f Wl vh=some (w,vh1)->∀u,u∉reach h 4 (args'.flatMap (refs 3))++args.flatMap ownV->(∃x,h.get u=some x)->vh1.get (ρ u)=vh.get (ρ u)/\h'.get u=h.get u
theorem Z2k (hC:COkP C){pex:Loc->Code->Yt->PH->Option (Ex×Yt×PH)}{ex:Code->SL->VH->Option (Ex×SL×VH)}(hex:Zxa C pex ex):Zew C (Pure.callF C pex) (Virt.callF C ex):=by
 intro K f args h v h' he Xb args' hm ρ Z vh Wl H ha w vh1 hw u hu hx
 have key:Pure.callF C pex {base:=h.next,lo:=h.next,ok:=reach h 4 (args'.flatMap (refs 3))++args.flatMap ownV} f args h=some (v,h'):=by
  unfold Pure.callF at he ⊢;cases hx:extP C f args with
  |some w=>rw[hx]at he;exact he
  |none=>
   rw[hx]at he;simp only at he ⊢;cases hF:C.F f with
   |none=>rw[hF]at he;cases he
   |some fn=>
    rw[hF]at he;simp only at he ⊢;cases hb:fn.body with
    |none=>rw[hb]at he;cases he
    |some c=>
     rw[hb]at he;simp only[Xb,Bool.false_eq_true,if_false,hm]at he ⊢;split at he
     .rename_i hok;rw[Bool.and_eq_true,List.all_eq_true,List.all_eq_true]at hok;rw[if_pos]
      .exact he
      .rw [Bool.and_eq_true,List.all_eq_true,List.all_eq_true]
       have hc:∀i,i∈reach h 4 (args'.flatMap (refs 3))++args.flatMap ownV->can {base:=h.next,lo:=h.next,ok:=reach h 4 (args'.flatMap (refs 3))++args.flatMap ownV} i=true:=fun i hi=>by
        unfold can;rw[Bool.or_eq_true];exact .inr (List.any_eq_true.2 ⟨i,hi,Nat.beq_refl i⟩)
       refine⟨fun i hi=>?_,fun i hi=>hc i (List.mem_append_right _ hi)⟩;have:=hok.1 i hi;rw[Bool.and_eq_true]at this ⊢;exact⟨hc i (List.mem_append_left _ hi),this.2⟩
     .cases he
 obtain⟨w',V8,YE,Z1,q1,q2,q3⟩:=Zfb hC hex {base:=h.next,lo:=h.next,ok:=reach h 4 (args'.flatMap (refs 3))++args.flatMap ownV} 0 f args h _ key ρ Z vh Wl H ⟨Nat.le_refl _,Nat.le_refl _⟩ ha;rw[hw]at q1;cases q1;obtain⟨x,hx⟩:=hx
 suffices hcn:can {base:=h.next,lo:=h.next,ok:=reach h 4 (args'.flatMap (refs 3))++args.flatMap ownV} u=false from ⟨q3.vkeep u x hx hcn,q3.keep u hcn⟩
 have hlt:=H.lt u x hx;unfold can;rw[Bool.or_eq_false_iff];constructor
 .rw [<- Bool.not_eq_true,Nat.ble_eq];show ¬ h.next<=u;omega
 .rw [<- Bool.not_eq_true];intro hh;obtain⟨i,hi,hb⟩:=List.any_eq_true.1 hh;rw[Nat.beq_eq]at hb;subst hb;exact hu hi
def Z2f (C:Ctx):Prop:=∀(K:Loc) (n:Nat) (pcf:CF) (pyf:YF) (cf yf:Nat->List Value->VH->Option (Value×VH)),Ziz C K n pcf cf->YfSim C K n pyf yf->Ziy C pcf cf->Zew C pcf cf->Za7 cf->Za7 yf->∀(ops:Array Oper) (Xi:Yt) (Y4:SL) (h:PH) (vh:VH) (ρ:Nat->Nat) (Z:Vf) (q:Yt×PH),HP C ρ Z vh h ->
 SR C ρ (Zp h) Z Xi Y4->KOk K n h.next->(∀o∈ops.toList,∀d,o.dst=some d->d < n)->Zsj ops=true->Zcj C pcf pyf K ops Xi h=some q->∃vsl' vh' YB Z',Zil C cf yf ops Y4 vh=some (vsl',vh')/\SR C YB (Zp q.2) Z' q.1 vsl'/\St C K ρ Z h vh YB Z' q.2 vh'
theorem Z9k (hC:COkP C)(hD:Z2f C):∀n Xs,Zxa C (fun K=>Pure.exec C n K Xs) (Virt.exec C n Xs):=by
 intro n
 induction n with
 |zero=>intro Xs K m code Xi h x Zup h' he;simp[Pure.exec]at he
 |succ n ih=>
  intro Xs K m code Xi h x Zup h' he Ua ρ Z vh Y4 H hK S;replace he:Pure.exec C (n+1) K Xs code Xi h=some (x,Zup,h'):=he;have hcf:=Zfb hC (ih true) K m;have hyf:=Zxo (ih false) K m;have hi:=ih Xs;cases code with
  |skip=>rw[Pure.exec]at he;cases he;exact⟨Y4,vh,ρ,Z,by rw[Virt.exec],S,St.refl H⟩
  |exit id=>rw[Pure.exec]at he;cases he;exact⟨Y4,vh,ρ,Z,by rw[Virt.exec],S,St.refl H⟩
  |ret=>rw[Pure.exec]at he;cases he;exact⟨Y4,vh,ρ,Z,by rw[Virt.exec],S,St.refl H⟩
  |region id ops draw=>
   rw[Pure.exec]at he
   try dsimp only at he
   rw[Option.map_eq_some_iff]at he;obtain⟨⟨a,b⟩,hx,e⟩:=he;simp only[Prod.mk.injEq]at e;obtain⟨rfl,rfl,rfl⟩:=e
   have hd:∀o∈ops.toList,∀d,o.dst=some d->d < m:=fun o ho d hd=>by
    have:=List.all_eq_true.1 (by simp only[Ud,Bool.and_eq_true]at Ua;exact Ua.1) o ho;simp only[hd]at this;exact Nat.blt_eq ▸ this
   rw[Virt.exec]
   try dsimp only
   cases draw with
   |true=>
    simp only[if_true]at hx ⊢;obtain⟨vsl',vh',YB,Z',a1,a2,a3⟩:=hD K m _ _ _ _ hcf hyf (Z6q hC (ih true)) (Z2k hC (ih true)) (Vx.callF (Vx.exec n true)) (Vx.yieldF (Vx.exec n false)) ops Xi Y4 h vh ρ Z _ H S hK hd (by simp only[Ud,Bool.and_eq_true,Bool.not_true,Bool.false_or]at Ua;exact Ua.2) hx;exact⟨vsl',vh',YB,Z',by rw[a1];rfl,a2,a3⟩
   |false=>
    simp only[Bool.false_eq_true,if_false]at hx ⊢;obtain⟨vsl',vh',YB,Z',a1,a2,a3⟩:=Z6u hcf hyf ops.toList H S hK hd hx;exact⟨vsl',vh',YB,Z',by rw[a1];rfl,a2,a3⟩
  |seq a b=>
   simp only[Ud,Bool.and_eq_true]at Ua;rw[Pure.exec]at he
   try dsimp only at he
   rw[Virt.exec]
   try dsimp only
   split at he
   .rename_i Qr h1 hx;obtain⟨Zfe,vh1,YE,Z1,a1,a2,a3⟩:=hi _ _ _ _ _ _ _ _ hx Ua.1 ρ Z vh Y4 H hK S;rw[a1]
    try dsimp only
    obtain⟨vsl2,V8,YD,Z2,b1,b2,b3⟩:=hi _ _ _ _ _ _ _ _ he Ua.2 YE Z1 vh1 Zfe a3.hp ⟨hK.1,Nat.le_trans hK.2 a3.next⟩ a2;exact⟨vsl2,V8,YD,Z2,b1,b2,a3.trans H b3⟩
   .rename_i Yp;obtain⟨Zfe,vh1,YE,Z1,a1,a2,a3⟩:=hi _ _ _ _ _ _ _ _ he Ua.1 ρ Z vh Y4 H hK S;rw[a1];cases x with
    |normal=>exact absurd he (Yp _ _)
    |exit id=>exact⟨Zfe,vh1,YE,Z1,rfl,a2,a3⟩
    |ret=>exact⟨Zfe,vh1,YE,Z1,rfl,a2,a3⟩
  |cond c a b=>
   simp only[Ud,Bool.and_eq_true]at Ua;rw[Pure.exec]at he
   try dsimp only at he
   rw[Virt.exec]
   try dsimp only
   split at he
   .rename_i hc;obtain⟨w,h1,h2⟩:=Zj S hc;rw[h1,h2.bool_inv];exact hi _ _ _ _ _ _ _ _ he Ua.1 ρ Z vh Y4 H hK S
   .rename_i hc;obtain⟨w,h1,h2⟩:=Zj S hc;rw[h1,h2.bool_inv];exact hi _ _ _ _ _ _ _ _ he Ua.2 ρ Z vh Y4 H hK S
   .cases he
  |block id b=>
   rw[Pure.exec]at he
   try dsimp only at he
   rw[Virt.exec]
   try dsimp only
   split at he
   .rename_i id' Qr h1 hx;obtain⟨Zfe,vh1,YE,Z1,a1,a2,a3⟩:=hi _ _ _ _ _ _ _ _ hx Ua ρ Z vh Y4 H hK S;rw[a1]
    try dsimp only
    split at he
    .rename_i e;cases he;exact⟨Zfe,vh1,YE,Z1,by rw[if_pos e],a2,a3⟩
    .rename_i e;cases he;exact⟨Zfe,vh1,YE,Z1,by rw[if_neg e],a2,a3⟩
   .rename_i Yp;obtain⟨Zfe,vh1,YE,Z1,a1,a2,a3⟩:=hi _ _ _ _ _ _ _ _ he Ua ρ Z vh Y4 H hK S;rw[a1];cases x with
    |exit id=>exact absurd he (Yp _ _ _)
    |normal=>exact⟨Zfe,vh1,YE,Z1,rfl,a2,a3⟩
    |ret=>exact⟨Zfe,vh1,YE,Z1,rfl,a2,a3⟩
  |loop b=>
   rw[Pure.exec]at he
   try dsimp only at he
   rw[Virt.exec]
   try dsimp only
   split at he
   .rename_i Qr h1 hx;obtain⟨Zfe,vh1,YE,Z1,a1,a2,a3⟩:=hi _ _ _ _ _ _ _ _ hx Ua ρ Z vh Y4 H hK S;rw[a1]
    try dsimp only
    obtain⟨vsl2,V8,YD,Z2,b1,b2,b3⟩:=hi _ _ _ _ _ _ _ _ he Ua YE Z1 vh1 _ a3.hp ⟨hK.1,Nat.le_trans hK.2 a3.next⟩ (S.keep a2 (Z4c _ _ _ _ _ _ _ _ a1));exact⟨vsl2,V8,YD,Z2,b1,b2,a3.trans H b3⟩
   .rename_i Yp;obtain⟨Zfe,vh1,YE,Z1,a1,a2,a3⟩:=hi _ _ _ _ _ _ _ _ he Ua ρ Z vh Y4 H hK S;rw[a1];cases x with
    |normal=>exact absurd he (Yp _ _)
    |exit id=>exact⟨Zfe,vh1,YE,Z1,rfl,a2,a3⟩
    |ret=>exact⟨Zfe,vh1,YE,Z1,rfl,a2,a3⟩
  |rangeFunc f ps as bd=>
   simp only[Ud,Bool.and_eq_true]at Ua;rw[Pure.exec]at he
   try dsimp only at he
   rw[Virt.exec]
   try dsimp only
   split at he
   .rename_i hr;rw[if_pos hr];split at he
    .rename_i g first captured hf
     obtain⟨w,W4,Vj⟩:=Zj S hf;cases Vj with
     |d h=>cases h
     |fn g first captured a' c' r1 r2=>
      rw[W4]
      try dsimp only
      split at he
      .rename_i Xb;split at he
       .rename_i u h2 Zko;have H1:HP C ρ Z vh {h with next:=h.next+1}:=H.sub rfl (fun i x hx=>Nat.lt_succ_of_lt (H.lt i x hx)) rfl (Nat.le_refl _) H.wr
        have Zkj:h.get h.next=none:=by
         cases e:h.get h.next with
         |none=>rfl
         |some y=>exact absurd (H.lt _ _ e) (Nat.lt_irrefl _)
        have hKl:K.lo<=h.next:=by have:=hK.1;have:=hK.2;omega
        have Zu:can K h.next=true:=by unfold can;rw[Bool.or_eq_true,Nat.ble_eq];exact .inl hKl
        have Zag7:∀q,q≠vh.next->(vh.new (.loop Y4 ps.toList as bd)).get q=vh.get q:=fun q hq=>by simp[VH.new,Sy hq]
        have stL:=HP.change (K:=K) (vh':=vh.new (.loop Y4 ps.toList as bd)) (ver':=0) (p:=vh.next) (o:=.loop K Xi ps.toList as bd) H1 (.inl rfl) (i:=h.next) (Nat.lt_succ_self _) Zu (fun Zc o' hh=>by
          have hh':h.get h.next=some (Zc,o'):=hh;rw[Zkj]at hh';cases hh') (by simp[VH.new]) (.inr (Nat.le_refl _)) (by simp[VH.new]) (Nat.le_refl _) (fun hlt=>by omega)
         (fun q hq _=>Zag7 q hq) (fun y hy=>by
           have hy':h.get h.next=some y:=hy
           rw[Zkj]at hy';cases hy') (Qs H) (fun q y hq=>by
            by_cases e:q=vh.next
            .subst e;simp[VH.new]
            .rw [Zag7 q e]at hq;have:=H.vlt _ _ hq;simp only[VH.new];omega) (fun YB vf' _ _ hE=>.loop K m Xi Y4 ps.toList as bd (Qs H) (by simp[VH.new]) (S.mono hE (Vf.le.refl _)) hK.1 hK.2 Ua.1 Ua.2)
        have Z2n:St C K ρ Z h vh (fun j=>if j=h.next then vh.next else ρ j) Z ({h.put h.next 0 (.loop K Xi ps.toList as bd) with next:=h.next+1}:PH) (vh.new (.loop Y4 ps.toList as bd)):=
         ⟨stL.hp,stL.ext,stL.sig,Nat.le_succ _,stL.vnext,stL.wr,fun i hi=>stL.keep i hi,fun i Zc o Sh ho=>stL.same i Zc o Sh ho,fun i x hx=>stL.plc i x hx,fun i x hx hc=>stL.vkeep i x hx hc,fun q hq hn hi=>stL.vnone q hq hn hi,fun b h1 h2 h3=>stL.low b h1 h2 h3⟩
        have hyv:R C (fun j=>if j=h.next then vh.next else ρ j) (Zp ({h.put h.next 0 (.loop K Xi ps.toList as bd) with next:=h.next+1}:PH)) Z (.yield h.next 0) (.func (.yield vh.next) #[] #[]):=.yield h.next 0 0 vh.next (by simp[Zp,PH.put]) (Nat.le_refl _) (fun _=>by simp);obtain⟨v,V8,YD,Z2,q1,q2,q3⟩:=hcf g _ _ _ Zko _ _ _ (a'.toList++[.func (.yield vh.next) #[] #[]]++c'.toList) Z2n.hp ⟨hK.1,Nat.le_succ_of_le hK.2⟩ (((r1.mono Z2n.ext Z2n.sig).append (.cons hyv .nil)).append (r2.mono Z2n.ext Z2n.sig));have q1':Virt.callF C (Virt.exec C n true) g (a'.toList++[Value.func (Fn.yield vh.next) #[] #[]]++c'.toList) (vh.new (.loop Y4 ps.toList as bd))=some (v,V8):=q1;rw[q1']
        try dsimp only
        split at he
        .rename_i K1 Qr ps1 as1 bd1 hl;cases he;have st2:=Z2n.trans H q3
         have Zfj:YD h.next=vh.next:=by
          obtain⟨c1,k1,_,k3⟩:=q3.ext h.next 0 (by simp[Zp,PH.put]);rw[Zt.2 ⟨_,hl⟩]at k1;cases k1;have:=k3 rfl;simpa using this
         cases q3.hp.obj _ _ _ hl with
         |loop K1 n1 Qr Zfe ps1 as1 bd1 z1 g1 s1 k1 b1 d1 d2=>
          rw[Zfj]at g1 z1;rw[g1]
          try dsimp only
          have st3:=Zjd (K:=K) (ob:=.gone) (vo:=none) q3.hp hl hKl (by rw[Zfj];exact z1) fun YB vf' _=>.gone (q3.hp.rho_lt hl) (by rw[Zfj];exact z1)
          rw[Zmj,Zfj]at st3;have st4:=st2.trans H st3;exact⟨Y4,_,YD,Z2,rfl,S.mono st4.ext st4.sig,st4⟩
        .cases he
       .cases he
      .cases he
    .cases he
   .cases he
  | _=>simp[Pure.exec]at he
end
section
variable {C:Ctx}{cf yf:Nat->List Value->VH->Option (Value×VH)}{pcf:CF}{pyf:YF}{K K':Loc}{n:Nat}{all:List Oper}{Xi:Yt}{Y4:SL}{h:PH}{vh:VH}{ρ:Nat->Nat}{Z:Vf}{o:Oper}{r:PV×PH}
theorem Zab9 {t:TypeId}{a x:Operand}{m:List Nat×Nat}(ho:o.op=.store t a x)(ht:X3 C K Xi h o=some m)(hc:∀i∈m.1,can K' i=true)(he:Zh C pcf pyf all K Xi h o=some r):Zh C pcf pyf all K' Xi h o=some r:=by
 simp only[X3,ho]at ht;simp only[Zh,ho]at he ⊢;split at he
 .rename_i ty i Zc off v h1 h2 h3;rw[h2,h3]at ht;simp only[Option.some.injEq]at ht;subst ht;split at he
  .rename_i hh;rw[if_pos ⟨hh.1,hh.2.1,hc i (by simp)⟩];exact he
  .cases he
 .rename_i ty i Zc g ix off v0 h1 h2 h3;rw[h2,h3]at ht;simp only[Option.some.injEq]at ht;subst ht;split at he
  .cases he
  .rename_i v h4;split at he
   .rename_i hh;rw[if_pos ⟨hh.1,hh.2.1,hh.2.2.1,hc i (by simp),List.all_eq_true.2 fun j hj=>hc j (by simp[hj])⟩];exact he
   .cases he
 .cases he
theorem Zqz {d g:Nat}{ty:Ty}{k:Nat}{ys:List PV}{s:PV}(hb:K'.base=K.base+d)(hc:∀i Zc g' off len,s=.own i Zc g' off len->can K' i=true){q:PV×PH}(he:Xk K h d g ty k ys s=some q):Xk K' h 0 g ty k ys s=some q:=by
 unfold Xk at he ⊢;split at he
 .rw [hb,Nat.add_zero];exact he
 .rename_i i Zc g' off len
  try dsimp only
  split at he
  .rename_i hh;rw[if_pos ⟨hh.1,hh.2.1,hh.2.2.1,hh.2.2.2.1,hc _ _ _ _ _ rfl⟩];exact he
  .cases he
 .cases he
theorem Zaad {c:Call}{d:Nat}{m:List Nat×Nat}(ho:o.op=.call c)(Ws:c.callee=.builtin .append)(hd:o.dst=some d)(ht:X3 C K Xi h o=some m)(hb:K'.base=K.base+d)(hc:∀i∈m.1,can K' i=true){pcf':CF}{pyf':YF}(he:Zh C pcf pyf all K Xi h o=some r):
  ∃Zzz,Zh C pcf' pyf' Zzz K' Xi h {o with dst:=some 0}=some r:=by
 obtain⟨Zzz,hall⟩:∃Zzz,((c.args[0]?).any fun a=>Zm1 all a d)=(c.args[0]?).any fun a=>Zm1 Zzz a 0:=by
  cases hq:Z27 all d with
  |true=>
   refine ⟨[⟨none, .build 0 #[(0, .tmp 0)], 0, "", #[], none⟩], ?_⟩;cases c.args[0]? with
   |none=>rfl
   |some a=>
    simp only[Option.any_some];unfold Zm1;split
    .rw [hq];simp[Z27]
    .rfl
  |false=>
   refine⟨[],?_⟩;cases c.args[0]? with
   |none=>rfl
   |some a=>
    simp only[Option.any_some];unfold Zm1;split
    .rw [hq];simp[Z27]
    .rfl
 refine⟨Zzz,?_⟩;simp only[X3,ho,Ws,hd]at ht;simp only[Zh,ho,Ws,hd]at he ⊢;cases hl:c.args.toList with
 |nil=>rw[hl]at ht;cases ht
 |cons x0 rest=>
  rw[hl]at ht he;simp only[W8]at he ⊢
  try dsimp only at ht
  cases h0:Yx Xi x0 with
  |none=>rw[h0]at ht;cases ht
  |some s=>
   rw[h0]at ht he
   have hs:∀i Zc g' off len,s=.own i Zc g' off len->can K' i=true:=by
    rintro i Zc g' off len rfl;simp only[Option.some.injEq]at ht;subst ht;exact hc i (by simp)
   cases hr:W8 Xi rest with
   |none=>rw[hr]at he;cases he
   |some vs=>
    rw[hr]at he;cases vs with
    |nil=>cases he
    |cons x tail=>
     cases tail with
     |cons _ _=>cases he
     |nil=>
      dsimp only at he ⊢;split at he
      .rename_i ts tx dd e1 e2 e3;cases e3;rw[e1,e2];dsimp only;split at he
       .rename_i e hk
        try rw[hk]
        try dsimp only
        split at he
        .rename_i te Vw
         try rw[Vw]
         try dsimp only
         split at he
         .rename_i k hki
          try rw[hki]
          try dsimp only
          split at he
          .try dsimp only
           rw[hb,Nat.add_zero];exact he
          .cases he
         .rename_i hnk;split at he
          .split at he
           .rename_i hh
            try rw[if_pos hh]
            exact Zqz hb hs he
           .cases he
          .split at he
           .rename_i ys hys
            try rw[hys]
            split at he
            .rename_i hli
             try dsimp only
             rw[if_pos (hall.symm.trans hli)];exact he
            .rename_i hli
             try dsimp only
             rw[if_neg (fun hq=>hli (hall.trans hq))];exact Zqz hb hs he
           .cases he
        .cases he
       .cases he
      .cases he
theorem Zfd {m:List Nat×Nat}{u b:Nat}(hu:Wk (some m) u=true)(hb:b=m.2):can {base:=b,lo:=b,ok:=m.1} u=false:=by
 unfold Wk at hu;simp only[Bool.and_eq_true,Bool.not_eq_true',Nat.blt_eq]at hu;unfold can;rw[Bool.or_eq_false_iff];constructor
 .rw [<- Bool.not_eq_true,Nat.ble_eq];show ¬ b<=u;omega
 .rw [<- Bool.not_eq_true];intro hh;obtain⟨i,hi,hbq⟩:=List.any_eq_true.1 hh;rw[Nat.beq_eq]at hbq;subst hbq;have:=hu.1;rw[<- Bool.not_eq_true]at this;exact this (List.any_eq_true.2 ⟨u,hi,Nat.beq_refl u⟩)
theorem Z1s {m:List Nat}{b i:Nat}(hi:i∈m):can {base:=b,lo:=b,ok:=m} i=true:=by
 unfold can;rw[Bool.or_eq_true];exact .inr (List.any_eq_true.2 ⟨i,hi,Nat.beq_refl i⟩)
theorem Zl2 (hts:Zew C pcf cf)(H:HP C ρ Z vh h)(S:SR C ρ (Zp h) Z Xi Y4)(hn:K.base+n<=h.next)(hd:∀d,o.dst=some d->d < n)(he:Zh C pcf pyf all K Xi h o=some r){w:Value}{vh1:VH}(X6:Xn C cf yf Y4 vh o=some (w,vh1))
  {u:Nat} (hu:Wk (X3 C K Xi h o) u=true) (hx:∃x,h.get u=some x):vh1.get (ρ u)=vh.get (ρ u)/\r.2.get u=h.get u:=by
 obtain⟨x,hx⟩:=hx;cases ht:X3 C K Xi h o with
 |none=>rw[ht]at hu;cases hu
 |some m=>
  rw[ht]at hu;cases ho:o.op with
  |store t a y=>
   have hm2:m.2=h.next:=by
    simp only[X3,ho]at ht;split at ht
    .cases ht;rfl
    .cases ht;rfl
    .cases ht
   obtain⟨v,vh',YB,Z',q1,q2,q3⟩:=Zpj (K:={base:=m.2,lo:=m.2,ok:=m.1}) (cf:=cf) (yf:=yf) H S ho (Zab9 (K':={base:=m.2,lo:=m.2,ok:=m.1}) ho ht (fun i hi=>Z1s hi) he);rw[X6]at q1;cases q1;exact⟨q3.vkeep u x hx (Zfd hu rfl),q3.keep u (Zfd hu rfl)⟩
  |call c=>
   cases Ws:c.callee with
   |builtin b=>
    cases b with
    |append=>
     cases hdd:o.dst with
     |none=>
      simp only[X3,ho,Ws,hdd]at ht;split at ht
      .rename_i hh;cases hh
      .cases ht
     |some d=>
      have hm2:m.2=K.base+d:=by
       simp only[X3,ho,Ws,hdd]at ht;split at ht
       .rename_i hh;cases hh;split at ht
        .cases ht;rfl
        .cases ht;rfl
        .cases ht
       .cases ht
      have hK1:m.2+1<=h.next:=by
       have h9:=hd d hdd;rw[hm2];exact Nat.le_trans (Nat.add_le_add_left (Nat.succ_le_of_lt h9) K.base) hn
      have hop':Xn C cf yf Y4 vh {o with dst:=some 0}=some (w,vh1):=X6;obtain⟨Zzz,he'⟩:=Zaad (K':={base:=m.2,lo:=m.2,ok:=m.1}) (pcf':=fun _ _ _ _=>none) (pyf':=fun _ _ _ _ _=>none) ho Ws hdd ht hm2 (fun i hi=>Z1s hi) he;obtain⟨v,vh',YB,Z',q1,q2,q3⟩:=Zwq (K:={base:=m.2,lo:=m.2,ok:=m.1}) (n:=1) (cf:=cf) (yf:=yf) (pcf:=fun _ _ _ _=>none) (pyf:=fun _ _ _ _ _=>none) (all:=Zzz) (o:={o with dst:=some 0}) (fun _ _ _ _ hh=>by cases hh) (fun _ _ _ _ _ hh=>by cases hh) H S ⟨Nat.le_refl _,hK1⟩ (fun d' hd'=>by cases hd';exact Nat.zero_lt_one) ho he';rw[hop']at q1;cases q1;exact⟨q3.vkeep u x hx (Zfd hu rfl),q3.keep u (Zfd hu rfl)⟩
    | _=>simp only[X3,ho,Ws]at ht;cases ht
   |invoke a b=>simp only[X3,ho,Ws]at ht;cases ht
   |value f=>
    simp only[X3,ho,Ws]at ht;split at ht
    .rename_i g first captured args hf Xt
     split at ht
     .cases ht
     .rename_i Xb;split at ht
      .rename_i args' hm;cases ht;simp only[Zh,ho,Xt,Ws,hf]at he;obtain⟨Wl,Ro,Qg⟩:=Se S Xt;obtain⟨w0,W4,Vj⟩:=Zj S hf;cases Vj with
       |d h=>cases h
       |fn g a c2 a' c' r1 r2=>
        simp only[Xn,ho,U6,Ro,Ws,W4]at X6;refine hts K g _ h r.1 r.2 he (by simpa using Xb) args' hm ρ Z vh _ H ((r1.append Qg).append r2) w vh1 X6 u ?_ ⟨x,hx⟩;intro hh;unfold Wk at hu;simp only[Bool.and_eq_true,Bool.not_eq_true']at hu;have:=hu.1;rw[<- Bool.not_eq_true]at this;exact this (List.any_eq_true.2 ⟨u,hh,Nat.beq_refl u⟩)
      .cases ht
    .cases ht
  | _=>simp only[X3,ho]at ht;cases ht
end
end Go.Pure
end
