/- Rows that are written no more; slices as plain lists. -/
import Derived.Test.YtabcdhcpilpojaaGreatDoorPF
import Derived.Test.YtabcdhcpilpojaaGreatDoorPA
import Derived.Test.YtabcdhcpilpojaaGreatDoorVB
set_option linter.unusedSimpArgs false
set_option linter.unusedVariables false
section
namespace Go.Pure
open Go Go.Virt
section
variable {C:Ctx}{Z Z':Vf}{ρ ρ':Nat->Nat}{vf vf':Nat->Option Nat}{h h':PH}{vh vh':VH}{K:Loc}{n:Nat}{Xi:Yw}{Y5:SL}{o:Oper}{x:PV}{all:List Oper}
theorem freeze_next:∀(ids:List Nat) (h:PH),(h.freeze ids).next=h.next
 | [],h=>rfl
 |i::r,h=>by
  simp only[PH.freeze];split
  .rw [freeze_next r];rfl
  .exact freeze_next r h
theorem Xp:∀(ids:List Nat) (h:PH) (j:Nat),(h.freeze ids).get j=(match h.get j with
  |some (Zc,.row g own xs)=>if j∈ids then some (Zc,.row g false xs) else some (Zc,.row g own xs)
  |o=>o)
 | [],h,j=>by
   simp only[PH.freeze,List.not_mem_nil,if_false];split<;>simp_all
 |i::r,h,j=>by
  simp only[PH.freeze];split
  .rename_i Zc g own xs hi;rw[Xp r];by_cases e:j=i
   .subst e;simp only[PH.put,if_true,hi,List.mem_cons,true_or];split<;>rfl
   .simp only [PH.put,e,if_false,List.mem_cons,false_or]
  .rename_i Yq;rw[Xp r];by_cases e:j=i
   .subst e;split
    .rename_i Zc g own xs hj;exact absurd hj (Yq _ _ _ _)
    .rfl
   .simp only [List.mem_cons,e,false_or]
theorem Td (ids:List Nat)(h:PH):Zp (h.freeze ids)=Zp h:=by
 funext j;unfold Zp;rw[Xp];split
 .rename_i Zc g own xs hj;rw[hj];split<;>rfl
 .rfl
structure Frz (C:Ctx)(bt:Bool)(ρ:Nat->Nat)(Z:Vf)(h:PH)(vh:VH)(ids:List Nat)(Z':Vf):Prop where
 hp:HP C ρ Z' vh (h.freeze ids)
 le:∀Ya s,Z Ya=some s->Z' Ya=some s
 new:∀Ya s,Z' Ya=some s->Z Ya=some s\/(Z Ya=none/\∃i∈ids,∃Zc g xs,h.get i=some (Zc,.row g true xs)/\Ya=ρ i/\s.tag=if bt then some g else none)
theorem Frz.sig {bt:Bool}{ids:List Nat}(f:Frz C bt ρ Z h vh ids Z'):Z.le Z':=f.le
theorem frz1 (bt:Bool)(H:HP C ρ Z vh h){i Zc g:Nat}{own:Bool}{xs:List PV}(hi:h.get i=some (Zc,.row g own xs)):
  ∃Z',HP C ρ Z' vh (h.put i Zc (.row g false xs))/\(∀Ya s,Z Ya=some s->Z' Ya=some s)/\∀Ya s,Z' Ya=some s->Z Ya=some s\/(Z Ya=none/\own=true/\Ya=ρ i/\s.tag=if bt then some g else none):=by
 have ho:=H.obj _ _ _ hi
 have hvf:Zp (h.put i Zc (.row g false xs))=Zp h:=by
  funext j;unfold Zp PH.put;by_cases e:j=i
  .subst e;simp[hi]
  .simp [e]
 cases own with
 |false=>
  have:h.put i Zc (.row g false xs)=h:=by
   unfold PH.put
   have:(fun j=>if j=i then some (Zc,PO.row g false xs) else h.get j)=h.get:=by
    funext j;by_cases e:j=i
    .subst e;simp[hi]
    .simp [e]
   rw[this]
  rw[this];exact⟨Z,H,fun _ _ h=>h,fun _ _ h=>.inl h⟩
 |true=>
  cases ho with
  |row g xs vcs ty ht hz hg hr hl=>
   let Z1:Vf:=fun q=>if q=ρ i then some ⟨vcs,ty.size,true,if bt then some g else none⟩ else Z q
   have hle:∀Ya s,Z Ya=some s->Z1 Ya=some s:=fun Ya s hs=>by
    have:Ya≠ρ i:=fun e=>by rw[e,hz]at hs;cases hs
    simp[Z1,this,hs]
   have Z2e:Z.le Z1:=hle;refine⟨Z1,⟨?_,?_,H.vlt,?_,?_,H.wr⟩,hle,?_⟩
   .intro j x hj;by_cases e:j=i
    .subst e;exact H.lt _ _ hi
    .simp [PH.put,e]at hj;exact H.lt _ _ hj
   .intro j k x y hj hk e;by_cases e1:j=i<;>by_cases e2:k=i
    .rw [e1,e2]
    .subst e1;simp[PH.put,e2]at hk;exact H.inj _ _ _ _ hi hk e
    .subst e2;simp[PH.put,e1]at hj;exact H.inj _ _ _ _ hj hi e
    .simp [PH.put,e1,e2]at hj hk;exact H.inj _ _ _ _ hj hk e
   .intro Ya s hs;by_cases e:Ya=ρ i
    .simp only [Z1,e,if_true,Option.some.injEq]at hs;subst hs;rw[e];exact hg
    .simp only [Z1,e,if_false]at hs;exact H.sig _ _ hs
   .intro j w ob hj;rw[hvf];by_cases e:j=i
    .subst e;simp only[PH.put,if_true,Option.some.injEq,Prod.mk.injEq]at hj;obtain⟨rfl,rfl⟩:=hj;exact .frozen g xs ⟨vcs,ty.size,true,if bt then some g else none⟩ ty ht (by simp[Z1]) rfl (by cases bt<;>simp) (hr.mono Z2e) hl
    .simp only [PH.put,e,if_false]at hj;have Yq:ρ j≠ρ i:=fun h2=>e (H.inj _ _ _ _ hj hi h2)
     exact (H.obj _ _ _ hj).mono (Ext.refl _ _) Z2e (fun hq=>by simp[Z1,Yq,hq]) (fun _=>rfl) (Nat.le_refl _) (Nat.le_refl _)
   .intro Ya s hs;by_cases e:Ya=ρ i
    .simp only [Z1,e,if_true,Option.some.injEq]at hs;subst hs;rw[e];exact .inr ⟨hz,rfl,rfl,rfl⟩
    .simp only [Z1,e,if_false]at hs;exact .inl hs
theorem frz (bt:Bool):∀(ids:List Nat) {Z:Vf} {h:PH},HP C ρ Z vh h->∃Z',Frz C bt ρ Z h vh ids Z'
 | [],Z,h,H=>⟨Z,H,fun _ _ h=>h,fun _ _ h=>.inl h⟩
 |i::r,Z,h,H=>by
  by_cases hi:∃Zc g own xs,h.get i=some (Zc,.row g own xs)
  .obtain ⟨Zc,g,own,xs,hi⟩:=hi;obtain⟨Z1,H1,l1,n1⟩:=frz1 bt H hi;obtain⟨Z2,f2⟩:=frz bt r H1;refine⟨Z2,by simp only[PH.freeze,hi];exact f2.hp,fun Ya s hs=>f2.le _ _ (l1 _ _ hs),fun Ya s hs=>?_⟩;rcases f2.new _ _ hs with h1 | ⟨h1,j,hj,Zwx,g2,xs2,hg,e,ht⟩
   .rcases n1 _ _ h1 with h2 | ⟨h2,h3,h4,h5⟩
    .exact .inl h2
    .subst h3;exact .inr ⟨h2,i,by simp,Zc,g,xs,hi,h4,h5⟩
   .have hji:j≠i:=fun e=>by subst e;simp[PH.put]at hg
    simp only[PH.put,hji,if_false]at hg;refine .inr ⟨?_,j,by simp[hj],Zwx,g2,xs2,hg,e,ht⟩;cases hq:Z Ya with
    |none=>rfl
    |some s'=>rw[l1 _ _ hq]at h1;cases h1
  .obtain ⟨Z2,f2⟩:=frz bt r H
   have e:h.freeze (i::r)=h.freeze r:=by
    simp only[PH.freeze];split
    .rename_i Zc g own xs hq;exact absurd ⟨_,_,_,_,hq⟩ hi
    .rfl
   refine⟨Z2,by rw[e];exact f2.hp,f2.le,fun Ya s hs=>?_⟩;rcases f2.new _ _ hs with h1 | ⟨h1,j,hj,q⟩
   .exact .inl h1
   .exact .inr ⟨h1,j,by simp[hj],q⟩
theorem St.frz {ids:List Nat}(H:HP C ρ Z vh h)(f:Frz C false ρ Z h vh ids Z')(hc:ids.all (can K)=true):St C K ρ Z h vh ρ Z' (h.freeze ids) vh where
 hp:=f.hp
 ext:=by rw[Td];exact Ext.refl _ _
 sig:=f.sig
 next:=by rw[freeze_next];exact Nat.le_refl _
 vnext:=Nat.le_refl _
 wr:=Nat.le_refl _
 keep:=fun i hi=>by
  rw[Xp];split
  .rename_i Zc g own xs hj;rw[if_neg,hj];intro hm;rw[List.all_eq_true.1 hc i hm]at hi;cases hi
  .rfl
 same:=fun i Zc o _ ho=>by
  rw[Xp,ho];cases o with
  |row g own xs=>
   by_cases hm:i∈ids
   .exact .inr (.inl ⟨g,own,xs,rfl,by simp[hm]⟩)
   .exact .inl (by simp[hm])
  | _=>exact .inl rfl
 plc:=fun i x hx=>by
  rw[Xp]at hx;refine .inl ⟨?_,rfl⟩;cases hq:h.get i with
  |none=>rw[hq]at hx;cases hx
  |some y=>exact⟨y,rfl⟩
 vkeep:=fun _ _ _ _=>rfl
 vnone:=fun _ _ h _=>h
 low:=fun _ _ h _=>h
theorem Rw {i Zc g:Nat}{r:Bool×List PV}:h.row i Zc g=some r↔h.get i=some (Zc,.row g r.1 r.2):=by
 unfold PH.row;constructor
 .intro hh;split at hh
  .rename_i v g' own xs hi;split at hh
   .rename_i hc;cases hh;rw[hi,hc.1,hc.2]
   .cases hh
  .cases hh
 .intro hh;rw[hh];simp
theorem Zaa9 (H:HP C ρ Z vh h){i Zc g off len:Nat}{xs:List PV}{v:Value}(hi:h.get i=some (Zc,.row g false xs))(hl:off+len<=xs.length)(hr:R C ρ (Zp h) Z (.own i Zc g off len) v):RD C Z (.lst g ((xs.drop off).take len)) v:=by
 cases hr with
 |d h=>cases h
 |own i Zc g off len c a cap ty hc hv hp ht ha=>
  rw[Zv.2 ⟨_,hi⟩]at hc;cases hc;cases ha rfl;cases H.obj _ _ _ hi with
  |frozen g xs s ty2 ht2 hs he Z6w hrr S4=>
   rw[ht]at ht2;cases ht2;have hlen:((xs.drop off).take len).length=len:=by simp;omega
   have Ul:=U5 S4
   have h1:X7 (xs.flatMap cellsOf) (off*ty.size) (len*ty.size)=some (((xs.drop off).take len).flatMap cellsOf):=by
    unfold X7;rw[if_pos (by rw[Ul,<- Nat.add_mul];exact Nat.mul_le_mul_right _ hl),Zcg S4,flat_take fun x hx=>S4 x (List.drop_subset _ _ hx)]
   obtain⟨r',h2,h3⟩:=hrr.read h1;have:=RD.lst g ((xs.drop off).take len) (ρ i) (off*ty.size) cap s r' ty hs he Z6w ht (by rw[hlen];exact h2) h3 (fun x hx=>S4 x (List.drop_subset _ _ (List.take_subset _ _ hx)));rw[hlen]at this;exact this
theorem Zuq {h3:PH}(H3:HP C ρ Z vh h3)(hf:∀i Zc g own xs,i∈Tv x->h.get i=some (Zc,.row g own xs)->h3.get i=some (Zc,.row g false xs)){v:Value}{y:PV}(hi:Qj h x=some y)(hr:R C ρ (Zp h3) Z x v):R C ρ (Zp h3) Z y v:=by
 cases x with
 |own i Zc g off len=>
  simp only[Qj,Option.map_eq_some_iff]at hi;obtain⟨ys,hys,rfl⟩:=hi;simp only[PH.elems,if_true]at hys;split at hys
  .rename_i own xs Uc;split at hys
   .rename_i hl;cases hys;have:=Rw.1 Uc;exact .d (Zaa9 H3 (hf _ _ _ _ _ (by simp[Tv]) this) hl hr)
   .cases hys
  .cases hys
 | _=>simp only[Qj,Option.some.injEq]at hi;subst hi;exact hr
theorem Zug {f:PV->Option PV}{P:PV->Prop}{cs ys:List PV}{vs:List Value}(hf:∀x∈cs,∀y v,f x=some y->R C ρ vf Z x v->R C ρ vf Z y v)(h:Xd f cs=some ys)(hr:Rs C ρ vf Z cs vs):Rs C ρ vf Z ys vs:=by
 induction cs generalizing ys vs with
 |nil=>simp only[Xd,Option.some.injEq]at h;subst h;exact hr
 |cons c cs ih=>
  simp only[Xd]at h;split at h
  .rename_i y ys' hy hys;cases h;cases hr with | cons h1 r=>exact .cons (hf c (by simp) _ _ hy h1) (ih (fun x hx=>hf x (by simp[hx])) hys r)
  .cases h
theorem Zaba (hx:∀cs,x≠.agg cs):ownV x=Tv x/\∀h,inlV h x=Qj h x:=by
 cases x<;>first | exact⟨rfl,fun _=>rfl⟩ | exact absurd rfl (hx _)
theorem Zabb (hx:∀cs,x≠.tuple cs):ownT x=ownV x/\∀h,inlT h x=inlV h x:=by
 cases x<;>first | exact⟨rfl,fun _=>rfl⟩ | exact absurd rfl (hx _)
theorem Zhw {h3:PH}(H3:HP C ρ Z vh h3)(hf:∀i Zc g own xs,i∈ownV x->h.get i=some (Zc,.row g own xs)->h3.get i=some (Zc,.row g false xs)){v:Value}{y:PV}(hi:inlV h x=some y)(hr:R C ρ (Zp h3) Z x v):R C ρ (Zp h3) Z y v:=by
 by_cases hx:∃cs,x=.agg cs
 .obtain ⟨cs,rfl⟩:=hx;simp only[inlV,Option.map_eq_some_iff]at hi;obtain⟨ys,hys,rfl⟩:=hi;obtain⟨cs',rfl,hcs⟩:=hr.agg_inv;refine .agg _ _ (Zug (P:=fun _=>True) (fun c hc y v hy hv=>Zuq H3 (fun i Zc g own xs hm=>hf i Zc g own xs ?_) hy hv) hys hcs);simp only[ownV,List.mem_flatMap];exact⟨c,hc,hm⟩
 .obtain ⟨e1,e2⟩:=Zaba (x:=x) fun cs e=>hx ⟨cs,e⟩
  rw[e2]at hi;rw[e1]at hf;exact Zuq H3 hf hi hr
theorem Z6c {h3:PH}(H3:HP C ρ Z vh h3)(hf:∀i Zc g own xs,i∈ownT x->h.get i=some (Zc,.row g own xs)->h3.get i=some (Zc,.row g false xs)){v:Value}{y:PV}(hi:inlT h x=some y)(hr:R C ρ (Zp h3) Z x v):R C ρ (Zp h3) Z y v:=by
 by_cases hx:∃cs,x=.tuple cs
 .obtain ⟨cs,rfl⟩:=hx;simp only[inlT,Option.map_eq_some_iff]at hi;obtain⟨ys,hys,rfl⟩:=hi;obtain⟨cs',rfl,hcs⟩:=hr.tuple_inv;refine .tuple _ _ (Zug (P:=fun _=>True) (fun c hc y v hy hv=>Zhw H3 (fun i Zc g own xs hm=>hf i Zc g own xs ?_) hy hv) hys hcs);simp only[ownT,List.mem_flatMap];exact⟨c,hc,hm⟩
 .obtain ⟨e1,e2⟩:=Zabb (x:=x) fun cs e=>hx ⟨cs,e⟩
  rw[e2]at hi;rw[e1]at hf;exact Zhw H3 hf hi hr
theorem Zlb {ids:List Nat}{i Zc g:Nat}{own:Bool}{xs:List PV}(hm:i∈ids)(hi:h.get i=some (Zc,.row g own xs)):(h.freeze ids).get i=some (Zc,.row g false xs):=by
 rw[Xp,hi];simp[hm]
theorem Z5d (H:HP C ρ Z vh h){g:Nat}{xs:List PV}{vcs:List Value}{ty:Ty}(ht:C.T g=some ty)(hr:RDs C Z (xs.flatMap cellsOf) vcs)(hl:∀x∈xs,(cellsOf x).length=ty.size):
  ∃Z',St C K ρ Z h vh ρ Z' h (vh.new (.row vcs ty.size true))/\RD C Z' (.lst g xs) (.slice (some ⟨vh.next,0,none⟩) xs.length xs.length)/\∀q s,Z' q=some s->Z q=some s\/q=vh.next:=by
 have hzn:Z vh.next=none:=by
  cases e:Z vh.next with
  |none=>rfl
  |some s=>exact absurd (H.vlt _ _ (H.sig _ _ e)) (Nat.lt_irrefl _)
 have Zl:∀q,q≠vh.next->(vh.new (.row vcs ty.size true)).get q=vh.get q:=fun q hq=>by simp[VH.new,Sx hq]
 let Z1:Vf:=fun q=>if q=vh.next then some ⟨vcs,ty.size,true,none⟩ else Z q
 have hle:∀Ya s,Z Ya=some s->Z1 Ya=some s:=fun Ya s hs=>by
  have:Ya≠vh.next:=fun e=>by rw[e,hzn]at hs;cases hs
  simp[Z1,this,hs]
 have Z2e:Z.le Z1:=hle;have hlt:∀i x,h.get i=some x->ρ i≠vh.next:=fun i x hi=>by have:=H.rho_lt hi;omega
 refine⟨Z1,⟨⟨H.lt,H.inj,?_,?_,?_,?_⟩,Ext.refl _ _,Z2e,Nat.le_refl _,by simp[VH.new],Nat.le_refl _,fun _ _=>rfl,fun _ _ _ _ h=>.inl h,fun i x hx=>.inl ⟨⟨x,hx⟩,rfl⟩,fun i x hx _=>Zl _ (hlt i x hx),fun q hq hn _=>by rw[Zl q (by omega)];exact hn,fun _ _ h2 _=>h2⟩,?_,?_⟩
 .intro q y hq;by_cases e:q=vh.next
  .subst e;simp[VH.new]
  .rw [Zl q e]at hq;have:=H.vlt _ _ hq;simp only[VH.new];omega
 .intro q s hq;by_cases e:q=vh.next
  .simp only [Z1,e,if_true,Option.some.injEq]at hq;subst hq;rw[e];simp[VH.new]
  .simp only [Z1,e,if_false]at hq;rw[Zl q e];exact H.sig _ _ hq
 .intro i Zc ob hi;exact (H.obj _ _ _ hi).mono (Ext.refl _ _) Z2e (fun hq=>by simp[Z1,hlt i _ hi,hq]) (fun _=>Zl _ (hlt i _ hi)) (Nat.le_refl _) (by simp[VH.new])
 .have:=H.wr;simp only[VH.new];omega
 .refine .lst g xs vh.next 0 xs.length ⟨vcs,ty.size,true,none⟩ vcs ty (by simp[Z1]) rfl (.inl rfl) ht ?_ (hr.mono Z2e) hl;have Ul:=U5 hl;rw[Tc];have hvl:vcs.length=xs.length*ty.size:=by rw[hr.length];exact Ul
  refine⟨?_,.inl (by simp[hvl])⟩;simp[<- hvl]
 .intro q s hq;by_cases e:q=vh.next
  .exact .inr e
  .simp only [Z1,e,if_false]at hq;exact .inl hq
end
section
variable {C:Ctx}{Z Z':Vf}{ρ ρ':Nat->Nat}{vf vf':Nat->Option Nat}{h h':PH}{vh vh':VH}{K:Loc}{n:Nat}{Xi:Yw}{Y5:SL}{o:Oper}{x:PV}{all:List Oper}
theorem Zl5 (H:HP C ρ Z vh h){i Zc g:Nat}{own:Bool}{xs:List PV}(hi:h.get i=some (Zc,.row g own xs)):
  ∃ty vcs b,C.T g=some ty/\vh.get (ρ i)=some (.row vcs ty.size b)/\RDs C Z (xs.flatMap cellsOf) vcs/\(∀x∈xs,(cellsOf x).length=ty.size)/\(own=true->b=true/\Z (ρ i)=none):=by
 cases H.obj _ _ _ hi with
 |row g xs vcs ty ht hz hg hr hl=>exact⟨ty,vcs,true,ht,hg,hr,hl,fun _=>⟨rfl,hz⟩⟩
 |frozen g xs s ty ht hs he Z6w hr hl=>exact⟨ty,s.cells,s.own,ht,by rw[H.sig _ _ hs,he],hr,hl,fun e=>by cases e⟩
theorem R.own_inv {i Zc g off len:Nat}{v:Value}{ob:PO}(hr:R C ρ (Zp h) Z (.own i Zc g off len) v)(hi:h.get i=some (Zc,ob)):∃ty cap,C.T g=some ty/\v=.slice (some ⟨ρ i,off*ty.size,none⟩) len cap:=by
 cases hr with
 |d h=>cases h
 |own i Zc g off len c a cap ty hc hv hp ht ha=>
  rw[Zv.2 ⟨_,hi⟩]at hc;cases hc;cases ha rfl;exact⟨ty,cap,ht,rfl⟩
theorem R.ptr_inv {i Zc off:Nat}{v:Value}{ob:PO}(hr:R C ρ (Zp h) Z (.ptr i Zc off) v)(hi:h.get i=some (Zc,ob)):v=.pointer (some ⟨ρ i,off,none⟩):=by
 cases hr with
 |d h=>cases h
 |ptr i Zc off c a hc hv hp ha=>
  rw[Zv.2 ⟨_,hi⟩]at hc;cases hc;cases ha rfl;rfl
theorem R.eptr_inv {i Zc g ix off:Nat}{v:Value}{ob:PO}(hr:R C ρ (Zp h) Z (.eptr i Zc g ix off) v)(hi:h.get i=some (Zc,ob)):∃ty,C.T g=some ty/\v=.pointer (some ⟨ρ i,ix*ty.size+off,none⟩):=by
 cases hr with
 |d h=>cases h
 |eptr i Zc g ix off c a ty hc hv hp ht ha=>
  rw[Zv.2 ⟨_,hi⟩]at hc;cases hc;cases ha rfl;exact⟨ty,ht,rfl⟩
theorem R.map_inv {i Zc:Nat}{v:Value}{ob:PO}(hr:R C ρ (Zp h) Z (.map i Zc) v)(hi:h.get i=some (Zc,ob)):v=.map (some (ρ i)):=by
 cases hr with
 |d h=>cases h
 |map i Zc c w hc hv ha=>
  rw[Zv.2 ⟨_,hi⟩]at hc;cases hc;rw[ha rfl]
theorem Zqe (H:HP C ρ Z vh h){g:Nat}{ty:Ty}(hT:C.T g=some ty){v:Value}(hr:R C ρ (Zp h) Z x v){ys:List PV}(he:h.elems g x=some ys):
  Zuo v=some ys.length/\∃vcs,vh.elems ty.size v=some vcs/\RDs C Z (ys.flatMap cellsOf) vcs/\∀y∈ys,(cellsOf y).length=ty.size:=by
 cases x with
 |nils=>
  simp only[PH.elems,Option.some.injEq]at he;subst he;rw[hr.nils_inv];exact⟨rfl,[],rfl,.nil,fun y hy=>by simp at hy⟩
 |lst g' xs=>
  simp only[PH.elems]at he;split at he
  .rename_i e;cases he;subst e;cases hr.lst_inv with
   |lst g xs Ya o cap s vcs ty2 hs he2 ht Q4 hrr hx hl=>
    rw[hT]at Q4;cases Q4;refine⟨rfl,vcs,?_,hx,hl⟩;simp only[VH.elems,VH.load,H.sig _ _ hs,Option.isSome_none,Bool.false_eq_true,if_false,hrr]
  .cases he
 |own i Zc g' off len=>
  simp only[PH.elems]at he;split at he
  .rename_i e;subst e;split at he
   .rename_i own xs Uc;split at he
    .rename_i hl;cases he;have hi:=Rw.1 Uc;obtain⟨ty1,cap,h1,rfl⟩:=hr.own_inv hi;obtain⟨ty2,vcs,b,h2,hg,hrr,S4,_⟩:=Zl5 H hi;rw[hT]at h1 h2;cases h1;cases h2;have hlen:((xs.drop off).take len).length=len:=by simp;omega
     have Ul:=U5 S4
     have h1:X7 (xs.flatMap cellsOf) (off*ty.size) (len*ty.size)=some (((xs.drop off).take len).flatMap cellsOf):=by
      unfold X7;rw[if_pos (by rw[Ul,<- Nat.add_mul];exact Nat.mul_le_mul_right _ hl),Zcg S4,flat_take fun x hx=>S4 x (List.drop_subset _ _ hx)]
     obtain⟨r',h2,h3⟩:=hrr.read h1;refine⟨by rw[hlen];rfl,r',?_,h3,fun y hy=>S4 y (List.drop_subset _ _ (List.take_subset _ _ hy))⟩;simp only[VH.elems,VH.load,hg,Option.isSome_none,Bool.false_eq_true,if_false,h2]
    .cases he
   .cases he
  .cases he
 | _=>simp[PH.elems]at he
theorem Zhf (H:HP C ρ Z vh h){i Zc:Nat}{ob0 ob:PO}{vo:VO}(hi:h.get i=some (Zc,ob0))(hc:can K i=true)(hz:Z (ρ i)=none)
  (ho:∀ρ' vf',Ext ρ (Zp h) ρ' vf'->OR C ρ' vf' Z h.next ((vh.put (ρ i) (some vo)).note (ρ i)) i (ρ i) ob):
  St C K ρ Z h vh (fun j=>if j=i then ρ i else ρ j) Z (h.put i Zc ob) ((vh.put (ρ i) (some vo)).note (ρ i)):=by
 refine HP.change H (.inr ⟨rfl,_,hi⟩) (H.lt _ _ hi) hc (fun w o' hw=>?_) (H.rho_lt hi) (.inl ⟨_,hi,rfl⟩) (Nat.le_refl _) (Nat.min_le_left _ _) (fun _ _=>Nat.min_le_right _ _) (fun q hq _=>?_) (fun _ _=>.inl hz) hz (fun q y hq=>?_) (fun ρ' vf' _ _ he=>ho ρ' vf' he)
 .rw [hi]at hw;cases hw;exact⟨Nat.le_refl _,fun _=>rfl⟩
 .simp [VH.note,VH.put,Sx hq]
 .by_cases e:q=ρ i
  .subst e;exact H.rho_lt hi
  .simp only [VH.note,VH.put,Sx e,cond_false]at hq;exact H.vlt _ _ hq
theorem Zq3 {p:Nat}{vo:VO}:((vh.put p (some vo)).note p).get p=some vo:=by simp[VH.note,VH.put]
def Zy3 (C:Ctx)(ρ:Nat->Nat)(Z:Vf)(h:PH)(vh:VH)(x:PV)(h':PH)(r:Option (Value×VH)):Prop:=h'=h/\∃v,r=some (v,vh)/\R C ρ (Zp h) Z x v
theorem Zy3.up {x:PV}{h':PH}{r:Option (Value×VH)}(H:HP C ρ Z vh h)(s:Zy3 C ρ Z h vh x h' r):Zgt C K ρ Z h vh x h' r:=by
 obtain⟨rfl,v,h1,h2⟩:=s;exact⟨v,vh,ρ,Z,h1,h2,St.refl H⟩
theorem Zmj {t:TypeId}{y:Operand}{cf yf:Nat->List Value->VH->Option (Value×VH)}{pcf:CF}{pyf:YF}(H:HP C ρ Z vh h)(S:SR C ρ (Zp h) Z Xi Y5)(ho:o.op=.load t y){r:PV×PH}(he:Zj C pcf pyf all K Xi h o=some r):
  Zy3 C ρ Z h vh r.1 r.2 (Xs C cf yf Y5 vh o):=by
 simp only[Zj,ho]at he;split at he
 .rename_i ty i Zc off ht hy;obtain⟨w,W7,Vj⟩:=Zk S hy;split at he
  .rename_i v cs hi;split at he
   .rename_i e;subst e;rw[Option.map_eq_some_iff]at he;obtain⟨z,hz,rfl⟩:=he;rw[Option.bind_eq_some_iff]at hz;obtain⟨q,hq,hz⟩:=hz;have hw:=Vj.ptr_inv hi;subst hw;cases H.obj _ _ _ hi with
    |cells cs vcs e2 hzz hg hr=>
     obtain⟨q',h1,h2⟩:=hr.read hq;obtain⟨z',h3,h4⟩:=Zg5 h2 hz;refine⟨rfl,z',?_,h4⟩;simp only[Xs,ho,ht,W7,Option.isSome_none,Bool.false_eq_true,if_false,VH.load,hg,h1,Option.bind_some,h3,Option.map_some]
   .cases he
  .cases he
 .rename_i ty i Zc g ix off ht hy;obtain⟨w,W7,Vj⟩:=Zk S hy;split at he
  .rename_i own xs Uc;have hi:=Rw.1 Uc;split at he
   .rename_i el hel;rw[Option.map_eq_some_iff]at he;obtain⟨z,hz,rfl⟩:=he;rw[Option.bind_eq_some_iff]at hz;obtain⟨q,hq,hz⟩:=hz;obtain⟨ty1,h1,rfl⟩:=Vj.eptr_inv hi;obtain⟨ty2,vcs,b,h2,hg,hrr,S4,_⟩:=Zl5 H hi;rw[h1]at h2;cases h2;obtain⟨hlt,hx⟩:=List.getElem?_eq_some_iff.1 hel;have hxl:(cellsOf el).length=ty1.size:=S4 el (by rw[<- hx];exact List.getElem_mem hlt);have hle:ix*ty1.size+ty1.size<=xs.length*ty1.size:=by rw[<- Nat.succ_mul];exact Nat.mul_le_mul_right _ hlt
    have h3:X7 (xs.flatMap cellsOf) (ix*ty1.size) ty1.size=some (cellsOf el):=by
     unfold X7;rw[if_pos (by rw[U5 S4];exact hle),Znf S4 hel]
    obtain⟨r1,h4,h5⟩:=hrr.read h3;obtain⟨r2,h6,h7⟩:=h5.read hq;obtain⟨z',h8,h9⟩:=Zg4 h7 hz
    have Zx2:off+ty.size<=ty1.size:=by
     unfold X7 at hq;split at hq
     .rename_i hq2;rw[hxl]at hq2;exact hq2
     .cases hq
    refine⟨rfl,z',?_,.d h9⟩;simp only[Xs,ho,ht,W7,Option.isSome_none,Bool.false_eq_true,if_false,VH.load,hg,R5 h4 h6 Zx2,Option.bind_some,h8,Option.map_some]
   .cases he
  .cases he
 .cases he
theorem Zwu {cs:List PV}{off:Nat}{vs cs2:List PV}:∀ {cs' Ql:List Value},RDs C Z cs cs'->RDs C Z vs Ql->Yp cs off vs=some cs2->∃Znl,Wg cs' off Ql=some Znl/\RDs C Z cs2 Znl:=by
 induction cs generalizing off vs cs2 with
 |nil=>
  intro cs' Ql h1 h2 h;cases vs with
  |nil=>simp only[Yp,Option.some.injEq]at h;subst h;cases h2;cases h1;exact⟨[],rfl,.nil⟩
  |cons v vs=>simp[Yp]at h
 |cons c cs ih=>
  intro cs' Ql h1 h2 h;cases vs with
  |nil=>
   have:Yp (c::cs) off []=some (c::cs):=by cases off<;>rfl
   rw[this]at h;cases h;cases h2;exact⟨cs',by cases cs'<;>cases off<;>rfl,h1⟩
  |cons v vs=>
   cases h1 with
   |cons g r=>
    cases h2 with
    |cons g2 r2=>
     cases off with
     |zero=>
      simp only[Yp,Option.map_eq_some_iff]at h;obtain⟨w,hw,rfl⟩:=h;obtain⟨w',h3,h4⟩:=ih r r2 hw;exact⟨_,by simp only[Wg,h3,Option.map_some],.cons g2 h4⟩
     |succ i=>
      simp only[Yp,Option.map_eq_some_iff]at h;obtain⟨w,hw,rfl⟩:=h;obtain⟨w',h3,h4⟩:=ih r (.cons g2 r2) hw;exact⟨_,by simp only[Wg,h3,Option.map_some],.cons g h4⟩
theorem Zs3 {xs:List PV}{sz:Nat}(hl:∀x∈xs,(cellsOf x).length=sz){i off:Nat}{x:PV}(hx:xs[i]?=some x){vs ys:List PV}(hw:Yp (cellsOf x) off vs=some ys):
  Yp (xs.flatMap cellsOf) (i*sz+off) vs=some ((xs.take i).flatMap cellsOf++ys++(xs.drop (i+1)).flatMap cellsOf):=by
 have e1:∀(l:List PV) (k:Nat),Yp l k []=some l:=fun l k=>by cases l<;>cases k<;>rfl
 have wapp:∀(a b vs:List PV) (o:Nat),Yp (a++b) (a.length+o) vs=(Yp b o vs).map (a++·):=by
  intro a
  induction a with
  |nil=>intro b vs o;simp
  |cons c a ih2=>
   intro b vs o;cases vs with
   |nil=>rw[e1,e1];rfl
   |cons v vs=>
    have:(c::a).length+o=(a.length+o)+1:=by simp;omega
    rw[this];simp only[List.cons_append,Yp,ih2,Option.map_map];rfl
 have Zamt:∀(a b vs ys:List PV) (o:Nat),Yp a o vs=some ys->Yp (a++b) o vs=some (ys++b):=by
  intro a
  induction a with
  |nil=>
   intro b vs ys o h;cases vs with
   |nil=>simp only[Yp,Option.some.injEq]at h;subst h;rw[e1]
   |cons v vs=>simp[Yp]at h
  |cons c a ih2=>
   intro b vs ys o h;cases vs with
   |nil=>rw[e1]at h;cases h;rw[e1]
   |cons v vs=>
    cases o with
    |zero=>
     simp only[Yp,Option.map_eq_some_iff]at h;obtain⟨w,hw,rfl⟩:=h;simp only[List.cons_append,Yp,ih2 b _ _ _ hw,Option.map_some]
    |succ o=>
     simp only[Yp,Option.map_eq_some_iff]at h;obtain⟨w,hw,rfl⟩:=h;simp only[List.cons_append,Yp,ih2 b _ _ _ hw,Option.map_some]
 obtain⟨hi,e⟩:=List.getElem?_eq_some_iff.1 hx
 have Zahw:xs.flatMap cellsOf=(xs.take i).flatMap cellsOf++(cellsOf x++(xs.drop (i+1)).flatMap cellsOf):=by
  conv=>lhs;rw[<- List.take_append_drop i xs]
  rw[List.flatMap_append,List.drop_eq_getElem_cons hi,e,List.flatMap_cons]
 have hlen:((xs.take i).flatMap cellsOf).length=i*sz:=by
  rw[U5 fun y hy=>hl y (List.take_subset _ _ hy),List.length_take,Nat.min_eq_left (Nat.le_of_lt hi)]
 rw[Zahw,<- hlen,wapp,Zamt _ _ _ _ _ hw];simp
theorem Zfs {x y:PV}{off:Nat}{vs:List PV}(h:setCells x off vs=some y)(hc:vs.all W0=true):Yp (cellsOf x) off vs=some (cellsOf y):=by
 unfold setCells at h;split at h
 .rw [Option.map_eq_some_iff]at h;obtain⟨q,hq,rfl⟩:=h;exact hq
 .rename_i Yq;split at h
  .rename_i v;cases h;have h1:cellsOf x=[x]:=by cases x<;>first | rfl | exact absurd rfl (Yq _)
   simp only[List.all_cons,List.all_nil,Bool.and_true]at hc;have h2:cellsOf y=[y]:=by cases y<;>first | rfl | simp[W0]at hc
   rw[h1,h2];rfl
  .cases h
theorem Zpa {t:TypeId}{y z:Operand}{cf yf:Nat->List Value->VH->Option (Value×VH)}{pcf:CF}{pyf:YF}(H:HP C ρ Z vh h)(S:SR C ρ (Zp h) Z Xi Y5)(ho:o.op=.store t y z){r:PV×PH}(he:Zj C pcf pyf all K Xi h o=some r):
  Zgt C K ρ Z h vh r.1 r.2 (Xs C cf yf Y5 vh o):=by
 simp only[Zj,ho]at he;split at he
 .rename_i ty i Zc off v ht hy hv;obtain⟨w,W7,Vj⟩:=Zk S hy;obtain⟨u,hu1,hu2⟩:=Zk S hv;split at he
  .rename_i hc;split at he
   .rename_i ver' cs hi;split at he
    .rename_i e;subst e;rw[Option.map_eq_some_iff]at he;obtain⟨cs2,hcs2,rfl⟩:=he;have hw:=Vj.ptr_inv hi;subst hw;cases H.obj _ _ _ hi with
     |cells cs vcs e2 hzz hg hr=>
      obtain⟨Znl,h1,h2⟩:=Zf6 hr hu2.cells hcs2;have Rx:u.cells.size=ty.size:=by rw[<- Array.length_toList,hu2.cells.length];exact hc.1
      have X3:=Zhf (K:=K) (ob:=.cells cs2) (vo:=.row Znl e2 true) H hi hc.2.2 hzz fun ρ' vf' he=>.cells cs2 Znl e2 hzz Zq3 (h2.mono he (Vf.le.refl _))
      refine⟨.tuple #[],_,_,_,?_,.tuple _ _ .nil,X3⟩;simp only[Xs,ho,ht,W7,hu1,Option.isSome_none,Bool.false_eq_true,if_false,Rx,if_true,VH.store,hg];rw[if_pos (by rw[hu2.cells.cell hc.2.1];rfl),h1];rfl
    .cases he
   .cases he
  .cases he
 .rename_i ty i Zc g ix off v0 ht hy hv;obtain⟨w,W7,Vj⟩:=Zk S hy;obtain⟨u,hu1,hu2⟩:=Zk S hv;split at he
  .cases he
  .rename_i v Z7b;split at he
   .rename_i hc;split at he
    .rename_i xs Uc;have hi:=Rw.1 Uc;split at he
     .rename_i el hel;rw[Option.map_eq_some_iff]at he;obtain⟨el2,hel2,rfl⟩:=he;obtain⟨Z1,f⟩:=frz (bt:=false) (ownV v0) H;have Z6x:=St.frz (K:=K) H f hc.2.2.2.2;have hu3:R C ρ (Zp (h.freeze (ownV v0))) Z1 v u:=Zhw f.hp (fun i Zc g own xs hm hg=>Zlb hm hg) Z7b (hu2.mono Z6x.ext Z6x.sig);have hw3:=Vj.mono Z6x.ext Z6x.sig;obtain⟨ty1,h1,rfl⟩:=hw3.eptr_inv hi;obtain⟨ty2,vcs,b,h2,hg,hrr,S4,Z2g⟩:=Zl5 f.hp hi;rw[h1]at h2;cases h2;obtain⟨rfl,hzz⟩:=Z2g rfl
      have hpl:RDs C Z1 (cellsOf v) u.cells.toList:=by
       have hrs:=hu3.cells;have hpl:=hc.2.2.1;clear hrs
       have key:∀ {l:List PV} {l':List Value},l.all (plain 3)=true->Rs C ρ (Zp (h.freeze (ownV v0))) Z1 l l'->RDs C Z1 l l':=by
        intro l
        induction l with
        |nil=>intro l' _ h;cases h;exact .nil
        |cons c cs ih=>
         intro l' ha h;simp only[List.all_cons,Bool.and_eq_true]at ha;cases h with | cons h r=>exact .cons (Zzk (m:=0) ha.1 h) (ih ha.2 r)
       exact key hpl hu3.cells
      have hwr:=Zs3 S4 hel (Zfs hel2 hc.2.1);obtain⟨hlt,hx⟩:=List.getElem?_eq_some_iff.1 hel
      have Zam:(xs.take ix).flatMap cellsOf++cellsOf el2++(xs.drop (ix+1)).flatMap cellsOf=(xs.set ix el2).flatMap cellsOf:=by
       rw[List.set_eq_take_append_cons_drop,if_pos hlt,List.flatMap_append,List.flatMap_cons];simp
      rw[Zam]at hwr;obtain⟨Znl,h3,h4⟩:=Zwu hrr hpl hwr
      have Zaps:(cellsOf el2).length=ty1.size:=by
       have:=(Zlj (Zfs hel2 hc.2.1)).1;rw[this];exact S4 el (by rw[<- hx];exact List.getElem_mem hlt)
      have hst2:=Zhf (K:=K) (ob:=.row g true (xs.set ix el2)) (vo:=.row Znl ty1.size true) f.hp hi hc.2.2.2.1 hzz fun ρ' vf' he=>.row g _ Znl ty1 h1 hzz Zq3 h4 (Zzf S4 Zaps)
      have Rx:u.cells.size=ty.size:=by rw[<- Array.length_toList,hu3.cells.length];exact hc.1
      refine⟨.tuple #[],_,_,_,?_,.tuple _ _ .nil,Z6x.trans H hst2⟩;simp only[Xs,ho,ht,W7,hu1,Option.isSome_none,Bool.false_eq_true,if_false,Rx,if_true,VH.store,hg];rw[if_pos (by rw[hu3.cells.cell hc.2.1];rfl),h3];rfl
     .cases he
    .cases he
   .cases he
 .cases he
end
section
variable {C:Ctx}{Z Z':Vf}{ρ ρ':Nat->Nat}{vf vf':Nat->Option Nat}{h h':PH}{vh vh':VH}{K:Loc}{n:Nat}{Xi:Yw}{Y5:SL}{o:Oper}{x:PV}{all:List Oper}
 {cf yf:Nat->List Value->VH->Option (Value×VH)} {pcf:CF} {pyf:YF} {r:PV×PH}
theorem Zns:∀ {ys:List PV} {vcs:List Value} {s:List Nat},RDs C Z ys vcs->Zj.bytesP ys=some s->∃b,Zc2 vcs=some b/\s=b.data.toList.map UInt8.toNat
 | [],vcs,s,hr,h=>by
   simp only[Zj.bytesP,Option.some.injEq]at h;subst h;cases hr;exact⟨_,rfl,rfl⟩
 | .int .u8 m::ys,vcs,s,hr,h=>by
   simp only[Zj.bytesP,Option.map_eq_some_iff]at h;obtain⟨q,hq,rfl⟩:=h;cases hr with
   |cons g r=>
    cases g;obtain⟨b,h1,rfl⟩:=Zns r hq;refine⟨⟨(UInt8.ofNat m.toNat::b.data.toList).toArray⟩,by simp only[Zc2,h1,Option.map_some],?_⟩;simp
 | .int .i8 _::_,_,_,_,h | .int .i16 _::_,_,_,_,h | .int .i32 _::_,_,_,_,h | .int .i64 _::_,_,_,_,h | .int .u16 _::_,_,_,_,h | .int .u32 _::_,_,_,_,h | .int .u64 _::_,_,_,_,h=>by simp[Zj.bytesP]at h
 | .bool _::_,_,_,_,h | .str _::_,_,_,_,h | .nilp::_,_,_,_,h | .nils::_,_,_,_,h | .nilm::_,_,_,_,h | .nilf::_,_,_,_,h | .nili::_,_,_,_,h | .lst _ _::_,_,_,_,h | .own _ _ _ _ _::_,_,_,_,h
 | .ptr _ _ _::_,_,_,_,h | .eptr _ _ _ _ _::_,_,_,_,h | .rptr _::_,_,_,_,h | .map _ _::_,_,_,_,h | .fn _ _ _::_,_,_,_,h | .yield _ _::_,_,_,_,h | .iface _ _::_,_,_,_,h | .agg _::_,_,_,_,h | .tuple _::_,_,_,_,h=>by simp[Zj.bytesP]at h
theorem Zza (b:ByteArray):RDs C Z ((b.data.toList.map UInt8.toNat).map fun (b:Nat)=>PV.int .u8 (b:Int)) (b.data.toList.map fun b=>Value.int .u8 b.toNat):=by
 induction b.data.toList with
 |nil=>exact .nil
 |cons x l ih=>exact .cons (.int _ _) ih
theorem Ztk (l:List Nat):(l.map fun (b:Nat)=>PV.int .u8 (b:Int)).flatMap cellsOf=l.map fun (b:Nat)=>PV.int .u8 (b:Int):=by
 induction l with
 |nil=>rfl
 |cons x l ih=>simp[cellsOf,ih]
theorem Zzb (l:List Nat):∀x∈l.map (fun (b:Nat)=>PV.int .u8 (b:Int)),(cellsOf x).length=1:=by
 intro x hx;obtain⟨a,_,rfl⟩:=List.mem_map.1 hx;rfl
theorem Ze3 {i Zc g len cap:Nat}{ob:PO}{ty:Ty}(ht:C.T g=some ty)(p:Nat):R C (fun j=>if j=i then p else ρ j) (Zp (h.put i Zc ob)) Z (.own i Zc g 0 len) (.slice (some ⟨p,0,none⟩) len cap):=
 .own i Zc g 0 len Zc ⟨p,0,none⟩ cap ty Zhl (Nat.le_refl _) rfl ht fun _=>by simp
theorem Zkf {g:Nat}{v:Value}{ys:List PV}(hr:R C ρ vf Z x v)(he:h.elems g x=some ys):∃a l c,v=.slice a l c:=by
 cases x with
 |nils=>rw[hr.nils_inv];exact⟨_,_,_,rfl⟩
 |lst g' xs=>cases hr.lst_inv;exact⟨_,_,_,rfl⟩
 |own i Zc g' off len=>cases hr with
  |d h=>cases h
  |own=>exact⟨_,_,_,rfl⟩
 | _=>simp[PH.elems]at he
theorem Zvt {src dst:TypeId}{y:Operand}(H:HP C ρ Z vh h)(S:SR C ρ (Zp h) Z Xi Y5)(hK:KOk K n h.next)(hd:∀d,o.dst=some d->d < n)(ho:o.op=.convert src dst y)(he:Zj C pcf pyf all K Xi h o=some r):
  Zgt C K ρ Z h vh r.1 r.2 (Xs C cf yf Y5 vh o):=by
 simp only[Zj,ho]at he;split at he
 .rename_i ts td v hs htd hv;obtain⟨w,W7,Vj⟩:=Zk S hv;split at he
  .rename_i e s hk1 hk2;split at he
   .rename_i te d V4 Rd;split at he
    .rename_i hk3;split at he
     .rename_i hc;cases he;obtain⟨b,rfl,rfl⟩:=Vj.str_inv
      have X3:=Zb1 (K:=K) (vo:=.row (b.data.toList.map fun b=>.int .u8 b.toNat) 1 true) H hK (hd d Rd) (ob:=.row e true ((b.data.toList.map UInt8.toNat).map fun (b:Nat)=>.int .u8 (b:Int))) fun ρ' vf' _=>
       .row e _ (b.data.toList.map fun b=>.int .u8 b.toNat) te V4 (by
        cases e:Z vh.next with
        |none=>rfl
        |some s=>exact absurd (H.vlt _ _ (H.sig _ _ e)) (Nat.lt_irrefl _)) (by rw[hc.2];simp[VH.new]) (by rw[Ztk];exact Zza b) (by rw[hc.2];exact Zzb _)
      refine⟨.slice (some ⟨vh.next,0,none⟩) b.size b.size,_,_,_,?_,by rw[Tz];exact Ze3 V4 _,X3⟩;simp only[Xs,ho,hs,htd,W7,hk1,hk2,V4,hk3];rw[if_pos (by rw[Tz];exact hc.1)]
     .cases he
    .cases he
   .cases he
  .rename_i e v hk1 hk2;split at he
   .rename_i te V4;split at he
    .rename_i hk3;split at he
     .rename_i Rx;rw[Option.map_eq_some_iff]at he;obtain⟨q,hq,rfl⟩:=he;rw[Option.bind_eq_some_iff]at hq;obtain⟨ys,hys,hq⟩:=hq;obtain⟨hl,vcs,h1,h2,h3⟩:=Zqe H V4 Vj hys
      have Zm1:ys.flatMap cellsOf=ys:=by
       have:∀ {ys:List PV} {q:List Nat},Zj.bytesP ys=some q->ys.flatMap cellsOf=ys:=by
        intro ys
        induction ys with
        |nil=>intros;rfl
        |cons y ys ih=>
         intro q hq;cases y with
         |int k m=>
          cases k<;>simp[Zj.bytesP]at hq;obtain⟨q',hq',_⟩:=hq;simp[cellsOf,ih hq']
         | _=>simp[Zj.bytesP]at hq
       exact this hq
      rw[Zm1]at h2;obtain⟨b,h4,rfl⟩:=Zns h2 hq;rw[Rx]at h1;refine⟨.string b,vh,ρ,Z,?_,.d (.str b),St.refl H⟩;have hv':=Zkf Vj hys;obtain⟨a,l,c,rfl⟩:=hv';simp only[Xs,ho,hs,htd,W7,hk1,hk2,V4,hk3,Rx,if_true,h1,Option.bind_some,h4,Option.map_some]
     .cases he
    .cases he
   .cases he
  .cases he
 .cases he
theorem Z0o {t:TypeId}{y:Operand}{lo hi:Option Operand}(H:HP C ρ Z vh h)(S:SR C ρ (Zp h) Z Xi Y5)(ho:o.op=.slice t y lo hi none)(he:Zj C pcf pyf all K Xi h o=some r):
  Zy3 C ρ Z h vh r.1 r.2 (Xs C cf yf Y5 vh o):=by
 simp only[Zj,ho]at he;split at he
 .rename_i ty i Zc g off len ht hy;obtain⟨w,W7,Vj⟩:=Zk S hy;split at he
  .rename_i l u S9 hhi;obtain⟨l',hl1,hl2⟩:=Zhg S S9;obtain⟨u',hu1,hu2⟩:=Zhg S hhi;split at he
   .rename_i e hk;split at he
    .rename_i te p q rw_ V4 hb Uc;split at he
     .rename_i hge;cases he;subst hge;have hi':=Rw.1 Uc;obtain⟨ty1,cap,h1,rfl⟩:=Vj.own_inv hi';obtain⟨ty2,vcs,b,h2,hg,_⟩:=Zl5 H hi';rw[V4]at h1 h2;cases h1;cases h2;have hb':=Zbk hl2 hu2 hb;refine⟨rfl,_,?_,.own i Zc e (off+p) (q - p) Zc ⟨ρ i,off*te.size+p*te.size,none⟩ (q - p) te (Zv.2 ⟨_,hi'⟩) (Nat.le_refl _) rfl V4 (fun _=>by rw[Nat.add_mul])⟩;rw[Ze4 ho ht W7 hl1 hu1];simp only[Zl1,hk,hb',V4,hg,if_true]
     .cases he
    .cases he
   .cases he
  .cases he
 .cases he
theorem Zfv {t:TypeId}{y z:Operand}(H:HP C ρ Z vh h)(S:SR C ρ (Zp h) Z Xi Y5)(ho:o.op=.indexAddr t y z)(he:Zj C pcf pyf all K Xi h o=some r):
  Zy3 C ρ Z h vh r.1 r.2 (Xs C cf yf Y5 vh o):=by
 simp only[Zj,ho]at he;split at he
 .rename_i ty b Zc g off len k i ht hy hz;obtain⟨w,W7,Vj⟩:=Zk S hy;obtain⟨u,hu1,hu2⟩:=Zk S hz;rw[hu2.int_inv]at hu1;split at he
  .rename_i e hk;split at he
   .rename_i te own xs V4 Uc;split at he
    .rename_i hc;cases he;obtain⟨rfl,h0,hlt,hle⟩:=hc;have hi':=Rw.1 Uc;obtain⟨ty1,cap,h1,rfl⟩:=Vj.own_inv hi';rw[V4]at h1;cases h1;refine⟨rfl,_,?_,.eptr b Zc e (off+i.toNat) 0 Zc ⟨ρ b,off*te.size+i.toNat*te.size,none⟩ te (Zv.2 ⟨_,hi'⟩) (Nat.le_refl _) rfl V4 (fun _=>by rw[Nat.add_mul];rfl)⟩;simp only[Xs,ho,ht,W7,hu1,hk,V4];rw[if_pos ⟨h0,hlt⟩];rfl
    .cases he
   .cases he
  .cases he
 .cases he
theorem Zmi {t:TypeId}{y z:Operand}{ok:Bool}(H:HP C ρ Z vh h)(S:SR C ρ (Zp h) Z Xi Y5)(ho:o.op=.lookup t y z ok)(he:Zj C pcf pyf all K Xi h o=some r):
  Zy3 C ρ Z h vh r.1 r.2 (Xs C cf yf Y5 vh o):=by
 simp only[Zj,ho]at he;split at he
 .rename_i ty i Zc k ht hy hz;obtain⟨w,W7,Vj⟩:=Zk S hy;obtain⟨u,hu1,hu2⟩:=Zk S hz;split at he
  .rename_i kt et hk;split at he
   .rename_i kty ety hkt het;split at he
    .rename_i Sj;split at he
     .rename_i ver' es hi;split at he
      .rename_i e;subst e;have hw:=Vj.map_inv hi;subst hw;cases H.obj _ _ _ hi with
       |map es ves hzz hg hr=>
        split at he
        .rename_i v hf;cases he;obtain⟨v',h1,h2⟩:=Zj2 hr hu2 hf;cases h2 with
         |some h2=>
          rename_i v';refine⟨rfl,if ok then .tuple #[v',.bool true] else v',?_,?_⟩
          .simp only [Xs,ho,ht,W7,hu1,hk,hkt,het];rw[if_pos (Zhu hu2 Sj)];simp only[hg,h1]
          .cases ok with
           |true=>exact .tuple _ _ (.cons h2 (.cons (.d (.bool _)) .nil))
           |false=>exact h2
        .rename_i hf;rw[Option.map_eq_some_iff]at he;obtain⟨zv,hzv,rfl⟩:=he;obtain⟨v',h1,h2⟩:=Zj2 hr hu2 hf;cases h2;obtain⟨zv',h3,h4⟩:=Zo4 (Z:=Z) hzv;refine⟨rfl,if ok then .tuple #[zv',.bool false] else zv',?_,?_⟩
         .simp only [Xs,ho,ht,W7,hu1,hk,hkt,het];rw[if_pos (Zhu hu2 Sj)];simp only[hg,h1,h3,Option.map_some]
         .cases ok with
          |true=>exact .tuple _ _ (.cons (.d h4) (.cons (.d (.bool _)) .nil))
          |false=>exact .d h4
        .cases he
      .cases he
     .cases he
    .cases he
   .cases he
  .cases he
 .cases he
theorem Zfu {t:TypeId}{m k y:Operand}(H:HP C ρ Z vh h)(S:SR C ρ (Zp h) Z Xi Y5)(ho:o.op=.mapUpdate t m k y\/o.op=.insert t m k y)(he:Zj C pcf pyf all K Xi h o=some r):
  Zgt C K ρ Z h vh r.1 r.2 (Xs C cf yf Y5 vh o):=by
 have he':(match C.T t,Yz Xi m,Yz Xi k,Yz Xi y with
  |some ty,some (.map i Zc),some kv,some v=>
   match ty.k with
   | .map kt _=>match C.T kt,h.get i with
     |some kty,some (w,.map es)=>if w=Zc/\Zq8 kty.k kv=true/\can K i=true then (Ur es kv v).map fun es=>(PV.tuple [],h.put i Zc (.map es)) else none
     | _,_=>none
   | _=>none
  | _,_,_,_=>none)=some r:=by
  rcases ho with ho | ho<;>simp only[Zj,ho]at he<;>exact he
 clear he;split at he'
 .rename_i ty i Zc kv v ht hm hk hy;obtain⟨w,W7,Vj⟩:=Zk S hm;obtain⟨u,hu1,hu2⟩:=Zk S hk;obtain⟨z,hz1,hz2⟩:=Zk S hy;split at he'
  .rename_i kt et hkk;split at he'
   .rename_i kty ver' es hkt hi;split at he'
    .rename_i hc;obtain⟨rfl,Sj,Zx⟩:=hc;rw[Option.map_eq_some_iff]at he';obtain⟨es2,hes2,rfl⟩:=he';have hw:=Vj.map_inv hi;subst hw;cases H.obj _ _ _ hi with
     |map es ves hzz hg hr=>
      obtain⟨Z8i,h1,h2⟩:=Zxm hr hu2 hz2 hes2;have X3:=Zhf (K:=K) (ob:=.map es2) (vo:=.map Z8i) H hi Zx hzz fun ρ' vf' he=>.map es2 Z8i hzz Zq3 (h2.mono he (Vf.le.refl _))
      refine⟨.tuple #[],_,_,_,?_,.tuple _ _ .nil,X3⟩;rcases ho with ho | ho<;>simp only[Xs,ho,ht,W7,hu1,hz1,hkk,hkt,hg]<;>rw[if_pos (Zhu hu2 Sj),h1]<;>rfl
    .cases he'
   .cases he'
  .cases he'
 .cases he'
end
section
variable {C:Ctx}{Z Z':Vf}{ρ ρ':Nat->Nat}{vf vf':Nat->Option Nat}{h h':PH}{vh vh':VH}{K:Loc}{n:Nat}{Xi:Yw}{Y5:SL}{o:Oper}{x:PV}{all:List Oper}
 {cf yf:Nat->List Value->VH->Option (Value×VH)} {pcf:CF} {pyf:YF} {r:PV×PH}
theorem Qs (H:HP C ρ Z vh h):Z vh.next=none:=by
 cases e:Z vh.next with
 |none=>rfl
 |some s=>exact absurd (H.vlt _ _ (H.sig _ _ e)) (Nat.lt_irrefl _)
theorem Zkk (H:HP C ρ Z vh h)(hK:KOk K n h.next){d g:Nat}(hd:d < n){ty:Ty}(ht:C.T g=some ty){m:Nat}{ys:List PV}{s:PV}{s' x':Value}{ycs:List Value}(hs:R C ρ (Zp h) Z s s')(hm:Zuo x'=some m)(hml:ys.length=m)
  (hx:vh.elems ty.size x'=some ycs) (hy:RDs C Z (ys.flatMap cellsOf) ycs) (hyl:∀y∈ys,(cellsOf y).length=ty.size) (he:Xu K h d g ty m ys s=some r):Zgt C K ρ Z h vh r.1 r.2 (S7 vh ty s' x'):=by
 cases s with
 |nils=>
  rw[hs.nils_inv];have hn0:vh.elems ty.size (.slice none 0 0)=some []:=rfl;simp only[Xu]at he;split at he
  .rename_i hc;split at he
   .rename_i h0;cases he;refine⟨.slice none 0 0,vh,ρ,Z,?_,.d .nils,St.refl H⟩;unfold S7;simp only[hm,hx,hn0];rw[if_pos ⟨by omega,hc.2⟩,if_pos h0]
   .rename_i h0;cases he;have X3:=Zb1 (K:=K) (vo:=.row ycs ty.size true) H hK hd (ob:=.row g true ys) fun ρ' vf' _=>.row g ys ycs ty ht (Qs H) (by simp[VH.new]) hy hyl
    refine⟨.slice (some ⟨vh.next,0,none⟩) m m,_,_,_,?_,Ze3 ht _,X3⟩;unfold S7;simp only[hm,hx,hn0];rw[if_pos ⟨by omega,hc.2⟩,if_neg h0]
  .cases he
 |own i Zc g' off len=>
  simp only[Xu]at he;split at he
  .rename_i hc;obtain⟨hc1,hc2,hc3,rfl,Zx⟩:=hc;split at he
   .rename_i xs Uc;split at he
    .rename_i hl;cases he;have hi:=Rw.1 Uc;obtain⟨ty1,cap,h1,rfl⟩:=hs.own_inv hi;obtain⟨ty2,vcs,b,h2,hg,hrr,S4,Z2g⟩:=Zl5 H hi;rw[ht]at h1 h2;cases h1;cases h2;obtain⟨rfl,hzz⟩:=Z2g rfl;have Ul:=U5 S4
     have h1:X7 (xs.flatMap cellsOf) (off*ty.size) (len*ty.size)=some (((xs.drop off).take len).flatMap cellsOf):=by
      unfold X7;rw[if_pos (by rw[Ul,<- Nat.add_mul];exact Nat.mul_le_mul_right _ hl),Zcg S4,flat_take fun x hx=>S4 x (List.drop_subset _ _ hx)]
     obtain⟨r',h2,h3⟩:=hrr.read h1
     have hel:vh.elems ty.size (.slice (some ⟨ρ i,off*ty.size,none⟩) len cap)=some r':=by
      simp only[VH.elems,VH.load,hg,Option.isSome_none,Bool.false_eq_true,if_false,h2]
     have hlt:=H.rho_lt hi
     have X3:St C K ρ Z h vh (fun j=>if j=i then vh.next else ρ j) Z (h.put i (Zc+1) (.row g' true ((xs.drop off).take len++ys))) (((vh.put (ρ i) none).note (ρ i)).new (.row (r'++ycs) ty.size true)):=by
      refine HP.change H (.inr ⟨rfl,_,hi⟩) (H.lt _ _ hi) Zx (fun w o' hw=>?_) (by simp[VH.new,VH.note,VH.put]) (.inr (Nat.le_refl _)) (by simp[VH.new,VH.note,VH.put]) (Nat.min_le_left _ _) (fun _ _=>Nat.min_le_right _ _)
       (fun q hq1 hq2=>?_) (fun _ _=>.inl hzz) (Qs H) (fun q y hq=>?_) (fun ρ' vf' _ _ Vt=>?_)
      .rw [hi]at hw;cases hw;exact⟨by omega,fun e=>by omega⟩
      .have:=hq2 ⟨_,hi⟩;simp[VH.new,VH.note,VH.put,Sx hq1,Sx this]
      .by_cases e:q=vh.next
       .subst e;simp[VH.new,VH.note,VH.put]
       .simp only [VH.new,VH.note,VH.put,Sx e,cond_false]at hq ⊢;cases e2:Nat.beq q (ρ i) with
        |true=>rw[e2]at hq;cases hq
        |false=>
         rw[e2]at hq;have:=H.vlt _ _ hq;omega
      .refine .row g' _ (r'++ycs) ty ht (Qs H) (by simp[VH.new,VH.note,VH.put]) ?_ ?_
       .rw [List.flatMap_append];exact h3.append hy
       .intro x hx;rcases List.mem_append.1 hx with hx | hx
        .exact S4 x (List.drop_subset _ _ (List.take_subset _ _ hx))
        .exact hyl x hx
     refine⟨.slice (some ⟨vh.next,0,none⟩) (len+m) (len+m),_,_,_,?_,Ze3 ht _,X3⟩;unfold S7;simp only[hm,hx,hel];rw[if_pos ⟨hc1,hc2,hc3⟩];simp only[hg,if_true]
    .cases he
   .cases he
  .cases he
 | _=>simp[Xu]at he
theorem Zyr {i Zc:Nat}{k:PV}{u:Value}{c:Call}(H:HP C ρ Z vh h)(S:SR C ρ (Zp h) Z Xi Y5)(ho:o.op=.call c)(Wp:c.callee=.builtin .delete){w:Value}(ha:opds C Y5 c.args.toList=some [w,u])(hw:R C ρ (Zp h) Z (.map i Zc) w)(hu:R C ρ (Zp h) Z k u)
  (he:(match (c.argTypes[0]?).bind C.T with
     |some ts=>match ts.k with
      | .map kt _=>
        match C.T kt,h.get i with
        |some kty,some (w,.map es)=>if w=Zc/\Zq8 kty.k k=true/\can K i=true then (Zcu es k).map fun es=>(PV.tuple [],h.put i Zc (.map es)) else none
        | _,_=>none
      | _=>none
     |none=>none)=some r):Zgt C K ρ Z h vh r.1 r.2 (Xs C cf yf Y5 vh o):=by
 split at he
 .rename_i ts ht;split at he
  .rename_i kt et hk;split at he
   .rename_i kty ver' es hkt hi;split at he
    .rename_i hc;obtain⟨rfl,Sj,Zx⟩:=hc;rw[Option.map_eq_some_iff]at he;obtain⟨es2,hes2,rfl⟩:=he;have hw':=hw.map_inv hi;subst hw';cases H.obj _ _ _ hi with
     |map es ves hzz hg hr=>
      obtain⟨Z8i,h1,h2⟩:=Zxn hr hu hes2;have X3:=Zhf (K:=K) (ob:=.map es2) (vo:=.map Z8i) H hi Zx hzz fun ρ' vf' he=>.map es2 Z8i hzz Zq3 (h2.mono he (Vf.le.refl _))
      refine⟨.tuple #[],_,_,_,?_,.tuple _ _ .nil,X3⟩;simp only[Xs,ho,U6,ha,Wp,ht,hk,hkt,hg];rw[if_pos (Zhu hu Sj),h1];rfl
    .cases he
   .cases he
  .cases he
 .cases he
def Zim (C:Ctx)(K:Loc)(n:Nat)(pcf:CF)(cf:Nat->List Value->VH->Option (Value×VH)):Prop:=
 ∀f args h r,pcf K f args h=some r->∀(ρ:Nat->Nat) (Z:Vf) (vh:VH) (Wl:List Value),HP C ρ Z vh h->KOk K n h.next->Rs C ρ (Zp h) Z args Wl->Zgt C K ρ Z h vh r.1 r.2 (cf f Wl vh)
def YfSim (C:Ctx)(K:Loc)(n:Nat)(pyf:YF)(yf:Nat->List Value->VH->Option (Value×VH)):Prop:=
 ∀l Zc args h r,pyf K l Zc args h=some r->∀(ρ:Nat->Nat) (Z:Vf) (vh:VH) (Wl:List Value) (w:Value),HP C ρ Z vh h->KOk K n h.next->Rs C ρ (Zp h) Z args Wl->R C ρ (Zp h) Z (.yield l Zc) w->∃p,w=.func (.yield p) #[] #[]/\Zgt C K ρ Z h vh r.1 r.2 (yf p Wl vh)
theorem Zvx {c:Call}(hcf:Zim C K n pcf cf)(hyf:YfSim C K n pyf yf)(H:HP C ρ Z vh h)(S:SR C ρ (Zp h) Z Xi Y5)(hK:KOk K n h.next)(hd:∀d,o.dst=some d->d < n)(ho:o.op=.call c)(he:Zj C pcf pyf all K Xi h o=some r):
  Zgt C K ρ Z h vh r.1 r.2 (Xs C cf yf Y5 vh o):=by
 simp only[Zj,ho]at he;split at he
 .cases he
 .rename_i args Xz;obtain⟨Wl,Rp,Ry⟩:=Sd S Xz;split at he
  .rename_i f Wp;split at he
   .rename_i g first captured hf
    obtain⟨w,W7,Vj⟩:=Zk S hf;cases Vj with
    |d h=>cases h
    |fn g a c2 a' c' r1 r2=>
     obtain⟨v,vh',ρ',Z',q1,q2,q3⟩:=hcf g _ h r he ρ Z vh (a'.toList++Wl++c'.toList) H hK ((r1.append Ry).append r2);refine⟨v,vh',ρ',Z',?_,q2,q3⟩;simp only[Xs,ho,U6,Rp,Wp,W7];exact q1
   .rename_i l Zc hf;obtain⟨w,W7,Vj⟩:=Zk S hf;obtain⟨p,rfl,v,vh',ρ',Z',q1,q2,q3⟩:=hyf l Zc args h r he ρ Z vh Wl w H hK Ry Vj;refine⟨v,vh',ρ',Z',?_,q2,q3⟩;simp only[Xs,ho,U6,Rp,Wp,W7];exact q1
   .cases he
  .cases he
  .rename_i b Wp;split at he
   .rename_i i Zc;cases Ry with
    |cons hy hr=>
     cases hr;split at he
     .rename_i ty ht;split at he
      .rename_i kt et hk;split at he
       .rename_i w es hi;split at he
        .rename_i e;subst e;cases he;have hw:=hy.map_inv hi;subst hw;cases H.obj _ _ _ hi with
         |map es ves hzz hg hr=>
          refine⟨.int .i64 ves.length,vh,ρ,Z,?_,by rw[hr.length];exact .d (.int _ _),St.refl H⟩;simp only[Xs,ho,U6,Rp,Wp,ht,hk,hg]
        .cases he
       .cases he
      .cases he
     .cases he
   .rename_i s x;cases Ry with
    |cons hs hr=>
     rename_i s' l1;cases hr with
     |cons hx hr=>
      rename_i x' l2;cases hr;split at he
      .rename_i ts tx d hts htx Rd;split at he
       .rename_i e hk;split at he
        .rename_i ty Q4
         have X8:Xs C cf yf Y5 vh o=U7 vh ty tx s' x':=by
          simp only[Xs,ho,U6,Rp,Wp,hts,htx,hk,Q4]
         rw[X8];split at he
         .rename_i k hkx;split at he
          .rename_i k2 m;have hs':=hs.nils_inv;have hx':=hx.int_inv;subst hs' hx';split at he
           .rename_i hc;split at he
            .rename_i h0;cases he;refine⟨.slice none 0 0,vh,ρ,Z,?_,.d .nils,St.refl H⟩;simp only[U7,hkx];rw[if_pos hc,if_pos h0]
            .rename_i h0;split at he
             .rename_i z hz;split at he
              .rename_i hzc;cases he;have Z19:RDs C Z (cellsOf z) ty.zero:=Zf4 hz
               have X3:=Zb1 (K:=K) (vo:=.row (Vs m.toNat ty.zero) ty.size true) H hK (hd d Rd) (ob:=.row e true (List.replicate m.toNat z)) fun ρ' vf' _=>
                .row e _ _ ty Q4 (Qs H) (by simp[VH.new]) (Zl7 Z19 m.toNat) (fun x hx=>by rw[(List.mem_replicate.1 hx).2];exact hzc.1)
               refine⟨.slice (some ⟨vh.next,0,none⟩) m.toNat m.toNat,_,_,_,?_,Ze3 Q4 _,X3⟩;simp only[U7,hkx];rw[if_pos hc,if_neg h0]
              .cases he
             .cases he
           .cases he
          .cases he
         .rename_i hkx;split at he
          .rename_i b;split at he
           .rename_i Rx;obtain⟨bs,rfl,rfl⟩:=hx.str_inv
            have hA:U7 vh ty tx s' (.string bs)=S7 vh ty s' (.string bs):=by
             unfold U7;split
             .rename_i k hk2;exact absurd hk2 (hkx _)
             .simp [Rx]
            rw[hA];refine Zkk (ycs:=bs.data.toList.map fun b=>.int .u8 b.toNat) H hK (hd d Rd) Q4 hs (by simp only[Zuo];rw[Tz]) (by simp) rfl ?_ ?_ he
            .rw [Ztk];exact Zza bs
            .rw [Rx];exact Zzb _
           .cases he
          .rename_i hns;split at he
           .rename_i ys hys;obtain⟨hl,vcs,h1,h2,h3⟩:=Zqe H Q4 hx hys;obtain⟨a,l,c2,rfl⟩:=Zkf hx hys
            have hA:U7 vh ty tx s' (.slice a l c2)=S7 vh ty s' (.slice a l c2):=by
             unfold U7;split
             .rename_i k hk2;exact absurd hk2 (hkx _)
             .simp
            rw[hA];exact Zkk H hK (hd d Rd) Q4 hs hl rfl h1 h2 h3 he
           .cases he
        .cases he
       .cases he
      .cases he
   .rename_i i Zc k;cases Ry with
    |cons hs hr=>
     cases hr with
     |cons hx hr=>
      cases hr;exact Zyr H S ho Wp Rp hs hx he
   .cases he
theorem Zly (hcf:Zim C K n pcf cf)(hyf:YfSim C K n pyf yf)(H:HP C ρ Z vh h)(S:SR C ρ (Zp h) Z Xi Y5)(hK:KOk K n h.next)(hd:∀d,o.dst=some d->d < n)(he:Zj C pcf pyf all K Xi h o=some r):
  Zgt C K ρ Z h vh r.1 r.2 (Xs C cf yf Y5 vh o):=by
 cases ho:o.op with
 |load t y=>exact (Zmj H S ho he).up H
 |store t y z=>exact Zpa H S ho he
 |convert src dst y=>exact Zvt H S hK hd ho he
 |slice t y lo hi mx=>
  cases mx with
  |none=>exact (Z0o H S ho he).up H
  |some m=>simp[Zj,ho]at he
 |indexAddr t y z=>exact (Zfv H S ho he).up H
 |lookup t y z ok=>exact (Zmi H S ho he).up H
 |mapUpdate t m k y=>exact Zfu H S (.inl ho) he
 |insert t m k y=>exact Zfu H S (.inr ho) he
 |call c=>exact Zvx hcf hyf H S hK hd ho he
 | _=>simp[Zj,ho]at he
theorem Z5a (H:HP C ρ Z vh h)(S:SR C ρ (Zp h) Z Xi Y5)(hw:U8 o=false)(he:Zj C pcf pyf all K Xi h o=some r):Zy3 C ρ Z h vh r.1 r.2 (Xs C cf yf Y5 vh o):=by
 cases ho:o.op with
 |load t y=>exact Zmj H S ho he
 |slice t y lo hi mx=>
  cases mx with
  |none=>exact Z0o H S ho he
  |some m=>simp[Zj,ho]at he
 |indexAddr t y z=>exact Zfv H S ho he
 |lookup t y z ok=>exact Zmi H S ho he
 |call c=>
  simp only[U8,ho]at hw;split at hw
  .rename_i Wp;simp only[Zj,ho]at he;split at he
   .cases he
   .rename_i args Xz;obtain⟨Wl,Rp,Ry⟩:=Sd S Xz;rw[Wp]at he
    try dsimp only at he
    split at he
    .rename_i i Zc _;cases Ry with
     |cons hy hr=>
      cases hr;split at he
      .rename_i ty ht;split at he
       .rename_i kt et hk;split at he
        .rename_i w es hi;split at he
         .rename_i e;subst e;cases he;have hw:=hy.map_inv hi;subst hw;cases H.obj _ _ _ hi with
          |map es ves hzz hg hr=>
           refine⟨rfl,.int .i64 ves.length,?_,by rw[hr.length];exact .d (.int _ _)⟩;simp only[Xs,ho,U6,Rp,Wp,ht,hk,hg]
         .cases he
        .cases he
       .cases he
      .cases he
    .rename_i hh;cases hh
    .rename_i hh;cases hh
    .cases he
  .cases hw
 | _=>simp[U8,ho]at hw<;>simp[Zj,ho]at he
theorem Zag4 {m:Mk}{sh:Shape}{vo:VO}(hm:MkOk C ρ (Zp h) Z m sh vo)(H:HP C ρ Z vh h)(hK:KOk K n h.next){d:Nat}(hd:d < n){ob:PO}(Tl:m.obj=some ob):
  Zgt C K ρ Z h vh (m.val (K.base+d) (h.stamp (K.base+d))) (h.put (K.base+d) (h.stamp (K.base+d)) ob) (some (sh.val vh.next,vh.new vo)):=by
 cases hm with
 |lit=>simp[Mk.obj]at Tl
 |ptr cs vcs e hr=>
  simp only[Mk.obj,Option.some.injEq]at Tl;subst Tl;have X3:=Zb1 (K:=K) (vo:=.row vcs e true) H hK hd (ob:=.cells cs) fun ρ' vf' he=>.cells cs vcs e (Qs H) (by simp[VH.new]) (hr.mono he (Vf.le.refl _))
  exact⟨_,_,_,_,rfl,.ptr _ _ 0 _ ⟨vh.next,0,none⟩ Zhl (Nat.le_refl _) rfl fun _=>by simp,X3⟩
 |slice g m xs vcs ty ht hr hl=>
  simp only[Mk.obj,Option.some.injEq]at Tl;subst Tl;have X3:=Zb1 (K:=K) (vo:=.row vcs ty.size true) H hK hd (ob:=.row g true xs) fun ρ' vf' he=>.row g xs vcs ty ht (Qs H) (by simp[VH.new]) hr hl
  exact⟨_,_,_,_,rfl,Ze3 ht _,X3⟩
 |map=>
  simp only[Mk.obj,Option.some.injEq]at Tl;subst Tl;have X3:=Zb1 (K:=K) (vo:=.map []) H hK hd (ob:=.map []) fun ρ' vf' he=>.map [] [] (Qs H) (by simp[VH.new]) .nil
  exact⟨_,_,_,_,rfl,.map _ _ _ vh.next Zhl (Nat.le_refl _) fun _=>by simp,X3⟩
theorem Zabc (hcf:Zim C K n pcf cf)(hyf:YfSim C K n pyf yf)(H:HP C ρ Z vh h)(S:SR C ρ (Zp h) Z Xi Y5)(hK:KOk K n h.next)(hd:∀d,o.dst=some d->d < n)(he:opP C pcf pyf all K Xi h o=some r):
  Zgt C K ρ Z h vh r.1 r.2 (Xs C cf yf Y5 vh o):=by
 unfold opP at he;split at he
 .rename_i v hf;cases he;obtain⟨w,h1,h2⟩:=Zvh S hf;exact⟨w,vh,ρ,Z,h2 cf yf vh H.sig,h1,St.refl H⟩
 .split at he
  .rename_i m hm;obtain⟨sh,vo,h1,h2,h3⟩:=Zpo S hm;rw[h3 cf yf vh];split at he
   .rename_i Tl;cases he;cases h1 with
    |lit g xs vcs ty ht hr hl=>
     obtain⟨Z',X3,hrd,_⟩:=Z5d (K:=K) H ht hr hl;exact⟨_,_,ρ,Z',rfl,.d hrd,X3⟩
    | _=>simp[Mk.obj]at Tl
   .rename_i ob d Tl Rd;cases he;exact Zag4 h1 H hK (hd d Rd) Tl
   .cases he
  .exact Zly hcf hyf H S hK hd he
theorem Za9 {ops:List Oper}{b:Bool}(S:SR C ρ vf Z Xi Y5)(he:Vv ops Xi o=some b):Qp ops Y5 o=some b:=by
 unfold Vv at he;unfold Qp;split at he
 .rename_i hg;rw[hg];exact he
 .rename_i j want hg;rw[hg]
  try dsimp only
  split at he
  .rename_i d hd;rw[hd]
   try dsimp only
   split at he
   .rename_i c hc;cases he;obtain⟨w,h1,h2⟩:=S _ _ hc;rw[h1,h2.bool_inv]
   .rename_i w Yq hc;cases he;obtain⟨u,h1,h2⟩:=S _ _ hc;rw[h1];cases h2 with
    |d h=>cases h<;>first | rfl | exact absurd rfl (Yq _)
    | _=>rfl
   .cases he
  .rename_i hd;rw[hd];exact he
theorem Z5h (hcf:Zim C K n pcf cf)(hyf:YfSim C K n pyf yf):∀(l:List Oper) {Xi:Yw} {Y5:SL} {h:PH} {vh:VH} {ρ:Nat->Nat} {Z:Vf} {q:Yw×PH},HP C ρ Z vh h->SR C ρ (Zp h) Z Xi Y5->KOk K n h.next->(∀o∈l,∀d,o.dst=some d->d < n)->Za1 C pcf pyf K all l Xi h=some q ->
  ∃vsl' vh' ρ' Z',opsV C cf yf all l Y5 vh=some (vsl',vh')/\SR C ρ' (Zp q.2) Z' q.1 vsl'/\St C K ρ Z h vh ρ' Z' q.2 vh':=by
 intro l
 induction l with
 |nil=>
  intro Xi Y5 h vh ρ Z q H S hK hd he;simp only[Za1,Option.some.injEq]at he;subst he;exact⟨Y5,vh,ρ,Z,rfl,S,St.refl H⟩
 |cons o l ih=>
  intro Xi Y5 h vh ρ Z q H S hK hd he;simp only[Za1]at he;simp only[opsV];split at he
  .rename_i hw;rw[Za9 S hw]
   try dsimp only
   split at he
   .rename_i v h1 ho;obtain⟨w,vh1,ρ1,Z1,a1,a2,a3⟩:=Zabc hcf hyf H S hK (hd o (by simp)) ho;rw[a1]
    try dsimp only
    obtain⟨vsl',vh',ρ',Z',b1,b2,b3⟩:=ih a3.hp ((S.mono a3.ext a3.sig).putP o.dst a2) ⟨hK.1,Nat.le_trans hK.2 a3.next⟩ (fun o ho=>hd o (by simp[ho])) he;exact⟨vsl',vh',ρ',Z',b1,b2,a3.trans H b3⟩
   .cases he
  .rename_i hw;rw[Za9 S hw]
   try dsimp only
   exact ih H (S.putP o.dst (.tuple [] #[] .nil)) hK (fun o ho=>hd o (by simp[ho])) he
  .cases he
end
section
variable {C:Ctx}{Z Z':Vf}{ρ ρ':Nat->Nat}{vf vf':Nat->Option Nat}{h h':PH}{vh vh':VH}{K:Loc}{n:Nat}{Xi:Yw}{Y5:SL}{x:PV}{v:Value}
theorem HP.sub (H:HP C ρ Z vh h)(hg:h'.get=h.get)(hn:∀i x,h.get i=some x->i < h'.next)(hv:vh'.get=vh.get)(hvn:vh.next<=vh'.next)(hw:vh'.wr<=vh'.next):HP C ρ Z vh' h' where
 lt:=fun i x hx=>hn i x (by rw[<- hg];exact hx)
 inj:=fun i j x y hx hy e=>H.inj i j x y (by rw[<- hg];exact hx) (by rw[<- hg];exact hy) e
 vlt:=fun i o ho=>Nat.lt_of_lt_of_le (H.vlt i o (by rw[<- hv];exact ho)) hvn
 sig:=fun Ya s hs=>by rw[hv];exact H.sig Ya s hs
 obj:=fun i Zc o ho=>by
  rw[hg]at ho;have hvf:Zp h'=Zp h:=by unfold Zp;rw[hg]
  rw[hvf];have h1:=H.obj i Zc o ho;cases h1 with
  |loop K0 n sl Y5 ps as bd a b c d e f g=>exact .loop K0 n sl Y5 ps as bd a (by rw[hv];exact b) c d e f g
  |cells cs vcs e a b c=>exact .cells cs vcs e a (by rw[hv];exact b) c
  |row g xs vcs ty a b c d e=>exact .row g xs vcs ty a b (by rw[hv];exact c) d e
  |frozen g xs s ty a b c d e f=>exact .frozen g xs s ty a b c d e f
  |map es ves a b c=>exact .map es ves a (by rw[hv];exact b) c
  |gone a b=>exact .gone (by omega) b
 wr:=hw
theorem Zii {m:Nat}(hvf:∀i,i < m->vf' i=vf i):∀(k:Nat) {x:PV} {v:Value},below m k x=true->R C ρ vf Z x v->R C ρ vf' Z x v:=by
 intro k
 induction k with
 |zero=>
  intro x v hb hr;cases hr with
  |d h=>exact .d h
  |own i Zc g off len c a cap ty hi hv hp ht ha=>exact .own i Zc g off len c a cap ty (by rw[hvf i (by simpa[below]using hb)];exact hi) hv hp ht ha
  |ptr i Zc off c a hi hv hp ha=>exact .ptr i Zc off c a (by rw[hvf i (by simpa[below]using hb)];exact hi) hv hp ha
  |eptr i Zc g ix off c a ty hi hv hp ht ha=>exact .eptr i Zc g ix off c a ty (by rw[hvf i (by simpa[below]using hb)];exact hi) hv hp ht ha
  |rptr cs Ya o s vcs hs hr hx=>exact .rptr cs Ya o s vcs hs hr hx
  |map i Zc c w hi hv ha=>exact .map i Zc c w (by rw[hvf i (by simpa[below]using hb)];exact hi) hv ha
  |yield i Zc c w hi hv ha=>exact .yield i Zc c w (by rw[hvf i (by simpa[below]using hb)];exact hi) hv ha
  | _=>simp[below]at hb
 |succ k ih=>
  intro x v hb hr
  have hs:∀ {cs:List PV} {cs':List Value},cs.all (below m k)=true->Rs C ρ vf Z cs cs'->Rs C ρ vf' Z cs cs':=by
   intro cs
   induction cs with
   |nil=>intro cs' _ h;cases h;exact .nil
   |cons c cs ih2=>
    intro cs' ha h;simp only[List.all_cons,Bool.and_eq_true]at ha;cases h with | cons h r=>exact .cons (ih ha.1 h) (ih2 ha.2 r)
  cases hr with
  |d h=>exact .d h
  |own i Zc g off len c a cap ty hi hv hp ht ha=>exact .own i Zc g off len c a cap ty (by rw[hvf i (by simpa[below]using hb)];exact hi) hv hp ht ha
  |ptr i Zc off c a hi hv hp ha=>exact .ptr i Zc off c a (by rw[hvf i (by simpa[below]using hb)];exact hi) hv hp ha
  |eptr i Zc g ix off c a ty hi hv hp ht ha=>exact .eptr i Zc g ix off c a ty (by rw[hvf i (by simpa[below]using hb)];exact hi) hv hp ht ha
  |rptr cs Ya o s vcs hs hr hx=>exact .rptr cs Ya o s vcs hs hr hx
  |map i Zc c w hi hv ha=>exact .map i Zc c w (by rw[hvf i (by simpa[below]using hb)];exact hi) hv ha
  |yield i Zc c w hi hv ha=>exact .yield i Zc c w (by rw[hvf i (by simpa[below]using hb)];exact hi) hv ha
  |fn f a c a' c' h1 h2=>
   simp only[below,Bool.and_eq_true]at hb;exact .fn f a c a' c' (hs hb.1 h1) (hs hb.2 h2)
  |iface t y w h=>exact .iface t y w (ih (by simpa only[below]using hb) h)
  |agg cs cs' h=>exact .agg cs cs' (hs (by simpa only[below]using hb) h)
  |tuple cs cs' h=>exact .tuple cs cs' (hs (by simpa only[below]using hb) h)
theorem Z83 {m:Nat}(hvf:∀i,i < m->vf' i=vf i){k:Nat}{cs:List PV}{cs':List Value}(ha:cs.all (below m k)=true)(h:Rs C ρ vf Z cs cs'):Rs C ρ vf' Z cs cs':=by
 induction cs generalizing cs' with
 |nil=>cases h;exact .nil
 |cons c cs ih2=>
  simp only[List.all_cons,Bool.and_eq_true]at ha;cases h with | cons h r=>exact .cons (Zii hvf k ha.1 h) (ih2 ha.2 r)
theorem Zada {m:Nat}(hvf:∀i,i < m->vf' i=vf i){k:Nat}{es:List (PV×PV)}{Ra:List (Value×Value)}(ha:es.all (fun e=>below m k e.1&&below m k e.2)=true)(h:MRP C ρ vf Z es Ra):MRP C ρ vf' Z es Ra:=by
 induction h with
 |nil=>exact .nil
 |cons hk hv r ih=>
  simp only[List.all_cons,Bool.and_eq_true]at ha;exact .cons (Zii hvf k ha.1.1 hk) (Zii hvf k ha.1.2 hv) (ih ha.2)
theorem Zxe (g:Nat):∀(n:Nat) (x:PV),Y4 g n x=true->Y4 g (n+1) x=true:=by
 intro n
 induction n with
 |zero=>intro x h;cases x<;>simp_all[Y4]
 |succ n ih=>
  have hs:∀cs:List PV,cs.all (Y4 g n)=true->cs.all (Y4 g (n+1))=true:=fun cs h=>List.all_eq_true.2 fun c hc=>ih c (List.all_eq_true.1 h c hc)
  intro x h;cases x with
  |lst g' xs=>simp only[Y4,Bool.and_eq_true]at h ⊢;exact⟨h.1,hs _ h.2⟩
  |agg cs=>simp only[Y4]at h ⊢;exact hs _ h
  |tuple cs=>simp only[Y4]at h ⊢;exact hs _ h
  |iface t y=>simp only[Y4]at h ⊢;exact ih y h
  |fn f a c=>simp only[Y4,Bool.and_eq_true]at h ⊢;exact⟨hs _ h.1,hs _ h.2⟩
  | _=>simp_all[Y4]
theorem Zd3 {g n:Nat}{x:PV}(h:Y4 g n x=true):(cellsOf x).all (Y4 g n)=true:=by
 cases x with
 |agg cs=>
  cases n with
  |zero=>simp[Y4]at h
  |succ n=>simp only[Y4]at h;exact List.all_eq_true.2 fun c hc=>Zxe g n c (List.all_eq_true.1 h c hc)
 | _=>simp only[cellsOf,List.all_cons,List.all_nil,Bool.and_true];exact h
def Zso (G:List Nat)(Z Z':Vf):Prop:=∀Ya s,Z Ya=some s->Z' Ya=some s\/∃g∈G,s.tag=some g
theorem Zr5 {G:List Nat}(hb:Zso G Z Z'):∀(n:Nat) {x:PV} {v:Value},(∀g∈G,Y4 g n x=true)->RD C Z x v->RD C Z' x v:=by
 intro n
 induction n with
 |zero=>
  intro x v ha hr;cases hr with
  |lst g xs Ya o cap s vcs ty hs he ht Q4 hr hx hl=>
   rcases hb Ya s hs with h1 | ⟨g',hg',h1⟩
   .by_cases hG:G=[]
    ·
     subst hG
     have hb':Z.le Z':=fun Ya s hs=>by
      rcases hb Ya s hs with h | ⟨g,hg,_⟩
      .exact h
      .simp at hg
     exact (RD.lst g xs Ya o cap s vcs ty hs he ht Q4 hr hx hl).mono hb'
    .obtain ⟨g',hg'⟩:=List.exists_mem_of_ne_nil G hG;have:=ha g' hg';simp[Y4]at this
   .have:=ha g' hg';simp[Y4]at this
  |iface t y w h=>
   by_cases hG:G=[]
   .subst hG
    have hb':Z.le Z':=fun Ya s hs=>by
     rcases hb Ya s hs with h | ⟨g,hg,_⟩
     .exact h
     .simp at hg
    exact (RD.iface t y w h).mono hb'
   .obtain ⟨g',hg'⟩:=List.exists_mem_of_ne_nil G hG;have:=ha g' hg';simp[Y4]at this
  |agg cs cs' h=>
   by_cases hG:G=[]
   .subst hG
    have hb':Z.le Z':=fun Ya s hs=>by
     rcases hb Ya s hs with h | ⟨g,hg,_⟩
     .exact h
     .simp at hg
    exact (RD.agg cs cs' h).mono hb'
   .obtain ⟨g',hg'⟩:=List.exists_mem_of_ne_nil G hG;have:=ha g' hg';simp[Y4]at this
  | _=>constructor
 |succ n ih=>
  have hs:∀ {cs:List PV} {cs':List Value},(∀g∈G,cs.all (Y4 g n)=true)->RDs C Z cs cs'->RDs C Z' cs cs':=by
   intro cs
   induction cs with
   |nil=>intro cs' _ h;cases h;exact .nil
   |cons c cs ih2=>
    intro cs' ha h;cases h with
    |cons h r=>
     refine .cons (ih (fun g hg=>?_) h) (ih2 (fun g hg=>?_) r)
     .have:=ha g hg;simp only[List.all_cons,Bool.and_eq_true]at this;exact this.1
     .have:=ha g hg;simp only[List.all_cons,Bool.and_eq_true]at this;exact this.2
  intro x v ha hr;cases hr with
  |lst g xs Ya o cap s vcs ty hs1 he ht Q4 hr hx hl=>
   rcases hb Ya s hs1 with h1 | ⟨g',hg',h1⟩
   .refine .lst g xs Ya o cap s vcs ty h1 he ht Q4 hr (hs (fun g' hg'=>?_) hx) hl;have:=ha g' hg';simp only[Y4,Bool.and_eq_true]at this;rw[List.all_flatMap];exact List.all_eq_true.2 fun y hy=>Zd3 (List.all_eq_true.1 this.2 y hy)
   .have h2:=ha g' hg';simp only[Y4,Bool.and_eq_true]at h2;rcases ht with e | e
    .rw [e]at h1;cases h1
    .rw [h1]at e;cases e;simp at h2
  |iface t y w h=>exact .iface t y w (ih (fun g hg=>by have:=ha g hg;simpa only[Y4]using this) h)
  |agg cs cs' h=>exact .agg cs cs' (hs (fun g hg=>by have:=ha g hg;simpa only[Y4]using this) h)
  | _=>constructor
theorem Zv7 {G:List Nat}(hb:Zso G Z Z'){n:Nat}{cs:List PV}{cs':List Value}(ha:∀g∈G,cs.all (Y4 g n)=true)(h:RDs C Z cs cs'):RDs C Z' cs cs':=by
 induction cs generalizing cs' with
 |nil=>cases h;exact .nil
 |cons c cs ih2=>
  cases h with
  |cons h r=>
   refine .cons (Zr5 hb n (fun g hg=>?_) h) (ih2 (fun g hg=>?_) r)
   .have:=ha g hg;simp only[List.all_cons,Bool.and_eq_true]at this;exact this.1
   .have:=ha g hg;simp only[List.all_cons,Bool.and_eq_true]at this;exact this.2
theorem Zr6 {G:List Nat}(hb:Zso G Z Z')(hG:G≠[]):∀(n:Nat) {x:PV} {v:Value},(∀g∈G,Y4 g n x=true)->R C ρ vf Z x v->R C ρ vf Z' x v:=by
 obtain⟨g0,hg0⟩:=List.exists_mem_of_ne_nil G hG;intro n
 induction n with
 |zero=>
  intro x v ha hr;have h0:=ha g0 hg0;cases hr with
  |d h=>exact .d (Zr5 hb 0 ha h)
  |own i Zc g off len c a cap ty hi hv hp ht hq=>exact .own i Zc g off len c a cap ty hi hv hp ht hq
  |ptr i Zc off c a hi hv hp hq=>exact .ptr i Zc off c a hi hv hp hq
  |eptr i Zc g ix off c a ty hi hv hp ht hq=>exact .eptr i Zc g ix off c a ty hi hv hp ht hq
  |map i Zc c w hi hv hq=>exact .map i Zc c w hi hv hq
  |yield i Zc c w hi hv hq=>exact .yield i Zc c w hi hv hq
  | _=>simp[Y4]at h0
 |succ n ih=>
  have hs:∀ {cs:List PV} {cs':List Value},(∀g∈G,cs.all (Y4 g n)=true)->Rs C ρ vf Z cs cs'->Rs C ρ vf Z' cs cs':=by
   intro cs
   induction cs with
   |nil=>intro cs' _ h;cases h;exact .nil
   |cons c cs ih2=>
    intro cs' ha h;cases h with
    |cons h r=>
     refine .cons (ih (fun g hg=>?_) h) (ih2 (fun g hg=>?_) r)
     .have:=ha g hg;simp only[List.all_cons,Bool.and_eq_true]at this;exact this.1
     .have:=ha g hg;simp only[List.all_cons,Bool.and_eq_true]at this;exact this.2
  intro x v ha hr;have h0:=ha g0 hg0;cases hr with
  |d h=>exact .d (Zr5 hb (n+1) ha h)
  |own i Zc g off len c a cap ty hi hv hp ht hq=>exact .own i Zc g off len c a cap ty hi hv hp ht hq
  |ptr i Zc off c a hi hv hp hq=>exact .ptr i Zc off c a hi hv hp hq
  |eptr i Zc g ix off c a ty hi hv hp ht hq=>exact .eptr i Zc g ix off c a ty hi hv hp ht hq
  |map i Zc c w hi hv hq=>exact .map i Zc c w hi hv hq
  |yield i Zc c w hi hv hq=>exact .yield i Zc c w hi hv hq
  |rptr=>simp[Y4]at h0
  |fn f a c a' c' h1 h2=>exact .fn f a c a' c' (hs (fun g hg=>by have:=ha g hg;simp only[Y4,Bool.and_eq_true]at this;exact this.1) h1) (hs (fun g hg=>by have:=ha g hg;simp only[Y4,Bool.and_eq_true]at this;exact this.2) h2)
  |iface t y w h=>exact .iface t y w (ih (fun g hg=>by have:=ha g hg;simpa only[Y4]using this) h)
  |agg cs cs' h=>exact .agg cs cs' (hs (fun g hg=>by have:=ha g hg;simpa only[Y4]using this) h)
  |tuple cs cs' h=>exact .tuple cs cs' (hs (fun g hg=>by have:=ha g hg;simpa only[Y4]using this) h)
theorem Zadc {G:List Nat}(hb:Zso G Z Z'){n:Nat}{x:PV}{v:Value}(ha:∀g∈G,Y4 g n x=true)(h:R C ρ vf Z x v):R C ρ vf Z' x v:=by
 by_cases hG:G=[]
 .subst hG;refine h.mono (Ext.refl _ _) fun Ya s hs=>?_
  rcases hb Ya s hs with h | ⟨g,hg,_⟩
  .exact h
  .simp at hg
 .exact Zr6 hb hG n ha h
theorem Zadb {G:List Nat}(hb:Zso G Z Z')(hG:G≠[]){n:Nat}{cs:List PV}{cs':List Value}(ha:∀g∈G,cs.all (Y4 g n)=true)(h:Rs C ρ vf Z cs cs'):Rs C ρ vf Z' cs cs':=by
 induction cs generalizing cs' with
 |nil=>cases h;exact .nil
 |cons c cs ih2=>
  cases h with
  |cons h r=>
   refine .cons (Zr6 hb hG n (fun g hg=>?_) h) (ih2 (fun g hg=>?_) r)
   .have:=ha g hg;simp only[List.all_cons,Bool.and_eq_true]at this;exact this.1
   .have:=ha g hg;simp only[List.all_cons,Bool.and_eq_true]at this;exact this.2
theorem Zajy {G:List Nat}(hb:Zso G Z Z')(hG:G≠[]){n:Nat}{es:List (PV×PV)}{Ra:List (Value×Value)}(ha:∀g∈G,es.all (fun e=>Y4 g n e.1&&Y4 g n e.2)=true)(h:MRP C ρ vf Z es Ra):MRP C ρ vf Z' es Ra:=by
 induction h with
 |nil=>exact .nil
 |cons hk hv r ih=>
  have hh:∀g∈G,(Y4 g n _=true/\Y4 g n _=true)/\_:=fun g hg=>by
   have:=ha g hg;simp only[List.all_cons,Bool.and_eq_true]at this;exact this
  exact .cons (Zr6 hb hG n (fun g hg=>(hh g hg).1.1) hk) (Zr6 hb hG n (fun g hg=>(hh g hg).1.2) hv) (ih fun g hg=>(hh g hg).2)
theorem Zng:∀(n:Nat) {x:PV} {v:Value},flat n v=true->R C ρ vf Z x v->R C ρ' vf' Z' x v/\X4 n x=true:=by
 have hD:∀(n:Nat) {x:PV} {v:Value},flat n v=true->RD C Z x v->RD C Z' x v/\X4 n x=true:=by
  intro n
  induction n with
  |zero=>
   intro x v hf hr;cases hr with
   |lst=>simp[flat]at hf
   |iface=>simp[flat]at hf
   |agg=>simp[flat]at hf
   | _=>exact⟨by constructor,by simp[X4]⟩
  |succ n ih=>
   have hs:∀ {cs:List PV} {cs':List Value},cs'.all (flat n)=true->RDs C Z cs cs'->RDs C Z' cs cs'/\cs.all (X4 n)=true:=by
    intro cs
    induction cs with
    |nil=>intro cs' _ h;cases h;exact⟨.nil,rfl⟩
    |cons c cs ih2=>
     intro cs' ha h;cases h with
     |cons h r=>
      simp only[List.all_cons,Bool.and_eq_true]at ha ⊢;obtain⟨a,b⟩:=ih ha.1 h;obtain⟨c,d⟩:=ih2 ha.2 r;exact⟨.cons a c,b,d⟩
   intro x v hf hr;cases hr with
   |lst=>simp[flat]at hf
   |iface t y w h=>
    obtain⟨a,b⟩:=ih (by simpa only[flat]using hf) h;exact⟨.iface t y w a,by simpa only[X4]using b⟩
   |agg cs cs' h=>
    obtain⟨a,b⟩:=hs (by simpa only[flat]using hf) h;exact⟨.agg cs cs' a,by simpa only[X4]using b⟩
   | _=>exact⟨by constructor,by simp[X4]⟩
 intro n
 induction n with
 |zero=>
  intro x v hf hr;cases hr with
  |d h=>exact⟨.d (hD 0 hf h).1,(hD 0 hf h).2⟩
  | _=>simp[flat]at hf
 |succ n ih=>
  have hs:∀ {cs:List PV} {cs':List Value},cs'.all (flat n)=true->Rs C ρ vf Z cs cs'->Rs C ρ' vf' Z' cs cs'/\cs.all (X4 n)=true:=by
   intro cs
   induction cs with
   |nil=>intro cs' _ h;cases h;exact⟨.nil,rfl⟩
   |cons c cs ih2=>
    intro cs' ha h;cases h with
    |cons h r=>
     simp only[List.all_cons,Bool.and_eq_true]at ha ⊢;obtain⟨a,b⟩:=ih ha.1 h;obtain⟨c,d⟩:=ih2 ha.2 r;exact⟨.cons a c,b,d⟩
  intro x v hf hr;cases hr with
  |d h=>exact⟨.d (hD (n+1) hf h).1,(hD (n+1) hf h).2⟩
  |iface t y w h=>
   obtain⟨a,b⟩:=ih (by simpa only[flat]using hf) h;exact⟨.iface t y w a,by simpa only[X4]using b⟩
  |agg cs cs' h=>
   obtain⟨a,b⟩:=hs (by simpa only[flat]using hf) h;exact⟨.agg cs cs' a,by simpa only[X4]using b⟩
  |tuple cs cs' h=>
   obtain⟨a,b⟩:=hs (by simpa only[flat]using hf) h;exact⟨.tuple cs cs' a,by simpa only[X4]using b⟩
  | _=>simp[flat]at hf
theorem Z9p:∀(n:Nat) {x:PV} {v:Value},X4 n x=true->R C ρ vf Z x v->flat n v=true:=by
 have hD:∀(n:Nat) {x:PV} {v:Value},X4 n x=true->RD C Z x v->flat n v=true:=by
  intro n
  induction n with
  |zero=>
   intro x v hf hr;cases hr<;>simp_all[X4,flat]
  |succ n ih=>
   have hs:∀ {cs:List PV} {cs':List Value},cs.all (X4 n)=true->RDs C Z cs cs'->cs'.all (flat n)=true:=by
    intro cs
    induction cs with
    |nil=>intro cs' _ h;cases h;rfl
    |cons c cs ih2=>
     intro cs' ha h;cases h with
     |cons h r=>
      simp only[List.all_cons,Bool.and_eq_true]at ha ⊢;exact⟨ih ha.1 h,ih2 ha.2 r⟩
   intro x v hf hr;cases hr with
   |lst=>simp[X4]at hf
   |iface t y w h=>simp only[flat];exact ih (by simpa only[X4]using hf) h
   |agg cs cs' h=>simp only[flat];exact hs (by simpa only[X4]using hf) h
   | _=>simp[flat]
 intro n
 induction n with
 |zero=>
  intro x v hf hr;cases hr with
  |d h=>exact hD 0 hf h
  | _=>simp[X4]at hf
 |succ n ih=>
  have hs:∀ {cs:List PV} {cs':List Value},cs.all (X4 n)=true->Rs C ρ vf Z cs cs'->cs'.all (flat n)=true:=by
   intro cs
   induction cs with
   |nil=>intro cs' _ h;cases h;rfl
   |cons c cs ih2=>
    intro cs' ha h;cases h with
    |cons h r=>
     simp only[List.all_cons,Bool.and_eq_true]at ha ⊢;exact⟨ih ha.1 h,ih2 ha.2 r⟩
  intro x v hf hr;cases hr with
  |d h=>exact hD _ hf h
  |iface t y w h=>simp only[flat];exact ih (by simpa only[X4]using hf) h
  |agg cs cs' h=>simp only[flat];exact hs (by simpa only[X4]using hf) h
  |tuple cs cs' h=>simp only[flat];exact hs (by simpa only[X4]using hf) h
  | _=>simp[X4]at hf
theorem Znh:∀(n:Nat) (x:PV),X4 n x=true->X4 (n+1) x=true:=by
 intro n
 induction n with
 |zero=>intro x h;cases x<;>simp_all[X4]
 |succ n ih=>
  have hs:∀cs:List PV,cs.all (X4 n)=true->cs.all (X4 (n+1))=true:=fun cs h=>List.all_eq_true.2 fun c hc=>ih c (List.all_eq_true.1 h c hc)
  intro x h;cases x with
  |agg cs=>simp only[X4]at h ⊢;exact hs _ h
  |tuple cs=>simp only[X4]at h ⊢;exact hs _ h
  |iface t y=>simp only[X4]at h ⊢;exact ih y h
  | _=>simp_all[X4]
theorem Zhb (H:HP C ρ Z vh h)(S:SR C ρ (Zp h) Z Xi Y5):∀ {rs:List ResultVar} {xs:List PV},Uz C Xi h rs=some xs->∃vs,Zha C Y5 vh rs=some vs/\Rs C ρ (Zp h) Z xs vs
 | [],xs,he=>by simp only[Uz,Option.some.injEq]at he;subst he;exact⟨[],rfl,.nil⟩
 | .tmp t::r,xs,he=>by
   simp only[Uz]at he;split at he
   .rename_i p ps hp hps;cases he;obtain⟨v,h1,h2⟩:=S _ _ hp;obtain⟨vs,h3,h4⟩:=Zhb H S hps;exact⟨v::vs,by simp only[Zha,h1,h3],.cons h2 h4⟩
   .cases he
 | .cell a t::r,xs,he=>by
   simp only[Uz]at he;split at he
   .rename_i i Zc off ty ps hp Q4 hps;split at he
    .rename_i w cs hi;split at he
     .rename_i e;subst e;rw[Option.map_eq_some_iff]at he;obtain⟨z,hz,rfl⟩:=he;rw[Option.bind_eq_some_iff]at hz;obtain⟨q,hq,hz⟩:=hz;obtain⟨v,h1,h2⟩:=S _ _ hp;have hv:=h2.ptr_inv hi;subst hv;obtain⟨vs,h3,h4⟩:=Zhb H S hps;cases H.obj _ _ _ hi with
      |cells cs vcs e2 hzz hg hr=>
       obtain⟨q',h5,h6⟩:=hr.read hq;obtain⟨z',h7,h8⟩:=Zg5 h6 hz;refine⟨z'::vs,?_,.cons h8 h4⟩;simp only[Zha,h1,Q4,h3,VH.load,hg,Option.isSome_none,Bool.false_eq_true,if_false,h5,Option.bind_some,h7,Option.map_some]
     .cases he
    .cases he
   .cases he
theorem Zt9 {xs:List PV}{vs:List Value}(h:Rs C ρ vf Z xs vs):R C ρ vf Z (Wy xs) (Zof vs):=by
 cases h with
 |nil=>exact .tuple _ _ .nil
 |cons h r=>
  cases r with
  |nil=>exact h
  |cons h2 r=>exact .tuple _ _ (by simpa using .cons h (.cons h2 r))
theorem Z1k (l:List Value)(i t:Nat):Xf (V8 i l) t=if i<=t then l[t - i]? else none:=by
 induction l generalizing i with
 |nil=>simp[V8,Xf]
 |cons v l ih=>
  simp only[V8,Xf,ih];by_cases h:i=t
  .subst h;simp
  .have:Nat.beq i t=false:=Sx h;simp only[this,cond_false];by_cases hlt:i+1<=t
   .have h2:t - i=(t - (i+1))+1:=by omega
    simp[hlt,show i<=t by omega,h2]
   .simp [hlt,show ¬ i<=t by omega]
theorem Zs0 {xs:List PV}{vs:List Value}(h:Rs C ρ vf Z xs vs):SR C ρ vf Z (Sl 0 xs) (V8 0 vs):=by
 intro t x hx;simp only[Sl,Nat.zero_le,if_true,Nat.sub_zero]at hx;rw[Z1k];simp only[Nat.zero_le,if_true,Nat.sub_zero];exact h.get hx
theorem Ud (h3:PH):∀(ok:List Nat) (h:PH),(Yj h3 ok h).next=h.next
 | [],h=>rfl
 |i::r,h=>by
  simp only[Yj];split
  .rw [Ud h3 r];rfl
  .exact Ud h3 r h
theorem U4 (h3:PH):∀(ok:List Nat) (h:PH) (j:Nat),(Yj h3 ok h).get j=if j∈ok then (match h3.get j with | some y=>some y | none=>h.get j) else h.get j
 | [],h,j=>by simp[Yj]
 |i::r,h,j=>by
  simp only[Yj];split
  .rename_i Zc o hi;rw[U4 h3 r];by_cases e:j=i
   .subst e;simp[PH.put,hi]
   .simp [PH.put,e]
  .rename_i hi;rw[U4 h3 r];by_cases e:j=i
   .subst e;simp[hi]
   .simp [e]
end
section
variable {C:Ctx}{Z Z' Z1 Z2 Z3 ZF:Vf}{ρ ρ' ρ2:Nat->Nat}{vf vf':Nat->Option Nat}{h h' h2 h3:PH}{vh vh' V5 vhF:VH}{K:Loc}{n m:Nat}{Xi:Yw}{Y5:SL}{x:PV}{v w:Value}
theorem OR.back {j p nx nxF:Nat}{vf3 vfF:Nat->Option Nat}{o:PO}{G:List Nat}(O:OR C ρ2 vf3 Z3 nx V5 j p o)(hb:Zu m o=true)(hvf:∀i,i < m->vfF i=vf3 i)(hB:Zso G Z3 ZF)(hT:∀g∈G,Zmb g o=true)
  (hn:Z3 p=none->ZF p=none) (hs:∀s,Z3 p=some s->ZF p=some s) (hv:vhF.get=V5.get) (hvn:vhF.next=V5.next):OR C ρ2 vfF ZF nxF vhF j p o:=by
 cases O with
 |cells cs vcs e a b c=>
  refine .cells cs vcs e (hn a) (by rw[hv];exact b) ?_;have h1:=Z83 hvf hb c;by_cases hG:G=[]
  .subst hG;refine h1.mono (Ext.refl _ _) fun Ya s hs=>?_
   rcases hB Ya s hs with h | ⟨g,hg,_⟩
   .exact h
   .simp at hg
  .exact Zadb hB hG (fun g hg=>hT g hg) h1
 |row g xs vcs ty a b c d e=>
  refine .row g xs vcs ty a (hn b) (by rw[hv];exact c) (Zv7 hB (n:=12) (fun g hg=>?_) d) e;have:=hT g hg;simp only[Zmb]at this;rw[List.all_flatMap];exact List.all_eq_true.2 fun y hy=>Zd3 (List.all_eq_true.1 this y hy)
 |frozen g xs s ty a b c d e f=>
  refine .frozen g xs s ty a (hs s b) c d (Zv7 hB (n:=12) (fun g hg=>?_) e) f;have:=hT g hg;simp only[Zmb]at this;rw[List.all_flatMap];exact List.all_eq_true.2 fun y hy=>Zd3 (List.all_eq_true.1 this y hy)
 |map es ves a b c=>
  refine .map es ves (hn a) (by rw[hv];exact b) ?_;have h1:=Zada hvf hb c;by_cases hG:G=[]
  .subst hG;refine h1.mono (Ext.refl _ _) fun Ya s hs=>?_
   rcases hB Ya s hs with h | ⟨g,hg,_⟩
   .exact h
   .simp at hg
  .exact Zajy hB hG (fun g hg=>hT g hg) h1
 |loop=>simp[Zu]at hb
 |gone a b=>exact .gone (by rw[hvn];exact a) (hn b)
theorem Zr3 {lo:Nat}{ok:List Nat}{base j:Nat}(h1:j < lo)(h2:j∉ok):can {base:=base,lo:=lo,ok:=ok} j=false:=by
 unfold can;rw[Bool.or_eq_false_iff];constructor
 .cases e:Nat.ble lo j
  .rfl
  .rw [Nat.ble_eq]at e;omega
 .rw [List.any_eq_false];intro y hy e;rw[Nat.beq_eq]at e;exact h2 (e ▸ hy)
theorem Zke {g:PH}{ok:List Nat}(hx:∀i∈ok,∃Zc o,g.get i=some (Zc,o)/\(h3.get i=some (Zc,o)\/∃g' own xs,o=.row g' own xs/\h3.get i=some (Zc,.row g' false xs))):
  ∃Z18,(∀i∈Z18,i∈ok)/\Yj h3 ok g=g.freeze Z18:=by
 classical
 refine⟨ok.filter fun i=>decide (∃Zc g' own xs,g.get i=some (Zc,.row g' own xs)/\h3.get i=some (Zc,.row g' false xs)),fun i hi=>(List.mem_filter.1 hi).1,?_⟩;have hn:(Yj h3 ok g).next=(g.freeze (ok.filter fun i=>decide (∃Zc g' own xs,g.get i=some (Zc,.row g' own xs)/\h3.get i=some (Zc,.row g' false xs)))).next:=by rw[Ud,freeze_next]
 have hg:(Yj h3 ok g).get=(g.freeze (ok.filter fun i=>decide (∃Zc g' own xs,g.get i=some (Zc,.row g' own xs)/\h3.get i=some (Zc,.row g' false xs)))).get:=by
  funext j;rw[U4,Xp];by_cases hj:j∈ok
  .rw [if_pos hj];obtain⟨Zc,o,h1,h2⟩:=hx j hj;rcases h2 with h2 | ⟨g',own,xs,rfl,h2⟩
   .rw [h1,h2];cases o with
    |row g' own xs=>
     try dsimp only
     by_cases hm:j∈ok.filter fun i=>decide (∃Zc g' own xs,g.get i=some (Zc,.row g' own xs)/\h3.get i=some (Zc,.row g' false xs))
     .rw [if_pos hm];obtain⟨_,hd⟩:=List.mem_filter.1 hm;obtain⟨a,b,c,d,e1,e2⟩:=of_decide_eq_true hd;rw[h1]at e1;rw[h2]at e2;cases e1;cases e2;rfl
     .rw [if_neg hm]
    | _=>rfl
   .rw [h1,h2]
    try dsimp only
    rw[if_pos];refine List.mem_filter.2 ⟨hj,decide_eq_true ⟨_,_,_,_,h1,h2⟩⟩
  .rw [if_neg hj];split
   .rename_i Zc g' own xs hgj;rw[if_neg fun hm=>hj (List.mem_filter.1 hm).1,hgj]
   .rfl
 cases hA:Yj h3 ok g;cases hB:g.freeze (ok.filter fun i=>decide (∃Zc g' own xs,g.get i=some (Zc,.row g' own xs)/\h3.get i=some (Zc,.row g' false xs)));rw[hA,hB]at hn hg;simp only at hn hg;rw[hn,hg]
structure Pre0 (C:Ctx)(K:Loc)(m:Nat)(ρ:Nat->Nat)(Z Z1:Vf)(h:PH)(vh:VH)(ok ids:List Nat)(nx:Nat)(ρ2:Nat->Nat)(Z3:Vf)(h3:PH)(V5:VH):Prop where
 H:HP C ρ Z vh h
 hK:KOk K m h.next
 hok:∀i∈ok,can K i=true/\∃x,h.get i=some x
 hids:∀i∈ids,can K i=true
 f:Frz C true ρ Z h vh ids Z1
 st:St C {base:=h.next,lo:=h.next,ok:=ok} ρ Z1 {h.freeze ids with next:=nx} {vh with wr:=vh.next} ρ2 Z3 h3 V5
section
variable {ok ids:List Nat}{nx:Nat}
theorem Pre0.old (P:Pre0 C K m ρ Z Z1 h vh ok ids nx ρ2 Z3 h3 V5){j:Nat}(hj:j < h.next)(hn:j∉ok):h3.get j=(h.freeze ids).get j:=P.st.keep j (Zr3 hj hn)
theorem Pre0.live1 {j:Nat}{x:Nat×PO}(hx:h.get j=some x):∃o,(h.freeze ids).get j=some (x.1,o):=by
 obtain⟨Zc,o⟩:=x;rw[Xp,hx];cases o with
 |row g own xs=>
  try dsimp only
  split
  .exact ⟨_,rfl⟩
  .exact ⟨_,rfl⟩
 | _=>exact⟨_,rfl⟩
theorem Pre0.ext (P:Pre0 C K m ρ Z Z1 h vh ok ids nx ρ2 Z3 h3 V5):Ext ρ (Zp h) ρ2 (Zp h3):=by
 have:=P.st.ext
 have hv:Zp ({h.freeze ids with next:=nx}:PH)=Zp h:=by
  rw[<- Td ids h];rfl
 rw[hv]at this;exact this
theorem Pre0.live (P:Pre0 C K m ρ Z Z1 h vh ok ids nx ρ2 Z3 h3 V5){j:Nat}{x:Nat×PO}(hx:h.get j=some x):∃y,h3.get j=some y:=by
 obtain⟨c',h1,_⟩:=P.ext j x.1 (Zv.2 ⟨x.2,hx⟩);obtain⟨o,ho⟩:=Zv.1 h1;exact⟨_,ho⟩
theorem Pre0.rho (P:Pre0 C K m ρ Z Z1 h vh ok ids nx ρ2 Z3 h3 V5){j:Nat}{x:Nat×PO}(hx:h.get j=some x)(hn:j∉ok):ρ2 j=ρ j:=by
 obtain⟨c',h1,_,h3'⟩:=P.ext j x.1 (Zv.2 ⟨x.2,hx⟩);obtain⟨o,ho⟩:=Zv.1 h1;obtain⟨o1,ho1⟩:=Pre0.live1 (ids:=ids) hx;rw[P.old (P.H.lt _ _ hx) hn,ho1]at ho;cases ho;exact h3' rfl
theorem Pre0.away (P:Pre0 C K m ρ Z Z1 h vh ok ids nx ρ2 Z3 h3 V5){j Zc:Nat}{o:PO}(hx:h.get j=some (Zc,o))(hn:j∉ok){vfF:Nat->Option Nat}(hE:Ext ρ (Zp h) ρ2 vfF)(hle:Z.le ZF)(hz:Z (ρ j)=none->ZF (ρ j)=none)
  (hv:vhF.get=V5.get) (hvn:vh.next<=vhF.next):OR C ρ2 vfF ZF h.next vhF j (ρ2 j) o:=by
 rw[P.rho hx hn];obtain⟨o1,ho1⟩:=Pre0.live1 (ids:=ids) hx;have hg:V5.get (ρ j)=vh.get (ρ j):=P.st.vkeep j _ ho1 (Zr3 (P.H.lt _ _ hx) hn);exact (P.H.obj _ _ _ hx).mono hE hle hz (fun _=>by rw[hv];exact hg) (Nat.le_refl _) hvn
theorem Pre0.zold (P:Pre0 C K m ρ Z Z1 h vh ok ids nx ρ2 Z3 h3 V5){j Zc:Nat}{o:PO}(hx:h.get j=some (Zc,o))(hn:j∉ok)(hz:Z (ρ j)=none)(hi:∀g xs,o=.row g true xs->j∉ids):Z3 (ρ j)=none:=by
 have h1:=P.old (P.H.lt _ _ hx) hn;rw[Xp,hx]at h1
 have Ws:h3.get j=some (Zc,o):=by
  rw[h1];cases o with
  |row g own xs=>
   cases own with
   |true=>simp[hi g xs rfl]
   |false=>simp
  | _=>rfl
 have h2:=P.st.hp.obj _ _ _ Ws;rw[P.rho hx hn]at h2;cases h2 with
 |frozen g xs s ty a b c d e f=>
  cases P.H.obj _ _ _ hx with
  |frozen g2 xs2 s2 ty2 a2 b2=>rw[b2]at hz;cases hz
 | _=>assumption
theorem Pre0.marks (P:Pre0 C K m ρ Z Z1 h vh ok ids nx ρ2 Z3 h3 V5){hF:PH}(hvg:vhF.get=V5.get)(hvn:vhF.next=V5.next)(hvw:vhF.wr=min vh.wr V5.wr)(hp:HP C ρ2 ZF vhF hF)(hle:Z.le ZF)(hn:h.next<=hF.next)
  (Wz:∀i,i∈ok->hF.get i=h3.get i) (Zcc:∀i,i < h.next->i∉ok->i∉ids->hF.get i=h.get i) (Zapb:∀i,i < h.next->i∉ok->i∈ids->hF.get i=h.get i\/hF.get i=(h.freeze ids).get i) (Sz:∀i x,h.next<=i->hF.get i=some x->h3.get i=some x):St C K ρ Z h vh ρ2 ZF hF vhF:=by
 have Z7r:∀i,i < h.next->i∉ok->hF.get i=h.get i\/(i∈ids/\hF.get i=(h.freeze ids).get i):=fun i h1 h2=>by
  by_cases h4:i∈ids
  .rcases Zapb i h1 h2 h4 with h5 | h5
   .exact .inl h5
   .exact .inr ⟨h4,h5⟩
  .exact .inl (Zcc i h1 h2 h4)
 have hvf:∀i,i < h.next->i∉ok->Zp hF i=Zp h i:=fun i h1 h2=>by
  rcases Z7r i h1 h2 with h4 | ⟨_,h4⟩
  .unfold Zp;rw[h4]
  .have:Zp (h.freeze ids) i=Zp h i:=by rw[Td]
   rw[<- this];unfold Zp;rw[h4]
 have S9:K.lo<=h.next:=by have:=P.hK.1;have:=P.hK.2;omega
 refine⟨hp,?_,hle,hn,by rw[hvn];exact P.st.vnext,by rw[hvw];exact Nat.min_le_left _ _,?_,?_,?_,?_,?_,?_⟩
 .intro i c hi;obtain⟨o,ho⟩:=Zv.1 hi;by_cases hk:i∈ok
  .obtain ⟨c',h1,h2,h4⟩:=P.ext i c hi;refine⟨c',?_,h2,h4⟩;unfold Zp at h1 ⊢;rw[Wz i hk];exact h1
  .exact ⟨c,by rw[hvf i (P.H.lt _ _ ho) hk];exact hi,Nat.le_refl _,fun _=>P.rho ho hk⟩
 .intro i hi;have hk:i∉ok:=fun hk=>by rw[(P.hok i hk).1]at hi;cases hi
  have hd:i∉ids:=fun hk=>by rw[P.hids i hk]at hi;cases hi
  have hilt:i < h.next:=by
   rcases Nat.lt_or_ge i h.next with h1 | h1
   .exact h1
   .unfold can at hi;rw[Bool.or_eq_false_iff]at hi;have:Nat.ble K.lo i=true:=by rw[Nat.ble_eq];omega
    rw[this]at hi;cases hi.1
  exact Zcc i hilt hk hd
 .intro i Zc o hilo ho;have hilt:=P.H.lt _ _ ho;by_cases hk:i∈ok
  .rw [Wz i hk];obtain⟨o1,ho1⟩:=Pre0.live1 (ids:=ids) ho;have h1:=P.st.same i Zc o1 hilt ho1;have Zkq:=ho1;rw[Xp,ho]at Zkq;rcases h1 with h1 | ⟨g,own,xs,rfl,h1⟩ | h1
   .cases o with
    |row g own xs=>
     simp only at Zkq;split at Zkq
     .cases Zkq;exact .inr (.inl ⟨_,_,_,rfl,h1⟩)
     .cases Zkq;exact .inl h1
    | _=>simp only at Zkq;cases Zkq;exact .inl h1
   .cases o with
    |row g own xs=>
     simp only at Zkq;split at Zkq<;>cases Zkq<;>exact .inr (.inl ⟨_,_,_,rfl,h1⟩)
    | _=>simp only at Zkq;cases Zkq
   .exact .inr (.inr (by rw[hvw];exact Nat.le_trans (Nat.min_le_right _ _) h1))
  .rcases Z7r i hilt hk with h4 | ⟨hd,h4⟩
   .exact .inl (h4.trans ho)
   .rw [Xp,ho]at h4;cases o with
    |row g own xs=>
     simp only[hd,if_true]at h4;exact .inr (.inl ⟨_,_,_,rfl,h4⟩)
    | _=>exact .inl h4
 .intro i x hx
  have hx3:∃y,h3.get i=some y:=by
   rcases Nat.lt_or_ge i h.next with h1 | h1
   .by_cases hk:i∈ok
    .exact ⟨x,by rw[<- Wz i hk];exact hx⟩
    .have:Zp h i=some x.1:=by rw[<- hvf i h1 hk];exact Zv.2 ⟨x.2,hx⟩
     obtain⟨o,ho⟩:=Zv.1 this;exact P.live ho
   .exact ⟨x,Sz i x h1 hx⟩
  obtain⟨y,hy⟩:=hx3;rcases P.st.plc i y hy with⟨⟨z,hz⟩,h2⟩ | h2
  .refine .inl ⟨?_,h2⟩;have:Zp (h.freeze ids) i=some z.1:=Zv.2 ⟨z.2,hz⟩;rw[Td]at this;obtain⟨o,ho⟩:=Zv.1 this;exact⟨_,ho⟩
  .exact .inr h2
 .intro i x hx hc;have hk:i∉ok:=fun hk=>by rw[(P.hok i hk).1]at hc;cases hc
  obtain⟨o1,ho1⟩:=Pre0.live1 (ids:=ids) hx;rw[hvg];exact P.st.vkeep i _ ho1 (Zr3 (P.H.lt _ _ hx) hk)
 .intro q hq hn hi;rw[hvg];refine P.st.vnone q hq hn fun i x hx=>?_
  have:Zp (h.freeze ids) i=some x.1:=Zv.2 ⟨x.2,hx⟩;rw[Td]at this;obtain⟨o,ho⟩:=Zv.1 this;exact hi i _ ho
 .intro b h1 h2 h3;rw[hvw];refine Nat.le_min.2 ⟨h2,P.st.low b h1 h1 fun i x hx hc=>?_⟩;have hx':(h.freeze ids).get i=some x:=hx;have:Zp h i=some x.1:=by rw[<- Td (ids:=ids)];exact Zv.2 ⟨x.2,hx'⟩
  obtain⟨o,ho⟩:=Zv.1 this;have hlt:=P.H.lt _ _ ho
  have hk:i∈ok:=by
   unfold can at hc;rw[Bool.or_eq_true]at hc;rcases hc with hc | hc
   .rw [Nat.ble_eq]at hc;have hc':h.next<=i:=hc;omega
   .obtain ⟨j,hj,e⟩:=List.any_eq_true.1 hc;rw[Nat.beq_eq]at e;exact e ▸ hj
  exact h3 i _ ho (P.hok i hk).1
end
end
section
variable {C:Ctx}{Z Z' Z1 Z2 Z3 ZF:Vf}{ρ ρ' ρ2:Nat->Nat}{vf vf':Nat->Option Nat}{h h' h2 h3:PH}{vh vh' V5 vhF:VH}{K:Loc}{n m:Nat}{Xi:Yw}{Y5:SL}{x:PV}{v w:Value}{ok ids:List Nat}{nx:Nat}
theorem Pre0.restored (P:Pre0 C K m ρ Z Z1 h vh ok ids nx ρ2 Z3 h3 V5)(hw:vh.next<=V5.wr)(b:Bool)(hb:b=true->∀i∈ids,i∉ok):
  ∃ZF,St C K ρ Z h vh ρ ZF (Yj h3 ok (if b then h else h.freeze ids)) vh:=by
 have Ws:∀i∈ok,∃Zc o,(h.freeze ids).get i=some (Zc,o)/\(h3.get i=some (Zc,o)\/∃g' own xs,o=.row g' own xs/\h3.get i=some (Zc,.row g' false xs)):=by
  intro i hi;obtain⟨hc,x,hx⟩:=P.hok i hi;obtain⟨o1,ho1⟩:=Pre0.live1 (ids:=ids) hx;refine⟨x.1,o1,ho1,?_⟩;rcases P.st.same i x.1 o1 (P.H.lt _ _ hx) ho1 with h1 | h1 | h1
  .exact .inl h1
  .exact .inr h1
  .have:=P.H.rho_lt hx;omega
 cases b with
 |false=>
  obtain⟨Z18,h1,h2⟩:=Zke Ws;obtain⟨Za,fa⟩:=frz (bt:=false) ids P.H;have sa:=St.frz (K:=K) P.H fa (List.all_eq_true.2 P.hids);obtain⟨Zb,fb⟩:=frz (bt:=false) Z18 sa.hp;have sb:=St.frz (K:=K) sa.hp fb (List.all_eq_true.2 fun i hi=>(P.hok i (h1 i hi)).1);refine⟨Zb,?_⟩;simp only[Bool.false_eq_true,if_false];rw[h2];exact sa.trans P.H sb
 |true=>
  have hb:=hb rfl
  have Zah3:∀i∈ok,∃Zc o,h.get i=some (Zc,o)/\(h3.get i=some (Zc,o)\/∃g' own xs,o=.row g' own xs/\h3.get i=some (Zc,.row g' false xs)):=by
   intro i hi;obtain⟨Zc,o,h1,h2⟩:=Ws i hi;refine⟨Zc,o,?_,h2⟩;rw[Xp]at h1;split at h1
   .rename_i ver' g own xs hq;rw[if_neg fun hm=>hb i hm hi]at h1;rw[hq];exact h1
   .exact h1
  obtain⟨Z18,h1,h2⟩:=Zke Zah3;obtain⟨Zb,fb⟩:=frz (bt:=false) Z18 P.H;have sb:=St.frz (K:=K) P.H fb (List.all_eq_true.2 fun i hi=>(P.hok i (h1 i hi)).1);refine⟨Zb,?_⟩;simp only[if_true];rw[h2];exact sb
theorem Pre0.clean (P:Pre0 C K m ρ Z Z1 h vh ok ids nx ρ2 Z3 h3 V5)(hvg:vhF.get=V5.get)(hvn:vhF.next=V5.next)(hvw:vhF.wr=min vh.wr V5.wr)(Z2s:∀i∈ok,h3.belowAt h.next i=true)
  (hcl:∀i∈ids,i∉ok/\∃Zc g own xs,h.get i=some (Zc,.row g own xs)/\(own=true->Y4 g 14 x=true/\∀j∈ok,∀Zc o,h3.get j=some (Zc,o)->Zmb g o=true)) (hx:R C ρ2 (Zp h3) Z3 x w) (hxb:below h.next 4 x=true):
  ∃ZF,R C ρ2 (Zp (Yj h3 ok h)) ZF x w/\St C K ρ Z h vh ρ2 ZF (Yj h3 ok h) vhF:=by
 classical
 let Z51:Nat->Prop:=fun Ya=>∃i∈ids,∃Zc g xs,h.get i=some (Zc,.row g true xs)/\Ya=ρ i
 let ZF:Vf:=fun Ya=>if Z51 Ya then none else Z3 Ya
 let G:List Nat:=ids.filterMap fun i=>match h.get i with | some (_,.row g true _)=>some g | _=>none
 have hG:∀g∈G,∃i∈ids,∃Zc xs,h.get i=some (Zc,.row g true xs):=by
  intro g hg;obtain⟨i,hi,e⟩:=List.mem_filterMap.1 hg;split at e
  .rename_i Zc g' xs hq;cases e;exact⟨i,hi,Zc,xs,hq⟩
  .cases e
 have hGm:∀i∈ids,∀Zc g xs,h.get i=some (Zc,.row g true xs)->g∈G:=by
  intro i hi Zc g xs hq;exact List.mem_filterMap.2 ⟨i,hi,by rw[hq]⟩
 have Zafc:∀i Zc g xs,h.get i=some (Zc,.row g true xs)->Z (ρ i)=none:=by
  intro i Zc g xs hq;cases P.H.obj _ _ _ hq with
  |row g xs vcs ty a b=>exact b
 have hB:Zso G Z3 ZF:=by
  intro Ya s hs;by_cases hl:Z51 Ya
  .obtain ⟨i,hi,Zc,g,xs,hq,rfl⟩:=hl;refine .inr ⟨g,hGm i hi Zc g xs hq,?_⟩;have hfz:=Zlb (ids:=ids) hi hq;cases P.f.hp.obj _ _ _ hfz with
   |frozen g xs s1 ty a b c d e f=>
    have:=P.st.sig _ _ b;rw[hs]at this;cases this;rcases P.f.new _ _ b with h1 | ⟨_,i',hi',ver',g',xs',hq',e1,e2⟩
    .rw [Zafc i _ _ _ hq]at h1;cases h1
    .have:i=i':=P.H.inj _ _ _ _ hq hq' e1;subst this;rw[hq]at hq';cases hq';exact e2
  .exact .inl (by simp only[ZF,hl,if_false];exact hs)
 have hle:Z.le ZF:=by
  intro Ya s hs;have hl:¬ Z51 Ya:=fun⟨i,hi,Zc,g,xs,hq,e⟩=>by rw[e,Zafc i _ _ _ hq]at hs;cases hs
  simp only[ZF,hl,if_false];exact P.st.sig _ _ (P.f.le _ _ hs)
 have Wz:∀i,i∈ok->(Yj h3 ok h).get i=h3.get i:=fun i hi=>by
  obtain⟨_,y,hy⟩:=P.hok i hi;obtain⟨z,hz⟩:=P.live hy;rw[U4,if_pos hi,hz]
 have Zcc:∀i,i∉ok->(Yj h3 ok h).get i=h.get i:=fun i hi=>by rw[U4,if_neg hi]
 have Zxt:∀i,i < h.next->Zp (Yj h3 ok h) i=Zp h3 i:=by
  intro i hi;by_cases hk:i∈ok
  .unfold Zp;rw[Wz i hk]
  .have e1:Zp (Yj h3 ok h) i=Zp h i:=by unfold Zp;rw[Zcc i hk]
   have e2:Zp h3 i=Zp (h.freeze ids) i:=by unfold Zp;rw[P.old hi hk]
   rw[e1,e2,Td]
 have hE:Ext ρ (Zp h) ρ2 (Zp (Yj h3 ok h)):=by
  intro i c hi;obtain⟨o,ho⟩:=Zv.1 hi;obtain⟨c',h1,h2,h4⟩:=P.ext i c hi;exact⟨c',by rw[Zxt i (P.H.lt _ _ ho)];exact h1,h2,h4⟩
 have Zfx:∀i y,(Yj h3 ok h).get i=some y->i < h.next/\∃z,h3.get i=some z:=by
  intro i y hy;by_cases hk:i∈ok
  .obtain ⟨_,q,hq⟩:=P.hok i hk;exact⟨P.H.lt _ _ hq,y,by rw[<- Wz i hk];exact hy⟩
  .rw [Zcc i hk]at hy;exact⟨P.H.lt _ _ hy,P.live hy⟩
 have Z65:∀j y,h3.get j=some y->j∈ok->¬ Z51 (ρ2 j):=by
  intro j y hy hj ⟨i,hi,Zc,g,xs,hq,e⟩;have hik:=(hcl i hi).1;obtain⟨z,hz⟩:=P.live hq;rw[<- P.rho hq hik]at e;have:=P.st.hp.inj _ _ _ _ hy hz e;exact hik (this ▸ hj)
 have hp:HP C ρ2 ZF vhF (Yj h3 ok h):=by
  refine⟨fun i y hy=>by rw[Ud];exact (Zfx i y hy).1,?_,fun i y hy=>by rw[hvn];exact P.st.hp.vlt i y (by rw[<- hvg];exact hy),?_,?_,?_⟩
  .intro i j y z hy hz e;obtain⟨_,y',hy'⟩:=Zfx i y hy;obtain⟨_,z',hz'⟩:=Zfx j z hz;exact P.st.hp.inj _ _ _ _ hy' hz' e
  .intro Ya s hs;simp only[ZF]at hs;split at hs
   .cases hs
   .rw [hvg];exact P.st.hp.sig _ _ hs
  .intro j Zc o hj;rw[Ud];by_cases hk:j∈ok
   .rw [Wz j hk]at hj;have hb:=Z2s j hk;simp only[PH.belowAt,hj]at hb;refine (P.st.hp.obj _ _ _ hj).back hb (fun i hi=>Zxt i hi) hB (fun g hg=>?_) (fun hz=>by simp only[ZF];split<;>first | rfl | exact hz) (fun s hs=>by simp only[ZF,Z65 j _ hj hk,if_false];exact hs) hvg hvn;obtain⟨i,hi,ver',xs,hq⟩:=hG g hg;obtain⟨_,Zwx,g2,Zt4,xs2,hq2,hT⟩:=hcl i hi;rw[hq]at hq2;cases hq2;exact (hT rfl).2 j hk Zc o hj
   .rw [Zcc j hk]at hj;refine P.away hj hk hE hle (fun hz=>?_) hvg (by rw[hvn];exact P.st.vnext);by_cases hl:Z51 (ρ j)
    .simp only [ZF,hl,if_true]
    .simp only [ZF,hl,if_false];exact P.zold hj hk hz fun g xs e hi=>hl ⟨j,hi,Zc,g,xs,by rw[hj,e],rfl⟩
  .rw [hvw,hvn];exact Nat.le_trans (Nat.min_le_right _ _) P.st.hp.wr
 refine⟨ZF,?_,P.marks hvg hvn hvw hp hle (by rw[Ud];exact Nat.le_refl _) Wz (fun i _ hk _=>Zcc i hk) (fun i _ hk _=>.inl (Zcc i hk)) (fun i y hi hy=>absurd (Zfx i y hy).1 (by omega))⟩;refine Zadc hB (n:=14) (fun g hg=>?_) (Zii (fun i hi=>Zxt i hi) 4 hxb hx);obtain⟨i,hi,ver',xs,hq⟩:=hG g hg;obtain⟨_,Zwx,g2,Zt4,xs2,hq2,hT⟩:=hcl i hi;rw[hq]at hq2;cases hq2;exact (hT rfl).1
theorem Pre0.frozen (P:Pre0 C K m ρ Z Z1 h vh ok ids nx ρ2 Z3 h3 V5)(hvg:vhF.get=V5.get)(hvn:vhF.next=V5.next)(hvw:vhF.wr=min vh.wr V5.wr)(Z2s:∀i∈ok,h3.belowAt h.next i=true)
  (hx:R C ρ2 (Zp h3) Z3 x w) (hxb:below h.next 4 x=true):
  ∃ZF,R C ρ2 (Zp (Yj h3 ok (h.freeze ids))) ZF x w/\St C K ρ Z h vh ρ2 ZF (Yj h3 ok (h.freeze ids)) vhF:=by
 have hle:Z.le Z3:=fun Ya s hs=>P.st.sig _ _ (P.f.le _ _ hs)
 have hB:Zso [] Z3 Z3:=fun Ya s hs=>.inl hs
 have Wz:∀i,i∈ok->(Yj h3 ok (h.freeze ids)).get i=h3.get i:=fun i hi=>by
  obtain⟨_,y,hy⟩:=P.hok i hi;obtain⟨z,hz⟩:=P.live hy;rw[U4,if_pos hi,hz]
 have Zcc:∀i,i∉ok->(Yj h3 ok (h.freeze ids)).get i=(h.freeze ids).get i:=fun i hi=>by rw[U4,if_neg hi]
 have Zxt:∀i,i < h.next->Zp (Yj h3 ok (h.freeze ids)) i=Zp h3 i:=by
  intro i hi;by_cases hk:i∈ok
  .unfold Zp;rw[Wz i hk]
  .unfold Zp;rw[Zcc i hk,P.old hi hk]
 have hE:Ext ρ (Zp h) ρ2 (Zp (Yj h3 ok (h.freeze ids))):=by
  intro i c hi;obtain⟨o,ho⟩:=Zv.1 hi;obtain⟨c',h1,h2,h4⟩:=P.ext i c hi;exact⟨c',by rw[Zxt i (P.H.lt _ _ ho)];exact h1,h2,h4⟩
 have Ul:∀i y,(h.freeze ids).get i=some y->∃z,h.get i=some z:=by
  intro i y hy;have:Zp (h.freeze ids) i=some y.1:=Zv.2 ⟨y.2,hy⟩;rw[Td]at this;obtain⟨o,ho⟩:=Zv.1 this;exact⟨_,ho⟩
 have Zfx:∀i y,(Yj h3 ok (h.freeze ids)).get i=some y->i < h.next/\h3.get i=some y:=by
  intro i y hy;by_cases hk:i∈ok
  .obtain ⟨_,q,hq⟩:=P.hok i hk;exact⟨P.H.lt _ _ hq,by rw[<- Wz i hk];exact hy⟩
  .rw [Zcc i hk]at hy;obtain⟨z,hz⟩:=Ul i y hy;have hlt:=P.H.lt _ _ hz;exact⟨hlt,by rw[P.old hlt hk];exact hy⟩
 have To:(Yj h3 ok (h.freeze ids)).next=h.next:=by rw[Ud,freeze_next]
 have hp:HP C ρ2 Z3 vhF (Yj h3 ok (h.freeze ids)):=by
  refine⟨fun i y hy=>by rw[To];exact (Zfx i y hy).1,?_,fun i y hy=>by rw[hvn];exact P.st.hp.vlt i y (by rw[<- hvg];exact hy),?_,?_,?_⟩
  .intro i j y z hy hz e;exact P.st.hp.inj _ _ _ _ (Zfx i y hy).2 (Zfx j z hz).2 e
  .intro Ya s hs;rw[hvg];exact P.st.hp.sig _ _ hs
  .intro j Zc o hj;rw[To];have hj3:=(Zfx j _ hj).2;have O3:=P.st.hp.obj _ _ _ hj3;by_cases hk:j∈ok
   .have hb:=Z2s j hk;simp only[PH.belowAt,hj3]at hb;exact O3.back hb (fun i hi=>Zxt i hi) hB (fun g hg=>by simp at hg) id (fun s hs=>hs) hvg hvn
   .rw [Zcc j hk]at hj;obtain⟨z,hz⟩:=Ul j _ hj;by_cases Uc:∃g own xs,o=.row g own xs
    .obtain ⟨g,own,xs,rfl⟩:=Uc;cases O3 with
     |row g xs vcs ty a b c d e=>exact .row g xs vcs ty a b (by rw[hvg];exact c) d e
     |frozen g xs s ty a b c d e f=>exact .frozen g xs s ty a b c d e f
    .have hz':h.get j=some (Zc,o):=by
      rw[Xp,hz]at hj;obtain⟨zv,zo⟩:=z;cases zo with
      |row g own xs=>
       simp only at hj;split at hj<;>cases hj<;>exact absurd ⟨_,_,_,rfl⟩ Uc
      | _=>cases hj;exact hz
     exact P.away hz' hk hE hle (fun hz0=>P.zold hz' hk hz0 fun g xs e _=>Uc ⟨g,true,xs,e⟩) hvg (by rw[hvn];exact P.st.vnext)
  .rw [hvw,hvn];exact Nat.le_trans (Nat.min_le_right _ _) P.st.hp.wr
 refine⟨Z3,Zii (fun i hi=>Zxt i hi) 4 hxb hx,P.marks hvg hvn hvw hp hle (by rw[To];exact Nat.le_refl _) Wz (fun i _ hk hd=>?_) (fun i _ hk hd=>.inr (Zcc i hk)) (fun i y hi hy=>absurd (Zfx i y hy).1 (by omega))⟩;rw[Zcc i hk,Xp];split
 .rename_i Zc g own xs hq;rw[if_neg hd,hq]
 .rfl
theorem Pre0.whole (P:Pre0 C K m ρ Z Z1 h vh ok ids nx ρ2 Z3 h3 V5)(hvg:vhF.get=V5.get)(hvn:vhF.next=V5.next)(hvw:vhF.wr=min vh.wr V5.wr)(To:h.next<=nx):St C K ρ Z h vh ρ2 Z3 h3 vhF:=by
 have hp:HP C ρ2 Z3 vhF h3:=P.st.hp.sub rfl (fun i x hx=>P.st.hp.lt i x hx) hvg (by rw[hvn];exact Nat.le_refl _) (by rw[hvw,hvn];exact Nat.le_trans (Nat.min_le_right _ _) P.st.hp.wr);refine P.marks hvg hvn hvw hp (fun Ya s hs=>P.st.sig _ _ (P.f.le _ _ hs)) ?_ (fun _ _=>rfl) (fun i hi hk hd=>?_) (fun i hi hk _=>.inr (P.old hi hk)) (fun _ _ _ h=>h)
 .exact Nat.le_trans To P.st.next
 .rw [P.old hi hk,Xp];split
  .rename_i Zc g own xs hq;rw[if_neg hd,hq]
  .rfl
theorem Zw4 (H:HP C ρ Z vh h)(hK:KOk K m h.next)(hok:∀i∈ok,can K i=true/\∃x,h.get i=some x)(hids:∀i∈ids,can K i=true)(f:Frz C true ρ Z h vh ids Z1)(H1:HP C ρ Z1 {vh with wr:=vh.next} {h.freeze ids with next:=nx})(To:h.next<=nx)
  (st:St C {base:=h.next,lo:=h.next,ok:=ok} ρ Z1 {h.freeze ids with next:=nx} {vh with wr:=vh.next} ρ2 Z2 h2 V5) (hx:R C ρ2 (Zp h2) Z2 x w) {r:PV×PH} (he:Xl h h2 ok ids x=some r):
  Zgt C K ρ Z h vh r.1 r.2 (some (Virt.settle false vh w V5)):=by
 unfold Xl at he;split at he
 .cases he
 .rename_i x' Z7b
  try dsimp only at he
  split at he
  .rename_i Zx;obtain⟨Z3,f3⟩:=frz (bt:=false) (ownT x) st.hp;have st3:=St.frz (K:={base:=h.next,lo:=h.next,ok:=ok}) st.hp f3 Zx;have stt:=st.trans H1 st3;have hx':R C ρ2 (Zp (h2.freeze (ownT x))) Z3 x' w:=Z6c f3.hp (fun i Zc g own xs hm hg=>Zlb hm hg) Z7b (hx.mono st3.ext st3.sig);have P:Pre0 C K m ρ Z Z1 h vh ok ids nx ρ2 Z3 (h2.freeze (ownT x)) V5:=⟨H,hK,hok,hids,f,stt⟩
   by_cases Wr:flat 4 w=true/\vh.next<=V5.wr
   ·
    have Zam:Virt.settle false vh w V5=(w,vh):=by
     unfold Virt.settle;rw[if_pos];simp only[Bool.not_false,Bool.true_and,Bool.and_eq_true,Nat.ble_eq];exact Wr
    rw[Zam];have Ul:=Zng (C:=C) (ρ:=ρ2) (vf:=Zp (h2.freeze (ownT x))) (Z:=Z3) (ρ':=ρ2) (vf':=fun _=>none) (Z':=Z3) 4 Wr.1 hx';split at he
    .split at he
     .rename_i hb hcl;cases he
      obtain⟨ZF,X3⟩:=P.restored Wr.2 true fun _ i hi=>by
       have:=List.all_eq_true.1 hcl i hi;rw[Bool.and_eq_true,Bool.not_eq_true']at this;intro hk;rw[List.any_eq_false]at this;exact this.1 i hk (by simp)
      exact⟨w,vh,ρ,ZF,rfl,(Zng 4 Wr.1 hx').1,X3⟩
     .cases he;obtain⟨ZF,X3⟩:=P.restored Wr.2 false (fun e=>by cases e);exact⟨w,vh,ρ,ZF,rfl,(Zng 4 Wr.1 hx').1,X3⟩
    .split at he
     .rename_i Zcd hev;exfalso;rw[Bool.or_eq_true]at hev;rcases hev with hev | hev
      .rw [Znh 4 x' Ul.2]at hev;cases hev
      .obtain ⟨i,hi,hev⟩:=List.any_eq_true.1 hev;rw[Bool.and_eq_true,Bool.not_eq_true']at hev;obtain⟨_,⟨Zc,o⟩,hxx⟩:=hok i hi;have hlt:=H.lt _ _ hxx;obtain⟨o1,ho1⟩:=Pre0.live1 (ids:=ids) hxx
       have Se:Zu h.next o1=true:=by
        have h5:=hev.2;simp only[PH.belowAt,hxx]at h5;have ho2:=ho1;rw[Xp,hxx]at ho2;cases o with
        |row g own xs=>
         simp only at ho2;split at ho2<;>cases ho2<;>rfl
        | _=>simp only at ho2;cases ho2;exact h5
       rcases stt.same i Zc o1 hlt ho1 with h1 | ⟨g,own,xs,rfl,h1⟩ | h1
       .have h5:=hev.1;simp only[PH.belowAt,h1,Se]at h5;cases h5
       .have h5:=hev.1;simp only[PH.belowAt,h1]at h5;cases h5
       .have:=H.rho_lt hxx;omega
     .cases he
   .have Zam:Virt.settle false vh w V5=(w,{V5 with wr:=min vh.wr V5.wr}):=by
     unfold Virt.settle;rw[if_neg];simp only[Bool.not_false,Bool.true_and,Bool.and_eq_true,Nat.ble_eq];exact Wr
    rw[Zam];split at he
    .rename_i Zcd;rw[Bool.and_eq_true]at Zcd;have Z2s:∀i∈ok,(h2.freeze (ownT x)).belowAt h.next i=true:=fun i hi=>List.all_eq_true.1 Zcd.2 i hi
     split at he
     .rename_i hcl;cases he
      obtain⟨ZF,hR,X3⟩:=P.clean (vhF:={V5 with wr:=min vh.wr V5.wr}) rfl rfl rfl Z2s (fun i hi=>by
       have h5:=List.all_eq_true.1 hcl i hi;rw[Bool.and_eq_true,Bool.not_eq_true']at h5;refine⟨fun hk=>?_,?_⟩
       .have:=h5.1;rw[List.any_eq_false]at this;exact this i hk (by simp)
       .have h6:=h5.2;split at h6
        .rename_i Zc g xs hq;refine⟨Zc,g,true,xs,hq,fun _=>?_⟩;rw[Bool.and_eq_true]at h6;refine⟨h6.1,fun j hj Zc o ho=>?_⟩;have:=List.all_eq_true.1 h6.2 j hj;rw[ho]at this;exact this
        .rename_i Zc g xs hq;exact⟨Zc,g,false,xs,hq,fun e=>by cases e⟩
        .cases h6) hx' Zcd.1
      exact⟨w,_,ρ2,ZF,rfl,hR,X3⟩
     .cases he;obtain⟨ZF,hR,X3⟩:=P.frozen (vhF:={V5 with wr:=min vh.wr V5.wr}) rfl rfl rfl Z2s hx' Zcd.1;exact⟨w,_,ρ2,ZF,rfl,hR,X3⟩
    .split at he
     .cases he;exact⟨w,_,ρ2,Z3,rfl,hx',P.whole rfl rfl rfl To⟩
     .cases he
  .cases he
end
def Zfo (sl Yy:SL):Prop:=∃e,Yy.map Prod.fst=sl.map Prod.fst++e
theorem Zfo.refl (sl:SL):Zfo sl sl:=⟨[],by simp⟩
theorem Zfo.trans {a b c:SL}(h:Zfo a b)(k:Zfo b c):Zfo a c:=by
 obtain⟨e,h⟩:=h;obtain⟨f,k⟩:=k;exact⟨e++f,by rw[k,h,List.append_assoc]⟩
theorem Z8a (sl:SL)(d:Nat)(v:Value):Zfo sl (Zby sl d v):=by
 induction sl with
 |nil=>exact⟨[d],rfl⟩
 |cons x sl ih=>
  obtain⟨k,u⟩:=x;simp only[Zby];cases Nat.beq k d with
  |true=>exact⟨[],by simp⟩
  |false=>
   obtain⟨e,he⟩:=ih;exact⟨e,by simp[he]⟩
theorem Zcf (sl:SL)(d:Option Nat)(v:Value):Zfo sl (putV sl d v):=by
 cases d with
 |none=>exact .refl _
 |some d=>exact Z8a sl d v
theorem Zm8 {C:Ctx}{cf yf:Nat->List Value->VH->Option (Value×VH)}{all:List Oper}:∀ {l:List Oper} {sl Yy:SL} {h h':VH},opsV C cf yf all l sl h=some (Yy,h')->Zfo sl Yy
 | [],sl,Yy,h,h',he=>by simp only[opsV,Option.some.injEq,Prod.mk.injEq]at he;rw[he.1];exact .refl _
 |o::l,sl,Yy,h,h',he=>by
  simp only[opsV]at he;split at he
  .split at he
   .exact (Zcf _ _ _).trans (Zm8 he)
   .cases he
  .exact (Zcf _ _ _).trans (Zm8 he)
  .cases he
theorem Z22 {C:Ctx}{cf yf:Nat->List Value->VH->Option (Value×VH)}{B M:Nat}{all:List Oper}{masks:Array Nat}{o:Oper}{i:Nat}{st st':DSt}(he:Zc8 C cf yf B M all masks o i st=some st'):Zfo st.sl st'.sl:=by
 unfold Zc8 at he
 try dsimp only at he
 split at he
 .cases he
 .cases he;exact Zcf _ _ _
 .split at he
  .cases he;exact Zcf _ _ _
  .split at he
   .cases he
   .split at he
    .cases he
    .split at he<;>cases he<;>exact Zcf _ _ _
theorem Zp5 {C:Ctx}{cf yf:Nat->List Value->VH->Option (Value×VH)}{B M:Nat}{all:List Oper}{masks:Array Nat}:∀ {l:List Oper} {i:Nat} {st st':DSt},Zb2 C cf yf B M all masks l i st=some st'->Zfo st.sl st'.sl
 | [],i,st,st',he=>by simp only[Zb2,Option.some.injEq]at he;subst he;exact .refl _
 |o::l,i,st,st',he=>by
  simp only[Zb2]at he;split at he
  .rename_i s hs;exact (Z22 hs).trans (Zp5 he)
  .cases he
theorem Z24 {C:Ctx}{cf yf:Nat->List Value->VH->Option (Value×VH)}{ops:Array Oper}{sl Yy:SL}{h h':VH}(he:Zid C cf yf ops sl h=some (Yy,h')):Zfo sl Yy:=by
 unfold Zid at he
 try dsimp only at he
 split at he
 .cases he
 .rename_i st hp;have:=Zp5 hp;split at he
  .cases he
  .split at he
   .cases he;exact this
   .cases he
theorem Zp4 {sl Yy:SL}(h:Zfo sl Yy):(Yy.take sl.length).map Prod.fst=sl.map Prod.fst:=by
 obtain⟨e,he⟩:=h;rw[List.map_take,he];simp
theorem Z23 {C:Ctx}:∀(n:Nat) (Xx:Bool) (code:Code) (sl Yy:SL) (h h':VH) (x:Ex),Virt.exec C n Xx code sl h=some (x,Yy,h')->Zfo sl Yy:=by
 intro n
 induction n with
 |zero=>intro Xx code sl Yy h h' x he;simp[Virt.exec]at he
 |succ n ih=>
  intro Xx code sl Yy h h' x he;cases code with
  |region id ops draw=>
   rw[Virt.exec]at he
   try dsimp only at he
   rw[Option.map_eq_some_iff]at he;obtain⟨⟨a,b⟩,hx,e⟩:=he;simp only[Prod.mk.injEq]at e;obtain⟨_,rfl,_⟩:=e;cases draw with
   |true=>simp only[if_true]at hx;exact Z24 hx
   |false=>simp only[Bool.false_eq_true,if_false]at hx;exact Zm8 hx
  |seq a b=>
   rw[Virt.exec]at he
   try dsimp only at he
   split at he
   .rename_i Qr h1 hx;exact (ih _ _ _ _ _ _ _ hx).trans (ih _ _ _ _ _ _ _ he)
   .exact ih _ _ _ _ _ _ _ he
  |cond c a b=>
   rw[Virt.exec]at he
   try dsimp only at he
   split at he
   .exact ih _ _ _ _ _ _ _ he
   .exact ih _ _ _ _ _ _ _ he
   .cases he
  |block id b=>
   rw[Virt.exec]at he
   try dsimp only at he
   split at he
   .rename_i id' Qr h1 hx;have:=ih _ _ _ _ _ _ _ hx;split at he<;>cases he<;>exact this
   .exact ih _ _ _ _ _ _ _ he
  |loop b=>
   rw[Virt.exec]at he
   try dsimp only at he
   split at he
   .rename_i Qr h1 hx;have h1:=ih _ _ _ _ _ _ _ hx;have h2:=ih _ _ _ _ _ _ _ he;exact Zfo.trans ⟨[],by rw[Zp4 h1];simp⟩ h2
   .exact ih _ _ _ _ _ _ _ he
  |rangeFunc f ps as bd=>
   rw[Virt.exec]at he
   try dsimp only at he
   split at he
   .split at he
    .split at he
     .split at he
      .cases he;exact .refl _
      .cases he
     .cases he
    .cases he
   .cases he
  |skip=>simp only[Virt.exec,Option.some.injEq,Prod.mk.injEq]at he;rw[he.2.1];exact .refl _
  |exit id=>simp only[Virt.exec,Option.some.injEq,Prod.mk.injEq]at he;rw[he.2.1];exact .refl _
  |ret=>simp only[Virt.exec,Option.some.injEq,Prod.mk.injEq]at he;rw[he.2.1];exact .refl _
  | _=>simp[Virt.exec]at he
theorem Zw3 {sl:SL}{t:Nat}{v:Value}(h:Xf sl t=some v):t∈sl.map Prod.fst:=by
 induction sl with
 |nil=>simp[Xf]at h
 |cons x sl ih=>
  obtain⟨k,u⟩:=x;simp only[Xf]at h;cases e:Nat.beq k t with
  |true=>simp[Nat.eq_of_beq_eq_true e]
  |false=>rw[e]at h;simp[ih h]
theorem slGet_take {sl:SL}{t k:Nat}(h:t∈(sl.take k).map Prod.fst):Xf (sl.take k) t=Xf sl t:=by
 induction sl generalizing k with
 |nil=>simp
 |cons x sl ih=>
  cases k with
  |zero=>simp at h
  |succ k=>
   obtain⟨j,u⟩:=x;simp only[List.take_succ_cons,Xf];cases e:Nat.beq j t with
   |true=>rfl
   |false=>
    simp only[List.take_succ_cons,List.map_cons,List.mem_cons]at h;rcases h with h | h
    .subst h;simp at e
    .exact ih h
section
variable {C:Ctx}{Z Z' Z1:Vf}{ρ ρ':Nat->Nat}{vf vf':Nat->Option Nat}{h h':PH}{vh vh':VH}{K:Loc}{n m:Nat}{Xi Ztz:Yw}{Y5 vsl':SL}
theorem SR.keep (S0:SR C ρ vf Z Xi Y5)(S:SR C ρ' vf' Z' Ztz vsl')(hg:Zfo Y5 vsl'):SR C ρ' vf' Z' (Zdb Xi Ztz) (vsl'.take Y5.length):=by
 intro t x hx;unfold Zdb at hx;split at hx
 .rename_i y hy;obtain⟨v0,h0,_⟩:=S0 _ _ hy;obtain⟨v,h1,h2⟩:=S _ _ hx;refine⟨v,?_,h2⟩;rw[slGet_take]
  .exact h1
  .rw [Zp4 hg];exact Zw3 h0
 .cases hx
def Zwi (C:Ctx)(pex:Loc->Code->Yw->PH->Option (Ex×Yw×PH))(ex:Code->SL->VH->Option (Ex×SL×VH)):Prop:=
 ∀K m code Xi h x Ztz h',pex K code Xi h=some (x,Ztz,h')->Ua m code=true->∀(ρ:Nat->Nat) (Z:Vf) (vh:VH) (Y5:SL),HP C ρ Z vh h->KOk K m h.next->SR C ρ (Zp h) Z Xi Y5 ->
  ∃vsl' vh' ρ' Z',ex code Y5 vh=some (x,vsl',vh')/\SR C ρ' (Zp h') Z' Ztz vsl'/\St C K ρ Z h vh ρ' Z' h' vh'
structure COkP (C:Ctx):Prop where
 ext:∀f a v,C.ext f a=some v->a=[]\/(C.raw f=true/\∃b k c,a=[.string b,.int k c])
 extP:∀f a v,C.ext f a=some v->(Yf 0 v).isSome=true
 code:∀f fn c,C.F f=some fn->fn.body=some c->Ua fn.ntmps c=true
theorem Zuh (H:HP C ρ Z vh h){ids:List Nat}(f:Frz C true ρ Z h vh ids Z1){nx:Nat}:∀ {args args':List PV} {Wl:List Value},(∀a∈args,∀i∈ownV a,i∈ids)->Xd (inlV h) args=some args' ->
  Rs C ρ (Zp h) Z args Wl->Rs C ρ (Zp ({h.freeze ids with next:=nx}:PH)) Z1 args' Wl
 | [],args',Wl,_,ha,hr=>by
   simp only[Xd,Option.some.injEq]at ha;subst ha;cases hr;exact .nil
 |a::l,args',Wl,hm,ha,hr=>by
  simp only[Xd]at ha;split at ha
  .rename_i y ys hy hys;cases ha;have hv:Zp ({h.freeze ids with next:=nx}:PH)=Zp (h.freeze ids):=rfl;cases hr with
   |cons h1 r=>
    refine .cons ?_ (Zuh H f (fun a ha=>hm a (by simp[ha])) hys r);rw[hv];have h1':=h1.mono (Ext.refl _ _) f.sig;rw[<- Td ids h]at h1';exact Zhw f.hp (fun i Zc g own xs hi hq=>Zlb (hm a (by simp) i hi) hq) hy h1'
  .cases ha
theorem Zf1 (b:ByteArray):bytesOf (b.data.toList.map UInt8.toNat)=b:=by
 unfold bytesOf
 have:(b.data.toList.map UInt8.toNat).map Nat.toUInt8=b.data.toList:=by
  rw[List.map_map]
  conv=>rhs;rw[<- List.map_id b.data.toList]
  refine List.map_congr_left fun x _=>?_
  simp[Function.comp]
 rw[this]
theorem Z3y {ρ:Nat->Nat}{vf:Nat->Option Nat}{Z:Vf}{s:List Nat}{v:Value}(h:R C ρ vf Z (.str s) v):v=.string (bytesOf s):=by
 cases h with
 |d h=>cases h;rw[Zf1]
theorem Z9o {ρ:Nat->Nat}{vf:Nat->Option Nat}{Z:Vf}{x:PV}{b:ByteArray}(h:R C ρ vf Z x (.string b)):∃s,x=.str s/\bytesOf s=b:=by
 cases h with
 |d h=>cases h;exact⟨_,rfl,Zf1 b⟩
theorem Z30 {ρ:Nat->Nat}{vf:Nat->Option Nat}{Z:Vf}{k:IntKind}{n:Int}{v:Value}(h:R C ρ vf Z (.int k n) v):v=.int k n:=by
 cases h with
 |d h=>cases h;rfl
theorem Z3z {ρ:Nat->Nat}{vf:Nat->Option Nat}{Z:Vf}{x:PV}{k:IntKind}{n:Int}(h:R C ρ vf Z x (.int k n)):x=.int k n:=by
 cases h with
 |d h=>cases h;rfl
theorem Zfa (hC:COkP C){pex:Loc->Code->Yw->PH->Option (Ex×Yw×PH)}{ex:Code->SL->VH->Option (Ex×SL×VH)}(hex:Zwi C pex ex)(K:Loc)(m:Nat):Zim C K m (callF C pex) (Virt.callF C ex):=by
 intro f args h r he ρ Z vh Wl H hK Xz;unfold callF at he;unfold Virt.callF;split at he
 .rename_i x hx;cases he;unfold extP at hx;split at hx
  .cases Xz;simp only[Option.bind_eq_some_iff]at hx;obtain⟨w,h1,h2⟩:=hx;rw[h1];exact⟨w,vh,ρ,Z,rfl,.d (R7 0 w h2),St.refl H⟩
  .split at hx
   .cases Xz with
    |cons r1 r2=>
     cases r2 with
     |cons r2 r3=>
      cases r3;rw[Z3y r1,Z30 r2];simp only[Option.bind_eq_some_iff]at hx;obtain⟨w,h1,h2⟩:=hx;rw[h1];exact⟨w,vh,ρ,Z,rfl,.d (R7 0 w h2),St.refl H⟩
   .cases hx
  .cases hx
 rename_i Vt
 have Zapp:C.ext f Wl=none:=by
  cases e:C.ext f Wl with
  |none=>rfl
  |some w=>
   have hs:=hC.extP f _ w e;rcases hC.ext f _ w e with rfl | ⟨Xo,b,k,c,rfl⟩
   .cases Xz;simp only[extP,e,Option.bind_some]at Vt;rw[Vt]at hs;cases hs
   .cases Xz with
    |cons r1 r2=>
     cases r2 with
     |cons r2 r3=>
      cases r3;obtain⟨s,rfl,hb⟩:=Z9o r1;have h2:=Z3z r2;subst h2;simp only[extP,Xo,if_true,hb,e,Option.bind_some]at Vt;rw[Vt]at hs;cases hs
 rw[Zapp]
 try dsimp only
 split at he
 .cases he
 .rename_i fn hF;rw[hF]
  try dsimp only
  split at he
  .cases he
  .rename_i c Zp3;rw[Zp3]
   try dsimp only
   have V6:=hC.code _ _ _ hF Zp3;split at he
   ·
    rename_i Xo;have H1:HP C ρ Z {vh with wr:=vh.next} {h with next:=h.next+fn.ntmps}:=H.sub rfl (fun i x hx=>Nat.lt_of_lt_of_le (H.lt i x hx) (Nat.le_add_right _ _)) rfl (Nat.le_refl _) (Nat.le_refl _);have S9:K.lo<=h.next:=by have:=hK.1;have:=hK.2;omega
    have key:∀x Yy h2,pex {base:=h.next,lo:=K.lo,ok:=K.ok} c (Sl 0 args) {h with next:=h.next+fn.ntmps}=some (x,Yy,h2)->(match Uz C Yy h2 fn.results.toList with
      |none=>none
      |some vs=>if h2.next=h.next+fn.ntmps/\Zh4 h2 h.next h2.next=true then some (Wy vs,{h2 with next:=h.next}) else some (Wy vs,h2))=some r ->
      ∃vsl' V5,ex c (V8 0 Wl) {vh with wr:=vh.next}=some (x,vsl',V5)/\Zgt C K ρ Z h vh r.1 r.2 ((Zha C vsl' V5 fn.results.toList).map fun vs=>Virt.settle (C.raw f) vh (Zof vs) V5):=by
     intro x Yy h2 hp hr;obtain⟨vsl',V5,ρ2,Z2,e1,S2,st⟩:=hex _ _ _ _ _ _ _ _ hp V6 ρ Z _ (V8 0 Wl) H1 ⟨S9,Nat.le_refl _⟩ (Zs0 Xz);refine⟨vsl',V5,e1,?_⟩;split at hr
     .cases hr
     .rename_i vs Wr;obtain⟨vvs,hv1,hv2⟩:=Zhb st.hp S2 Wr;have Zfk:=Zt9 hv2;rw[hv1,Xo]
      have Zam:Virt.settle true vh (Zof vvs) V5=(Zof vvs,{V5 with wr:=min vh.wr V5.wr}):=by
       unfold Virt.settle;simp
      simp only[Option.map_some];rw[Zam]
      have base:∀hF:PH,hF.get=h2.get->h.next<=hF.next->(∀i x,hF.get i=some x->i < hF.next)->St C K ρ Z h vh ρ2 Z2 hF {V5 with wr:=min vh.wr V5.wr}:=by
       intro hF hg hn hlt;have hvf:Zp hF=Zp h2:=by unfold Zp;rw[hg]
       refine⟨st.hp.sub hg (fun i x hx=>hlt i x (by rw[hg];exact hx)) rfl (Nat.le_refl _) (Nat.le_trans (Nat.min_le_right _ _) st.hp.wr),by rw[hvf];exact st.ext,st.sig,hn,st.vnext,Nat.min_le_left _ _,fun i hi=>by rw[hg];exact st.keep i hi,fun i Zc o S9 ho=>?_,fun i x hx=>st.plc i x (by rw[<- hg];exact hx),fun i x hx hc=>st.vkeep i x hx hc,fun q hq hn hi=>st.vnone q hq hn hi,fun b h1 h2 h3=>Nat.le_min.2 ⟨h2,st.low b h1 h1 h3⟩⟩;rw[hg];rcases st.same i Zc o S9 ho with h5 | h5 | h5
       .exact .inl h5
       .exact .inr (.inl h5)
       .exact .inr (.inr (Nat.le_trans (Nat.min_le_right _ _) h5))
      split at hr
      .rename_i hfr;cases hr
       have hlt:∀i x,h2.get i=some x->i < h.next:=by
        intro i x hx;rcases Nat.lt_or_ge i h.next with h5 | h5
        .exact h5
        .exfalso;have h6:=st.hp.lt i x hx;have h7:=List.all_eq_true.1 hfr.2 (i - h.next) (List.mem_range.2 (by omega));rw[show h.next+(i - h.next)=i by omega,hx]at h7;cases h7
       exact⟨Zof vvs,_,ρ2,Z2,rfl,Zfk,base _ rfl (Nat.le_refl _) hlt⟩
      .cases hr;exact⟨Zof vvs,_,ρ2,Z2,rfl,Zfk,base _ rfl (Nat.le_trans (Nat.le_add_right _ _) st.next) st.hp.lt⟩
    split at he
    .rename_i Yy h2 hp;obtain⟨vsl',V5,e1,e2⟩:=key _ _ _ hp he;rw[e1];exact e2
    .rename_i Yy h2 hp;obtain⟨vsl',V5,e1,e2⟩:=key _ _ _ hp he;rw[e1];exact e2
    .cases he
   .rename_i Xo
    try dsimp only at he
    split at he
    .cases he
    .rename_i args' Z7b;split at he
     .rename_i Zeg;rw[Bool.and_eq_true]at Zeg;obtain⟨Z1,fz⟩:=frz (bt:=true) (args.flatMap ownV) H;have To:h.next<=h.next+fn.ntmps:=Nat.le_add_right _ _;have H1:HP C ρ Z1 {vh with wr:=vh.next} {h.freeze (args.flatMap ownV) with next:=h.next+fn.ntmps}:=fz.hp.sub rfl (fun i x hx=>by have:=fz.hp.lt i x hx;rw[freeze_next]at this;exact Nat.lt_of_lt_of_le this To) rfl (Nat.le_refl _) (Nat.le_refl _);have Zx9:=Zuh (nx:=h.next+fn.ntmps) H fz (fun a ha i hi=>List.mem_flatMap.2 ⟨a,ha,hi⟩) Z7b Xz
      have hok:∀i∈reach h 4 (args'.flatMap (refs 3)),can K i=true/\∃x,h.get i=some x:=fun i hi=>by
       have:=List.all_eq_true.1 Zeg.1 i hi;rw[Bool.and_eq_true]at this;exact⟨this.1,Option.isSome_iff_exists.1 this.2⟩
      have hids:∀i∈args.flatMap ownV,can K i=true:=fun i hi=>List.all_eq_true.1 Zeg.2 i hi
      have hrw:C.raw f=false:=by simpa using Xo
      have key:∀x Yy h2,pex {base:=h.next,lo:=h.next,ok:=reach h 4 (args'.flatMap (refs 3))} c (Sl 0 args') {h.freeze (args.flatMap ownV) with next:=h.next+fn.ntmps}=some (x,Yy,h2) ->
        (match Uz C Yy h2 fn.results.toList with
        |none=>none
        |some vs=>Xl h h2 (reach h 4 (args'.flatMap (refs 3))) (args.flatMap ownV) (Wy vs))=some r ->
        ∃vsl' V5,ex c (V8 0 Wl) {vh with wr:=vh.next}=some (x,vsl',V5)/\Zgt C K ρ Z h vh r.1 r.2 ((Zha C vsl' V5 fn.results.toList).map fun vs=>Virt.settle (C.raw f) vh (Zof vs) V5):=by
       intro x Yy h2 hp hr;obtain⟨vsl',V5,ρ2,Z2,e1,S2,st⟩:=hex _ _ _ _ _ _ _ _ hp V6 ρ Z1 _ (V8 0 Wl) H1 ⟨Nat.le_refl _,Nat.le_refl _⟩ (Zs0 Zx9);refine⟨vsl',V5,e1,?_⟩;split at hr
       .cases hr
       .rename_i vs Wr;obtain⟨vvs,hv1,hv2⟩:=Zhb st.hp S2 Wr;rw[hv1,hrw];exact Zw4 H hK hok hids fz H1 To st (Zt9 hv2) hr
      split at he
      .rename_i Yy h2 hp;obtain⟨vsl',V5,e1,e2⟩:=key _ _ _ hp he;rw[e1];exact e2
      .rename_i Yy h2 hp;obtain⟨vsl',V5,e1,e2⟩:=key _ _ _ hp he;rw[e1];exact e2
      .cases he
     .cases he
theorem Z1v {ps:List Nat}:∀ {Xi:Yw} {Y5:SL} {xs:List PV} {vs:List Value},SR C ρ vf Z Xi Y5->Rs C ρ vf Z xs vs->SR C ρ vf Z (Zdy Xi (ps.zip xs)) (Zd0 Y5 (ps.zip vs)):=by
 induction ps with
 |nil=>intro Xi Y5 xs vs S _;simpa[Zdy,Zd0]using S
 |cons p ps ih=>
  intro Xi Y5 xs vs S h;cases h with
  |nil=>simpa[Zdy,Zd0]using S
  |cons h r=>simp only[List.zip_cons_cons,Zdy,Zd0];exact ih (S.put p h) r
theorem St.wider {K K0:Loc}{Z':Vf}(st:St C K0 ρ Z h vh ρ' Z' h' vh')(S9:K.lo<=K0.lo)(hc:∀i,can K0 i=true->can K i=true):St C K ρ Z h vh ρ' Z' h' vh':=
 ⟨st.hp,st.ext,st.sig,st.next,st.vnext,st.wr,fun i hi=>st.keep i (by cases e:can K0 i with | false=>rfl | true=>rw[hc i e]at hi;cases hi),fun i Zc o hl=>st.same i Zc o (Nat.lt_of_lt_of_le hl S9),st.plc,fun i x hx hi=>st.vkeep i x hx (by cases e:can K0 i with | false=>rfl | true=>rw[hc i e]at hi;cases hi),st.vnone,fun b h1 h2 h3=>st.low b h1 h2 fun i x hx hi=>h3 i x hx (hc i hi)⟩
theorem Ziw (H:HP C ρ Z vh h){i Zc:Nat}{ob0 ob:PO}{vo:Option VO}(hi:h.get i=some (Zc,ob0))(S9:K.lo<=i)(hz:Z (ρ i)=none)
  (ho:∀ρ' vf',Ext ρ (Zp h) ρ' vf'->OR C ρ' vf' Z h.next (vh.put (ρ i) vo) i (ρ i) ob):
  St C K ρ Z h vh (fun j=>if j=i then ρ i else ρ j) Z (h.put i Zc ob) (vh.put (ρ i) vo):=by
 refine HP.change H (.inl rfl) (H.lt _ _ hi) (by unfold can;rw[Bool.or_eq_true,Nat.ble_eq];exact .inl S9) (fun w o' hw=>?_) (H.rho_lt hi) (.inl ⟨_,hi,rfl⟩) (Nat.le_refl _) (Nat.le_refl _) (fun h1 _=>by omega) (fun q hq _=>?_) (fun _ _=>.inl hz) hz (fun q y hq=>?_) (fun ρ' vf' _ _ he=>ho ρ' vf' he)
 .rw [hi]at hw;cases hw;exact⟨Nat.le_refl _,fun _=>rfl⟩
 .simp [VH.put,Sx hq]
 .by_cases e:q=ρ i
  .subst e;exact H.rho_lt hi
  .simp only [VH.put,Sx e,cond_false]at hq;exact H.vlt _ _ hq
theorem Zl6 {i:Nat}:(fun j=>if j=i then ρ i else ρ j)=ρ:=by
 funext j;by_cases e:j=i
 .simp [e]
 .simp [e]
theorem Zwt {pex:Loc->Code->Yw->PH->Option (Ex×Yw×PH)}{ex:Code->SL->VH->Option (Ex×SL×VH)}(hex:Zwi C pex ex)(K:Loc)(m:Nat):YfSim C K m (Pure.yieldF pex) (Virt.yieldF ex):=by
 intro l Zc args h r he ρ Z vh Wl w H hK Xz hw;unfold Pure.yieldF at he;split at he
 .rename_i w0 K0 V9 ps as bd hl;split at he
  .rename_i hc;obtain⟨rfl,hlen,S9,hok⟩:=hc
   have hwv:w=.func (.yield (ρ l)) #[] #[]:=by
    cases hw with
    |d h=>cases h
    |yield i Zc c p hi hv ha=>
     rw[Zv.2 ⟨_,hl⟩]at hi;cases hi;rw[ha rfl]
   refine⟨ρ l,hwv,?_⟩;rw[Nat.ble_eq]at S9;cases H.obj _ _ _ hl with
   |loop K0 n sl Y5 ps as bd hz hg hsl hK0 hb h1 h2=>
    unfold Virt.yieldF;rw[hg]
    try dsimp only
    rw[if_pos (by rw[Xz.length];exact hlen)];have hKl:K.lo<=l:=by omega
    have Zx:∀i,can K0 i=true->can K i=true:=by
     intro i hi;unfold can at hi;rw[Bool.or_eq_true]at hi;rcases hi with hi | hi
     .rw [Nat.ble_eq]at hi;unfold can;rw[Bool.or_eq_true,Nat.ble_eq];exact .inl (by omega)
     .obtain ⟨y,hy,e⟩:=List.any_eq_true.1 hi;rw[Nat.beq_eq]at e;subst e;exact List.all_eq_true.1 hok _ hy
    have st0:=Ziw (K:=K) (ob:=.gone) (vo:=none) H hl hKl hz fun ρ' vf' _=>.gone (H.rho_lt hl) hz
    rw[Zl6]at st0;have hKOk:KOk K0 n h.next:=⟨hK0,by have:=H.lt _ _ hl;omega⟩
    have S0:=Z1v (ps:=ps) (hsl.mono st0.ext st0.sig) (Rs.mono st0.ext st0.sig Xz);split at he
    .rename_i Qr h1' hx1;obtain⟨Zfd,vh1,ρ1,Z1,a1,a2,a3⟩:=hex _ _ _ _ _ _ _ _ hx1 h1 ρ Z _ _ st0.hp hKOk S0;rw[a1]
     try dsimp only
     split at he
     .rename_i sl2 h2' hx2;obtain⟨vsl2,V5,ρ2,Z2,b1,b2,b3⟩:=hex _ _ _ _ _ _ _ _ hx2 h2 ρ1 Z1 _ _ a3.hp ⟨hKOk.1,Nat.le_trans hKOk.2 a3.next⟩ a2;rw[b1]
      try dsimp only
      split at he
      .rename_i w2 Z7d;split at he
       .rename_i e;subst e;cases he;have st2:St C K ρ Z h vh ρ2 Z2 h2' V5:=(st0.trans H (a3.wider S9 Zx)).trans H (b3.wider S9 Zx)
        have Zfj:ρ2 l=ρ l:=by
         obtain⟨c',q1,_,q3⟩:=st2.ext l w2 (Zv.2 ⟨_,hl⟩);rw[Zv.2 ⟨_,Z7d⟩]at q1;cases q1;exact q3 rfl
        have hz2:Z2 (ρ2 l)=none:=by
         cases st2.hp.obj _ _ _ Z7d with
         |gone q1 q2=>exact q2
        have st3:=Ziw (K:=K) (ob:=.loop K0 V9 ps as bd) (vo:=some (.loop Y5 ps as bd)) st2.hp Z7d hKl hz2 fun ρ' vf' hE=>.loop K0 n V9 Y5 ps as bd hz2 (by simp[VH.put]) ((hsl.mono st2.ext st2.sig).mono hE (Vf.le.refl _)) hK0 hb h1 h2
        rw[Zl6,Zfj]at st3;exact⟨.bool true,_,_,_,rfl,.d (.bool true),st2.trans H st3⟩
       .cases he
      .cases he
     .cases he
    .cases he
  .cases he
 .cases he
def Zil (C:Ctx)(pcf:CF)(cf:Nat->List Value->VH->Option (Value×VH)):Prop:=
 ∀K f args h v h',pcf K f args h=some (v,h')->C.raw f=false->args.flatMap ownV=[]->args.flatMap (refs 3)=[]->X4 4 v=true ->
  h'=h/\∀(ρ:Nat->Nat) (Z:Vf) (vh:VH) (Wl:List Value),HP C ρ Z vh h->vh.wr=vh.next->Rs C ρ (Zp h) Z args Wl->∃w,cf f Wl vh=some (w,vh)/\R C ρ (Zp h) Z v w
theorem Z16 {h:PH}{a:PV}(ha:ownV a=[]):inlV h a=some a:=by
 have hc:∀cs:List PV,cs.flatMap Tv=[]->Xd (Qj h) cs=some cs:=by
  intro cs
  induction cs with
  |nil=>intro _;rfl
  |cons c cs ih=>
   intro hh;rw[List.flatMap_cons,List.append_eq_nil_iff]at hh;simp only[Xd,ih hh.2];cases c<;>simp_all[Tv,Qj]
 cases a with
 |agg cs=>simp only[inlV];rw[hc cs ha];rfl
 |own=>simp[ownV,Tv]at ha
 | _=>rfl
theorem Zpm {h:PH}:∀ {args:List PV},args.flatMap ownV=[]->Xd (inlV h) args=some args
 | [],_=>rfl
 |a::l,ho=>by
  rw[List.flatMap_cons,List.append_eq_nil_iff]at ho;simp only[Xd,Z16 ho.1,Zpm ho.2]
theorem Z5c (hC:COkP C){pex:Loc->Code->Yw->PH->Option (Ex×Yw×PH)}{ex:Code->SL->VH->Option (Ex×SL×VH)}(hex:Zwi C pex ex):Zil C (Pure.callF C pex) (Virt.callF C ex):=by
 intro K f args h v h' he Xo ho hr hv
 have key:h'=h/\Pure.callF C pex {base:=h.next,lo:=h.next,ok:=[]} f args h=some (v,h):=by
  unfold Pure.callF at he ⊢;cases hx:extP C f args with
  |some w=>
   rw[hx]at he;cases he;exact⟨rfl,rfl⟩
  |none=>
   rw[hx]at he;simp only at he ⊢;cases hF:C.F f with
   |none=>rw[hF]at he;cases he
   |some fn=>
    rw[hF]at he;simp only at he ⊢;cases hb:fn.body with
    |none=>rw[hb]at he;cases he
    |some c=>
     rw[hb]at he;simp only[Xo,Bool.false_eq_true,if_false,Zpm ho,ho,hr,reach,List.all_nil,Bool.and_true,if_true]at he ⊢
     have Zam:∀h2 x,Xl h h2 [] [] x=some (v,h')->h'=h:=by
      intro h2 x hs;unfold Xl at hs;split at hs
      .cases hs
      .rename_i v' hi;simp only[List.any_nil,Bool.or_false,List.all_nil,Bool.and_true,Yj,PH.freeze,if_true]at hs;split at hs
       .split at hs
        .simp only [Option.some.injEq,Prod.mk.injEq]at hs;exact hs.2.symm
        .split at hs
         .rename_i hf;simp only[Option.some.injEq,Prod.mk.injEq]at hs;rw[hs.1,Znh 4 v hv]at hf;cases hf
         .cases hs
       .cases hs
     have Zaoo:∀(q:Option (Ex×Yw×PH)),(match q with
       |some (.normal,Yy,h2) | some (.ret,Yy,h2)=>
        (match Uz C Yy h2 fn.results.toList with
        |none=>none
        |some vs=>Xl h h2 [] [] (Wy vs))
       | _=>none)=some (v,h')->h'=h:=by
      intro q hq;split at hq
      .split at hq
       .cases hq
       .exact Zam _ _ hq
      .split at hq
       .cases hq
       .exact Zam _ _ hq
      .cases hq
     have e:=Zaoo _ he;subst e;exact⟨rfl,he⟩
 obtain⟨rfl,hc⟩:=key;refine⟨rfl,fun ρ Z vh Wl H hw ha=>?_⟩;obtain⟨w,vh1,ρ1,Z1,q1,q2,q3⟩:=Zfa hC hex {base:=h'.next,lo:=h'.next,ok:=[]} 0 f args h' _ hc ρ Z vh Wl H ⟨Nat.le_refl _,Nat.le_refl _⟩ ha;have hfw:flat 4 w=true:=Z9p 4 hv q2
 have hlow:vh.next<=vh1.wr:=q3.low vh.next (Nat.le_refl _) (by rw[hw];exact Nat.le_refl _) fun i x hx Zx=>by
  exfalso;have:=H.lt i x hx;unfold can at Zx;simp only[List.any_nil,Bool.or_false,Nat.ble_eq]at Zx;omega
 have Ws:vh1=vh:=by
  unfold Virt.callF at q1;split at q1
  .rename_i w' _;simp only[Option.some.injEq,Prod.mk.injEq]at q1;exact q1.2.symm
  .split at q1
   .cases q1
   .split at q1
    .cases q1
    .have Zam:∀(vv:Value) (h2:VH),Virt.settle (C.raw f) vh vv h2=(w,vh1)->vh1=vh:=by
      intro vv h2 hs;unfold Virt.settle at hs;split at hs
      .simp only [Prod.mk.injEq]at hs;exact hs.2.symm
      .rename_i hn;simp only[Prod.mk.injEq]at hs;obtain⟨rfl,rfl⟩:=hs;exfalso;apply hn;simp only[Xo,hfw,Bool.not_false,Bool.true_and,Nat.ble_eq];exact Nat.le_trans hlow (Nat.min_le_right _ _)
     split at q1
     .rw [Option.map_eq_some_iff]at q1;obtain⟨vs,_,hs⟩:=q1;exact Zam _ _ hs
     .rw [Option.map_eq_some_iff]at q1;obtain⟨vs,_,hs⟩:=q1;exact Zam _ _ hs
     .cases q1
 subst Ws;exact⟨w,q1,(Zng 4 hfw q2).1⟩
def Zeu (C:Ctx)(pcf:CF)(cf:Nat->List Value->VH->Option (Value×VH)):Prop:=
 ∀K f args h v h',pcf K f args h=some (v,h')->C.raw f=false->∀args',Xd (inlV h) args=some args'->∀(ρ:Nat->Nat) (Z:Vf) (vh:VH) (Wl:List Value),HP C ρ Z vh h->Rs C ρ (Zp h) Z args Wl ->
  ∀w vh1,cf f Wl vh=some (w,vh1)->∀u,u∉reach h 4 (args'.flatMap (refs 3))++args.flatMap ownV->(∃x,h.get u=some x)->vh1.get (ρ u)=vh.get (ρ u)/\h'.get u=h.get u
theorem Z1f (hC:COkP C){pex:Loc->Code->Yw->PH->Option (Ex×Yw×PH)}{ex:Code->SL->VH->Option (Ex×SL×VH)}(hex:Zwi C pex ex):Zeu C (Pure.callF C pex) (Virt.callF C ex):=by
 intro K f args h v h' he Xo args' hm ρ Z vh Wl H ha w vh1 hw u hu hx
 have key:Pure.callF C pex {base:=h.next,lo:=h.next,ok:=reach h 4 (args'.flatMap (refs 3))++args.flatMap ownV} f args h=some (v,h'):=by
  unfold Pure.callF at he ⊢;cases hx:extP C f args with
  |some w=>rw[hx]at he;exact he
  |none=>
   rw[hx]at he;simp only at he ⊢;cases hF:C.F f with
   |none=>rw[hF]at he;cases he
   |some fn=>
    rw[hF]at he;simp only at he ⊢;cases hb:fn.body with
    |none=>rw[hb]at he;cases he
    |some c=>
     rw[hb]at he;simp only[Xo,Bool.false_eq_true,if_false,hm]at he ⊢;split at he
     .rename_i hok;rw[Bool.and_eq_true,List.all_eq_true,List.all_eq_true]at hok;rw[if_pos]
      .exact he
      .rw [Bool.and_eq_true,List.all_eq_true,List.all_eq_true]
       have hc:∀i,i∈reach h 4 (args'.flatMap (refs 3))++args.flatMap ownV->can {base:=h.next,lo:=h.next,ok:=reach h 4 (args'.flatMap (refs 3))++args.flatMap ownV} i=true:=fun i hi=>by
        unfold can;rw[Bool.or_eq_true];exact .inr (List.any_eq_true.2 ⟨i,hi,Nat.beq_refl i⟩)
       refine⟨fun i hi=>?_,fun i hi=>hc i (List.mem_append_right _ hi)⟩;have:=hok.1 i hi;rw[Bool.and_eq_true]at this ⊢;exact⟨hc i (List.mem_append_left _ hi),this.2⟩
     .cases he
 obtain⟨w',V5,ρ1,Z1,q1,q2,q3⟩:=Zfa hC hex {base:=h.next,lo:=h.next,ok:=reach h 4 (args'.flatMap (refs 3))++args.flatMap ownV} 0 f args h _ key ρ Z vh Wl H ⟨Nat.le_refl _,Nat.le_refl _⟩ ha;rw[hw]at q1;cases q1;obtain⟨x,hx⟩:=hx
 suffices hcn:can {base:=h.next,lo:=h.next,ok:=reach h 4 (args'.flatMap (refs 3))++args.flatMap ownV} u=false from ⟨q3.vkeep u x hx hcn,q3.keep u hcn⟩
 have hlt:=H.lt u x hx;unfold can;rw[Bool.or_eq_false_iff];constructor
 .rw [<- Bool.not_eq_true,Nat.ble_eq];show ¬ h.next<=u;omega
 .rw [<- Bool.not_eq_true];intro hh;obtain⟨i,hi,hb⟩:=List.any_eq_true.1 hh;rw[Nat.beq_eq]at hb;subst hb;exact hu hi
def Z1b (C:Ctx):Prop:=∀(K:Loc) (n:Nat) (pcf:CF) (pyf:YF) (cf yf:Nat->List Value->VH->Option (Value×VH)),Zim C K n pcf cf->YfSim C K n pyf yf->Zil C pcf cf->Zeu C pcf cf->Za4 cf->Za4 yf->∀(ops:Array Oper) (Xi:Yw) (Y5:SL) (h:PH) (vh:VH) (ρ:Nat->Nat) (Z:Vf) (q:Yw×PH),HP C ρ Z vh h ->
 SR C ρ (Zp h) Z Xi Y5->KOk K n h.next->(∀o∈ops.toList,∀d,o.dst=some d->d < n)->Zrz ops=true->Zcj C pcf pyf K ops Xi h=some q->∃vsl' vh' ρ' Z',Zid C cf yf ops Y5 vh=some (vsl',vh')/\SR C ρ' (Zp q.2) Z' q.1 vsl'/\St C K ρ Z h vh ρ' Z' q.2 vh'
theorem Z8c (hC:COkP C)(hD:Z1b C):∀n Xx,Zwi C (fun K=>Pure.exec C n K Xx) (Virt.exec C n Xx):=by
 intro n
 induction n with
 |zero=>intro Xx K m code Xi h x Ztz h' he;simp[Pure.exec]at he
 |succ n ih=>
  intro Xx K m code Xi h x Ztz h' he V6 ρ Z vh Y5 H hK S;replace he:Pure.exec C (n+1) K Xx code Xi h=some (x,Ztz,h'):=he;have hcf:=Zfa hC (ih true) K m;have hyf:=Zwt (ih false) K m;have hi:=ih Xx;cases code with
  |skip=>rw[Pure.exec]at he;cases he;exact⟨Y5,vh,ρ,Z,by rw[Virt.exec],S,St.refl H⟩
  |exit id=>rw[Pure.exec]at he;cases he;exact⟨Y5,vh,ρ,Z,by rw[Virt.exec],S,St.refl H⟩
  |ret=>rw[Pure.exec]at he;cases he;exact⟨Y5,vh,ρ,Z,by rw[Virt.exec],S,St.refl H⟩
  |region id ops draw=>
   rw[Pure.exec]at he
   try dsimp only at he
   rw[Option.map_eq_some_iff]at he;obtain⟨⟨a,b⟩,hx,e⟩:=he;simp only[Prod.mk.injEq]at e;obtain⟨rfl,rfl,rfl⟩:=e
   have hd:∀o∈ops.toList,∀d,o.dst=some d->d < m:=fun o ho d hd=>by
    have:=List.all_eq_true.1 (by simp only[Ua,Bool.and_eq_true]at V6;exact V6.1) o ho;simp only[hd]at this;exact Nat.blt_eq ▸ this
   rw[Virt.exec]
   try dsimp only
   cases draw with
   |true=>
    simp only[if_true]at hx ⊢;obtain⟨vsl',vh',ρ',Z',a1,a2,a3⟩:=hD K m _ _ _ _ hcf hyf (Z5c hC (ih true)) (Z1f hC (ih true)) (Vu.callF (Vu.exec n true)) (Vu.yieldF (Vu.exec n false)) ops Xi Y5 h vh ρ Z _ H S hK hd (by simp only[Ua,Bool.and_eq_true,Bool.not_true,Bool.false_or]at V6;exact V6.2) hx;exact⟨vsl',vh',ρ',Z',by rw[a1];rfl,a2,a3⟩
   |false=>
    simp only[Bool.false_eq_true,if_false]at hx ⊢;obtain⟨vsl',vh',ρ',Z',a1,a2,a3⟩:=Z5h hcf hyf ops.toList H S hK hd hx;exact⟨vsl',vh',ρ',Z',by rw[a1];rfl,a2,a3⟩
  |seq a b=>
   simp only[Ua,Bool.and_eq_true]at V6;rw[Pure.exec]at he
   try dsimp only at he
   rw[Virt.exec]
   try dsimp only
   split at he
   .rename_i Qr h1 hx;obtain⟨Zfd,vh1,ρ1,Z1,a1,a2,a3⟩:=hi _ _ _ _ _ _ _ _ hx V6.1 ρ Z vh Y5 H hK S;rw[a1]
    try dsimp only
    obtain⟨vsl2,V5,ρ2,Z2,b1,b2,b3⟩:=hi _ _ _ _ _ _ _ _ he V6.2 ρ1 Z1 vh1 Zfd a3.hp ⟨hK.1,Nat.le_trans hK.2 a3.next⟩ a2;exact⟨vsl2,V5,ρ2,Z2,b1,b2,a3.trans H b3⟩
   .rename_i Yq;obtain⟨Zfd,vh1,ρ1,Z1,a1,a2,a3⟩:=hi _ _ _ _ _ _ _ _ he V6.1 ρ Z vh Y5 H hK S;rw[a1];cases x with
    |normal=>exact absurd he (Yq _ _)
    |exit id=>exact⟨Zfd,vh1,ρ1,Z1,rfl,a2,a3⟩
    |ret=>exact⟨Zfd,vh1,ρ1,Z1,rfl,a2,a3⟩
  |cond c a b=>
   simp only[Ua,Bool.and_eq_true]at V6;rw[Pure.exec]at he
   try dsimp only at he
   rw[Virt.exec]
   try dsimp only
   split at he
   .rename_i hc;obtain⟨w,h1,h2⟩:=Zk S hc;rw[h1,h2.bool_inv];exact hi _ _ _ _ _ _ _ _ he V6.1 ρ Z vh Y5 H hK S
   .rename_i hc;obtain⟨w,h1,h2⟩:=Zk S hc;rw[h1,h2.bool_inv];exact hi _ _ _ _ _ _ _ _ he V6.2 ρ Z vh Y5 H hK S
   .cases he
  |block id b=>
   rw[Pure.exec]at he
   try dsimp only at he
   rw[Virt.exec]
   try dsimp only
   split at he
   .rename_i id' Qr h1 hx;obtain⟨Zfd,vh1,ρ1,Z1,a1,a2,a3⟩:=hi _ _ _ _ _ _ _ _ hx V6 ρ Z vh Y5 H hK S;rw[a1]
    try dsimp only
    split at he
    .rename_i e;cases he;exact⟨Zfd,vh1,ρ1,Z1,by rw[if_pos e],a2,a3⟩
    .rename_i e;cases he;exact⟨Zfd,vh1,ρ1,Z1,by rw[if_neg e],a2,a3⟩
   .rename_i Yq;obtain⟨Zfd,vh1,ρ1,Z1,a1,a2,a3⟩:=hi _ _ _ _ _ _ _ _ he V6 ρ Z vh Y5 H hK S;rw[a1];cases x with
    |exit id=>exact absurd he (Yq _ _ _)
    |normal=>exact⟨Zfd,vh1,ρ1,Z1,rfl,a2,a3⟩
    |ret=>exact⟨Zfd,vh1,ρ1,Z1,rfl,a2,a3⟩
  |loop b=>
   rw[Pure.exec]at he
   try dsimp only at he
   rw[Virt.exec]
   try dsimp only
   split at he
   .rename_i Qr h1 hx;obtain⟨Zfd,vh1,ρ1,Z1,a1,a2,a3⟩:=hi _ _ _ _ _ _ _ _ hx V6 ρ Z vh Y5 H hK S;rw[a1]
    try dsimp only
    obtain⟨vsl2,V5,ρ2,Z2,b1,b2,b3⟩:=hi _ _ _ _ _ _ _ _ he V6 ρ1 Z1 vh1 _ a3.hp ⟨hK.1,Nat.le_trans hK.2 a3.next⟩ (S.keep a2 (Z23 _ _ _ _ _ _ _ _ a1));exact⟨vsl2,V5,ρ2,Z2,b1,b2,a3.trans H b3⟩
   .rename_i Yq;obtain⟨Zfd,vh1,ρ1,Z1,a1,a2,a3⟩:=hi _ _ _ _ _ _ _ _ he V6 ρ Z vh Y5 H hK S;rw[a1];cases x with
    |normal=>exact absurd he (Yq _ _)
    |exit id=>exact⟨Zfd,vh1,ρ1,Z1,rfl,a2,a3⟩
    |ret=>exact⟨Zfd,vh1,ρ1,Z1,rfl,a2,a3⟩
  |rangeFunc f ps as bd=>
   simp only[Ua,Bool.and_eq_true]at V6;rw[Pure.exec]at he
   try dsimp only at he
   rw[Virt.exec]
   try dsimp only
   split at he
   .rename_i hr;rw[if_pos hr];split at he
    .rename_i g first captured hf
     obtain⟨w,W7,Vj⟩:=Zk S hf;cases Vj with
     |d h=>cases h
     |fn g first captured a' c' r1 r2=>
      rw[W7]
      try dsimp only
      split at he
      .rename_i Xo;split at he
       .rename_i u h2 Zka;have H1:HP C ρ Z vh {h with next:=h.next+1}:=H.sub rfl (fun i x hx=>Nat.lt_succ_of_lt (H.lt i x hx)) rfl (Nat.le_refl _) H.wr
        have Zj4:h.get h.next=none:=by
         cases e:h.get h.next with
         |none=>rfl
         |some y=>exact absurd (H.lt _ _ e) (Nat.lt_irrefl _)
        have hKl:K.lo<=h.next:=by have:=hK.1;have:=hK.2;omega
        have Zx:can K h.next=true:=by unfold can;rw[Bool.or_eq_true,Nat.ble_eq];exact .inl hKl
        have Zafr:∀q,q≠vh.next->(vh.new (.loop Y5 ps.toList as bd)).get q=vh.get q:=fun q hq=>by simp[VH.new,Sx hq]
        have stL:=HP.change (K:=K) (vh':=vh.new (.loop Y5 ps.toList as bd)) (ver':=0) (p:=vh.next) (o:=.loop K Xi ps.toList as bd) H1 (.inl rfl) (i:=h.next) (Nat.lt_succ_self _) Zx (fun Zc o' hh=>by
          have hh':h.get h.next=some (Zc,o'):=hh;rw[Zj4]at hh';cases hh') (by simp[VH.new]) (.inr (Nat.le_refl _)) (by simp[VH.new]) (Nat.le_refl _) (fun hlt=>by omega)
         (fun q hq _=>Zafr q hq) (fun y hy=>by
           have hy':h.get h.next=some y:=hy
           rw[Zj4]at hy';cases hy') (Qs H) (fun q y hq=>by
            by_cases e:q=vh.next
            .subst e;simp[VH.new]
            .rw [Zafr q e]at hq;have:=H.vlt _ _ hq;simp only[VH.new];omega) (fun ρ' vf' _ _ hE=>.loop K m Xi Y5 ps.toList as bd (Qs H) (by simp[VH.new]) (S.mono hE (Vf.le.refl _)) hK.1 hK.2 V6.1 V6.2)
        have Z1i:St C K ρ Z h vh (fun j=>if j=h.next then vh.next else ρ j) Z ({h.put h.next 0 (.loop K Xi ps.toList as bd) with next:=h.next+1}:PH) (vh.new (.loop Y5 ps.toList as bd)):=
         ⟨stL.hp,stL.ext,stL.sig,Nat.le_succ _,stL.vnext,stL.wr,fun i hi=>stL.keep i hi,fun i Zc o S9 ho=>stL.same i Zc o S9 ho,fun i x hx=>stL.plc i x hx,fun i x hx hc=>stL.vkeep i x hx hc,fun q hq hn hi=>stL.vnone q hq hn hi,fun b h1 h2 h3=>stL.low b h1 h2 h3⟩
        have hyv:R C (fun j=>if j=h.next then vh.next else ρ j) (Zp ({h.put h.next 0 (.loop K Xi ps.toList as bd) with next:=h.next+1}:PH)) Z (.yield h.next 0) (.func (.yield vh.next) #[] #[]):=.yield h.next 0 0 vh.next (by simp[Zp,PH.put]) (Nat.le_refl _) (fun _=>by simp);obtain⟨v,V5,ρ2,Z2,q1,q2,q3⟩:=hcf g _ _ _ Zka _ _ _ (a'.toList++[.func (.yield vh.next) #[] #[]]++c'.toList) Z1i.hp ⟨hK.1,Nat.le_succ_of_le hK.2⟩ (((r1.mono Z1i.ext Z1i.sig).append (.cons hyv .nil)).append (r2.mono Z1i.ext Z1i.sig));have q1':Virt.callF C (Virt.exec C n true) g (a'.toList++[Value.func (Fn.yield vh.next) #[] #[]]++c'.toList) (vh.new (.loop Y5 ps.toList as bd))=some (v,V5):=q1;rw[q1']
        try dsimp only
        split at he
        .rename_i K1 Qr ps1 as1 bd1 hl;cases he;have st2:=Z1i.trans H q3
         have Zfj:ρ2 h.next=vh.next:=by
          obtain⟨c1,k1,_,k3⟩:=q3.ext h.next 0 (by simp[Zp,PH.put]);rw[Zv.2 ⟨_,hl⟩]at k1;cases k1;have:=k3 rfl;simpa using this
         cases q3.hp.obj _ _ _ hl with
         |loop K1 n1 Qr Zfd ps1 as1 bd1 z1 g1 s1 k1 b1 d1 d2=>
          rw[Zfj]at g1 z1;rw[g1]
          try dsimp only
          have st3:=Ziw (K:=K) (ob:=.gone) (vo:=none) q3.hp hl hKl (by rw[Zfj];exact z1) fun ρ' vf' _=>.gone (q3.hp.rho_lt hl) (by rw[Zfj];exact z1)
          rw[Zl6,Zfj]at st3;have st4:=st2.trans H st3;exact⟨Y5,_,ρ2,Z2,rfl,S.mono st4.ext st4.sig,st4⟩
        .cases he
       .cases he
      .cases he
    .cases he
   .cases he
  | _=>simp[Pure.exec]at he
end
section
variable {C:Ctx}{cf yf:Nat->List Value->VH->Option (Value×VH)}{pcf:CF}{pyf:YF}{K K':Loc}{n:Nat}{all:List Oper}{Xi:Yw}{Y5:SL}{h:PH}{vh:VH}{ρ:Nat->Nat}{Z:Vf}{o:Oper}{r:PV×PH}
theorem Zaa1 {t:TypeId}{a x:Operand}{m:List Nat×Nat}(ho:o.op=.store t a x)(ht:X9 C K Xi h o=some m)(hc:∀i∈m.1,can K' i=true)(he:Zj C pcf pyf all K Xi h o=some r):Zj C pcf pyf all K' Xi h o=some r:=by
 simp only[X9,ho]at ht;simp only[Zj,ho]at he ⊢;split at he
 .rename_i ty i Zc off v h1 h2 h3;rw[h2,h3]at ht;simp only[Option.some.injEq]at ht;subst ht;split at he
  .rename_i hh;rw[if_pos ⟨hh.1,hh.2.1,hc i (by simp)⟩];exact he
  .cases he
 .rename_i ty i Zc g ix off v0 h1 h2 h3;rw[h2,h3]at ht;simp only[Option.some.injEq]at ht;subst ht;split at he
  .cases he
  .rename_i v h4;split at he
   .rename_i hh;rw[if_pos ⟨hh.1,hh.2.1,hh.2.2.1,hc i (by simp),List.all_eq_true.2 fun j hj=>hc j (by simp[hj])⟩];exact he
   .cases he
 .cases he
theorem Zqm {d g:Nat}{ty:Ty}{k:Nat}{ys:List PV}{s:PV}(hb:K'.base=K.base+d)(hc:∀i Zc g' off len,s=.own i Zc g' off len->can K' i=true){q:PV×PH}(he:Xu K h d g ty k ys s=some q):Xu K' h 0 g ty k ys s=some q:=by
 unfold Xu at he ⊢;split at he
 .rw [hb,Nat.add_zero];exact he
 .rename_i i Zc g' off len
  try dsimp only
  split at he
  .rename_i hh;rw[if_pos ⟨hh.1,hh.2.1,hh.2.2.1,hh.2.2.2.1,hc _ _ _ _ _ rfl⟩];exact he
  .cases he
 .cases he
theorem Z86 {c:Call}{d:Nat}{m:List Nat×Nat}(ho:o.op=.call c)(Wp:c.callee=.builtin .append)(hd:o.dst=some d)(ht:X9 C K Xi h o=some m)(hb:K'.base=K.base+d)(hc:∀i∈m.1,can K' i=true){pcf':CF}{pyf':YF}(he:Zj C pcf pyf all K Xi h o=some r):
  Zj C pcf' pyf' all K' Xi h {o with dst:=some 0}=some r:=by
 simp only[X9,ho,Wp,hd]at ht;simp only[Zj,ho,Wp,hd]at he ⊢;cases hl:c.args.toList with
 |nil=>rw[hl]at ht;cases ht
 |cons x0 rest=>
  rw[hl]at ht he;simp only[W9]at he ⊢
  try dsimp only at ht
  cases h0:Yz Xi x0 with
  |none=>rw[h0]at ht;cases ht
  |some s=>
   rw[h0]at ht he
   have hs:∀i Zc g' off len,s=.own i Zc g' off len->can K' i=true:=by
    rintro i Zc g' off len rfl;simp only[Option.some.injEq]at ht;subst ht;exact hc i (by simp)
   cases hr:W9 Xi rest with
   |none=>rw[hr]at he;cases he
   |some vs=>
    rw[hr]at he;cases vs with
    |nil=>cases he
    |cons x tail=>
     cases tail with
     |cons _ _=>cases he
     |nil=>
      dsimp only at he ⊢;split at he
      .rename_i ts tx dd e1 e2 e3;cases e3;rw[e1,e2];dsimp only;split at he
       .rename_i e hk
        try rw[hk]
        try dsimp only
        split at he
        .rename_i te V4
         try rw[V4]
         try dsimp only
         split at he
         .rename_i k hki
          try rw[hki]
          try dsimp only
          split at he
          .try dsimp only
           rw[hb,Nat.add_zero];exact he
          .cases he
         .rename_i hnk;split at he
          .split at he
           .rename_i hh
            try rw[if_pos hh]
            exact Zqm hb hs he
           .cases he
          .split at he
           .rename_i ys hys
            try rw[hys]
            exact Zqm hb hs he
           .cases he
        .cases he
       .cases he
      .cases he
theorem Zfc {m:List Nat×Nat}{u b:Nat}(hu:Wk (some m) u=true)(hb:b=m.2):can {base:=b,lo:=b,ok:=m.1} u=false:=by
 unfold Wk at hu;simp only[Bool.and_eq_true,Bool.not_eq_true',Nat.blt_eq]at hu;unfold can;rw[Bool.or_eq_false_iff];constructor
 .rw [<- Bool.not_eq_true,Nat.ble_eq];show ¬ b<=u;omega
 .rw [<- Bool.not_eq_true];intro hh;obtain⟨i,hi,hbq⟩:=List.any_eq_true.1 hh;rw[Nat.beq_eq]at hbq;subst hbq;have:=hu.1;rw[<- Bool.not_eq_true]at this;exact this (List.any_eq_true.2 ⟨u,hi,Nat.beq_refl u⟩)
theorem Z0p {m:List Nat}{b i:Nat}(hi:i∈m):can {base:=b,lo:=b,ok:=m} i=true:=by
 unfold can;rw[Bool.or_eq_true];exact .inr (List.any_eq_true.2 ⟨i,hi,Nat.beq_refl i⟩)
theorem Zlr (hts:Zeu C pcf cf)(H:HP C ρ Z vh h)(S:SR C ρ (Zp h) Z Xi Y5)(hn:K.base+n<=h.next)(hd:∀d,o.dst=some d->d < n)(he:Zj C pcf pyf all K Xi h o=some r){w:Value}{vh1:VH}(X8:Xs C cf yf Y5 vh o=some (w,vh1))
  {u:Nat} (hu:Wk (X9 C K Xi h o) u=true) (hx:∃x,h.get u=some x):vh1.get (ρ u)=vh.get (ρ u)/\r.2.get u=h.get u:=by
 obtain⟨x,hx⟩:=hx;cases ht:X9 C K Xi h o with
 |none=>rw[ht]at hu;cases hu
 |some m=>
  rw[ht]at hu;cases ho:o.op with
  |store t a y=>
   have hm2:m.2=h.next:=by
    simp only[X9,ho]at ht;split at ht
    .cases ht;rfl
    .cases ht;rfl
    .cases ht
   obtain⟨v,vh',ρ',Z',q1,q2,q3⟩:=Zpa (K:={base:=m.2,lo:=m.2,ok:=m.1}) (cf:=cf) (yf:=yf) H S ho (Zaa1 (K':={base:=m.2,lo:=m.2,ok:=m.1}) ho ht (fun i hi=>Z0p hi) he);rw[X8]at q1;cases q1;exact⟨q3.vkeep u x hx (Zfc hu rfl),q3.keep u (Zfc hu rfl)⟩
  |call c=>
   cases Wp:c.callee with
   |builtin b=>
    cases b with
    |append=>
     cases hdd:o.dst with
     |none=>
      simp only[X9,ho,Wp,hdd]at ht;split at ht
      .rename_i hh;cases hh
      .cases ht
     |some d=>
      have hm2:m.2=K.base+d:=by
       simp only[X9,ho,Wp,hdd]at ht;split at ht
       .rename_i hh;cases hh;split at ht
        .cases ht;rfl
        .cases ht;rfl
        .cases ht
       .cases ht
      have hK1:m.2+1<=h.next:=by
       have h9:=hd d hdd;rw[hm2];exact Nat.le_trans (Nat.add_le_add_left (Nat.succ_le_of_lt h9) K.base) hn
      have hop':Xs C cf yf Y5 vh {o with dst:=some 0}=some (w,vh1):=X8;have he':=Z86 (K':={base:=m.2,lo:=m.2,ok:=m.1}) (pcf':=fun _ _ _ _=>none) (pyf':=fun _ _ _ _ _=>none) ho Wp hdd ht hm2 (fun i hi=>Z0p hi) he;obtain⟨v,vh',ρ',Z',q1,q2,q3⟩:=Zvx (K:={base:=m.2,lo:=m.2,ok:=m.1}) (n:=1) (cf:=cf) (yf:=yf) (pcf:=fun _ _ _ _=>none) (pyf:=fun _ _ _ _ _=>none) (o:={o with dst:=some 0}) (fun _ _ _ _ hh=>by cases hh) (fun _ _ _ _ _ hh=>by cases hh) H S ⟨Nat.le_refl _,hK1⟩ (fun d' hd'=>by cases hd';exact Nat.zero_lt_one) ho he';rw[hop']at q1;cases q1;exact⟨q3.vkeep u x hx (Zfc hu rfl),q3.keep u (Zfc hu rfl)⟩
    | _=>simp only[X9,ho,Wp]at ht;cases ht
   |invoke a b=>simp only[X9,ho,Wp]at ht;cases ht
   |value f=>
    simp only[X9,ho,Wp]at ht;split at ht
    .rename_i g first captured args hf Xz
     split at ht
     .cases ht
     .rename_i Xo;split at ht
      .rename_i args' hm;cases ht;simp only[Zj,ho,Xz,Wp,hf]at he;obtain⟨Wl,Rp,Ry⟩:=Sd S Xz;obtain⟨w0,W7,Vj⟩:=Zk S hf;cases Vj with
       |d h=>cases h
       |fn g a c2 a' c' r1 r2=>
        simp only[Xs,ho,U6,Rp,Wp,W7]at X8;refine hts K g _ h r.1 r.2 he (by simpa using Xo) args' hm ρ Z vh _ H ((r1.append Ry).append r2) w vh1 X8 u ?_ ⟨x,hx⟩;intro hh;unfold Wk at hu;simp only[Bool.and_eq_true,Bool.not_eq_true']at hu;have:=hu.1;rw[<- Bool.not_eq_true]at this;exact this (List.any_eq_true.2 ⟨u,hh,Nat.beq_refl u⟩)
      .cases ht
    .cases ht
  | _=>simp only[X9,ho]at ht;cases ht
end
end Go.Pure
end
