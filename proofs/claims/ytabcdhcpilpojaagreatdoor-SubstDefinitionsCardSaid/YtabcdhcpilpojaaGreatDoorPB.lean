/- Rows that are written no more; slices as plain lists. -/
import Derived.Test.YtabcdhcpilpojaaGreatDoorPF
import Derived.Test.YtabcdhcpilpojaaGreatDoorPA
import Derived.Test.YtabcdhcpilpojaaGreatDoorVB
set_option linter.unusedSimpArgs false
set_option linter.unusedVariables false
section
namespace Go.Pure
open Go Go.Virt
section
variable {C:Ctx}{Z Z':Vg}{ρ YB:Nat->Nat}{vf vf':Nat->Option Nat}{h h':PH}{vh vh':VH}{K:Loc}{n:Nat}{Xe:Yt}{Yw:SL}{o:Oper}{x:PV}{all:List Oper}
theorem Ti (ids:List Nat)(h:PH):Zl (h.freeze ids)=Zl h:=by
 funext j;unfold Zl;rw[Y7];split
 .rename_i ver g own xs hj;rw[hj];split<;>rfl
 .rfl
structure Frz (C:Ctx)(bt:Bool)(ρ:Nat->Nat)(Z:Vg)(h:PH)(vh:VH)(ids:List Nat)(Z':Vg):Prop where
 hp:HP C ρ Z' vh (h.freeze ids)
 le:∀Zv s,Z Zv=some s->Z' Zv=some s
 new:∀Zv s,Z' Zv=some s->Z Zv=some s\/(Z Zv=none/\∃i∈ids,∃ver g xs,h.get i=some (ver,.row g true xs)/\Zv=ρ i/\s.tag=if bt then some g else none)
theorem Frz.sig {bt:Bool}{ids:List Nat}(f:Frz C bt ρ Z h vh ids Z'):Z.le Z':=f.le
theorem frz1 (bt:Bool)(H:HP C ρ Z vh h){i ver g:Nat}{own:Bool}{xs:List PV}(hi:h.get i=some (ver,.row g own xs)):
  ∃Z',HP C ρ Z' vh (h.put i ver (.row g false xs))/\(∀Zv s,Z Zv=some s->Z' Zv=some s)/\∀Zv s,Z' Zv=some s->Z Zv=some s\/(Z Zv=none/\own=true/\Zv=ρ i/\s.tag=if bt then some g else none):=by
 have ho:=H.obj _ _ _ hi
 have hvf:Zl (h.put i ver (.row g false xs))=Zl h:=by
  funext j;unfold Zl PH.put;by_cases e:j=i
  .subst e;simp[hi]
  .simp [e]
 cases own with
 |false=>
  have:h.put i ver (.row g false xs)=h:=by
   unfold PH.put
   have:(fun j=>if j=i then some (ver,PO.row g false xs) else h.get j)=h.get:=by
    funext j;by_cases e:j=i
    .subst e;simp[hi]
    .simp [e]
   rw[this]
  rw[this];exact⟨Z,H,fun _ _ h=>h,fun _ _ h=>.inl h⟩
 |true=>
  cases ho with
  |row g xs Wi ty ht hz hg hr hl=>
   let Z1:Vg:=fun q=>if q=ρ i then some ⟨Wi,ty.size,true,if bt then some g else none⟩ else Z q
   have hle:∀Zv s,Z Zv=some s->Z1 Zv=some s:=fun Zv s hs=>by
    have:Zv≠ρ i:=fun e=>by rw[e,hz]at hs;cases hs
    simp[Z1,this,hs]
   have Z39:Z.le Z1:=hle;refine⟨Z1,⟨?_,?_,H.vlt,?_,?_,H.wr⟩,hle,?_⟩
   .intro j x hj;by_cases e:j=i
    .subst e;exact H.lt _ _ hi
    .simp [PH.put,e]at hj;exact H.lt _ _ hj
   .intro j k x y hj hk e;by_cases e1:j=i<;>by_cases e2:k=i
    .rw [e1,e2]
    .subst e1;simp[PH.put,e2]at hk;exact H.inj _ _ _ _ hi hk e
    .subst e2;simp[PH.put,e1]at hj;exact H.inj _ _ _ _ hj hi e
    .simp [PH.put,e1,e2]at hj hk;exact H.inj _ _ _ _ hj hk e
   .intro Zv s hs;by_cases e:Zv=ρ i
    .simp only [Z1,e,if_true,Option.some.injEq]at hs;subst hs;rw[e];exact hg
    .simp only [Z1,e,if_false]at hs;exact H.sig _ _ hs
   .intro j w ob hj;rw[hvf];by_cases e:j=i
    .subst e;simp only[PH.put,if_true,Option.some.injEq,Prod.mk.injEq]at hj;obtain⟨rfl,rfl⟩:=hj;exact .frozen g xs ⟨Wi,ty.size,true,if bt then some g else none⟩ ty ht (by simp[Z1]) rfl (by cases bt<;>simp) (hr.mono Z39) hl
    .simp only [PH.put,e,if_false]at hj;have Yn:ρ j≠ρ i:=fun h2=>e (H.inj _ _ _ _ hj hi h2)
     exact (H.obj _ _ _ hj).mono (Rm.refl _ _) Z39 (fun hq=>by simp[Z1,Yn,hq]) (fun _=>rfl) (Nat.le_refl _) (Nat.le_refl _)
   .intro Zv s hs;by_cases e:Zv=ρ i
    .simp only [Z1,e,if_true,Option.some.injEq]at hs;subst hs;rw[e];exact .inr ⟨hz,rfl,rfl,rfl⟩
    .simp only [Z1,e,if_false]at hs;exact .inl hs
theorem frz (bt:Bool):∀(ids:List Nat) {Z:Vg} {h:PH},HP C ρ Z vh h->∃Z',Frz C bt ρ Z h vh ids Z'
 | [],Z,h,H=>⟨Z,H,fun _ _ h=>h,fun _ _ h=>.inl h⟩
 |i::r,Z,h,H=>by
  by_cases hi:∃ver g own xs,h.get i=some (ver,.row g own xs)
  .obtain ⟨ver,g,own,xs,hi⟩:=hi;obtain⟨Z1,H1,l1,n1⟩:=frz1 bt H hi;obtain⟨Z2,f2⟩:=frz bt r H1;refine⟨Z2,by simp only[PH.freeze,hi];exact f2.hp,fun Zv s hs=>f2.le _ _ (l1 _ _ hs),fun Zv s hs=>?_⟩;rcases f2.new _ _ hs with h1 | ⟨h1,j,hj,Zyk,g2,xs2,hg,e,ht⟩
   .rcases n1 _ _ h1 with h2 | ⟨h2,h3,h4,h5⟩
    .exact .inl h2
    .subst h3;exact .inr ⟨h2,i,by simp,ver,g,xs,hi,h4,h5⟩
   .have hji:j≠i:=fun e=>by subst e;simp[PH.put]at hg
    simp only[PH.put,hji,if_false]at hg;refine .inr ⟨?_,j,by simp[hj],Zyk,g2,xs2,hg,e,ht⟩;cases hq:Z Zv with
    |none=>rfl
    |some s'=>rw[l1 _ _ hq]at h1;cases h1
  .obtain ⟨Z2,f2⟩:=frz bt r H
   have e:h.freeze (i::r)=h.freeze r:=by
    simp only[PH.freeze];split
    .rename_i ver g own xs hq;exact absurd ⟨_,_,_,_,hq⟩ hi
    .rfl
   refine⟨Z2,by rw[e];exact f2.hp,f2.le,fun Zv s hs=>?_⟩;rcases f2.new _ _ hs with h1 | ⟨h1,j,hj,q⟩
   .exact .inl h1
   .exact .inr ⟨h1,j,by simp[hj],q⟩
theorem St.frz {ids:List Nat}(H:HP C ρ Z vh h)(f:Frz C false ρ Z h vh ids Z')(hc:ids.all (can K)=true):St C K ρ Z h vh ρ Z' (h.freeze ids) vh where
 hp:=f.hp
 ext:=by rw[Ti];exact Rm.refl _ _
 sig:=f.sig
 next:=by rw[Xm];exact Nat.le_refl _
 vnext:=Nat.le_refl _
 wr:=Nat.le_refl _
 keep:=fun i hi=>by
  rw[Y7];split
  .rename_i ver g own xs hj;rw[if_neg,hj];intro hm;rw[List.all_eq_true.1 hc i hm]at hi;cases hi
  .rfl
 same:=fun i ver o _ ho=>by
  rw[Y7,ho];cases o with
  |row g own xs=>
   by_cases hm:i∈ids
   .exact .inr (.inl ⟨g,own,xs,rfl,by simp[hm]⟩)
   .exact .inl (by simp[hm])
  | _=>exact .inl rfl
 plc:=fun i x hx=>by
  rw[Y7]at hx;refine .inl ⟨?_,rfl⟩;cases hq:h.get i with
  |none=>rw[hq]at hx;cases hx
  |some y=>exact⟨y,rfl⟩
 vkeep:=fun _ _ _ _=>rfl
 vnone:=fun _ _ h _=>h
 low:=fun _ _ h _=>h
theorem R9 {i ver g:Nat}{r:Bool×List PV}:h.row i ver g=some r↔h.get i=some (ver,.row g r.1 r.2):=by
 unfold PH.row;constructor
 .intro hh;split at hh
  .rename_i v g' own xs hi;split at hh
   .rename_i hc;cases hh;rw[hi,hc.1,hc.2]
   .cases hh
  .cases hh
 .intro hh;rw[hh];simp
theorem Zadp (H:HP C ρ Z vh h){i ver g off len:Nat}{xs:List PV}{v:Value}(hi:h.get i=some (ver,.row g false xs))(hl:off+len<=xs.length)(hr:R C ρ (Zl h) Z (.own i ver g off len) v):RD C Z (.lst g ((xs.drop off).take len)) v:=by
 cases hr with
 |d h=>cases h
 |own i ver g off len c a cap ty hc hv hp ht ha=>
  rw[Zr.2 ⟨_,hi⟩]at hc;cases hc;cases ha rfl;cases H.obj _ _ _ hi with
  |frozen g xs s ty2 ht2 hs he Z8s hrr Rc=>
   rw[ht]at ht2;cases ht2;have hlen:((xs.drop off).take len).length=len:=by simp;omega
   have Un:=U6 Rc
   have h1:X3 (xs.flatMap Zc) (off*ty.size) (len*ty.size)=some (((xs.drop off).take len).flatMap Zc):=by
    unfold X3;rw[if_pos (by rw[Un,<- Nat.add_mul];exact Nat.mul_le_mul_right _ hl),Zcr Rc,flat_take fun x hx=>Rc x (List.drop_subset _ _ hx)]
   obtain⟨r',h2,h3⟩:=hrr.read h1;have:=RD.lst g ((xs.drop off).take len) (ρ i) (off*ty.size) cap s r' ty hs he Z8s ht (by rw[hlen];exact h2) h3 (fun x hx=>Rc x (List.drop_subset _ _ (List.take_subset _ _ hx)));rw[hlen]at this;exact this
theorem Zv6 {h3:PH}(H3:HP C ρ Z vh h3)(hf:∀i ver g own xs,i∈Zc7 x->h.get i=some (ver,.row g own xs)->h3.get i=some (ver,.row g false xs)){v:Value}{y:PV}(hi:Zc9 h x=some y)(hr:R C ρ (Zl h3) Z x v):R C ρ (Zl h3) Z y v:=by
 cases x with
 |own i ver g off len=>
  simp only[Zc9,Option.map_eq_some_iff]at hi;obtain⟨ys,hys,rfl⟩:=hi;simp only[PH.elems,if_true]at hys;split at hys
  .rename_i own xs V6;split at hys
   .rename_i hl;cases hys;have:=R9.1 V6;exact .d (Zadp H3 (hf _ _ _ _ _ (by simp[Zc7]) this) hl hr)
   .cases hys
  .cases hys
 | _=>simp only[Zc9,Option.some.injEq]at hi;subst hi;exact hr
theorem Zvx {f:PV->Option PV}{P:PV->Prop}{cs ys:List PV}{vs:List Value}(hf:∀x∈cs,∀y v,f x=some y->R C ρ vf Z x v->R C ρ vf Z y v)(h:W2 f cs=some ys)(hr:Rs C ρ vf Z cs vs):Rs C ρ vf Z ys vs:=by
 induction cs generalizing ys vs with
 |nil=>simp only[W2,Option.some.injEq]at h;subst h;exact hr
 |cons c cs ih=>
  simp only[W2]at h;split at h
  .rename_i y ys' hy hys;cases h;cases hr with | cons h1 r=>exact .cons (hf c (by simp) _ _ hy h1) (ih (fun x hx=>hf x (by simp[hx])) hys r)
  .cases h
theorem Zadq (hx:∀cs,x≠.agg cs):ownV x=Zc7 x/\∀h,inlV h x=Zc9 h x:=by
 cases x<;>first | exact⟨rfl,fun _=>rfl⟩ | exact absurd rfl (hx _)
theorem Zadr (hx:∀cs,x≠.tuple cs):ownT x=ownV x/\∀h,inlT h x=inlV h x:=by
 cases x<;>first | exact⟨rfl,fun _=>rfl⟩ | exact absurd rfl (hx _)
theorem Zik {h3:PH}(H3:HP C ρ Z vh h3)(hf:∀i ver g own xs,i∈ownV x->h.get i=some (ver,.row g own xs)->h3.get i=some (ver,.row g false xs)){v:Value}{y:PV}(hi:inlV h x=some y)(hr:R C ρ (Zl h3) Z x v):R C ρ (Zl h3) Z y v:=by
 by_cases hx:∃cs,x=.agg cs
 .obtain ⟨cs,rfl⟩:=hx;simp only[inlV,Option.map_eq_some_iff]at hi;obtain⟨ys,hys,rfl⟩:=hi;obtain⟨cs',rfl,hcs⟩:=hr.agg_inv;refine .agg _ _ (Zvx (P:=fun _=>True) (fun c hc y v hy hv=>Zv6 H3 (fun i ver g own xs hm=>hf i ver g own xs ?_) hy hv) hys hcs);simp only[ownV,List.mem_flatMap];exact⟨c,hc,hm⟩
 .obtain ⟨e1,e2⟩:=Zadq (x:=x) fun cs e=>hx ⟨cs,e⟩
  rw[e2]at hi;rw[e1]at hf;exact Zv6 H3 hf hi hr
theorem Z8b {h3:PH}(H3:HP C ρ Z vh h3)(hf:∀i ver g own xs,i∈ownT x->h.get i=some (ver,.row g own xs)->h3.get i=some (ver,.row g false xs)){v:Value}{y:PV}(hi:inlT h x=some y)(hr:R C ρ (Zl h3) Z x v):R C ρ (Zl h3) Z y v:=by
 by_cases hx:∃cs,x=.tuple cs
 .obtain ⟨cs,rfl⟩:=hx;simp only[inlT,Option.map_eq_some_iff]at hi;obtain⟨ys,hys,rfl⟩:=hi;obtain⟨cs',rfl,hcs⟩:=hr.tuple_inv;refine .tuple _ _ (Zvx (P:=fun _=>True) (fun c hc y v hy hv=>Zik H3 (fun i ver g own xs hm=>hf i ver g own xs ?_) hy hv) hys hcs);simp only[ownT,List.mem_flatMap];exact⟨c,hc,hm⟩
 .obtain ⟨e1,e2⟩:=Zadr (x:=x) fun cs e=>hx ⟨cs,e⟩
  rw[e2]at hi;rw[e1]at hf;exact Zik H3 hf hi hr
theorem Zl7 {ids:List Nat}{i ver g:Nat}{own:Bool}{xs:List PV}(hm:i∈ids)(hi:h.get i=some (ver,.row g own xs)):(h.freeze ids).get i=some (ver,.row g false xs):=by
 rw[Y7,hi];simp[hm]
theorem Zvf (H:HP C ρ Z vh h){g:Nat}{xs:List PV}{Wi:List Value}{ty:Ty}(ht:C.T g=some ty)(hr:RDs C Z (xs.flatMap Zc) Wi)(hl:∀x∈xs,(Zc x).length=ty.size):
  ∃Z',St C K ρ Z h vh ρ Z' h (vh.new (.row Wi ty.size true))/\RD C Z' (.lst g xs) (.slice (some ⟨vh.next,0,none⟩) xs.length xs.length)/\∀q s,Z' q=some s->Z q=some s\/q=vh.next:=by
 have hzn:Z vh.next=none:=by
  cases e:Z vh.next with
  |none=>rfl
  |some s=>exact absurd (H.vlt _ _ (H.sig _ _ e)) (Nat.lt_irrefl _)
 have Zk:∀q,q≠vh.next->(vh.new (.row Wi ty.size true)).get q=vh.get q:=fun q hq=>by simp[VH.new,S9 hq]
 let Z1:Vg:=fun q=>if q=vh.next then some ⟨Wi,ty.size,true,none⟩ else Z q
 have hle:∀Zv s,Z Zv=some s->Z1 Zv=some s:=fun Zv s hs=>by
  have:Zv≠vh.next:=fun e=>by rw[e,hzn]at hs;cases hs
  simp[Z1,this,hs]
 have Z39:Z.le Z1:=hle;have hlt:∀i x,h.get i=some x->ρ i≠vh.next:=fun i x hi=>by have:=H.rho_lt hi;omega
 refine⟨Z1,⟨⟨H.lt,H.inj,?_,?_,?_,?_⟩,Rm.refl _ _,Z39,Nat.le_refl _,by simp[VH.new],Nat.le_refl _,fun _ _=>rfl,fun _ _ _ _ h=>.inl h,fun i x hx=>.inl ⟨⟨x,hx⟩,rfl⟩,fun i x hx _=>Zk _ (hlt i x hx),fun q hq hn _=>by rw[Zk q (by omega)];exact hn,fun _ _ h2 _=>h2⟩,?_,?_⟩
 .intro q y hq;by_cases e:q=vh.next
  .subst e;simp[VH.new]
  .rw [Zk q e]at hq;have:=H.vlt _ _ hq;simp only[VH.new];omega
 .intro q s hq;by_cases e:q=vh.next
  .simp only [Z1,e,if_true,Option.some.injEq]at hq;subst hq;rw[e];simp[VH.new]
  .simp only [Z1,e,if_false]at hq;rw[Zk q e];exact H.sig _ _ hq
 .intro i ver ob hi;exact (H.obj _ _ _ hi).mono (Rm.refl _ _) Z39 (fun hq=>by simp[Z1,hlt i _ hi,hq]) (fun _=>Zk _ (hlt i _ hi)) (Nat.le_refl _) (by simp[VH.new])
 .have:=H.wr;simp only[VH.new];omega
 .refine .lst g xs vh.next 0 xs.length ⟨Wi,ty.size,true,none⟩ Wi ty (by simp[Z1]) rfl (.inl rfl) ht ?_ (hr.mono Z39) hl;have Un:=U6 hl;rw[Tg];have hvl:Wi.length=xs.length*ty.size:=by rw[hr.length];exact Un
  refine⟨?_,.inl (by simp[hvl])⟩;simp[<- hvl]
 .intro q s hq;by_cases e:q=vh.next
  .exact .inr e
  .simp only [Z1,e,if_false]at hq;exact .inl hq
end
section
variable {C:Ctx}{Z Z':Vg}{ρ YB:Nat->Nat}{vf vf':Nat->Option Nat}{h h':PH}{vh vh':VH}{K:Loc}{n:Nat}{Xe:Yt}{Yw:SL}{o:Oper}{x:PV}{all:List Oper}
theorem Zm1 (H:HP C ρ Z vh h){i ver g:Nat}{own:Bool}{xs:List PV}(hi:h.get i=some (ver,.row g own xs)):
  ∃ty Wi b,C.T g=some ty/\vh.get (ρ i)=some (.row Wi ty.size b)/\RDs C Z (xs.flatMap Zc) Wi/\(∀x∈xs,(Zc x).length=ty.size)/\(own=true->b=true/\Z (ρ i)=none):=by
 cases H.obj _ _ _ hi with
 |row g xs Wi ty ht hz hg hr hl=>exact⟨ty,Wi,true,ht,hg,hr,hl,fun _=>⟨rfl,hz⟩⟩
 |frozen g xs s ty ht hs he Z8s hr hl=>exact⟨ty,s.cells,s.own,ht,by rw[H.sig _ _ hs,he],hr,hl,fun e=>by cases e⟩
theorem R.own_inv {i ver g off len:Nat}{v:Value}{ob:PO}(hr:R C ρ (Zl h) Z (.own i ver g off len) v)(hi:h.get i=some (ver,ob)):∃ty cap,C.T g=some ty/\v=.slice (some ⟨ρ i,off*ty.size,none⟩) len cap:=by
 cases hr with
 |d h=>cases h
 |own i ver g off len c a cap ty hc hv hp ht ha=>
  rw[Zr.2 ⟨_,hi⟩]at hc;cases hc;cases ha rfl;exact⟨ty,cap,ht,rfl⟩
theorem R.ptr_inv {i ver off:Nat}{v:Value}{ob:PO}(hr:R C ρ (Zl h) Z (.ptr i ver off) v)(hi:h.get i=some (ver,ob)):v=.pointer (some ⟨ρ i,off,none⟩):=by
 cases hr with
 |d h=>cases h
 |ptr i ver off c a hc hv hp ha=>
  rw[Zr.2 ⟨_,hi⟩]at hc;cases hc;cases ha rfl;rfl
theorem R.eptr_inv {i ver g ix off:Nat}{v:Value}{ob:PO}(hr:R C ρ (Zl h) Z (.eptr i ver g ix off) v)(hi:h.get i=some (ver,ob)):∃ty,C.T g=some ty/\v=.pointer (some ⟨ρ i,ix*ty.size+off,none⟩):=by
 cases hr with
 |d h=>cases h
 |eptr i ver g ix off c a ty hc hv hp ht ha=>
  rw[Zr.2 ⟨_,hi⟩]at hc;cases hc;cases ha rfl;exact⟨ty,ht,rfl⟩
theorem R.map_inv {i ver:Nat}{v:Value}{ob:PO}(hr:R C ρ (Zl h) Z (.map i ver) v)(hi:h.get i=some (ver,ob)):v=.map (some (ρ i)):=by
 cases hr with
 |d h=>cases h
 |map i ver c w hc hv ha=>
  rw[Zr.2 ⟨_,hi⟩]at hc;cases hc;rw[ha rfl]
theorem Zrj (H:HP C ρ Z vh h){g:Nat}{ty:Ty}(hT:C.T g=some ty){v:Value}(hr:R C ρ (Zl h) Z x v){ys:List PV}(he:h.elems g x=some ys):
  Zsk v=some ys.length/\∃Wi,vh.elems ty.size v=some Wi/\RDs C Z (ys.flatMap Zc) Wi/\∀y∈ys,(Zc y).length=ty.size:=by
 cases x with
 |nils=>
  simp only[PH.elems,Option.some.injEq]at he;subst he;rw[hr.nils_inv];exact⟨rfl,[],rfl,.nil,fun y hy=>by simp at hy⟩
 |lst g' xs=>
  simp only[PH.elems]at he;split at he
  .rename_i e;cases he;subst e;cases hr.lst_inv with
   |lst g xs Zv o cap s Wi ty2 hs he2 ht Q8 hrr hx hl=>
    rw[hT]at Q8;cases Q8;refine⟨rfl,Wi,?_,hx,hl⟩;simp only[VH.elems,VH.load,H.sig _ _ hs,Option.isSome_none,Bool.false_eq_true,if_false,hrr]
  .cases he
 |own i ver g' off len=>
  simp only[PH.elems]at he;split at he
  .rename_i e;subst e;split at he
   .rename_i own xs V6;split at he
    .rename_i hl;cases he;have hi:=R9.1 V6;obtain⟨ty1,cap,h1,rfl⟩:=hr.own_inv hi;obtain⟨ty2,Wi,b,h2,hg,hrr,Rc,_⟩:=Zm1 H hi;rw[hT]at h1 h2;cases h1;cases h2;have hlen:((xs.drop off).take len).length=len:=by simp;omega
     have Un:=U6 Rc
     have h1:X3 (xs.flatMap Zc) (off*ty.size) (len*ty.size)=some (((xs.drop off).take len).flatMap Zc):=by
      unfold X3;rw[if_pos (by rw[Un,<- Nat.add_mul];exact Nat.mul_le_mul_right _ hl),Zcr Rc,flat_take fun x hx=>Rc x (List.drop_subset _ _ hx)]
     obtain⟨r',h2,h3⟩:=hrr.read h1;refine⟨by rw[hlen];rfl,r',?_,h3,fun y hy=>Rc y (List.drop_subset _ _ (List.take_subset _ _ hy))⟩;simp only[VH.elems,VH.load,hg,Option.isSome_none,Bool.false_eq_true,if_false,h2]
    .cases he
   .cases he
  .cases he
 | _=>simp[PH.elems]at he
theorem Zh1 (H:HP C ρ Z vh h){i ver:Nat}{ob0 ob:PO}{vo:VO}(hi:h.get i=some (ver,ob0))(hc:can K i=true)(hz:Z (ρ i)=none)
  (ho:∀YB vf',Rm ρ (Zl h) YB vf'->OR C YB vf' Z h.next ((vh.put (ρ i) (some vo)).note (ρ i)) i (ρ i) ob):
  St C K ρ Z h vh (fun j=>if j=i then ρ i else ρ j) Z (h.put i ver ob) ((vh.put (ρ i) (some vo)).note (ρ i)):=by
 refine HP.change H (.inr ⟨rfl,_,hi⟩) (H.lt _ _ hi) hc (fun w o' hw=>?_) (H.rho_lt hi) (.inl ⟨_,hi,rfl⟩) (Nat.le_refl _) (Nat.min_le_left _ _) (fun _ _=>Nat.min_le_right _ _) (fun q hq _=>?_) (fun _ _=>.inl hz) hz (fun q y hq=>?_) (fun YB vf' _ _ he=>ho YB vf' he)
 .rw [hi]at hw;cases hw;exact⟨Nat.le_refl _,fun _=>rfl⟩
 .simp [VH.note,VH.put,S9 hq]
 .by_cases e:q=ρ i
  .subst e;exact H.rho_lt hi
  .simp only [VH.note,VH.put,S9 e,cond_false]at hq;exact H.vlt _ _ hq
theorem Zse {p:Nat}{vo:VO}:((vh.put p (some vo)).note p).get p=some vo:=by simp[VH.note,VH.put]
def Z0v (C:Ctx)(ρ:Nat->Nat)(Z:Vg)(h:PH)(vh:VH)(x:PV)(h':PH)(r:Option (Value×VH)):Prop:=h'=h/\∃v,r=some (v,vh)/\R C ρ (Zl h) Z x v
theorem Z0v.up {x:PV}{h':PH}{r:Option (Value×VH)}(H:HP C ρ Z vh h)(s:Z0v C ρ Z h vh x h' r):Zf0 C K ρ Z h vh x h' r:=by
 obtain⟨rfl,v,h1,h2⟩:=s;exact⟨v,vh,ρ,Z,h1,h2,St.refl H⟩
theorem Zni {t:TypeId}{y:Operand}{cf yf:Nat->List Value->VH->Option (Value×VH)}{pcf:CF}{pyf:YF}(H:HP C ρ Z vh h)(S:SR C ρ (Zl h) Z Xe Yw)(ho:o.op=.load t y){r:PV×PH}(he:Zf C pcf pyf all K Xe h o=some r):
  Z0v C ρ Z h vh r.1 r.2 (Xp C cf yf Yw vh o):=by
 simp only[Zf,ho]at he;split at he
 .rename_i ty i ver off ht hy;obtain⟨w,W8,Vk⟩:=Zj S hy;split at he
  .rename_i v cs hi;split at he
   .rename_i e;subst e;rw[Option.map_eq_some_iff]at he;obtain⟨z,hz,rfl⟩:=he;rw[Option.bind_eq_some_iff]at hz;obtain⟨q,hq,hz⟩:=hz;have hw:=Vk.ptr_inv hi;subst hw;cases H.obj _ _ _ hi with
    |cells cs Wi e2 hzz hg hr=>
     obtain⟨q',h1,h2⟩:=hr.read hq;obtain⟨z',h3,h4⟩:=Zhr h2 hz;refine⟨rfl,z',?_,h4⟩;simp only[Xp,ho,ht,W8,Option.isSome_none,Bool.false_eq_true,if_false,VH.load,hg,h1,Option.bind_some,h3,Option.map_some]
   .cases he
  .cases he
 .rename_i ty i ver g ix off ht hy;obtain⟨w,W8,Vk⟩:=Zj S hy;split at he
  .rename_i own xs V6;have hi:=R9.1 V6;split at he
   .rename_i el hel;rw[Option.map_eq_some_iff]at he;obtain⟨z,hz,rfl⟩:=he;rw[Option.bind_eq_some_iff]at hz;obtain⟨q,hq,hz⟩:=hz;obtain⟨ty1,h1,rfl⟩:=Vk.eptr_inv hi;obtain⟨ty2,Wi,b,h2,hg,hrr,Rc,_⟩:=Zm1 H hi;rw[h1]at h2;cases h2;obtain⟨hlt,hx⟩:=List.getElem?_eq_some_iff.1 hel;have hxl:(Zc el).length=ty1.size:=Rc el (by rw[<- hx];exact List.getElem_mem hlt);have hle:ix*ty1.size+ty1.size<=xs.length*ty1.size:=by rw[<- Nat.succ_mul];exact Nat.mul_le_mul_right _ hlt
    have h3:X3 (xs.flatMap Zc) (ix*ty1.size) ty1.size=some (Zc el):=by
     unfold X3;rw[if_pos (by rw[U6 Rc];exact hle),Zoe Rc hel]
    obtain⟨r1,h4,h5⟩:=hrr.read h3;obtain⟨r2,h6,h7⟩:=h5.read hq;obtain⟨z',h8,h9⟩:=Zhq h7 hz
    have Zzo:off+ty.size<=ty1.size:=by
     unfold X3 at hq;split at hq
     .rename_i hq2;rw[hxl]at hq2;exact hq2
     .cases hq
    refine⟨rfl,z',?_,.d h9⟩;simp only[Xp,ho,ht,W8,Option.isSome_none,Bool.false_eq_true,if_false,VH.load,hg,Qd h4 h6 Zzo,Option.bind_some,h8,Option.map_some]
   .cases he
  .cases he
 .cases he
theorem Zyg {cs:List PV}{off:Nat}{vs cs2:List PV}:∀ {cs' Qs:List Value},RDs C Z cs cs'->RDs C Z vs Qs->Yp cs off vs=some cs2->∃Zol,Wg cs' off Qs=some Zol/\RDs C Z cs2 Zol:=by
 induction cs generalizing off vs cs2 with
 |nil=>
  intro cs' Qs h1 h2 h;cases vs with
  |nil=>simp only[Yp,Option.some.injEq]at h;subst h;cases h2;cases h1;exact⟨[],rfl,.nil⟩
  |cons v vs=>simp[Yp]at h
 |cons c cs ih=>
  intro cs' Qs h1 h2 h;cases vs with
  |nil=>
   have:Yp (c::cs) off []=some (c::cs):=by cases off<;>rfl
   rw[this]at h;cases h;cases h2;exact⟨cs',by cases cs'<;>cases off<;>rfl,h1⟩
  |cons v vs=>
   cases h1 with
   |cons g r=>
    cases h2 with
    |cons g2 r2=>
     cases off with
     |zero=>
      simp only[Yp,Option.map_eq_some_iff]at h;obtain⟨w,hw,rfl⟩:=h;obtain⟨w',h3,h4⟩:=ih r r2 hw;exact⟨_,by simp only[Wg,h3,Option.map_some],.cons g2 h4⟩
     |succ i=>
      simp only[Yp,Option.map_eq_some_iff]at h;obtain⟨w,hw,rfl⟩:=h;obtain⟨w',h3,h4⟩:=ih r (.cons g2 r2) hw;exact⟨_,by simp only[Wg,h3,Option.map_some],.cons g h4⟩
theorem Zuh {xs:List PV}{sz:Nat}(hl:∀x∈xs,(Zc x).length=sz){i off:Nat}{x:PV}(hx:xs[i]?=some x){vs ys:List PV}(hw:Yp (Zc x) off vs=some ys):
  Yp (xs.flatMap Zc) (i*sz+off) vs=some ((xs.take i).flatMap Zc++ys++(xs.drop (i+1)).flatMap Zc):=by
 have e1:∀(l:List PV) (k:Nat),Yp l k []=some l:=fun l k=>by cases l<;>cases k<;>rfl
 have wapp:∀(a b vs:List PV) (o:Nat),Yp (a++b) (a.length+o) vs=(Yp b o vs).map (a++·):=by
  intro a
  induction a with
  |nil=>intro b vs o;simp
  |cons c a ih2=>
   intro b vs o;cases vs with
   |nil=>rw[e1,e1];rfl
   |cons v vs=>
    have:(c::a).length+o=(a.length+o)+1:=by simp;omega
    rw[this];simp only[List.cons_append,Yp,ih2,Option.map_map];rfl
 have Zap2:∀(a b vs ys:List PV) (o:Nat),Yp a o vs=some ys->Yp (a++b) o vs=some (ys++b):=by
  intro a
  induction a with
  |nil=>
   intro b vs ys o h;cases vs with
   |nil=>simp only[Yp,Option.some.injEq]at h;subst h;rw[e1]
   |cons v vs=>simp[Yp]at h
  |cons c a ih2=>
   intro b vs ys o h;cases vs with
   |nil=>rw[e1]at h;cases h;rw[e1]
   |cons v vs=>
    cases o with
    |zero=>
     simp only[Yp,Option.map_eq_some_iff]at h;obtain⟨w,hw,rfl⟩:=h;simp only[List.cons_append,Yp,ih2 b _ _ _ hw,Option.map_some]
    |succ o=>
     simp only[Yp,Option.map_eq_some_iff]at h;obtain⟨w,hw,rfl⟩:=h;simp only[List.cons_append,Yp,ih2 b _ _ _ hw,Option.map_some]
 obtain⟨hi,e⟩:=List.getElem?_eq_some_iff.1 hx
 have Zak4:xs.flatMap Zc=(xs.take i).flatMap Zc++(Zc x++(xs.drop (i+1)).flatMap Zc):=by
  conv=>lhs;rw[<- List.take_append_drop i xs]
  rw[List.flatMap_append,List.drop_eq_getElem_cons hi,e,List.flatMap_cons]
 have hlen:((xs.take i).flatMap Zc).length=i*sz:=by
  rw[U6 fun y hy=>hl y (List.take_subset _ _ hy),List.length_take,Nat.min_eq_left (Nat.le_of_lt hi)]
 rw[Zak4,<- hlen,wapp,Zap2 _ _ _ _ _ hw];simp
theorem Zf7 {x y:PV}{off:Nat}{vs:List PV}(h:S5 x off vs=some y)(hc:vs.all Wx=true):Yp (Zc x) off vs=some (Zc y):=by
 unfold S5 at h;split at h
 .rw [Option.map_eq_some_iff]at h;obtain⟨q,hq,rfl⟩:=h;exact hq
 .rename_i Yn;split at h
  .rename_i v;cases h;have h1:Zc x=[x]:=by cases x<;>first | rfl | exact absurd rfl (Yn _)
   simp only[List.all_cons,List.all_nil,Bool.and_true]at hc;have h2:Zc y=[y]:=by cases y<;>first | rfl | simp[Wx]at hc
   rw[h1,h2];rfl
  .cases h
theorem Zqc {t:TypeId}{y z:Operand}{cf yf:Nat->List Value->VH->Option (Value×VH)}{pcf:CF}{pyf:YF}(H:HP C ρ Z vh h)(S:SR C ρ (Zl h) Z Xe Yw)(ho:o.op=.store t y z){r:PV×PH}(he:Zf C pcf pyf all K Xe h o=some r):
  Zf0 C K ρ Z h vh r.1 r.2 (Xp C cf yf Yw vh o):=by
 simp only[Zf,ho]at he;split at he
 .rename_i ty i ver off v ht hy hv;obtain⟨w,W8,Vk⟩:=Zj S hy;obtain⟨u,hu1,hu2⟩:=Zj S hv;split at he
  .rename_i hc;split at he
   .rename_i ver' cs hi;split at he
    .rename_i e;subst e;rw[Option.map_eq_some_iff]at he;obtain⟨cs2,hcs2,rfl⟩:=he;have hw:=Vk.ptr_inv hi;subst hw;cases H.obj _ _ _ hi with
     |cells cs Wi e2 hzz hg hr=>
      obtain⟨Zol,h1,h2⟩:=Zgm hr hu2.cells hcs2;have Qa:u.cells.size=ty.size:=by rw[<- Array.length_toList,hu2.cells.length];exact hc.1
      have Xj:=Zh1 (K:=K) (ob:=.cells cs2) (vo:=.row Zol e2 true) H hi hc.2.2 hzz fun YB vf' he=>.cells cs2 Zol e2 hzz Zse (h2.mono he (Vg.le.refl _))
      refine⟨.tuple #[],_,_,_,?_,.tuple _ _ .nil,Xj⟩;simp only[Xp,ho,ht,W8,hu1,Option.isSome_none,Bool.false_eq_true,if_false,Qa,if_true,VH.store,hg];rw[if_pos (by rw[hu2.cells.cell hc.2.1];rfl),h1];rfl
    .cases he
   .cases he
  .cases he
 .rename_i ty i ver g ix off v0 ht hy hv;obtain⟨w,W8,Vk⟩:=Zj S hy;obtain⟨u,hu1,hu2⟩:=Zj S hv;split at he
  .cases he
  .rename_i v Zzq;split at he
   .rename_i hc;split at he
    .rename_i xs V6;have hi:=R9.1 V6;split at he
     .rename_i el hel;rw[Option.map_eq_some_iff]at he;obtain⟨el2,hel2,rfl⟩:=he;obtain⟨Z1,f⟩:=frz (bt:=false) (ownV v0) H;have Z8t:=St.frz (K:=K) H f hc.2.2.2.2;have hu3:R C ρ (Zl (h.freeze (ownV v0))) Z1 v u:=Zik f.hp (fun i ver g own xs hm hg=>Zl7 hm hg) Zzq (hu2.mono Z8t.ext Z8t.sig);have hw3:=Vk.mono Z8t.ext Z8t.sig;obtain⟨ty1,h1,rfl⟩:=hw3.eptr_inv hi;obtain⟨ty2,Wi,b,h2,hg,hrr,Rc,Z4b⟩:=Zm1 f.hp hi;rw[h1]at h2;cases h2;obtain⟨rfl,hzz⟩:=Z4b rfl
      have hpl:RDs C Z1 (Zc v) u.cells.toList:=by
       have hrs:=hu3.cells;have hpl:=hc.2.2.1;clear hrs
       have key:∀ {l:List PV} {l':List Value},l.all (plain 3)=true->Rs C ρ (Zl (h.freeze (ownV v0))) Z1 l l'->RDs C Z1 l l':=by
        intro l
        induction l with
        |nil=>intro l' _ h;cases h;exact .nil
        |cons c cs ih=>
         intro l' ha h;simp only[List.all_cons,Bool.and_eq_true]at ha;cases h with | cons h r=>exact .cons (Z1b (m:=0) ha.1 h) (ih ha.2 r)
       exact key hpl hu3.cells
      have hwr:=Zuh Rc hel (Zf7 hel2 hc.2.1);obtain⟨hlt,hx⟩:=List.getElem?_eq_some_iff.1 hel
      have Zaw:(xs.take ix).flatMap Zc++Zc el2++(xs.drop (ix+1)).flatMap Zc=(xs.set ix el2).flatMap Zc:=by
       rw[List.set_eq_take_append_cons_drop,if_pos hlt,List.flatMap_append,List.flatMap_cons];simp
      rw[Zaw]at hwr;obtain⟨Zol,h3,h4⟩:=Zyg hrr hpl hwr
      have Zatd:(Zc el2).length=ty1.size:=by
       have:=(Zmf (Zf7 hel2 hc.2.1)).1;rw[this];exact Rc el (by rw[<- hx];exact List.getElem_mem hlt)
      have hst2:=Zh1 (K:=K) (ob:=.row g true (xs.set ix el2)) (vo:=.row Zol ty1.size true) f.hp hi hc.2.2.2.1 hzz fun YB vf' he=>.row g _ Zol ty1 h1 hzz Zse h4 (Z07 Rc Zatd)
      have Qa:u.cells.size=ty.size:=by rw[<- Array.length_toList,hu3.cells.length];exact hc.1
      refine⟨.tuple #[],_,_,_,?_,.tuple _ _ .nil,Z8t.trans H hst2⟩;simp only[Xp,ho,ht,W8,hu1,Option.isSome_none,Bool.false_eq_true,if_false,Qa,if_true,VH.store,hg];rw[if_pos (by rw[hu3.cells.cell hc.2.1];rfl),h3];rfl
     .cases he
    .cases he
   .cases he
 .cases he
end
section
variable {C:Ctx}{Z Z':Vg}{ρ YB:Nat->Nat}{vf vf':Nat->Option Nat}{h h':PH}{vh vh':VH}{K:Loc}{n:Nat}{Xe:Yt}{Yw:SL}{o:Oper}{x:PV}{all:List Oper}
 {cf yf:Nat->List Value->VH->Option (Value×VH)} {pcf:CF} {pyf:YF} {r:PV×PH}
theorem Zos:∀ {ys:List PV} {Wi:List Value} {s:List Nat},RDs C Z ys Wi->Zf.bytesP ys=some s->∃b,Zdf Wi=some b/\s=b.data.toList.map UInt8.toNat
 | [],Wi,s,hr,h=>by
   simp only[Zf.bytesP,Option.some.injEq]at h;subst h;cases hr;exact⟨_,rfl,rfl⟩
 | .int .u8 m::ys,Wi,s,hr,h=>by
   simp only[Zf.bytesP,Option.map_eq_some_iff]at h;obtain⟨q,hq,rfl⟩:=h;cases hr with
   |cons g r=>
    cases g;obtain⟨b,h1,rfl⟩:=Zos r hq;refine⟨⟨(UInt8.ofNat m.toNat::b.data.toList).toArray⟩,by simp only[Zdf,h1,Option.map_some],?_⟩;simp
 | .int .i8 _::_,_,_,_,h | .int .i16 _::_,_,_,_,h | .int .i32 _::_,_,_,_,h | .int .i64 _::_,_,_,_,h | .int .u16 _::_,_,_,_,h | .int .u32 _::_,_,_,_,h | .int .u64 _::_,_,_,_,h=>by simp[Zf.bytesP]at h
 | .bool _::_,_,_,_,h | .str _::_,_,_,_,h | .nilp::_,_,_,_,h | .nils::_,_,_,_,h | .nilm::_,_,_,_,h | .nilf::_,_,_,_,h | .nili::_,_,_,_,h | .lst _ _::_,_,_,_,h | .own _ _ _ _ _::_,_,_,_,h
 | .ptr _ _ _::_,_,_,_,h | .eptr _ _ _ _ _::_,_,_,_,h | .rptr _::_,_,_,_,h | .map _ _::_,_,_,_,h | .fn _ _ _::_,_,_,_,h | .yield _ _::_,_,_,_,h | .iface _ _::_,_,_,_,h | .agg _::_,_,_,_,h | .tuple _::_,_,_,_,h=>by simp[Zf.bytesP]at h
theorem Z02 (b:ByteArray):RDs C Z ((b.data.toList.map UInt8.toNat).map fun (b:Nat)=>PV.int .u8 (b:Int)) (b.data.toList.map fun b=>Value.int .u8 b.toNat):=by
 induction b.data.toList with
 |nil=>exact .nil
 |cons x l ih=>exact .cons (.int _ _) ih
theorem Zux (l:List Nat):(l.map fun (b:Nat)=>PV.int .u8 (b:Int)).flatMap Zc=l.map fun (b:Nat)=>PV.int .u8 (b:Int):=by
 induction l with
 |nil=>rfl
 |cons x l ih=>simp[Zc,ih]
theorem Z03 (l:List Nat):∀x∈l.map (fun (b:Nat)=>PV.int .u8 (b:Int)),(Zc x).length=1:=by
 intro x hx;obtain⟨a,_,rfl⟩:=List.mem_map.1 hx;rfl
theorem Zff {i ver g len cap:Nat}{ob:PO}{ty:Ty}(ht:C.T g=some ty)(p:Nat):R C (fun j=>if j=i then p else ρ j) (Zl (h.put i ver ob)) Z (.own i ver g 0 len) (.slice (some ⟨p,0,none⟩) len cap):=
 .own i ver g 0 len ver ⟨p,0,none⟩ cap ty Zh8 (Nat.le_refl _) rfl ht fun _=>by simp
theorem Zlb {g:Nat}{v:Value}{ys:List PV}(hr:R C ρ vf Z x v)(he:h.elems g x=some ys):∃a l c,v=.slice a l c:=by
 cases x with
 |nils=>rw[hr.nils_inv];exact⟨_,_,_,rfl⟩
 |lst g' xs=>cases hr.lst_inv;exact⟨_,_,_,rfl⟩
 |own i ver g' off len=>cases hr with
  |d h=>cases h
  |own=>exact⟨_,_,_,rfl⟩
 | _=>simp[PH.elems]at he
theorem Zxb {src dst:TypeId}{y:Operand}(H:HP C ρ Z vh h)(S:SR C ρ (Zl h) Z Xe Yw)(hK:KOk K n h.next)(hd:∀d,o.dst=some d->d < n)(ho:o.op=.convert src dst y)(he:Zf C pcf pyf all K Xe h o=some r):
  Zf0 C K ρ Z h vh r.1 r.2 (Xp C cf yf Yw vh o):=by
 simp only[Zf,ho]at he;split at he
 .rename_i ts td v hs htd hv;obtain⟨w,W8,Vk⟩:=Zj S hv;split at he
  .rename_i e s hk1 hk2;split at he
   .rename_i te d V8 Rl;split at he
    .rename_i hk3;split at he
     .rename_i hc;cases he;obtain⟨b,rfl,rfl⟩:=Vk.str_inv
      have Xj:=Zb8 (K:=K) (vo:=.row (b.data.toList.map fun b=>.int .u8 b.toNat) 1 true) H hK (hd d Rl) (ob:=.row e true ((b.data.toList.map UInt8.toNat).map fun (b:Nat)=>.int .u8 (b:Int))) fun YB vf' _=>
       .row e _ (b.data.toList.map fun b=>.int .u8 b.toNat) te V8 (by
        cases e:Z vh.next with
        |none=>rfl
        |some s=>exact absurd (H.vlt _ _ (H.sig _ _ e)) (Nat.lt_irrefl _)) (by rw[hc.2];simp[VH.new]) (by rw[Zux];exact Z02 b) (by rw[hc.2];exact Z03 _)
      refine⟨.slice (some ⟨vh.next,0,none⟩) b.size b.size,_,_,_,?_,by rw[Sd];exact Zff V8 _,Xj⟩;simp only[Xp,ho,hs,htd,W8,hk1,hk2,V8,hk3];rw[if_pos (by rw[Sd];exact hc.1)]
     .cases he
    .cases he
   .cases he
  .rename_i e v hk1 hk2;split at he
   .rename_i te V8;split at he
    .rename_i hk3;split at he
     .rename_i Qa;rw[Option.map_eq_some_iff]at he;obtain⟨q,hq,rfl⟩:=he;rw[Option.bind_eq_some_iff]at hq;obtain⟨ys,hys,hq⟩:=hq;obtain⟨hl,Wi,h1,h2,h3⟩:=Zrj H V8 Vk hys
      have Zn0:ys.flatMap Zc=ys:=by
       have:∀ {ys:List PV} {q:List Nat},Zf.bytesP ys=some q->ys.flatMap Zc=ys:=by
        intro ys
        induction ys with
        |nil=>intros;rfl
        |cons y ys ih=>
         intro q hq;cases y with
         |int k m=>
          cases k<;>simp[Zf.bytesP]at hq;obtain⟨q',hq',_⟩:=hq;simp[Zc,ih hq']
         | _=>simp[Zf.bytesP]at hq
       exact this hq
      rw[Zn0]at h2;obtain⟨b,h4,rfl⟩:=Zos h2 hq;rw[Qa]at h1;refine⟨.string b,vh,ρ,Z,?_,.d (.str b),St.refl H⟩;have hv':=Zlb Vk hys;obtain⟨a,l,c,rfl⟩:=hv';simp only[Xp,ho,hs,htd,W8,hk1,hk2,V8,hk3,Qa,if_true,h1,Option.bind_some,h4,Option.map_some]
     .cases he
    .cases he
   .cases he
  .cases he
 .cases he
theorem Z2g {t:TypeId}{y:Operand}{lo hi:Option Operand}(H:HP C ρ Z vh h)(S:SR C ρ (Zl h) Z Xe Yw)(ho:o.op=.slice t y lo hi none)(he:Zf C pcf pyf all K Xe h o=some r):
  Z0v C ρ Z h vh r.1 r.2 (Xp C cf yf Yw vh o):=by
 simp only[Zf,ho]at he;split at he
 .rename_i ty i ver g off len ht hy;obtain⟨w,W8,Vk⟩:=Zj S hy;split at he
  .rename_i l u Rj hhi;obtain⟨l',hl1,hl2⟩:=Zh2 S Rj;obtain⟨u',hu1,hu2⟩:=Zh2 S hhi;split at he
   .rename_i e hk;split at he
    .rename_i te p q rw_ V8 hb V6;split at he
     .rename_i hge;cases he;subst hge;have hi':=R9.1 V6;obtain⟨ty1,cap,h1,rfl⟩:=Vk.own_inv hi';obtain⟨ty2,Wi,b,h2,hg,_⟩:=Zm1 H hi';rw[V8]at h1 h2;cases h1;cases h2;have hb':=Zbo hl2 hu2 hb;refine⟨rfl,_,?_,.own i ver e (off+p) (q - p) ver ⟨ρ i,off*te.size+p*te.size,none⟩ (q - p) te (Zr.2 ⟨_,hi'⟩) (Nat.le_refl _) rfl V8 (fun _=>by rw[Nat.add_mul])⟩;rw[Zfg ho ht W8 hl1 hu1];simp only[Zmx,hk,hb',V8,hg,if_true]
     .cases he
    .cases he
   .cases he
  .cases he
 .cases he
theorem Zga {t:TypeId}{y z:Operand}(H:HP C ρ Z vh h)(S:SR C ρ (Zl h) Z Xe Yw)(ho:o.op=.indexAddr t y z)(he:Zf C pcf pyf all K Xe h o=some r):
  Z0v C ρ Z h vh r.1 r.2 (Xp C cf yf Yw vh o):=by
 simp only[Zf,ho]at he;split at he
 .rename_i ty b ver g off len k i ht hy hz;obtain⟨w,W8,Vk⟩:=Zj S hy;obtain⟨u,hu1,hu2⟩:=Zj S hz;rw[hu2.int_inv]at hu1;split at he
  .rename_i e hk;split at he
   .rename_i te own xs V8 V6;split at he
    .rename_i hc;cases he;obtain⟨rfl,h0,hlt,hle⟩:=hc;have hi':=R9.1 V6;obtain⟨ty1,cap,h1,rfl⟩:=Vk.own_inv hi';rw[V8]at h1;cases h1;refine⟨rfl,_,?_,.eptr b ver e (off+i.toNat) 0 ver ⟨ρ b,off*te.size+i.toNat*te.size,none⟩ te (Zr.2 ⟨_,hi'⟩) (Nat.le_refl _) rfl V8 (fun _=>by rw[Nat.add_mul];rfl)⟩;simp only[Xp,ho,ht,W8,hu1,hk,V8];rw[if_pos ⟨h0,hlt⟩];rfl
    .cases he
   .cases he
  .cases he
 .cases he
theorem Znh {t:TypeId}{y z:Operand}{ok:Bool}(H:HP C ρ Z vh h)(S:SR C ρ (Zl h) Z Xe Yw)(ho:o.op=.lookup t y z ok)(he:Zf C pcf pyf all K Xe h o=some r):
  Z0v C ρ Z h vh r.1 r.2 (Xp C cf yf Yw vh o):=by
 simp only[Zf,ho]at he;split at he
 .rename_i ty i ver k ht hy hz;obtain⟨w,W8,Vk⟩:=Zj S hy;obtain⟨u,hu1,hu2⟩:=Zj S hz;split at he
  .rename_i kt et hk;split at he
   .rename_i kty ety hkt het;split at he
    .rename_i Ss;split at he
     .rename_i ver' es hi;split at he
      .rename_i e;subst e;have hw:=Vk.map_inv hi;subst hw;cases H.obj _ _ _ hi with
       |map es ves hzz hg hr=>
        split at he
        .rename_i v hf;cases he;obtain⟨v',h1,h2⟩:=Zkv hr hu2 hf;cases h2 with
         |some h2=>
          rename_i v';refine⟨rfl,if ok then .tuple #[v',.bool true] else v',?_,?_⟩
          .simp only [Xp,ho,ht,W8,hu1,hk,hkt,het];rw[if_pos (Zih hu2 Ss)];simp only[hg,h1]
          .cases ok with
           |true=>exact .tuple _ _ (.cons h2 (.cons (.d (.bool _)) .nil))
           |false=>exact h2
        .rename_i hf;rw[Option.map_eq_some_iff]at he;obtain⟨zv,hzv,rfl⟩:=he;obtain⟨v',h1,h2⟩:=Zkv hr hu2 hf;cases h2;obtain⟨zv',h3,h4⟩:=Zp5 (Z:=Z) hzv;refine⟨rfl,if ok then .tuple #[zv',.bool false] else zv',?_,?_⟩
         .simp only [Xp,ho,ht,W8,hu1,hk,hkt,het];rw[if_pos (Zih hu2 Ss)];simp only[hg,h1,h3,Option.map_some]
         .cases ok with
          |true=>exact .tuple _ _ (.cons (.d h4) (.cons (.d (.bool _)) .nil))
          |false=>exact .d h4
        .cases he
      .cases he
     .cases he
    .cases he
   .cases he
  .cases he
 .cases he
theorem Zf9 {t:TypeId}{m k y:Operand}(H:HP C ρ Z vh h)(S:SR C ρ (Zl h) Z Xe Yw)(ho:o.op=.mapUpdate t m k y\/o.op=.insert t m k y)(he:Zf C pcf pyf all K Xe h o=some r):
  Zf0 C K ρ Z h vh r.1 r.2 (Xp C cf yf Yw vh o):=by
 have he':(match C.T t,Yu Xe m,Yu Xe k,Yu Xe y with
  |some ty,some (.map i ver),some kv,some v=>
   match ty.k with
   | .map kt _=>match C.T kt,h.get i with
     |some kty,some (w,.map es)=>if w=ver/\Zsl kty.k kv=true/\can K i=true then (Ur es kv v).map fun es=>(PV.tuple [],h.put i ver (.map es)) else none
     | _,_=>none
   | _=>none
  | _,_,_,_=>none)=some r:=by
  rcases ho with ho | ho<;>simp only[Zf,ho]at he<;>exact he
 clear he;split at he'
 .rename_i ty i ver kv v ht hm hk hy;obtain⟨w,W8,Vk⟩:=Zj S hm;obtain⟨u,hu1,hu2⟩:=Zj S hk;obtain⟨z,hz1,hz2⟩:=Zj S hy;split at he'
  .rename_i kt et hkk;split at he'
   .rename_i kty ver' es hkt hi;split at he'
    .rename_i hc;obtain⟨rfl,Ss,Zz⟩:=hc;rw[Option.map_eq_some_iff]at he';obtain⟨es2,hes2,rfl⟩:=he';have hw:=Vk.map_inv hi;subst hw;cases H.obj _ _ _ hi with
     |map es ves hzz hg hr=>
      obtain⟨es2',h1,h2⟩:=Zy9 hr hu2 hz2 hes2;have Xj:=Zh1 (K:=K) (ob:=.map es2) (vo:=.map es2') H hi Zz hzz fun YB vf' he=>.map es2 es2' hzz Zse (h2.mono he (Vg.le.refl _))
      refine⟨.tuple #[],_,_,_,?_,.tuple _ _ .nil,Xj⟩;rcases ho with ho | ho<;>simp only[Xp,ho,ht,W8,hu1,hz1,hkk,hkt,hg]<;>rw[if_pos (Zih hu2 Ss),h1]<;>rfl
    .cases he'
   .cases he'
  .cases he'
 .cases he'
end
section
variable {C:Ctx}{Z Z':Vg}{ρ YB:Nat->Nat}{vf vf':Nat->Option Nat}{h h':PH}{vh vh':VH}{K:Loc}{n:Nat}{Xe:Yt}{Yw:SL}{o:Oper}{x:PV}{all:List Oper}
 {cf yf:Nat->List Value->VH->Option (Value×VH)} {pcf:CF} {pyf:YF} {r:PV×PH}
theorem Q0 (H:HP C ρ Z vh h):Z vh.next=none:=by
 cases e:Z vh.next with
 |none=>rfl
 |some s=>exact absurd (H.vlt _ _ (H.sig _ _ e)) (Nat.lt_irrefl _)
theorem Zlh (H:HP C ρ Z vh h)(hK:KOk K n h.next){d g:Nat}(hd:d < n){ty:Ty}(ht:C.T g=some ty){m:Nat}{ys:List PV}{s:PV}{s' x':Value}{ycs:List Value}(hs:R C ρ (Zl h) Z s s')(hm:Zsk x'=some m)(hml:ys.length=m)
  (hx:vh.elems ty.size x'=some ycs) (hy:RDs C Z (ys.flatMap Zc) ycs) (hyl:∀y∈ys,(Zc y).length=ty.size) (he:Xl K h d g ty m ys s=some r):Zf0 C K ρ Z h vh r.1 r.2 (Us vh ty s' x'):=by
 cases s with
 |nils=>
  rw[hs.nils_inv];have hn0:vh.elems ty.size (.slice none 0 0)=some []:=rfl;simp only[Xl]at he;split at he
  .rename_i hc;split at he
   .rename_i h0;cases he;refine⟨.slice none 0 0,vh,ρ,Z,?_,.d .nils,St.refl H⟩;unfold Us;simp only[hm,hx,hn0];rw[if_pos ⟨by omega,hc.2⟩,if_pos h0]
   .rename_i h0;cases he;have Xj:=Zb8 (K:=K) (vo:=.row ycs ty.size true) H hK hd (ob:=.row g true ys) fun YB vf' _=>.row g ys ycs ty ht (Q0 H) (by simp[VH.new]) hy hyl
    refine⟨.slice (some ⟨vh.next,0,none⟩) m m,_,_,_,?_,Zff ht _,Xj⟩;unfold Us;simp only[hm,hx,hn0];rw[if_pos ⟨by omega,hc.2⟩,if_neg h0]
  .cases he
 |own i ver g' off len=>
  simp only[Xl]at he;split at he
  .rename_i hc;obtain⟨hc1,hc2,hc3,rfl,Zz⟩:=hc;split at he
   .rename_i xs V6;split at he
    .rename_i hl;cases he;have hi:=R9.1 V6;obtain⟨ty1,cap,h1,rfl⟩:=hs.own_inv hi;obtain⟨ty2,Wi,b,h2,hg,hrr,Rc,Z4b⟩:=Zm1 H hi;rw[ht]at h1 h2;cases h1;cases h2;obtain⟨rfl,hzz⟩:=Z4b rfl;have Un:=U6 Rc
     have h1:X3 (xs.flatMap Zc) (off*ty.size) (len*ty.size)=some (((xs.drop off).take len).flatMap Zc):=by
      unfold X3;rw[if_pos (by rw[Un,<- Nat.add_mul];exact Nat.mul_le_mul_right _ hl),Zcr Rc,flat_take fun x hx=>Rc x (List.drop_subset _ _ hx)]
     obtain⟨r',h2,h3⟩:=hrr.read h1
     have hel:vh.elems ty.size (.slice (some ⟨ρ i,off*ty.size,none⟩) len cap)=some r':=by
      simp only[VH.elems,VH.load,hg,Option.isSome_none,Bool.false_eq_true,if_false,h2]
     have hlt:=H.rho_lt hi
     have Xj:St C K ρ Z h vh (fun j=>if j=i then vh.next else ρ j) Z (h.put i (ver+1) (.row g' true ((xs.drop off).take len++ys))) (((vh.put (ρ i) none).note (ρ i)).new (.row (r'++ycs) ty.size true)):=by
      refine HP.change H (.inr ⟨rfl,_,hi⟩) (H.lt _ _ hi) Zz (fun w o' hw=>?_) (by simp[VH.new,VH.note,VH.put]) (.inr (Nat.le_refl _)) (by simp[VH.new,VH.note,VH.put]) (Nat.min_le_left _ _) (fun _ _=>Nat.min_le_right _ _)
       (fun q hq1 hq2=>?_) (fun _ _=>.inl hzz) (Q0 H) (fun q y hq=>?_) (fun YB vf' _ _ U3=>?_)
      .rw [hi]at hw;cases hw;exact⟨by omega,fun e=>by omega⟩
      .have:=hq2 ⟨_,hi⟩;simp[VH.new,VH.note,VH.put,S9 hq1,S9 this]
      .by_cases e:q=vh.next
       .subst e;simp[VH.new,VH.note,VH.put]
       .simp only [VH.new,VH.note,VH.put,S9 e,cond_false]at hq ⊢;cases e2:Nat.beq q (ρ i) with
        |true=>rw[e2]at hq;cases hq
        |false=>
         rw[e2]at hq;have:=H.vlt _ _ hq;omega
      .refine .row g' _ (r'++ycs) ty ht (Q0 H) (by simp[VH.new,VH.note,VH.put]) ?_ ?_
       .rw [List.flatMap_append];exact h3.append hy
       .intro x hx;rcases List.mem_append.1 hx with hx | hx
        .exact Rc x (List.drop_subset _ _ (List.take_subset _ _ hx))
        .exact hyl x hx
     refine⟨.slice (some ⟨vh.next,0,none⟩) (len+m) (len+m),_,_,_,?_,Zff ht _,Xj⟩;unfold Us;simp only[hm,hx,hel];rw[if_pos ⟨hc1,hc2,hc3⟩];simp only[hg,if_true]
    .cases he
   .cases he
  .cases he
 | _=>simp[Xl]at he
theorem Z5k (H:HP C ρ Z vh h){g:Nat}{ty:Ty}(ht:C.T g=some ty){m:Nat}{ys:List PV}{s:PV}{s' x':Value}{ycs:List Value}(hs:R C ρ (Zl h) Z s s')(hm:Zsk x'=some m)(hml:ys.length=m)
  (hx:vh.elems ty.size x'=some ycs) (hy:RDs C Z (ys.flatMap Zc) ycs) (hyl:∀y∈ys,(Zc y).length=ty.size) (he:Zld h g ty ys s=some r):Zf0 C K ρ Z h vh r.1 r.2 (Us vh ty s' x'):=by
 cases s with
 |nils=>
  rw[hs.nils_inv];have hn0:vh.elems ty.size (.slice none 0 0)=some []:=rfl;simp only[Zld]at he;split at he
  .rename_i hc;rw[hml]at hc he;split at he
   .rename_i h0;cases he;refine⟨.slice none 0 0,vh,ρ,Z,?_,.d .nils,St.refl H⟩;unfold Us;simp only[hm,hx,hn0];rw[if_pos ⟨by omega,hc.2⟩,if_pos h0]
   .rename_i h0;cases he;obtain⟨Z',q1,q2,q3⟩:=Zvf (K:=K) H ht hy hyl;rw[hml]at q2;refine⟨.slice (some ⟨vh.next,0,none⟩) m m,_,_,Z',?_,.d q2,q1⟩;unfold Us;simp only[hm,hx,hn0];rw[if_pos ⟨by omega,hc.2⟩,if_neg h0]
  .cases he
 | _=>simp[Zld]at he
theorem Z0h {i ver:Nat}{k:PV}{u:Value}{c:Call}(H:HP C ρ Z vh h)(S:SR C ρ (Zl h) Z Xe Yw)(ho:o.op=.call c)(Wt:c.callee=.builtin .delete){w:Value}(ha:opds C Yw c.args.toList=some [w,u])(hw:R C ρ (Zl h) Z (.map i ver) w)(hu:R C ρ (Zl h) Z k u)
  (he:(match (c.argTypes[0]?).bind C.T with
     |some ts=>match ts.k with
      | .map kt _=>
        match C.T kt,h.get i with
        |some kty,some (w,.map es)=>if w=ver/\Zsl kty.k k=true/\can K i=true then (Q6 es k).map fun es=>(PV.tuple [],h.put i ver (.map es)) else none
        | _,_=>none
      | _=>none
     |none=>none)=some r):Zf0 C K ρ Z h vh r.1 r.2 (Xp C cf yf Yw vh o):=by
 split at he
 .rename_i ts ht;split at he
  .rename_i kt et hk;split at he
   .rename_i kty ver' es hkt hi;split at he
    .rename_i hc;obtain⟨rfl,Ss,Zz⟩:=hc;rw[Option.map_eq_some_iff]at he;obtain⟨es2,hes2,rfl⟩:=he;have hw':=hw.map_inv hi;subst hw';cases H.obj _ _ _ hi with
     |map es ves hzz hg hr=>
      obtain⟨es2',h1,h2⟩:=Zza hr hu hes2;have Xj:=Zh1 (K:=K) (ob:=.map es2) (vo:=.map es2') H hi Zz hzz fun YB vf' he=>.map es2 es2' hzz Zse (h2.mono he (Vg.le.refl _))
      refine⟨.tuple #[],_,_,_,?_,.tuple _ _ .nil,Xj⟩;simp only[Xp,ho,U9,ha,Wt,ht,hk,hkt,hg];rw[if_pos (Zih hu Ss),h1];rfl
    .cases he
   .cases he
  .cases he
 .cases he
def Zjg (C:Ctx)(K:Loc)(n:Nat)(pcf:CF)(cf:Nat->List Value->VH->Option (Value×VH)):Prop:=
 ∀f args h r,pcf K f args h=some r->∀(ρ:Nat->Nat) (Z:Vg) (vh:VH) (Wl:List Value),HP C ρ Z vh h->KOk K n h.next->Rs C ρ (Zl h) Z args Wl->Zf0 C K ρ Z h vh r.1 r.2 (cf f Wl vh)
def YfSim (C:Ctx)(K:Loc)(n:Nat)(pyf:YF)(yf:Nat->List Value->VH->Option (Value×VH)):Prop:=
 ∀l ver args h r,pyf K l ver args h=some r->∀(ρ:Nat->Nat) (Z:Vg) (vh:VH) (Wl:List Value) (w:Value),HP C ρ Z vh h->KOk K n h.next->Rs C ρ (Zl h) Z args Wl->R C ρ (Zl h) Z (.yield l ver) w->∃p,w=.func (.yield p) #[] #[]/\Zf0 C K ρ Z h vh r.1 r.2 (yf p Wl vh)
theorem Zxf {c:Call}(hcf:Zjg C K n pcf cf)(hyf:YfSim C K n pyf yf)(H:HP C ρ Z vh h)(S:SR C ρ (Zl h) Z Xe Yw)(hK:KOk K n h.next)(hd:∀d,o.dst=some d->d < n)(ho:o.op=.call c)(he:Zf C pcf pyf all K Xe h o=some r):
  Zf0 C K ρ Z h vh r.1 r.2 (Xp C cf yf Yw vh o):=by
 simp only[Zf,ho]at he;split at he
 .cases he
 .rename_i args Xu;obtain⟨Wl,Qq,Qu⟩:=Sl S Xu;split at he
  .rename_i f Wt;split at he
   .rename_i g first captured hf
    obtain⟨w,W8,Vk⟩:=Zj S hf;cases Vk with
    |d h=>cases h
    |fn g a c2 a' c' r1 r2=>
     obtain⟨v,vh',YB,Z',q1,q2,q3⟩:=hcf g _ h r he ρ Z vh (a'.toList++Wl++c'.toList) H hK ((r1.append Qu).append r2);refine⟨v,vh',YB,Z',?_,q2,q3⟩;simp only[Xp,ho,U9,Qq,Wt,W8];exact q1
   .rename_i l ver hf;obtain⟨w,W8,Vk⟩:=Zj S hf;obtain⟨p,rfl,v,vh',YB,Z',q1,q2,q3⟩:=hyf l ver args h r he ρ Z vh Wl w H hK Qu Vk;refine⟨v,vh',YB,Z',?_,q2,q3⟩;simp only[Xp,ho,U9,Qq,Wt,W8];exact q1
   .cases he
  .cases he
  .rename_i b Wt;split at he
   .rename_i i ver;cases Qu with
    |cons hy hr=>
     cases hr;split at he
     .rename_i ty ht;split at he
      .rename_i kt et hk;split at he
       .rename_i w es hi;split at he
        .rename_i e;subst e;cases he;have hw:=hy.map_inv hi;subst hw;cases H.obj _ _ _ hi with
         |map es ves hzz hg hr=>
          refine⟨.int .i64 ves.length,vh,ρ,Z,?_,by rw[hr.length];exact .d (.int _ _),St.refl H⟩;simp only[Xp,ho,U9,Qq,Wt,ht,hk,hg]
        .cases he
       .cases he
      .cases he
     .cases he
   .rename_i s x;cases Qu with
    |cons hs hr=>
     rename_i s' l1;cases hr with
     |cons hx hr=>
      rename_i x' l2;cases hr;split at he
      .rename_i ts tx d hts htx Rl;split at he
       .rename_i e hk;split at he
        .rename_i ty Q8
         have Xy:Xp C cf yf Yw vh o=Ta vh ty tx s' x':=by
          simp only[Xp,ho,U9,Qq,Wt,hts,htx,hk,Q8]
         rw[Xy];split at he
         .rename_i k hkx;split at he
          .rename_i k2 m;have hs':=hs.nils_inv;have hx':=hx.int_inv;subst hs' hx';split at he
           .rename_i hc;split at he
            .rename_i h0;cases he;refine⟨.slice none 0 0,vh,ρ,Z,?_,.d .nils,St.refl H⟩;simp only[Ta,hkx];rw[if_pos hc,if_pos h0]
            .rename_i h0;split at he
             .rename_i z hz;split at he
              .rename_i hzc;cases he;have Z33:RDs C Z (Zc z) ty.zero:=Zgk hz
               have Xj:=Zb8 (K:=K) (vo:=.row (Vv m.toNat ty.zero) ty.size true) H hK (hd d Rl) (ob:=.row e true (List.replicate m.toNat z)) fun YB vf' _=>
                .row e _ _ ty Q8 (Q0 H) (by simp[VH.new]) (Zm3 Z33 m.toNat) (fun x hx=>by rw[(List.mem_replicate.1 hx).2];exact hzc.1)
               refine⟨.slice (some ⟨vh.next,0,none⟩) m.toNat m.toNat,_,_,_,?_,Zff Q8 _,Xj⟩;simp only[Ta,hkx];rw[if_pos hc,if_neg h0]
              .cases he
             .cases he
           .cases he
          .cases he
         .rename_i hkx;split at he
          .rename_i b;split at he
           .rename_i Qa;obtain⟨bs,rfl,rfl⟩:=hx.str_inv
            have hA:Ta vh ty tx s' (.string bs)=Us vh ty s' (.string bs):=by
             unfold Ta;split
             .rename_i k hk2;exact absurd hk2 (hkx _)
             .simp [Qa]
            rw[hA];refine Zlh (ycs:=bs.data.toList.map fun b=>.int .u8 b.toNat) H hK (hd d Rl) Q8 hs (by simp only[Zsk];rw[Sd]) (by simp) rfl ?_ ?_ he
            .rw [Zux];exact Z02 bs
            .rw [Qa];exact Z03 _
           .cases he
          .rename_i hns;split at he
           .rename_i ys hys;obtain⟨hl,Wi,h1,h2,h3⟩:=Zrj H Q8 hx hys;obtain⟨a,l,c2,rfl⟩:=Zlb hx hys
            have hA:Ta vh ty tx s' (.slice a l c2)=Us vh ty s' (.slice a l c2):=by
             unfold Ta;split
             .rename_i k hk2;exact absurd hk2 (hkx _)
             .simp
            rw[hA];split at he
            .exact Z5k H Q8 hs hl rfl h1 h2 h3 he
            .exact Zlh H hK (hd d Rl) Q8 hs hl rfl h1 h2 h3 he
           .cases he
        .cases he
       .cases he
      .cases he
   .rename_i i ver k;cases Qu with
    |cons hs hr=>
     cases hr with
     |cons hx hr=>
      cases hr;exact Z0h H S ho Wt Qq hs hx he
   .cases he
theorem Zmu (hcf:Zjg C K n pcf cf)(hyf:YfSim C K n pyf yf)(H:HP C ρ Z vh h)(S:SR C ρ (Zl h) Z Xe Yw)(hK:KOk K n h.next)(hd:∀d,o.dst=some d->d < n)(he:Zf C pcf pyf all K Xe h o=some r):
  Zf0 C K ρ Z h vh r.1 r.2 (Xp C cf yf Yw vh o):=by
 cases ho:o.op with
 |load t y=>exact (Zni H S ho he).up H
 |store t y z=>exact Zqc H S ho he
 |convert src dst y=>exact Zxb H S hK hd ho he
 |slice t y lo hi mx=>
  cases mx with
  |none=>exact (Z2g H S ho he).up H
  |some m=>simp[Zf,ho]at he
 |indexAddr t y z=>exact (Zga H S ho he).up H
 |lookup t y z ok=>exact (Znh H S ho he).up H
 |mapUpdate t m k y=>exact Zf9 H S (.inl ho) he
 |insert t m k y=>exact Zf9 H S (.inr ho) he
 |call c=>exact Zxf hcf hyf H S hK hd ho he
 | _=>simp[Zf,ho]at he
theorem Z68 (H:HP C ρ Z vh h)(S:SR C ρ (Zl h) Z Xe Yw)(hw:Tb o=false)(he:Zf C pcf pyf all K Xe h o=some r):Z0v C ρ Z h vh r.1 r.2 (Xp C cf yf Yw vh o):=by
 cases ho:o.op with
 |load t y=>exact Zni H S ho he
 |slice t y lo hi mx=>
  cases mx with
  |none=>exact Z2g H S ho he
  |some m=>simp[Zf,ho]at he
 |indexAddr t y z=>exact Zga H S ho he
 |lookup t y z ok=>exact Znh H S ho he
 |call c=>
  simp only[Tb,ho]at hw;split at hw
  .rename_i Wt;simp only[Zf,ho]at he;split at he
   .cases he
   .rename_i args Xu;obtain⟨Wl,Qq,Qu⟩:=Sl S Xu;rw[Wt]at he
    try dsimp only at he
    split at he
    .rename_i i ver _;cases Qu with
     |cons hy hr=>
      cases hr;split at he
      .rename_i ty ht;split at he
       .rename_i kt et hk;split at he
        .rename_i w es hi;split at he
         .rename_i e;subst e;cases he;have hw:=hy.map_inv hi;subst hw;cases H.obj _ _ _ hi with
          |map es ves hzz hg hr=>
           refine⟨rfl,.int .i64 ves.length,?_,by rw[hr.length];exact .d (.int _ _)⟩;simp only[Xp,ho,U9,Qq,Wt,ht,hk,hg]
         .cases he
        .cases he
       .cases he
      .cases he
    .rename_i hh;cases hh
    .rename_i hh;cases hh
    .cases he
  .cases hw
 | _=>simp[Tb,ho]at hw<;>simp[Zf,ho]at he
theorem Zaj7 {m:Mk}{sh:Shape}{vo:VO}(hm:MkOk C ρ (Zl h) Z m sh vo)(H:HP C ρ Z vh h)(hK:KOk K n h.next){d:Nat}(hd:d < n){ob:PO}(Tq:m.obj=some ob):
  Zf0 C K ρ Z h vh (m.val (K.base+d) (h.stamp (K.base+d))) (h.put (K.base+d) (h.stamp (K.base+d)) ob) (some (sh.val vh.next,vh.new vo)):=by
 cases hm with
 |lit=>simp[Mk.obj]at Tq
 |ptr cs Wi e hr=>
  simp only[Mk.obj,Option.some.injEq]at Tq;subst Tq;have Xj:=Zb8 (K:=K) (vo:=.row Wi e true) H hK hd (ob:=.cells cs) fun YB vf' he=>.cells cs Wi e (Q0 H) (by simp[VH.new]) (hr.mono he (Vg.le.refl _))
  exact⟨_,_,_,_,rfl,.ptr _ _ 0 _ ⟨vh.next,0,none⟩ Zh8 (Nat.le_refl _) rfl fun _=>by simp,Xj⟩
 |slice g m xs Wi ty ht hr hl=>
  simp only[Mk.obj,Option.some.injEq]at Tq;subst Tq;have Xj:=Zb8 (K:=K) (vo:=.row Wi ty.size true) H hK hd (ob:=.row g true xs) fun YB vf' he=>.row g xs Wi ty ht (Q0 H) (by simp[VH.new]) hr hl
  exact⟨_,_,_,_,rfl,Zff ht _,Xj⟩
 |map=>
  simp only[Mk.obj,Option.some.injEq]at Tq;subst Tq;have Xj:=Zb8 (K:=K) (vo:=.map []) H hK hd (ob:=.map []) fun YB vf' he=>.map [] [] (Q0 H) (by simp[VH.new]) .nil
  exact⟨_,_,_,_,rfl,.map _ _ _ vh.next Zh8 (Nat.le_refl _) fun _=>by simp,Xj⟩
theorem Zadt (hcf:Zjg C K n pcf cf)(hyf:YfSim C K n pyf yf)(H:HP C ρ Z vh h)(S:SR C ρ (Zl h) Z Xe Yw)(hK:KOk K n h.next)(hd:∀d,o.dst=some d->d < n)(he:opP C pcf pyf all K Xe h o=some r):
  Zf0 C K ρ Z h vh r.1 r.2 (Xp C cf yf Yw vh o):=by
 unfold opP at he;split at he
 .rename_i v hf;cases he;obtain⟨w,h1,h2⟩:=Zwy S hf;exact⟨w,vh,ρ,Z,h2 cf yf vh H.sig,h1,St.refl H⟩
 .split at he
  .rename_i m hm;obtain⟨sh,vo,h1,h2,h3⟩:=Zqt S hm;rw[h3 cf yf vh];split at he
   .rename_i Tq;cases he;cases h1 with
    |lit g xs Wi ty ht hr hl=>
     obtain⟨Z',Xj,hrd,_⟩:=Zvf (K:=K) H ht hr hl;exact⟨_,_,ρ,Z',rfl,.d hrd,Xj⟩
    | _=>simp[Mk.obj]at Tq
   .rename_i ob d Tq Rl;cases he;exact Zaj7 h1 H hK (hd d Rl) Tq
   .cases he
  .exact Zmu hcf hyf H S hK hd he
theorem Zbd {ops:List Oper}{b:Bool}(S:SR C ρ vf Z Xe Yw)(he:Vx ops Xe o=some b):Qx ops Yw o=some b:=by
 unfold Vx at he;unfold Qx;split at he
 .rename_i hg;rw[hg];exact he
 .rename_i j want hg;rw[hg]
  try dsimp only
  split at he
  .rename_i d hd;rw[hd]
   try dsimp only
   split at he
   .rename_i c hc;cases he;obtain⟨w,h1,h2⟩:=S _ _ hc;rw[h1,h2.bool_inv]
   .rename_i w Yn hc;cases he;obtain⟨u,h1,h2⟩:=S _ _ hc;rw[h1];cases h2 with
    |d h=>cases h<;>first | rfl | exact absurd rfl (Yn _)
    | _=>rfl
   .cases he
  .rename_i hd;rw[hd];exact he
theorem Z7e (hcf:Zjg C K n pcf cf)(hyf:YfSim C K n pyf yf):∀(l:List Oper) {Xe:Yt} {Yw:SL} {h:PH} {vh:VH} {ρ:Nat->Nat} {Z:Vg} {q:Yt×PH},HP C ρ Z vh h->SR C ρ (Zl h) Z Xe Yw->KOk K n h.next->(∀o∈l,∀d,o.dst=some d->d < n)->Za7 C pcf pyf K all l Xe h=some q ->
  ∃vsl' vh' YB Z',Zh3 C cf yf all l Yw vh=some (vsl',vh')/\SR C YB (Zl q.2) Z' q.1 vsl'/\St C K ρ Z h vh YB Z' q.2 vh':=by
 intro l
 induction l with
 |nil=>
  intro Xe Yw h vh ρ Z q H S hK hd he;simp only[Za7,Option.some.injEq]at he;subst he;exact⟨Yw,vh,ρ,Z,rfl,S,St.refl H⟩
 |cons o l ih=>
  intro Xe Yw h vh ρ Z q H S hK hd he;simp only[Za7]at he;simp only[Zh3];split at he
  .rename_i hw;rw[Zbd S hw]
   try dsimp only
   split at he
   .rename_i v h1 ho;obtain⟨w,vh1,YE,Z1,a1,a2,a3⟩:=Zadt hcf hyf H S hK (hd o (by simp)) ho;rw[a1]
    try dsimp only
    obtain⟨vsl',vh',YB,Z',b1,b2,b3⟩:=ih a3.hp ((S.mono a3.ext a3.sig).putP o.dst a2) ⟨hK.1,Nat.le_trans hK.2 a3.next⟩ (fun o ho=>hd o (by simp[ho])) he;exact⟨vsl',vh',YB,Z',b1,b2,a3.trans H b3⟩
   .cases he
  .rename_i hw;rw[Zbd S hw]
   try dsimp only
   exact ih H (S.putP o.dst (.tuple [] #[] .nil)) hK (fun o ho=>hd o (by simp[ho])) he
  .cases he
end
section
variable {C:Ctx}{Z Z':Vg}{ρ YB:Nat->Nat}{vf vf':Nat->Option Nat}{h h':PH}{vh vh':VH}{K:Loc}{n:Nat}{Xe:Yt}{Yw:SL}{x:PV}{v:Value}
theorem HP.sub (H:HP C ρ Z vh h)(hg:h'.get=h.get)(hn:∀i x,h.get i=some x->i < h'.next)(hv:vh'.get=vh.get)(hvn:vh.next<=vh'.next)(hw:vh'.wr<=vh'.next):HP C ρ Z vh' h' where
 lt:=fun i x hx=>hn i x (by rw[<- hg];exact hx)
 inj:=fun i j x y hx hy e=>H.inj i j x y (by rw[<- hg];exact hx) (by rw[<- hg];exact hy) e
 vlt:=fun i o ho=>Nat.lt_of_lt_of_le (H.vlt i o (by rw[<- hv];exact ho)) hvn
 sig:=fun Zv s hs=>by rw[hv];exact H.sig Zv s hs
 obj:=fun i ver o ho=>by
  rw[hg]at ho;have hvf:Zl h'=Zl h:=by unfold Zl;rw[hg]
  rw[hvf];have h1:=H.obj i ver o ho;cases h1 with
  |loop K0 n sl Yw ps as bd a b c d e f g=>exact .loop K0 n sl Yw ps as bd a (by rw[hv];exact b) c d e f g
  |cells cs Wi e a b c=>exact .cells cs Wi e a (by rw[hv];exact b) c
  |row g xs Wi ty a b c d e=>exact .row g xs Wi ty a b (by rw[hv];exact c) d e
  |frozen g xs s ty a b c d e f=>exact .frozen g xs s ty a b c d e f
  |map es ves a b c=>exact .map es ves a (by rw[hv];exact b) c
  |gone a b=>exact .gone (by omega) b
 wr:=hw
theorem Zjb {m:Nat}(hvf:∀i,i < m->vf' i=vf i):∀(k:Nat) {x:PV} {v:Value},below m k x=true->R C ρ vf Z x v->R C ρ vf' Z x v:=by
 intro k
 induction k with
 |zero=>
  intro x v hb hr;cases hr with
  |d h=>exact .d h
  |own i ver g off len c a cap ty hi hv hp ht ha=>exact .own i ver g off len c a cap ty (by rw[hvf i (by simpa[below]using hb)];exact hi) hv hp ht ha
  |ptr i ver off c a hi hv hp ha=>exact .ptr i ver off c a (by rw[hvf i (by simpa[below]using hb)];exact hi) hv hp ha
  |eptr i ver g ix off c a ty hi hv hp ht ha=>exact .eptr i ver g ix off c a ty (by rw[hvf i (by simpa[below]using hb)];exact hi) hv hp ht ha
  |rptr cs Zv o s Wi hs hr hx=>exact .rptr cs Zv o s Wi hs hr hx
  |map i ver c w hi hv ha=>exact .map i ver c w (by rw[hvf i (by simpa[below]using hb)];exact hi) hv ha
  |yield i ver c w hi hv ha=>exact .yield i ver c w (by rw[hvf i (by simpa[below]using hb)];exact hi) hv ha
  | _=>simp[below]at hb
 |succ k ih=>
  intro x v hb hr
  have hs:∀ {cs:List PV} {cs':List Value},cs.all (below m k)=true->Rs C ρ vf Z cs cs'->Rs C ρ vf' Z cs cs':=by
   intro cs
   induction cs with
   |nil=>intro cs' _ h;cases h;exact .nil
   |cons c cs ih2=>
    intro cs' ha h;simp only[List.all_cons,Bool.and_eq_true]at ha;cases h with | cons h r=>exact .cons (ih ha.1 h) (ih2 ha.2 r)
  cases hr with
  |d h=>exact .d h
  |own i ver g off len c a cap ty hi hv hp ht ha=>exact .own i ver g off len c a cap ty (by rw[hvf i (by simpa[below]using hb)];exact hi) hv hp ht ha
  |ptr i ver off c a hi hv hp ha=>exact .ptr i ver off c a (by rw[hvf i (by simpa[below]using hb)];exact hi) hv hp ha
  |eptr i ver g ix off c a ty hi hv hp ht ha=>exact .eptr i ver g ix off c a ty (by rw[hvf i (by simpa[below]using hb)];exact hi) hv hp ht ha
  |rptr cs Zv o s Wi hs hr hx=>exact .rptr cs Zv o s Wi hs hr hx
  |map i ver c w hi hv ha=>exact .map i ver c w (by rw[hvf i (by simpa[below]using hb)];exact hi) hv ha
  |yield i ver c w hi hv ha=>exact .yield i ver c w (by rw[hvf i (by simpa[below]using hb)];exact hi) hv ha
  |fn f a c a' c' h1 h2=>
   simp only[below,Bool.and_eq_true]at hb;exact .fn f a c a' c' (hs hb.1 h1) (hs hb.2 h2)
  |iface t y w h=>exact .iface t y w (ih (by simpa only[below]using hb) h)
  |agg cs cs' h=>exact .agg cs cs' (hs (by simpa only[below]using hb) h)
  |tuple cs cs' h=>exact .tuple cs cs' (hs (by simpa only[below]using hb) h)
theorem Zaa7 {m:Nat}(hvf:∀i,i < m->vf' i=vf i){k:Nat}{cs:List PV}{cs':List Value}(ha:cs.all (below m k)=true)(h:Rs C ρ vf Z cs cs'):Rs C ρ vf' Z cs cs':=by
 induction cs generalizing cs' with
 |nil=>cases h;exact .nil
 |cons c cs ih2=>
  simp only[List.all_cons,Bool.and_eq_true]at ha;cases h with | cons h r=>exact .cons (Zjb hvf k ha.1 h) (ih2 ha.2 r)
theorem Zaf3 {m:Nat}(hvf:∀i,i < m->vf' i=vf i){k:Nat}{es:List (PV×PV)}{Rh:List (Value×Value)}(ha:es.all (fun e=>below m k e.1&&below m k e.2)=true)(h:MRP C ρ vf Z es Rh):MRP C ρ vf' Z es Rh:=by
 induction h with
 |nil=>exact .nil
 |cons hk hv r ih=>
  simp only[List.all_cons,Bool.and_eq_true]at ha;exact .cons (Zjb hvf k ha.1.1 hk) (Zjb hvf k ha.1.2 hv) (ih ha.2)
theorem Zy5 (g:Nat):∀(n:Nat) (x:PV),Yo g n x=true->Yo g (n+1) x=true:=by
 intro n
 induction n with
 |zero=>intro x h;cases x<;>simp_all[Yo]
 |succ n ih=>
  have hs:∀cs:List PV,cs.all (Yo g n)=true->cs.all (Yo g (n+1))=true:=fun cs h=>List.all_eq_true.2 fun c hc=>ih c (List.all_eq_true.1 h c hc)
  intro x h;cases x with
  |lst g' xs=>simp only[Yo,Bool.and_eq_true]at h ⊢;exact⟨h.1,hs _ h.2⟩
  |agg cs=>simp only[Yo]at h ⊢;exact hs _ h
  |tuple cs=>simp only[Yo]at h ⊢;exact hs _ h
  |iface t y=>simp only[Yo]at h ⊢;exact ih y h
  |fn f a c=>simp only[Yo,Bool.and_eq_true]at h ⊢;exact⟨hs _ h.1,hs _ h.2⟩
  | _=>simp_all[Yo]
theorem Zef {g n:Nat}{x:PV}(h:Yo g n x=true):(Zc x).all (Yo g n)=true:=by
 cases x with
 |agg cs=>
  cases n with
  |zero=>simp[Yo]at h
  |succ n=>simp only[Yo]at h;exact List.all_eq_true.2 fun c hc=>Zy5 g n c (List.all_eq_true.1 h c hc)
 | _=>simp only[Zc,List.all_cons,List.all_nil,Bool.and_true];exact h
def Zt0 (G:List Nat)(Z Z':Vg):Prop:=∀Zv s,Z Zv=some s->Z' Zv=some s\/∃g∈G,s.tag=some g
theorem Ztj {G:List Nat}(hb:Zt0 G Z Z'):∀(n:Nat) {x:PV} {v:Value},(∀g∈G,Yo g n x=true)->RD C Z x v->RD C Z' x v:=by
 intro n
 induction n with
 |zero=>
  intro x v ha hr;cases hr with
  |lst g xs Zv o cap s Wi ty hs he ht Q8 hr hx hl=>
   rcases hb Zv s hs with h1 | ⟨g',hg',h1⟩
   .by_cases hG:G=[]
    ·
     subst hG
     have hb':Z.le Z':=fun Zv s hs=>by
      rcases hb Zv s hs with h | ⟨g,hg,_⟩
      .exact h
      .simp at hg
     exact (RD.lst g xs Zv o cap s Wi ty hs he ht Q8 hr hx hl).mono hb'
    .obtain ⟨g',hg'⟩:=List.exists_mem_of_ne_nil G hG;have:=ha g' hg';simp[Yo]at this
   .have:=ha g' hg';simp[Yo]at this
  |iface t y w h=>
   by_cases hG:G=[]
   .subst hG
    have hb':Z.le Z':=fun Zv s hs=>by
     rcases hb Zv s hs with h | ⟨g,hg,_⟩
     .exact h
     .simp at hg
    exact (RD.iface t y w h).mono hb'
   .obtain ⟨g',hg'⟩:=List.exists_mem_of_ne_nil G hG;have:=ha g' hg';simp[Yo]at this
  |agg cs cs' h=>
   by_cases hG:G=[]
   .subst hG
    have hb':Z.le Z':=fun Zv s hs=>by
     rcases hb Zv s hs with h | ⟨g,hg,_⟩
     .exact h
     .simp at hg
    exact (RD.agg cs cs' h).mono hb'
   .obtain ⟨g',hg'⟩:=List.exists_mem_of_ne_nil G hG;have:=ha g' hg';simp[Yo]at this
  | _=>constructor
 |succ n ih=>
  have hs:∀ {cs:List PV} {cs':List Value},(∀g∈G,cs.all (Yo g n)=true)->RDs C Z cs cs'->RDs C Z' cs cs':=by
   intro cs
   induction cs with
   |nil=>intro cs' _ h;cases h;exact .nil
   |cons c cs ih2=>
    intro cs' ha h;cases h with
    |cons h r=>
     refine .cons (ih (fun g hg=>?_) h) (ih2 (fun g hg=>?_) r)
     .have:=ha g hg;simp only[List.all_cons,Bool.and_eq_true]at this;exact this.1
     .have:=ha g hg;simp only[List.all_cons,Bool.and_eq_true]at this;exact this.2
  intro x v ha hr;cases hr with
  |lst g xs Zv o cap s Wi ty hs1 he ht Q8 hr hx hl=>
   rcases hb Zv s hs1 with h1 | ⟨g',hg',h1⟩
   .refine .lst g xs Zv o cap s Wi ty h1 he ht Q8 hr (hs (fun g' hg'=>?_) hx) hl;have:=ha g' hg';simp only[Yo,Bool.and_eq_true]at this;rw[List.all_flatMap];exact List.all_eq_true.2 fun y hy=>Zef (List.all_eq_true.1 this.2 y hy)
   .have h2:=ha g' hg';simp only[Yo,Bool.and_eq_true]at h2;rcases ht with e | e
    .rw [e]at h1;cases h1
    .rw [h1]at e;cases e;simp at h2
  |iface t y w h=>exact .iface t y w (ih (fun g hg=>by have:=ha g hg;simpa only[Yo]using this) h)
  |agg cs cs' h=>exact .agg cs cs' (hs (fun g hg=>by have:=ha g hg;simpa only[Yo]using this) h)
  | _=>constructor
theorem Zxq {G:List Nat}(hb:Zt0 G Z Z'){n:Nat}{cs:List PV}{cs':List Value}(ha:∀g∈G,cs.all (Yo g n)=true)(h:RDs C Z cs cs'):RDs C Z' cs cs':=by
 induction cs generalizing cs' with
 |nil=>cases h;exact .nil
 |cons c cs ih2=>
  cases h with
  |cons h r=>
   refine .cons (Ztj hb n (fun g hg=>?_) h) (ih2 (fun g hg=>?_) r)
   .have:=ha g hg;simp only[List.all_cons,Bool.and_eq_true]at this;exact this.1
   .have:=ha g hg;simp only[List.all_cons,Bool.and_eq_true]at this;exact this.2
theorem Ztk {G:List Nat}(hb:Zt0 G Z Z')(hG:G≠[]):∀(n:Nat) {x:PV} {v:Value},(∀g∈G,Yo g n x=true)->R C ρ vf Z x v->R C ρ vf Z' x v:=by
 obtain⟨g0,hg0⟩:=List.exists_mem_of_ne_nil G hG;intro n
 induction n with
 |zero=>
  intro x v ha hr;have h0:=ha g0 hg0;cases hr with
  |d h=>exact .d (Ztj hb 0 ha h)
  |own i ver g off len c a cap ty hi hv hp ht hq=>exact .own i ver g off len c a cap ty hi hv hp ht hq
  |ptr i ver off c a hi hv hp hq=>exact .ptr i ver off c a hi hv hp hq
  |eptr i ver g ix off c a ty hi hv hp ht hq=>exact .eptr i ver g ix off c a ty hi hv hp ht hq
  |map i ver c w hi hv hq=>exact .map i ver c w hi hv hq
  |yield i ver c w hi hv hq=>exact .yield i ver c w hi hv hq
  | _=>simp[Yo]at h0
 |succ n ih=>
  have hs:∀ {cs:List PV} {cs':List Value},(∀g∈G,cs.all (Yo g n)=true)->Rs C ρ vf Z cs cs'->Rs C ρ vf Z' cs cs':=by
   intro cs
   induction cs with
   |nil=>intro cs' _ h;cases h;exact .nil
   |cons c cs ih2=>
    intro cs' ha h;cases h with
    |cons h r=>
     refine .cons (ih (fun g hg=>?_) h) (ih2 (fun g hg=>?_) r)
     .have:=ha g hg;simp only[List.all_cons,Bool.and_eq_true]at this;exact this.1
     .have:=ha g hg;simp only[List.all_cons,Bool.and_eq_true]at this;exact this.2
  intro x v ha hr;have h0:=ha g0 hg0;cases hr with
  |d h=>exact .d (Ztj hb (n+1) ha h)
  |own i ver g off len c a cap ty hi hv hp ht hq=>exact .own i ver g off len c a cap ty hi hv hp ht hq
  |ptr i ver off c a hi hv hp hq=>exact .ptr i ver off c a hi hv hp hq
  |eptr i ver g ix off c a ty hi hv hp ht hq=>exact .eptr i ver g ix off c a ty hi hv hp ht hq
  |map i ver c w hi hv hq=>exact .map i ver c w hi hv hq
  |yield i ver c w hi hv hq=>exact .yield i ver c w hi hv hq
  |rptr=>simp[Yo]at h0
  |fn f a c a' c' h1 h2=>exact .fn f a c a' c' (hs (fun g hg=>by have:=ha g hg;simp only[Yo,Bool.and_eq_true]at this;exact this.1) h1) (hs (fun g hg=>by have:=ha g hg;simp only[Yo,Bool.and_eq_true]at this;exact this.2) h2)
  |iface t y w h=>exact .iface t y w (ih (fun g hg=>by have:=ha g hg;simpa only[Yo]using this) h)
  |agg cs cs' h=>exact .agg cs cs' (hs (fun g hg=>by have:=ha g hg;simpa only[Yo]using this) h)
  |tuple cs cs' h=>exact .tuple cs cs' (hs (fun g hg=>by have:=ha g hg;simpa only[Yo]using this) h)
theorem Zaf5 {G:List Nat}(hb:Zt0 G Z Z'){n:Nat}{x:PV}{v:Value}(ha:∀g∈G,Yo g n x=true)(h:R C ρ vf Z x v):R C ρ vf Z' x v:=by
 by_cases hG:G=[]
 .subst hG;refine h.mono (Rm.refl _ _) fun Zv s hs=>?_
  rcases hb Zv s hs with h | ⟨g,hg,_⟩
  .exact h
  .simp at hg
 .exact Ztk hb hG n ha h
theorem Zaf4 {G:List Nat}(hb:Zt0 G Z Z')(hG:G≠[]){n:Nat}{cs:List PV}{cs':List Value}(ha:∀g∈G,cs.all (Yo g n)=true)(h:Rs C ρ vf Z cs cs'):Rs C ρ vf Z' cs cs':=by
 induction cs generalizing cs' with
 |nil=>cases h;exact .nil
 |cons c cs ih2=>
  cases h with
  |cons h r=>
   refine .cons (Ztk hb hG n (fun g hg=>?_) h) (ih2 (fun g hg=>?_) r)
   .have:=ha g hg;simp only[List.all_cons,Bool.and_eq_true]at this;exact this.1
   .have:=ha g hg;simp only[List.all_cons,Bool.and_eq_true]at this;exact this.2
theorem Zana {G:List Nat}(hb:Zt0 G Z Z')(hG:G≠[]){n:Nat}{es:List (PV×PV)}{Rh:List (Value×Value)}(ha:∀g∈G,es.all (fun e=>Yo g n e.1&&Yo g n e.2)=true)(h:MRP C ρ vf Z es Rh):MRP C ρ vf Z' es Rh:=by
 induction h with
 |nil=>exact .nil
 |cons hk hv r ih=>
  have hh:∀g∈G,(Yo g n _=true/\Yo g n _=true)/\_:=fun g hg=>by
   have:=ha g hg;simp only[List.all_cons,Bool.and_eq_true]at this;exact this
  exact .cons (Ztk hb hG n (fun g hg=>(hh g hg).1.1) hk) (Ztk hb hG n (fun g hg=>(hh g hg).1.2) hv) (ih fun g hg=>(hh g hg).2)
theorem Zof:∀(n:Nat) {x:PV} {v:Value},flat n v=true->R C ρ vf Z x v->R C YB vf' Z' x v/\Xz n x=true:=by
 have hD:∀(n:Nat) {x:PV} {v:Value},flat n v=true->RD C Z x v->RD C Z' x v/\Xz n x=true:=by
  intro n
  induction n with
  |zero=>
   intro x v hf hr;cases hr with
   |lst=>simp[flat]at hf
   |iface=>simp[flat]at hf
   |agg=>simp[flat]at hf
   | _=>exact⟨by constructor,by simp[Xz]⟩
  |succ n ih=>
   have hs:∀ {cs:List PV} {cs':List Value},cs'.all (flat n)=true->RDs C Z cs cs'->RDs C Z' cs cs'/\cs.all (Xz n)=true:=by
    intro cs
    induction cs with
    |nil=>intro cs' _ h;cases h;exact⟨.nil,rfl⟩
    |cons c cs ih2=>
     intro cs' ha h;cases h with
     |cons h r=>
      simp only[List.all_cons,Bool.and_eq_true]at ha ⊢;obtain⟨a,b⟩:=ih ha.1 h;obtain⟨c,d⟩:=ih2 ha.2 r;exact⟨.cons a c,b,d⟩
   intro x v hf hr;cases hr with
   |lst=>simp[flat]at hf
   |iface t y w h=>
    obtain⟨a,b⟩:=ih (by simpa only[flat]using hf) h;exact⟨.iface t y w a,by simpa only[Xz]using b⟩
   |agg cs cs' h=>
    obtain⟨a,b⟩:=hs (by simpa only[flat]using hf) h;exact⟨.agg cs cs' a,by simpa only[Xz]using b⟩
   | _=>exact⟨by constructor,by simp[Xz]⟩
 intro n
 induction n with
 |zero=>
  intro x v hf hr;cases hr with
  |d h=>exact⟨.d (hD 0 hf h).1,(hD 0 hf h).2⟩
  | _=>simp[flat]at hf
 |succ n ih=>
  have hs:∀ {cs:List PV} {cs':List Value},cs'.all (flat n)=true->Rs C ρ vf Z cs cs'->Rs C YB vf' Z' cs cs'/\cs.all (Xz n)=true:=by
   intro cs
   induction cs with
   |nil=>intro cs' _ h;cases h;exact⟨.nil,rfl⟩
   |cons c cs ih2=>
    intro cs' ha h;cases h with
    |cons h r=>
     simp only[List.all_cons,Bool.and_eq_true]at ha ⊢;obtain⟨a,b⟩:=ih ha.1 h;obtain⟨c,d⟩:=ih2 ha.2 r;exact⟨.cons a c,b,d⟩
  intro x v hf hr;cases hr with
  |d h=>exact⟨.d (hD (n+1) hf h).1,(hD (n+1) hf h).2⟩
  |iface t y w h=>
   obtain⟨a,b⟩:=ih (by simpa only[flat]using hf) h;exact⟨.iface t y w a,by simpa only[Xz]using b⟩
  |agg cs cs' h=>
   obtain⟨a,b⟩:=hs (by simpa only[flat]using hf) h;exact⟨.agg cs cs' a,by simpa only[Xz]using b⟩
  |tuple cs cs' h=>
   obtain⟨a,b⟩:=hs (by simpa only[flat]using hf) h;exact⟨.tuple cs cs' a,by simpa only[Xz]using b⟩
  | _=>simp[flat]at hf
theorem Zab5:∀(n:Nat) {x:PV} {v:Value},Xz n x=true->R C ρ vf Z x v->flat n v=true:=by
 have hD:∀(n:Nat) {x:PV} {v:Value},Xz n x=true->RD C Z x v->flat n v=true:=by
  intro n
  induction n with
  |zero=>
   intro x v hf hr;cases hr<;>simp_all[Xz,flat]
  |succ n ih=>
   have hs:∀ {cs:List PV} {cs':List Value},cs.all (Xz n)=true->RDs C Z cs cs'->cs'.all (flat n)=true:=by
    intro cs
    induction cs with
    |nil=>intro cs' _ h;cases h;rfl
    |cons c cs ih2=>
     intro cs' ha h;cases h with
     |cons h r=>
      simp only[List.all_cons,Bool.and_eq_true]at ha ⊢;exact⟨ih ha.1 h,ih2 ha.2 r⟩
   intro x v hf hr;cases hr with
   |lst=>simp[Xz]at hf
   |iface t y w h=>simp only[flat];exact ih (by simpa only[Xz]using hf) h
   |agg cs cs' h=>simp only[flat];exact hs (by simpa only[Xz]using hf) h
   | _=>simp[flat]
 intro n
 induction n with
 |zero=>
  intro x v hf hr;cases hr with
  |d h=>exact hD 0 hf h
  | _=>simp[Xz]at hf
 |succ n ih=>
  have hs:∀ {cs:List PV} {cs':List Value},cs.all (Xz n)=true->Rs C ρ vf Z cs cs'->cs'.all (flat n)=true:=by
   intro cs
   induction cs with
   |nil=>intro cs' _ h;cases h;rfl
   |cons c cs ih2=>
    intro cs' ha h;cases h with
    |cons h r=>
     simp only[List.all_cons,Bool.and_eq_true]at ha ⊢;exact⟨ih ha.1 h,ih2 ha.2 r⟩
  intro x v hf hr;cases hr with
  |d h=>exact hD _ hf h
  |iface t y w h=>simp only[flat];exact ih (by simpa only[Xz]using hf) h
  |agg cs cs' h=>simp only[flat];exact hs (by simpa only[Xz]using hf) h
  |tuple cs cs' h=>simp only[flat];exact hs (by simpa only[Xz]using hf) h
  | _=>simp[Xz]at hf
theorem Zog:∀(n:Nat) (x:PV),Xz n x=true->Xz (n+1) x=true:=by
 intro n
 induction n with
 |zero=>intro x h;cases x<;>simp_all[Xz]
 |succ n ih=>
  have hs:∀cs:List PV,cs.all (Xz n)=true->cs.all (Xz (n+1))=true:=fun cs h=>List.all_eq_true.2 fun c hc=>ih c (List.all_eq_true.1 h c hc)
  intro x h;cases x with
  |agg cs=>simp only[Xz]at h ⊢;exact hs _ h
  |tuple cs=>simp only[Xz]at h ⊢;exact hs _ h
  |iface t y=>simp only[Xz]at h ⊢;exact ih y h
  | _=>simp_all[Xz]
theorem Zhw (H:HP C ρ Z vh h)(S:SR C ρ (Zl h) Z Xe Yw):∀ {rs:List ResultVar} {xs:List PV},Uz C Xe h rs=some xs->∃vs,Zhv C Yw vh rs=some vs/\Rs C ρ (Zl h) Z xs vs
 | [],xs,he=>by simp only[Uz,Option.some.injEq]at he;subst he;exact⟨[],rfl,.nil⟩
 | .tmp t::r,xs,he=>by
   simp only[Uz]at he;split at he
   .rename_i p ps hp Qp;cases he;obtain⟨v,h1,h2⟩:=S _ _ hp;obtain⟨vs,h3,h4⟩:=Zhw H S Qp;exact⟨v::vs,by simp only[Zhv,h1,h3],.cons h2 h4⟩
   .cases he
 | .cell a t::r,xs,he=>by
   simp only[Uz]at he;split at he
   .rename_i i ver off ty ps hp Q8 Qp;split at he
    .rename_i w cs hi;split at he
     .rename_i e;subst e;rw[Option.map_eq_some_iff]at he;obtain⟨z,hz,rfl⟩:=he;rw[Option.bind_eq_some_iff]at hz;obtain⟨q,hq,hz⟩:=hz;obtain⟨v,h1,h2⟩:=S _ _ hp;have hv:=h2.ptr_inv hi;subst hv;obtain⟨vs,h3,h4⟩:=Zhw H S Qp;cases H.obj _ _ _ hi with
      |cells cs Wi e2 hzz hg hr=>
       obtain⟨q',h5,h6⟩:=hr.read hq;obtain⟨z',h7,h8⟩:=Zhr h6 hz;refine⟨z'::vs,?_,.cons h8 h4⟩;simp only[Zhv,h1,Q8,h3,VH.load,hg,Option.isSome_none,Bool.false_eq_true,if_false,h5,Option.bind_some,h7,Option.map_some]
     .cases he
    .cases he
   .cases he
theorem Zvq {xs:List PV}{vs:List Value}(h:Rs C ρ vf Z xs vs):R C ρ vf Z (Vq xs) (Zpg vs):=by
 cases h with
 |nil=>exact .tuple _ _ .nil
 |cons h r=>
  cases r with
  |nil=>exact h
  |cons h2 r=>exact .tuple _ _ (by simpa using .cons h (.cons h2 r))
theorem Z3c (l:List Value)(i t:Nat):Xc (Ub i l) t=if i<=t then l[t - i]? else none:=by
 induction l generalizing i with
 |nil=>simp[Ub,Xc]
 |cons v l ih=>
  simp only[Ub,Xc,ih];by_cases h:i=t
  .subst h;simp
  .have:Nat.beq i t=false:=S9 h;simp only[this,cond_false];by_cases hlt:i+1<=t
   .have h2:t - i=(t - (i+1))+1:=by omega
    simp[hlt,show i<=t by omega,h2]
   .simp [hlt,show ¬ i<=t by omega]
theorem Zue {xs:List PV}{vs:List Value}(h:Rs C ρ vf Z xs vs):SR C ρ vf Z (Qn 0 xs) (Ub 0 vs):=by
 intro t x hx;simp only[Qn,Nat.zero_le,if_true,Nat.sub_zero]at hx;rw[Z3c];simp only[Nat.zero_le,if_true,Nat.sub_zero];exact h.get hx
theorem Ug (h3:PH):∀(ok:List Nat) (h:PH),(Yd h3 ok h).next=h.next
 | [],h=>rfl
 |i::r,h=>by
  simp only[Yd];split
  .rw [Ug h3 r];rfl
  .exact Ug h3 r h
theorem U5 (h3:PH):∀(ok:List Nat) (h:PH) (j:Nat),(Yd h3 ok h).get j=if j∈ok then (match h3.get j with | some y=>some y | none=>h.get j) else h.get j
 | [],h,j=>by simp[Yd]
 |i::r,h,j=>by
  simp only[Yd];split
  .rename_i ver o hi;rw[U5 h3 r];by_cases e:j=i
   .subst e;simp[PH.put,hi]
   .simp [PH.put,e]
  .rename_i hi;rw[U5 h3 r];by_cases e:j=i
   .subst e;simp[hi]
   .simp [e]
end
section
variable {C:Ctx}{Z Z' Z1 Z2 Z3 ZF:Vg}{ρ YB YD:Nat->Nat}{vf vf':Nat->Option Nat}{h h' h2 h3:PH}{vh vh' V9 vhF:VH}{K:Loc}{n m:Nat}{Xe:Yt}{Yw:SL}{x:PV}{v w:Value}
theorem OR.back {j p nx nxF:Nat}{vf3 vfF:Nat->Option Nat}{o:PO}{G:List Nat}(O:OR C YD vf3 Z3 nx V9 j p o)(hb:Xr m o=true)(hvf:∀i,i < m->vfF i=vf3 i)(hB:Zt0 G Z3 ZF)(hT:∀g∈G,Ry g o=true)
  (hn:Z3 p=none->ZF p=none) (hs:∀s,Z3 p=some s->ZF p=some s) (hv:vhF.get=V9.get) (hvn:vhF.next=V9.next):OR C YD vfF ZF nxF vhF j p o:=by
 cases O with
 |cells cs Wi e a b c=>
  refine .cells cs Wi e (hn a) (by rw[hv];exact b) ?_;have h1:=Zaa7 hvf hb c;by_cases hG:G=[]
  .subst hG;refine h1.mono (Rm.refl _ _) fun Zv s hs=>?_
   rcases hB Zv s hs with h | ⟨g,hg,_⟩
   .exact h
   .simp at hg
  .exact Zaf4 hB hG (fun g hg=>hT g hg) h1
 |row g xs Wi ty a b c d e=>
  refine .row g xs Wi ty a (hn b) (by rw[hv];exact c) (Zxq hB (n:=12) (fun g hg=>?_) d) e;have:=hT g hg;simp only[Ry]at this;rw[List.all_flatMap];exact List.all_eq_true.2 fun y hy=>Zef (List.all_eq_true.1 this y hy)
 |frozen g xs s ty a b c d e f=>
  refine .frozen g xs s ty a (hs s b) c d (Zxq hB (n:=12) (fun g hg=>?_) e) f;have:=hT g hg;simp only[Ry]at this;rw[List.all_flatMap];exact List.all_eq_true.2 fun y hy=>Zef (List.all_eq_true.1 this y hy)
 |map es ves a b c=>
  refine .map es ves (hn a) (by rw[hv];exact b) ?_;have h1:=Zaf3 hvf hb c;by_cases hG:G=[]
  .subst hG;refine h1.mono (Rm.refl _ _) fun Zv s hs=>?_
   rcases hB Zv s hs with h | ⟨g,hg,_⟩
   .exact h
   .simp at hg
  .exact Zana hB hG (fun g hg=>hT g hg) h1
 |loop=>simp[Xr]at hb
 |gone a b=>exact .gone (by rw[hvn];exact a) (hn b)
theorem Zth {lo:Nat}{ok:List Nat}{base j:Nat}(h1:j < lo)(h2:j∉ok):can {base:=base,lo:=lo,ok:=ok} j=false:=by
 unfold can;rw[Bool.or_eq_false_iff];constructor
 .cases e:Nat.ble lo j
  .rfl
  .rw [Nat.ble_eq]at e;omega
 .rw [List.any_eq_false];intro y hy e;rw[Nat.beq_eq]at e;exact h2 (e ▸ hy)
theorem Zla {g:PH}{ok:List Nat}(hx:∀i∈ok,∃ver o,g.get i=some (ver,o)/\(h3.get i=some (ver,o)\/∃g' own xs,o=.row g' own xs/\h3.get i=some (ver,.row g' false xs))):
  ∃Z32,(∀i∈Z32,i∈ok)/\Yd h3 ok g=g.freeze Z32:=by
 classical
 refine⟨ok.filter fun i=>decide (∃ver g' own xs,g.get i=some (ver,.row g' own xs)/\h3.get i=some (ver,.row g' false xs)),fun i hi=>(List.mem_filter.1 hi).1,?_⟩;have hn:(Yd h3 ok g).next=(g.freeze (ok.filter fun i=>decide (∃ver g' own xs,g.get i=some (ver,.row g' own xs)/\h3.get i=some (ver,.row g' false xs)))).next:=by rw[Ug,Xm]
 have hg:(Yd h3 ok g).get=(g.freeze (ok.filter fun i=>decide (∃ver g' own xs,g.get i=some (ver,.row g' own xs)/\h3.get i=some (ver,.row g' false xs)))).get:=by
  funext j;rw[U5,Y7];by_cases hj:j∈ok
  .rw [if_pos hj];obtain⟨ver,o,h1,h2⟩:=hx j hj;rcases h2 with h2 | ⟨g',own,xs,rfl,h2⟩
   .rw [h1,h2];cases o with
    |row g' own xs=>
     try dsimp only
     by_cases hm:j∈ok.filter fun i=>decide (∃ver g' own xs,g.get i=some (ver,.row g' own xs)/\h3.get i=some (ver,.row g' false xs))
     .rw [if_pos hm];obtain⟨_,hd⟩:=List.mem_filter.1 hm;obtain⟨a,b,c,d,e1,e2⟩:=of_decide_eq_true hd;rw[h1]at e1;rw[h2]at e2;cases e1;cases e2;rfl
     .rw [if_neg hm]
    | _=>rfl
   .rw [h1,h2]
    try dsimp only
    rw[if_pos];refine List.mem_filter.2 ⟨hj,decide_eq_true ⟨_,_,_,_,h1,h2⟩⟩
  .rw [if_neg hj];split
   .rename_i ver g' own xs hgj;rw[if_neg fun hm=>hj (List.mem_filter.1 hm).1,hgj]
   .rfl
 cases hA:Yd h3 ok g;cases hB:g.freeze (ok.filter fun i=>decide (∃ver g' own xs,g.get i=some (ver,.row g' own xs)/\h3.get i=some (ver,.row g' false xs)));rw[hA,hB]at hn hg;simp only at hn hg;rw[hn,hg]
structure Pre0 (C:Ctx)(K:Loc)(m:Nat)(ρ:Nat->Nat)(Z Z1:Vg)(h:PH)(vh:VH)(ok ids:List Nat)(nx:Nat)(YD:Nat->Nat)(Z3:Vg)(h3:PH)(V9:VH):Prop where
 H:HP C ρ Z vh h
 hK:KOk K m h.next
 hok:∀i∈ok,can K i=true/\∃x,h.get i=some x
 hids:∀i∈ids,can K i=true
 f:Frz C true ρ Z h vh ids Z1
 st:St C {base:=h.next,lo:=h.next,ok:=ok} ρ Z1 {h.freeze ids with next:=nx} {vh with wr:=vh.next} YD Z3 h3 V9
section
variable {ok ids:List Nat}{nx:Nat}
theorem Pre0.old (P:Pre0 C K m ρ Z Z1 h vh ok ids nx YD Z3 h3 V9){j:Nat}(hj:j < h.next)(hn:j∉ok):h3.get j=(h.freeze ids).get j:=P.st.keep j (Zth hj hn)
theorem Pre0.live1 {j:Nat}{x:Nat×PO}(hx:h.get j=some x):∃o,(h.freeze ids).get j=some (x.1,o):=by
 obtain⟨ver,o⟩:=x;rw[Y7,hx];cases o with
 |row g own xs=>
  try dsimp only
  split
  .exact ⟨_,rfl⟩
  .exact ⟨_,rfl⟩
 | _=>exact⟨_,rfl⟩
theorem Pre0.ext (P:Pre0 C K m ρ Z Z1 h vh ok ids nx YD Z3 h3 V9):Rm ρ (Zl h) YD (Zl h3):=by
 have:=P.st.ext
 have hv:Zl ({h.freeze ids with next:=nx}:PH)=Zl h:=by
  rw[<- Ti ids h];rfl
 rw[hv]at this;exact this
theorem Pre0.live (P:Pre0 C K m ρ Z Z1 h vh ok ids nx YD Z3 h3 V9){j:Nat}{x:Nat×PO}(hx:h.get j=some x):∃y,h3.get j=some y:=by
 obtain⟨c',h1,_⟩:=P.ext j x.1 (Zr.2 ⟨x.2,hx⟩);obtain⟨o,ho⟩:=Zr.1 h1;exact⟨_,ho⟩
theorem Pre0.rho (P:Pre0 C K m ρ Z Z1 h vh ok ids nx YD Z3 h3 V9){j:Nat}{x:Nat×PO}(hx:h.get j=some x)(hn:j∉ok):YD j=ρ j:=by
 obtain⟨c',h1,_,h3'⟩:=P.ext j x.1 (Zr.2 ⟨x.2,hx⟩);obtain⟨o,ho⟩:=Zr.1 h1;obtain⟨o1,ho1⟩:=Pre0.live1 (ids:=ids) hx;rw[P.old (P.H.lt _ _ hx) hn,ho1]at ho;cases ho;exact h3' rfl
theorem Pre0.away (P:Pre0 C K m ρ Z Z1 h vh ok ids nx YD Z3 h3 V9){j ver:Nat}{o:PO}(hx:h.get j=some (ver,o))(hn:j∉ok){vfF:Nat->Option Nat}(hE:Rm ρ (Zl h) YD vfF)(hle:Z.le ZF)(hz:Z (ρ j)=none->ZF (ρ j)=none)
  (hv:vhF.get=V9.get) (hvn:vh.next<=vhF.next):OR C YD vfF ZF h.next vhF j (YD j) o:=by
 rw[P.rho hx hn];obtain⟨o1,ho1⟩:=Pre0.live1 (ids:=ids) hx;have hg:V9.get (ρ j)=vh.get (ρ j):=P.st.vkeep j _ ho1 (Zth (P.H.lt _ _ hx) hn);exact (P.H.obj _ _ _ hx).mono hE hle hz (fun _=>by rw[hv];exact hg) (Nat.le_refl _) hvn
theorem Pre0.zold (P:Pre0 C K m ρ Z Z1 h vh ok ids nx YD Z3 h3 V9){j ver:Nat}{o:PO}(hx:h.get j=some (ver,o))(hn:j∉ok)(hz:Z (ρ j)=none)(hi:∀g xs,o=.row g true xs->j∉ids):Z3 (ρ j)=none:=by
 have h1:=P.old (P.H.lt _ _ hx) hn;rw[Y7,hx]at h1
 have Ws:h3.get j=some (ver,o):=by
  rw[h1];cases o with
  |row g own xs=>
   cases own with
   |true=>simp[hi g xs rfl]
   |false=>simp
  | _=>rfl
 have h2:=P.st.hp.obj _ _ _ Ws;rw[P.rho hx hn]at h2;cases h2 with
 |frozen g xs s ty a b c d e f=>
  cases P.H.obj _ _ _ hx with
  |frozen g2 xs2 s2 ty2 a2 b2=>rw[b2]at hz;cases hz
 | _=>assumption
theorem Pre0.marks (P:Pre0 C K m ρ Z Z1 h vh ok ids nx YD Z3 h3 V9){hF:PH}(hvg:vhF.get=V9.get)(hvn:vhF.next=V9.next)(hvw:vhF.wr=min vh.wr V9.wr)(hp:HP C YD ZF vhF hF)(hle:Z.le ZF)(hn:h.next<=hF.next)
  (Vi:∀i,i∈ok->hF.get i=h3.get i) (Zck:∀i,i < h.next->i∉ok->i∉ids->hF.get i=h.get i) (Zasw:∀i,i < h.next->i∉ok->i∈ids->hF.get i=h.get i\/hF.get i=(h.freeze ids).get i) (Ra:∀i x,h.next<=i->hF.get i=some x->h3.get i=some x):St C K ρ Z h vh YD ZF hF vhF:=by
 have Z9r:∀i,i < h.next->i∉ok->hF.get i=h.get i\/(i∈ids/\hF.get i=(h.freeze ids).get i):=fun i h1 h2=>by
  by_cases h4:i∈ids
  .rcases Zasw i h1 h2 h4 with h5 | h5
   .exact .inl h5
   .exact .inr ⟨h4,h5⟩
  .exact .inl (Zck i h1 h2 h4)
 have hvf:∀i,i < h.next->i∉ok->Zl hF i=Zl h i:=fun i h1 h2=>by
  rcases Z9r i h1 h2 with h4 | ⟨_,h4⟩
  .unfold Zl;rw[h4]
  .have:Zl (h.freeze ids) i=Zl h i:=by rw[Ti]
   rw[<- this];unfold Zl;rw[h4]
 have Rj:K.lo<=h.next:=by have:=P.hK.1;have:=P.hK.2;omega
 refine⟨hp,?_,hle,hn,by rw[hvn];exact P.st.vnext,by rw[hvw];exact Nat.min_le_left _ _,?_,?_,?_,?_,?_,?_⟩
 .intro i c hi;obtain⟨o,ho⟩:=Zr.1 hi;by_cases hk:i∈ok
  .obtain ⟨c',h1,h2,h4⟩:=P.ext i c hi;refine⟨c',?_,h2,h4⟩;unfold Zl at h1 ⊢;rw[Vi i hk];exact h1
  .exact ⟨c,by rw[hvf i (P.H.lt _ _ ho) hk];exact hi,Nat.le_refl _,fun _=>P.rho ho hk⟩
 .intro i hi;have hk:i∉ok:=fun hk=>by rw[(P.hok i hk).1]at hi;cases hi
  have hd:i∉ids:=fun hk=>by rw[P.hids i hk]at hi;cases hi
  have hilt:i < h.next:=by
   rcases Nat.lt_or_ge i h.next with h1 | h1
   .exact h1
   .unfold can at hi;rw[Bool.or_eq_false_iff]at hi;have:Nat.ble K.lo i=true:=by rw[Nat.ble_eq];omega
    rw[this]at hi;cases hi.1
  exact Zck i hilt hk hd
 .intro i ver o hilo ho;have hilt:=P.H.lt _ _ ho;by_cases hk:i∈ok
  .rw [Vi i hk];obtain⟨o1,ho1⟩:=Pre0.live1 (ids:=ids) ho;have h1:=P.st.same i ver o1 hilt ho1;have Zln:=ho1;rw[Y7,ho]at Zln;rcases h1 with h1 | ⟨g,own,xs,rfl,h1⟩ | h1
   .cases o with
    |row g own xs=>
     simp only at Zln;split at Zln
     .cases Zln;exact .inr (.inl ⟨_,_,_,rfl,h1⟩)
     .cases Zln;exact .inl h1
    | _=>simp only at Zln;cases Zln;exact .inl h1
   .cases o with
    |row g own xs=>
     simp only at Zln;split at Zln<;>cases Zln<;>exact .inr (.inl ⟨_,_,_,rfl,h1⟩)
    | _=>simp only at Zln;cases Zln
   .exact .inr (.inr (by rw[hvw];exact Nat.le_trans (Nat.min_le_right _ _) h1))
  .rcases Z9r i hilt hk with h4 | ⟨hd,h4⟩
   .exact .inl (h4.trans ho)
   .rw [Y7,ho]at h4;cases o with
    |row g own xs=>
     simp only[hd,if_true]at h4;exact .inr (.inl ⟨_,_,_,rfl,h4⟩)
    | _=>exact .inl h4
 .intro i x hx
  have hx3:∃y,h3.get i=some y:=by
   rcases Nat.lt_or_ge i h.next with h1 | h1
   .by_cases hk:i∈ok
    .exact ⟨x,by rw[<- Vi i hk];exact hx⟩
    .have:Zl h i=some x.1:=by rw[<- hvf i h1 hk];exact Zr.2 ⟨x.2,hx⟩
     obtain⟨o,ho⟩:=Zr.1 this;exact P.live ho
   .exact ⟨x,Ra i x h1 hx⟩
  obtain⟨y,hy⟩:=hx3;rcases P.st.plc i y hy with⟨⟨z,hz⟩,h2⟩ | h2
  .refine .inl ⟨?_,h2⟩;have:Zl (h.freeze ids) i=some z.1:=Zr.2 ⟨z.2,hz⟩;rw[Ti]at this;obtain⟨o,ho⟩:=Zr.1 this;exact⟨_,ho⟩
  .exact .inr h2
 .intro i x hx hc;have hk:i∉ok:=fun hk=>by rw[(P.hok i hk).1]at hc;cases hc
  obtain⟨o1,ho1⟩:=Pre0.live1 (ids:=ids) hx;rw[hvg];exact P.st.vkeep i _ ho1 (Zth (P.H.lt _ _ hx) hk)
 .intro q hq hn hi;rw[hvg];refine P.st.vnone q hq hn fun i x hx=>?_
  have:Zl (h.freeze ids) i=some x.1:=Zr.2 ⟨x.2,hx⟩;rw[Ti]at this;obtain⟨o,ho⟩:=Zr.1 this;exact hi i _ ho
 .intro b h1 h2 h3;rw[hvw];refine Nat.le_min.2 ⟨h2,P.st.low b h1 h1 fun i x hx hc=>?_⟩;have hx':(h.freeze ids).get i=some x:=hx;have:Zl h i=some x.1:=by rw[<- Ti (ids:=ids)];exact Zr.2 ⟨x.2,hx'⟩
  obtain⟨o,ho⟩:=Zr.1 this;have hlt:=P.H.lt _ _ ho
  have hk:i∈ok:=by
   unfold can at hc;rw[Bool.or_eq_true]at hc;rcases hc with hc | hc
   .rw [Nat.ble_eq]at hc;have hc':h.next<=i:=hc;omega
   .obtain ⟨j,hj,e⟩:=List.any_eq_true.1 hc;rw[Nat.beq_eq]at e;exact e ▸ hj
  exact h3 i _ ho (P.hok i hk).1
end
end
section
variable {C:Ctx}{Z Z' Z1 Z2 Z3 ZF:Vg}{ρ YB YD:Nat->Nat}{vf vf':Nat->Option Nat}{h h' h2 h3:PH}{vh vh' V9 vhF:VH}{K:Loc}{n m:Nat}{Xe:Yt}{Yw:SL}{x:PV}{v w:Value}{ok ids:List Nat}{nx:Nat}
theorem Pre0.restored (P:Pre0 C K m ρ Z Z1 h vh ok ids nx YD Z3 h3 V9)(hw:vh.next<=V9.wr)(b:Bool)(hb:b=true->∀i∈ids,i∉ok):
  ∃ZF,St C K ρ Z h vh ρ ZF (Yd h3 ok (if b then h else h.freeze ids)) vh:=by
 have Ws:∀i∈ok,∃ver o,(h.freeze ids).get i=some (ver,o)/\(h3.get i=some (ver,o)\/∃g' own xs,o=.row g' own xs/\h3.get i=some (ver,.row g' false xs)):=by
  intro i hi;obtain⟨hc,x,hx⟩:=P.hok i hi;obtain⟨o1,ho1⟩:=Pre0.live1 (ids:=ids) hx;refine⟨x.1,o1,ho1,?_⟩;rcases P.st.same i x.1 o1 (P.H.lt _ _ hx) ho1 with h1 | h1 | h1
  .exact .inl h1
  .exact .inr h1
  .have:=P.H.rho_lt hx;omega
 cases b with
 |false=>
  obtain⟨Z32,h1,h2⟩:=Zla Ws;obtain⟨Za,fa⟩:=frz (bt:=false) ids P.H;have sa:=St.frz (K:=K) P.H fa (List.all_eq_true.2 P.hids);obtain⟨Zb,fb⟩:=frz (bt:=false) Z32 sa.hp;have sb:=St.frz (K:=K) sa.hp fb (List.all_eq_true.2 fun i hi=>(P.hok i (h1 i hi)).1);refine⟨Zb,?_⟩;simp only[Bool.false_eq_true,if_false];rw[h2];exact sa.trans P.H sb
 |true=>
  have hb:=hb rfl
  have Zalb:∀i∈ok,∃ver o,h.get i=some (ver,o)/\(h3.get i=some (ver,o)\/∃g' own xs,o=.row g' own xs/\h3.get i=some (ver,.row g' false xs)):=by
   intro i hi;obtain⟨ver,o,h1,h2⟩:=Ws i hi;refine⟨ver,o,?_,h2⟩;rw[Y7]at h1;split at h1
   .rename_i ver' g own xs hq;rw[if_neg fun hm=>hb i hm hi]at h1;rw[hq];exact h1
   .exact h1
  obtain⟨Z32,h1,h2⟩:=Zla Zalb;obtain⟨Zb,fb⟩:=frz (bt:=false) Z32 P.H;have sb:=St.frz (K:=K) P.H fb (List.all_eq_true.2 fun i hi=>(P.hok i (h1 i hi)).1);refine⟨Zb,?_⟩;simp only[if_true];rw[h2];exact sb
theorem Pre0.clean (P:Pre0 C K m ρ Z Z1 h vh ok ids nx YD Z3 h3 V9)(hvg:vhF.get=V9.get)(hvn:vhF.next=V9.next)(hvw:vhF.wr=min vh.wr V9.wr)(Z4m:∀i∈ok,h3.belowAt h.next i=true)
  (hcl:∀i∈ids,i∉ok/\∃ver g own xs,h.get i=some (ver,.row g own xs)/\(own=true->Yo g 14 x=true/\∀j∈ok,∀ver o,h3.get j=some (ver,o)->Ry g o=true)) (hx:R C YD (Zl h3) Z3 x w) (hxb:below h.next 4 x=true):
  ∃ZF,R C YD (Zl (Yd h3 ok h)) ZF x w/\St C K ρ Z h vh YD ZF (Yd h3 ok h) vhF:=by
 classical
 let Z7z:Nat->Prop:=fun Zv=>∃i∈ids,∃ver g xs,h.get i=some (ver,.row g true xs)/\Zv=ρ i
 let ZF:Vg:=fun Zv=>if Z7z Zv then none else Z3 Zv
 let G:List Nat:=ids.filterMap fun i=>match h.get i with | some (_,.row g true _)=>some g | _=>none
 have hG:∀g∈G,∃i∈ids,∃ver xs,h.get i=some (ver,.row g true xs):=by
  intro g hg;obtain⟨i,hi,e⟩:=List.mem_filterMap.1 hg;split at e
  .rename_i ver g' xs hq;cases e;exact⟨i,hi,ver,xs,hq⟩
  .cases e
 have hGm:∀i∈ids,∀ver g xs,h.get i=some (ver,.row g true xs)->g∈G:=by
  intro i hi ver g xs hq;exact List.mem_filterMap.2 ⟨i,hi,by rw[hq]⟩
 have Zah7:∀i ver g xs,h.get i=some (ver,.row g true xs)->Z (ρ i)=none:=by
  intro i ver g xs hq;cases P.H.obj _ _ _ hq with
  |row g xs Wi ty a b=>exact b
 have hB:Zt0 G Z3 ZF:=by
  intro Zv s hs;by_cases hl:Z7z Zv
  .obtain ⟨i,hi,ver,g,xs,hq,rfl⟩:=hl;refine .inr ⟨g,hGm i hi ver g xs hq,?_⟩;have hfz:=Zl7 (ids:=ids) hi hq;cases P.f.hp.obj _ _ _ hfz with
   |frozen g xs s1 ty a b c d e f=>
    have:=P.st.sig _ _ b;rw[hs]at this;cases this;rcases P.f.new _ _ b with h1 | ⟨_,i',hi',ver',g',xs',hq',e1,e2⟩
    .rw [Zah7 i _ _ _ hq]at h1;cases h1
    .have:i=i':=P.H.inj _ _ _ _ hq hq' e1;subst this;rw[hq]at hq';cases hq';exact e2
  .exact .inl (by simp only[ZF,hl,if_false];exact hs)
 have hle:Z.le ZF:=by
  intro Zv s hs;have hl:¬ Z7z Zv:=fun⟨i,hi,ver,g,xs,hq,e⟩=>by rw[e,Zah7 i _ _ _ hq]at hs;cases hs
  simp only[ZF,hl,if_false];exact P.st.sig _ _ (P.f.le _ _ hs)
 have Vi:∀i,i∈ok->(Yd h3 ok h).get i=h3.get i:=fun i hi=>by
  obtain⟨_,y,hy⟩:=P.hok i hi;obtain⟨z,hz⟩:=P.live hy;rw[U5,if_pos hi,hz]
 have Zck:∀i,i∉ok->(Yd h3 ok h).get i=h.get i:=fun i hi=>by rw[U5,if_neg hi]
 have Zzh:∀i,i < h.next->Zl (Yd h3 ok h) i=Zl h3 i:=by
  intro i hi;by_cases hk:i∈ok
  .unfold Zl;rw[Vi i hk]
  .have e1:Zl (Yd h3 ok h) i=Zl h i:=by unfold Zl;rw[Zck i hk]
   have e2:Zl h3 i=Zl (h.freeze ids) i:=by unfold Zl;rw[P.old hi hk]
   rw[e1,e2,Ti]
 have hE:Rm ρ (Zl h) YD (Zl (Yd h3 ok h)):=by
  intro i c hi;obtain⟨o,ho⟩:=Zr.1 hi;obtain⟨c',h1,h2,h4⟩:=P.ext i c hi;exact⟨c',by rw[Zzh i (P.H.lt _ _ ho)];exact h1,h2,h4⟩
 have Zgd:∀i y,(Yd h3 ok h).get i=some y->i < h.next/\∃z,h3.get i=some z:=by
  intro i y hy;by_cases hk:i∈ok
  .obtain ⟨_,q,hq⟩:=P.hok i hk;exact⟨P.H.lt _ _ hq,y,by rw[<- Vi i hk];exact hy⟩
  .rw [Zck i hk]at hy;exact⟨P.H.lt _ _ hy,P.live hy⟩
 have Z81:∀j y,h3.get j=some y->j∈ok->¬ Z7z (YD j):=by
  intro j y hy hj ⟨i,hi,ver,g,xs,hq,e⟩;have hik:=(hcl i hi).1;obtain⟨z,hz⟩:=P.live hq;rw[<- P.rho hq hik]at e;have:=P.st.hp.inj _ _ _ _ hy hz e;exact hik (this ▸ hj)
 have hp:HP C YD ZF vhF (Yd h3 ok h):=by
  refine⟨fun i y hy=>by rw[Ug];exact (Zgd i y hy).1,?_,fun i y hy=>by rw[hvn];exact P.st.hp.vlt i y (by rw[<- hvg];exact hy),?_,?_,?_⟩
  .intro i j y z hy hz e;obtain⟨_,y',hy'⟩:=Zgd i y hy;obtain⟨_,z',hz'⟩:=Zgd j z hz;exact P.st.hp.inj _ _ _ _ hy' hz' e
  .intro Zv s hs;simp only[ZF]at hs;split at hs
   .cases hs
   .rw [hvg];exact P.st.hp.sig _ _ hs
  .intro j ver o hj;rw[Ug];by_cases hk:j∈ok
   .rw [Vi j hk]at hj;have hb:=Z4m j hk;simp only[PH.belowAt,hj]at hb;refine (P.st.hp.obj _ _ _ hj).back hb (fun i hi=>Zzh i hi) hB (fun g hg=>?_) (fun hz=>by simp only[ZF];split<;>first | rfl | exact hz) (fun s hs=>by simp only[ZF,Z81 j _ hj hk,if_false];exact hs) hvg hvn;obtain⟨i,hi,ver',xs,hq⟩:=hG g hg;obtain⟨_,Zyk,g2,Zvl,xs2,hq2,hT⟩:=hcl i hi;rw[hq]at hq2;cases hq2;exact (hT rfl).2 j hk ver o hj
   .rw [Zck j hk]at hj;refine P.away hj hk hE hle (fun hz=>?_) hvg (by rw[hvn];exact P.st.vnext);by_cases hl:Z7z (ρ j)
    .simp only [ZF,hl,if_true]
    .simp only [ZF,hl,if_false];exact P.zold hj hk hz fun g xs e hi=>hl ⟨j,hi,ver,g,xs,by rw[hj,e],rfl⟩
  .rw [hvw,hvn];exact Nat.le_trans (Nat.min_le_right _ _) P.st.hp.wr
 refine⟨ZF,?_,P.marks hvg hvn hvw hp hle (by rw[Ug];exact Nat.le_refl _) Vi (fun i _ hk _=>Zck i hk) (fun i _ hk _=>.inl (Zck i hk)) (fun i y hi hy=>absurd (Zgd i y hy).1 (by omega))⟩;refine Zaf5 hB (n:=14) (fun g hg=>?_) (Zjb (fun i hi=>Zzh i hi) 4 hxb hx);obtain⟨i,hi,ver',xs,hq⟩:=hG g hg;obtain⟨_,Zyk,g2,Zvl,xs2,hq2,hT⟩:=hcl i hi;rw[hq]at hq2;cases hq2;exact (hT rfl).1
theorem Pre0.frozen (P:Pre0 C K m ρ Z Z1 h vh ok ids nx YD Z3 h3 V9)(hvg:vhF.get=V9.get)(hvn:vhF.next=V9.next)(hvw:vhF.wr=min vh.wr V9.wr)(Z4m:∀i∈ok,h3.belowAt h.next i=true)
  (hx:R C YD (Zl h3) Z3 x w) (hxb:below h.next 4 x=true):
  ∃ZF,R C YD (Zl (Yd h3 ok (h.freeze ids))) ZF x w/\St C K ρ Z h vh YD ZF (Yd h3 ok (h.freeze ids)) vhF:=by
 have hle:Z.le Z3:=fun Zv s hs=>P.st.sig _ _ (P.f.le _ _ hs)
 have hB:Zt0 [] Z3 Z3:=fun Zv s hs=>.inl hs
 have Vi:∀i,i∈ok->(Yd h3 ok (h.freeze ids)).get i=h3.get i:=fun i hi=>by
  obtain⟨_,y,hy⟩:=P.hok i hi;obtain⟨z,hz⟩:=P.live hy;rw[U5,if_pos hi,hz]
 have Zck:∀i,i∉ok->(Yd h3 ok (h.freeze ids)).get i=(h.freeze ids).get i:=fun i hi=>by rw[U5,if_neg hi]
 have Zzh:∀i,i < h.next->Zl (Yd h3 ok (h.freeze ids)) i=Zl h3 i:=by
  intro i hi;by_cases hk:i∈ok
  .unfold Zl;rw[Vi i hk]
  .unfold Zl;rw[Zck i hk,P.old hi hk]
 have hE:Rm ρ (Zl h) YD (Zl (Yd h3 ok (h.freeze ids))):=by
  intro i c hi;obtain⟨o,ho⟩:=Zr.1 hi;obtain⟨c',h1,h2,h4⟩:=P.ext i c hi;exact⟨c',by rw[Zzh i (P.H.lt _ _ ho)];exact h1,h2,h4⟩
 have Un:∀i y,(h.freeze ids).get i=some y->∃z,h.get i=some z:=by
  intro i y hy;have:Zl (h.freeze ids) i=some y.1:=Zr.2 ⟨y.2,hy⟩;rw[Ti]at this;obtain⟨o,ho⟩:=Zr.1 this;exact⟨_,ho⟩
 have Zgd:∀i y,(Yd h3 ok (h.freeze ids)).get i=some y->i < h.next/\h3.get i=some y:=by
  intro i y hy;by_cases hk:i∈ok
  .obtain ⟨_,q,hq⟩:=P.hok i hk;exact⟨P.H.lt _ _ hq,by rw[<- Vi i hk];exact hy⟩
  .rw [Zck i hk]at hy;obtain⟨z,hz⟩:=Un i y hy;have hlt:=P.H.lt _ _ hz;exact⟨hlt,by rw[P.old hlt hk];exact hy⟩
 have Uf:(Yd h3 ok (h.freeze ids)).next=h.next:=by rw[Ug,Xm]
 have hp:HP C YD Z3 vhF (Yd h3 ok (h.freeze ids)):=by
  refine⟨fun i y hy=>by rw[Uf];exact (Zgd i y hy).1,?_,fun i y hy=>by rw[hvn];exact P.st.hp.vlt i y (by rw[<- hvg];exact hy),?_,?_,?_⟩
  .intro i j y z hy hz e;exact P.st.hp.inj _ _ _ _ (Zgd i y hy).2 (Zgd j z hz).2 e
  .intro Zv s hs;rw[hvg];exact P.st.hp.sig _ _ hs
  .intro j ver o hj;rw[Uf];have hj3:=(Zgd j _ hj).2;have O3:=P.st.hp.obj _ _ _ hj3;by_cases hk:j∈ok
   .have hb:=Z4m j hk;simp only[PH.belowAt,hj3]at hb;exact O3.back hb (fun i hi=>Zzh i hi) hB (fun g hg=>by simp at hg) id (fun s hs=>hs) hvg hvn
   .rw [Zck j hk]at hj;obtain⟨z,hz⟩:=Un j _ hj;by_cases V6:∃g own xs,o=.row g own xs
    .obtain ⟨g,own,xs,rfl⟩:=V6;cases O3 with
     |row g xs Wi ty a b c d e=>exact .row g xs Wi ty a b (by rw[hvg];exact c) d e
     |frozen g xs s ty a b c d e f=>exact .frozen g xs s ty a b c d e f
    .have hz':h.get j=some (ver,o):=by
      rw[Y7,hz]at hj;obtain⟨zv,zo⟩:=z;cases zo with
      |row g own xs=>
       simp only at hj;split at hj<;>cases hj<;>exact absurd ⟨_,_,_,rfl⟩ V6
      | _=>cases hj;exact hz
     exact P.away hz' hk hE hle (fun hz0=>P.zold hz' hk hz0 fun g xs e _=>V6 ⟨g,true,xs,e⟩) hvg (by rw[hvn];exact P.st.vnext)
  .rw [hvw,hvn];exact Nat.le_trans (Nat.min_le_right _ _) P.st.hp.wr
 refine⟨Z3,Zjb (fun i hi=>Zzh i hi) 4 hxb hx,P.marks hvg hvn hvw hp hle (by rw[Uf];exact Nat.le_refl _) Vi (fun i _ hk hd=>?_) (fun i _ hk hd=>.inr (Zck i hk)) (fun i y hi hy=>absurd (Zgd i y hy).1 (by omega))⟩;rw[Zck i hk,Y7];split
 .rename_i ver g own xs hq;rw[if_neg hd,hq]
 .rfl
theorem Pre0.whole (P:Pre0 C K m ρ Z Z1 h vh ok ids nx YD Z3 h3 V9)(hvg:vhF.get=V9.get)(hvn:vhF.next=V9.next)(hvw:vhF.wr=min vh.wr V9.wr)(Uf:h.next<=nx):St C K ρ Z h vh YD Z3 h3 vhF:=by
 have hp:HP C YD Z3 vhF h3:=P.st.hp.sub rfl (fun i x hx=>P.st.hp.lt i x hx) hvg (by rw[hvn];exact Nat.le_refl _) (by rw[hvw,hvn];exact Nat.le_trans (Nat.min_le_right _ _) P.st.hp.wr);refine P.marks hvg hvn hvw hp (fun Zv s hs=>P.st.sig _ _ (P.f.le _ _ hs)) ?_ (fun _ _=>rfl) (fun i hi hk hd=>?_) (fun i hi hk _=>.inr (P.old hi hk)) (fun _ _ _ h=>h)
 .exact Nat.le_trans Uf P.st.next
 .rw [P.old hi hk,Y7];split
  .rename_i ver g own xs hq;rw[if_neg hd,hq]
  .rfl
theorem Zyr (H:HP C ρ Z vh h)(hK:KOk K m h.next)(hok:∀i∈ok,can K i=true/\∃x,h.get i=some x)(hids:∀i∈ids,can K i=true)(f:Frz C true ρ Z h vh ids Z1)(H1:HP C ρ Z1 {vh with wr:=vh.next} {h.freeze ids with next:=nx})(Uf:h.next<=nx)
  (st:St C {base:=h.next,lo:=h.next,ok:=ok} ρ Z1 {h.freeze ids with next:=nx} {vh with wr:=vh.next} YD Z2 h2 V9) (hx:R C YD (Zl h2) Z2 x w) {r:PV×PH} (he:Wo h h2 ok ids x=some r):
  Zf0 C K ρ Z h vh r.1 r.2 (some (Virt.settle false vh w V9)):=by
 unfold Wo at he;split at he
 .cases he
 .rename_i x' Zzq
  try dsimp only at he
  split at he
  .rename_i Zz;obtain⟨Z3,f3⟩:=frz (bt:=false) (ownT x) st.hp;have st3:=St.frz (K:={base:=h.next,lo:=h.next,ok:=ok}) st.hp f3 Zz;have stt:=st.trans H1 st3;have hx':R C YD (Zl (h2.freeze (ownT x))) Z3 x' w:=Z8b f3.hp (fun i ver g own xs hm hg=>Zl7 hm hg) Zzq (hx.mono st3.ext st3.sig);have P:Pre0 C K m ρ Z Z1 h vh ok ids nx YD Z3 (h2.freeze (ownT x)) V9:=⟨H,hK,hok,hids,f,stt⟩
   by_cases Th:flat 4 w=true/\vh.next<=V9.wr
   ·
    have Zaw:Virt.settle false vh w V9=(w,vh):=by
     unfold Virt.settle;rw[if_pos];simp only[Bool.not_false,Bool.true_and,Bool.and_eq_true,Nat.ble_eq];exact Th
    rw[Zaw];have Un:=Zof (C:=C) (ρ:=YD) (vf:=Zl (h2.freeze (ownT x))) (Z:=Z3) (YB:=YD) (vf':=fun _=>none) (Z':=Z3) 4 Th.1 hx';split at he
    .split at he
     .rename_i hb hcl;cases he
      obtain⟨ZF,Xj⟩:=P.restored Th.2 true fun _ i hi=>by
       have:=List.all_eq_true.1 hcl i hi;rw[Bool.and_eq_true,Bool.not_eq_true']at this;intro hk;rw[List.any_eq_false]at this;exact this.1 i hk (by simp)
      exact⟨w,vh,ρ,ZF,rfl,(Zof 4 Th.1 hx').1,Xj⟩
     .cases he;obtain⟨ZF,Xj⟩:=P.restored Th.2 false (fun e=>by cases e);exact⟨w,vh,ρ,ZF,rfl,(Zof 4 Th.1 hx').1,Xj⟩
    .split at he
     .rename_i Zcl hev;exfalso;rw[Bool.or_eq_true]at hev;rcases hev with hev | hev
      .rw [Zog 4 x' Un.2]at hev;cases hev
      .obtain ⟨i,hi,hev⟩:=List.any_eq_true.1 hev;rw[Bool.and_eq_true,Bool.not_eq_true']at hev;obtain⟨_,⟨ver,o⟩,hxx⟩:=hok i hi;have hlt:=H.lt _ _ hxx;obtain⟨o1,ho1⟩:=Pre0.live1 (ids:=ids) hxx
       have Rv:Xr h.next o1=true:=by
        have h5:=hev.2;simp only[PH.belowAt,hxx]at h5;have ho2:=ho1;rw[Y7,hxx]at ho2;cases o with
        |row g own xs=>
         simp only at ho2;split at ho2<;>cases ho2<;>rfl
        | _=>simp only at ho2;cases ho2;exact h5
       rcases stt.same i ver o1 hlt ho1 with h1 | ⟨g,own,xs,rfl,h1⟩ | h1
       .have h5:=hev.1;simp only[PH.belowAt,h1,Rv]at h5;cases h5
       .have h5:=hev.1;simp only[PH.belowAt,h1]at h5;cases h5
       .have:=H.rho_lt hxx;omega
     .cases he
   .have Zaw:Virt.settle false vh w V9=(w,{V9 with wr:=min vh.wr V9.wr}):=by
     unfold Virt.settle;rw[if_neg];simp only[Bool.not_false,Bool.true_and,Bool.and_eq_true,Nat.ble_eq];exact Th
    rw[Zaw];split at he
    .rename_i Zcl;rw[Bool.and_eq_true]at Zcl;have Z4m:∀i∈ok,(h2.freeze (ownT x)).belowAt h.next i=true:=fun i hi=>List.all_eq_true.1 Zcl.2 i hi
     split at he
     .rename_i hcl;cases he
      obtain⟨ZF,hR,Xj⟩:=P.clean (vhF:={V9 with wr:=min vh.wr V9.wr}) rfl rfl rfl Z4m (fun i hi=>by
       have h5:=List.all_eq_true.1 hcl i hi;rw[Bool.and_eq_true,Bool.not_eq_true']at h5;refine⟨fun hk=>?_,?_⟩
       .have:=h5.1;rw[List.any_eq_false]at this;exact this i hk (by simp)
       .have h6:=h5.2;split at h6
        .rename_i ver g xs hq;refine⟨ver,g,true,xs,hq,fun _=>?_⟩;rw[Bool.and_eq_true]at h6;refine⟨h6.1,fun j hj ver o ho=>?_⟩;have:=List.all_eq_true.1 h6.2 j hj;rw[ho]at this;exact this
        .rename_i ver g xs hq;exact⟨ver,g,false,xs,hq,fun e=>by cases e⟩
        .cases h6) hx' Zcl.1
      exact⟨w,_,YD,ZF,rfl,hR,Xj⟩
     .cases he;obtain⟨ZF,hR,Xj⟩:=P.frozen (vhF:={V9 with wr:=min vh.wr V9.wr}) rfl rfl rfl Z4m hx' Zcl.1;exact⟨w,_,YD,ZF,rfl,hR,Xj⟩
    .split at he
     .cases he;exact⟨w,_,YD,Z3,rfl,hx',P.whole rfl rfl rfl Uf⟩
     .cases he
  .cases he
end
def Zf1 (sl Yv:SL):Prop:=∃e,Yv.map Prod.fst=sl.map Prod.fst++e
theorem Zf1.refl (sl:SL):Zf1 sl sl:=⟨[],by simp⟩
theorem Zf1.trans {a b c:SL}(h:Zf1 a b)(k:Zf1 b c):Zf1 a c:=by
 obtain⟨e,h⟩:=h;obtain⟨f,k⟩:=k;exact⟨e++f,by rw[k,h,List.append_assoc]⟩
theorem Zaab (sl:SL)(d:Nat)(v:Value):Zf1 sl (Zb5 sl d v):=by
 induction sl with
 |nil=>exact⟨[d],rfl⟩
 |cons x sl ih=>
  obtain⟨k,u⟩:=x;simp only[Zb5];cases Nat.beq k d with
  |true=>exact⟨[],by simp⟩
  |false=>
   obtain⟨e,he⟩:=ih;exact⟨e,by simp[he]⟩
theorem Zcq (sl:SL)(d:Option Nat)(v:Value):Zf1 sl (putV sl d v):=by
 cases d with
 |none=>exact .refl _
 |some d=>exact Zaab sl d v
theorem Zn7 {C:Ctx}{cf yf:Nat->List Value->VH->Option (Value×VH)}{all:List Oper}:∀ {l:List Oper} {sl Yv:SL} {h h':VH},Zh3 C cf yf all l sl h=some (Yv,h')->Zf1 sl Yv
 | [],sl,Yv,h,h',he=>by simp only[Zh3,Option.some.injEq,Prod.mk.injEq]at he;rw[he.1];exact .refl _
 |o::l,sl,Yv,h,h',he=>by
  simp only[Zh3]at he;split at he
  .split at he
   .exact (Zcq _ _ _).trans (Zn7 he)
   .cases he
  .exact (Zcq _ _ _).trans (Zn7 he)
  .cases he
theorem Z4x {C:Ctx}{cf yf:Nat->List Value->VH->Option (Value×VH)}{B M:Nat}{all:List Oper}{masks:Array Nat}{o:Oper}{i:Nat}{st st':DSt}(he:Zdm C cf yf B M all masks o i st=some st'):Zf1 st.sl st'.sl:=by
 unfold Zdm at he
 try dsimp only at he
 split at he
 .cases he
 .cases he;exact Zcq _ _ _
 .split at he
  .cases he;exact Zcq _ _ _
  .split at he
   .cases he
   .split at he
    .cases he
    .split at he<;>cases he<;>exact Zcq _ _ _
theorem Zq9 {C:Ctx}{cf yf:Nat->List Value->VH->Option (Value×VH)}{B M:Nat}{all:List Oper}{masks:Array Nat}:∀ {l:List Oper} {i:Nat} {st st':DSt},Zb9 C cf yf B M all masks l i st=some st'->Zf1 st.sl st'.sl
 | [],i,st,st',he=>by simp only[Zb9,Option.some.injEq]at he;subst he;exact .refl _
 |o::l,i,st,st',he=>by
  simp only[Zb9]at he;split at he
  .rename_i s hs;exact (Z4x hs).trans (Zq9 he)
  .cases he
theorem Z4z {C:Ctx}{cf yf:Nat->List Value->VH->Option (Value×VH)}{ops:Array Oper}{sl Yv:SL}{h h':VH}(he:Zi1 C cf yf ops sl h=some (Yv,h')):Zf1 sl Yv:=by
 unfold Zi1 at he
 try dsimp only at he
 split at he
 .cases he
 .rename_i st hp;have:=Zq9 hp;split at he
  .cases he
  .split at he
   .cases he;exact this
   .cases he
theorem Zq8 {sl Yv:SL}(h:Zf1 sl Yv):(Yv.take sl.length).map Prod.fst=sl.map Prod.fst:=by
 obtain⟨e,he⟩:=h;rw[List.map_take,he];simp
theorem Z4y {C:Ctx}:∀(n:Nat) (Xt:Bool) (code:Code) (sl Yv:SL) (h h':VH) (x:Ex),Virt.exec C n Xt code sl h=some (x,Yv,h')->Zf1 sl Yv:=by
 intro n
 induction n with
 |zero=>intro Xt code sl Yv h h' x he;simp[Virt.exec]at he
 |succ n ih=>
  intro Xt code sl Yv h h' x he;cases code with
  |region id ops draw=>
   rw[Virt.exec]at he
   try dsimp only at he
   rw[Option.map_eq_some_iff]at he;obtain⟨⟨a,b⟩,hx,e⟩:=he;simp only[Prod.mk.injEq]at e;obtain⟨_,rfl,_⟩:=e;cases draw with
   |true=>simp only[if_true]at hx;exact Z4z hx
   |false=>simp only[Bool.false_eq_true,if_false]at hx;exact Zn7 hx
  |seq a b=>
   rw[Virt.exec]at he
   try dsimp only at he
   split at he
   .rename_i Qz h1 hx;exact (ih _ _ _ _ _ _ _ hx).trans (ih _ _ _ _ _ _ _ he)
   .exact ih _ _ _ _ _ _ _ he
  |cond c a b=>
   rw[Virt.exec]at he
   try dsimp only at he
   split at he
   .exact ih _ _ _ _ _ _ _ he
   .exact ih _ _ _ _ _ _ _ he
   .cases he
  |block id b=>
   rw[Virt.exec]at he
   try dsimp only at he
   split at he
   .rename_i id' Qz h1 hx;have:=ih _ _ _ _ _ _ _ hx;split at he<;>cases he<;>exact this
   .exact ih _ _ _ _ _ _ _ he
  |loop b=>
   rw[Virt.exec]at he
   try dsimp only at he
   split at he
   .rename_i Qz h1 hx;have h1:=ih _ _ _ _ _ _ _ hx;have h2:=ih _ _ _ _ _ _ _ he;exact Zf1.trans ⟨[],by rw[Zq8 h1];simp⟩ h2
   .exact ih _ _ _ _ _ _ _ he
  |rangeFunc f ps as bd=>
   rw[Virt.exec]at he
   try dsimp only at he
   split at he
   .split at he
    .split at he
     .split at he
      .cases he;exact .refl _
      .cases he
     .cases he
    .cases he
   .cases he
  |skip=>simp only[Virt.exec,Option.some.injEq,Prod.mk.injEq]at he;rw[he.2.1];exact .refl _
  |exit id=>simp only[Virt.exec,Option.some.injEq,Prod.mk.injEq]at he;rw[he.2.1];exact .refl _
  |ret=>simp only[Virt.exec,Option.some.injEq,Prod.mk.injEq]at he;rw[he.2.1];exact .refl _
  | _=>simp[Virt.exec]at he
theorem Zyq {sl:SL}{t:Nat}{v:Value}(h:Xc sl t=some v):t∈sl.map Prod.fst:=by
 induction sl with
 |nil=>simp[Xc]at h
 |cons x sl ih=>
  obtain⟨k,u⟩:=x;simp only[Xc]at h;cases e:Nat.beq k t with
  |true=>simp[Nat.eq_of_beq_eq_true e]
  |false=>rw[e]at h;simp[ih h]
theorem slGet_take {sl:SL}{t k:Nat}(h:t∈(sl.take k).map Prod.fst):Xc (sl.take k) t=Xc sl t:=by
 induction sl generalizing k with
 |nil=>simp
 |cons x sl ih=>
  cases k with
  |zero=>simp at h
  |succ k=>
   obtain⟨j,u⟩:=x;simp only[List.take_succ_cons,Xc];cases e:Nat.beq j t with
   |true=>rfl
   |false=>
    simp only[List.take_succ_cons,List.map_cons,List.mem_cons]at h;rcases h with h | h
    .subst h;simp at e
    .exact ih h
section
variable {C:Ctx}{Z Z' Z1:Vg}{ρ YB:Nat->Nat}{vf vf':Nat->Option Nat}{h h':PH}{vh vh':VH}{K:Loc}{n m:Nat}{Xe Zve:Yt}{Yw vsl':SL}
theorem SR.keep (S0:SR C ρ vf Z Xe Yw)(S:SR C YB vf' Z' Zve vsl')(hg:Zf1 Yw vsl'):SR C YB vf' Z' (Zdp Xe Zve) (vsl'.take Yw.length):=by
 intro t x hx;unfold Zdp at hx;split at hx
 .rename_i y hy;obtain⟨v0,h0,_⟩:=S0 _ _ hy;obtain⟨v,h1,h2⟩:=S _ _ hx;refine⟨v,?_,h2⟩;rw[slGet_take]
  .exact h1
  .rw [Zq8 hg];exact Zyq h0
 .cases hx
def Zx1 (C:Ctx)(pex:Loc->Code->Yt->PH->Option (Ex×Yt×PH))(ex:Code->SL->VH->Option (Ex×SL×VH)):Prop:=
 ∀K m code Xe h x Zve h',pex K code Xe h=some (x,Zve,h')->Ud m code=true->∀(ρ:Nat->Nat) (Z:Vg) (vh:VH) (Yw:SL),HP C ρ Z vh h->KOk K m h.next->SR C ρ (Zl h) Z Xe Yw ->
  ∃vsl' vh' YB Z',ex code Yw vh=some (x,vsl',vh')/\SR C YB (Zl h') Z' Zve vsl'/\St C K ρ Z h vh YB Z' h' vh'
structure COkP (C:Ctx):Prop where
 ext:∀f a v,C.ext f a=some v->a=[]\/(C.raw f=true/\∃b k c,a=[.string b,.int k c])
 extP:∀f a v,C.ext f a=some v->(Zy 0 v).isSome=true
 code:∀f fn c,C.F f=some fn->fn.body=some c->Ud fn.ntmps c=true
theorem Zvy (H:HP C ρ Z vh h){ids:List Nat}(f:Frz C true ρ Z h vh ids Z1){nx:Nat}:∀ {args args':List PV} {Wl:List Value},(∀a∈args,∀i∈ownV a,i∈ids)->W2 (inlV h) args=some args' ->
  Rs C ρ (Zl h) Z args Wl->Rs C ρ (Zl ({h.freeze ids with next:=nx}:PH)) Z1 args' Wl
 | [],args',Wl,_,ha,hr=>by
   simp only[W2,Option.some.injEq]at ha;subst ha;cases hr;exact .nil
 |a::l,args',Wl,hm,ha,hr=>by
  simp only[W2]at ha;split at ha
  .rename_i y ys hy hys;cases ha;have hv:Zl ({h.freeze ids with next:=nx}:PH)=Zl (h.freeze ids):=rfl;cases hr with
   |cons h1 r=>
    refine .cons ?_ (Zvy H f (fun a ha=>hm a (by simp[ha])) hys r);rw[hv];have h1':=h1.mono (Rm.refl _ _) f.sig;rw[<- Ti ids h]at h1';exact Zik f.hp (fun i ver g own xs hi hq=>Zl7 (hm a (by simp) i hi) hq) hy h1'
  .cases ha
theorem Zgh (b:ByteArray):Zja (b.data.toList.map UInt8.toNat)=b:=by
 unfold Zja
 have:(b.data.toList.map UInt8.toNat).map Nat.toUInt8=b.data.toList:=by
  rw[List.map_map]
  conv=>rhs;rw[<- List.map_id b.data.toList]
  refine List.map_congr_left fun x _=>?_
  simp[Function.comp]
 rw[this]
theorem Z5s {ρ:Nat->Nat}{vf:Nat->Option Nat}{Z:Vg}{s:List Nat}{v:Value}(h:R C ρ vf Z (.str s) v):v=.string (Zja s):=by
 cases h with
 |d h=>cases h;rw[Zgh]
theorem Zab4 {ρ:Nat->Nat}{vf:Nat->Option Nat}{Z:Vg}{x:PV}{b:ByteArray}(h:R C ρ vf Z x (.string b)):∃s,x=.str s/\Zja s=b:=by
 cases h with
 |d h=>cases h;exact⟨_,rfl,Zgh b⟩
theorem Z5u {ρ:Nat->Nat}{vf:Nat->Option Nat}{Z:Vg}{k:IntKind}{n:Int}{v:Value}(h:R C ρ vf Z (.int k n) v):v=.int k n:=by
 cases h with
 |d h=>cases h;rfl
theorem Z5t {ρ:Nat->Nat}{vf:Nat->Option Nat}{Z:Vg}{x:PV}{k:IntKind}{n:Int}(h:R C ρ vf Z x (.int k n)):x=.int k n:=by
 cases h with
 |d h=>cases h;rfl
theorem Zfn (hC:COkP C){pex:Loc->Code->Yt->PH->Option (Ex×Yt×PH)}{ex:Code->SL->VH->Option (Ex×SL×VH)}(hex:Zx1 C pex ex)(K:Loc)(m:Nat):Zjg C K m (callF C pex) (Virt.callF C ex):=by
 intro f args h r he ρ Z vh Wl H hK Xu;unfold callF at he;unfold Virt.callF;split at he
 .rename_i x hx;cases he;unfold extP at hx;split at hx
  .cases Xu;simp only[Option.bind_eq_some_iff]at hx;obtain⟨w,h1,h2⟩:=hx;rw[h1];exact⟨w,vh,ρ,Z,rfl,.d (Qf 0 w h2),St.refl H⟩
  .split at hx
   .cases Xu with
    |cons r1 r2=>
     cases r2 with
     |cons r2 r3=>
      cases r3;rw[Z5s r1,Z5u r2];simp only[Option.bind_eq_some_iff]at hx;obtain⟨w,h1,h2⟩:=hx;rw[h1];exact⟨w,vh,ρ,Z,rfl,.d (Qf 0 w h2),St.refl H⟩
   .cases hx
  .cases hx
 rename_i U3
 have Z9j:C.ext f Wl=none:=by
  cases e:C.ext f Wl with
  |none=>rfl
  |some w=>
   have hs:=hC.extP f _ w e;rcases hC.ext f _ w e with rfl | ⟨Y4,b,k,c,rfl⟩
   .cases Xu;simp only[extP,e,Option.bind_some]at U3;rw[U3]at hs;cases hs
   .cases Xu with
    |cons r1 r2=>
     cases r2 with
     |cons r2 r3=>
      cases r3;obtain⟨s,rfl,hb⟩:=Zab4 r1;have h2:=Z5t r2;subst h2;simp only[extP,Y4,if_true,hb,e,Option.bind_some]at U3;rw[U3]at hs;cases hs
 rw[Z9j]
 try dsimp only
 split at he
 .cases he
 .rename_i fn hF;rw[hF]
  try dsimp only
  split at he
  .cases he
  .rename_i c Zq6;rw[Zq6]
   try dsimp only
   have Ua:=hC.code _ _ _ hF Zq6;split at he
   ·
    rename_i Y4;have H1:HP C ρ Z {vh with wr:=vh.next} {h with next:=h.next+fn.ntmps}:=H.sub rfl (fun i x hx=>Nat.lt_of_lt_of_le (H.lt i x hx) (Nat.le_add_right _ _)) rfl (Nat.le_refl _) (Nat.le_refl _);have Rj:K.lo<=h.next:=by have:=hK.1;have:=hK.2;omega
    have key:∀x Yv h2,pex {base:=h.next,lo:=K.lo,ok:=K.ok} c (Qn 0 args) {h with next:=h.next+fn.ntmps}=some (x,Yv,h2)->(match Uz C Yv h2 fn.results.toList with
      |none=>none
      |some vs=>if h2.next=h.next+fn.ntmps/\Zfl h2 h.next h2.next=true then some (Vq vs,{h2 with next:=h.next}) else some (Vq vs,h2))=some r ->
      ∃vsl' V9,ex c (Ub 0 Wl) {vh with wr:=vh.next}=some (x,vsl',V9)/\Zf0 C K ρ Z h vh r.1 r.2 ((Zhv C vsl' V9 fn.results.toList).map fun vs=>Virt.settle (C.raw f) vh (Zpg vs) V9):=by
     intro x Yv h2 hp hr;obtain⟨vsl',V9,YD,Z2,e1,S2,st⟩:=hex _ _ _ _ _ _ _ _ hp Ua ρ Z _ (Ub 0 Wl) H1 ⟨Rj,Nat.le_refl _⟩ (Zue Xu);refine⟨vsl',V9,e1,?_⟩;split at hr
     .cases hr
     .rename_i vs Th;obtain⟨vvs,hv1,hv2⟩:=Zhw st.hp S2 Th;have Zwe:=Zvq hv2;rw[hv1,Y4]
      have Zaw:Virt.settle true vh (Zpg vvs) V9=(Zpg vvs,{V9 with wr:=min vh.wr V9.wr}):=by
       unfold Virt.settle;simp
      simp only[Option.map_some];rw[Zaw]
      have base:∀hF:PH,hF.get=h2.get->h.next<=hF.next->(∀i x,hF.get i=some x->i < hF.next)->St C K ρ Z h vh YD Z2 hF {V9 with wr:=min vh.wr V9.wr}:=by
       intro hF hg hn hlt;have hvf:Zl hF=Zl h2:=by unfold Zl;rw[hg]
       refine⟨st.hp.sub hg (fun i x hx=>hlt i x (by rw[hg];exact hx)) rfl (Nat.le_refl _) (Nat.le_trans (Nat.min_le_right _ _) st.hp.wr),by rw[hvf];exact st.ext,st.sig,hn,st.vnext,Nat.min_le_left _ _,fun i hi=>by rw[hg];exact st.keep i hi,fun i ver o Rj ho=>?_,fun i x hx=>st.plc i x (by rw[<- hg];exact hx),fun i x hx hc=>st.vkeep i x hx hc,fun q hq hn hi=>st.vnone q hq hn hi,fun b h1 h2 h3=>Nat.le_min.2 ⟨h2,st.low b h1 h1 h3⟩⟩;rw[hg];rcases st.same i ver o Rj ho with h5 | h5 | h5
       .exact .inl h5
       .exact .inr (.inl h5)
       .exact .inr (.inr (Nat.le_trans (Nat.min_le_right _ _) h5))
      split at hr
      .rename_i Rk;cases hr
       have hlt:∀i x,h2.get i=some x->i < h.next:=by
        intro i x hx;rcases Nat.lt_or_ge i h.next with h5 | h5
        .exact h5
        .exfalso;have h6:=st.hp.lt i x hx;have h7:=List.all_eq_true.1 Rk.2 (i - h.next) (List.mem_range.2 (by omega));rw[show h.next+(i - h.next)=i by omega,hx]at h7;cases h7
       exact⟨Zpg vvs,_,YD,Z2,rfl,Zwe,base _ rfl (Nat.le_refl _) hlt⟩
      .cases hr;exact⟨Zpg vvs,_,YD,Z2,rfl,Zwe,base _ rfl (Nat.le_trans (Nat.le_add_right _ _) st.next) st.hp.lt⟩
    split at he
    .rename_i Yv h2 hp;obtain⟨vsl',V9,e1,e2⟩:=key _ _ _ hp he;rw[e1];exact e2
    .rename_i Yv h2 hp;obtain⟨vsl',V9,e1,e2⟩:=key _ _ _ hp he;rw[e1];exact e2
    .cases he
   .rename_i Y4
    try dsimp only at he
    split at he
    .cases he
    .rename_i args' Zzq;split at he
     .rename_i Zeu;rw[Bool.and_eq_true]at Zeu;obtain⟨Z1,fz⟩:=frz (bt:=true) (args.flatMap ownV) H;have Uf:h.next<=h.next+fn.ntmps:=Nat.le_add_right _ _;have H1:HP C ρ Z1 {vh with wr:=vh.next} {h.freeze (args.flatMap ownV) with next:=h.next+fn.ntmps}:=fz.hp.sub rfl (fun i x hx=>by have:=fz.hp.lt i x hx;rw[Xm]at this;exact Nat.lt_of_lt_of_le this Uf) rfl (Nat.le_refl _) (Nat.le_refl _);have Zzy:=Zvy (nx:=h.next+fn.ntmps) H fz (fun a ha i hi=>List.mem_flatMap.2 ⟨a,ha,hi⟩) Zzq Xu
      have hok:∀i∈reach h 4 (args'.flatMap (refs 3)),can K i=true/\∃x,h.get i=some x:=fun i hi=>by
       have:=List.all_eq_true.1 Zeu.1 i hi;rw[Bool.and_eq_true]at this;exact⟨this.1,Option.isSome_iff_exists.1 this.2⟩
      have hids:∀i∈args.flatMap ownV,can K i=true:=fun i hi=>List.all_eq_true.1 Zeu.2 i hi
      have hrw:C.raw f=false:=by simpa using Y4
      have key:∀x Yv h2,pex {base:=h.next,lo:=h.next,ok:=reach h 4 (args'.flatMap (refs 3))} c (Qn 0 args') {h.freeze (args.flatMap ownV) with next:=h.next+fn.ntmps}=some (x,Yv,h2) ->
        (match Uz C Yv h2 fn.results.toList with
        |none=>none
        |some vs=>Wo h h2 (reach h 4 (args'.flatMap (refs 3))) (args.flatMap ownV) (Vq vs))=some r ->
        ∃vsl' V9,ex c (Ub 0 Wl) {vh with wr:=vh.next}=some (x,vsl',V9)/\Zf0 C K ρ Z h vh r.1 r.2 ((Zhv C vsl' V9 fn.results.toList).map fun vs=>Virt.settle (C.raw f) vh (Zpg vs) V9):=by
       intro x Yv h2 hp hr;obtain⟨vsl',V9,YD,Z2,e1,S2,st⟩:=hex _ _ _ _ _ _ _ _ hp Ua ρ Z1 _ (Ub 0 Wl) H1 ⟨Nat.le_refl _,Nat.le_refl _⟩ (Zue Zzy);refine⟨vsl',V9,e1,?_⟩;split at hr
       .cases hr
       .rename_i vs Th;obtain⟨vvs,hv1,hv2⟩:=Zhw st.hp S2 Th;rw[hv1,hrw];exact Zyr H hK hok hids fz H1 Uf st (Zvq hv2) hr
      split at he
      .rename_i Yv h2 hp;obtain⟨vsl',V9,e1,e2⟩:=key _ _ _ hp he;rw[e1];exact e2
      .rename_i Yv h2 hp;obtain⟨vsl',V9,e1,e2⟩:=key _ _ _ hp he;rw[e1];exact e2
      .cases he
     .cases he
theorem Z3m {ps:List Nat}:∀ {Xe:Yt} {Yw:SL} {xs:List PV} {vs:List Value},SR C ρ vf Z Xe Yw->Rs C ρ vf Z xs vs->SR C ρ vf Z (Zeb Xe (ps.zip xs)) (Zed Yw (ps.zip vs)):=by
 induction ps with
 |nil=>intro Xe Yw xs vs S _;simpa[Zeb,Zed]using S
 |cons p ps ih=>
  intro Xe Yw xs vs S h;cases h with
  |nil=>simpa[Zeb,Zed]using S
  |cons h r=>simp only[List.zip_cons_cons,Zeb,Zed];exact ih (S.put p h) r
theorem St.wider {K K0:Loc}{Z':Vg}(st:St C K0 ρ Z h vh YB Z' h' vh')(Rj:K.lo<=K0.lo)(hc:∀i,can K0 i=true->can K i=true):St C K ρ Z h vh YB Z' h' vh':=
 ⟨st.hp,st.ext,st.sig,st.next,st.vnext,st.wr,fun i hi=>st.keep i (by cases e:can K0 i with | false=>rfl | true=>rw[hc i e]at hi;cases hi),fun i ver o hl=>st.same i ver o (Nat.lt_of_lt_of_le hl Rj),st.plc,fun i x hx hi=>st.vkeep i x hx (by cases e:can K0 i with | false=>rfl | true=>rw[hc i e]at hi;cases hi),st.vnone,fun b h1 h2 h3=>st.low b h1 h2 fun i x hx hi=>h3 i x hx (hc i hi)⟩
theorem Zjr (H:HP C ρ Z vh h){i ver:Nat}{ob0 ob:PO}{vo:Option VO}(hi:h.get i=some (ver,ob0))(Rj:K.lo<=i)(hz:Z (ρ i)=none)
  (ho:∀YB vf',Rm ρ (Zl h) YB vf'->OR C YB vf' Z h.next (vh.put (ρ i) vo) i (ρ i) ob):
  St C K ρ Z h vh (fun j=>if j=i then ρ i else ρ j) Z (h.put i ver ob) (vh.put (ρ i) vo):=by
 refine HP.change H (.inl rfl) (H.lt _ _ hi) (by unfold can;rw[Bool.or_eq_true,Nat.ble_eq];exact .inl Rj) (fun w o' hw=>?_) (H.rho_lt hi) (.inl ⟨_,hi,rfl⟩) (Nat.le_refl _) (Nat.le_refl _) (fun h1 _=>by omega) (fun q hq _=>?_) (fun _ _=>.inl hz) hz (fun q y hq=>?_) (fun YB vf' _ _ he=>ho YB vf' he)
 .rw [hi]at hw;cases hw;exact⟨Nat.le_refl _,fun _=>rfl⟩
 .simp [VH.put,S9 hq]
 .by_cases e:q=ρ i
  .subst e;exact H.rho_lt hi
  .simp only [VH.put,S9 e,cond_false]at hq;exact H.vlt _ _ hq
theorem Zm2 {i:Nat}:(fun j=>if j=i then ρ i else ρ j)=ρ:=by
 funext j;by_cases e:j=i
 .simp [e]
 .simp [e]
theorem Zyf {pex:Loc->Code->Yt->PH->Option (Ex×Yt×PH)}{ex:Code->SL->VH->Option (Ex×SL×VH)}(hex:Zx1 C pex ex)(K:Loc)(m:Nat):YfSim C K m (Pure.yieldF pex) (Virt.yieldF ex):=by
 intro l ver args h r he ρ Z vh Wl w H hK Xu hw;unfold Pure.yieldF at he;split at he
 .rename_i w0 K0 Uc ps as bd hl;split at he
  .rename_i hc;obtain⟨rfl,hlen,Rj,hok⟩:=hc
   have hwv:w=.func (.yield (ρ l)) #[] #[]:=by
    cases hw with
    |d h=>cases h
    |yield i ver c p hi hv ha=>
     rw[Zr.2 ⟨_,hl⟩]at hi;cases hi;rw[ha rfl]
   refine⟨ρ l,hwv,?_⟩;rw[Nat.ble_eq]at Rj;cases H.obj _ _ _ hl with
   |loop K0 n sl Yw ps as bd hz hg hsl hK0 hb h1 h2=>
    unfold Virt.yieldF;rw[hg]
    try dsimp only
    rw[if_pos (by rw[Xu.length];exact hlen)];have hKl:K.lo<=l:=by omega
    have Zz:∀i,can K0 i=true->can K i=true:=by
     intro i hi;unfold can at hi;rw[Bool.or_eq_true]at hi;rcases hi with hi | hi
     .rw [Nat.ble_eq]at hi;unfold can;rw[Bool.or_eq_true,Nat.ble_eq];exact .inl (by omega)
     .obtain ⟨y,hy,e⟩:=List.any_eq_true.1 hi;rw[Nat.beq_eq]at e;subst e;exact List.all_eq_true.1 hok _ hy
    have st0:=Zjr (K:=K) (ob:=.gone) (vo:=none) H hl hKl hz fun YB vf' _=>.gone (H.rho_lt hl) hz
    rw[Zm2]at st0;have hKOk:KOk K0 n h.next:=⟨hK0,by have:=H.lt _ _ hl;omega⟩
    have S0:=Z3m (ps:=ps) (hsl.mono st0.ext st0.sig) (Rs.mono st0.ext st0.sig Xu);split at he
    .rename_i Qz h1' hx1;obtain⟨Zfq,vh1,YE,Z1,a1,a2,a3⟩:=hex _ _ _ _ _ _ _ _ hx1 h1 ρ Z _ _ st0.hp hKOk S0;rw[a1]
     try dsimp only
     split at he
     .rename_i sl2 h2' hx2;obtain⟨vsl2,V9,YD,Z2,b1,b2,b3⟩:=hex _ _ _ _ _ _ _ _ hx2 h2 YE Z1 _ _ a3.hp ⟨hKOk.1,Nat.le_trans hKOk.2 a3.next⟩ a2;rw[b1]
      try dsimp only
      split at he
      .rename_i w2 Z9c;split at he
       .rename_i e;subst e;cases he;have st2:St C K ρ Z h vh YD Z2 h2' V9:=(st0.trans H (a3.wider Rj Zz)).trans H (b3.wider Rj Zz)
        have Zfw:YD l=ρ l:=by
         obtain⟨c',q1,_,q3⟩:=st2.ext l w2 (Zr.2 ⟨_,hl⟩);rw[Zr.2 ⟨_,Z9c⟩]at q1;cases q1;exact q3 rfl
        have hz2:Z2 (YD l)=none:=by
         cases st2.hp.obj _ _ _ Z9c with
         |gone q1 q2=>exact q2
        have st3:=Zjr (K:=K) (ob:=.loop K0 Uc ps as bd) (vo:=some (.loop Yw ps as bd)) st2.hp Z9c hKl hz2 fun YB vf' hE=>.loop K0 n Uc Yw ps as bd hz2 (by simp[VH.put]) ((hsl.mono st2.ext st2.sig).mono hE (Vg.le.refl _)) hK0 hb h1 h2
        rw[Zm2,Zfw]at st3;exact⟨.bool true,_,_,_,rfl,.d (.bool true),st2.trans H st3⟩
       .cases he
      .cases he
     .cases he
    .cases he
  .cases he
 .cases he
def Zjf (C:Ctx)(pcf:CF)(cf:Nat->List Value->VH->Option (Value×VH)):Prop:=
 ∀K f args h v h',pcf K f args h=some (v,h')->C.raw f=false->args.flatMap ownV=[]->args.flatMap (refs 3)=[]->Xz 4 v=true ->
  h'=h/\∀(ρ:Nat->Nat) (Z:Vg) (vh:VH) (Wl:List Value),HP C ρ Z vh h->vh.wr=vh.next->Rs C ρ (Zl h) Z args Wl->∃w,cf f Wl vh=some (w,vh)/\R C ρ (Zl h) Z v w
theorem Z30 {h:PH}{a:PV}(ha:ownV a=[]):inlV h a=some a:=by
 have hc:∀cs:List PV,cs.flatMap Zc7=[]->W2 (Zc9 h) cs=some cs:=by
  intro cs
  induction cs with
  |nil=>intro _;rfl
  |cons c cs ih=>
   intro hh;rw[List.flatMap_cons,List.append_eq_nil_iff]at hh;simp only[W2,ih hh.2];cases c<;>simp_all[Zc7,Zc9]
 cases a with
 |agg cs=>simp only[inlV];rw[hc cs ha];rfl
 |own=>simp[ownV,Zc7]at ha
 | _=>rfl
theorem Zqr {h:PH}:∀ {args:List PV},args.flatMap ownV=[]->W2 (inlV h) args=some args
 | [],_=>rfl
 |a::l,ho=>by
  rw[List.flatMap_cons,List.append_eq_nil_iff]at ho;simp only[W2,Z30 ho.1,Zqr ho.2]
theorem Z7a (hC:COkP C){pex:Loc->Code->Yt->PH->Option (Ex×Yt×PH)}{ex:Code->SL->VH->Option (Ex×SL×VH)}(hex:Zx1 C pex ex):Zjf C (Pure.callF C pex) (Virt.callF C ex):=by
 intro K f args h v h' he Y4 ho hr hv
 have key:h'=h/\Pure.callF C pex {base:=h.next,lo:=h.next,ok:=[]} f args h=some (v,h):=by
  unfold Pure.callF at he ⊢;cases hx:extP C f args with
  |some w=>
   rw[hx]at he;cases he;exact⟨rfl,rfl⟩
  |none=>
   rw[hx]at he;simp only at he ⊢;cases hF:C.F f with
   |none=>rw[hF]at he;cases he
   |some fn=>
    rw[hF]at he;simp only at he ⊢;cases hb:fn.body with
    |none=>rw[hb]at he;cases he
    |some c=>
     rw[hb]at he;simp only[Y4,Bool.false_eq_true,if_false,Zqr ho,ho,hr,reach,List.all_nil,Bool.and_true,if_true]at he ⊢
     have Zaw:∀h2 x,Wo h h2 [] [] x=some (v,h')->h'=h:=by
      intro h2 x hs;unfold Wo at hs;split at hs
      .cases hs
      .rename_i v' hi;simp only[List.any_nil,Bool.or_false,List.all_nil,Bool.and_true,Yd,PH.freeze,if_true]at hs;split at hs
       .split at hs
        .simp only [Option.some.injEq,Prod.mk.injEq]at hs;exact hs.2.symm
        .split at hs
         .rename_i hf;simp only[Option.some.injEq,Prod.mk.injEq]at hs;rw[hs.1,Zog 4 v hv]at hf;cases hf
         .cases hs
       .cases hs
     have Zar7:∀(q:Option (Ex×Yt×PH)),(match q with
       |some (.normal,Yv,h2) | some (.ret,Yv,h2)=>
        (match Uz C Yv h2 fn.results.toList with
        |none=>none
        |some vs=>Wo h h2 [] [] (Vq vs))
       | _=>none)=some (v,h')->h'=h:=by
      intro q hq;split at hq
      .split at hq
       .cases hq
       .exact Zaw _ _ hq
      .split at hq
       .cases hq
       .exact Zaw _ _ hq
      .cases hq
     have e:=Zar7 _ he;subst e;exact⟨rfl,he⟩
 obtain⟨rfl,hc⟩:=key;refine⟨rfl,fun ρ Z vh Wl H hw ha=>?_⟩;obtain⟨w,vh1,YE,Z1,q1,q2,q3⟩:=Zfn hC hex {base:=h'.next,lo:=h'.next,ok:=[]} 0 f args h' _ hc ρ Z vh Wl H ⟨Nat.le_refl _,Nat.le_refl _⟩ ha;have hfw:flat 4 w=true:=Zab5 4 hv q2
 have hlow:vh.next<=vh1.wr:=q3.low vh.next (Nat.le_refl _) (by rw[hw];exact Nat.le_refl _) fun i x hx Zz=>by
  exfalso;have:=H.lt i x hx;unfold can at Zz;simp only[List.any_nil,Bool.or_false,Nat.ble_eq]at Zz;omega
 have Ws:vh1=vh:=by
  unfold Virt.callF at q1;split at q1
  .rename_i w' _;simp only[Option.some.injEq,Prod.mk.injEq]at q1;exact q1.2.symm
  .split at q1
   .cases q1
   .split at q1
    .cases q1
    .have Zaw:∀(vv:Value) (h2:VH),Virt.settle (C.raw f) vh vv h2=(w,vh1)->vh1=vh:=by
      intro vv h2 hs;unfold Virt.settle at hs;split at hs
      .simp only [Prod.mk.injEq]at hs;exact hs.2.symm
      .rename_i hn;simp only[Prod.mk.injEq]at hs;obtain⟨rfl,rfl⟩:=hs;exfalso;apply hn;simp only[Y4,hfw,Bool.not_false,Bool.true_and,Nat.ble_eq];exact Nat.le_trans hlow (Nat.min_le_right _ _)
     split at q1
     .rw [Option.map_eq_some_iff]at q1;obtain⟨vs,_,hs⟩:=q1;exact Zaw _ _ hs
     .rw [Option.map_eq_some_iff]at q1;obtain⟨vs,_,hs⟩:=q1;exact Zaw _ _ hs
     .cases q1
 subst Ws;exact⟨w,q1,(Zof 4 hfw q2).1⟩
def Ze7 (C:Ctx)(pcf:CF)(cf:Nat->List Value->VH->Option (Value×VH)):Prop:=
 ∀K f args h v h',pcf K f args h=some (v,h')->C.raw f=false->∀args',W2 (inlV h) args=some args'->∀(ρ:Nat->Nat) (Z:Vg) (vh:VH) (Wl:List Value),HP C ρ Z vh h->Rs C ρ (Zl h) Z args Wl ->
  ∀w vh1,cf f Wl vh=some (w,vh1)->∀u,u∉reach h 4 (args'.flatMap (refs 3))++args.flatMap ownV->(∃x,h.get u=some x)->vh1.get (ρ u)=vh.get (ρ u)/\h'.get u=h.get u
theorem Z27 (hC:COkP C){pex:Loc->Code->Yt->PH->Option (Ex×Yt×PH)}{ex:Code->SL->VH->Option (Ex×SL×VH)}(hex:Zx1 C pex ex):Ze7 C (Pure.callF C pex) (Virt.callF C ex):=by
 intro K f args h v h' he Y4 args' hm ρ Z vh Wl H ha w vh1 hw u hu hx
 have key:Pure.callF C pex {base:=h.next,lo:=h.next,ok:=reach h 4 (args'.flatMap (refs 3))++args.flatMap ownV} f args h=some (v,h'):=by
  unfold Pure.callF at he ⊢;cases hx:extP C f args with
  |some w=>rw[hx]at he;exact he
  |none=>
   rw[hx]at he;simp only at he ⊢;cases hF:C.F f with
   |none=>rw[hF]at he;cases he
   |some fn=>
    rw[hF]at he;simp only at he ⊢;cases hb:fn.body with
    |none=>rw[hb]at he;cases he
    |some c=>
     rw[hb]at he;simp only[Y4,Bool.false_eq_true,if_false,hm]at he ⊢;split at he
     .rename_i hok;rw[Bool.and_eq_true,List.all_eq_true,List.all_eq_true]at hok;rw[if_pos]
      .exact he
      .rw [Bool.and_eq_true,List.all_eq_true,List.all_eq_true]
       have hc:∀i,i∈reach h 4 (args'.flatMap (refs 3))++args.flatMap ownV->can {base:=h.next,lo:=h.next,ok:=reach h 4 (args'.flatMap (refs 3))++args.flatMap ownV} i=true:=fun i hi=>by
        unfold can;rw[Bool.or_eq_true];exact .inr (List.any_eq_true.2 ⟨i,hi,Nat.beq_refl i⟩)
       refine⟨fun i hi=>?_,fun i hi=>hc i (List.mem_append_right _ hi)⟩;have:=hok.1 i hi;rw[Bool.and_eq_true]at this ⊢;exact⟨hc i (List.mem_append_left _ hi),this.2⟩
     .cases he
 obtain⟨w',V9,YE,Z1,q1,q2,q3⟩:=Zfn hC hex {base:=h.next,lo:=h.next,ok:=reach h 4 (args'.flatMap (refs 3))++args.flatMap ownV} 0 f args h _ key ρ Z vh Wl H ⟨Nat.le_refl _,Nat.le_refl _⟩ ha;rw[hw]at q1;cases q1;obtain⟨x,hx⟩:=hx
 suffices hcn:can {base:=h.next,lo:=h.next,ok:=reach h 4 (args'.flatMap (refs 3))++args.flatMap ownV} u=false from ⟨q3.vkeep u x hx hcn,q3.keep u hcn⟩
 have hlt:=H.lt u x hx;unfold can;rw[Bool.or_eq_false_iff];constructor
 .rw [<- Bool.not_eq_true,Nat.ble_eq];show ¬ h.next<=u;omega
 .rw [<- Bool.not_eq_true];intro hh;obtain⟨i,hi,hb⟩:=List.any_eq_true.1 hh;rw[Nat.beq_eq]at hb;subst hb;exact hu hi
def Z23 (C:Ctx):Prop:=∀(K:Loc) (n:Nat) (pcf:CF) (pyf:YF) (cf yf:Nat->List Value->VH->Option (Value×VH)),Zjg C K n pcf cf->YfSim C K n pyf yf->Zjf C pcf cf->Ze7 C pcf cf->Za9 cf->Za9 yf->∀(ops:Array Oper) (Xe:Yt) (Yw:SL) (h:PH) (vh:VH) (ρ:Nat->Nat) (Z:Vg) (q:Yt×PH),HP C ρ Z vh h ->
 SR C ρ (Zl h) Z Xe Yw->KOk K n h.next->(∀o∈ops.toList,∀d,o.dst=some d->d < n)->Zte ops=true->Zct C pcf pyf K ops Xe h=some q->∃vsl' vh' YB Z',Zi1 C cf yf ops Yw vh=some (vsl',vh')/\SR C YB (Zl q.2) Z' q.1 vsl'/\St C K ρ Z h vh YB Z' q.2 vh'
theorem Zaad (hC:COkP C)(hD:Z23 C):∀n Xt,Zx1 C (fun K=>Pure.exec C n K Xt) (Virt.exec C n Xt):=by
 intro n
 induction n with
 |zero=>intro Xt K m code Xe h x Zve h' he;simp[Pure.exec]at he
 |succ n ih=>
  intro Xt K m code Xe h x Zve h' he Ua ρ Z vh Yw H hK S;replace he:Pure.exec C (n+1) K Xt code Xe h=some (x,Zve,h'):=he;have hcf:=Zfn hC (ih true) K m;have hyf:=Zyf (ih false) K m;have hi:=ih Xt;cases code with
  |skip=>rw[Pure.exec]at he;cases he;exact⟨Yw,vh,ρ,Z,by rw[Virt.exec],S,St.refl H⟩
  |exit id=>rw[Pure.exec]at he;cases he;exact⟨Yw,vh,ρ,Z,by rw[Virt.exec],S,St.refl H⟩
  |ret=>rw[Pure.exec]at he;cases he;exact⟨Yw,vh,ρ,Z,by rw[Virt.exec],S,St.refl H⟩
  |region id ops draw=>
   rw[Pure.exec]at he
   try dsimp only at he
   rw[Option.map_eq_some_iff]at he;obtain⟨⟨a,b⟩,hx,e⟩:=he;simp only[Prod.mk.injEq]at e;obtain⟨rfl,rfl,rfl⟩:=e
   have hd:∀o∈ops.toList,∀d,o.dst=some d->d < m:=fun o ho d hd=>by
    have:=List.all_eq_true.1 (by simp only[Ud,Bool.and_eq_true]at Ua;exact Ua.1) o ho;simp only[hd]at this;exact Nat.blt_eq ▸ this
   rw[Virt.exec]
   try dsimp only
   cases draw with
   |true=>
    simp only[if_true]at hx ⊢;obtain⟨vsl',vh',YB,Z',a1,a2,a3⟩:=hD K m _ _ _ _ hcf hyf (Z7a hC (ih true)) (Z27 hC (ih true)) (Vw.callF (Vw.exec n true)) (Vw.yieldF (Vw.exec n false)) ops Xe Yw h vh ρ Z _ H S hK hd (by simp only[Ud,Bool.and_eq_true,Bool.not_true,Bool.false_or]at Ua;exact Ua.2) hx;exact⟨vsl',vh',YB,Z',by rw[a1];rfl,a2,a3⟩
   |false=>
    simp only[Bool.false_eq_true,if_false]at hx ⊢;obtain⟨vsl',vh',YB,Z',a1,a2,a3⟩:=Z7e hcf hyf ops.toList H S hK hd hx;exact⟨vsl',vh',YB,Z',by rw[a1];rfl,a2,a3⟩
  |seq a b=>
   simp only[Ud,Bool.and_eq_true]at Ua;rw[Pure.exec]at he
   try dsimp only at he
   rw[Virt.exec]
   try dsimp only
   split at he
   .rename_i Qz h1 hx;obtain⟨Zfq,vh1,YE,Z1,a1,a2,a3⟩:=hi _ _ _ _ _ _ _ _ hx Ua.1 ρ Z vh Yw H hK S;rw[a1]
    try dsimp only
    obtain⟨vsl2,V9,YD,Z2,b1,b2,b3⟩:=hi _ _ _ _ _ _ _ _ he Ua.2 YE Z1 vh1 Zfq a3.hp ⟨hK.1,Nat.le_trans hK.2 a3.next⟩ a2;exact⟨vsl2,V9,YD,Z2,b1,b2,a3.trans H b3⟩
   .rename_i Yn;obtain⟨Zfq,vh1,YE,Z1,a1,a2,a3⟩:=hi _ _ _ _ _ _ _ _ he Ua.1 ρ Z vh Yw H hK S;rw[a1];cases x with
    |normal=>exact absurd he (Yn _ _)
    |exit id=>exact⟨Zfq,vh1,YE,Z1,rfl,a2,a3⟩
    |ret=>exact⟨Zfq,vh1,YE,Z1,rfl,a2,a3⟩
  |cond c a b=>
   simp only[Ud,Bool.and_eq_true]at Ua;rw[Pure.exec]at he
   try dsimp only at he
   rw[Virt.exec]
   try dsimp only
   split at he
   .rename_i hc;obtain⟨w,h1,h2⟩:=Zj S hc;rw[h1,h2.bool_inv];exact hi _ _ _ _ _ _ _ _ he Ua.1 ρ Z vh Yw H hK S
   .rename_i hc;obtain⟨w,h1,h2⟩:=Zj S hc;rw[h1,h2.bool_inv];exact hi _ _ _ _ _ _ _ _ he Ua.2 ρ Z vh Yw H hK S
   .cases he
  |block id b=>
   rw[Pure.exec]at he
   try dsimp only at he
   rw[Virt.exec]
   try dsimp only
   split at he
   .rename_i id' Qz h1 hx;obtain⟨Zfq,vh1,YE,Z1,a1,a2,a3⟩:=hi _ _ _ _ _ _ _ _ hx Ua ρ Z vh Yw H hK S;rw[a1]
    try dsimp only
    split at he
    .rename_i e;cases he;exact⟨Zfq,vh1,YE,Z1,by rw[if_pos e],a2,a3⟩
    .rename_i e;cases he;exact⟨Zfq,vh1,YE,Z1,by rw[if_neg e],a2,a3⟩
   .rename_i Yn;obtain⟨Zfq,vh1,YE,Z1,a1,a2,a3⟩:=hi _ _ _ _ _ _ _ _ he Ua ρ Z vh Yw H hK S;rw[a1];cases x with
    |exit id=>exact absurd he (Yn _ _ _)
    |normal=>exact⟨Zfq,vh1,YE,Z1,rfl,a2,a3⟩
    |ret=>exact⟨Zfq,vh1,YE,Z1,rfl,a2,a3⟩
  |loop b=>
   rw[Pure.exec]at he
   try dsimp only at he
   rw[Virt.exec]
   try dsimp only
   split at he
   .rename_i Qz h1 hx;obtain⟨Zfq,vh1,YE,Z1,a1,a2,a3⟩:=hi _ _ _ _ _ _ _ _ hx Ua ρ Z vh Yw H hK S;rw[a1]
    try dsimp only
    obtain⟨vsl2,V9,YD,Z2,b1,b2,b3⟩:=hi _ _ _ _ _ _ _ _ he Ua YE Z1 vh1 _ a3.hp ⟨hK.1,Nat.le_trans hK.2 a3.next⟩ (S.keep a2 (Z4y _ _ _ _ _ _ _ _ a1));exact⟨vsl2,V9,YD,Z2,b1,b2,a3.trans H b3⟩
   .rename_i Yn;obtain⟨Zfq,vh1,YE,Z1,a1,a2,a3⟩:=hi _ _ _ _ _ _ _ _ he Ua ρ Z vh Yw H hK S;rw[a1];cases x with
    |normal=>exact absurd he (Yn _ _)
    |exit id=>exact⟨Zfq,vh1,YE,Z1,rfl,a2,a3⟩
    |ret=>exact⟨Zfq,vh1,YE,Z1,rfl,a2,a3⟩
  |rangeFunc f ps as bd=>
   simp only[Ud,Bool.and_eq_true]at Ua;rw[Pure.exec]at he
   try dsimp only at he
   rw[Virt.exec]
   try dsimp only
   split at he
   .rename_i hr;rw[if_pos hr];split at he
    .rename_i g first captured hf
     obtain⟨w,W8,Vk⟩:=Zj S hf;cases Vk with
     |d h=>cases h
     |fn g first captured a' c' r1 r2=>
      rw[W8]
      try dsimp only
      split at he
      .rename_i Y4;split at he
       .rename_i u h2 Zk6;have H1:HP C ρ Z vh {h with next:=h.next+1}:=H.sub rfl (fun i x hx=>Nat.lt_succ_of_lt (H.lt i x hx)) rfl (Nat.le_refl _) H.wr
        have Zky:h.get h.next=none:=by
         cases e:h.get h.next with
         |none=>rfl
         |some y=>exact absurd (H.lt _ _ e) (Nat.lt_irrefl _)
        have hKl:K.lo<=h.next:=by have:=hK.1;have:=hK.2;omega
        have Zz:can K h.next=true:=by unfold can;rw[Bool.or_eq_true,Nat.ble_eq];exact .inl hKl
        have Zail:∀q,q≠vh.next->(vh.new (.loop Yw ps.toList as bd)).get q=vh.get q:=fun q hq=>by simp[VH.new,S9 hq]
        have stL:=HP.change (K:=K) (vh':=vh.new (.loop Yw ps.toList as bd)) (ver':=0) (p:=vh.next) (o:=.loop K Xe ps.toList as bd) H1 (.inl rfl) (i:=h.next) (Nat.lt_succ_self _) Zz (fun ver o' hh=>by
          have hh':h.get h.next=some (ver,o'):=hh;rw[Zky]at hh';cases hh') (by simp[VH.new]) (.inr (Nat.le_refl _)) (by simp[VH.new]) (Nat.le_refl _) (fun hlt=>by omega)
         (fun q hq _=>Zail q hq) (fun y hy=>by
           have hy':h.get h.next=some y:=hy
           rw[Zky]at hy';cases hy') (Q0 H) (fun q y hq=>by
            by_cases e:q=vh.next
            .subst e;simp[VH.new]
            .rw [Zail q e]at hq;have:=H.vlt _ _ hq;simp only[VH.new];omega) (fun YB vf' _ _ hE=>.loop K m Xe Yw ps.toList as bd (Q0 H) (by simp[VH.new]) (S.mono hE (Vg.le.refl _)) hK.1 hK.2 Ua.1 Ua.2)
        have Z3a:St C K ρ Z h vh (fun j=>if j=h.next then vh.next else ρ j) Z ({h.put h.next 0 (.loop K Xe ps.toList as bd) with next:=h.next+1}:PH) (vh.new (.loop Yw ps.toList as bd)):=
         ⟨stL.hp,stL.ext,stL.sig,Nat.le_succ _,stL.vnext,stL.wr,fun i hi=>stL.keep i hi,fun i ver o Rj ho=>stL.same i ver o Rj ho,fun i x hx=>stL.plc i x hx,fun i x hx hc=>stL.vkeep i x hx hc,fun q hq hn hi=>stL.vnone q hq hn hi,fun b h1 h2 h3=>stL.low b h1 h2 h3⟩
        have hyv:R C (fun j=>if j=h.next then vh.next else ρ j) (Zl ({h.put h.next 0 (.loop K Xe ps.toList as bd) with next:=h.next+1}:PH)) Z (.yield h.next 0) (.func (.yield vh.next) #[] #[]):=.yield h.next 0 0 vh.next (by simp[Zl,PH.put]) (Nat.le_refl _) (fun _=>by simp);obtain⟨v,V9,YD,Z2,q1,q2,q3⟩:=hcf g _ _ _ Zk6 _ _ _ (a'.toList++[.func (.yield vh.next) #[] #[]]++c'.toList) Z3a.hp ⟨hK.1,Nat.le_succ_of_le hK.2⟩ (((r1.mono Z3a.ext Z3a.sig).append (.cons hyv .nil)).append (r2.mono Z3a.ext Z3a.sig));have q1':Virt.callF C (Virt.exec C n true) g (a'.toList++[Value.func (Fn.yield vh.next) #[] #[]]++c'.toList) (vh.new (.loop Yw ps.toList as bd))=some (v,V9):=q1;rw[q1']
        try dsimp only
        split at he
        .rename_i K1 Qz ps1 as1 bd1 hl;cases he;have st2:=Z3a.trans H q3
         have Zfw:YD h.next=vh.next:=by
          obtain⟨c1,k1,_,k3⟩:=q3.ext h.next 0 (by simp[Zl,PH.put]);rw[Zr.2 ⟨_,hl⟩]at k1;cases k1;have:=k3 rfl;simpa using this
         cases q3.hp.obj _ _ _ hl with
         |loop K1 n1 Qz Zfq ps1 as1 bd1 z1 g1 s1 k1 b1 d1 d2=>
          rw[Zfw]at g1 z1;rw[g1]
          try dsimp only
          have st3:=Zjr (K:=K) (ob:=.gone) (vo:=none) q3.hp hl hKl (by rw[Zfw];exact z1) fun YB vf' _=>.gone (q3.hp.rho_lt hl) (by rw[Zfw];exact z1)
          rw[Zm2,Zfw]at st3;have st4:=st2.trans H st3;exact⟨Yw,_,YD,Z2,rfl,S.mono st4.ext st4.sig,st4⟩
        .cases he
       .cases he
      .cases he
    .cases he
   .cases he
  | _=>simp[Pure.exec]at he
end
section
variable {C:Ctx}{cf yf:Nat->List Value->VH->Option (Value×VH)}{pcf:CF}{pyf:YF}{K K':Loc}{n:Nat}{all:List Oper}{Xe:Yt}{Yw:SL}{h:PH}{vh:VH}{ρ:Nat->Nat}{Z:Vg}{o:Oper}{r:PV×PH}
theorem Zadh {t:TypeId}{a x:Operand}{m:List Nat×Nat}(ho:o.op=.store t a x)(ht:X5 C K Xe h o=some m)(hc:∀i∈m.1,can K' i=true)(he:Zf C pcf pyf all K Xe h o=some r):Zf C pcf pyf all K' Xe h o=some r:=by
 simp only[X5,ho]at ht;simp only[Zf,ho]at he ⊢;split at he
 .rename_i ty i ver off v h1 h2 h3;rw[h2,h3]at ht;simp only[Option.some.injEq]at ht;subst ht;split at he
  .rename_i hh;rw[if_pos ⟨hh.1,hh.2.1,hc i (by simp)⟩];exact he
  .cases he
 .rename_i ty i ver g ix off v0 h1 h2 h3;rw[h2,h3]at ht;simp only[Option.some.injEq]at ht;subst ht;split at he
  .cases he
  .rename_i v h4;split at he
   .rename_i hh;rw[if_pos ⟨hh.1,hh.2.1,hh.2.2.1,hc i (by simp),List.all_eq_true.2 fun j hj=>hc j (by simp[hj])⟩];exact he
   .cases he
 .cases he
theorem Zrv {d g:Nat}{ty:Ty}{k:Nat}{ys:List PV}{s:PV}(hb:K'.base=K.base+d)(hc:∀i ver g' off len,s=.own i ver g' off len->can K' i=true){q:PV×PH}(he:Xl K h d g ty k ys s=some q):Xl K' h 0 g ty k ys s=some q:=by
 unfold Xl at he ⊢;split at he
 .rw [hb,Nat.add_zero];exact he
 .rename_i i ver g' off len
  try dsimp only
  split at he
  .rename_i hh;rw[if_pos ⟨hh.1,hh.2.1,hh.2.2.1,hh.2.2.2.1,hc _ _ _ _ _ rfl⟩];exact he
  .cases he
 .cases he
theorem Zaba {c:Call}{d:Nat}{m:List Nat×Nat}(ho:o.op=.call c)(Wt:c.callee=.builtin .append)(hd:o.dst=some d)(ht:X5 C K Xe h o=some m)(hb:K'.base=K.base+d)(hc:∀i∈m.1,can K' i=true){pcf':CF}{pyf':YF}(he:Zf C pcf pyf all K Xe h o=some r):
  ∃Z0r,Zf C pcf' pyf' Z0r K' Xe h {o with dst:=some 0}=some r:=by
 obtain⟨Z0r,hall⟩:∃Z0r,((c.args[0]?).any fun a=>Znl all a d)=(c.args[0]?).any fun a=>Znl Z0r a 0:=by
  cases hq:Z3w all d with
  |true=>
   refine ⟨[⟨none, .build 0 #[(0, .tmp 0)], 0, "", #[], none⟩], ?_⟩;cases c.args[0]? with
   |none=>rfl
   |some a=>
    simp only[Option.any_some];unfold Znl;split
    .rw [hq];simp[Z3w]
    .rfl
  |false=>
   refine⟨[],?_⟩;cases c.args[0]? with
   |none=>rfl
   |some a=>
    simp only[Option.any_some];unfold Znl;split
    .rw [hq];simp[Z3w]
    .rfl
 refine⟨Z0r,?_⟩;simp only[X5,ho,Wt,hd]at ht;simp only[Zf,ho,Wt,hd]at he ⊢;cases hl:c.args.toList with
 |nil=>rw[hl]at ht;cases ht
 |cons x0 rest=>
  rw[hl]at ht he;simp only[W9]at he ⊢
  try dsimp only at ht
  cases h0:Yu Xe x0 with
  |none=>rw[h0]at ht;cases ht
  |some s=>
   rw[h0]at ht he
   have hs:∀i ver g' off len,s=.own i ver g' off len->can K' i=true:=by
    rintro i ver g' off len rfl;simp only[Option.some.injEq]at ht;subst ht;exact hc i (by simp)
   cases hr:W9 Xe rest with
   |none=>rw[hr]at he;cases he
   |some vs=>
    rw[hr]at he;cases vs with
    |nil=>cases he
    |cons x tail=>
     cases tail with
     |cons _ _=>cases he
     |nil=>
      dsimp only at he ⊢;split at he
      .rename_i ts tx dd e1 e2 e3;cases e3;rw[e1,e2];dsimp only;split at he
       .rename_i e hk
        try rw[hk]
        try dsimp only
        split at he
        .rename_i te V8
         try rw[V8]
         try dsimp only
         split at he
         .rename_i k hki
          try rw[hki]
          try dsimp only
          split at he
          .try dsimp only
           rw[hb,Nat.add_zero];exact he
          .cases he
         .rename_i hnk;split at he
          .split at he
           .rename_i hh
            try rw[if_pos hh]
            exact Zrv hb hs he
           .cases he
          .split at he
           .rename_i ys hys
            try rw[hys]
            split at he
            .rename_i hli
             try dsimp only
             rw[if_pos (hall.symm.trans hli)];exact he
            .rename_i hli
             try dsimp only
             rw[if_neg (fun hq=>hli (hall.trans hq))];exact Zrv hb hs he
           .cases he
        .cases he
       .cases he
      .cases he
theorem Zfp {m:List Nat×Nat}{u b:Nat}(hu:Wk (some m) u=true)(hb:b=m.2):can {base:=b,lo:=b,ok:=m.1} u=false:=by
 unfold Wk at hu;simp only[Bool.and_eq_true,Bool.not_eq_true',Nat.blt_eq]at hu;unfold can;rw[Bool.or_eq_false_iff];constructor
 .rw [<- Bool.not_eq_true,Nat.ble_eq];show ¬ b<=u;omega
 .rw [<- Bool.not_eq_true];intro hh;obtain⟨i,hi,hbq⟩:=List.any_eq_true.1 hh;rw[Nat.beq_eq]at hbq;subst hbq;have:=hu.1;rw[<- Bool.not_eq_true]at this;exact this (List.any_eq_true.2 ⟨u,hi,Nat.beq_refl u⟩)
theorem Z2h {m:List Nat}{b i:Nat}(hi:i∈m):can {base:=b,lo:=b,ok:=m} i=true:=by
 unfold can;rw[Bool.or_eq_true];exact .inr (List.any_eq_true.2 ⟨i,hi,Nat.beq_refl i⟩)
theorem Zmo (hts:Ze7 C pcf cf)(H:HP C ρ Z vh h)(S:SR C ρ (Zl h) Z Xe Yw)(hn:K.base+n<=h.next)(hd:∀d,o.dst=some d->d < n)(he:Zf C pcf pyf all K Xe h o=some r){w:Value}{vh1:VH}(Xy:Xp C cf yf Yw vh o=some (w,vh1))
  {u:Nat} (hu:Wk (X5 C K Xe h o) u=true) (hx:∃x,h.get u=some x):vh1.get (ρ u)=vh.get (ρ u)/\r.2.get u=h.get u:=by
 obtain⟨x,hx⟩:=hx;cases ht:X5 C K Xe h o with
 |none=>rw[ht]at hu;cases hu
 |some m=>
  rw[ht]at hu;cases ho:o.op with
  |store t a y=>
   have hm2:m.2=h.next:=by
    simp only[X5,ho]at ht;split at ht
    .cases ht;rfl
    .cases ht;rfl
    .cases ht
   obtain⟨v,vh',YB,Z',q1,q2,q3⟩:=Zqc (K:={base:=m.2,lo:=m.2,ok:=m.1}) (cf:=cf) (yf:=yf) H S ho (Zadh (K':={base:=m.2,lo:=m.2,ok:=m.1}) ho ht (fun i hi=>Z2h hi) he);rw[Xy]at q1;cases q1;exact⟨q3.vkeep u x hx (Zfp hu rfl),q3.keep u (Zfp hu rfl)⟩
  |call c=>
   cases Wt:c.callee with
   |builtin b=>
    cases b with
    |append=>
     cases hdd:o.dst with
     |none=>
      simp only[X5,ho,Wt,hdd]at ht;split at ht
      .rename_i hh;cases hh
      .cases ht
     |some d=>
      have hm2:m.2=K.base+d:=by
       simp only[X5,ho,Wt,hdd]at ht;split at ht
       .rename_i hh;cases hh;split at ht
        .cases ht;rfl
        .cases ht;rfl
        .cases ht
       .cases ht
      have hK1:m.2+1<=h.next:=by
       have h9:=hd d hdd;rw[hm2];exact Nat.le_trans (Nat.add_le_add_left (Nat.succ_le_of_lt h9) K.base) hn
      have hop':Xp C cf yf Yw vh {o with dst:=some 0}=some (w,vh1):=Xy;obtain⟨Z0r,he'⟩:=Zaba (K':={base:=m.2,lo:=m.2,ok:=m.1}) (pcf':=fun _ _ _ _=>none) (pyf':=fun _ _ _ _ _=>none) ho Wt hdd ht hm2 (fun i hi=>Z2h hi) he;obtain⟨v,vh',YB,Z',q1,q2,q3⟩:=Zxf (K:={base:=m.2,lo:=m.2,ok:=m.1}) (n:=1) (cf:=cf) (yf:=yf) (pcf:=fun _ _ _ _=>none) (pyf:=fun _ _ _ _ _=>none) (all:=Z0r) (o:={o with dst:=some 0}) (fun _ _ _ _ hh=>by cases hh) (fun _ _ _ _ _ hh=>by cases hh) H S ⟨Nat.le_refl _,hK1⟩ (fun d' hd'=>by cases hd';exact Nat.zero_lt_one) ho he';rw[hop']at q1;cases q1;exact⟨q3.vkeep u x hx (Zfp hu rfl),q3.keep u (Zfp hu rfl)⟩
    | _=>simp only[X5,ho,Wt]at ht;cases ht
   |invoke a b=>simp only[X5,ho,Wt]at ht;cases ht
   |value f=>
    simp only[X5,ho,Wt]at ht;split at ht
    .rename_i g first captured args hf Xu
     split at ht
     .cases ht
     .rename_i Y4;split at ht
      .rename_i args' hm;cases ht;simp only[Zf,ho,Xu,Wt,hf]at he;obtain⟨Wl,Qq,Qu⟩:=Sl S Xu;obtain⟨w0,W8,Vk⟩:=Zj S hf;cases Vk with
       |d h=>cases h
       |fn g a c2 a' c' r1 r2=>
        simp only[Xp,ho,U9,Qq,Wt,W8]at Xy;refine hts K g _ h r.1 r.2 he (by simpa using Y4) args' hm ρ Z vh _ H ((r1.append Qu).append r2) w vh1 Xy u ?_ ⟨x,hx⟩;intro hh;unfold Wk at hu;simp only[Bool.and_eq_true,Bool.not_eq_true']at hu;have:=hu.1;rw[<- Bool.not_eq_true]at this;exact this (List.any_eq_true.2 ⟨u,hh,Nat.beq_refl u⟩)
      .cases ht
    .cases ht
  | _=>simp only[X5,ho]at ht;cases ht
end
end Go.Pure
end
