/- Rows that are written no more; slices as plain lists. -/
import Derived.Test.YtabcdhcpilpojaaGreatDoorPF
import Derived.Test.YtabcdhcpilpojaaGreatDoorPA
import Derived.Test.YtabcdhcpilpojaaGreatDoorVB
set_option linter.unusedSimpArgs false
set_option linter.unusedVariables false
section
namespace Go.Pure
open Go Go.Virt
section
variable {C:Ctx}{Z Z':Wr}{ρ ρ':Nat->Nat}{vf vf':Nat->Option Nat}{h h':PH}{vh vh':VH}{K:Loc}{n:Nat}{Y1:Yo}{Yt:SL}{o:Oper}{x:PV}{all:List Oper}
theorem Tl:∀ (ids:List Nat) (h:PH),(h.freeze ids).next=h.next
 | [],h=>rfl
 | i::r,h=>by
   simp only [PH.freeze];split
   .rw [Tl r];rfl
   .exact Tl r h
theorem Y7:∀ (ids:List Nat) (h:PH) (j:Nat),(h.freeze ids).get j=(match h.get j with
  | some (Zg,.row g own xs)=>if j∈ids then some (Zg,.row g false xs) else some (Zg,.row g own xs)
  | o=>o)
 | [],h,j=>by
   simp only [PH.freeze,List.not_mem_nil,if_false];split<;>simp_all
 | i::r,h,j=>by
   simp only [PH.freeze];split
   .rename_i Zg g own xs hi;rw [Y7 r];by_cases e:j=i
    .subst e;simp only [PH.put,if_true,hi,List.mem_cons,true_or];split<;>rfl
    .simp only [PH.put,e,if_false,List.mem_cons,false_or]
   .rename_i Ys;rw [Y7 r];by_cases e:j=i
    .subst e;split
     .rename_i Zg g own xs hj;exact absurd hj (Ys _ _ _ _)
     .rfl
    .simp only [List.mem_cons,e,false_or]
theorem Us (ids:List Nat)(h:PH):Zn (h.freeze ids)=Zn h:=by
 funext j;unfold Zn;rw [Y7];split
 .rename_i Zg g own xs hj;rw [hj];split<;>rfl
 .rfl
structure Frz (C:Ctx)(bt:Bool)(ρ:Nat->Nat)(Z:Wr)(h:PH)(vh:VH)(ids:List Nat)(Z':Wr):Prop where
 hp:HP C ρ Z' vh (h.freeze ids)
 le:∀ Zv s,Z Zv=some s->Z' Zv=some s
 new:∀ Zv s,Z' Zv=some s->Z Zv=some s\/(Z Zv=none/\∃ i∈ids,∃ Zg g xs,h.get i=some (Zg,.row g true xs)/\Zv=ρ i/\s.tag=if bt then some g else none)
theorem Frz.sig {bt:Bool}{ids:List Nat}(f:Frz C bt ρ Z h vh ids Z'):Z.le Z':=f.le
theorem frz1 (bt:Bool)(H:HP C ρ Z vh h){i Zg g:Nat}{own:Bool}{xs:List PV}(hi:h.get i=some (Zg,.row g own xs)):
  ∃ Z',HP C ρ Z' vh (h.put i Zg (.row g false xs))/\(∀ Zv s,Z Zv=some s->Z' Zv=some s)/\∀ Zv s,Z' Zv=some s->Z Zv=some s\/(Z Zv=none/\own=true/\Zv=ρ i/\s.tag=if bt then some g else none):=by
 have ho:=H.obj _ _ _ hi
 have hvf:Zn (h.put i Zg (.row g false xs))=Zn h:=by
  funext j;unfold Zn PH.put;by_cases e:j=i
  .subst e;simp [hi]
  .simp [e]
 cases own with
 | false=>
   have:h.put i Zg (.row g false xs)=h:=by
    unfold PH.put
    have:(fun j=>if j=i then some (Zg,PO.row g false xs) else h.get j)=h.get:=by
     funext j;by_cases e:j=i
     .subst e;simp [hi]
     .simp [e]
    rw [this]
   rw [this];exact ⟨Z,H,fun _ _ h=>h,fun _ _ h=>.inl h⟩
 | true=>
   cases ho with
   | row g xs vcs ty ht hz hg hr hl=>
     let Z1:Wr:=fun q=>if q=ρ i then some ⟨vcs,ty.size,true,if bt then some g else none⟩ else Z q
     have hle:∀ Zv s,Z Zv=some s->Z1 Zv=some s:=fun Zv s hs=>by
      have:Zv≠ρ i:=fun e=>by rw [e,hz] at hs;cases hs
      simp [Z1,this,hs]
     have Zy1:Z.le Z1:=hle;refine ⟨Z1,⟨?_,?_,H.vlt,?_,?_,H.wr⟩,hle,?_⟩
     .intro j x hj;by_cases e:j=i
      .subst e;exact H.lt _ _ hi
      .simp [PH.put,e] at hj;exact H.lt _ _ hj
     .intro j k x y hj hk e;by_cases e1:j=i<;>by_cases e2:k=i
      .rw [e1,e2]
      .subst e1;simp [PH.put,e2] at hk;exact H.inj _ _ _ _ hi hk e
      .subst e2;simp [PH.put,e1] at hj;exact H.inj _ _ _ _ hj hi e
      .simp [PH.put,e1,e2] at hj hk;exact H.inj _ _ _ _ hj hk e
     .intro Zv s hs;by_cases e:Zv=ρ i
      .simp only [Z1,e,if_true,Option.some.injEq] at hs;subst hs;rw [e];exact hg
      .simp only [Z1,e,if_false] at hs;exact H.sig _ _ hs
     .intro j w ob hj;rw [hvf];by_cases e:j=i
      .subst e;simp only [PH.put,if_true,Option.some.injEq,Prod.mk.injEq] at hj;obtain ⟨rfl,rfl⟩:=hj;exact .frozen g xs ⟨vcs,ty.size,true,if bt then some g else none⟩ ty ht (by simp [Z1]) rfl (by cases bt<;>simp) (hr.mono Zy1) hl
      .simp only [PH.put,e,if_false] at hj;have Ys:ρ j≠ρ i:=fun h2=>e (H.inj _ _ _ _ hj hi h2)
       exact (H.obj _ _ _ hj).mono (Ext.refl _ _) Zy1 (fun hq=>by simp [Z1,Ys,hq]) (fun _=>rfl) (Nat.le_refl _) (Nat.le_refl _)
     .intro Zv s hs;by_cases e:Zv=ρ i
      .simp only [Z1,e,if_true,Option.some.injEq] at hs;subst hs;rw [e];exact .inr ⟨hz,rfl,rfl,rfl⟩
      .simp only [Z1,e,if_false] at hs;exact .inl hs
theorem frz (bt:Bool):∀ (ids:List Nat) {Z:Wr} {h:PH},HP C ρ Z vh h->∃ Z',Frz C bt ρ Z h vh ids Z'
 | [],Z,h,H=>⟨Z,H,fun _ _ h=>h,fun _ _ h=>.inl h⟩
 | i::r,Z,h,H=>by
   by_cases hi:∃ Zg g own xs,h.get i=some (Zg,.row g own xs)
   .obtain ⟨Zg,g,own,xs,hi⟩:=hi;obtain ⟨Z1,H1,l1,n1⟩:=frz1 bt H hi;obtain ⟨Z2,f2⟩:=frz bt r H1;refine ⟨Z2,by simp only [PH.freeze,hi];exact f2.hp,fun Zv s hs=>f2.le _ _ (l1 _ _ hs),fun Zv s hs=>?_⟩;rcases f2.new _ _ hs with h1 | ⟨h1,j,hj,Ziv,g2,xs2,hg,e,ht⟩
    .rcases n1 _ _ h1 with h2 | ⟨h2,h3,h4,h5⟩
     .exact .inl h2
     .subst h3;exact .inr ⟨h2,i,by simp,Zg,g,xs,hi,h4,h5⟩
    .have hji:j≠i:=fun e=>by subst e;simp [PH.put] at hg
     simp only [PH.put,hji,if_false] at hg;refine .inr ⟨?_,j,by simp [hj],Ziv,g2,xs2,hg,e,ht⟩;cases hq:Z Zv with
     | none=>rfl
     | some s'=>rw [l1 _ _ hq] at h1;cases h1
   .obtain ⟨Z2,f2⟩:=frz bt r H
    have e:h.freeze (i::r)=h.freeze r:=by
     simp only [PH.freeze];split
     .rename_i Zg g own xs hq;exact absurd ⟨_,_,_,_,hq⟩ hi
     .rfl
    refine ⟨Z2,by rw [e];exact f2.hp,f2.le,fun Zv s hs=>?_⟩;rcases f2.new _ _ hs with h1 | ⟨h1,j,hj,q⟩
    .exact .inl h1
    .exact .inr ⟨h1,j,by simp [hj],q⟩
theorem St.frz {ids:List Nat}(H:HP C ρ Z vh h)(f:Frz C false ρ Z h vh ids Z')(hc:ids.all (can K)=true):St C K ρ Z h vh ρ Z' (h.freeze ids) vh where
 hp:=f.hp
 ext:=by rw [Us];exact Ext.refl _ _
 sig:=f.sig
 next:=by rw [Tl];exact Nat.le_refl _
 vnext:=Nat.le_refl _
 wr:=Nat.le_refl _
 keep:=fun i hi=>by
  rw [Y7];split
  .rename_i Zg g own xs hj;rw [if_neg,hj];intro hm;rw [List.all_eq_true.1 hc i hm] at hi;cases hi
  .rfl
 same:=fun i Zg o _ ho=>by
  rw [Y7,ho];cases o with
  | row g own xs=>
    by_cases hm:i∈ids
    .exact .inr (.inl ⟨g,own,xs,rfl,by simp [hm]⟩)
    .exact .inl (by simp [hm])
  | _=>exact .inl rfl
 plc:=fun i x hx=>by
  rw [Y7] at hx;refine .inl ⟨?_,rfl⟩;cases hq:h.get i with
  | none=>rw [hq] at hx;cases hx
  | some y=>exact ⟨y,rfl⟩
 vkeep:=fun _ _ _ _=>rfl
 vnone:=fun _ _ h _=>h
 low:=fun _ _ h _=>h
theorem Sw {i Zg g:Nat}{r:Bool×List PV}:h.row i Zg g=some r↔h.get i=some (Zg,.row g r.1 r.2):=by
 unfold PH.row;constructor
 .intro hh;split at hh
  .rename_i v g' own xs hi;split at hh
   .rename_i hc;cases hh;rw [hi,hc.1,hc.2]
   .cases hh
  .cases hh
 .intro hh;rw [hh];simp
theorem Z7g (H:HP C ρ Z vh h){i Zg g off len:Nat}{xs:List PV}{v:Value}(hi:h.get i=some (Zg,.row g false xs))(hl:off+len<=xs.length)(hr:R C ρ (Zn h) Z (.own i Zg g off len) v):RD C Z (.lst g ((xs.drop off).take len)) v:=by
 cases hr with
 | d h=>cases h
 | own i Zg g off len c a cap ty hc hv hp ht ha=>
   rw [Zr.2 ⟨_,hi⟩] at hc;cases hc;cases ha rfl;cases H.obj _ _ _ hi with
   | frozen g xs s ty2 ht2 hs he Z3b hrr To=>
     rw [ht] at ht2;cases ht2;have hlen:((xs.drop off).take len).length=len:=by simp;omega
     have Tk:=Uj To
     have h1:Xk (xs.flatMap cellsOf) (off*ty.size) (len*ty.size)=some (((xs.drop off).take len).flatMap cellsOf):=by
      unfold Xk;rw [if_pos (by rw [Tk,<- Nat.add_mul];exact Nat.mul_le_mul_right _ hl),Za0 To,Zds fun x hx=>To x (List.drop_subset _ _ hx)]
     obtain ⟨r',h2,h3⟩:=hrr.read h1;have:=RD.lst g ((xs.drop off).take len) (ρ i) (off*ty.size) cap s r' ty hs he Z3b ht (by rw [hlen];exact h2) h3 (fun x hx=>To x (List.drop_subset _ _ (List.take_subset _ _ hx)));rw [hlen] at this;exact this
theorem Zru {h3:PH}(H3:HP C ρ Z vh h3)(hf:∀ i Zg g own xs,i∈U7 x->h.get i=some (Zg,.row g own xs)->h3.get i=some (Zg,.row g false xs)){v:Value}{y:PV}(hi:Rv h x=some y)(hr:R C ρ (Zn h3) Z x v):R C ρ (Zn h3) Z y v:=by
 cases x with
 | own i Zg g off len=>
   simp only [Rv,Option.map_eq_some_iff] at hi;obtain ⟨ys,hys,rfl⟩:=hi;simp only [PH.elems,if_true] at hys;split at hys
   .rename_i own xs V5;split at hys
    .rename_i hl;cases hys;have:=Sw.1 V5;exact .d (Z7g H3 (hf _ _ _ _ _ (by simp [U7]) this) hl hr)
    .cases hys
   .cases hys
 | _=>simp only [Rv,Option.some.injEq] at hi;subst hi;exact hr
theorem Zrm {f:PV->Option PV}{P:PV->Prop}{cs ys:List PV}{vs:List Value}(hf:∀ x∈cs,∀ y v,f x=some y->R C ρ vf Z x v->R C ρ vf Z y v)(h:Yy f cs=some ys)(hr:Rs C ρ vf Z cs vs):Rs C ρ vf Z ys vs:=by
 induction cs generalizing ys vs with
 | nil=>simp only [Yy,Option.some.injEq] at h;subst h;exact hr
 | cons c cs ih=>
   simp only [Yy] at h;split at h
   .rename_i y ys' hy hys;cases h;cases hr with | cons h1 r=>exact .cons (hf c (by simp) _ _ hy h1) (ih (fun x hx=>hf x (by simp [hx])) hys r)
   .cases h
theorem Z7h (hx:∀ cs,x≠.agg cs):Yl x=U7 x/\∀ h,Xt h x=Rv h x:=by
 cases x<;>first | exact ⟨rfl,fun _=>rfl⟩ | exact absurd rfl (hx _)
theorem Z7i (hx:∀ cs,x≠.tuple cs):ownT x=Yl x/\∀ h,inlT h x=Xt h x:=by
 cases x<;>first | exact ⟨rfl,fun _=>rfl⟩ | exact absurd rfl (hx _)
theorem Zgg {h3:PH}(H3:HP C ρ Z vh h3)(hf:∀ i Zg g own xs,i∈Yl x->h.get i=some (Zg,.row g own xs)->h3.get i=some (Zg,.row g false xs)){v:Value}{y:PV}(hi:Xt h x=some y)(hr:R C ρ (Zn h3) Z x v):R C ρ (Zn h3) Z y v:=by
 by_cases hx:∃ cs,x=.agg cs
 .obtain ⟨cs,rfl⟩:=hx;simp only [Xt,Option.map_eq_some_iff] at hi;obtain ⟨ys,hys,rfl⟩:=hi;obtain ⟨cs',rfl,R4⟩:=hr.agg_inv;refine .agg _ _ (Zrm (P:=fun _=>True) (fun c hc y v hy hv=>Zru H3 (fun i Zg g own xs hm=>hf i Zg g own xs ?_) hy hv) hys R4);simp only [Yl,List.mem_flatMap];exact ⟨c,hc,hm⟩
 .obtain ⟨e1,e2⟩:=Z7h (x:=x) fun cs e=>hx ⟨cs,e⟩
  rw [e2] at hi;rw [e1] at hf;exact Zru H3 hf hi hr
theorem Z2t {h3:PH}(H3:HP C ρ Z vh h3)(hf:∀ i Zg g own xs,i∈ownT x->h.get i=some (Zg,.row g own xs)->h3.get i=some (Zg,.row g false xs)){v:Value}{y:PV}(hi:inlT h x=some y)(hr:R C ρ (Zn h3) Z x v):R C ρ (Zn h3) Z y v:=by
 by_cases hx:∃ cs,x=.tuple cs
 .obtain ⟨cs,rfl⟩:=hx;simp only [inlT,Option.map_eq_some_iff] at hi;obtain ⟨ys,hys,rfl⟩:=hi;obtain ⟨cs',rfl,R4⟩:=hr.tuple_inv;refine .tuple _ _ (Zrm (P:=fun _=>True) (fun c hc y v hy hv=>Zgg H3 (fun i Zg g own xs hm=>hf i Zg g own xs ?_) hy hv) hys R4);simp only [ownT,List.mem_flatMap];exact ⟨c,hc,hm⟩
 .obtain ⟨e1,e2⟩:=Z7i (x:=x) fun cs e=>hx ⟨cs,e⟩
  rw [e2] at hi;rw [e1] at hf;exact Zgg H3 hf hi hr
theorem Zjh {ids:List Nat}{i Zg g:Nat}{own:Bool}{xs:List PV}(hm:i∈ids)(hi:h.get i=some (Zg,.row g own xs)):(h.freeze ids).get i=some (Zg,.row g false xs):=by
 rw [Y7,hi];simp [hm]
theorem Z1y (H:HP C ρ Z vh h){g:Nat}{xs:List PV}{vcs:List Value}{ty:Ty}(ht:C.T g=some ty)(hr:RDs C Z (xs.flatMap cellsOf) vcs)(hl:∀ x∈xs,(cellsOf x).length=ty.size):
  ∃ Z',St C K ρ Z h vh ρ Z' h (vh.new (.row vcs ty.size true))/\RD C Z' (.lst g xs) (.slice (some ⟨vh.next,0,none⟩) xs.length xs.length)/\∀ q s,Z' q=some s->Z q=some s\/q=vh.next:=by
 have hzn:Z vh.next=none:=by
  cases e:Z vh.next with
  | none=>rfl
  | some s=>exact absurd (H.vlt _ _ (H.sig _ _ e)) (Nat.lt_irrefl _)
 have Zm:∀ q,q≠vh.next->(vh.new (.row vcs ty.size true)).get q=vh.get q:=fun q hq=>by simp [VH.new,T6 hq]
 let Z1:Wr:=fun q=>if q=vh.next then some ⟨vcs,ty.size,true,none⟩ else Z q
 have hle:∀ Zv s,Z Zv=some s->Z1 Zv=some s:=fun Zv s hs=>by
  have:Zv≠vh.next:=fun e=>by rw [e,hzn] at hs;cases hs
  simp [Z1,this,hs]
 have Zy1:Z.le Z1:=hle;have hlt:∀ i x,h.get i=some x->ρ i≠vh.next:=fun i x hi=>by have:=H.rho_lt hi;omega
 refine ⟨Z1,⟨⟨H.lt,H.inj,?_,?_,?_,?_⟩,Ext.refl _ _,Zy1,Nat.le_refl _,by simp [VH.new],Nat.le_refl _,fun _ _=>rfl,fun _ _ _ _ h=>.inl h,fun i x hx=>.inl ⟨⟨x,hx⟩,rfl⟩,fun i x hx _=>Zm _ (hlt i x hx),fun q hq hn _=>by rw [Zm q (by omega)];exact hn,fun _ _ h2 _=>h2⟩,?_,?_⟩
 .intro q y hq;by_cases e:q=vh.next
  .subst e;simp [VH.new]
  .rw [Zm q e] at hq;have:=H.vlt _ _ hq;simp only [VH.new];omega
 .intro q s hq;by_cases e:q=vh.next
  .simp only [Z1,e,if_true,Option.some.injEq] at hq;subst hq;rw [e];simp [VH.new]
  .simp only [Z1,e,if_false] at hq;rw [Zm q e];exact H.sig _ _ hq
 .intro i Zg ob hi;exact (H.obj _ _ _ hi).mono (Ext.refl _ _) Zy1 (fun hq=>by simp [Z1,hlt i _ hi,hq]) (fun _=>Zm _ (hlt i _ hi)) (Nat.le_refl _) (by simp [VH.new])
 .have:=H.wr;simp only [VH.new];omega
 .refine .lst g xs vh.next 0 xs.length ⟨vcs,ty.size,true,none⟩ vcs ty (by simp [Z1]) rfl (.inl rfl) ht ?_ (hr.mono Zy1) hl;have Tk:=Uj hl;rw [Ur];have hvl:vcs.length=xs.length*ty.size:=by rw [hr.length];exact Tk
  refine ⟨?_,.inl (by simp [hvl])⟩;simp [<- hvl]
 .intro q s hq;by_cases e:q=vh.next
  .exact .inr e
  .simp only [Z1,e,if_false] at hq;exact .inl hq
end
end Go.Pure
end
section
namespace Go.Pure
open Go Go.Virt
section
variable {C:Ctx}{Z Z':Wr}{ρ ρ':Nat->Nat}{vf vf':Nat->Option Nat}{h h':PH}{vh vh':VH}{K:Loc}{n:Nat}{Y1:Yo}{Yt:SL}{o:Oper}{x:PV}{all:List Oper}
theorem Zj6 (H:HP C ρ Z vh h){i Zg g:Nat}{own:Bool}{xs:List PV}(hi:h.get i=some (Zg,.row g own xs)):
  ∃ ty vcs b,C.T g=some ty/\vh.get (ρ i)=some (.row vcs ty.size b)/\RDs C Z (xs.flatMap cellsOf) vcs/\(∀ x∈xs,(cellsOf x).length=ty.size)/\(own=true->b=true/\Z (ρ i)=none):=by
 cases H.obj _ _ _ hi with
 | row g xs vcs ty ht hz hg hr hl=>exact ⟨ty,vcs,true,ht,hg,hr,hl,fun _=>⟨rfl,hz⟩⟩
 | frozen g xs s ty ht hs he Z3b hr hl=>exact ⟨ty,s.cells,s.own,ht,by rw [H.sig _ _ hs,he],hr,hl,fun e=>by cases e⟩
theorem R.own_inv {i Zg g off len:Nat}{v:Value}{ob:PO}(hr:R C ρ (Zn h) Z (.own i Zg g off len) v)(hi:h.get i=some (Zg,ob)):∃ ty cap,C.T g=some ty/\v=.slice (some ⟨ρ i,off*ty.size,none⟩) len cap:=by
 cases hr with
 | d h=>cases h
 | own i Zg g off len c a cap ty hc hv hp ht ha=>
   rw [Zr.2 ⟨_,hi⟩] at hc;cases hc;cases ha rfl;exact ⟨ty,cap,ht,rfl⟩
theorem R.ptr_inv {i Zg off:Nat}{v:Value}{ob:PO}(hr:R C ρ (Zn h) Z (.ptr i Zg off) v)(hi:h.get i=some (Zg,ob)):v=.pointer (some ⟨ρ i,off,none⟩):=by
 cases hr with
 | d h=>cases h
 | ptr i Zg off c a hc hv hp ha=>
   rw [Zr.2 ⟨_,hi⟩] at hc;cases hc;cases ha rfl;rfl
theorem R.eptr_inv {i Zg g ix off:Nat}{v:Value}{ob:PO}(hr:R C ρ (Zn h) Z (.eptr i Zg g ix off) v)(hi:h.get i=some (Zg,ob)):∃ ty,C.T g=some ty/\v=.pointer (some ⟨ρ i,ix*ty.size+off,none⟩):=by
 cases hr with
 | d h=>cases h
 | eptr i Zg g ix off c a ty hc hv hp ht ha=>
   rw [Zr.2 ⟨_,hi⟩] at hc;cases hc;cases ha rfl;exact ⟨ty,ht,rfl⟩
theorem R.map_inv {i Zg:Nat}{v:Value}{ob:PO}(hr:R C ρ (Zn h) Z (.map i Zg) v)(hi:h.get i=some (Zg,ob)):v=.map (some (ρ i)):=by
 cases hr with
 | d h=>cases h
 | map i Zg c w hc hv ha=>
   rw [Zr.2 ⟨_,hi⟩] at hc;cases hc;rw [ha rfl]
theorem Znw (H:HP C ρ Z vh h){g:Nat}{ty:Ty}(hT:C.T g=some ty){v:Value}(hr:R C ρ (Zn h) Z x v){ys:List PV}(he:h.elems g x=some ys):
  Zrt v=some ys.length/\∃ vcs,vh.elems ty.size v=some vcs/\RDs C Z (ys.flatMap cellsOf) vcs/\∀ y∈ys,(cellsOf y).length=ty.size:=by
 cases x with
 | nils=>
   simp only [PH.elems,Option.some.injEq] at he;subst he;rw [hr.nils_inv];exact ⟨rfl,[],rfl,.nil,fun y hy=>by simp at hy⟩
 | lst g' xs=>
   simp only [PH.elems] at he;split at he
   .rename_i e;cases he;subst e;cases hr.lst_inv with
    | lst g xs Zv o cap s vcs ty2 hs he2 ht R2 hrr hx hl=>
      rw [hT] at R2;cases R2;refine ⟨rfl,vcs,?_,hx,hl⟩;simp only [VH.elems,VH.load,H.sig _ _ hs,Option.isSome_none,Bool.false_eq_true,if_false,hrr]
   .cases he
 | own i Zg g' off len=>
   simp only [PH.elems] at he;split at he
   .rename_i e;subst e;split at he
    .rename_i own xs V5;split at he
     .rename_i hl;cases he;have hi:=Sw.1 V5;obtain ⟨ty1,cap,h1,rfl⟩:=hr.own_inv hi;obtain ⟨ty2,vcs,b,h2,hg,hrr,To,_⟩:=Zj6 H hi;rw [hT] at h1 h2;cases h1;cases h2;have hlen:((xs.drop off).take len).length=len:=by simp;omega
      have Tk:=Uj To
      have h1:Xk (xs.flatMap cellsOf) (off*ty.size) (len*ty.size)=some (((xs.drop off).take len).flatMap cellsOf):=by
       unfold Xk;rw [if_pos (by rw [Tk,<- Nat.add_mul];exact Nat.mul_le_mul_right _ hl),Za0 To,Zds fun x hx=>To x (List.drop_subset _ _ hx)]
      obtain ⟨r',h2,h3⟩:=hrr.read h1;refine ⟨by rw [hlen];rfl,r',?_,h3,fun y hy=>To y (List.drop_subset _ _ (List.take_subset _ _ hy))⟩;simp only [VH.elems,VH.load,hg,Option.isSome_none,Bool.false_eq_true,if_false,h2]
     .cases he
    .cases he
   .cases he
 | _=>simp [PH.elems] at he
theorem Zfz (H:HP C ρ Z vh h){i Zg:Nat}{ob0 ob:PO}{vo:VO}(hi:h.get i=some (Zg,ob0))(hc:can K i=true)(hz:Z (ρ i)=none)
  (ho:∀ ρ' vf',Ext ρ (Zn h) ρ' vf'->OR C ρ' vf' Z h.next ((vh.put (ρ i) (some vo)).note (ρ i)) i (ρ i) ob):
  St C K ρ Z h vh (fun j=>if j=i then ρ i else ρ j) Z (h.put i Zg ob) ((vh.put (ρ i) (some vo)).note (ρ i)):=by
 refine HP.change H (.inr ⟨rfl,_,hi⟩) (H.lt _ _ hi) hc (fun w o' hw=>?_) (H.rho_lt hi) (.inl ⟨_,hi,rfl⟩) (Nat.le_refl _) (Nat.min_le_left _ _) (fun _ _=>Nat.min_le_right _ _) (fun q hq _=>?_) (fun _ _=>.inl hz) hz (fun q y hq=>?_) (fun ρ' vf' _ _ he=>ho ρ' vf' he)
 .rw [hi] at hw;cases hw;exact ⟨Nat.le_refl _,fun _=>rfl⟩
 .simp [VH.note,VH.put,T6 hq]
 .by_cases e:q=ρ i
  .subst e;exact H.rho_lt hi
  .simp only [VH.note,VH.put,T6 e,cond_false] at hq;exact H.vlt _ _ hq
theorem Zoj {p:Nat}{vo:VO}:((vh.put p (some vo)).note p).get p=some vo:=by simp [VH.note,VH.put]
def Zvr (C:Ctx)(ρ:Nat->Nat)(Z:Wr)(h:PH)(vh:VH)(x:PV)(h':PH)(r:Option (Value×VH)):Prop:=h'=h/\∃ v,r=some (v,vh)/\R C ρ (Zn h) Z x v
theorem Zvr.up {x:PV}{h':PH}{r:Option (Value×VH)}(H:HP C ρ Z vh h)(s:Zvr C ρ Z h vh x h' r):Zfd C K ρ Z h vh x h' r:=by
 obtain ⟨rfl,v,h1,h2⟩:=s;exact ⟨v,vh,ρ,Z,h1,h2,St.refl H⟩
theorem Zkk {t:TypeId}{y:Operand}{cf yf:Nat->List Value->VH->Option (Value×VH)}{pcf:CF}{pyf:YF}(H:HP C ρ Z vh h)(S:SR C ρ (Zn h) Z Y1 Yt)(ho:o.op=.load t y){r:PV×PH}(he:Zk C pcf pyf all K Y1 h o=some r):
  Zvr C ρ Z h vh r.1 r.2 (Y9 C cf yf Yt vh o):=by
 simp only [Zk,ho] at he;split at he
 .rename_i ty i Zg off ht hy;obtain ⟨w,Wl,Wu⟩:=Zl S hy;split at he
  .rename_i v cs hi;split at he
   .rename_i e;subst e;rw [Option.map_eq_some_iff] at he;obtain ⟨z,hz,rfl⟩:=he;rw [Option.bind_eq_some_iff] at hz;obtain ⟨q,hq,hz⟩:=hz;have hw:=Wu.ptr_inv hi;subst hw;cases H.obj _ _ _ hi with
    | cells cs vcs e2 hzz hg hr=>
      obtain ⟨q',h1,h2⟩:=hr.read hq;obtain ⟨z',h3,h4⟩:=Zfp h2 hz;refine ⟨rfl,z',?_,h4⟩;simp only [Y9,ho,ht,Wl,Option.isSome_none,Bool.false_eq_true,if_false,VH.load,hg,h1,Option.bind_some,h3,Option.map_some]
   .cases he
  .cases he
 .rename_i ty i Zg g ix off ht hy;obtain ⟨w,Wl,Wu⟩:=Zl S hy;split at he
  .rename_i own xs V5;have hi:=Sw.1 V5;split at he
   .rename_i el hel;rw [Option.map_eq_some_iff] at he;obtain ⟨z,hz,rfl⟩:=he;rw [Option.bind_eq_some_iff] at hz;obtain ⟨q,hq,hz⟩:=hz;obtain ⟨ty1,h1,rfl⟩:=Wu.eptr_inv hi;obtain ⟨ty2,vcs,b,h2,hg,hrr,To,_⟩:=Zj6 H hi;rw [h1] at h2;cases h2;obtain ⟨hlt,hx⟩:=List.getElem?_eq_some_iff.1 hel;have hxl:(cellsOf el).length=ty1.size:=To el (by rw [<- hx];exact List.getElem_mem hlt);have hle:ix*ty1.size+ty1.size<=xs.length*ty1.size:=by rw [<- Nat.succ_mul];exact Nat.mul_le_mul_right _ hlt
    have h3:Xk (xs.flatMap cellsOf) (ix*ty1.size) ty1.size=some (cellsOf el):=by
     unfold Xk;rw [if_pos (by rw [Uj To];exact hle),Zlb To hel]
    obtain ⟨r1,h4,h5⟩:=hrr.read h3;obtain ⟨r2,h6,h7⟩:=h5.read hq;obtain ⟨z',h8,h9⟩:=Zfo h7 hz
    have Zus:off+ty.size<=ty1.size:=by
     unfold Xk at hq;split at hq
     .rename_i hq2;rw [hxl] at hq2;exact hq2
     .cases hq
    refine ⟨rfl,z',?_,.d h9⟩;simp only [Y9,ho,ht,Wl,Option.isSome_none,Bool.false_eq_true,if_false,VH.load,hg,Sx h4 h6 Zus,Option.bind_some,h8,Option.map_some]
   .cases he
  .cases he
 .cases he
theorem Zto {cs:List PV}{off:Nat}{vs cs2:List PV}:∀ {cs' Rk:List Value},RDs C Z cs cs'->RDs C Z vs Rk->Yi cs off vs=some cs2->∃ Zlg,X0 cs' off Rk=some Zlg/\RDs C Z cs2 Zlg:=by
 induction cs generalizing off vs cs2 with
 | nil=>
   intro cs' Rk h1 h2 h;cases vs with
   | nil=>simp only [Yi,Option.some.injEq] at h;subst h;cases h2;cases h1;exact ⟨[],rfl,.nil⟩
   | cons v vs=>simp [Yi] at h
 | cons c cs ih=>
   intro cs' Rk h1 h2 h;cases vs with
   | nil=>
     have:Yi (c::cs) off []=some (c::cs):=by cases off<;>rfl
     rw [this] at h;cases h;cases h2;exact ⟨cs',by cases cs'<;>cases off<;>rfl,h1⟩
   | cons v vs=>
     cases h1 with
     | cons g r=>
       cases h2 with
       | cons g2 r2=>
         cases off with
         | zero=>
           simp only [Yi,Option.map_eq_some_iff] at h;obtain ⟨w,hw,rfl⟩:=h;obtain ⟨w',h3,h4⟩:=ih r r2 hw;exact ⟨_,by simp only [X0,h3,Option.map_some],.cons g2 h4⟩
         | succ i=>
           simp only [Yi,Option.map_eq_some_iff] at h;obtain ⟨w,hw,rfl⟩:=h;obtain ⟨w',h3,h4⟩:=ih r (.cons g2 r2) hw;exact ⟨_,by simp only [X0,h3,Option.map_some],.cons g h4⟩
theorem Zqa {xs:List PV}{sz:Nat}(hl:∀ x∈xs,(cellsOf x).length=sz){i off:Nat}{x:PV}(hx:xs[i]?=some x){vs ys:List PV}(hw:Yi (cellsOf x) off vs=some ys):
  Yi (xs.flatMap cellsOf) (i*sz+off) vs=some ((xs.take i).flatMap cellsOf++ys++(xs.drop (i+1)).flatMap cellsOf):=by
 have e1:∀ (l:List PV) (k:Nat),Yi l k []=some l:=fun l k=>by cases l<;>cases k<;>rfl
 have wapp:∀ (a b vs:List PV) (o:Nat),Yi (a++b) (a.length+o) vs=(Yi b o vs).map (a++·):=by
  intro a
  induction a with
  | nil=>intro b vs o;simp
  | cons c a ih2=>
    intro b vs o;cases vs with
    | nil=>rw [e1,e1];rfl
    | cons v vs=>
      have:(c::a).length+o=(a.length+o)+1:=by simp;omega
      rw [this];simp only [List.cons_append,Yi,ih2,Option.map_map];rfl
 have Zah4:∀ (a b vs ys:List PV) (o:Nat),Yi a o vs=some ys->Yi (a++b) o vs=some (ys++b):=by
  intro a
  induction a with
  | nil=>
    intro b vs ys o h;cases vs with
    | nil=>simp only [Yi,Option.some.injEq] at h;subst h;rw [e1]
    | cons v vs=>simp [Yi] at h
  | cons c a ih2=>
    intro b vs ys o h;cases vs with
    | nil=>rw [e1] at h;cases h;rw [e1]
    | cons v vs=>
      cases o with
      | zero=>
        simp only [Yi,Option.map_eq_some_iff] at h;obtain ⟨w,hw,rfl⟩:=h;simp only [List.cons_append,Yi,ih2 b _ _ _ hw,Option.map_some]
      | succ o=>
        simp only [Yi,Option.map_eq_some_iff] at h;obtain ⟨w,hw,rfl⟩:=h;simp only [List.cons_append,Yi,ih2 b _ _ _ hw,Option.map_some]
 obtain ⟨hi,e⟩:=List.getElem?_eq_some_iff.1 hx
 have Zadp:xs.flatMap cellsOf=(xs.take i).flatMap cellsOf++(cellsOf x++(xs.drop (i+1)).flatMap cellsOf):=by
  conv=>lhs;rw [<- List.take_append_drop i xs]
  rw [List.flatMap_append,List.drop_eq_getElem_cons hi,e,List.flatMap_cons]
 have hlen:((xs.take i).flatMap cellsOf).length=i*sz:=by
  rw [Uj fun y hy=>hl y (List.take_subset _ _ hy),List.length_take,Nat.min_eq_left (Nat.le_of_lt hi)]
 rw [Zadp,<- hlen,wapp,Zah4 _ _ _ _ _ hw];simp
theorem Zeb {x y:PV}{off:Nat}{vs:List PV}(h:setCells x off vs=some y)(hc:vs.all Wj=true):Yi (cellsOf x) off vs=some (cellsOf y):=by
 unfold setCells at h;split at h
 .rw [Option.map_eq_some_iff] at h;obtain ⟨q,hq,rfl⟩:=h;exact hq
 .rename_i Ys;split at h
  .rename_i v;cases h;have h1:cellsOf x=[x]:=by cases x<;>first | rfl | exact absurd rfl (Ys _)
   simp only [List.all_cons,List.all_nil,Bool.and_true] at hc;have h2:cellsOf y=[y]:=by cases y<;>first | rfl | simp [Wj] at hc
   rw [h1,h2];rfl
  .cases h
theorem Zms {t:TypeId}{y z:Operand}{cf yf:Nat->List Value->VH->Option (Value×VH)}{pcf:CF}{pyf:YF}(H:HP C ρ Z vh h)(S:SR C ρ (Zn h) Z Y1 Yt)(ho:o.op=.store t y z){r:PV×PH}(he:Zk C pcf pyf all K Y1 h o=some r):
  Zfd C K ρ Z h vh r.1 r.2 (Y9 C cf yf Yt vh o):=by
 simp only [Zk,ho] at he;split at he
 .rename_i ty i Zg off v ht hy hv;obtain ⟨w,Wl,Wu⟩:=Zl S hy;obtain ⟨u,hu1,hu2⟩:=Zl S hv;split at he
  .rename_i hc;split at he
   .rename_i ver' cs hi;split at he
    .rename_i e;subst e;rw [Option.map_eq_some_iff] at he;obtain ⟨cs2,hcs2,rfl⟩:=he;have hw:=Wu.ptr_inv hi;subst hw;cases H.obj _ _ _ hi with
     | cells cs vcs e2 hzz hg hr=>
       obtain ⟨Zlg,h1,h2⟩:=Zep hr hu2.cells hcs2;have R3:u.cells.size=ty.size:=by rw [<- Array.length_toList,hu2.cells.length];exact hc.1
       have Xl:=Zfz (K:=K) (ob:=.cells cs2) (vo:=.row Zlg e2 true) H hi hc.2.2 hzz fun ρ' vf' he=>.cells cs2 Zlg e2 hzz Zoj (h2.mono he (Wr.le.refl _))
       refine ⟨.tuple #[],_,_,_,?_,.tuple _ _ .nil,Xl⟩;simp only [Y9,ho,ht,Wl,hu1,Option.isSome_none,Bool.false_eq_true,if_false,R3,if_true,VH.store,hg];rw [if_pos (by rw [hu2.cells.cell hc.2.1];rfl),h1];rfl
    .cases he
   .cases he
  .cases he
 .rename_i ty i Zg g ix off v0 ht hy hv;obtain ⟨w,Wl,Wu⟩:=Zl S hy;obtain ⟨u,hu1,hu2⟩:=Zl S hv;split at he
  .cases he
  .rename_i v Z3r;split at he
   .rename_i hc;split at he
    .rename_i xs V5;have hi:=Sw.1 V5;split at he
     .rename_i el hel;rw [Option.map_eq_some_iff] at he;obtain ⟨el2,hel2,rfl⟩:=he;obtain ⟨Z1,f⟩:=frz (bt:=false) (Yl v0) H;have Z3c:=St.frz (K:=K) H f hc.2.2.2.2;have hu3:R C ρ (Zn (h.freeze (Yl v0))) Z1 v u:=Zgg f.hp (fun i Zg g own xs hm hg=>Zjh hm hg) Z3r (hu2.mono Z3c.ext Z3c.sig);have hw3:=Wu.mono Z3c.ext Z3c.sig;obtain ⟨ty1,h1,rfl⟩:=hw3.eptr_inv hi;obtain ⟨ty2,vcs,b,h2,hg,hrr,To,Zy4⟩:=Zj6 f.hp hi;rw [h1] at h2;cases h2;obtain ⟨rfl,hzz⟩:=Zy4 rfl
      have hpl:RDs C Z1 (cellsOf v) u.cells.toList:=by
       have hrs:=hu3.cells;have hpl:=hc.2.2.1;clear hrs
       have key:∀ {l:List PV} {l':List Value},l.all (plain 3)=true->Rs C ρ (Zn (h.freeze (Yl v0))) Z1 l l'->RDs C Z1 l l':=by
        intro l
        induction l with
        | nil=>intro l' _ h;cases h;exact .nil
        | cons c cs ih=>
          intro l' ha h;simp only [List.all_cons,Bool.and_eq_true] at ha;cases h with | cons h r=>exact .cons (Zv5 (m:=0) ha.1 h) (ih ha.2 r)
       exact key hpl hu3.cells
      have hwr:=Zqa To hel (Zeb hel2 hc.2.1);obtain ⟨hlt,hx⟩:=List.getElem?_eq_some_iff.1 hel
      have Sr:(xs.take ix).flatMap cellsOf++cellsOf el2++(xs.drop (ix+1)).flatMap cellsOf=(xs.set ix el2).flatMap cellsOf:=by
       rw [List.set_eq_take_append_cons_drop,if_pos hlt,List.flatMap_append,List.flatMap_cons];simp
      rw [Sr] at hwr;obtain ⟨Zlg,h3,h4⟩:=Zto hrr hpl hwr
      have Zak2:(cellsOf el2).length=ty1.size:=by
       have:=(Zjq (Zeb hel2 hc.2.1)).1;rw [this];exact To el (by rw [<- hx];exact List.getElem_mem hlt)
      have hst2:=Zfz (K:=K) (ob:=.row g true (xs.set ix el2)) (vo:=.row Zlg ty1.size true) f.hp hi hc.2.2.2.1 hzz fun ρ' vf' he=>.row g _ Zlg ty1 h1 hzz Zoj h4 (Zv2 To Zak2)
      have R3:u.cells.size=ty.size:=by rw [<- Array.length_toList,hu3.cells.length];exact hc.1
      refine ⟨.tuple #[],_,_,_,?_,.tuple _ _ .nil,Z3c.trans H hst2⟩;simp only [Y9,ho,ht,Wl,hu1,Option.isSome_none,Bool.false_eq_true,if_false,R3,if_true,VH.store,hg];rw [if_pos (by rw [hu3.cells.cell hc.2.1];rfl),h3];rfl
     .cases he
    .cases he
   .cases he
 .cases he
end
end Go.Pure
end
section
namespace Go.Pure
open Go Go.Virt
section
variable {C:Ctx}{Z Z':Wr}{ρ ρ':Nat->Nat}{vf vf':Nat->Option Nat}{h h':PH}{vh vh':VH}{K:Loc}{n:Nat}{Y1:Yo}{Yt:SL}{o:Oper}{x:PV}{all:List Oper}
 {cf yf:Nat->List Value->VH->Option (Value×VH)} {pcf:CF} {pyf:YF} {r:PV×PH}
theorem Zll:∀ {ys:List PV} {vcs:List Value} {s:List Nat},RDs C Z ys vcs->Zk.bytesP ys=some s->∃ b,Zbk vcs=some b/\s=b.data.toList.map UInt8.toNat
 | [],vcs,s,hr,h=>by
   simp only [Zk.bytesP,Option.some.injEq] at h;subst h;cases hr;exact ⟨_,rfl,rfl⟩
 | .int .u8 m::ys,vcs,s,hr,h=>by
   simp only [Zk.bytesP,Option.map_eq_some_iff] at h;obtain ⟨q,hq,rfl⟩:=h;cases hr with
   | cons g r=>
     cases g;obtain ⟨b,h1,rfl⟩:=Zll r hq;refine ⟨⟨(UInt8.ofNat m.toNat::b.data.toList).toArray⟩,by simp only [Zbk,h1,Option.map_some],?_⟩;simp
 | .int .i8 _::_,_,_,_,h | .int .i16 _::_,_,_,_,h | .int .i32 _::_,_,_,_,h | .int .i64 _::_,_,_,_,h | .int .u16 _::_,_,_,_,h | .int .u32 _::_,_,_,_,h | .int .u64 _::_,_,_,_,h=>by simp [Zk.bytesP] at h
 | .bool _::_,_,_,_,h | .str _::_,_,_,_,h | .nilp::_,_,_,_,h | .nils::_,_,_,_,h | .nilm::_,_,_,_,h | .nilf::_,_,_,_,h | .nili::_,_,_,_,h | .lst _ _::_,_,_,_,h | .own _ _ _ _ _::_,_,_,_,h
 | .ptr _ _ _::_,_,_,_,h | .eptr _ _ _ _ _::_,_,_,_,h | .rptr _::_,_,_,_,h | .map _ _::_,_,_,_,h | .fn _ _ _::_,_,_,_,h | .yield _ _::_,_,_,_,h | .iface _ _::_,_,_,_,h | .agg _::_,_,_,_,h | .tuple _::_,_,_,_,h=>by simp [Zk.bytesP] at h
theorem Zvz (b:ByteArray):RDs C Z ((b.data.toList.map UInt8.toNat).map fun (b:Nat)=>PV.int .u8 (b:Int)) (b.data.toList.map fun b=>Value.int .u8 b.toNat):=by
 induction b.data.toList with
 | nil=>exact .nil
 | cons x l ih=>exact .cons (.int _ _) ih
theorem Zqo (l:List Nat):(l.map fun (b:Nat)=>PV.int .u8 (b:Int)).flatMap cellsOf=l.map fun (b:Nat)=>PV.int .u8 (b:Int):=by
 induction l with
 | nil=>rfl
 | cons x l ih=>simp [cellsOf,ih]
theorem Zv0 (l:List Nat):∀ x∈l.map (fun (b:Nat)=>PV.int .u8 (b:Int)),(cellsOf x).length=1:=by
 intro x hx;obtain ⟨a,_,rfl⟩:=List.mem_map.1 hx;rfl
theorem Zdi {i Zg g len cap:Nat}{ob:PO}{ty:Ty}(ht:C.T g=some ty)(p:Nat):R C (fun j=>if j=i then p else ρ j) (Zn (h.put i Zg ob)) Z (.own i Zg g 0 len) (.slice (some ⟨p,0,none⟩) len cap):=
 .own i Zg g 0 len Zg ⟨p,0,none⟩ cap ty Zf4 (Nat.le_refl _) rfl ht fun _=>by simp
theorem Zin {g:Nat}{v:Value}{ys:List PV}(hr:R C ρ vf Z x v)(he:h.elems g x=some ys):∃ a l c,v=.slice a l c:=by
 cases x with
 | nils=>rw [hr.nils_inv];exact ⟨_,_,_,rfl⟩
 | lst g' xs=>cases hr.lst_inv;exact ⟨_,_,_,rfl⟩
 | own i Zg g' off len=>cases hr with
   | d h=>cases h
   | own=>exact ⟨_,_,_,rfl⟩
 | _=>simp [PH.elems] at he
theorem Zss {src dst:TypeId}{y:Operand}(H:HP C ρ Z vh h)(S:SR C ρ (Zn h) Z Y1 Yt)(hK:KOk K n h.next)(hd:∀ d,o.dst=some d->d < n)(ho:o.op=.convert src dst y)(he:Zk C pcf pyf all K Y1 h o=some r):
  Zfd C K ρ Z h vh r.1 r.2 (Y9 C cf yf Yt vh o):=by
 simp only [Zk,ho] at he;split at he
 .rename_i ts td v hs htd hv;obtain ⟨w,Wl,Wu⟩:=Zl S hv;split at he
  .rename_i e s hk1 hk2;split at he
   .rename_i te d Vh Sj;split at he
    .rename_i hk3;split at he
     .rename_i hc;cases he;obtain ⟨b,rfl,rfl⟩:=Wu.str_inv
      have Xl:=Zao (K:=K) (vo:=.row (b.data.toList.map fun b=>.int .u8 b.toNat) 1 true) H hK (hd d Sj) (ob:=.row e true ((b.data.toList.map UInt8.toNat).map fun (b:Nat)=>.int .u8 (b:Int))) fun ρ' vf' _=>
       .row e _ (b.data.toList.map fun b=>.int .u8 b.toNat) te Vh (by
        cases e:Z vh.next with
        | none=>rfl
        | some s=>exact absurd (H.vlt _ _ (H.sig _ _ e)) (Nat.lt_irrefl _)) (by rw [hc.2];simp [VH.new]) (by rw [Zqo];exact Zvz b) (by rw [hc.2];exact Zv0 _)
      refine ⟨.slice (some ⟨vh.next,0,none⟩) b.size b.size,_,_,_,?_,by rw [Ta];exact Zdi Vh _,Xl⟩;simp only [Y9,ho,hs,htd,Wl,hk1,hk2,Vh,hk3];rw [if_pos (by rw [Ta];exact hc.1)]
     .cases he
    .cases he
   .cases he
  .rename_i e v hk1 hk2;split at he
   .rename_i te Vh;split at he
    .rename_i hk3;split at he
     .rename_i R3;rw [Option.map_eq_some_iff] at he;obtain ⟨q,hq,rfl⟩:=he;rw [Option.bind_eq_some_iff] at hq;obtain ⟨ys,hys,hq⟩:=hq;obtain ⟨hl,vcs,h1,h2,h3⟩:=Znw H Vh Wu hys
      have Zkx:ys.flatMap cellsOf=ys:=by
       have:∀ {ys:List PV} {q:List Nat},Zk.bytesP ys=some q->ys.flatMap cellsOf=ys:=by
        intro ys
        induction ys with
        | nil=>intros;rfl
        | cons y ys ih=>
          intro q hq;cases y with
          | int k m=>
            cases k<;>simp [Zk.bytesP] at hq;obtain ⟨q',Q7,_⟩:=hq;simp [cellsOf,ih Q7]
          | _=>simp [Zk.bytesP] at hq
       exact this hq
      rw [Zkx] at h2;obtain ⟨b,h4,rfl⟩:=Zll h2 hq;rw [R3] at h1;refine ⟨.string b,vh,ρ,Z,?_,.d (.str b),St.refl H⟩;have hv':=Zin Wu hys;obtain ⟨a,l,c,rfl⟩:=hv';simp only [Y9,ho,hs,htd,Wl,hk1,hk2,Vh,hk3,R3,if_true,h1,Option.bind_some,h4,Option.map_some]
     .cases he
    .cases he
   .cases he
  .cases he
 .cases he
theorem Zw7 {t:TypeId}{y:Operand}{lo hi:Option Operand}(H:HP C ρ Z vh h)(S:SR C ρ (Zn h) Z Y1 Yt)(ho:o.op=.slice t y lo hi none)(he:Zk C pcf pyf all K Y1 h o=some r):
  Zvr C ρ Z h vh r.1 r.2 (Y9 C cf yf Yt vh o):=by
 simp only [Zk,ho] at he;split at he
 .rename_i ty i Zg g off len ht hy;obtain ⟨w,Wl,Wu⟩:=Zl S hy;split at he
  .rename_i l u T8 hhi;obtain ⟨l',hl1,hl2⟩:=Zf0 S T8;obtain ⟨u',hu1,hu2⟩:=Zf0 S hhi;split at he
   .rename_i e hk;split at he
    .rename_i te p q rw_ Vh hb V5;split at he
     .rename_i hge;cases he;subst hge;have S7:=Sw.1 V5;obtain ⟨ty1,cap,h1,rfl⟩:=Wu.own_inv S7;obtain ⟨ty2,vcs,b,h2,hg,_⟩:=Zj6 H S7;rw [Vh] at h1 h2;cases h1;cases h2;have hb':=Zad hl2 hu2 hb;refine ⟨rfl,_,?_,.own i Zg e (off+p) (q - p) Zg ⟨ρ i,off*te.size+p*te.size,none⟩ (q - p) te (Zr.2 ⟨_,S7⟩) (Nat.le_refl _) rfl Vh (fun _=>by rw [Nat.add_mul])⟩;rw [Zdj ho ht Wl hl1 hu1];simp only [Zj2,hk,hb',Vh,hg,if_true]
     .cases he
    .cases he
   .cases he
  .cases he
 .cases he
theorem Zef {t:TypeId}{y z:Operand}(H:HP C ρ Z vh h)(S:SR C ρ (Zn h) Z Y1 Yt)(ho:o.op=.indexAddr t y z)(he:Zk C pcf pyf all K Y1 h o=some r):
  Zvr C ρ Z h vh r.1 r.2 (Y9 C cf yf Yt vh o):=by
 simp only [Zk,ho] at he;split at he
 .rename_i ty b Zg g off len k i ht hy hz;obtain ⟨w,Wl,Wu⟩:=Zl S hy;obtain ⟨u,hu1,hu2⟩:=Zl S hz;rw [hu2.int_inv] at hu1;split at he
  .rename_i e hk;split at he
   .rename_i te own xs Vh V5;split at he
    .rename_i hc;cases he;obtain ⟨rfl,h0,hlt,hle⟩:=hc;have S7:=Sw.1 V5;obtain ⟨ty1,cap,h1,rfl⟩:=Wu.own_inv S7;rw [Vh] at h1;cases h1;refine ⟨rfl,_,?_,.eptr b Zg e (off+i.toNat) 0 Zg ⟨ρ b,off*te.size+i.toNat*te.size,none⟩ te (Zr.2 ⟨_,S7⟩) (Nat.le_refl _) rfl Vh (fun _=>by rw [Nat.add_mul];rfl)⟩;simp only [Y9,ho,ht,Wl,hu1,hk,Vh];rw [if_pos ⟨h0,hlt⟩];rfl
    .cases he
   .cases he
  .cases he
 .cases he
theorem Zkj {t:TypeId}{y z:Operand}{ok:Bool}(H:HP C ρ Z vh h)(S:SR C ρ (Zn h) Z Y1 Yt)(ho:o.op=.lookup t y z ok)(he:Zk C pcf pyf all K Y1 h o=some r):
  Zvr C ρ Z h vh r.1 r.2 (Y9 C cf yf Yt vh o):=by
 simp only [Zk,ho] at he;split at he
 .rename_i ty i Zg k ht hy hz;obtain ⟨w,Wl,Wu⟩:=Zl S hy;obtain ⟨u,hu1,hu2⟩:=Zl S hz;split at he
  .rename_i kt et hk;split at he
   .rename_i kty ety hkt het;split at he
    .rename_i Tn;split at he
     .rename_i ver' es hi;split at he
      .rename_i e;subst e;have hw:=Wu.map_inv hi;subst hw;cases H.obj _ _ _ hi with
       | map es ves hzz hg hr=>
         split at he
         .rename_i v hf;cases he;obtain ⟨v',h1,h2⟩:=Zie hr hu2 hf;cases h2 with
          | some h2=>
            rename_i v';refine ⟨rfl,if ok then .tuple #[v',.bool true] else v',?_,?_⟩
            .simp only [Y9,ho,ht,Wl,hu1,hk,hkt,het];rw [if_pos (Zgf hu2 Tn)];simp only [hg,h1]
            .cases ok with
             | true=>exact .tuple _ _ (.cons h2 (.cons (.d (.bool _)) .nil))
             | false=>exact h2
         .rename_i hf;rw [Option.map_eq_some_iff] at he;obtain ⟨zv,hzv,rfl⟩:=he;obtain ⟨v',h1,h2⟩:=Zie hr hu2 hf;cases h2;obtain ⟨zv',h3,h4⟩:=Zmo (Z:=Z) hzv;refine ⟨rfl,if ok then .tuple #[zv',.bool false] else zv',?_,?_⟩
          .simp only [Y9,ho,ht,Wl,hu1,hk,hkt,het];rw [if_pos (Zgf hu2 Tn)];simp only [hg,h1,h3,Option.map_some]
          .cases ok with
           | true=>exact .tuple _ _ (.cons (.d h4) (.cons (.d (.bool _)) .nil))
           | false=>exact .d h4
         .cases he
      .cases he
     .cases he
    .cases he
   .cases he
  .cases he
 .cases he
theorem Zee {t:TypeId}{m k y:Operand}(H:HP C ρ Z vh h)(S:SR C ρ (Zn h) Z Y1 Yt)(ho:o.op=.mapUpdate t m k y\/o.op=.insert t m k y)(he:Zk C pcf pyf all K Y1 h o=some r):
  Zfd C K ρ Z h vh r.1 r.2 (Y9 C cf yf Yt vh o):=by
 have he':(match C.T t,Yr Y1 m,Yr Y1 k,Yr Y1 y with
  | some ty,some (.map i Zg),some kv,some v=>
    match ty.k with
    | .map kt _=>match C.T kt,h.get i with
      | some kty,some (w,.map es)=>if w=Zg/\Zos kty.k kv=true/\can K i=true then (V8 es kv v).map fun es=>(PV.tuple [],h.put i Zg (.map es)) else none
      | _,_=>none
    | _=>none
  | _,_,_,_=>none)=some r:=by
  rcases ho with ho | ho<;>simp only [Zk,ho] at he<;>exact he
 clear he;split at he'
 .rename_i ty i Zg kv v ht hm hk hy;obtain ⟨w,Wl,Wu⟩:=Zl S hm;obtain ⟨u,hu1,hu2⟩:=Zl S hk;obtain ⟨z,hz1,hz2⟩:=Zl S hy;split at he'
  .rename_i kt et hkk;split at he'
   .rename_i kty ver' es hkt hi;split at he'
    .rename_i hc;obtain ⟨rfl,Tn,Zt⟩:=hc;rw [Option.map_eq_some_iff] at he';obtain ⟨es2,hes2,rfl⟩:=he';have hw:=Wu.map_inv hi;subst hw;cases H.obj _ _ _ hi with
     | map es ves hzz hg hr=>
       obtain ⟨Z4u,h1,h2⟩:=Zuh hr hu2 hz2 hes2;have Xl:=Zfz (K:=K) (ob:=.map es2) (vo:=.map Z4u) H hi Zt hzz fun ρ' vf' he=>.map es2 Z4u hzz Zoj (h2.mono he (Wr.le.refl _))
       refine ⟨.tuple #[],_,_,_,?_,.tuple _ _ .nil,Xl⟩;rcases ho with ho | ho<;>simp only [Y9,ho,ht,Wl,hu1,hz1,hkk,hkt,hg]<;>rw [if_pos (Zgf hu2 Tn),h1]<;>rfl
    .cases he'
   .cases he'
  .cases he'
 .cases he'
end
end Go.Pure
end
section
namespace Go.Pure
open Go Go.Virt
section
variable {C:Ctx}{Z Z':Wr}{ρ ρ':Nat->Nat}{vf vf':Nat->Option Nat}{h h':PH}{vh vh':VH}{K:Loc}{n:Nat}{Y1:Yo}{Yt:SL}{o:Oper}{x:PV}{all:List Oper}
 {cf yf:Nat->List Value->VH->Option (Value×VH)} {pcf:CF} {pyf:YF} {r:PV×PH}
theorem Rl (H:HP C ρ Z vh h):Z vh.next=none:=by
 cases e:Z vh.next with
 | none=>rfl
 | some s=>exact absurd (H.vlt _ _ (H.sig _ _ e)) (Nat.lt_irrefl _)
theorem Zis (H:HP C ρ Z vh h)(hK:KOk K n h.next){d g:Nat}(hd:d < n){ty:Ty}(ht:C.T g=some ty){m:Nat}{ys:List PV}{s:PV}{s' x':Value}{ycs:List Value}(hs:R C ρ (Zn h) Z s s')(hm:Zrt x'=some m)(hml:ys.length=m)
  (hx:vh.elems ty.size x'=some ycs) (hy:RDs C Z (ys.flatMap cellsOf) ycs) (hyl:∀ y∈ys,(cellsOf y).length=ty.size) (he:Xx K h d g ty m ys s=some r):Zfd C K ρ Z h vh r.1 r.2 (Sc vh ty s' x'):=by
 cases s with
 | nils=>
   rw [hs.nils_inv];have hn0:vh.elems ty.size (.slice none 0 0)=some []:=rfl;simp only [Xx] at he;split at he
   .rename_i hc;split at he
    .rename_i h0;cases he;refine ⟨.slice none 0 0,vh,ρ,Z,?_,.d .nils,St.refl H⟩;unfold Sc;simp only [hm,hx,hn0];rw [if_pos ⟨by omega,hc.2⟩,if_pos h0]
    .rename_i h0;cases he;have Xl:=Zao (K:=K) (vo:=.row ycs ty.size true) H hK hd (ob:=.row g true ys) fun ρ' vf' _=>.row g ys ycs ty ht (Rl H) (by simp [VH.new]) hy hyl
     refine ⟨.slice (some ⟨vh.next,0,none⟩) m m,_,_,_,?_,Zdi ht _,Xl⟩;unfold Sc;simp only [hm,hx,hn0];rw [if_pos ⟨by omega,hc.2⟩,if_neg h0]
   .cases he
 | own i Zg g' off len=>
   simp only [Xx] at he;split at he
   .rename_i hc;obtain ⟨hc1,hc2,hc3,rfl,Zt⟩:=hc;split at he
    .rename_i xs V5;split at he
     .rename_i hl;cases he;have hi:=Sw.1 V5;obtain ⟨ty1,cap,h1,rfl⟩:=hs.own_inv hi;obtain ⟨ty2,vcs,b,h2,hg,hrr,To,Zy4⟩:=Zj6 H hi;rw [ht] at h1 h2;cases h1;cases h2;obtain ⟨rfl,hzz⟩:=Zy4 rfl;have Tk:=Uj To
      have h1:Xk (xs.flatMap cellsOf) (off*ty.size) (len*ty.size)=some (((xs.drop off).take len).flatMap cellsOf):=by
       unfold Xk;rw [if_pos (by rw [Tk,<- Nat.add_mul];exact Nat.mul_le_mul_right _ hl),Za0 To,Zds fun x hx=>To x (List.drop_subset _ _ hx)]
      obtain ⟨r',h2,h3⟩:=hrr.read h1
      have hel:vh.elems ty.size (.slice (some ⟨ρ i,off*ty.size,none⟩) len cap)=some r':=by
       simp only [VH.elems,VH.load,hg,Option.isSome_none,Bool.false_eq_true,if_false,h2]
      have hlt:=H.rho_lt hi
      have Xl:St C K ρ Z h vh (fun j=>if j=i then vh.next else ρ j) Z (h.put i (Zg+1) (.row g' true ((xs.drop off).take len++ys))) (((vh.put (ρ i) none).note (ρ i)).new (.row (r'++ycs) ty.size true)):=by
       refine HP.change H (.inr ⟨rfl,_,hi⟩) (H.lt _ _ hi) Zt (fun w o' hw=>?_) (by simp [VH.new,VH.note,VH.put]) (.inr (Nat.le_refl _)) (by simp [VH.new,VH.note,VH.put]) (Nat.min_le_left _ _) (fun _ _=>Nat.min_le_right _ _)
        (fun q hq1 hq2=>?_) (fun _ _=>.inl hzz) (Rl H) (fun q y hq=>?_) (fun ρ' vf' _ _ W9=>?_)
       .rw [hi] at hw;cases hw;exact ⟨by omega,fun e=>by omega⟩
       .have:=hq2 ⟨_,hi⟩;simp [VH.new,VH.note,VH.put,T6 hq1,T6 this]
       .by_cases e:q=vh.next
        .subst e;simp [VH.new,VH.note,VH.put]
        .simp only [VH.new,VH.note,VH.put,T6 e,cond_false] at hq ⊢;cases e2:Nat.beq q (ρ i) with
         | true=>rw [e2] at hq;cases hq
         | false=>
           rw [e2] at hq;have:=H.vlt _ _ hq;omega
       .refine .row g' _ (r'++ycs) ty ht (Rl H) (by simp [VH.new,VH.note,VH.put]) ?_ ?_
        .rw [List.flatMap_append];exact h3.append hy
        .intro x hx;rcases List.mem_append.1 hx with hx | hx
         .exact To x (List.drop_subset _ _ (List.take_subset _ _ hx))
         .exact hyl x hx
      refine ⟨.slice (some ⟨vh.next,0,none⟩) (len+m) (len+m),_,_,_,?_,Zdi ht _,Xl⟩;unfold Sc;simp only [hm,hx,hel];rw [if_pos ⟨hc1,hc2,hc3⟩];simp only [hg,if_true]
     .cases he
    .cases he
   .cases he
 | _=>simp [Xx] at he
theorem Zvi {i Zg:Nat}{k:PV}{u:Value}{c:Call}(H:HP C ρ Z vh h)(S:SR C ρ (Zn h) Z Y1 Yt)(ho:o.op=.call c)(Wb:c.callee=.builtin .delete){w:Value}(ha:opds C Yt c.args.toList=some [w,u])(hw:R C ρ (Zn h) Z (.map i Zg) w)(hu:R C ρ (Zn h) Z k u)
  (he:(match (c.argTypes[0]?).bind C.T with
     | some ts=>match ts.k with
       | .map kt _=>
         match C.T kt,h.get i with
         | some kty,some (w,.map es)=>if w=Zg/\Zos kty.k k=true/\can K i=true then (Zbf es k).map fun es=>(PV.tuple [],h.put i Zg (.map es)) else none
         | _,_=>none
       | _=>none
     | none=>none)=some r):Zfd C K ρ Z h vh r.1 r.2 (Y9 C cf yf Yt vh o):=by
 split at he
 .rename_i ts ht;split at he
  .rename_i kt et hk;split at he
   .rename_i kty ver' es hkt hi;split at he
    .rename_i hc;obtain ⟨rfl,Tn,Zt⟩:=hc;rw [Option.map_eq_some_iff] at he;obtain ⟨es2,hes2,rfl⟩:=he;have hw':=hw.map_inv hi;subst hw';cases H.obj _ _ _ hi with
     | map es ves hzz hg hr=>
       obtain ⟨Z4u,h1,h2⟩:=Zui hr hu hes2;have Xl:=Zfz (K:=K) (ob:=.map es2) (vo:=.map Z4u) H hi Zt hzz fun ρ' vf' he=>.map es2 Z4u hzz Zoj (h2.mono he (Wr.le.refl _))
       refine ⟨.tuple #[],_,_,_,?_,.tuple _ _ .nil,Xl⟩;simp only [Y9,ho,Uk,ha,Wb,ht,hk,hkt,hg];rw [if_pos (Zgf hu Tn),h1];rfl
    .cases he
   .cases he
  .cases he
 .cases he
def Zg4 (C:Ctx)(K:Loc)(n:Nat)(pcf:CF)(cf:Nat->List Value->VH->Option (Value×VH)):Prop:=
 ∀ f args h r,pcf K f args h=some r->∀ (ρ:Nat->Nat) (Z:Wr) (vh:VH) (X5:List Value),HP C ρ Z vh h->KOk K n h.next->Rs C ρ (Zn h) Z args X5->Zfd C K ρ Z h vh r.1 r.2 (cf f X5 vh)
def YfSim (C:Ctx)(K:Loc)(n:Nat)(pyf:YF)(yf:Nat->List Value->VH->Option (Value×VH)):Prop:=
 ∀ l Zg args h r,pyf K l Zg args h=some r->∀ (ρ:Nat->Nat) (Z:Wr) (vh:VH) (X5:List Value) (w:Value),HP C ρ Z vh h->KOk K n h.next->Rs C ρ (Zn h) Z args X5->R C ρ (Zn h) Z (.yield l Zg) w->∃ p,w=.func (.yield p) #[] #[]/\Zfd C K ρ Z h vh r.1 r.2 (yf p X5 vh)
theorem Zsv {c:Call}(hcf:Zg4 C K n pcf cf)(hyf:YfSim C K n pyf yf)(H:HP C ρ Z vh h)(S:SR C ρ (Zn h) Z Y1 Yt)(hK:KOk K n h.next)(hd:∀ d,o.dst=some d->d < n)(ho:o.op=.call c)(he:Zk C pcf pyf all K Y1 h o=some r):
  Zfd C K ρ Z h vh r.1 r.2 (Y9 C cf yf Yt vh o):=by
 simp only [Zk,ho] at he;split at he
 .cases he
 .rename_i args Xq;obtain ⟨X5,Ra,Rx⟩:=Tj S Xq;split at he
  .rename_i f Wb;split at he
   .rename_i g first captured hf
    obtain ⟨w,Wl,Wu⟩:=Zl S hf;cases Wu with
    | d h=>cases h
    | fn g a c2 a' c' r1 r2=>
      obtain ⟨v,vh',ρ',Z',q1,q2,q3⟩:=hcf g _ h r he ρ Z vh (a'.toList++X5++c'.toList) H hK ((r1.append Rx).append r2);refine ⟨v,vh',ρ',Z',?_,q2,q3⟩;simp only [Y9,ho,Uk,Ra,Wb,Wl];exact q1
   .rename_i l Zg hf;obtain ⟨w,Wl,Wu⟩:=Zl S hf;obtain ⟨p,rfl,v,vh',ρ',Z',q1,q2,q3⟩:=hyf l Zg args h r he ρ Z vh X5 w H hK Rx Wu;refine ⟨v,vh',ρ',Z',?_,q2,q3⟩;simp only [Y9,ho,Uk,Ra,Wb,Wl];exact q1
   .cases he
  .cases he
  .rename_i b Wb;split at he
   .rename_i i Zg;cases Rx with
    | cons hy hr=>
      cases hr;split at he
      .rename_i ty ht;split at he
       .rename_i kt et hk;split at he
        .rename_i w es hi;split at he
         .rename_i e;subst e;cases he;have hw:=hy.map_inv hi;subst hw;cases H.obj _ _ _ hi with
          | map es ves hzz hg hr=>
            refine ⟨.int .i64 ves.length,vh,ρ,Z,?_,by rw [hr.length];exact .d (.int _ _),St.refl H⟩;simp only [Y9,ho,Uk,Ra,Wb,ht,hk,hg]
         .cases he
        .cases he
       .cases he
      .cases he
   .rename_i s x;cases Rx with
    | cons hs hr=>
      rename_i s' l1;cases hr with
      | cons hx hr=>
        rename_i x' l2;cases hr;split at he
        .rename_i ts tx d hts htx Sj;split at he
         .rename_i e hk;split at he
          .rename_i ty R2
           have Xo:Y9 C cf yf Yt vh o=Ul vh ty tx s' x':=by
            simp only [Y9,ho,Uk,Ra,Wb,hts,htx,hk,R2]
           rw [Xo];split at he
           .rename_i k hkx;split at he
            .rename_i k2 m;have hs':=hs.nils_inv;have hx':=hx.int_inv;subst hs' hx';split at he
             .rename_i hc;split at he
              .rename_i h0;cases he;refine ⟨.slice none 0 0,vh,ρ,Z,?_,.d .nils,St.refl H⟩;simp only [Ul,hkx];rw [if_pos hc,if_pos h0]
              .rename_i h0;split at he
               .rename_i z hz;split at he
                .rename_i hzc;cases he;have Zyy:RDs C Z (cellsOf z) ty.zero:=Zen hz
                 have Xl:=Zao (K:=K) (vo:=.row (W8 m.toNat ty.zero) ty.size true) H hK (hd d Sj) (ob:=.row e true (List.replicate m.toNat z)) fun ρ' vf' _=>
                  .row e _ _ ty R2 (Rl H) (by simp [VH.new]) (Zj8 Zyy m.toNat) (fun x hx=>by rw [(List.mem_replicate.1 hx).2];exact hzc.1)
                 refine ⟨.slice (some ⟨vh.next,0,none⟩) m.toNat m.toNat,_,_,_,?_,Zdi R2 _,Xl⟩;simp only [Ul,hkx];rw [if_pos hc,if_neg h0]
                .cases he
               .cases he
             .cases he
            .cases he
           .rename_i hkx;split at he
            .rename_i b;split at he
             .rename_i R3;obtain ⟨bs,rfl,rfl⟩:=hx.str_inv
              have hA:Ul vh ty tx s' (.string bs)=Sc vh ty s' (.string bs):=by
               unfold Ul;split
               .rename_i k hk2;exact absurd hk2 (hkx _)
               .simp [R3]
              rw [hA];refine Zis (ycs:=bs.data.toList.map fun b=>.int .u8 b.toNat) H hK (hd d Sj) R2 hs (by simp only [Zrt];rw [Ta]) (by simp) rfl ?_ ?_ he
              .rw [Zqo];exact Zvz bs
              .rw [R3];exact Zv0 _
             .cases he
            .rename_i hns;split at he
             .rename_i ys hys;obtain ⟨hl,vcs,h1,h2,h3⟩:=Znw H R2 hx hys;obtain ⟨a,l,c2,rfl⟩:=Zin hx hys
              have hA:Ul vh ty tx s' (.slice a l c2)=Sc vh ty s' (.slice a l c2):=by
               unfold Ul;split
               .rename_i k hk2;exact absurd hk2 (hkx _)
               .simp
              rw [hA];exact Zis H hK (hd d Sj) R2 hs hl rfl h1 h2 h3 he
             .cases he
          .cases he
         .cases he
        .cases he
   .rename_i i Zg k;cases Rx with
    | cons hs hr=>
      cases hr with
      | cons hx hr=>
        cases hr;exact Zvi H S ho Wb Ra hs hx he
   .cases he
theorem Zjz (hcf:Zg4 C K n pcf cf)(hyf:YfSim C K n pyf yf)(H:HP C ρ Z vh h)(S:SR C ρ (Zn h) Z Y1 Yt)(hK:KOk K n h.next)(hd:∀ d,o.dst=some d->d < n)(he:Zk C pcf pyf all K Y1 h o=some r):
  Zfd C K ρ Z h vh r.1 r.2 (Y9 C cf yf Yt vh o):=by
 cases ho:o.op with
 | load t y=>exact (Zkk H S ho he).up H
 | store t y z=>exact Zms H S ho he
 | convert src dst y=>exact Zss H S hK hd ho he
 | slice t y lo hi mx=>
   cases mx with
   | none=>exact (Zw7 H S ho he).up H
   | some m=>simp [Zk,ho] at he
 | indexAddr t y z=>exact (Zef H S ho he).up H
 | lookup t y z ok=>exact (Zkj H S ho he).up H
 | mapUpdate t m k y=>exact Zee H S (.inl ho) he
 | insert t m k y=>exact Zee H S (.inr ho) he
 | call c=>exact Zsv hcf hyf H S hK hd ho he
 | _=>simp [Zk,ho] at he
theorem Z1v (H:HP C ρ Z vh h)(S:SR C ρ (Zn h) Z Y1 Yt)(hw:Um o=false)(he:Zk C pcf pyf all K Y1 h o=some r):Zvr C ρ Z h vh r.1 r.2 (Y9 C cf yf Yt vh o):=by
 cases ho:o.op with
 | load t y=>exact Zkk H S ho he
 | slice t y lo hi mx=>
   cases mx with
   | none=>exact Zw7 H S ho he
   | some m=>simp [Zk,ho] at he
 | indexAddr t y z=>exact Zef H S ho he
 | lookup t y z ok=>exact Zkj H S ho he
 | call c=>
   simp only [Um,ho] at hw;split at hw
   .rename_i Wb;simp only [Zk,ho] at he;split at he
    .cases he
    .rename_i args Xq;obtain ⟨X5,Ra,Rx⟩:=Tj S Xq;rw [Wb] at he
     try dsimp only at he
     split at he
     .rename_i i Zg _;cases Rx with
      | cons hy hr=>
        cases hr;split at he
        .rename_i ty ht;split at he
         .rename_i kt et hk;split at he
          .rename_i w es hi;split at he
           .rename_i e;subst e;cases he;have hw:=hy.map_inv hi;subst hw;cases H.obj _ _ _ hi with
            | map es ves hzz hg hr=>
              refine ⟨rfl,.int .i64 ves.length,?_,by rw [hr.length];exact .d (.int _ _)⟩;simp only [Y9,ho,Uk,Ra,Wb,ht,hk,hg]
           .cases he
          .cases he
         .cases he
        .cases he
     .rename_i hh;cases hh
     .rename_i hh;cases hh
     .cases he
   .cases hw
 | _=>simp [Um,ho] at hw<;>simp [Zk,ho] at he
theorem Zacy {m:Mk}{sh:Shape}{vo:VO}(hm:MkOk C ρ (Zn h) Z m sh vo)(H:HP C ρ Z vh h)(hK:KOk K n h.next){d:Nat}(hd:d < n){ob:PO}(U5:m.obj=some ob):
  Zfd C K ρ Z h vh (m.val (K.base+d) (h.stamp (K.base+d))) (h.put (K.base+d) (h.stamp (K.base+d)) ob) (some (sh.val vh.next,vh.new vo)):=by
 cases hm with
 | lit=>simp [Mk.obj] at U5
 | ptr cs vcs e hr=>
   simp only [Mk.obj,Option.some.injEq] at U5;subst U5;have Xl:=Zao (K:=K) (vo:=.row vcs e true) H hK hd (ob:=.cells cs) fun ρ' vf' he=>.cells cs vcs e (Rl H) (by simp [VH.new]) (hr.mono he (Wr.le.refl _))
   exact ⟨_,_,_,_,rfl,.ptr _ _ 0 _ ⟨vh.next,0,none⟩ Zf4 (Nat.le_refl _) rfl fun _=>by simp,Xl⟩
 | slice g m xs vcs ty ht hr hl=>
   simp only [Mk.obj,Option.some.injEq] at U5;subst U5;have Xl:=Zao (K:=K) (vo:=.row vcs ty.size true) H hK hd (ob:=.row g true xs) fun ρ' vf' he=>.row g xs vcs ty ht (Rl H) (by simp [VH.new]) hr hl
   exact ⟨_,_,_,_,rfl,Zdi ht _,Xl⟩
 | map=>
   simp only [Mk.obj,Option.some.injEq] at U5;subst U5;have Xl:=Zao (K:=K) (vo:=.map []) H hK hd (ob:=.map []) fun ρ' vf' he=>.map [] [] (Rl H) (by simp [VH.new]) .nil
   exact ⟨_,_,_,_,rfl,.map _ _ _ vh.next Zf4 (Nat.le_refl _) fun _=>by simp,Xl⟩
theorem Z7j (hcf:Zg4 C K n pcf cf)(hyf:YfSim C K n pyf yf)(H:HP C ρ Z vh h)(S:SR C ρ (Zn h) Z Y1 Yt)(hK:KOk K n h.next)(hd:∀ d,o.dst=some d->d < n)(he:opP C pcf pyf all K Y1 h o=some r):
  Zfd C K ρ Z h vh r.1 r.2 (Y9 C cf yf Yt vh o):=by
 unfold opP at he;split at he
 .rename_i v hf;cases he;obtain ⟨w,h1,h2⟩:=Zsi S hf;exact ⟨w,vh,ρ,Z,h2 cf yf vh H.sig,h1,St.refl H⟩
 .split at he
  .rename_i m hm;obtain ⟨sh,vo,h1,h2,h3⟩:=Zm5 S hm;rw [h3 cf yf vh];split at he
   .rename_i U5;cases he;cases h1 with
    | lit g xs vcs ty ht hr hl=>
      obtain ⟨Z',Xl,hrd,_⟩:=Z1y (K:=K) H ht hr hl;exact ⟨_,_,ρ,Z',rfl,.d hrd,Xl⟩
    | _=>simp [Mk.obj] at U5
   .rename_i ob d U5 Sj;cases he;exact Zacy h1 H hK (hd d Sj) U5
   .cases he
  .exact Zjz hcf hyf H S hK hd he
theorem Qz {ops:List Oper}{b:Bool}(S:SR C ρ vf Z Y1 Yt)(he:Vb ops Y1 o=some b):Rj ops Yt o=some b:=by
 unfold Vb at he;unfold Rj;split at he
 .rename_i hg;rw [hg];exact he
 .rename_i j want hg;rw [hg]
  try dsimp only
  split at he
  .rename_i d hd;rw [hd]
   try dsimp only
   split at he
   .rename_i c hc;cases he;obtain ⟨w,h1,h2⟩:=S _ _ hc;rw [h1,h2.bool_inv]
   .rename_i w Ys hc;cases he;obtain ⟨u,h1,h2⟩:=S _ _ hc;rw [h1];cases h2 with
    | d h=>cases h<;>first | rfl | exact absurd rfl (Ys _)
    | _=>rfl
   .cases he
  .rename_i hd;rw [hd];exact he
theorem Z12 (hcf:Zg4 C K n pcf cf)(hyf:YfSim C K n pyf yf):∀ (l:List Oper) {Y1:Yo} {Yt:SL} {h:PH} {vh:VH} {ρ:Nat->Nat} {Z:Wr} {q:Yo×PH},HP C ρ Z vh h->SR C ρ (Zn h) Z Y1 Yt->KOk K n h.next->(∀ o∈l,∀ d,o.dst=some d->d < n)->Qq C pcf pyf K all l Y1 h=some q ->
  ∃ vsl' vh' ρ' Z',opsV C cf yf all l Yt vh=some (vsl',vh')/\SR C ρ' (Zn q.2) Z' q.1 vsl'/\St C K ρ Z h vh ρ' Z' q.2 vh':=by
 intro l
 induction l with
 | nil=>
   intro Y1 Yt h vh ρ Z q H S hK hd he;simp only [Qq,Option.some.injEq] at he;subst he;exact ⟨Yt,vh,ρ,Z,rfl,S,St.refl H⟩
 | cons o l ih=>
   intro Y1 Yt h vh ρ Z q H S hK hd he;simp only [Qq] at he;simp only [opsV];split at he
   .rename_i hw;rw [Qz S hw]
    try dsimp only
    split at he
    .rename_i v h1 ho;obtain ⟨w,vh1,ρ1,Z1,a1,a2,a3⟩:=Z7j hcf hyf H S hK (hd o (by simp)) ho;rw [a1]
     try dsimp only
     obtain ⟨vsl',vh',ρ',Z',b1,b2,b3⟩:=ih a3.hp ((S.mono a3.ext a3.sig).putP o.dst a2) ⟨hK.1,Nat.le_trans hK.2 a3.next⟩ (fun o ho=>hd o (by simp [ho])) he;exact ⟨vsl',vh',ρ',Z',b1,b2,a3.trans H b3⟩
    .cases he
   .rename_i hw;rw [Qz S hw]
    try dsimp only
    exact ih H (S.putP o.dst (.tuple [] #[] .nil)) hK (fun o ho=>hd o (by simp [ho])) he
   .cases he
end
end Go.Pure
end
section
namespace Go.Pure
open Go Go.Virt
section
variable {C:Ctx}{Z Z':Wr}{ρ ρ':Nat->Nat}{vf vf':Nat->Option Nat}{h h':PH}{vh vh':VH}{K:Loc}{n:Nat}{Y1:Yo}{Yt:SL}{x:PV}{v:Value}
theorem HP.sub (H:HP C ρ Z vh h)(hg:h'.get=h.get)(hn:∀ i x,h.get i=some x->i < h'.next)(hv:vh'.get=vh.get)(hvn:vh.next<=vh'.next)(hw:vh'.wr<=vh'.next):HP C ρ Z vh' h' where
 lt:=fun i x hx=>hn i x (by rw [<- hg];exact hx)
 inj:=fun i j x y hx hy e=>H.inj i j x y (by rw [<- hg];exact hx) (by rw [<- hg];exact hy) e
 vlt:=fun i o ho=>Nat.lt_of_lt_of_le (H.vlt i o (by rw [<- hv];exact ho)) hvn
 sig:=fun Zv s hs=>by rw [hv];exact H.sig Zv s hs
 obj:=fun i Zg o ho=>by
  rw [hg] at ho;have hvf:Zn h'=Zn h:=by unfold Zn;rw [hg]
  rw [hvf];have h1:=H.obj i Zg o ho;cases h1 with
  | loop K0 n sl Yt ps as bd a b c d e f g=>exact .loop K0 n sl Yt ps as bd a (by rw [hv];exact b) c d e f g
  | cells cs vcs e a b c=>exact .cells cs vcs e a (by rw [hv];exact b) c
  | row g xs vcs ty a b c d e=>exact .row g xs vcs ty a b (by rw [hv];exact c) d e
  | frozen g xs s ty a b c d e f=>exact .frozen g xs s ty a b c d e f
  | map es ves a b c=>exact .map es ves a (by rw [hv];exact b) c
  | gone a b=>exact .gone (by omega) b
 wr:=hw
theorem Zgz {m:Nat}(hvf:∀ i,i < m->vf' i=vf i):∀ (k:Nat) {x:PV} {v:Value},below m k x=true->R C ρ vf Z x v->R C ρ vf' Z x v:=by
 intro k
 induction k with
 | zero=>
   intro x v hb hr;cases hr with
   | d h=>exact .d h
   | own i Zg g off len c a cap ty hi hv hp ht ha=>exact .own i Zg g off len c a cap ty (by rw [hvf i (by simpa [below] using hb)];exact hi) hv hp ht ha
   | ptr i Zg off c a hi hv hp ha=>exact .ptr i Zg off c a (by rw [hvf i (by simpa [below] using hb)];exact hi) hv hp ha
   | eptr i Zg g ix off c a ty hi hv hp ht ha=>exact .eptr i Zg g ix off c a ty (by rw [hvf i (by simpa [below] using hb)];exact hi) hv hp ht ha
   | rptr cs Zv o s vcs hs hr hx=>exact .rptr cs Zv o s vcs hs hr hx
   | map i Zg c w hi hv ha=>exact .map i Zg c w (by rw [hvf i (by simpa [below] using hb)];exact hi) hv ha
   | yield i Zg c w hi hv ha=>exact .yield i Zg c w (by rw [hvf i (by simpa [below] using hb)];exact hi) hv ha
   | _=>simp [below] at hb
 | succ k ih=>
   intro x v hb hr
   have hs:∀ {cs:List PV} {cs':List Value},cs.all (below m k)=true->Rs C ρ vf Z cs cs'->Rs C ρ vf' Z cs cs':=by
    intro cs
    induction cs with
    | nil=>intro cs' _ h;cases h;exact .nil
    | cons c cs ih2=>
      intro cs' ha h;simp only [List.all_cons,Bool.and_eq_true] at ha;cases h with | cons h r=>exact .cons (ih ha.1 h) (ih2 ha.2 r)
   cases hr with
   | d h=>exact .d h
   | own i Zg g off len c a cap ty hi hv hp ht ha=>exact .own i Zg g off len c a cap ty (by rw [hvf i (by simpa [below] using hb)];exact hi) hv hp ht ha
   | ptr i Zg off c a hi hv hp ha=>exact .ptr i Zg off c a (by rw [hvf i (by simpa [below] using hb)];exact hi) hv hp ha
   | eptr i Zg g ix off c a ty hi hv hp ht ha=>exact .eptr i Zg g ix off c a ty (by rw [hvf i (by simpa [below] using hb)];exact hi) hv hp ht ha
   | rptr cs Zv o s vcs hs hr hx=>exact .rptr cs Zv o s vcs hs hr hx
   | map i Zg c w hi hv ha=>exact .map i Zg c w (by rw [hvf i (by simpa [below] using hb)];exact hi) hv ha
   | yield i Zg c w hi hv ha=>exact .yield i Zg c w (by rw [hvf i (by simpa [below] using hb)];exact hi) hv ha
   | fn f a c a' c' h1 h2=>
     simp only [below,Bool.and_eq_true] at hb;exact .fn f a c a' c' (hs hb.1 h1) (hs hb.2 h2)
   | iface t y w h=>exact .iface t y w (ih (by simpa only [below] using hb) h)
   | agg cs cs' h=>exact .agg cs cs' (hs (by simpa only [below] using hb) h)
   | tuple cs cs' h=>exact .tuple cs cs' (hs (by simpa only [below] using hb) h)
theorem Z5d {m:Nat}(hvf:∀ i,i < m->vf' i=vf i){k:Nat}{cs:List PV}{cs':List Value}(ha:cs.all (below m k)=true)(h:Rs C ρ vf Z cs cs'):Rs C ρ vf' Z cs cs':=by
 induction cs generalizing cs' with
 | nil=>cases h;exact .nil
 | cons c cs ih2=>
   simp only [List.all_cons,Bool.and_eq_true] at ha;cases h with | cons h r=>exact .cons (Zgz hvf k ha.1 h) (ih2 ha.2 r)
theorem Z9j {m:Nat}(hvf:∀ i,i < m->vf' i=vf i){k:Nat}{es:List (PV×PV)}{Sg:List (Value×Value)}(ha:es.all (fun e=>below m k e.1&&below m k e.2)=true)(h:MRP C ρ vf Z es Sg):MRP C ρ vf' Z es Sg:=by
 induction h with
 | nil=>exact .nil
 | cons hk hv r ih=>
   simp only [List.all_cons,Bool.and_eq_true] at ha;exact .cons (Zgz hvf k ha.1.1 hk) (Zgz hvf k ha.1.2 hv) (ih ha.2)
theorem Zt7 (g:Nat):∀ (n:Nat) (x:PV),Yn g n x=true->Yn g (n+1) x=true:=by
 intro n
 induction n with
 | zero=>intro x h;cases x<;>simp_all [Yn]
 | succ n ih=>
   have hs:∀ cs:List PV,cs.all (Yn g n)=true->cs.all (Yn g (n+1))=true:=fun cs h=>List.all_eq_true.2 fun c hc=>ih c (List.all_eq_true.1 h c hc)
   intro x h;cases x with
   | lst g' xs=>simp only [Yn,Bool.and_eq_true] at h ⊢;exact ⟨h.1,hs _ h.2⟩
   | agg cs=>simp only [Yn] at h ⊢;exact hs _ h
   | tuple cs=>simp only [Yn] at h ⊢;exact hs _ h
   | iface t y=>simp only [Yn] at h ⊢;exact ih y h
   | fn f a c=>simp only [Yn,Bool.and_eq_true] at h ⊢;exact ⟨hs _ h.1,hs _ h.2⟩
   | _=>simp_all [Yn]
theorem Zcj {g n:Nat}{x:PV}(h:Yn g n x=true):(cellsOf x).all (Yn g n)=true:=by
 cases x with
 | agg cs=>
   cases n with
   | zero=>simp [Yn] at h
   | succ n=>simp only [Yn] at h;exact List.all_eq_true.2 fun c hc=>Zt7 g n c (List.all_eq_true.1 h c hc)
 | _=>simp only [cellsOf,List.all_cons,List.all_nil,Bool.and_true];exact h
def Zpw (G:List Nat)(Z Z':Wr):Prop:=∀ Zv s,Z Zv=some s->Z' Zv=some s\/∃ g∈G,s.tag=some g
theorem Zph {G:List Nat}(hb:Zpw G Z Z'):∀ (n:Nat) {x:PV} {v:Value},(∀ g∈G,Yn g n x=true)->RD C Z x v->RD C Z' x v:=by
 intro n
 induction n with
 | zero=>
   intro x v ha hr;cases hr with
   | lst g xs Zv o cap s vcs ty hs he ht R2 hr hx hl=>
     rcases hb Zv s hs with h1 | ⟨g',hg',h1⟩
     .by_cases hG:G=[]
      ·
       subst hG
       have hb':Z.le Z':=fun Zv s hs=>by
        rcases hb Zv s hs with h | ⟨g,hg,_⟩
        .exact h
        .simp at hg
       exact (RD.lst g xs Zv o cap s vcs ty hs he ht R2 hr hx hl).mono hb'
      .obtain ⟨g',hg'⟩:=List.exists_mem_of_ne_nil G hG;have:=ha g' hg';simp [Yn] at this
     .have:=ha g' hg';simp [Yn] at this
   | iface t y w h=>
     by_cases hG:G=[]
     .subst hG
      have hb':Z.le Z':=fun Zv s hs=>by
       rcases hb Zv s hs with h | ⟨g,hg,_⟩
       .exact h
       .simp at hg
      exact (RD.iface t y w h).mono hb'
     .obtain ⟨g',hg'⟩:=List.exists_mem_of_ne_nil G hG;have:=ha g' hg';simp [Yn] at this
   | agg cs cs' h=>
     by_cases hG:G=[]
     .subst hG
      have hb':Z.le Z':=fun Zv s hs=>by
       rcases hb Zv s hs with h | ⟨g,hg,_⟩
       .exact h
       .simp at hg
      exact (RD.agg cs cs' h).mono hb'
     .obtain ⟨g',hg'⟩:=List.exists_mem_of_ne_nil G hG;have:=ha g' hg';simp [Yn] at this
   | _=>constructor
 | succ n ih=>
   have hs:∀ {cs:List PV} {cs':List Value},(∀ g∈G,cs.all (Yn g n)=true)->RDs C Z cs cs'->RDs C Z' cs cs':=by
    intro cs
    induction cs with
    | nil=>intro cs' _ h;cases h;exact .nil
    | cons c cs ih2=>
      intro cs' ha h;cases h with
      | cons h r=>
        refine .cons (ih (fun g hg=>?_) h) (ih2 (fun g hg=>?_) r)
        .have:=ha g hg;simp only [List.all_cons,Bool.and_eq_true] at this;exact this.1
        .have:=ha g hg;simp only [List.all_cons,Bool.and_eq_true] at this;exact this.2
   intro x v ha hr;cases hr with
   | lst g xs Zv o cap s vcs ty hs1 he ht R2 hr hx hl=>
     rcases hb Zv s hs1 with h1 | ⟨g',hg',h1⟩
     .refine .lst g xs Zv o cap s vcs ty h1 he ht R2 hr (hs (fun g' hg'=>?_) hx) hl;have:=ha g' hg';simp only [Yn,Bool.and_eq_true] at this;rw [List.all_flatMap];exact List.all_eq_true.2 fun y hy=>Zcj (List.all_eq_true.1 this.2 y hy)
     .have h2:=ha g' hg';simp only [Yn,Bool.and_eq_true] at h2;rcases ht with e | e
      .rw [e] at h1;cases h1
      .rw [h1] at e;cases e;simp at h2
   | iface t y w h=>exact .iface t y w (ih (fun g hg=>by have:=ha g hg;simpa only [Yn] using this) h)
   | agg cs cs' h=>exact .agg cs cs' (hs (fun g hg=>by have:=ha g hg;simpa only [Yn] using this) h)
   | _=>constructor
theorem Zs5 {G:List Nat}(hb:Zpw G Z Z'){n:Nat}{cs:List PV}{cs':List Value}(ha:∀ g∈G,cs.all (Yn g n)=true)(h:RDs C Z cs cs'):RDs C Z' cs cs':=by
 induction cs generalizing cs' with
 | nil=>cases h;exact .nil
 | cons c cs ih2=>
   cases h with
   | cons h r=>
     refine .cons (Zph hb n (fun g hg=>?_) h) (ih2 (fun g hg=>?_) r)
     .have:=ha g hg;simp only [List.all_cons,Bool.and_eq_true] at this;exact this.1
     .have:=ha g hg;simp only [List.all_cons,Bool.and_eq_true] at this;exact this.2
theorem Zpi {G:List Nat}(hb:Zpw G Z Z')(hG:G≠[]):∀ (n:Nat) {x:PV} {v:Value},(∀ g∈G,Yn g n x=true)->R C ρ vf Z x v->R C ρ vf Z' x v:=by
 obtain ⟨g0,hg0⟩:=List.exists_mem_of_ne_nil G hG;intro n
 induction n with
 | zero=>
   intro x v ha hr;have h0:=ha g0 hg0;cases hr with
   | d h=>exact .d (Zph hb 0 ha h)
   | own i Zg g off len c a cap ty hi hv hp ht hq=>exact .own i Zg g off len c a cap ty hi hv hp ht hq
   | ptr i Zg off c a hi hv hp hq=>exact .ptr i Zg off c a hi hv hp hq
   | eptr i Zg g ix off c a ty hi hv hp ht hq=>exact .eptr i Zg g ix off c a ty hi hv hp ht hq
   | map i Zg c w hi hv hq=>exact .map i Zg c w hi hv hq
   | yield i Zg c w hi hv hq=>exact .yield i Zg c w hi hv hq
   | _=>simp [Yn] at h0
 | succ n ih=>
   have hs:∀ {cs:List PV} {cs':List Value},(∀ g∈G,cs.all (Yn g n)=true)->Rs C ρ vf Z cs cs'->Rs C ρ vf Z' cs cs':=by
    intro cs
    induction cs with
    | nil=>intro cs' _ h;cases h;exact .nil
    | cons c cs ih2=>
      intro cs' ha h;cases h with
      | cons h r=>
        refine .cons (ih (fun g hg=>?_) h) (ih2 (fun g hg=>?_) r)
        .have:=ha g hg;simp only [List.all_cons,Bool.and_eq_true] at this;exact this.1
        .have:=ha g hg;simp only [List.all_cons,Bool.and_eq_true] at this;exact this.2
   intro x v ha hr;have h0:=ha g0 hg0;cases hr with
   | d h=>exact .d (Zph hb (n+1) ha h)
   | own i Zg g off len c a cap ty hi hv hp ht hq=>exact .own i Zg g off len c a cap ty hi hv hp ht hq
   | ptr i Zg off c a hi hv hp hq=>exact .ptr i Zg off c a hi hv hp hq
   | eptr i Zg g ix off c a ty hi hv hp ht hq=>exact .eptr i Zg g ix off c a ty hi hv hp ht hq
   | map i Zg c w hi hv hq=>exact .map i Zg c w hi hv hq
   | yield i Zg c w hi hv hq=>exact .yield i Zg c w hi hv hq
   | rptr=>simp [Yn] at h0
   | fn f a c a' c' h1 h2=>exact .fn f a c a' c' (hs (fun g hg=>by have:=ha g hg;simp only [Yn,Bool.and_eq_true] at this;exact this.1) h1) (hs (fun g hg=>by have:=ha g hg;simp only [Yn,Bool.and_eq_true] at this;exact this.2) h2)
   | iface t y w h=>exact .iface t y w (ih (fun g hg=>by have:=ha g hg;simpa only [Yn] using this) h)
   | agg cs cs' h=>exact .agg cs cs' (hs (fun g hg=>by have:=ha g hg;simpa only [Yn] using this) h)
   | tuple cs cs' h=>exact .tuple cs cs' (hs (fun g hg=>by have:=ha g hg;simpa only [Yn] using this) h)
theorem Z9l {G:List Nat}(hb:Zpw G Z Z'){n:Nat}{x:PV}{v:Value}(ha:∀ g∈G,Yn g n x=true)(h:R C ρ vf Z x v):R C ρ vf Z' x v:=by
 by_cases hG:G=[]
 .subst hG;refine h.mono (Ext.refl _ _) fun Zv s hs=>?_
  rcases hb Zv s hs with h | ⟨g,hg,_⟩
  .exact h
  .simp at hg
 .exact Zpi hb hG n ha h
theorem Z9k {G:List Nat}(hb:Zpw G Z Z')(hG:G≠[]){n:Nat}{cs:List PV}{cs':List Value}(ha:∀ g∈G,cs.all (Yn g n)=true)(h:Rs C ρ vf Z cs cs'):Rs C ρ vf Z' cs cs':=by
 induction cs generalizing cs' with
 | nil=>cases h;exact .nil
 | cons c cs ih2=>
   cases h with
   | cons h r=>
     refine .cons (Zpi hb hG n (fun g hg=>?_) h) (ih2 (fun g hg=>?_) r)
     .have:=ha g hg;simp only [List.all_cons,Bool.and_eq_true] at this;exact this.1
     .have:=ha g hg;simp only [List.all_cons,Bool.and_eq_true] at this;exact this.2
theorem Zafx {G:List Nat}(hb:Zpw G Z Z')(hG:G≠[]){n:Nat}{es:List (PV×PV)}{Sg:List (Value×Value)}(ha:∀ g∈G,es.all (fun e=>Yn g n e.1&&Yn g n e.2)=true)(h:MRP C ρ vf Z es Sg):MRP C ρ vf Z' es Sg:=by
 induction h with
 | nil=>exact .nil
 | cons hk hv r ih=>
   have hh:∀ g∈G,(Yn g n _=true/\Yn g n _=true)/\_:=fun g hg=>by
    have:=ha g hg;simp only [List.all_cons,Bool.and_eq_true] at this;exact this
   exact .cons (Zpi hb hG n (fun g hg=>(hh g hg).1.1) hk) (Zpi hb hG n (fun g hg=>(hh g hg).1.2) hv) (ih fun g hg=>(hh g hg).2)
theorem Zlc:∀ (n:Nat) {x:PV} {v:Value},flat n v=true->R C ρ vf Z x v->R C ρ' vf' Z' x v/\Xh n x=true:=by
 have hD:∀ (n:Nat) {x:PV} {v:Value},flat n v=true->RD C Z x v->RD C Z' x v/\Xh n x=true:=by
  intro n
  induction n with
  | zero=>
    intro x v hf hr;cases hr with
    | lst=>simp [flat] at hf
    | iface=>simp [flat] at hf
    | agg=>simp [flat] at hf
    | _=>exact ⟨by constructor,by simp [Xh]⟩
  | succ n ih=>
    have hs:∀ {cs:List PV} {cs':List Value},cs'.all (flat n)=true->RDs C Z cs cs'->RDs C Z' cs cs'/\cs.all (Xh n)=true:=by
     intro cs
     induction cs with
     | nil=>intro cs' _ h;cases h;exact ⟨.nil,rfl⟩
     | cons c cs ih2=>
       intro cs' ha h;cases h with
       | cons h r=>
         simp only [List.all_cons,Bool.and_eq_true] at ha ⊢;obtain ⟨a,b⟩:=ih ha.1 h;obtain ⟨c,d⟩:=ih2 ha.2 r;exact ⟨.cons a c,b,d⟩
    intro x v hf hr;cases hr with
    | lst=>simp [flat] at hf
    | iface t y w h=>
      obtain ⟨a,b⟩:=ih (by simpa only [flat] using hf) h;exact ⟨.iface t y w a,by simpa only [Xh] using b⟩
    | agg cs cs' h=>
      obtain ⟨a,b⟩:=hs (by simpa only [flat] using hf) h;exact ⟨.agg cs cs' a,by simpa only [Xh] using b⟩
    | _=>exact ⟨by constructor,by simp [Xh]⟩
 intro n
 induction n with
 | zero=>
   intro x v hf hr;cases hr with
   | d h=>exact ⟨.d (hD 0 hf h).1,(hD 0 hf h).2⟩
   | _=>simp [flat] at hf
 | succ n ih=>
   have hs:∀ {cs:List PV} {cs':List Value},cs'.all (flat n)=true->Rs C ρ vf Z cs cs'->Rs C ρ' vf' Z' cs cs'/\cs.all (Xh n)=true:=by
    intro cs
    induction cs with
    | nil=>intro cs' _ h;cases h;exact ⟨.nil,rfl⟩
    | cons c cs ih2=>
      intro cs' ha h;cases h with
      | cons h r=>
        simp only [List.all_cons,Bool.and_eq_true] at ha ⊢;obtain ⟨a,b⟩:=ih ha.1 h;obtain ⟨c,d⟩:=ih2 ha.2 r;exact ⟨.cons a c,b,d⟩
   intro x v hf hr;cases hr with
   | d h=>exact ⟨.d (hD (n+1) hf h).1,(hD (n+1) hf h).2⟩
   | iface t y w h=>
     obtain ⟨a,b⟩:=ih (by simpa only [flat] using hf) h;exact ⟨.iface t y w a,by simpa only [Xh] using b⟩
   | agg cs cs' h=>
     obtain ⟨a,b⟩:=hs (by simpa only [flat] using hf) h;exact ⟨.agg cs cs' a,by simpa only [Xh] using b⟩
   | tuple cs cs' h=>
     obtain ⟨a,b⟩:=hs (by simpa only [flat] using hf) h;exact ⟨.tuple cs cs' a,by simpa only [Xh] using b⟩
   | _=>simp [flat] at hf
theorem Z5z:∀ (n:Nat) {x:PV} {v:Value},Xh n x=true->R C ρ vf Z x v->flat n v=true:=by
 have hD:∀ (n:Nat) {x:PV} {v:Value},Xh n x=true->RD C Z x v->flat n v=true:=by
  intro n
  induction n with
  | zero=>
    intro x v hf hr;cases hr<;>simp_all [Xh,flat]
  | succ n ih=>
    have hs:∀ {cs:List PV} {cs':List Value},cs.all (Xh n)=true->RDs C Z cs cs'->cs'.all (flat n)=true:=by
     intro cs
     induction cs with
     | nil=>intro cs' _ h;cases h;rfl
     | cons c cs ih2=>
       intro cs' ha h;cases h with
       | cons h r=>
         simp only [List.all_cons,Bool.and_eq_true] at ha ⊢;exact ⟨ih ha.1 h,ih2 ha.2 r⟩
    intro x v hf hr;cases hr with
    | lst=>simp [Xh] at hf
    | iface t y w h=>simp only [flat];exact ih (by simpa only [Xh] using hf) h
    | agg cs cs' h=>simp only [flat];exact hs (by simpa only [Xh] using hf) h
    | _=>simp [flat]
 intro n
 induction n with
 | zero=>
   intro x v hf hr;cases hr with
   | d h=>exact hD 0 hf h
   | _=>simp [Xh] at hf
 | succ n ih=>
   have hs:∀ {cs:List PV} {cs':List Value},cs.all (Xh n)=true->Rs C ρ vf Z cs cs'->cs'.all (flat n)=true:=by
    intro cs
    induction cs with
    | nil=>intro cs' _ h;cases h;rfl
    | cons c cs ih2=>
      intro cs' ha h;cases h with
      | cons h r=>
        simp only [List.all_cons,Bool.and_eq_true] at ha ⊢;exact ⟨ih ha.1 h,ih2 ha.2 r⟩
   intro x v hf hr;cases hr with
   | d h=>exact hD _ hf h
   | iface t y w h=>simp only [flat];exact ih (by simpa only [Xh] using hf) h
   | agg cs cs' h=>simp only [flat];exact hs (by simpa only [Xh] using hf) h
   | tuple cs cs' h=>simp only [flat];exact hs (by simpa only [Xh] using hf) h
   | _=>simp [Xh] at hf
theorem Zld:∀ (n:Nat) (x:PV),Xh n x=true->Xh (n+1) x=true:=by
 intro n
 induction n with
 | zero=>intro x h;cases x<;>simp_all [Xh]
 | succ n ih=>
   have hs:∀ cs:List PV,cs.all (Xh n)=true->cs.all (Xh (n+1))=true:=fun cs h=>List.all_eq_true.2 fun c hc=>ih c (List.all_eq_true.1 h c hc)
   intro x h;cases x with
   | agg cs=>simp only [Xh] at h ⊢;exact hs _ h
   | tuple cs=>simp only [Xh] at h ⊢;exact hs _ h
   | iface t y=>simp only [Xh] at h ⊢;exact ih y h
   | _=>simp_all [Xh]
theorem Zfv (H:HP C ρ Z vh h)(S:SR C ρ (Zn h) Z Y1 Yt):∀ {rs:List ResultVar} {xs:List PV},Uq C Y1 h rs=some xs->∃ vs,Zfu C Yt vh rs=some vs/\Rs C ρ (Zn h) Z xs vs
 | [],xs,he=>by simp only [Uq,Option.some.injEq] at he;subst he;exact ⟨[],rfl,.nil⟩
 | .tmp t::r,xs,he=>by
   simp only [Uq] at he;split at he
   .rename_i p ps hp Q9;cases he;obtain ⟨v,h1,h2⟩:=S _ _ hp;obtain ⟨vs,h3,h4⟩:=Zfv H S Q9;exact ⟨v::vs,by simp only [Zfu,h1,h3],.cons h2 h4⟩
   .cases he
 | .cell a t::r,xs,he=>by
   simp only [Uq] at he;split at he
   .rename_i i Zg off ty ps hp R2 Q9;split at he
    .rename_i w cs hi;split at he
     .rename_i e;subst e;rw [Option.map_eq_some_iff] at he;obtain ⟨z,hz,rfl⟩:=he;rw [Option.bind_eq_some_iff] at hz;obtain ⟨q,hq,hz⟩:=hz;obtain ⟨v,h1,h2⟩:=S _ _ hp;have hv:=h2.ptr_inv hi;subst hv;obtain ⟨vs,h3,h4⟩:=Zfv H S Q9;cases H.obj _ _ _ hi with
      | cells cs vcs e2 hzz hg hr=>
        obtain ⟨q',h5,h6⟩:=hr.read hq;obtain ⟨z',h7,h8⟩:=Zfp h6 hz;refine ⟨z'::vs,?_,.cons h8 h4⟩;simp only [Zfu,h1,R2,h3,VH.load,hg,Option.isSome_none,Bool.false_eq_true,if_false,h5,Option.bind_some,h7,Option.map_some]
     .cases he
    .cases he
   .cases he
theorem Zrg {xs:List PV}{vs:List Value}(h:Rs C ρ vf Z xs vs):R C ρ vf Z (Wk xs) (Zl8 vs):=by
 cases h with
 | nil=>exact .tuple _ _ .nil
 | cons h r=>
   cases r with
   | nil=>exact h
   | cons h2 r=>exact .tuple _ _ (by simpa using .cons h (.cons h2 r))
theorem Zx7 (l:List Value)(i t:Nat):Yz (Vm i l) t=if i<=t then l[t - i]? else none:=by
 induction l generalizing i with
 | nil=>simp [Vm,Yz]
 | cons v l ih=>
   simp only [Vm,Yz,ih];by_cases h:i=t
   .subst h;simp
   .have:Nat.beq i t=false:=T6 h;simp only [this,cond_false];by_cases hlt:i+1<=t
    .have h2:t - i=(t - (i+1))+1:=by omega
     simp [hlt,show i<=t by omega,h2]
    .simp [hlt,show ¬ i<=t by omega]
theorem Zp7 {xs:List PV}{vs:List Value}(h:Rs C ρ vf Z xs vs):SR C ρ vf Z (Sh 0 xs) (Vm 0 vs):=by
 intro t x hx;simp only [Sh,Nat.zero_le,if_true,Nat.sub_zero] at hx;rw [Zx7];simp only [Nat.zero_le,if_true,Nat.sub_zero];exact h.get hx
theorem Vq (h3:PH):∀ (ok:List Nat) (h:PH),(Ya h3 ok h).next=h.next
 | [],h=>rfl
 | i::r,h=>by
   simp only [Ya];split
   .rw [Vq h3 r];rfl
   .exact Vq h3 r h
theorem Ui (h3:PH):∀ (ok:List Nat) (h:PH) (j:Nat),(Ya h3 ok h).get j=if j∈ok then (match h3.get j with | some y=>some y | none=>h.get j) else h.get j
 | [],h,j=>by simp [Ya]
 | i::r,h,j=>by
   simp only [Ya];split
   .rename_i Zg o hi;rw [Ui h3 r];by_cases e:j=i
    .subst e;simp [PH.put,hi]
    .simp [PH.put,e]
   .rename_i hi;rw [Ui h3 r];by_cases e:j=i
    .subst e;simp [hi]
    .simp [e]
end
end Go.Pure
end
section
namespace Go.Pure
open Go Go.Virt
section
variable {C:Ctx}{Z Z' Z1 Z2 Z3 ZF:Wr}{ρ ρ' ρ2:Nat->Nat}{vf vf':Nat->Option Nat}{h h' h2 h3:PH}{vh vh' Vj vhF:VH}{K:Loc}{n m:Nat}{Y1:Yo}{Yt:SL}{x:PV}{v w:Value}
theorem OR.back {j p nx nxF:Nat}{vf3 vfF:Nat->Option Nat}{o:PO}{G:List Nat}(O:OR C ρ2 vf3 Z3 nx Vj j p o)(hb:Zs m o=true)(hvf:∀ i,i < m->vfF i=vf3 i)(hB:Zpw G Z3 ZF)(hT:∀ g∈G,Zkd g o=true)
  (hn:Z3 p=none->ZF p=none) (hs:∀ s,Z3 p=some s->ZF p=some s) (hv:vhF.get=Vj.get) (hvn:vhF.next=Vj.next):OR C ρ2 vfF ZF nxF vhF j p o:=by
 cases O with
 | cells cs vcs e a b c=>
   refine .cells cs vcs e (hn a) (by rw [hv];exact b) ?_;have h1:=Z5d hvf hb c;by_cases hG:G=[]
   .subst hG;refine h1.mono (Ext.refl _ _) fun Zv s hs=>?_
    rcases hB Zv s hs with h | ⟨g,hg,_⟩
    .exact h
    .simp at hg
   .exact Z9k hB hG (fun g hg=>hT g hg) h1
 | row g xs vcs ty a b c d e=>
   refine .row g xs vcs ty a (hn b) (by rw [hv];exact c) (Zs5 hB (n:=12) (fun g hg=>?_) d) e;have:=hT g hg;simp only [Zkd] at this;rw [List.all_flatMap];exact List.all_eq_true.2 fun y hy=>Zcj (List.all_eq_true.1 this y hy)
 | frozen g xs s ty a b c d e f=>
   refine .frozen g xs s ty a (hs s b) c d (Zs5 hB (n:=12) (fun g hg=>?_) e) f;have:=hT g hg;simp only [Zkd] at this;rw [List.all_flatMap];exact List.all_eq_true.2 fun y hy=>Zcj (List.all_eq_true.1 this y hy)
 | map es ves a b c=>
   refine .map es ves (hn a) (by rw [hv];exact b) ?_;have h1:=Z9j hvf hb c;by_cases hG:G=[]
   .subst hG;refine h1.mono (Ext.refl _ _) fun Zv s hs=>?_
    rcases hB Zv s hs with h | ⟨g,hg,_⟩
    .exact h
    .simp at hg
   .exact Zafx hB hG (fun g hg=>hT g hg) h1
 | loop=>simp [Zs] at hb
 | gone a b=>exact .gone (by rw [hvn];exact a) (hn b)
theorem Zpf {lo:Nat}{ok:List Nat}{base j:Nat}(h1:j < lo)(h2:j∉ok):can {base:=base,lo:=lo,ok:=ok} j=false:=by
 unfold can;rw [Bool.or_eq_false_iff];constructor
 .cases e:Nat.ble lo j
  .rfl
  .rw [Nat.ble_eq] at e;omega
 .rw [List.any_eq_false];intro y hy e;rw [Nat.beq_eq] at e;exact h2 (e ▸ hy)
theorem Zim {g:PH}{ok:List Nat}(hx:∀ i∈ok,∃ Zg o,g.get i=some (Zg,o)/\(h3.get i=some (Zg,o)\/∃ g' own xs,o=.row g' own xs/\h3.get i=some (Zg,.row g' false xs))):
  ∃ Zyx,(∀ i∈Zyx,i∈ok)/\Ya h3 ok g=g.freeze Zyx:=by
 classical
 refine ⟨ok.filter fun i=>decide (∃ Zg g' own xs,g.get i=some (Zg,.row g' own xs)/\h3.get i=some (Zg,.row g' false xs)),fun i hi=>(List.mem_filter.1 hi).1,?_⟩;have hn:(Ya h3 ok g).next=(g.freeze (ok.filter fun i=>decide (∃ Zg g' own xs,g.get i=some (Zg,.row g' own xs)/\h3.get i=some (Zg,.row g' false xs)))).next:=by rw [Vq,Tl]
 have hg:(Ya h3 ok g).get=(g.freeze (ok.filter fun i=>decide (∃ Zg g' own xs,g.get i=some (Zg,.row g' own xs)/\h3.get i=some (Zg,.row g' false xs)))).get:=by
  funext j;rw [Ui,Y7];by_cases hj:j∈ok
  .rw [if_pos hj];obtain ⟨Zg,o,h1,h2⟩:=hx j hj;rcases h2 with h2 | ⟨g',own,xs,rfl,h2⟩
   .rw [h1,h2];cases o with
    | row g' own xs=>
      try dsimp only
      by_cases hm:j∈ok.filter fun i=>decide (∃ Zg g' own xs,g.get i=some (Zg,.row g' own xs)/\h3.get i=some (Zg,.row g' false xs))
      .rw [if_pos hm];obtain ⟨_,hd⟩:=List.mem_filter.1 hm;obtain ⟨a,b,c,d,e1,e2⟩:=of_decide_eq_true hd;rw [h1] at e1;rw [h2] at e2;cases e1;cases e2;rfl
      .rw [if_neg hm]
    | _=>rfl
   .rw [h1,h2]
    try dsimp only
    rw [if_pos];refine List.mem_filter.2 ⟨hj,decide_eq_true ⟨_,_,_,_,h1,h2⟩⟩
  .rw [if_neg hj];split
   .rename_i Zg g' own xs hgj;rw [if_neg fun hm=>hj (List.mem_filter.1 hm).1,hgj]
   .rfl
 cases hA:Ya h3 ok g;cases hB:g.freeze (ok.filter fun i=>decide (∃ Zg g' own xs,g.get i=some (Zg,.row g' own xs)/\h3.get i=some (Zg,.row g' false xs)));rw [hA,hB] at hn hg;simp only at hn hg;rw [hn,hg]
structure Pre0 (C:Ctx)(K:Loc)(m:Nat)(ρ:Nat->Nat)(Z Z1:Wr)(h:PH)(vh:VH)(ok ids:List Nat)(nx:Nat)(ρ2:Nat->Nat)(Z3:Wr)(h3:PH)(Vj:VH):Prop where
 H:HP C ρ Z vh h
 hK:KOk K m h.next
 hok:∀ i∈ok,can K i=true/\∃ x,h.get i=some x
 hids:∀ i∈ids,can K i=true
 f:Frz C true ρ Z h vh ids Z1
 st:St C {base:=h.next,lo:=h.next,ok:=ok} ρ Z1 {h.freeze ids with next:=nx} {vh with wr:=vh.next} ρ2 Z3 h3 Vj
section
variable {ok ids:List Nat}{nx:Nat}
theorem Pre0.old (P:Pre0 C K m ρ Z Z1 h vh ok ids nx ρ2 Z3 h3 Vj){j:Nat}(hj:j < h.next)(hn:j∉ok):h3.get j=(h.freeze ids).get j:=P.st.keep j (Zpf hj hn)
theorem Pre0.live1 {j:Nat}{x:Nat×PO}(hx:h.get j=some x):∃ o,(h.freeze ids).get j=some (x.1,o):=by
 obtain ⟨Zg,o⟩:=x;rw [Y7,hx];cases o with
 | row g own xs=>
   try dsimp only
   split
   .exact ⟨_,rfl⟩
   .exact ⟨_,rfl⟩
 | _=>exact ⟨_,rfl⟩
theorem Pre0.ext (P:Pre0 C K m ρ Z Z1 h vh ok ids nx ρ2 Z3 h3 Vj):Ext ρ (Zn h) ρ2 (Zn h3):=by
 have:=P.st.ext
 have hv:Zn ({h.freeze ids with next:=nx}:PH)=Zn h:=by
  rw [<- Us ids h];rfl
 rw [hv] at this;exact this
theorem Pre0.live (P:Pre0 C K m ρ Z Z1 h vh ok ids nx ρ2 Z3 h3 Vj){j:Nat}{x:Nat×PO}(hx:h.get j=some x):∃ y,h3.get j=some y:=by
 obtain ⟨c',h1,_⟩:=P.ext j x.1 (Zr.2 ⟨x.2,hx⟩);obtain ⟨o,ho⟩:=Zr.1 h1;exact ⟨_,ho⟩
theorem Pre0.rho (P:Pre0 C K m ρ Z Z1 h vh ok ids nx ρ2 Z3 h3 Vj){j:Nat}{x:Nat×PO}(hx:h.get j=some x)(hn:j∉ok):ρ2 j=ρ j:=by
 obtain ⟨c',h1,_,h3'⟩:=P.ext j x.1 (Zr.2 ⟨x.2,hx⟩);obtain ⟨o,ho⟩:=Zr.1 h1;obtain ⟨o1,ho1⟩:=Pre0.live1 (ids:=ids) hx;rw [P.old (P.H.lt _ _ hx) hn,ho1] at ho;cases ho;exact h3' rfl
theorem Pre0.away (P:Pre0 C K m ρ Z Z1 h vh ok ids nx ρ2 Z3 h3 Vj){j Zg:Nat}{o:PO}(hx:h.get j=some (Zg,o))(hn:j∉ok){vfF:Nat->Option Nat}(hE:Ext ρ (Zn h) ρ2 vfF)(hle:Z.le ZF)(hz:Z (ρ j)=none->ZF (ρ j)=none)
  (hv:vhF.get=Vj.get) (hvn:vh.next<=vhF.next):OR C ρ2 vfF ZF h.next vhF j (ρ2 j) o:=by
 rw [P.rho hx hn];obtain ⟨o1,ho1⟩:=Pre0.live1 (ids:=ids) hx;have hg:Vj.get (ρ j)=vh.get (ρ j):=P.st.vkeep j _ ho1 (Zpf (P.H.lt _ _ hx) hn);exact (P.H.obj _ _ _ hx).mono hE hle hz (fun _=>by rw [hv];exact hg) (Nat.le_refl _) hvn
theorem Pre0.zold (P:Pre0 C K m ρ Z Z1 h vh ok ids nx ρ2 Z3 h3 Vj){j Zg:Nat}{o:PO}(hx:h.get j=some (Zg,o))(hn:j∉ok)(hz:Z (ρ j)=none)(hi:∀ g xs,o=.row g true xs->j∉ids):Z3 (ρ j)=none:=by
 have h1:=P.old (P.H.lt _ _ hx) hn;rw [Y7,hx] at h1
 have Wp:h3.get j=some (Zg,o):=by
  rw [h1];cases o with
  | row g own xs=>
    cases own with
    | true=>simp [hi g xs rfl]
    | false=>simp
  | _=>rfl
 have h2:=P.st.hp.obj _ _ _ Wp;rw [P.rho hx hn] at h2;cases h2 with
 | frozen g xs s ty a b c d e f=>
   cases P.H.obj _ _ _ hx with
   | frozen g2 xs2 s2 ty2 a2 b2=>rw [b2] at hz;cases hz
 | _=>assumption
theorem Pre0.marks (P:Pre0 C K m ρ Z Z1 h vh ok ids nx ρ2 Z3 h3 Vj){hF:PH}(hvg:vhF.get=Vj.get)(hvn:vhF.next=Vj.next)(hvw:vhF.wr=min vh.wr Vj.wr)(hp:HP C ρ2 ZF vhF hF)(hle:Z.le ZF)(hn:h.next<=hF.next)
  (V9:∀ i,i∈ok->hF.get i=h3.get i) (Zax:∀ i,i < h.next->i∉ok->i∉ids->hF.get i=h.get i) (Zako:∀ i,i < h.next->i∉ok->i∈ids->hF.get i=h.get i\/hF.get i=(h.freeze ids).get i) (T7:∀ i x,h.next<=i->hF.get i=some x->h3.get i=some x):St C K ρ Z h vh ρ2 ZF hF vhF:=by
 have Z34:∀ i,i < h.next->i∉ok->hF.get i=h.get i\/(i∈ids/\hF.get i=(h.freeze ids).get i):=fun i h1 h2=>by
  by_cases h4:i∈ids
  .rcases Zako i h1 h2 h4 with h5 | h5
   .exact .inl h5
   .exact .inr ⟨h4,h5⟩
  .exact .inl (Zax i h1 h2 h4)
 have hvf:∀ i,i < h.next->i∉ok->Zn hF i=Zn h i:=fun i h1 h2=>by
  rcases Z34 i h1 h2 with h4 | ⟨_,h4⟩
  .unfold Zn;rw [h4]
  .have:Zn (h.freeze ids) i=Zn h i:=by rw [Us]
   rw [<- this];unfold Zn;rw [h4]
 have T8:K.lo<=h.next:=by have:=P.hK.1;have:=P.hK.2;omega
 refine ⟨hp,?_,hle,hn,by rw [hvn];exact P.st.vnext,by rw [hvw];exact Nat.min_le_left _ _,?_,?_,?_,?_,?_,?_⟩
 .intro i c hi;obtain ⟨o,ho⟩:=Zr.1 hi;by_cases hk:i∈ok
  .obtain ⟨c',h1,h2,h4⟩:=P.ext i c hi;refine ⟨c',?_,h2,h4⟩;unfold Zn at h1 ⊢;rw [V9 i hk];exact h1
  .exact ⟨c,by rw [hvf i (P.H.lt _ _ ho) hk];exact hi,Nat.le_refl _,fun _=>P.rho ho hk⟩
 .intro i hi;have hk:i∉ok:=fun hk=>by rw [(P.hok i hk).1] at hi;cases hi
  have hd:i∉ids:=fun hk=>by rw [P.hids i hk] at hi;cases hi
  have Z8h:i < h.next:=by
   rcases Nat.lt_or_ge i h.next with h1 | h1
   .exact h1
   .unfold can at hi;rw [Bool.or_eq_false_iff] at hi;have:Nat.ble K.lo i=true:=by rw [Nat.ble_eq];omega
    rw [this] at hi;cases hi.1
  exact Zax i Z8h hk hd
 .intro i Zg o hilo ho;have Z8h:=P.H.lt _ _ ho;by_cases hk:i∈ok
  .rw [V9 i hk];obtain ⟨o1,ho1⟩:=Pre0.live1 (ids:=ids) ho;have h1:=P.st.same i Zg o1 Z8h ho1;have Zi4:=ho1;rw [Y7,ho] at Zi4;rcases h1 with h1 | ⟨g,own,xs,rfl,h1⟩ | h1
   .cases o with
    | row g own xs=>
      simp only at Zi4;split at Zi4
      .cases Zi4;exact .inr (.inl ⟨_,_,_,rfl,h1⟩)
      .cases Zi4;exact .inl h1
    | _=>simp only at Zi4;cases Zi4;exact .inl h1
   .cases o with
    | row g own xs=>
      simp only at Zi4;split at Zi4<;>cases Zi4<;>exact .inr (.inl ⟨_,_,_,rfl,h1⟩)
    | _=>simp only at Zi4;cases Zi4
   .exact .inr (.inr (by rw [hvw];exact Nat.le_trans (Nat.min_le_right _ _) h1))
  .rcases Z34 i Z8h hk with h4 | ⟨hd,h4⟩
   .exact .inl (h4.trans ho)
   .rw [Y7,ho] at h4;cases o with
    | row g own xs=>
      simp only [hd,if_true] at h4;exact .inr (.inl ⟨_,_,_,rfl,h4⟩)
    | _=>exact .inl h4
 .intro i x hx
  have hx3:∃ y,h3.get i=some y:=by
   rcases Nat.lt_or_ge i h.next with h1 | h1
   .by_cases hk:i∈ok
    .exact ⟨x,by rw [<- V9 i hk];exact hx⟩
    .have:Zn h i=some x.1:=by rw [<- hvf i h1 hk];exact Zr.2 ⟨x.2,hx⟩
     obtain ⟨o,ho⟩:=Zr.1 this;exact P.live ho
   .exact ⟨x,T7 i x h1 hx⟩
  obtain ⟨y,hy⟩:=hx3;rcases P.st.plc i y hy with ⟨⟨z,hz⟩,h2⟩ | h2
  .refine .inl ⟨?_,h2⟩;have:Zn (h.freeze ids) i=some z.1:=Zr.2 ⟨z.2,hz⟩;rw [Us] at this;obtain ⟨o,ho⟩:=Zr.1 this;exact ⟨_,ho⟩
  .exact .inr h2
 .intro i x hx hc;have hk:i∉ok:=fun hk=>by rw [(P.hok i hk).1] at hc;cases hc
  obtain ⟨o1,ho1⟩:=Pre0.live1 (ids:=ids) hx;rw [hvg];exact P.st.vkeep i _ ho1 (Zpf (P.H.lt _ _ hx) hk)
 .intro q hq hn hi;rw [hvg];refine P.st.vnone q hq hn fun i x hx=>?_
  have:Zn (h.freeze ids) i=some x.1:=Zr.2 ⟨x.2,hx⟩;rw [Us] at this;obtain ⟨o,ho⟩:=Zr.1 this;exact hi i _ ho
 .intro b h1 h2 h3;rw [hvw];refine Nat.le_min.2 ⟨h2,P.st.low b h1 h1 fun i x hx hc=>?_⟩;have hx':(h.freeze ids).get i=some x:=hx;have:Zn h i=some x.1:=by rw [<- Us (ids:=ids)];exact Zr.2 ⟨x.2,hx'⟩
  obtain ⟨o,ho⟩:=Zr.1 this;have hlt:=P.H.lt _ _ ho
  have hk:i∈ok:=by
   unfold can at hc;rw [Bool.or_eq_true] at hc;rcases hc with hc | hc
   .rw [Nat.ble_eq] at hc;have hc':h.next<=i:=hc;omega
   .obtain ⟨j,hj,e⟩:=List.any_eq_true.1 hc;rw [Nat.beq_eq] at e;exact e ▸ hj
  exact h3 i _ ho (P.hok i hk).1
end
end
end Go.Pure
end
section
namespace Go.Pure
open Go Go.Virt
section
variable {C:Ctx}{Z Z' Z1 Z2 Z3 ZF:Wr}{ρ ρ' ρ2:Nat->Nat}{vf vf':Nat->Option Nat}{h h' h2 h3:PH}{vh vh' Vj vhF:VH}{K:Loc}{n m:Nat}{Y1:Yo}{Yt:SL}{x:PV}{v w:Value}{ok ids:List Nat}{nx:Nat}
theorem Pre0.restored (P:Pre0 C K m ρ Z Z1 h vh ok ids nx ρ2 Z3 h3 Vj)(hw:vh.next<=Vj.wr)(b:Bool)(hb:b=true->∀ i∈ids,i∉ok):
  ∃ ZF,St C K ρ Z h vh ρ ZF (Ya h3 ok (if b then h else h.freeze ids)) vh:=by
 have Wp:∀ i∈ok,∃ Zg o,(h.freeze ids).get i=some (Zg,o)/\(h3.get i=some (Zg,o)\/∃ g' own xs,o=.row g' own xs/\h3.get i=some (Zg,.row g' false xs)):=by
  intro i hi;obtain ⟨hc,x,hx⟩:=P.hok i hi;obtain ⟨o1,ho1⟩:=Pre0.live1 (ids:=ids) hx;refine ⟨x.1,o1,ho1,?_⟩;rcases P.st.same i x.1 o1 (P.H.lt _ _ hx) ho1 with h1 | h1 | h1
  .exact .inl h1
  .exact .inr h1
  .have:=P.H.rho_lt hx;omega
 cases b with
 | false=>
   obtain ⟨Zyx,h1,h2⟩:=Zim Wp;obtain ⟨Za,fa⟩:=frz (bt:=false) ids P.H;have sa:=St.frz (K:=K) P.H fa (List.all_eq_true.2 P.hids);obtain ⟨Zb,fb⟩:=frz (bt:=false) Zyx sa.hp;have sb:=St.frz (K:=K) sa.hp fb (List.all_eq_true.2 fun i hi=>(P.hok i (h1 i hi)).1);refine ⟨Zb,?_⟩;simp only [Bool.false_eq_true,if_false];rw [h2];exact sa.trans P.H sb
 | true=>
   have hb:=hb rfl
   have Zadu:∀ i∈ok,∃ Zg o,h.get i=some (Zg,o)/\(h3.get i=some (Zg,o)\/∃ g' own xs,o=.row g' own xs/\h3.get i=some (Zg,.row g' false xs)):=by
    intro i hi;obtain ⟨Zg,o,h1,h2⟩:=Wp i hi;refine ⟨Zg,o,?_,h2⟩;rw [Y7] at h1;split at h1
    .rename_i ver' g own xs hq;rw [if_neg fun hm=>hb i hm hi] at h1;rw [hq];exact h1
    .exact h1
   obtain ⟨Zyx,h1,h2⟩:=Zim Zadu;obtain ⟨Zb,fb⟩:=frz (bt:=false) Zyx P.H;have sb:=St.frz (K:=K) P.H fb (List.all_eq_true.2 fun i hi=>(P.hok i (h1 i hi)).1);refine ⟨Zb,?_⟩;simp only [if_true];rw [h2];exact sb
theorem Pre0.clean (P:Pre0 C K m ρ Z Z1 h vh ok ids nx ρ2 Z3 h3 Vj)(hvg:vhF.get=Vj.get)(hvn:vhF.next=Vj.next)(hvw:vhF.wr=min vh.wr Vj.wr)(Zze:∀ i∈ok,h3.belowAt h.next i=true)
  (hcl:∀ i∈ids,i∉ok/\∃ Zg g own xs,h.get i=some (Zg,.row g own xs)/\(own=true->Yn g 14 x=true/\∀ j∈ok,∀ Zg o,h3.get j=some (Zg,o)->Zkd g o=true)) (hx:R C ρ2 (Zn h3) Z3 x w) (hxb:below h.next 4 x=true):
  ∃ ZF,R C ρ2 (Zn (Ya h3 ok h)) ZF x w/\St C K ρ Z h vh ρ2 ZF (Ya h3 ok h) vhF:=by
 classical
 let Z2l:Nat->Prop:=fun Zv=>∃ i∈ids,∃ Zg g xs,h.get i=some (Zg,.row g true xs)/\Zv=ρ i
 let ZF:Wr:=fun Zv=>if Z2l Zv then none else Z3 Zv
 let G:List Nat:=ids.filterMap fun i=>match h.get i with | some (_,.row g true _)=>some g | _=>none
 have hG:∀ g∈G,∃ i∈ids,∃ Zg xs,h.get i=some (Zg,.row g true xs):=by
  intro g hg;obtain ⟨i,hi,e⟩:=List.mem_filterMap.1 hg;split at e
  .rename_i Zg g' xs hq;cases e;exact ⟨i,hi,Zg,xs,hq⟩
  .cases e
 have hGm:∀ i∈ids,∀ Zg g xs,h.get i=some (Zg,.row g true xs)->g∈G:=by
  intro i hi Zg g xs hq;exact List.mem_filterMap.2 ⟨i,hi,by rw [hq]⟩
 have Zabd:∀ i Zg g xs,h.get i=some (Zg,.row g true xs)->Z (ρ i)=none:=by
  intro i Zg g xs hq;cases P.H.obj _ _ _ hq with
  | row g xs vcs ty a b=>exact b
 have hB:Zpw G Z3 ZF:=by
  intro Zv s hs;by_cases hl:Z2l Zv
  .obtain ⟨i,hi,Zg,g,xs,hq,rfl⟩:=hl;refine .inr ⟨g,hGm i hi Zg g xs hq,?_⟩;have hfz:=Zjh (ids:=ids) hi hq;cases P.f.hp.obj _ _ _ hfz with
   | frozen g xs s1 ty a b c d e f=>
     have:=P.st.sig _ _ b;rw [hs] at this;cases this;rcases P.f.new _ _ b with h1 | ⟨_,i',S7,ver',g',xs',Q7,e1,e2⟩
     .rw [Zabd i _ _ _ hq] at h1;cases h1
     .have:i=i':=P.H.inj _ _ _ _ hq Q7 e1;subst this;rw [hq] at Q7;cases Q7;exact e2
  .exact .inl (by simp only [ZF,hl,if_false];exact hs)
 have hle:Z.le ZF:=by
  intro Zv s hs;have hl:¬ Z2l Zv:=fun ⟨i,hi,Zg,g,xs,hq,e⟩=>by rw [e,Zabd i _ _ _ hq] at hs;cases hs
  simp only [ZF,hl,if_false];exact P.st.sig _ _ (P.f.le _ _ hs)
 have V9:∀ i,i∈ok->(Ya h3 ok h).get i=h3.get i:=fun i hi=>by
  obtain ⟨_,y,hy⟩:=P.hok i hi;obtain ⟨z,hz⟩:=P.live hy;rw [Ui,if_pos hi,hz]
 have Zax:∀ i,i∉ok->(Ya h3 ok h).get i=h.get i:=fun i hi=>by rw [Ui,if_neg hi]
 have Zuo:∀ i,i < h.next->Zn (Ya h3 ok h) i=Zn h3 i:=by
  intro i hi;by_cases hk:i∈ok
  .unfold Zn;rw [V9 i hk]
  .have e1:Zn (Ya h3 ok h) i=Zn h i:=by unfold Zn;rw [Zax i hk]
   have e2:Zn h3 i=Zn (h.freeze ids) i:=by unfold Zn;rw [P.old hi hk]
   rw [e1,e2,Us]
 have hE:Ext ρ (Zn h) ρ2 (Zn (Ya h3 ok h)):=by
  intro i c hi;obtain ⟨o,ho⟩:=Zr.1 hi;obtain ⟨c',h1,h2,h4⟩:=P.ext i c hi;exact ⟨c',by rw [Zuo i (P.H.lt _ _ ho)];exact h1,h2,h4⟩
 have Zeg:∀ i y,(Ya h3 ok h).get i=some y->i < h.next/\∃ z,h3.get i=some z:=by
  intro i y hy;by_cases hk:i∈ok
  .obtain ⟨_,q,hq⟩:=P.hok i hk;exact ⟨P.H.lt _ _ hq,y,by rw [<- V9 i hk];exact hy⟩
  .rw [Zax i hk] at hy;exact ⟨P.H.lt _ _ hy,P.live hy⟩
 have Z3k:∀ j y,h3.get j=some y->j∈ok->¬ Z2l (ρ2 j):=by
  intro j y hy hj ⟨i,hi,Zg,g,xs,hq,e⟩;have hik:=(hcl i hi).1;obtain ⟨z,hz⟩:=P.live hq;rw [<- P.rho hq hik] at e;have:=P.st.hp.inj _ _ _ _ hy hz e;exact hik (this ▸ hj)
 have hp:HP C ρ2 ZF vhF (Ya h3 ok h):=by
  refine ⟨fun i y hy=>by rw [Vq];exact (Zeg i y hy).1,?_,fun i y hy=>by rw [hvn];exact P.st.hp.vlt i y (by rw [<- hvg];exact hy),?_,?_,?_⟩
  .intro i j y z hy hz e;obtain ⟨_,y',hy'⟩:=Zeg i y hy;obtain ⟨_,z',hz'⟩:=Zeg j z hz;exact P.st.hp.inj _ _ _ _ hy' hz' e
  .intro Zv s hs;simp only [ZF] at hs;split at hs
   .cases hs
   .rw [hvg];exact P.st.hp.sig _ _ hs
  .intro j Zg o hj;rw [Vq];by_cases hk:j∈ok
   .rw [V9 j hk] at hj;have hb:=Zze j hk;simp only [PH.belowAt,hj] at hb;refine (P.st.hp.obj _ _ _ hj).back hb (fun i hi=>Zuo i hi) hB (fun g hg=>?_) (fun hz=>by simp only [ZF];split<;>first | rfl | exact hz) (fun s hs=>by simp only [ZF,Z3k j _ hj hk,if_false];exact hs) hvg hvn;obtain ⟨i,hi,ver',xs,hq⟩:=hG g hg;obtain ⟨_,Ziv,g2,Zrb,xs2,hq2,hT⟩:=hcl i hi;rw [hq] at hq2;cases hq2;exact (hT rfl).2 j hk Zg o hj
   .rw [Zax j hk] at hj;refine P.away hj hk hE hle (fun hz=>?_) hvg (by rw [hvn];exact P.st.vnext);by_cases hl:Z2l (ρ j)
    .simp only [ZF,hl,if_true]
    .simp only [ZF,hl,if_false];exact P.zold hj hk hz fun g xs e hi=>hl ⟨j,hi,Zg,g,xs,by rw [hj,e],rfl⟩
  .rw [hvw,hvn];exact Nat.le_trans (Nat.min_le_right _ _) P.st.hp.wr
 refine ⟨ZF,?_,P.marks hvg hvn hvw hp hle (by rw [Vq];exact Nat.le_refl _) V9 (fun i _ hk _=>Zax i hk) (fun i _ hk _=>.inl (Zax i hk)) (fun i y hi hy=>absurd (Zeg i y hy).1 (by omega))⟩;refine Z9l hB (n:=14) (fun g hg=>?_) (Zgz (fun i hi=>Zuo i hi) 4 hxb hx);obtain ⟨i,hi,ver',xs,hq⟩:=hG g hg;obtain ⟨_,Ziv,g2,Zrb,xs2,hq2,hT⟩:=hcl i hi;rw [hq] at hq2;cases hq2;exact (hT rfl).1
theorem Pre0.frozen (P:Pre0 C K m ρ Z Z1 h vh ok ids nx ρ2 Z3 h3 Vj)(hvg:vhF.get=Vj.get)(hvn:vhF.next=Vj.next)(hvw:vhF.wr=min vh.wr Vj.wr)(Zze:∀ i∈ok,h3.belowAt h.next i=true)
  (hx:R C ρ2 (Zn h3) Z3 x w) (hxb:below h.next 4 x=true):
  ∃ ZF,R C ρ2 (Zn (Ya h3 ok (h.freeze ids))) ZF x w/\St C K ρ Z h vh ρ2 ZF (Ya h3 ok (h.freeze ids)) vhF:=by
 have hle:Z.le Z3:=fun Zv s hs=>P.st.sig _ _ (P.f.le _ _ hs)
 have hB:Zpw [] Z3 Z3:=fun Zv s hs=>.inl hs
 have V9:∀ i,i∈ok->(Ya h3 ok (h.freeze ids)).get i=h3.get i:=fun i hi=>by
  obtain ⟨_,y,hy⟩:=P.hok i hi;obtain ⟨z,hz⟩:=P.live hy;rw [Ui,if_pos hi,hz]
 have Zax:∀ i,i∉ok->(Ya h3 ok (h.freeze ids)).get i=(h.freeze ids).get i:=fun i hi=>by rw [Ui,if_neg hi]
 have Zuo:∀ i,i < h.next->Zn (Ya h3 ok (h.freeze ids)) i=Zn h3 i:=by
  intro i hi;by_cases hk:i∈ok
  .unfold Zn;rw [V9 i hk]
  .unfold Zn;rw [Zax i hk,P.old hi hk]
 have hE:Ext ρ (Zn h) ρ2 (Zn (Ya h3 ok (h.freeze ids))):=by
  intro i c hi;obtain ⟨o,ho⟩:=Zr.1 hi;obtain ⟨c',h1,h2,h4⟩:=P.ext i c hi;exact ⟨c',by rw [Zuo i (P.H.lt _ _ ho)];exact h1,h2,h4⟩
 have Tk:∀ i y,(h.freeze ids).get i=some y->∃ z,h.get i=some z:=by
  intro i y hy;have:Zn (h.freeze ids) i=some y.1:=Zr.2 ⟨y.2,hy⟩;rw [Us] at this;obtain ⟨o,ho⟩:=Zr.1 this;exact ⟨_,ho⟩
 have Zeg:∀ i y,(Ya h3 ok (h.freeze ids)).get i=some y->i < h.next/\h3.get i=some y:=by
  intro i y hy;by_cases hk:i∈ok
  .obtain ⟨_,q,hq⟩:=P.hok i hk;exact ⟨P.H.lt _ _ hq,by rw [<- V9 i hk];exact hy⟩
  .rw [Zax i hk] at hy;obtain ⟨z,hz⟩:=Tk i y hy;have hlt:=P.H.lt _ _ hz;exact ⟨hlt,by rw [P.old hlt hk];exact hy⟩
 have Rg:(Ya h3 ok (h.freeze ids)).next=h.next:=by rw [Vq,Tl]
 have hp:HP C ρ2 Z3 vhF (Ya h3 ok (h.freeze ids)):=by
  refine ⟨fun i y hy=>by rw [Rg];exact (Zeg i y hy).1,?_,fun i y hy=>by rw [hvn];exact P.st.hp.vlt i y (by rw [<- hvg];exact hy),?_,?_,?_⟩
  .intro i j y z hy hz e;exact P.st.hp.inj _ _ _ _ (Zeg i y hy).2 (Zeg j z hz).2 e
  .intro Zv s hs;rw [hvg];exact P.st.hp.sig _ _ hs
  .intro j Zg o hj;rw [Rg];have hj3:=(Zeg j _ hj).2;have O3:=P.st.hp.obj _ _ _ hj3;by_cases hk:j∈ok
   .have hb:=Zze j hk;simp only [PH.belowAt,hj3] at hb;exact O3.back hb (fun i hi=>Zuo i hi) hB (fun g hg=>by simp at hg) id (fun s hs=>hs) hvg hvn
   .rw [Zax j hk] at hj;obtain ⟨z,hz⟩:=Tk j _ hj;by_cases V5:∃ g own xs,o=.row g own xs
    .obtain ⟨g,own,xs,rfl⟩:=V5;cases O3 with
     | row g xs vcs ty a b c d e=>exact .row g xs vcs ty a b (by rw [hvg];exact c) d e
     | frozen g xs s ty a b c d e f=>exact .frozen g xs s ty a b c d e f
    .have hz':h.get j=some (Zg,o):=by
      rw [Y7,hz] at hj;obtain ⟨zv,zo⟩:=z;cases zo with
      | row g own xs=>
        simp only at hj;split at hj<;>cases hj<;>exact absurd ⟨_,_,_,rfl⟩ V5
      | _=>cases hj;exact hz
     exact P.away hz' hk hE hle (fun hz0=>P.zold hz' hk hz0 fun g xs e _=>V5 ⟨g,true,xs,e⟩) hvg (by rw [hvn];exact P.st.vnext)
  .rw [hvw,hvn];exact Nat.le_trans (Nat.min_le_right _ _) P.st.hp.wr
 refine ⟨Z3,Zgz (fun i hi=>Zuo i hi) 4 hxb hx,P.marks hvg hvn hvw hp hle (by rw [Rg];exact Nat.le_refl _) V9 (fun i _ hk hd=>?_) (fun i _ hk hd=>.inr (Zax i hk)) (fun i y hi hy=>absurd (Zeg i y hy).1 (by omega))⟩;rw [Zax i hk,Y7];split
 .rename_i Zg g own xs hq;rw [if_neg hd,hq]
 .rfl
theorem Pre0.whole (P:Pre0 C K m ρ Z Z1 h vh ok ids nx ρ2 Z3 h3 Vj)(hvg:vhF.get=Vj.get)(hvn:vhF.next=Vj.next)(hvw:vhF.wr=min vh.wr Vj.wr)(Rg:h.next<=nx):St C K ρ Z h vh ρ2 Z3 h3 vhF:=by
 have hp:HP C ρ2 Z3 vhF h3:=P.st.hp.sub rfl (fun i x hx=>P.st.hp.lt i x hx) hvg (by rw [hvn];exact Nat.le_refl _) (by rw [hvw,hvn];exact Nat.le_trans (Nat.min_le_right _ _) P.st.hp.wr);refine P.marks hvg hvn hvw hp (fun Zv s hs=>P.st.sig _ _ (P.f.le _ _ hs)) ?_ (fun _ _=>rfl) (fun i hi hk hd=>?_) (fun i hi hk _=>.inr (P.old hi hk)) (fun _ _ _ h=>h)
 .exact Nat.le_trans Rg P.st.next
 .rw [P.old hi hk,Y7];split
  .rename_i Zg g own xs hq;rw [if_neg hd,hq]
  .rfl
theorem Ztv (H:HP C ρ Z vh h)(hK:KOk K m h.next)(hok:∀ i∈ok,can K i=true/\∃ x,h.get i=some x)(hids:∀ i∈ids,can K i=true)(f:Frz C true ρ Z h vh ids Z1)(H1:HP C ρ Z1 {vh with wr:=vh.next} {h.freeze ids with next:=nx})(Rg:h.next<=nx)
  (st:St C {base:=h.next,lo:=h.next,ok:=ok} ρ Z1 {h.freeze ids with next:=nx} {vh with wr:=vh.next} ρ2 Z2 h2 Vj) (hx:R C ρ2 (Zn h2) Z2 x w) {r:PV×PH} (he:Y3 h h2 ok ids x=some r):
  Zfd C K ρ Z h vh r.1 r.2 (some (Virt.settle false vh w Vj)):=by
 unfold Y3 at he;split at he
 .cases he
 .rename_i x' Z3r
  try dsimp only at he
  split at he
  .rename_i Zt;obtain ⟨Z3,f3⟩:=frz (bt:=false) (ownT x) st.hp;have st3:=St.frz (K:={base:=h.next,lo:=h.next,ok:=ok}) st.hp f3 Zt;have stt:=st.trans H1 st3;have hx':R C ρ2 (Zn (h2.freeze (ownT x))) Z3 x' w:=Z2t f3.hp (fun i Zg g own xs hm hg=>Zjh hm hg) Z3r (hx.mono st3.ext st3.sig);have P:Pre0 C K m ρ Z Z1 h vh ok ids nx ρ2 Z3 (h2.freeze (ownT x)) Vj:=⟨H,hK,hok,hids,f,stt⟩
   by_cases Wd:flat 4 w=true/\vh.next<=Vj.wr
   ·
    have Sr:Virt.settle false vh w Vj=(w,vh):=by
     unfold Virt.settle;rw [if_pos];simp only [Bool.not_false,Bool.true_and,Bool.and_eq_true,Nat.ble_eq];exact Wd
    rw [Sr];have Tk:=Zlc (C:=C) (ρ:=ρ2) (vf:=Zn (h2.freeze (ownT x))) (Z:=Z3) (ρ':=ρ2) (vf':=fun _=>none) (Z':=Z3) 4 Wd.1 hx';split at he
    .split at he
     .rename_i hb hcl;cases he
      obtain ⟨ZF,Xl⟩:=P.restored Wd.2 true fun _ i hi=>by
       have:=List.all_eq_true.1 hcl i hi;rw [Bool.and_eq_true,Bool.not_eq_true'] at this;intro hk;rw [List.any_eq_false] at this;exact this.1 i hk (by simp)
      exact ⟨w,vh,ρ,ZF,rfl,(Zlc 4 Wd.1 hx').1,Xl⟩
     .cases he;obtain ⟨ZF,Xl⟩:=P.restored Wd.2 false (fun e=>by cases e);exact ⟨w,vh,ρ,ZF,rfl,(Zlc 4 Wd.1 hx').1,Xl⟩
    .split at he
     .rename_i U0 hev;exfalso;rw [Bool.or_eq_true] at hev;rcases hev with hev | hev
      .rw [Zld 4 x' Tk.2] at hev;cases hev
      .obtain ⟨i,hi,hev⟩:=List.any_eq_true.1 hev;rw [Bool.and_eq_true,Bool.not_eq_true'] at hev;obtain ⟨_,⟨Zg,o⟩,hxx⟩:=hok i hi;have hlt:=H.lt _ _ hxx;obtain ⟨o1,ho1⟩:=Pre0.live1 (ids:=ids) hxx
       have Sn:Zs h.next o1=true:=by
        have h5:=hev.2;simp only [PH.belowAt,hxx] at h5;have ho2:=ho1;rw [Y7,hxx] at ho2;cases o with
        | row g own xs=>
          simp only at ho2;split at ho2<;>cases ho2<;>rfl
        | _=>simp only at ho2;cases ho2;exact h5
       rcases stt.same i Zg o1 hlt ho1 with h1 | ⟨g,own,xs,rfl,h1⟩ | h1
       .have h5:=hev.1;simp only [PH.belowAt,h1,Sn] at h5;cases h5
       .have h5:=hev.1;simp only [PH.belowAt,h1] at h5;cases h5
       .have:=H.rho_lt hxx;omega
     .cases he
   .have Sr:Virt.settle false vh w Vj=(w,{Vj with wr:=min vh.wr Vj.wr}):=by
     unfold Virt.settle;rw [if_neg];simp only [Bool.not_false,Bool.true_and,Bool.and_eq_true,Nat.ble_eq];exact Wd
    rw [Sr];split at he
    .rename_i U0;rw [Bool.and_eq_true] at U0;have Zze:∀ i∈ok,(h2.freeze (ownT x)).belowAt h.next i=true:=fun i hi=>List.all_eq_true.1 U0.2 i hi
     split at he
     .rename_i hcl;cases he
      obtain ⟨ZF,hR,Xl⟩:=P.clean (vhF:={Vj with wr:=min vh.wr Vj.wr}) rfl rfl rfl Zze (fun i hi=>by
       have h5:=List.all_eq_true.1 hcl i hi;rw [Bool.and_eq_true,Bool.not_eq_true'] at h5;refine ⟨fun hk=>?_,?_⟩
       .have:=h5.1;rw [List.any_eq_false] at this;exact this i hk (by simp)
       .have h6:=h5.2;split at h6
        .rename_i Zg g xs hq;refine ⟨Zg,g,true,xs,hq,fun _=>?_⟩;rw [Bool.and_eq_true] at h6;refine ⟨h6.1,fun j hj Zg o ho=>?_⟩;have:=List.all_eq_true.1 h6.2 j hj;rw [ho] at this;exact this
        .rename_i Zg g xs hq;exact ⟨Zg,g,false,xs,hq,fun e=>by cases e⟩
        .cases h6) hx' U0.1
      exact ⟨w,_,ρ2,ZF,rfl,hR,Xl⟩
     .cases he;obtain ⟨ZF,hR,Xl⟩:=P.frozen (vhF:={Vj with wr:=min vh.wr Vj.wr}) rfl rfl rfl Zze hx' U0.1;exact ⟨w,_,ρ2,ZF,rfl,hR,Xl⟩
    .split at he
     .cases he;exact ⟨w,_,ρ2,Z3,rfl,hx',P.whole rfl rfl rfl Rg⟩
     .cases he
  .cases he
end
end Go.Pure
end
section
namespace Go.Pure
open Go Go.Virt
def Zd7 (sl Yp:SL):Prop:=∃ e,Yp.map Prod.fst=sl.map Prod.fst++e
theorem Zd7.refl (sl:SL):Zd7 sl sl:=⟨[],by simp⟩
theorem Zd7.trans {a b c:SL}(h:Zd7 a b)(k:Zd7 b c):Zd7 a c:=by
 obtain ⟨e,h⟩:=h;obtain ⟨f,k⟩:=k;exact ⟨e++f,by rw [k,h,List.append_assoc]⟩
theorem Z4l (sl:SL)(d:Nat)(v:Value):Zd7 sl (Zam sl d v):=by
 induction sl with
 | nil=>exact ⟨[d],rfl⟩
 | cons x sl ih=>
   obtain ⟨k,u⟩:=x;simp only [Zam];cases Nat.beq k d with
   | true=>exact ⟨[],by simp⟩
   | false=>
     obtain ⟨e,he⟩:=ih;exact ⟨e,by simp [he]⟩
theorem Zaz (sl:SL)(d:Option Nat)(v:Value):Zd7 sl (putV sl d v):=by
 cases d with
 | none=>exact .refl _
 | some d=>exact Z4l sl d v
theorem Zk5 {C:Ctx}{cf yf:Nat->List Value->VH->Option (Value×VH)}{all:List Oper}:∀ {l:List Oper} {sl Yp:SL} {h h':VH},opsV C cf yf all l sl h=some (Yp,h')->Zd7 sl Yp
 | [],sl,Yp,h,h',he=>by simp only [opsV,Option.some.injEq,Prod.mk.injEq] at he;rw [he.1];exact .refl _
 | o::l,sl,Yp,h,h',he=>by
   simp only [opsV] at he;split at he
   .split at he
    .exact (Zaz _ _ _).trans (Zk5 he)
    .cases he
   .exact (Zaz _ _ _).trans (Zk5 he)
   .cases he
theorem Zzn {C:Ctx}{cf yf:Nat->List Value->VH->Option (Value×VH)}{B M:Nat}{all:List Oper}{masks:Array Nat}{o:Oper}{i:Nat}{st st':DSt}(he:Zbr C cf yf B M all masks o i st=some st'):Zd7 st.sl st'.sl:=by
 unfold Zbr at he
 try dsimp only at he
 split at he
 .cases he
 .cases he;exact Zaz _ _ _
 .split at he
  .cases he;exact Zaz _ _ _
  .split at he
   .cases he
   .split at he
    .cases he
    .split at he<;>cases he<;>exact Zaz _ _ _
theorem Znn {C:Ctx}{cf yf:Nat->List Value->VH->Option (Value×VH)}{B M:Nat}{all:List Oper}{masks:Array Nat}:∀ {l:List Oper} {i:Nat} {st st':DSt},Zap C cf yf B M all masks l i st=some st'->Zd7 st.sl st'.sl
 | [],i,st,st',he=>by simp only [Zap,Option.some.injEq] at he;subst he;exact .refl _
 | o::l,i,st,st',he=>by
   simp only [Zap] at he;split at he
   .rename_i s hs;exact (Zzn hs).trans (Znn he)
   .cases he
theorem Zzp {C:Ctx}{cf yf:Nat->List Value->VH->Option (Value×VH)}{ops:Array Oper}{sl Yp:SL}{h h':VH}(he:Zgv C cf yf ops sl h=some (Yp,h')):Zd7 sl Yp:=by
 unfold Zgv at he
 try dsimp only at he
 split at he
 .cases he
 .rename_i st hp;have:=Znn hp;split at he
  .cases he
  .split at he
   .cases he;exact this
   .cases he
theorem Znm {sl Yp:SL}(h:Zd7 sl Yp):(Yp.take sl.length).map Prod.fst=sl.map Prod.fst:=by
 obtain ⟨e,he⟩:=h;rw [List.map_take,he];simp
theorem Zzo {C:Ctx}:∀ (n:Nat) (Xg:Bool) (code:Code) (sl Yp:SL) (h h':VH) (x:Ex),Virt.exec C n Xg code sl h=some (x,Yp,h')->Zd7 sl Yp:=by
 intro n
 induction n with
 | zero=>intro Xg code sl Yp h h' x he;simp [Virt.exec] at he
 | succ n ih=>
   intro Xg code sl Yp h h' x he;cases code with
   | region id ops draw=>
     rw [Virt.exec] at he
     try dsimp only at he
     rw [Option.map_eq_some_iff] at he;obtain ⟨⟨a,b⟩,hx,e⟩:=he;simp only [Prod.mk.injEq] at e;obtain ⟨_,rfl,_⟩:=e;cases draw with
     | true=>simp only [if_true] at hx;exact Zzp hx
     | false=>simp only [Bool.false_eq_true,if_false] at hx;exact Zk5 hx
   | seq a b=>
     rw [Virt.exec] at he
     try dsimp only at he
     split at he
     .rename_i Re h1 hx;exact (ih _ _ _ _ _ _ _ hx).trans (ih _ _ _ _ _ _ _ he)
     .exact ih _ _ _ _ _ _ _ he
   | cond c a b=>
     rw [Virt.exec] at he
     try dsimp only at he
     split at he
     .exact ih _ _ _ _ _ _ _ he
     .exact ih _ _ _ _ _ _ _ he
     .cases he
   | block id b=>
     rw [Virt.exec] at he
     try dsimp only at he
     split at he
     .rename_i id' Re h1 hx;have:=ih _ _ _ _ _ _ _ hx;split at he<;>cases he<;>exact this
     .exact ih _ _ _ _ _ _ _ he
   | loop b=>
     rw [Virt.exec] at he
     try dsimp only at he
     split at he
     .rename_i Re h1 hx;have h1:=ih _ _ _ _ _ _ _ hx;have h2:=ih _ _ _ _ _ _ _ he;exact Zd7.trans ⟨[],by rw [Znm h1];simp⟩ h2
     .exact ih _ _ _ _ _ _ _ he
   | rangeFunc f ps as bd=>
     rw [Virt.exec] at he
     try dsimp only at he
     split at he
     .split at he
      .split at he
       .split at he
        .cases he;exact .refl _
        .cases he
       .cases he
      .cases he
     .cases he
   | skip=>simp only [Virt.exec,Option.some.injEq,Prod.mk.injEq] at he;rw [he.2.1];exact .refl _
   | exit id=>simp only [Virt.exec,Option.some.injEq,Prod.mk.injEq] at he;rw [he.2.1];exact .refl _
   | ret=>simp only [Virt.exec,Option.some.injEq,Prod.mk.injEq] at he;rw [he.2.1];exact .refl _
   | _=>simp [Virt.exec] at he
theorem Ztu {sl:SL}{t:Nat}{v:Value}(h:Yz sl t=some v):t∈sl.map Prod.fst:=by
 induction sl with
 | nil=>simp [Yz] at h
 | cons x sl ih=>
   obtain ⟨k,u⟩:=x;simp only [Yz] at h;cases e:Nat.beq k t with
   | true=>simp [Nat.eq_of_beq_eq_true e]
   | false=>rw [e] at h;simp [ih h]
theorem slGet_take {sl:SL}{t k:Nat}(h:t∈(sl.take k).map Prod.fst):Yz (sl.take k) t=Yz sl t:=by
 induction sl generalizing k with
 | nil=>simp
 | cons x sl ih=>
   cases k with
   | zero=>simp at h
   | succ k=>
     obtain ⟨j,u⟩:=x;simp only [List.take_succ_cons,Yz];cases e:Nat.beq j t with
     | true=>rfl
     | false=>
       simp only [List.take_succ_cons,List.map_cons,List.mem_cons] at h;rcases h with h | h
       .subst h;simp at e
       .exact ih h
section
variable {C:Ctx}{Z Z' Z1:Wr}{ρ ρ':Nat->Nat}{vf vf':Nat->Option Nat}{h h':PH}{vh vh':VH}{K:Loc}{n m:Nat}{Y1 Zq6:Yo}{Yt vsl':SL}
theorem SR.keep (S0:SR C ρ vf Z Y1 Yt)(S:SR C ρ' vf' Z' Zq6 vsl')(hg:Zd7 Yt vsl'):SR C ρ' vf' Z' (Zbu Y1 Zq6) (vsl'.take Yt.length):=by
 intro t x hx;unfold Zbu at hx;split at hx
 .rename_i y hy;obtain ⟨v0,h0,_⟩:=S0 _ _ hy;obtain ⟨v,h1,h2⟩:=S _ _ hx;refine ⟨v,?_,h2⟩;rw [slGet_take]
  .exact h1
  .rw [Znm hg];exact Ztu h0
 .cases hx
def Zte (C:Ctx)(pex:Loc->Code->Yo->PH->Option (Ex×Yo×PH))(ex:Code->SL->VH->Option (Ex×SL×VH)):Prop:=
 ∀ K m code Y1 h x Zq6 h',pex K code Y1 h=some (x,Zq6,h')->Vo m code=true->∀ (ρ:Nat->Nat) (Z:Wr) (vh:VH) (Yt:SL),HP C ρ Z vh h->KOk K m h.next->SR C ρ (Zn h) Z Y1 Yt ->
  ∃ vsl' vh' ρ' Z',ex code Yt vh=some (x,vsl',vh')/\SR C ρ' (Zn h') Z' Zq6 vsl'/\St C K ρ Z h vh ρ' Z' h' vh'
structure COkP (C:Ctx):Prop where
 ext:∀ f a v,C.ext f a=some v->a=[]\/(C.raw f=true/\∃ b k c,a=[.string b,.int k c])
 extP:∀ f a v,C.ext f a=some v->(Zw 0 v).isSome=true
 code:∀ f fn c,C.F f=some fn->fn.body=some c->Vo fn.ntmps c=true
theorem Zrn (H:HP C ρ Z vh h){ids:List Nat}(f:Frz C true ρ Z h vh ids Z1){nx:Nat}:∀ {args Zy:List PV} {X5:List Value},(∀ a∈args,∀ i∈Yl a,i∈ids)->Yy (Xt h) args=some Zy ->
  Rs C ρ (Zn h) Z args X5->Rs C ρ (Zn ({h.freeze ids with next:=nx}:PH)) Z1 Zy X5
 | [],Zy,X5,_,ha,hr=>by
   simp only [Yy,Option.some.injEq] at ha;subst ha;cases hr;exact .nil
 | a::l,Zy,X5,hm,ha,hr=>by
   simp only [Yy] at ha;split at ha
   .rename_i y ys hy hys;cases ha;have hv:Zn ({h.freeze ids with next:=nx}:PH)=Zn (h.freeze ids):=rfl;cases hr with
    | cons h1 r=>
      refine .cons ?_ (Zrn H f (fun a ha=>hm a (by simp [ha])) hys r);rw [hv];have h1':=h1.mono (Ext.refl _ _) f.sig;rw [<- Us ids h] at h1';exact Zgg f.hp (fun i Zg g own xs hi hq=>Zjh (hm a (by simp) i hi) hq) hy h1'
   .cases ha
theorem Zel (b:ByteArray):bytesOf (b.data.toList.map UInt8.toNat)=b:=by
 unfold bytesOf
 have:(b.data.toList.map UInt8.toNat).map Nat.toUInt8=b.data.toList:=by
  rw [List.map_map]
  conv=>rhs;rw [<- List.map_id b.data.toList]
  refine List.map_congr_left fun x _=>?_
  simp [Function.comp]
 rw [this]
theorem Z0g {ρ:Nat->Nat}{vf:Nat->Option Nat}{Z:Wr}{s:List Nat}{v:Value}(h:R C ρ vf Z (.str s) v):v=.string (bytesOf s):=by
 cases h with
 | d h=>cases h;rw [Zel]
theorem Z5y {ρ:Nat->Nat}{vf:Nat->Option Nat}{Z:Wr}{x:PV}{b:ByteArray}(h:R C ρ vf Z x (.string b)):∃ s,x=.str s/\bytesOf s=b:=by
 cases h with
 | d h=>cases h;exact ⟨_,rfl,Zel b⟩
theorem Z0i {ρ:Nat->Nat}{vf:Nat->Option Nat}{Z:Wr}{k:IntKind}{n:Int}{v:Value}(h:R C ρ vf Z (.int k n) v):v=.int k n:=by
 cases h with
 | d h=>cases h;rfl
theorem Z0h {ρ:Nat->Nat}{vf:Nat->Option Nat}{Z:Wr}{x:PV}{k:IntKind}{n:Int}(h:R C ρ vf Z x (.int k n)):x=.int k n:=by
 cases h with
 | d h=>cases h;rfl
theorem Zdu (hC:COkP C){pex:Loc->Code->Yo->PH->Option (Ex×Yo×PH)}{ex:Code->SL->VH->Option (Ex×SL×VH)}(hex:Zte C pex ex)(K:Loc)(m:Nat):Zg4 C K m (callF C pex) (Virt.callF C ex):=by
 intro f args h r he ρ Z vh X5 H hK Xq;unfold callF at he;unfold Virt.callF;split at he
 .rename_i x hx;cases he;unfold extP at hx;split at hx
  .cases Xq;simp only [Option.bind_eq_some_iff] at hx;obtain ⟨w,h1,h2⟩:=hx;rw [h1];exact ⟨w,vh,ρ,Z,rfl,.d (Sz 0 w h2),St.refl H⟩
  .split at hx
   .cases Xq with
    | cons r1 r2=>
      cases r2 with
      | cons r2 r3=>
        cases r3;rw [Z0g r1,Z0i r2];simp only [Option.bind_eq_some_iff] at hx;obtain ⟨w,h1,h2⟩:=hx;rw [h1];exact ⟨w,vh,ρ,Z,rfl,.d (Sz 0 w h2),St.refl H⟩
   .cases hx
  .cases hx
 rename_i W9
 have Zakz:C.ext f X5=none:=by
  cases e:C.ext f X5 with
  | none=>rfl
  | some w=>
    have hs:=hC.extP f _ w e;rcases hC.ext f _ w e with rfl | ⟨Y6,b,k,c,rfl⟩
    .cases Xq;simp only [extP,e,Option.bind_some] at W9;rw [W9] at hs;cases hs
    .cases Xq with
     | cons r1 r2=>
       cases r2 with
       | cons r2 r3=>
         cases r3;obtain ⟨s,rfl,hb⟩:=Z5y r1;have h2:=Z0h r2;subst h2;simp only [extP,Y6,if_true,hb,e,Option.bind_some] at W9;rw [W9] at hs;cases hs
 rw [Zakz]
 try dsimp only
 split at he
 .cases he
 .rename_i fn hF;rw [hF]
  try dsimp only
  split at he
  .cases he
  .rename_i c Znk;rw [Znk]
   try dsimp only
   have Vl:=hC.code _ _ _ hF Znk;split at he
   ·
    rename_i Y6;have H1:HP C ρ Z {vh with wr:=vh.next} {h with next:=h.next+fn.ntmps}:=H.sub rfl (fun i x hx=>Nat.lt_of_lt_of_le (H.lt i x hx) (Nat.le_add_right _ _)) rfl (Nat.le_refl _) (Nat.le_refl _);have T8:K.lo<=h.next:=by have:=hK.1;have:=hK.2;omega
    have key:∀ x Yp h2,pex {base:=h.next,lo:=K.lo,ok:=K.ok} c (Sh 0 args) {h with next:=h.next+fn.ntmps}=some (x,Yp,h2)->(match Uq C Yp h2 fn.results.toList with
      | none=>none
      | some vs=>if h2.next=h.next+fn.ntmps/\Zgn h2 h.next h2.next=true then some (Wk vs,{h2 with next:=h.next}) else some (Wk vs,h2))=some r ->
      ∃ vsl' Vj,ex c (Vm 0 X5) {vh with wr:=vh.next}=some (x,vsl',Vj)/\Zfd C K ρ Z h vh r.1 r.2 ((Zfu C vsl' Vj fn.results.toList).map fun vs=>Virt.settle (C.raw f) vh (Zl8 vs) Vj):=by
     intro x Yp h2 hp hr;obtain ⟨vsl',Vj,ρ2,Z2,e1,S2,st⟩:=hex _ _ _ _ _ _ _ _ hp Vl ρ Z _ (Vm 0 X5) H1 ⟨T8,Nat.le_refl _⟩ (Zp7 Xq);refine ⟨vsl',Vj,e1,?_⟩;split at hr
     .cases hr
     .rename_i vs Wd;obtain ⟨vvs,hv1,hv2⟩:=Zfv st.hp S2 Wd;have Zd3:=Zrg hv2;rw [hv1,Y6]
      have Sr:Virt.settle true vh (Zl8 vvs) Vj=(Zl8 vvs,{Vj with wr:=min vh.wr Vj.wr}):=by
       unfold Virt.settle;simp
      simp only [Option.map_some];rw [Sr]
      have base:∀ hF:PH,hF.get=h2.get->h.next<=hF.next->(∀ i x,hF.get i=some x->i < hF.next)->St C K ρ Z h vh ρ2 Z2 hF {Vj with wr:=min vh.wr Vj.wr}:=by
       intro hF hg hn hlt;have hvf:Zn hF=Zn h2:=by unfold Zn;rw [hg]
       refine ⟨st.hp.sub hg (fun i x hx=>hlt i x (by rw [hg];exact hx)) rfl (Nat.le_refl _) (Nat.le_trans (Nat.min_le_right _ _) st.hp.wr),by rw [hvf];exact st.ext,st.sig,hn,st.vnext,Nat.min_le_left _ _,fun i hi=>by rw [hg];exact st.keep i hi,fun i Zg o T8 ho=>?_,fun i x hx=>st.plc i x (by rw [<- hg];exact hx),fun i x hx hc=>st.vkeep i x hx hc,fun q hq hn hi=>st.vnone q hq hn hi,fun b h1 h2 h3=>Nat.le_min.2 ⟨h2,st.low b h1 h1 h3⟩⟩;rw [hg];rcases st.same i Zg o T8 ho with h5 | h5 | h5
       .exact .inl h5
       .exact .inr (.inl h5)
       .exact .inr (.inr (Nat.le_trans (Nat.min_le_right _ _) h5))
      split at hr
      .rename_i hfr;cases hr
       have hlt:∀ i x,h2.get i=some x->i < h.next:=by
        intro i x hx;rcases Nat.lt_or_ge i h.next with h5 | h5
        .exact h5
        .exfalso;have h6:=st.hp.lt i x hx;have h7:=List.all_eq_true.1 hfr.2 (i - h.next) (List.mem_range.2 (by omega));rw [show h.next+(i - h.next)=i by omega,hx] at h7;cases h7
       exact ⟨Zl8 vvs,_,ρ2,Z2,rfl,Zd3,base _ rfl (Nat.le_refl _) hlt⟩
      .cases hr;exact ⟨Zl8 vvs,_,ρ2,Z2,rfl,Zd3,base _ rfl (Nat.le_trans (Nat.le_add_right _ _) st.next) st.hp.lt⟩
    split at he
    .rename_i Yp h2 hp;obtain ⟨vsl',Vj,e1,e2⟩:=key _ _ _ hp he;rw [e1];exact e2
    .rename_i Yp h2 hp;obtain ⟨vsl',Vj,e1,e2⟩:=key _ _ _ hp he;rw [e1];exact e2
    .cases he
   .rename_i Y6
    try dsimp only at he
    split at he
    .cases he
    .rename_i Zy Z3r;split at he
     .rename_i Zcv;rw [Bool.and_eq_true] at Zcv;obtain ⟨Z1,fz⟩:=frz (bt:=true) (args.flatMap Yl) H;have Rg:h.next<=h.next+fn.ntmps:=Nat.le_add_right _ _;have H1:HP C ρ Z1 {vh with wr:=vh.next} {h.freeze (args.flatMap Yl) with next:=h.next+fn.ntmps}:=fz.hp.sub rfl (fun i x hx=>by have:=fz.hp.lt i x hx;rw [Tl] at this;exact Nat.lt_of_lt_of_le this Rg) rfl (Nat.le_refl _) (Nat.le_refl _);have Zu3:=Zrn (nx:=h.next+fn.ntmps) H fz (fun a ha i hi=>List.mem_flatMap.2 ⟨a,ha,hi⟩) Z3r Xq
      have hok:∀ i∈reach h 4 (Zy.flatMap (refs 3)),can K i=true/\∃ x,h.get i=some x:=fun i hi=>by
       have:=List.all_eq_true.1 Zcv.1 i hi;rw [Bool.and_eq_true] at this;exact ⟨this.1,Option.isSome_iff_exists.1 this.2⟩
      have hids:∀ i∈args.flatMap Yl,can K i=true:=fun i hi=>List.all_eq_true.1 Zcv.2 i hi
      have hrw:C.raw f=false:=by simpa using Y6
      have key:∀ x Yp h2,pex {base:=h.next,lo:=h.next,ok:=reach h 4 (Zy.flatMap (refs 3))} c (Sh 0 Zy) {h.freeze (args.flatMap Yl) with next:=h.next+fn.ntmps}=some (x,Yp,h2) ->
        (match Uq C Yp h2 fn.results.toList with
        | none=>none
        | some vs=>Y3 h h2 (reach h 4 (Zy.flatMap (refs 3))) (args.flatMap Yl) (Wk vs))=some r ->
        ∃ vsl' Vj,ex c (Vm 0 X5) {vh with wr:=vh.next}=some (x,vsl',Vj)/\Zfd C K ρ Z h vh r.1 r.2 ((Zfu C vsl' Vj fn.results.toList).map fun vs=>Virt.settle (C.raw f) vh (Zl8 vs) Vj):=by
       intro x Yp h2 hp hr;obtain ⟨vsl',Vj,ρ2,Z2,e1,S2,st⟩:=hex _ _ _ _ _ _ _ _ hp Vl ρ Z1 _ (Vm 0 X5) H1 ⟨Nat.le_refl _,Nat.le_refl _⟩ (Zp7 Zu3);refine ⟨vsl',Vj,e1,?_⟩;split at hr
       .cases hr
       .rename_i vs Wd;obtain ⟨vvs,hv1,hv2⟩:=Zfv st.hp S2 Wd;rw [hv1,hrw];exact Ztv H hK hok hids fz H1 Rg st (Zrg hv2) hr
      split at he
      .rename_i Yp h2 hp;obtain ⟨vsl',Vj,e1,e2⟩:=key _ _ _ hp he;rw [e1];exact e2
      .rename_i Yp h2 hp;obtain ⟨vsl',Vj,e1,e2⟩:=key _ _ _ hp he;rw [e1];exact e2
      .cases he
     .cases he
theorem Zyi {ps:List Nat}:∀ {Y1:Yo} {Yt:SL} {xs:List PV} {vs:List Value},SR C ρ vf Z Y1 Yt->Rs C ρ vf Z xs vs->SR C ρ vf Z (Zbs Y1 (ps.zip xs)) (Zcg Yt (ps.zip vs)):=by
 induction ps with
 | nil=>intro Y1 Yt xs vs S _;simpa [Zbs,Zcg] using S
 | cons p ps ih=>
   intro Y1 Yt xs vs S h;cases h with
   | nil=>simpa [Zbs,Zcg] using S
   | cons h r=>simp only [List.zip_cons_cons,Zbs,Zcg];exact ih (S.put p h) r
theorem St.wider {K K0:Loc}{Z':Wr}(st:St C K0 ρ Z h vh ρ' Z' h' vh')(T8:K.lo<=K0.lo)(hc:∀ i,can K0 i=true->can K i=true):St C K ρ Z h vh ρ' Z' h' vh':=
 ⟨st.hp,st.ext,st.sig,st.next,st.vnext,st.wr,fun i hi=>st.keep i (by cases e:can K0 i with | false=>rfl | true=>rw [hc i e] at hi;cases hi),fun i Zg o hl=>st.same i Zg o (Nat.lt_of_lt_of_le hl T8),st.plc,fun i x hx hi=>st.vkeep i x hx (by cases e:can K0 i with | false=>rfl | true=>rw [hc i e] at hi;cases hi),st.vnone,fun b h1 h2 h3=>st.low b h1 h2 fun i x hx hi=>h3 i x hx (hc i hi)⟩
theorem Zhc (H:HP C ρ Z vh h){i Zg:Nat}{ob0 ob:PO}{vo:Option VO}(hi:h.get i=some (Zg,ob0))(T8:K.lo<=i)(hz:Z (ρ i)=none)
  (ho:∀ ρ' vf',Ext ρ (Zn h) ρ' vf'->OR C ρ' vf' Z h.next (vh.put (ρ i) vo) i (ρ i) ob):
  St C K ρ Z h vh (fun j=>if j=i then ρ i else ρ j) Z (h.put i Zg ob) (vh.put (ρ i) vo):=by
 refine HP.change H (.inl rfl) (H.lt _ _ hi) (by unfold can;rw [Bool.or_eq_true,Nat.ble_eq];exact .inl T8) (fun w o' hw=>?_) (H.rho_lt hi) (.inl ⟨_,hi,rfl⟩) (Nat.le_refl _) (Nat.le_refl _) (fun h1 _=>by omega) (fun q hq _=>?_) (fun _ _=>.inl hz) hz (fun q y hq=>?_) (fun ρ' vf' _ _ he=>ho ρ' vf' he)
 .rw [hi] at hw;cases hw;exact ⟨Nat.le_refl _,fun _=>rfl⟩
 .simp [VH.put,T6 hq]
 .by_cases e:q=ρ i
  .subst e;exact H.rho_lt hi
  .simp only [VH.put,T6 e,cond_false] at hq;exact H.vlt _ _ hq
theorem Zj7 {i:Nat}:(fun j=>if j=i then ρ i else ρ j)=ρ:=by
 funext j;by_cases e:j=i
 .simp [e]
 .simp [e]
theorem Ztn {pex:Loc->Code->Yo->PH->Option (Ex×Yo×PH)}{ex:Code->SL->VH->Option (Ex×SL×VH)}(hex:Zte C pex ex)(K:Loc)(m:Nat):YfSim C K m (Pure.yieldF pex) (Virt.yieldF ex):=by
 intro l Zg args h r he ρ Z vh X5 w H hK Xq hw;unfold Pure.yieldF at he;split at he
 .rename_i w0 K0 Vn ps as bd hl;split at he
  .rename_i hc;obtain ⟨rfl,hlen,T8,hok⟩:=hc
   have hwv:w=.func (.yield (ρ l)) #[] #[]:=by
    cases hw with
    | d h=>cases h
    | yield i Zg c p hi hv ha=>
      rw [Zr.2 ⟨_,hl⟩] at hi;cases hi;rw [ha rfl]
   refine ⟨ρ l,hwv,?_⟩;rw [Nat.ble_eq] at T8;cases H.obj _ _ _ hl with
   | loop K0 n sl Yt ps as bd hz hg hsl hK0 hb h1 h2=>
     unfold Virt.yieldF;rw [hg]
     try dsimp only
     rw [if_pos (by rw [Xq.length];exact hlen)];have hKl:K.lo<=l:=by omega
     have Zt:∀ i,can K0 i=true->can K i=true:=by
      intro i hi;unfold can at hi;rw [Bool.or_eq_true] at hi;rcases hi with hi | hi
      .rw [Nat.ble_eq] at hi;unfold can;rw [Bool.or_eq_true,Nat.ble_eq];exact .inl (by omega)
      .obtain ⟨y,hy,e⟩:=List.any_eq_true.1 hi;rw [Nat.beq_eq] at e;subst e;exact List.all_eq_true.1 hok _ hy
     have st0:=Zhc (K:=K) (ob:=.gone) (vo:=none) H hl hKl hz fun ρ' vf' _=>.gone (H.rho_lt hl) hz
     rw [Zj7] at st0;have hKOk:KOk K0 n h.next:=⟨hK0,by have:=H.lt _ _ hl;omega⟩
     have S0:=Zyi (ps:=ps) (hsl.mono st0.ext st0.sig) (Rs.mono st0.ext st0.sig Xq);split at he
     .rename_i Re h1' hx1;obtain ⟨Zdw,vh1,ρ1,Z1,a1,a2,a3⟩:=hex _ _ _ _ _ _ _ _ hx1 h1 ρ Z _ _ st0.hp hKOk S0;rw [a1]
      try dsimp only
      split at he
      .rename_i sl2 h2' hx2;obtain ⟨Z63,Vj,ρ2,Z2,b1,b2,b3⟩:=hex _ _ _ _ _ _ _ _ hx2 h2 ρ1 Z1 _ _ a3.hp ⟨hKOk.1,Nat.le_trans hKOk.2 a3.next⟩ a2;rw [b1]
       try dsimp only
       split at he
       .rename_i w2 Z3t;split at he
        .rename_i e;subst e;cases he;have st2:St C K ρ Z h vh ρ2 Z2 h2' Vj:=(st0.trans H (a3.wider T8 Zt)).trans H (b3.wider T8 Zt)
         have Zd2:ρ2 l=ρ l:=by
          obtain ⟨c',q1,_,q3⟩:=st2.ext l w2 (Zr.2 ⟨_,hl⟩);rw [Zr.2 ⟨_,Z3t⟩] at q1;cases q1;exact q3 rfl
         have hz2:Z2 (ρ2 l)=none:=by
          cases st2.hp.obj _ _ _ Z3t with
          | gone q1 q2=>exact q2
         have st3:=Zhc (K:=K) (ob:=.loop K0 Vn ps as bd) (vo:=some (.loop Yt ps as bd)) st2.hp Z3t hKl hz2 fun ρ' vf' hE=>.loop K0 n Vn Yt ps as bd hz2 (by simp [VH.put]) ((hsl.mono st2.ext st2.sig).mono hE (Wr.le.refl _)) hK0 hb h1 h2
         rw [Zj7,Zd2] at st3;exact ⟨.bool true,_,_,_,rfl,.d (.bool true),st2.trans H st3⟩
        .cases he
       .cases he
      .cases he
     .cases he
  .cases he
 .cases he
def Zg3 (C:Ctx)(pcf:CF)(cf:Nat->List Value->VH->Option (Value×VH)):Prop:=
 ∀ K f args h v h',pcf K f args h=some (v,h')->C.raw f=false->args.flatMap Yl=[]->args.flatMap (refs 3)=[]->Xh 4 v=true ->
  h'=h/\∀ (ρ:Nat->Nat) (Z:Wr) (vh:VH) (X5:List Value),HP C ρ Z vh h->vh.wr=vh.next->Rs C ρ (Zn h) Z args X5->∃ w,cf f X5 vh=some (w,vh)/\R C ρ (Zn h) Z v w
theorem Zyv {h:PH}{a:PV}(ha:Yl a=[]):Xt h a=some a:=by
 have hc:∀ cs:List PV,cs.flatMap U7=[]->Yy (Rv h) cs=some cs:=by
  intro cs
  induction cs with
  | nil=>intro _;rfl
  | cons c cs ih=>
    intro hh;rw [List.flatMap_cons,List.append_eq_nil_iff] at hh;simp only [Yy,ih hh.2];cases c<;>simp_all [U7,Rv]
 cases a with
 | agg cs=>simp only [Xt];rw [hc cs ha];rfl
 | own=>simp [Yl,U7] at ha
 | _=>rfl
theorem Zm4 {h:PH}:∀ {args:List PV},args.flatMap Yl=[]->Yy (Xt h) args=some args
 | [],_=>rfl
 | a::l,ho=>by
   rw [List.flatMap_cons,List.append_eq_nil_iff] at ho;simp only [Yy,Zyv ho.1,Zm4 ho.2]
theorem Z1x (hC:COkP C){pex:Loc->Code->Yo->PH->Option (Ex×Yo×PH)}{ex:Code->SL->VH->Option (Ex×SL×VH)}(hex:Zte C pex ex):Zg3 C (Pure.callF C pex) (Virt.callF C ex):=by
 intro K f args h v h' he Y6 ho hr hv
 have key:h'=h/\Pure.callF C pex {base:=h.next,lo:=h.next,ok:=[]} f args h=some (v,h):=by
  unfold Pure.callF at he ⊢;cases hx:extP C f args with
  | some w=>
    rw [hx] at he;cases he;exact ⟨rfl,rfl⟩
  | none=>
    rw [hx] at he;simp only at he ⊢;cases hF:C.F f with
    | none=>rw [hF] at he;cases he
    | some fn=>
      rw [hF] at he;simp only at he ⊢;cases hb:fn.body with
      | none=>rw [hb] at he;cases he
      | some c=>
        rw [hb] at he;simp only [Y6,Bool.false_eq_true,if_false,Zm4 ho,ho,hr,reach,List.all_nil,Bool.and_true,if_true] at he ⊢
        have Sr:∀ h2 x,Y3 h h2 [] [] x=some (v,h')->h'=h:=by
         intro h2 x hs;unfold Y3 at hs;split at hs
         .cases hs
         .rename_i v' hi;simp only [List.any_nil,Bool.or_false,List.all_nil,Bool.and_true,Ya,PH.freeze,if_true] at hs;split at hs
          .split at hs
           .simp only [Option.some.injEq,Prod.mk.injEq] at hs;exact hs.2.symm
           .split at hs
            .rename_i hf;simp only [Option.some.injEq,Prod.mk.injEq] at hs;rw [hs.1,Zld 4 v hv] at hf;cases hf
            .cases hs
          .cases hs
        have Zajz:∀ (q:Option (Ex×Yo×PH)),(match q with
          | some (.normal,Yp,h2) | some (.ret,Yp,h2)=>
            (match Uq C Yp h2 fn.results.toList with
            | none=>none
            | some vs=>Y3 h h2 [] [] (Wk vs))
          | _=>none)=some (v,h')->h'=h:=by
         intro q hq;split at hq
         .split at hq
          .cases hq
          .exact Sr _ _ hq
         .split at hq
          .cases hq
          .exact Sr _ _ hq
         .cases hq
        have e:=Zajz _ he;subst e;exact ⟨rfl,he⟩
 obtain ⟨rfl,hc⟩:=key;refine ⟨rfl,fun ρ Z vh X5 H hw ha=>?_⟩;obtain ⟨w,vh1,ρ1,Z1,q1,q2,q3⟩:=Zdu hC hex {base:=h'.next,lo:=h'.next,ok:=[]} 0 f args h' _ hc ρ Z vh X5 H ⟨Nat.le_refl _,Nat.le_refl _⟩ ha;have hfw:flat 4 w=true:=Z5z 4 hv q2
 have hlow:vh.next<=vh1.wr:=q3.low vh.next (Nat.le_refl _) (by rw [hw];exact Nat.le_refl _) fun i x hx Zt=>by
  exfalso;have:=H.lt i x hx;unfold can at Zt;simp only [List.any_nil,Bool.or_false,Nat.ble_eq] at Zt;omega
 have Wp:vh1=vh:=by
  unfold Virt.callF at q1;split at q1
  .rename_i w' _;simp only [Option.some.injEq,Prod.mk.injEq] at q1;exact q1.2.symm
  .split at q1
   .cases q1
   .split at q1
    .cases q1
    .have Sr:∀ (vv:Value) (h2:VH),Virt.settle (C.raw f) vh vv h2=(w,vh1)->vh1=vh:=by
      intro vv h2 hs;unfold Virt.settle at hs;split at hs
      .simp only [Prod.mk.injEq] at hs;exact hs.2.symm
      .rename_i hn;simp only [Prod.mk.injEq] at hs;obtain ⟨rfl,rfl⟩:=hs;exfalso;apply hn;simp only [Y6,hfw,Bool.not_false,Bool.true_and,Nat.ble_eq];exact Nat.le_trans hlow (Nat.min_le_right _ _)
     split at q1
     .rw [Option.map_eq_some_iff] at q1;obtain ⟨vs,_,hs⟩:=q1;exact Sr _ _ hs
     .rw [Option.map_eq_some_iff] at q1;obtain ⟨vs,_,hs⟩:=q1;exact Sr _ _ hs
     .cases q1
 subst Wp;exact ⟨w,q1,(Zlc 4 hfw q2).1⟩
def Zda (C:Ctx)(pcf:CF)(cf:Nat->List Value->VH->Option (Value×VH)):Prop:=
 ∀ K f args h v h',pcf K f args h=some (v,h')->C.raw f=false->∀ Zy,Yy (Xt h) args=some Zy->∀ (ρ:Nat->Nat) (Z:Wr) (vh:VH) (X5:List Value),HP C ρ Z vh h->Rs C ρ (Zn h) Z args X5 ->
  ∀ w vh1,cf f X5 vh=some (w,vh1)->∀ u,u∉reach h 4 (Zy.flatMap (refs 3))++args.flatMap Yl->(∃ x,h.get u=some x)->vh1.get (ρ u)=vh.get (ρ u)/\h'.get u=h.get u
theorem Zx2 (hC:COkP C){pex:Loc->Code->Yo->PH->Option (Ex×Yo×PH)}{ex:Code->SL->VH->Option (Ex×SL×VH)}(hex:Zte C pex ex):Zda C (Pure.callF C pex) (Virt.callF C ex):=by
 intro K f args h v h' he Y6 Zy hm ρ Z vh X5 H ha w vh1 hw u hu hx
 have key:Pure.callF C pex {base:=h.next,lo:=h.next,ok:=reach h 4 (Zy.flatMap (refs 3))++args.flatMap Yl} f args h=some (v,h'):=by
  unfold Pure.callF at he ⊢;cases hx:extP C f args with
  | some w=>rw [hx] at he;exact he
  | none=>
    rw [hx] at he;simp only at he ⊢;cases hF:C.F f with
    | none=>rw [hF] at he;cases he
    | some fn=>
      rw [hF] at he;simp only at he ⊢;cases hb:fn.body with
      | none=>rw [hb] at he;cases he
      | some c=>
        rw [hb] at he;simp only [Y6,Bool.false_eq_true,if_false,hm] at he ⊢;split at he
        .rename_i hok;rw [Bool.and_eq_true,List.all_eq_true,List.all_eq_true] at hok;rw [if_pos]
         .exact he
         .rw [Bool.and_eq_true,List.all_eq_true,List.all_eq_true]
          have hc:∀ i,i∈reach h 4 (Zy.flatMap (refs 3))++args.flatMap Yl->can {base:=h.next,lo:=h.next,ok:=reach h 4 (Zy.flatMap (refs 3))++args.flatMap Yl} i=true:=fun i hi=>by
           unfold can;rw [Bool.or_eq_true];exact .inr (List.any_eq_true.2 ⟨i,hi,Nat.beq_refl i⟩)
          refine ⟨fun i hi=>?_,fun i hi=>hc i (List.mem_append_right _ hi)⟩;have:=hok.1 i hi;rw [Bool.and_eq_true] at this ⊢;exact ⟨hc i (List.mem_append_left _ hi),this.2⟩
        .cases he
 obtain ⟨w',Vj,ρ1,Z1,q1,q2,q3⟩:=Zdu hC hex {base:=h.next,lo:=h.next,ok:=reach h 4 (Zy.flatMap (refs 3))++args.flatMap Yl} 0 f args h _ key ρ Z vh X5 H ⟨Nat.le_refl _,Nat.le_refl _⟩ ha;rw [hw] at q1;cases q1;obtain ⟨x,hx⟩:=hx
 suffices hcn:can {base:=h.next,lo:=h.next,ok:=reach h 4 (Zy.flatMap (refs 3))++args.flatMap Yl} u=false from ⟨q3.vkeep u x hx hcn,q3.keep u hcn⟩
 have hlt:=H.lt u x hx;unfold can;rw [Bool.or_eq_false_iff];constructor
 .rw [<- Bool.not_eq_true,Nat.ble_eq];show ¬ h.next<=u;omega
 .rw [<- Bool.not_eq_true];intro hh;obtain ⟨i,hi,hb⟩:=List.any_eq_true.1 hh;rw [Nat.beq_eq] at hb;subst hb;exact hu hi
def Zxv (C:Ctx):Prop:=∀ (K:Loc) (n:Nat) (pcf:CF) (pyf:YF) (cf yf:Nat->List Value->VH->Option (Value×VH)),Zg4 C K n pcf cf->YfSim C K n pyf yf->Zg3 C pcf cf->Zda C pcf cf->Qu cf->Qu yf->∀ (ops:Array Oper) (Y1:Yo) (Yt:SL) (h:PH) (vh:VH) (ρ:Nat->Nat) (Z:Wr) (q:Yo×PH),HP C ρ Z vh h ->
 SR C ρ (Zn h) Z Y1 Yt->KOk K n h.next->(∀ o∈ops.toList,∀ d,o.dst=some d->d < n)->Zpc ops=true->Za2 C pcf pyf K ops Y1 h=some q->∃ vsl' vh' ρ' Z',Zgv C cf yf ops Yt vh=some (vsl',vh')/\SR C ρ' (Zn q.2) Z' q.1 vsl'/\St C K ρ Z h vh ρ' Z' q.2 vh'
theorem Z4o (hC:COkP C)(hD:Zxv C):∀ n Xg,Zte C (fun K=>Pure.exec C n K Xg) (Virt.exec C n Xg):=by
 intro n
 induction n with
 | zero=>intro Xg K m code Y1 h x Zq6 h' he;simp [Pure.exec] at he
 | succ n ih=>
   intro Xg K m code Y1 h x Zq6 h' he Vl ρ Z vh Yt H hK S;replace he:Pure.exec C (n+1) K Xg code Y1 h=some (x,Zq6,h'):=he;have hcf:=Zdu hC (ih true) K m;have hyf:=Ztn (ih false) K m;have hi:=ih Xg;cases code with
   | skip=>rw [Pure.exec] at he;cases he;exact ⟨Yt,vh,ρ,Z,by rw [Virt.exec],S,St.refl H⟩
   | exit id=>rw [Pure.exec] at he;cases he;exact ⟨Yt,vh,ρ,Z,by rw [Virt.exec],S,St.refl H⟩
   | ret=>rw [Pure.exec] at he;cases he;exact ⟨Yt,vh,ρ,Z,by rw [Virt.exec],S,St.refl H⟩
   | region id ops draw=>
     rw [Pure.exec] at he
     try dsimp only at he
     rw [Option.map_eq_some_iff] at he;obtain ⟨⟨a,b⟩,hx,e⟩:=he;simp only [Prod.mk.injEq] at e;obtain ⟨rfl,rfl,rfl⟩:=e
     have hd:∀ o∈ops.toList,∀ d,o.dst=some d->d < m:=fun o ho d hd=>by
      have:=List.all_eq_true.1 (by simp only [Vo,Bool.and_eq_true] at Vl;exact Vl.1) o ho;simp only [hd] at this;exact Nat.blt_eq ▸ this
     rw [Virt.exec]
     try dsimp only
     cases draw with
     | true=>
       simp only [if_true] at hx ⊢;obtain ⟨vsl',vh',ρ',Z',a1,a2,a3⟩:=hD K m _ _ _ _ hcf hyf (Z1x hC (ih true)) (Zx2 hC (ih true)) (Va.callF (Va.exec n true)) (Va.yieldF (Va.exec n false)) ops Y1 Yt h vh ρ Z _ H S hK hd (by simp only [Vo,Bool.and_eq_true,Bool.not_true,Bool.false_or] at Vl;exact Vl.2) hx;exact ⟨vsl',vh',ρ',Z',by rw [a1];rfl,a2,a3⟩
     | false=>
       simp only [Bool.false_eq_true,if_false] at hx ⊢;obtain ⟨vsl',vh',ρ',Z',a1,a2,a3⟩:=Z12 hcf hyf ops.toList H S hK hd hx;exact ⟨vsl',vh',ρ',Z',by rw [a1];rfl,a2,a3⟩
   | seq a b=>
     simp only [Vo,Bool.and_eq_true] at Vl;rw [Pure.exec] at he
     try dsimp only at he
     rw [Virt.exec]
     try dsimp only
     split at he
     .rename_i Re h1 hx;obtain ⟨Zdw,vh1,ρ1,Z1,a1,a2,a3⟩:=hi _ _ _ _ _ _ _ _ hx Vl.1 ρ Z vh Yt H hK S;rw [a1]
      try dsimp only
      obtain ⟨Z63,Vj,ρ2,Z2,b1,b2,b3⟩:=hi _ _ _ _ _ _ _ _ he Vl.2 ρ1 Z1 vh1 Zdw a3.hp ⟨hK.1,Nat.le_trans hK.2 a3.next⟩ a2;exact ⟨Z63,Vj,ρ2,Z2,b1,b2,a3.trans H b3⟩
     .rename_i Ys;obtain ⟨Zdw,vh1,ρ1,Z1,a1,a2,a3⟩:=hi _ _ _ _ _ _ _ _ he Vl.1 ρ Z vh Yt H hK S;rw [a1];cases x with
      | normal=>exact absurd he (Ys _ _)
      | exit id=>exact ⟨Zdw,vh1,ρ1,Z1,rfl,a2,a3⟩
      | ret=>exact ⟨Zdw,vh1,ρ1,Z1,rfl,a2,a3⟩
   | cond c a b=>
     simp only [Vo,Bool.and_eq_true] at Vl;rw [Pure.exec] at he
     try dsimp only at he
     rw [Virt.exec]
     try dsimp only
     split at he
     .rename_i hc;obtain ⟨w,h1,h2⟩:=Zl S hc;rw [h1,h2.bool_inv];exact hi _ _ _ _ _ _ _ _ he Vl.1 ρ Z vh Yt H hK S
     .rename_i hc;obtain ⟨w,h1,h2⟩:=Zl S hc;rw [h1,h2.bool_inv];exact hi _ _ _ _ _ _ _ _ he Vl.2 ρ Z vh Yt H hK S
     .cases he
   | block id b=>
     rw [Pure.exec] at he
     try dsimp only at he
     rw [Virt.exec]
     try dsimp only
     split at he
     .rename_i id' Re h1 hx;obtain ⟨Zdw,vh1,ρ1,Z1,a1,a2,a3⟩:=hi _ _ _ _ _ _ _ _ hx Vl ρ Z vh Yt H hK S;rw [a1]
      try dsimp only
      split at he
      .rename_i e;cases he;exact ⟨Zdw,vh1,ρ1,Z1,by rw [if_pos e],a2,a3⟩
      .rename_i e;cases he;exact ⟨Zdw,vh1,ρ1,Z1,by rw [if_neg e],a2,a3⟩
     .rename_i Ys;obtain ⟨Zdw,vh1,ρ1,Z1,a1,a2,a3⟩:=hi _ _ _ _ _ _ _ _ he Vl ρ Z vh Yt H hK S;rw [a1];cases x with
      | exit id=>exact absurd he (Ys _ _ _)
      | normal=>exact ⟨Zdw,vh1,ρ1,Z1,rfl,a2,a3⟩
      | ret=>exact ⟨Zdw,vh1,ρ1,Z1,rfl,a2,a3⟩
   | loop b=>
     rw [Pure.exec] at he
     try dsimp only at he
     rw [Virt.exec]
     try dsimp only
     split at he
     .rename_i Re h1 hx;obtain ⟨Zdw,vh1,ρ1,Z1,a1,a2,a3⟩:=hi _ _ _ _ _ _ _ _ hx Vl ρ Z vh Yt H hK S;rw [a1]
      try dsimp only
      obtain ⟨Z63,Vj,ρ2,Z2,b1,b2,b3⟩:=hi _ _ _ _ _ _ _ _ he Vl ρ1 Z1 vh1 _ a3.hp ⟨hK.1,Nat.le_trans hK.2 a3.next⟩ (S.keep a2 (Zzo _ _ _ _ _ _ _ _ a1));exact ⟨Z63,Vj,ρ2,Z2,b1,b2,a3.trans H b3⟩
     .rename_i Ys;obtain ⟨Zdw,vh1,ρ1,Z1,a1,a2,a3⟩:=hi _ _ _ _ _ _ _ _ he Vl ρ Z vh Yt H hK S;rw [a1];cases x with
      | normal=>exact absurd he (Ys _ _)
      | exit id=>exact ⟨Zdw,vh1,ρ1,Z1,rfl,a2,a3⟩
      | ret=>exact ⟨Zdw,vh1,ρ1,Z1,rfl,a2,a3⟩
   | rangeFunc f ps as bd=>
     simp only [Vo,Bool.and_eq_true] at Vl;rw [Pure.exec] at he
     try dsimp only at he
     rw [Virt.exec]
     try dsimp only
     split at he
     .rename_i hr;rw [if_pos hr];split at he
      .rename_i g first captured hf
       obtain ⟨w,Wl,Wu⟩:=Zl S hf;cases Wu with
       | d h=>cases h
       | fn g first captured a' c' r1 r2=>
         rw [Wl]
         try dsimp only
         split at he
         .rename_i Y6;split at he
          .rename_i u h2 Zij;have H1:HP C ρ Z vh {h with next:=h.next+1}:=H.sub rfl (fun i x hx=>Nat.lt_succ_of_lt (H.lt i x hx)) rfl (Nat.le_refl _) H.wr
           have Zif:h.get h.next=none:=by
            cases e:h.get h.next with
            | none=>rfl
            | some y=>exact absurd (H.lt _ _ e) (Nat.lt_irrefl _)
           have hKl:K.lo<=h.next:=by have:=hK.1;have:=hK.2;omega
           have Zt:can K h.next=true:=by unfold can;rw [Bool.or_eq_true,Nat.ble_eq];exact .inl hKl
           have Zabw:∀ q,q≠vh.next->(vh.new (.loop Yt ps.toList as bd)).get q=vh.get q:=fun q hq=>by simp [VH.new,T6 hq]
           have stL:=HP.change (K:=K) (vh':=vh.new (.loop Yt ps.toList as bd)) (ver':=0) (p:=vh.next) (o:=.loop K Y1 ps.toList as bd) H1 (.inl rfl) (i:=h.next) (Nat.lt_succ_self _) Zt (fun Zg o' hh=>by
             have hh':h.get h.next=some (Zg,o'):=hh;rw [Zif] at hh';cases hh') (by simp [VH.new]) (.inr (Nat.le_refl _)) (by simp [VH.new]) (Nat.le_refl _) (fun hlt=>by omega)
            (fun q hq _=>Zabw q hq) (fun y hy=>by
              have hy':h.get h.next=some y:=hy
              rw [Zif] at hy';cases hy') (Rl H) (fun q y hq=>by
               by_cases e:q=vh.next
               .subst e;simp [VH.new]
               .rw [Zabw q e] at hq;have:=H.vlt _ _ hq;simp only [VH.new];omega) (fun ρ' vf' _ _ hE=>.loop K m Y1 Yt ps.toList as bd (Rl H) (by simp [VH.new]) (S.mono hE (Wr.le.refl _)) hK.1 hK.2 Vl.1 Vl.2)
           have Zx4:St C K ρ Z h vh (fun j=>if j=h.next then vh.next else ρ j) Z ({h.put h.next 0 (.loop K Y1 ps.toList as bd) with next:=h.next+1}:PH) (vh.new (.loop Yt ps.toList as bd)):=
            ⟨stL.hp,stL.ext,stL.sig,Nat.le_succ _,stL.vnext,stL.wr,fun i hi=>stL.keep i hi,fun i Zg o T8 ho=>stL.same i Zg o T8 ho,fun i x hx=>stL.plc i x hx,fun i x hx hc=>stL.vkeep i x hx hc,fun q hq hn hi=>stL.vnone q hq hn hi,fun b h1 h2 h3=>stL.low b h1 h2 h3⟩
           have hyv:R C (fun j=>if j=h.next then vh.next else ρ j) (Zn ({h.put h.next 0 (.loop K Y1 ps.toList as bd) with next:=h.next+1}:PH)) Z (.yield h.next 0) (.func (.yield vh.next) #[] #[]):=.yield h.next 0 0 vh.next (by simp [Zn,PH.put]) (Nat.le_refl _) (fun _=>by simp);obtain ⟨v,Vj,ρ2,Z2,q1,q2,q3⟩:=hcf g _ _ _ Zij _ _ _ (a'.toList++[.func (.yield vh.next) #[] #[]]++c'.toList) Zx4.hp ⟨hK.1,Nat.le_succ_of_le hK.2⟩ (((r1.mono Zx4.ext Zx4.sig).append (.cons hyv .nil)).append (r2.mono Zx4.ext Zx4.sig));have q1':Virt.callF C (Virt.exec C n true) g (a'.toList++[Value.func (Fn.yield vh.next) #[] #[]]++c'.toList) (vh.new (.loop Yt ps.toList as bd))=some (v,Vj):=q1;rw [q1']
           try dsimp only
           split at he
           .rename_i K1 Re ps1 as1 bd1 hl;cases he;have st2:=Zx4.trans H q3
            have Zd2:ρ2 h.next=vh.next:=by
             obtain ⟨c1,k1,_,k3⟩:=q3.ext h.next 0 (by simp [Zn,PH.put]);rw [Zr.2 ⟨_,hl⟩] at k1;cases k1;have:=k3 rfl;simpa using this
            cases q3.hp.obj _ _ _ hl with
            | loop K1 n1 Re Zdw ps1 as1 bd1 z1 g1 s1 k1 b1 d1 d2=>
              rw [Zd2] at g1 z1;rw [g1]
              try dsimp only
              have st3:=Zhc (K:=K) (ob:=.gone) (vo:=none) q3.hp hl hKl (by rw [Zd2];exact z1) fun ρ' vf' _=>.gone (q3.hp.rho_lt hl) (by rw [Zd2];exact z1)
              rw [Zj7,Zd2] at st3;have st4:=st2.trans H st3;exact ⟨Yt,_,ρ2,Z2,rfl,S.mono st4.ext st4.sig,st4⟩
           .cases he
          .cases he
         .cases he
      .cases he
     .cases he
   | _=>simp [Pure.exec] at he
end
end Go.Pure
end
section
namespace Go.Pure
open Go Go.Virt
section
variable {C:Ctx}{cf yf:Nat->List Value->VH->Option (Value×VH)}{pcf:CF}{pyf:YF}{K K':Loc}{n:Nat}{all:List Oper}{Y1:Yo}{Yt:SL}{h:PH}{vh:VH}{ρ:Nat->Nat}{Z:Wr}{o:Oper}{r:PV×PH}
theorem Z66 {t:TypeId}{a x:Operand}{m:List Nat×Nat}(ho:o.op=.store t a x)(ht:Xn C K Y1 h o=some m)(hc:∀ i∈m.1,can K' i=true)(he:Zk C pcf pyf all K Y1 h o=some r):Zk C pcf pyf all K' Y1 h o=some r:=by
 simp only [Xn,ho] at ht;simp only [Zk,ho] at he ⊢;split at he
 .rename_i ty i Zg off v h1 h2 h3;rw [h2,h3] at ht;simp only [Option.some.injEq] at ht;subst ht;split at he
  .rename_i hh;rw [if_pos ⟨hh.1,hh.2.1,hc i (by simp)⟩];exact he
  .cases he
 .rename_i ty i Zg g ix off v0 h1 h2 h3;rw [h2,h3] at ht;simp only [Option.some.injEq] at ht;subst ht;split at he
  .cases he
  .rename_i v h4;split at he
   .rename_i hh;rw [if_pos ⟨hh.1,hh.2.1,hh.2.2.1,hc i (by simp),List.all_eq_true.2 fun j hj=>hc j (by simp [hj])⟩];exact he
   .cases he
 .cases he
theorem Zn4 {d g:Nat}{ty:Ty}{k:Nat}{ys:List PV}{s:PV}(hb:K'.base=K.base+d)(hc:∀ i Zg g' off len,s=.own i Zg g' off len->can K' i=true){q:PV×PH}(he:Xx K h d g ty k ys s=some q):Xx K' h 0 g ty k ys s=some q:=by
 unfold Xx at he ⊢;split at he
 .rw [hb,Nat.add_zero];exact he
 .rename_i i Zg g' off len
  try dsimp only
  split at he
  .rename_i hh;rw [if_pos ⟨hh.1,hh.2.1,hh.2.2.1,hh.2.2.2.1,hc _ _ _ _ _ rfl⟩];exact he
  .cases he
 .cases he
theorem Z5e {c:Call}{d:Nat}{m:List Nat×Nat}(ho:o.op=.call c)(Wb:c.callee=.builtin .append)(hd:o.dst=some d)(ht:Xn C K Y1 h o=some m)(hb:K'.base=K.base+d)(hc:∀ i∈m.1,can K' i=true){pcf':CF}{pyf':YF}(he:Zk C pcf pyf all K Y1 h o=some r):
  Zk C pcf' pyf' all K' Y1 h {o with dst:=some 0}=some r:=by
 simp only [Xn,ho,Wb,hd] at ht;simp only [Zk,ho,Wb,hd] at he ⊢;cases hl:c.args.toList with
 | nil=>rw [hl] at ht;cases ht
 | cons x0 rest=>
   rw [hl] at ht he;simp only [Wn] at he ⊢
   try dsimp only at ht
   cases h0:Yr Y1 x0 with
   | none=>rw [h0] at ht;cases ht
   | some s=>
     rw [h0] at ht he
     have hs:∀ i Zg g' off len,s=.own i Zg g' off len->can K' i=true:=by
      rintro i Zg g' off len rfl;simp only [Option.some.injEq] at ht;subst ht;exact hc i (by simp)
     cases hr:Wn Y1 rest with
     | none=>rw [hr] at he;cases he
     | some vs=>
       rw [hr] at he;cases vs with
       | nil=>cases he
       | cons x tail=>
         cases tail with
         | cons _ _=>cases he
         | nil=>
           dsimp only at he ⊢;split at he
           .rename_i ts tx dd e1 e2 e3;cases e3;rw [e1,e2];dsimp only;split at he
            .rename_i e hk
             try rw [hk]
             try dsimp only
             split at he
             .rename_i te Vh
              try rw [Vh]
              try dsimp only
              split at he
              .rename_i k hki
               try rw [hki]
               try dsimp only
               split at he
               .try dsimp only
                rw [hb,Nat.add_zero];exact he
               .cases he
              .rename_i hnk;split at he
               .split at he
                .rename_i hh
                 try rw [if_pos hh]
                 exact Zn4 hb hs he
                .cases he
               .split at he
                .rename_i ys hys
                 try rw [hys]
                 exact Zn4 hb hs he
                .cases he
             .cases he
            .cases he
           .cases he
theorem Zdv {m:List Nat×Nat}{u b:Nat}(hu:X4 (some m) u=true)(hb:b=m.2):can {base:=b,lo:=b,ok:=m.1} u=false:=by
 unfold X4 at hu;simp only [Bool.and_eq_true,Bool.not_eq_true',Nat.blt_eq] at hu;unfold can;rw [Bool.or_eq_false_iff];constructor
 .rw [<- Bool.not_eq_true,Nat.ble_eq];show ¬ b<=u;omega
 .rw [<- Bool.not_eq_true];intro hh;obtain ⟨i,hi,hbq⟩:=List.any_eq_true.1 hh;rw [Nat.beq_eq] at hbq;subst hbq;have:=hu.1;rw [<- Bool.not_eq_true] at this;exact this (List.any_eq_true.2 ⟨u,hi,Nat.beq_refl u⟩)
theorem Zw8 {m:List Nat}{b i:Nat}(hi:i∈m):can {base:=b,lo:=b,ok:=m} i=true:=by
 unfold can;rw [Bool.or_eq_true];exact .inr (List.any_eq_true.2 ⟨i,hi,Nat.beq_refl i⟩)
theorem Zjs (hts:Zda C pcf cf)(H:HP C ρ Z vh h)(S:SR C ρ (Zn h) Z Y1 Yt)(hn:K.base+n<=h.next)(hd:∀ d,o.dst=some d->d < n)(he:Zk C pcf pyf all K Y1 h o=some r){w:Value}{vh1:VH}(Xo:Y9 C cf yf Yt vh o=some (w,vh1))
  {u:Nat} (hu:X4 (Xn C K Y1 h o) u=true) (hx:∃ x,h.get u=some x):vh1.get (ρ u)=vh.get (ρ u)/\r.2.get u=h.get u:=by
 obtain ⟨x,hx⟩:=hx;cases ht:Xn C K Y1 h o with
 | none=>rw [ht] at hu;cases hu
 | some m=>
   rw [ht] at hu;cases ho:o.op with
   | store t a y=>
     have hm2:m.2=h.next:=by
      simp only [Xn,ho] at ht;split at ht
      .cases ht;rfl
      .cases ht;rfl
      .cases ht
     obtain ⟨v,vh',ρ',Z',q1,q2,q3⟩:=Zms (K:={base:=m.2,lo:=m.2,ok:=m.1}) (cf:=cf) (yf:=yf) H S ho (Z66 (K':={base:=m.2,lo:=m.2,ok:=m.1}) ho ht (fun i hi=>Zw8 hi) he);rw [Xo] at q1;cases q1;exact ⟨q3.vkeep u x hx (Zdv hu rfl),q3.keep u (Zdv hu rfl)⟩
   | call c=>
     cases Wb:c.callee with
     | builtin b=>
       cases b with
       | append=>
         cases hdd:o.dst with
         | none=>
           simp only [Xn,ho,Wb,hdd] at ht;split at ht
           .rename_i hh;cases hh
           .cases ht
         | some d=>
           have hm2:m.2=K.base+d:=by
            simp only [Xn,ho,Wb,hdd] at ht;split at ht
            .rename_i hh;cases hh;split at ht
             .cases ht;rfl
             .cases ht;rfl
             .cases ht
            .cases ht
           have hK1:m.2+1<=h.next:=by
            have h9:=hd d hdd;rw [hm2];exact Nat.le_trans (Nat.add_le_add_left (Nat.succ_le_of_lt h9) K.base) hn
           have hop':Y9 C cf yf Yt vh {o with dst:=some 0}=some (w,vh1):=Xo;have he':=Z5e (K':={base:=m.2,lo:=m.2,ok:=m.1}) (pcf':=fun _ _ _ _=>none) (pyf':=fun _ _ _ _ _=>none) ho Wb hdd ht hm2 (fun i hi=>Zw8 hi) he;obtain ⟨v,vh',ρ',Z',q1,q2,q3⟩:=Zsv (K:={base:=m.2,lo:=m.2,ok:=m.1}) (n:=1) (cf:=cf) (yf:=yf) (pcf:=fun _ _ _ _=>none) (pyf:=fun _ _ _ _ _=>none) (o:={o with dst:=some 0}) (fun _ _ _ _ hh=>by cases hh) (fun _ _ _ _ _ hh=>by cases hh) H S ⟨Nat.le_refl _,hK1⟩ (fun d' hd'=>by cases hd';exact Nat.zero_lt_one) ho he';rw [hop'] at q1;cases q1;exact ⟨q3.vkeep u x hx (Zdv hu rfl),q3.keep u (Zdv hu rfl)⟩
       | _=>simp only [Xn,ho,Wb] at ht;cases ht
     | invoke a b=>simp only [Xn,ho,Wb] at ht;cases ht
     | value f=>
       simp only [Xn,ho,Wb] at ht;split at ht
       .rename_i g first captured args hf Xq
        split at ht
        .cases ht
        .rename_i Y6;split at ht
         .rename_i Zy hm;cases ht;simp only [Zk,ho,Xq,Wb,hf] at he;obtain ⟨X5,Ra,Rx⟩:=Tj S Xq;obtain ⟨w0,Wl,Wu⟩:=Zl S hf;cases Wu with
          | d h=>cases h
          | fn g a c2 a' c' r1 r2=>
            simp only [Y9,ho,Uk,Ra,Wb,Wl] at Xo;refine hts K g _ h r.1 r.2 he (by simpa using Y6) Zy hm ρ Z vh _ H ((r1.append Rx).append r2) w vh1 Xo u ?_ ⟨x,hx⟩;intro hh;unfold X4 at hu;simp only [Bool.and_eq_true,Bool.not_eq_true'] at hu;have:=hu.1;rw [<- Bool.not_eq_true] at this;exact this (List.any_eq_true.2 ⟨u,hh,Nat.beq_refl u⟩)
         .cases ht
       .cases ht
   | _=>simp only [Xn,ho] at ht;cases ht
end
end Go.Pure
end
