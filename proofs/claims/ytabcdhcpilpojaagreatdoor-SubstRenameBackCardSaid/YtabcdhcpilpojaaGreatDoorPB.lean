/- Rows that are written no more; slices as plain lists. -/
import Derived.Test.YtabcdhcpilpojaaGreatDoorPF
import Derived.Test.YtabcdhcpilpojaaGreatDoorPA
import Derived.Test.YtabcdhcpilpojaaGreatDoorVB
set_option linter.unusedSimpArgs false
set_option linter.unusedVariables false
section
namespace Go.Pure
open Go Go.Virt
section
variable {C:Ctx} {Z Z':Wn} {ρ ρ':Nat->Nat} {vf vf':Nat->Option Nat} {h h':PH} {vh vh':VH} {K:Loc} {n:Nat} {Y0:Yn} {Yr:SL} {o:Oper} {x:PV} {all:List Oper}
theorem Tg:∀ (ids:List Nat) (h:PH),(h.freeze ids).next=h.next
 | [],h=>rfl
 | i::r,h=>by
   simp only [PH.freeze]
   split
   .rw [Tg r];rfl
   .exact Tg r h
theorem Y4:∀ (ids:List Nat) (h:PH) (j:Nat),(h.freeze ids).get j=(match h.get j with
  | some (Zg,.row g own xs)=>if j∈ids then some (Zg,.row g false xs) else some (Zg,.row g own xs)
  | o=>o)
 | [],h,j=>by
   simp only [PH.freeze,List.not_mem_nil,if_false]
   split<;>simp_all
 | i::r,h,j=>by
   simp only [PH.freeze]
   split
   .rename_i Zg g own xs hi
    rw [Y4 r]
    by_cases e:j=i
    .subst e
     simp only [PH.put,if_true,hi,List.mem_cons,true_or]
     split<;>rfl
    .simp only [PH.put,e,if_false,List.mem_cons,false_or]
   .rename_i Ys
    rw [Y4 r]
    by_cases e:j=i
    .subst e
     split
     .rename_i Zg g own xs hj
      exact absurd hj (Ys _ _ _ _)
     .rfl
    .simp only [List.mem_cons,e,false_or]
theorem Un (ids:List Nat) (h:PH):Zm (h.freeze ids)=Zm h:=by
 funext j
 unfold Zm
 rw [Y4]
 split
 .rename_i Zg g own xs hj
  rw [hj]
  split<;>rfl
 .rfl
structure Frz (C:Ctx) (bt:Bool) (ρ:Nat->Nat) (Z:Wn) (h:PH) (vh:VH) (ids:List Nat) (Z':Wn):Prop where
 hp:HP C ρ Z' vh (h.freeze ids)
 le:∀ Zr s,Z Zr=some s->Z' Zr=some s
 new:∀ Zr s,Z' Zr=some s->Z Zr=some s\/(Z Zr=none/\∃ i∈ids,∃ Zg g xs,h.get i=some (Zg,.row g true xs)/\Zr=ρ i/\s.tag=if bt then some g else none)
theorem Frz.sig {bt:Bool} {ids:List Nat} (f:Frz C bt ρ Z h vh ids Z'):Z.le Z':=f.le
theorem frz1 (bt:Bool) (H:HP C ρ Z vh h) {i Zg g:Nat} {own:Bool} {xs:List PV} (hi:h.get i=some (Zg,.row g own xs)):
  ∃ Z',HP C ρ Z' vh (h.put i Zg (.row g false xs))/\(∀ Zr s,Z Zr=some s->Z' Zr=some s)/\∀ Zr s,Z' Zr=some s->Z Zr=some s\/(Z Zr=none/\own=true/\Zr=ρ i/\s.tag=if bt then some g else none):=by
 have ho:=H.obj _ _ _ hi
 have hvf:Zm (h.put i Zg (.row g false xs))=Zm h:=by
  funext j
  unfold Zm PH.put
  by_cases e:j=i
  .subst e;simp [hi]
  .simp [e]
 cases own with
 | false=>
   have:h.put i Zg (.row g false xs)=h:=by
    unfold PH.put
    have:(fun j=>if j=i then some (Zg,PO.row g false xs) else h.get j)=h.get:=by
     funext j
     by_cases e:j=i
     .subst e;simp [hi]
     .simp [e]
    rw [this]
   rw [this]
   exact ⟨Z,H,fun _ _ h=>h,fun _ _ h=>.inl h⟩
 | true=>
   cases ho with
   | row g xs vcs ty ht hz hg hr hl=>
     let Z1:Wn:=fun q=>if q=ρ i then some ⟨vcs,ty.size,true,if bt then some g else none⟩ else Z q
     have hle:∀ Zr s,Z Zr=some s->Z1 Zr=some s:=fun Zr s hs=>by
      have:Zr≠ρ i:=fun e=>by rw [e,hz] at hs;cases hs
      simp [Z1,this,hs]
     have Zxw:Z.le Z1:=hle
     refine ⟨Z1,⟨?_,?_,H.vlt,?_,?_,H.wr⟩,hle,?_⟩
     .intro j x hj
      by_cases e:j=i
      .subst e;exact H.lt _ _ hi
      .simp [PH.put,e] at hj;exact H.lt _ _ hj
     .intro j k x y hj hk e
      by_cases e1:j=i<;>by_cases e2:k=i
      .rw [e1,e2]
      .subst e1;simp [PH.put,e2] at hk;exact H.inj _ _ _ _ hi hk e
      .subst e2;simp [PH.put,e1] at hj;exact H.inj _ _ _ _ hj hi e
      .simp [PH.put,e1,e2] at hj hk;exact H.inj _ _ _ _ hj hk e
     .intro Zr s hs
      by_cases e:Zr=ρ i
      .simp only [Z1,e,if_true,Option.some.injEq] at hs
       subst hs
       rw [e];exact hg
      .simp only [Z1,e,if_false] at hs
       exact H.sig _ _ hs
     .intro j w ob hj
      rw [hvf]
      by_cases e:j=i
      .subst e
       simp only [PH.put,if_true,Option.some.injEq,Prod.mk.injEq] at hj
       obtain ⟨rfl,rfl⟩:=hj
       exact .frozen g xs ⟨vcs,ty.size,true,if bt then some g else none⟩ ty ht (by simp [Z1]) rfl (by cases bt<;>simp) (hr.mono Zxw) hl
      .simp only [PH.put,e,if_false] at hj
       have Ys:ρ j≠ρ i:=fun h2=>e (H.inj _ _ _ _ hj hi h2)
       exact (H.obj _ _ _ hj).mono (Ext.refl _ _) Zxw (fun hq=>by simp [Z1,Ys,hq]) (fun _=>rfl) (Nat.le_refl _) (Nat.le_refl _)
     .intro Zr s hs
      by_cases e:Zr=ρ i
      .simp only [Z1,e,if_true,Option.some.injEq] at hs
       subst hs
       rw [e]
       exact .inr ⟨hz,rfl,rfl,rfl⟩
      .simp only [Z1,e,if_false] at hs
       exact .inl hs
theorem frz (bt:Bool):∀ (ids:List Nat) {Z:Wn} {h:PH},HP C ρ Z vh h->∃ Z',Frz C bt ρ Z h vh ids Z'
 | [],Z,h,H=>⟨Z,H,fun _ _ h=>h,fun _ _ h=>.inl h⟩
 | i::r,Z,h,H=>by
   by_cases hi:∃ Zg g own xs,h.get i=some (Zg,.row g own xs)
   .obtain ⟨Zg,g,own,xs,hi⟩:=hi
    obtain ⟨Z1,H1,l1,n1⟩:=frz1 bt H hi
    obtain ⟨Z2,f2⟩:=frz bt r H1
    refine ⟨Z2,by simp only [PH.freeze,hi];exact f2.hp,fun Zr s hs=>f2.le _ _ (l1 _ _ hs),fun Zr s hs=>?_⟩
    rcases f2.new _ _ hs with h1 | ⟨h1,j,hj,Zwx,g2,xs2,hg,e,ht⟩
    .rcases n1 _ _ h1 with h2 | ⟨h2,h3,h4,h5⟩
     .exact .inl h2
     .subst h3
      exact .inr ⟨h2,i,by simp,Zg,g,xs,hi,h4,h5⟩
    .have hji:j≠i:=fun e=>by subst e;simp [PH.put] at hg
     simp only [PH.put,hji,if_false] at hg
     refine .inr ⟨?_,j,by simp [hj],Zwx,g2,xs2,hg,e,ht⟩
     cases hq:Z Zr with
     | none=>rfl
     | some s'=>rw [l1 _ _ hq] at h1;cases h1
   .obtain ⟨Z2,f2⟩:=frz bt r H
    have e:h.freeze (i::r)=h.freeze r:=by
     simp only [PH.freeze]
     split
     .rename_i Zg g own xs hq;exact absurd ⟨_,_,_,_,hq⟩ hi
     .rfl
    refine ⟨Z2,by rw [e];exact f2.hp,f2.le,fun Zr s hs=>?_⟩
    rcases f2.new _ _ hs with h1 | ⟨h1,j,hj,q⟩
    .exact .inl h1
    .exact .inr ⟨h1,j,by simp [hj],q⟩
theorem St.frz {ids:List Nat} (H:HP C ρ Z vh h) (f:Frz C false ρ Z h vh ids Z') (hc:ids.all (can K)=true):St C K ρ Z h vh ρ Z' (h.freeze ids) vh where
 hp:=f.hp
 ext:=by rw [Un];exact Ext.refl _ _
 sig:=f.sig
 next:=by rw [Tg];exact Nat.le_refl _
 vnext:=Nat.le_refl _
 wr:=Nat.le_refl _
 keep:=fun i hi=>by
  rw [Y4]
  split
  .rename_i Zg g own xs hj
   rw [if_neg,hj]
   intro hm
   rw [List.all_eq_true.1 hc i hm] at hi
   cases hi
  .rfl
 same:=fun i Zg o _ ho=>by
  rw [Y4,ho]
  cases o with
  | row g own xs=>
    by_cases hm:i∈ids
    .exact .inr (.inl ⟨g,own,xs,rfl,by simp [hm]⟩)
    .exact .inl (by simp [hm])
  | _=>exact .inl rfl
 plc:=fun i x hx=>by
  rw [Y4] at hx
  refine .inl ⟨?_,rfl⟩
  cases hq:h.get i with
  | none=>rw [hq] at hx;cases hx
  | some y=>exact ⟨y,rfl⟩
 vkeep:=fun _ _ _ _=>rfl
 vnone:=fun _ _ h _=>h
 low:=fun _ _ h _=>h
theorem Sl {i Zg g:Nat} {r:Bool×List PV}:h.row i Zg g=some r↔h.get i=some (Zg,.row g r.1 r.2):=by
 unfold PH.row
 constructor
 .intro hh
  split at hh
  .rename_i v g' own xs hi
   split at hh
   .rename_i hc
    cases hh
    rw [hi,hc.1,hc.2]
   .cases hh
  .cases hh
 .intro hh
  rw [hh]
  simp
theorem Z52 (H:HP C ρ Z vh h) {i Zg g off len:Nat} {xs:List PV} {v:Value} (hi:h.get i=some (Zg,.row g false xs)) (hl:off+len<=xs.length) (hr:R C ρ (Zm h) Z (.own i Zg g off len) v):RD C Z (.lst g ((xs.drop off).take len)) v:=by
 cases hr with
 | d h=>cases h
 | own i Zg g off len c a cap ty hc hv hp ht ha=>
   rw [Zq.2 ⟨_,hi⟩] at hc
   cases hc
   cases ha rfl
   cases H.obj _ _ _ hi with
   | frozen g xs s ty2 ht2 hs he Z10 hrr Tj=>
     rw [ht] at ht2
     cases ht2
     have hlen:((xs.drop off).take len).length=len:=by simp;omega
     have Te:=Ud Tj
     have h1:Xh (xs.flatMap cellsOf) (off*ty.size) (len*ty.size)=some (((xs.drop off).take len).flatMap cellsOf):=by
      unfold Xh
      rw [if_pos (by rw [Te,<- Nat.add_mul];exact Nat.mul_le_mul_right _ hl),Zar Tj,Zdd fun x hx=>Tj x (List.drop_subset _ _ hx)]
     obtain ⟨r',h2,h3⟩:=hrr.read h1
     have:=RD.lst g ((xs.drop off).take len) (ρ i) (off*ty.size) cap s r' ty hs he Z10 ht (by rw [hlen];exact h2) h3 (fun x hx=>Tj x (List.drop_subset _ _ (List.take_subset _ _ hx)))
     rw [hlen] at this
     exact this
theorem Zq5 {h3:PH} (H3:HP C ρ Z vh h3) (hf:∀ i Zg g own xs,i∈U1 x->h.get i=some (Zg,.row g own xs)->h3.get i=some (Zg,.row g false xs)) {v:Value} {y:PV} (hi:Rl h x=some y) (hr:R C ρ (Zm h3) Z x v):R C ρ (Zm h3) Z y v:=by
 cases x with
 | own i Zg g off len=>
   simp only [Rl,Option.map_eq_some_iff] at hi
   obtain ⟨ys,hys,rfl⟩:=hi
   simp only [PH.elems,if_true] at hys
   split at hys
   .rename_i own xs V1
    split at hys
    .rename_i hl
     cases hys
     have:=Sl.1 V1
     exact .d (Z52 H3 (hf _ _ _ _ _ (by simp [U1]) this) hl hr)
    .cases hys
   .cases hys
 | _=>simp only [Rl,Option.some.injEq] at hi;subst hi;exact hr
theorem Zqx {f:PV->Option PV} {P:PV->Prop} {cs ys:List PV} {vs:List Value} (hf:∀ x∈cs,∀ y v,f x=some y->R C ρ vf Z x v->R C ρ vf Z y v) (h:Yw f cs=some ys) (hr:Rs C ρ vf Z cs vs):Rs C ρ vf Z ys vs:=by
 induction cs generalizing ys vs with
 | nil=>simp only [Yw,Option.some.injEq] at h;subst h;exact hr
 | cons c cs ih=>
   simp only [Yw] at h
   split at h
   .rename_i y ys' hy hys
    cases h
    cases hr with | cons h1 r=>exact .cons (hf c (by simp) _ _ hy h1) (ih (fun x hx=>hf x (by simp [hx])) hys r)
   .cases h
theorem Z53 (hx:∀ cs,x≠.agg cs):Yi x=U1 x/\∀ h,Xo h x=Rl h x:=by
 cases x<;>first | exact ⟨rfl,fun _=>rfl⟩ | exact absurd rfl (hx _)
theorem Z54 (hx:∀ cs,x≠.tuple cs):ownT x=Yi x/\∀ h,inlT h x=Xo h x:=by
 cases x<;>first | exact ⟨rfl,fun _=>rfl⟩ | exact absurd rfl (hx _)
theorem Zf2 {h3:PH} (H3:HP C ρ Z vh h3) (hf:∀ i Zg g own xs,i∈Yi x->h.get i=some (Zg,.row g own xs)->h3.get i=some (Zg,.row g false xs)) {v:Value} {y:PV} (hi:Xo h x=some y) (hr:R C ρ (Zm h3) Z x v):R C ρ (Zm h3) Z y v:=by
 by_cases hx:∃ cs,x=.agg cs
 .obtain ⟨cs,rfl⟩:=hx
  simp only [Xo,Option.map_eq_some_iff] at hi
  obtain ⟨ys,hys,rfl⟩:=hi
  obtain ⟨cs',rfl,Ru⟩:=hr.agg_inv
  refine .agg _ _ (Zqx (P:=fun _=>True) (fun c hc y v hy hv=>Zq5 H3 (fun i Zg g own xs hm=>hf i Zg g own xs ?_) hy hv) hys Ru)
  simp only [Yi,List.mem_flatMap]
  exact ⟨c,hc,hm⟩
 .obtain ⟨e1,e2⟩:=Z53 (x:=x) fun cs e=>hx ⟨cs,e⟩
  rw [e2] at hi
  rw [e1] at hf
  exact Zq5 H3 hf hi hr
theorem Z1j {h3:PH} (H3:HP C ρ Z vh h3) (hf:∀ i Zg g own xs,i∈ownT x->h.get i=some (Zg,.row g own xs)->h3.get i=some (Zg,.row g false xs)) {v:Value} {y:PV} (hi:inlT h x=some y) (hr:R C ρ (Zm h3) Z x v):R C ρ (Zm h3) Z y v:=by
 by_cases hx:∃ cs,x=.tuple cs
 .obtain ⟨cs,rfl⟩:=hx
  simp only [inlT,Option.map_eq_some_iff] at hi
  obtain ⟨ys,hys,rfl⟩:=hi
  obtain ⟨cs',rfl,Ru⟩:=hr.tuple_inv
  refine .tuple _ _ (Zqx (P:=fun _=>True) (fun c hc y v hy hv=>Zf2 H3 (fun i Zg g own xs hm=>hf i Zg g own xs ?_) hy hv) hys Ru)
  simp only [ownT,List.mem_flatMap]
  exact ⟨c,hc,hm⟩
 .obtain ⟨e1,e2⟩:=Z54 (x:=x) fun cs e=>hx ⟨cs,e⟩
  rw [e2] at hi
  rw [e1] at hf
  exact Zf2 H3 hf hi hr
theorem Zix {ids:List Nat} {i Zg g:Nat} {own:Bool} {xs:List PV} (hm:i∈ids) (hi:h.get i=some (Zg,.row g own xs)):(h.freeze ids).get i=some (Zg,.row g false xs):=by
 rw [Y4,hi]
 simp [hm]
theorem Z0o (H:HP C ρ Z vh h) {g:Nat} {xs:List PV} {vcs:List Value} {ty:Ty} (ht:C.T g=some ty) (hr:RDs C Z (xs.flatMap cellsOf) vcs) (hl:∀ x∈xs,(cellsOf x).length=ty.size):
  ∃ Z',St C K ρ Z h vh ρ Z' h (vh.new (.row vcs ty.size true))/\RD C Z' (.lst g xs) (.slice (some ⟨vh.next,0,none⟩) xs.length xs.length)/\∀ q s,Z' q=some s->Z q=some s\/q=vh.next:=by
 have hzn:Z vh.next=none:=by
  cases e:Z vh.next with
  | none=>rfl
  | some s=>exact absurd (H.vlt _ _ (H.sig _ _ e)) (Nat.lt_irrefl _)
 have Zp:∀ q,q≠vh.next->(vh.new (.row vcs ty.size true)).get q=vh.get q:=fun q hq=>by simp [VH.new,Tu hq]
 let Z1:Wn:=fun q=>if q=vh.next then some ⟨vcs,ty.size,true,none⟩ else Z q
 have hle:∀ Zr s,Z Zr=some s->Z1 Zr=some s:=fun Zr s hs=>by
  have:Zr≠vh.next:=fun e=>by rw [e,hzn] at hs;cases hs
  simp [Z1,this,hs]
 have Zxw:Z.le Z1:=hle
 have hlt:∀ i x,h.get i=some x->ρ i≠vh.next:=fun i x hi=>by have:=H.rho_lt hi;omega
 refine ⟨Z1,⟨⟨H.lt,H.inj,?_,?_,?_,?_⟩,Ext.refl _ _,Zxw,Nat.le_refl _,by simp [VH.new],Nat.le_refl _,fun _ _=>rfl,fun _ _ _ _ h=>.inl h,fun i x hx=>.inl ⟨⟨x,hx⟩,rfl⟩,fun i x hx _=>Zp _ (hlt i x hx),fun q hq hn _=>by rw [Zp q (by omega)];exact hn,fun _ _ h2 _=>h2⟩,?_,?_⟩
 .intro q y hq
  by_cases e:q=vh.next
  .subst e;simp [VH.new]
  .rw [Zp q e] at hq
   have:=H.vlt _ _ hq
   simp only [VH.new]
   omega
 .intro q s hq
  by_cases e:q=vh.next
  .simp only [Z1,e,if_true,Option.some.injEq] at hq
   subst hq
   rw [e]
   simp [VH.new]
  .simp only [Z1,e,if_false] at hq
   rw [Zp q e]
   exact H.sig _ _ hq
 .intro i Zg ob hi
  exact (H.obj _ _ _ hi).mono (Ext.refl _ _) Zxw (fun hq=>by simp [Z1,hlt i _ hi,hq]) (fun _=>Zp _ (hlt i _ hi)) (Nat.le_refl _) (by simp [VH.new])
 .have:=H.wr
  simp only [VH.new]
  omega
 .refine .lst g xs vh.next 0 xs.length ⟨vcs,ty.size,true,none⟩ vcs ty (by simp [Z1]) rfl (.inl rfl) ht ?_ (hr.mono Zxw) hl
  have Te:=Ud hl
  rw [Ul]
  have hvl:vcs.length=xs.length*ty.size:=by rw [hr.length];exact Te
  refine ⟨?_,.inl (by simp [hvl])⟩
  simp [<- hvl]
 .intro q s hq
  by_cases e:q=vh.next
  .exact .inr e
  .simp only [Z1,e,if_false] at hq
   exact .inl hq
end
end Go.Pure
end
section
namespace Go.Pure
open Go Go.Virt
section
variable {C:Ctx} {Z Z':Wn} {ρ ρ':Nat->Nat} {vf vf':Nat->Option Nat} {h h':PH} {vh vh':VH} {K:Loc} {n:Nat} {Y0:Yn} {Yr:SL} {o:Oper} {x:PV} {all:List Oper}
theorem Zjl (H:HP C ρ Z vh h) {i Zg g:Nat} {own:Bool} {xs:List PV} (hi:h.get i=some (Zg,.row g own xs)):
  ∃ ty vcs b,C.T g=some ty/\vh.get (ρ i)=some (.row vcs ty.size b)/\RDs C Z (xs.flatMap cellsOf) vcs/\(∀ x∈xs,(cellsOf x).length=ty.size)/\(own=true->b=true/\Z (ρ i)=none):=by
 cases H.obj _ _ _ hi with
 | row g xs vcs ty ht hz hg hr hl=>exact ⟨ty,vcs,true,ht,hg,hr,hl,fun _=>⟨rfl,hz⟩⟩
 | frozen g xs s ty ht hs he Z10 hr hl=>exact ⟨ty,s.cells,s.own,ht,by rw [H.sig _ _ hs,he],hr,hl,fun e=>by cases e⟩
theorem R.own_inv {i Zg g off len:Nat} {v:Value} {ob:PO} (hr:R C ρ (Zm h) Z (.own i Zg g off len) v) (hi:h.get i=some (Zg,ob)):∃ ty cap,C.T g=some ty/\v=.slice (some ⟨ρ i,off*ty.size,none⟩) len cap:=by
 cases hr with
 | d h=>cases h
 | own i Zg g off len c a cap ty hc hv hp ht ha=>
   rw [Zq.2 ⟨_,hi⟩] at hc
   cases hc
   cases ha rfl
   exact ⟨ty,cap,ht,rfl⟩
theorem R.ptr_inv {i Zg off:Nat} {v:Value} {ob:PO} (hr:R C ρ (Zm h) Z (.ptr i Zg off) v) (hi:h.get i=some (Zg,ob)):v=.pointer (some ⟨ρ i,off,none⟩):=by
 cases hr with
 | d h=>cases h
 | ptr i Zg off c a hc hv hp ha=>
   rw [Zq.2 ⟨_,hi⟩] at hc
   cases hc
   cases ha rfl
   rfl
theorem R.eptr_inv {i Zg g ix off:Nat} {v:Value} {ob:PO} (hr:R C ρ (Zm h) Z (.eptr i Zg g ix off) v) (hi:h.get i=some (Zg,ob)):∃ ty,C.T g=some ty/\v=.pointer (some ⟨ρ i,ix*ty.size+off,none⟩):=by
 cases hr with
 | d h=>cases h
 | eptr i Zg g ix off c a ty hc hv hp ht ha=>
   rw [Zq.2 ⟨_,hi⟩] at hc
   cases hc
   cases ha rfl
   exact ⟨ty,ht,rfl⟩
theorem R.map_inv {i Zg:Nat} {v:Value} {ob:PO} (hr:R C ρ (Zm h) Z (.map i Zg) v) (hi:h.get i=some (Zg,ob)):v=.map (some (ρ i)):=by
 cases hr with
 | d h=>cases h
 | map i Zg c w hc hv ha=>
   rw [Zq.2 ⟨_,hi⟩] at hc
   cases hc
   rw [ha rfl]
theorem Zm7 (H:HP C ρ Z vh h) {g:Nat} {ty:Ty} (hT:C.T g=some ty) {v:Value} (hr:R C ρ (Zm h) Z x v) {ys:List PV} (he:h.elems g x=some ys):
  Zq4 v=some ys.length/\∃ vcs,vh.elems ty.size v=some vcs/\RDs C Z (ys.flatMap cellsOf) vcs/\∀ y∈ys,(cellsOf y).length=ty.size:=by
 cases x with
 | nils=>
   simp only [PH.elems,Option.some.injEq] at he
   subst he
   rw [hr.nils_inv]
   exact ⟨rfl,[],rfl,.nil,fun y hy=>by simp at hy⟩
 | lst g' xs=>
   simp only [PH.elems] at he
   split at he
   .rename_i e
    cases he
    subst e
    cases hr.lst_inv with
    | lst g xs Zr o cap s vcs ty2 hs he2 ht Rq hrr hx hl=>
      rw [hT] at Rq
      cases Rq
      refine ⟨rfl,vcs,?_,hx,hl⟩
      simp only [VH.elems,VH.load,H.sig _ _ hs,Option.isSome_none,Bool.false_eq_true,if_false,hrr]
   .cases he
 | own i Zg g' off len=>
   simp only [PH.elems] at he
   split at he
   .rename_i e
    subst e
    split at he
    .rename_i own xs V1
     split at he
     .rename_i hl
      cases he
      have hi:=Sl.1 V1
      obtain ⟨ty1,cap,h1,rfl⟩:=hr.own_inv hi
      obtain ⟨ty2,vcs,b,h2,hg,hrr,Tj,_⟩:=Zjl H hi
      rw [hT] at h1 h2
      cases h1;cases h2
      have hlen:((xs.drop off).take len).length=len:=by simp;omega
      have Te:=Ud Tj
      have h1:Xh (xs.flatMap cellsOf) (off*ty.size) (len*ty.size)=some (((xs.drop off).take len).flatMap cellsOf):=by
       unfold Xh
       rw [if_pos (by rw [Te,<- Nat.add_mul];exact Nat.mul_le_mul_right _ hl),Zar Tj,Zdd fun x hx=>Tj x (List.drop_subset _ _ hx)]
      obtain ⟨r',h2,h3⟩:=hrr.read h1
      refine ⟨by rw [hlen];rfl,r',?_,h3,fun y hy=>Tj y (List.drop_subset _ _ (List.take_subset _ _ hy))⟩
      simp only [VH.elems,VH.load,hg,Option.isSome_none,Bool.false_eq_true,if_false,h2]
     .cases he
    .cases he
   .cases he
 | _=>simp [PH.elems] at he
theorem Zfl (H:HP C ρ Z vh h) {i Zg:Nat} {ob0 ob:PO} {vo:VO} (hi:h.get i=some (Zg,ob0)) (hc:can K i=true) (hz:Z (ρ i)=none)
  (ho:∀ ρ' vf',Ext ρ (Zm h) ρ' vf'->OR C ρ' vf' Z h.next ((vh.put (ρ i) (some vo)).note (ρ i)) i (ρ i) ob):
  St C K ρ Z h vh (fun j=>if j=i then ρ i else ρ j) Z (h.put i Zg ob) ((vh.put (ρ i) (some vo)).note (ρ i)):=by
 refine HP.change H (.inr ⟨rfl,_,hi⟩) (H.lt _ _ hi) hc (fun w o' hw=>?_) (H.rho_lt hi) (.inl ⟨_,hi,rfl⟩) (Nat.le_refl _) (Nat.min_le_left _ _) (fun _ _=>Nat.min_le_right _ _) (fun q hq _=>?_) (fun _ _=>.inl hz) hz (fun q y hq=>?_) (fun ρ' vf' _ _ he=>ho ρ' vf' he)
 .rw [hi] at hw
  cases hw
  exact ⟨Nat.le_refl _,fun _=>rfl⟩
 .simp [VH.note,VH.put,Tu hq]
 .by_cases e:q=ρ i
  .subst e;exact H.rho_lt hi
  .simp only [VH.note,VH.put,Tu e,cond_false] at hq
   exact H.vlt _ _ hq
theorem Znt {p:Nat} {vo:VO}:((vh.put p (some vo)).note p).get p=some vo:=by simp [VH.note,VH.put]
def Zuq (C:Ctx) (ρ:Nat->Nat) (Z:Wn) (h:PH) (vh:VH) (x:PV) (h':PH) (r:Option (Value×VH)):Prop:=h'=h/\∃ v,r=some (v,vh)/\R C ρ (Zm h) Z x v
theorem Zuq.up {x:PV} {h':PH} {r:Option (Value×VH)} (H:HP C ρ Z vh h) (s:Zuq C ρ Z h vh x h' r):Zez C K ρ Z h vh x h' r:=by
 obtain ⟨rfl,v,h1,h2⟩:=s
 exact ⟨v,vh,ρ,Z,h1,h2,St.refl H⟩
theorem Zjy {t:TypeId} {y:Operand} {cf yf:Nat->List Value->VH->Option (Value×VH)} {pcf:CF} {pyf:YF} (H:HP C ρ Z vh h) (S:SR C ρ (Zm h) Z Y0 Yr) (ho:o.op=.load t y) {r:PV×PH} (he:Zj C pcf pyf all K Y0 h o=some r):
  Zuq C ρ Z h vh r.1 r.2 (Y7 C cf yf Yr vh o):=by
 simp only [Zj,ho] at he
 split at he
 .rename_i ty i Zg off ht hy
  obtain ⟨w,Wi,Wr⟩:=Zl S hy
  split at he
  .rename_i v cs hi
   split at he
   .rename_i e
    subst e
    rw [Option.map_eq_some_iff] at he
    obtain ⟨z,hz,rfl⟩:=he
    rw [Option.bind_eq_some_iff] at hz
    obtain ⟨q,hq,hz⟩:=hz
    have hw:=Wr.ptr_inv hi
    subst hw
    cases H.obj _ _ _ hi with
    | cells cs vcs e2 hzz hg hr=>
      obtain ⟨q',h1,h2⟩:=hr.read hq
      obtain ⟨z',h3,h4⟩:=Zfb h2 hz
      refine ⟨rfl,z',?_,h4⟩
      simp only [Y7,ho,ht,Wi,Option.isSome_none,Bool.false_eq_true,if_false,VH.load,hg,h1,Option.bind_some,h3,Option.map_some]
   .cases he
  .cases he
 .rename_i ty i Zg g ix off ht hy
  obtain ⟨w,Wi,Wr⟩:=Zl S hy
  split at he
  .rename_i own xs V1
   have hi:=Sl.1 V1
   split at he
   .rename_i el hel
    rw [Option.map_eq_some_iff] at he
    obtain ⟨z,hz,rfl⟩:=he
    rw [Option.bind_eq_some_iff] at hz
    obtain ⟨q,hq,hz⟩:=hz
    obtain ⟨ty1,h1,rfl⟩:=Wr.eptr_inv hi
    obtain ⟨ty2,vcs,b,h2,hg,hrr,Tj,_⟩:=Zjl H hi
    rw [h1] at h2
    cases h2
    obtain ⟨hlt,hx⟩:=List.getElem?_eq_some_iff.1 hel
    have hxl:(cellsOf el).length=ty1.size:=Tj el (by rw [<- hx];exact List.getElem_mem hlt)
    have hle:ix*ty1.size+ty1.size<=xs.length*ty1.size:=by rw [<- Nat.succ_mul];exact Nat.mul_le_mul_right _ hlt
    have h3:Xh (xs.flatMap cellsOf) (ix*ty1.size) ty1.size=some (cellsOf el):=by
     unfold Xh
     rw [if_pos (by rw [Ud Tj];exact hle),Zkm Tj hel]
    obtain ⟨r1,h4,h5⟩:=hrr.read h3
    obtain ⟨r2,h6,h7⟩:=h5.read hq
    obtain ⟨z',h8,h9⟩:=Zfa h7 hz
    have Ztu:off+ty.size<=ty1.size:=by
     unfold Xh at hq
     split at hq
     .rename_i hq2;rw [hxl] at hq2;exact hq2
     .cases hq
    refine ⟨rfl,z',?_,.d h9⟩
    simp only [Y7,ho,ht,Wi,Option.isSome_none,Bool.false_eq_true,if_false,VH.load,hg,Sn h4 h6 Ztu,Option.bind_some,h8,Option.map_some]
   .cases he
  .cases he
 .cases he
theorem Zss {cs:List PV} {off:Nat} {vs cs2:List PV}:∀ {cs' Rb:List Value},RDs C Z cs cs'->RDs C Z vs Rb->Ye cs off vs=some cs2->∃ Zkr,Xz cs' off Rb=some Zkr/\RDs C Z cs2 Zkr:=by
 induction cs generalizing off vs cs2 with
 | nil=>
   intro cs' Rb h1 h2 h
   cases vs with
   | nil=>simp only [Ye,Option.some.injEq] at h;subst h;cases h2;cases h1;exact ⟨[],rfl,.nil⟩
   | cons v vs=>simp [Ye] at h
 | cons c cs ih=>
   intro cs' Rb h1 h2 h
   cases vs with
   | nil=>
     have:Ye (c::cs) off []=some (c::cs):=by cases off<;>rfl
     rw [this] at h;cases h;cases h2
     exact ⟨cs',by cases cs'<;>cases off<;>rfl,h1⟩
   | cons v vs=>
     cases h1 with
     | cons g r=>
       cases h2 with
       | cons g2 r2=>
         cases off with
         | zero=>
           simp only [Ye,Option.map_eq_some_iff] at h
           obtain ⟨w,hw,rfl⟩:=h
           obtain ⟨w',h3,h4⟩:=ih r r2 hw
           exact ⟨_,by simp only [Xz,h3,Option.map_some],.cons g2 h4⟩
         | succ i=>
           simp only [Ye,Option.map_eq_some_iff] at h
           obtain ⟨w,hw,rfl⟩:=h
           obtain ⟨w',h3,h4⟩:=ih r (.cons g2 r2) hw
           exact ⟨_,by simp only [Xz,h3,Option.map_some],.cons g h4⟩
theorem Zpm {xs:List PV} {sz:Nat} (hl:∀ x∈xs,(cellsOf x).length=sz) {i off:Nat} {x:PV} (hx:xs[i]?=some x) {vs ys:List PV} (hw:Ye (cellsOf x) off vs=some ys):
  Ye (xs.flatMap cellsOf) (i*sz+off) vs=some ((xs.take i).flatMap cellsOf++ys++(xs.drop (i+1)).flatMap cellsOf):=by
 have e1:∀ (l:List PV) (k:Nat),Ye l k []=some l:=fun l k=>by cases l<;>cases k<;>rfl
 have wapp:∀ (a b vs:List PV) (o:Nat),Ye (a++b) (a.length+o) vs=(Ye b o vs).map (a++·):=by
  intro a
  induction a with
  | nil=>intro b vs o;simp
  | cons c a ih2=>
    intro b vs o
    cases vs with
    | nil=>rw [e1,e1];rfl
    | cons v vs=>
      have:(c::a).length+o=(a.length+o)+1:=by simp;omega
      rw [this]
      simp only [List.cons_append,Ye,ih2,Option.map_map]
      rfl
 have Zagj:∀ (a b vs ys:List PV) (o:Nat),Ye a o vs=some ys->Ye (a++b) o vs=some (ys++b):=by
  intro a
  induction a with
  | nil=>
    intro b vs ys o h
    cases vs with
    | nil=>simp only [Ye,Option.some.injEq] at h;subst h;rw [e1]
    | cons v vs=>simp [Ye] at h
  | cons c a ih2=>
    intro b vs ys o h
    cases vs with
    | nil=>rw [e1] at h;cases h;rw [e1]
    | cons v vs=>
      cases o with
      | zero=>
        simp only [Ye,Option.map_eq_some_iff] at h
        obtain ⟨w,hw,rfl⟩:=h
        simp only [List.cons_append,Ye,ih2 b _ _ _ hw,Option.map_some]
      | succ o=>
        simp only [Ye,Option.map_eq_some_iff] at h
        obtain ⟨w,hw,rfl⟩:=h
        simp only [List.cons_append,Ye,ih2 b _ _ _ hw,Option.map_some]
 obtain ⟨hi,e⟩:=List.getElem?_eq_some_iff.1 hx
 have Zacd:xs.flatMap cellsOf=(xs.take i).flatMap cellsOf++(cellsOf x++(xs.drop (i+1)).flatMap cellsOf):=by
  conv=>lhs;rw [<- List.take_append_drop i xs]
  rw [List.flatMap_append,List.drop_eq_getElem_cons hi,e,List.flatMap_cons]
 have hlen:((xs.take i).flatMap cellsOf).length=i*sz:=by
  rw [Ud fun y hy=>hl y (List.take_subset _ _ hy),List.length_take,Nat.min_eq_left (Nat.le_of_lt hi)]
 rw [Zacd,<- hlen,wapp,Zagj _ _ _ _ _ hw]
 simp
theorem Zdx {x y:PV} {off:Nat} {vs:List PV} (h:setCells x off vs=some y) (hc:vs.all Wg=true):Ye (cellsOf x) off vs=some (cellsOf y):=by
 unfold setCells at h
 split at h
 .rw [Option.map_eq_some_iff] at h
  obtain ⟨q,hq,rfl⟩:=h
  exact hq
 .rename_i Ys
  split at h
  .rename_i v
   cases h
   have h1:cellsOf x=[x]:=by cases x<;>first | rfl | exact absurd rfl (Ys _)
   simp only [List.all_cons,List.all_nil,Bool.and_true] at hc
   have h2:cellsOf y=[y]:=by cases y<;>first | rfl | simp [Wg] at hc
   rw [h1,h2]
   rfl
  .cases h
theorem Zl1 {t:TypeId} {y z:Operand} {cf yf:Nat->List Value->VH->Option (Value×VH)} {pcf:CF} {pyf:YF} (H:HP C ρ Z vh h) (S:SR C ρ (Zm h) Z Y0 Yr) (ho:o.op=.store t y z) {r:PV×PH} (he:Zj C pcf pyf all K Y0 h o=some r):
  Zez C K ρ Z h vh r.1 r.2 (Y7 C cf yf Yr vh o):=by
 simp only [Zj,ho] at he
 split at he
 .rename_i ty i Zg off v ht hy hv
  obtain ⟨w,Wi,Wr⟩:=Zl S hy
  obtain ⟨u,hu1,hu2⟩:=Zl S hv
  split at he
  .rename_i hc
   split at he
   .rename_i ver' cs hi
    split at he
    .rename_i e
     subst e
     rw [Option.map_eq_some_iff] at he
     obtain ⟨cs2,hcs2,rfl⟩:=he
     have hw:=Wr.ptr_inv hi
     subst hw
     cases H.obj _ _ _ hi with
     | cells cs vcs e2 hzz hg hr=>
       obtain ⟨Zkr,h1,h2⟩:=Zea hr hu2.cells hcs2
       have Rr:u.cells.size=ty.size:=by rw [<- Array.length_toList,hu2.cells.length];exact hc.1
       have Xi:=Zfl (K:=K) (ob:=.cells cs2) (vo:=.row Zkr e2 true) H hi hc.2.2 hzz fun ρ' vf' he=>.cells cs2 Zkr e2 hzz Znt (h2.mono he (Wn.le.refl _))
       refine ⟨.tuple #[],_,_,_,?_,.tuple _ _ .nil,Xi⟩
       simp only [Y7,ho,ht,Wi,hu1,Option.isSome_none,Bool.false_eq_true,if_false,Rr,if_true,VH.store,hg]
       rw [if_pos (by rw [hu2.cells.cell hc.2.1];rfl),h1]
       rfl
    .cases he
   .cases he
  .cases he
 .rename_i ty i Zg g ix off v0 ht hy hv
  obtain ⟨w,Wi,Wr⟩:=Zl S hy
  obtain ⟨u,hu1,hu2⟩:=Zl S hv
  split at he
  .cases he
  .rename_i v Z2f
   split at he
   .rename_i hc
    split at he
    .rename_i xs V1
     have hi:=Sl.1 V1
     split at he
     .rename_i el hel
      rw [Option.map_eq_some_iff] at he
      obtain ⟨el2,hel2,rfl⟩:=he
      obtain ⟨Z1,f⟩:=frz (bt:=false) (Yi v0) H
      have Z11:=St.frz (K:=K) H f hc.2.2.2.2
      have hu3:R C ρ (Zm (h.freeze (Yi v0))) Z1 v u:=Zf2 f.hp (fun i Zg g own xs hm hg=>Zix hm hg) Z2f (hu2.mono Z11.ext Z11.sig)
      have hw3:=Wr.mono Z11.ext Z11.sig
      obtain ⟨ty1,h1,rfl⟩:=hw3.eptr_inv hi
      obtain ⟨ty2,vcs,b,h2,hg,hrr,Tj,Zxx⟩:=Zjl f.hp hi
      rw [h1] at h2
      cases h2
      obtain ⟨rfl,hzz⟩:=Zxx rfl
      have hpl:RDs C Z1 (cellsOf v) u.cells.toList:=by
       have hrs:=hu3.cells
       have hpl:=hc.2.2.1
       clear hrs
       have key:∀ {l:List PV} {l':List Value},l.all (plain 3)=true->Rs C ρ (Zm (h.freeze (Yi v0))) Z1 l l'->RDs C Z1 l l':=by
        intro l
        induction l with
        | nil=>intro l' _ h;cases h;exact .nil
        | cons c cs ih=>
          intro l' ha h
          simp only [List.all_cons,Bool.and_eq_true] at ha
          cases h with | cons h r=>exact .cons (Zu3 (m:=0) ha.1 h) (ih ha.2 r)
       exact key hpl hu3.cells
      have hwr:=Zpm Tj hel (Zdx hel2 hc.2.1)
      obtain ⟨hlt,hx⟩:=List.getElem?_eq_some_iff.1 hel
      have Za7:(xs.take ix).flatMap cellsOf++cellsOf el2++(xs.drop (ix+1)).flatMap cellsOf=(xs.set ix el2).flatMap cellsOf:=by
       rw [List.set_eq_take_append_cons_drop,if_pos hlt,List.flatMap_append,List.flatMap_cons]
       simp
      rw [Za7] at hwr
      obtain ⟨Zkr,h3,h4⟩:=Zss hrr hpl hwr
      have Zaji:(cellsOf el2).length=ty1.size:=by
       have:=(Zi6 (Zdx hel2 hc.2.1)).1
       rw [this]
       exact Tj el (by rw [<- hx];exact List.getElem_mem hlt)
      have hst2:=Zfl (K:=K) (ob:=.row g true (xs.set ix el2)) (vo:=.row Zkr ty1.size true) f.hp hi hc.2.2.2.1 hzz fun ρ' vf' he=>.row g _ Zkr ty1 h1 hzz Znt h4 (Zu0 Tj Zaji)
      have Rr:u.cells.size=ty.size:=by rw [<- Array.length_toList,hu3.cells.length];exact hc.1
      refine ⟨.tuple #[],_,_,_,?_,.tuple _ _ .nil,Z11.trans H hst2⟩
      simp only [Y7,ho,ht,Wi,hu1,Option.isSome_none,Bool.false_eq_true,if_false,Rr,if_true,VH.store,hg]
      rw [if_pos (by rw [hu3.cells.cell hc.2.1];rfl),h3]
      rfl
     .cases he
    .cases he
   .cases he
 .cases he
end
end Go.Pure
end
section
namespace Go.Pure
open Go Go.Virt
section
variable {C:Ctx} {Z Z':Wn} {ρ ρ':Nat->Nat} {vf vf':Nat->Option Nat} {h h':PH} {vh vh':VH} {K:Loc} {n:Nat} {Y0:Yn} {Yr:SL} {o:Oper} {x:PV} {all:List Oper}
 {cf yf:Nat->List Value->VH->Option (Value×VH)} {pcf:CF} {pyf:YF} {r:PV×PH}
theorem Zkw:∀ {ys:List PV} {vcs:List Value} {s:List Nat},RDs C Z ys vcs->Zj.bytesP ys=some s->∃ b,Zbb vcs=some b/\s=b.data.toList.map UInt8.toNat
 | [],vcs,s,hr,h=>by
   simp only [Zj.bytesP,Option.some.injEq] at h
   subst h
   cases hr
   exact ⟨_,rfl,rfl⟩
 | .int .u8 m::ys,vcs,s,hr,h=>by
   simp only [Zj.bytesP,Option.map_eq_some_iff] at h
   obtain ⟨q,hq,rfl⟩:=h
   cases hr with
   | cons g r=>
     cases g
     obtain ⟨b,h1,rfl⟩:=Zkw r hq
     refine ⟨⟨(UInt8.ofNat m.toNat::b.data.toList).toArray⟩,by simp only [Zbb,h1,Option.map_some],?_⟩
     simp
 | .int .i8 _::_,_,_,_,h | .int .i16 _::_,_,_,_,h | .int .i32 _::_,_,_,_,h | .int .i64 _::_,_,_,_,h | .int .u16 _::_,_,_,_,h | .int .u32 _::_,_,_,_,h | .int .u64 _::_,_,_,_,h=>by simp [Zj.bytesP] at h
 | .bool _::_,_,_,_,h | .str _::_,_,_,_,h | .nilp::_,_,_,_,h | .nils::_,_,_,_,h | .nilm::_,_,_,_,h | .nilf::_,_,_,_,h | .nili::_,_,_,_,h | .lst _ _::_,_,_,_,h | .own _ _ _ _ _::_,_,_,_,h
 | .ptr _ _ _::_,_,_,_,h | .eptr _ _ _ _ _::_,_,_,_,h | .rptr _::_,_,_,_,h | .map _ _::_,_,_,_,h | .fn _ _ _::_,_,_,_,h | .yield _ _::_,_,_,_,h | .iface _ _::_,_,_,_,h | .agg _::_,_,_,_,h | .tuple _::_,_,_,_,h=>by simp [Zj.bytesP] at h
theorem Zux (b:ByteArray):RDs C Z ((b.data.toList.map UInt8.toNat).map fun (b:Nat)=>PV.int .u8 (b:Int)) (b.data.toList.map fun b=>Value.int .u8 b.toNat):=by
 induction b.data.toList with
 | nil=>exact .nil
 | cons x l ih=>exact .cons (.int _ _) ih
theorem Zp0 (l:List Nat):(l.map fun (b:Nat)=>PV.int .u8 (b:Int)).flatMap cellsOf=l.map fun (b:Nat)=>PV.int .u8 (b:Int):=by
 induction l with
 | nil=>rfl
 | cons x l ih=>simp [cellsOf,ih]
theorem Zuy (l:List Nat):∀ x∈l.map (fun (b:Nat)=>PV.int .u8 (b:Int)),(cellsOf x).length=1:=by
 intro x hx
 obtain ⟨a,_,rfl⟩:=List.mem_map.1 hx
 rfl
theorem Zc5 {i Zg g len cap:Nat} {ob:PO} {ty:Ty} (ht:C.T g=some ty) (p:Nat):R C (fun j=>if j=i then p else ρ j) (Zm (h.put i Zg ob)) Z (.own i Zg g 0 len) (.slice (some ⟨p,0,none⟩) len cap):=
 .own i Zg g 0 len Zg ⟨p,0,none⟩ cap ty Zfq (Nat.le_refl _) rfl ht fun _=>by simp
theorem Zh5 {g:Nat} {v:Value} {ys:List PV} (hr:R C ρ vf Z x v) (he:h.elems g x=some ys):∃ a l c,v=.slice a l c:=by
 cases x with
 | nils=>rw [hr.nils_inv];exact ⟨_,_,_,rfl⟩
 | lst g' xs=>cases hr.lst_inv;exact ⟨_,_,_,rfl⟩
 | own i Zg g' off len=>cases hr with
   | d h=>cases h
   | own=>exact ⟨_,_,_,rfl⟩
 | _=>simp [PH.elems] at he
theorem Zrx {src dst:TypeId} {y:Operand} (H:HP C ρ Z vh h) (S:SR C ρ (Zm h) Z Y0 Yr) (hK:KOk K n h.next) (hd:∀ d,o.dst=some d->d < n) (ho:o.op=.convert src dst y) (he:Zj C pcf pyf all K Y0 h o=some r):
  Zez C K ρ Z h vh r.1 r.2 (Y7 C cf yf Yr vh o):=by
 simp only [Zj,ho] at he
 split at he
 .rename_i ts td v hs htd hv
  obtain ⟨w,Wi,Wr⟩:=Zl S hv
  split at he
  .rename_i e s hk1 hk2
   split at he
   .rename_i te d Vf Sd
    split at he
    .rename_i hk3
     split at he
     .rename_i hc
      cases he
      obtain ⟨b,rfl,rfl⟩:=Wr.str_inv
      have Xi:=Zae (K:=K) (vo:=.row (b.data.toList.map fun b=>.int .u8 b.toNat) 1 true) H hK (hd d Sd) (ob:=.row e true ((b.data.toList.map UInt8.toNat).map fun (b:Nat)=>.int .u8 (b:Int))) fun ρ' vf' _=>
       .row e _ (b.data.toList.map fun b=>.int .u8 b.toNat) te Vf (by
        cases e:Z vh.next with
        | none=>rfl
        | some s=>exact absurd (H.vlt _ _ (H.sig _ _ e)) (Nat.lt_irrefl _)) (by rw [hc.2];simp [VH.new]) (by rw [Zp0];exact Zux b) (by rw [hc.2];exact Zuy _)
      refine ⟨.slice (some ⟨vh.next,0,none⟩) b.size b.size,_,_,_,?_,by rw [U5];exact Zc5 Vf _,Xi⟩
      simp only [Y7,ho,hs,htd,Wi,hk1,hk2,Vf,hk3]
      rw [if_pos (by rw [U5];exact hc.1)]
     .cases he
    .cases he
   .cases he
  .rename_i e v hk1 hk2
   split at he
   .rename_i te Vf
    split at he
    .rename_i hk3
     split at he
     .rename_i Rr
      rw [Option.map_eq_some_iff] at he
      obtain ⟨q,hq,rfl⟩:=he
      rw [Option.bind_eq_some_iff] at hq
      obtain ⟨ys,hys,hq⟩:=hq
      obtain ⟨hl,vcs,h1,h2,h3⟩:=Zm7 H Vf Wr hys
      have Zj8:ys.flatMap cellsOf=ys:=by
       have:∀ {ys:List PV} {q:List Nat},Zj.bytesP ys=some q->ys.flatMap cellsOf=ys:=by
        intro ys
        induction ys with
        | nil=>intros;rfl
        | cons y ys ih=>
          intro q hq
          cases y with
          | int k m=>
            cases k<;>simp [Zj.bytesP] at hq
            obtain ⟨q',Qw,_⟩:=hq
            simp [cellsOf,ih Qw]
          | _=>simp [Zj.bytesP] at hq
       exact this hq
      rw [Zj8] at h2
      obtain ⟨b,h4,rfl⟩:=Zkw h2 hq
      rw [Rr] at h1
      refine ⟨.string b,vh,ρ,Z,?_,.d (.str b),St.refl H⟩
      have hv':=Zh5 Wr hys
      obtain ⟨a,l,c,rfl⟩:=hv'
      simp only [Y7,ho,hs,htd,Wi,hk1,hk2,Vf,hk3,Rr,if_true,h1,Option.bind_some,h4,Option.map_some]
     .cases he
    .cases he
   .cases he
  .cases he
 .cases he
theorem Zv5 {t:TypeId} {y:Operand} {lo hi:Option Operand} (H:HP C ρ Z vh h) (S:SR C ρ (Zm h) Z Y0 Yr) (ho:o.op=.slice t y lo hi none) (he:Zj C pcf pyf all K Y0 h o=some r):
  Zuq C ρ Z h vh r.1 r.2 (Y7 C cf yf Yr vh o):=by
 simp only [Zj,ho] at he
 split at he
 .rename_i ty i Zg g off len ht hy
  obtain ⟨w,Wi,Wr⟩:=Zl S hy
  split at he
  .rename_i l u T8 hhi
   obtain ⟨l',hl1,hl2⟩:=Zfm S T8
   obtain ⟨u',hu1,hu2⟩:=Zfm S hhi
   split at he
   .rename_i e hk
    split at he
    .rename_i te p q rw_ Vf hb V1
     split at he
     .rename_i hge
      cases he
      subst hge
      have Sv:=Sl.1 V1
      obtain ⟨ty1,cap,h1,rfl⟩:=Wr.own_inv Sv
      obtain ⟨ty2,vcs,b,h2,hg,_⟩:=Zjl H Sv
      rw [Vf] at h1 h2
      cases h1;cases h2
      have Qy:=Q1 hl2 hu2 hb
      refine ⟨rfl,_,?_,.own i Zg e (off+p) (q - p) Zg ⟨ρ i,off*te.size+p*te.size,none⟩ (q - p) te (Zq.2 ⟨_,Sv⟩) (Nat.le_refl _) rfl Vf (fun _=>by rw [Nat.add_mul])⟩
      rw [Zc6 ho ht Wi hl1 hu1]
      simp only [Zjh,hk,Qy,Vf,hg,if_true]
     .cases he
    .cases he
   .cases he
  .cases he
 .cases he
theorem Zd0 {t:TypeId} {y z:Operand} (H:HP C ρ Z vh h) (S:SR C ρ (Zm h) Z Y0 Yr) (ho:o.op=.indexAddr t y z) (he:Zj C pcf pyf all K Y0 h o=some r):
  Zuq C ρ Z h vh r.1 r.2 (Y7 C cf yf Yr vh o):=by
 simp only [Zj,ho] at he
 split at he
 .rename_i ty b Zg g off len k i ht hy hz
  obtain ⟨w,Wi,Wr⟩:=Zl S hy
  obtain ⟨u,hu1,hu2⟩:=Zl S hz
  rw [hu2.int_inv] at hu1
  split at he
  .rename_i e hk
   split at he
   .rename_i te own xs Vf V1
    split at he
    .rename_i hc
     cases he
     obtain ⟨rfl,h0,hlt,hle⟩:=hc
     have Sv:=Sl.1 V1
     obtain ⟨ty1,cap,h1,rfl⟩:=Wr.own_inv Sv
     rw [Vf] at h1
     cases h1
     refine ⟨rfl,_,?_,.eptr b Zg e (off+i.toNat) 0 Zg ⟨ρ b,off*te.size+i.toNat*te.size,none⟩ te (Zq.2 ⟨_,Sv⟩) (Nat.le_refl _) rfl Vf (fun _=>by rw [Nat.add_mul];rfl)⟩
     simp only [Y7,ho,ht,Wi,hu1,hk,Vf]
     rw [if_pos ⟨h0,hlt⟩]
     rfl
    .cases he
   .cases he
  .cases he
 .cases he
theorem Zjx {t:TypeId} {y z:Operand} {ok:Bool} (H:HP C ρ Z vh h) (S:SR C ρ (Zm h) Z Y0 Yr) (ho:o.op=.lookup t y z ok) (he:Zj C pcf pyf all K Y0 h o=some r):
  Zuq C ρ Z h vh r.1 r.2 (Y7 C cf yf Yr vh o):=by
 simp only [Zj,ho] at he
 split at he
 .rename_i ty i Zg k ht hy hz
  obtain ⟨w,Wi,Wr⟩:=Zl S hy
  obtain ⟨u,hu1,hu2⟩:=Zl S hz
  split at he
  .rename_i kt et hk
   split at he
   .rename_i kty ety hkt het
    split at he
    .rename_i Ti
     split at he
     .rename_i ver' es hi
      split at he
      .rename_i e
       subst e
       have hw:=Wr.map_inv hi
       subst hw
       cases H.obj _ _ _ hi with
       | map es ves hzz hg hr=>
         split at he
         .rename_i v hf
          cases he
          obtain ⟨v',h1,h2⟩:=Zhw hr hu2 hf
          cases h2 with
          | some h2=>
            rename_i v'
            refine ⟨rfl,if ok then .tuple #[v',.bool true] else v',?_,?_⟩
            .simp only [Y7,ho,ht,Wi,hu1,hk,hkt,het]
             rw [if_pos (Zf0 hu2 Ti)]
             simp only [hg,h1]
            .cases ok with
             | true=>exact .tuple _ _ (.cons h2 (.cons (.d (.bool _)) .nil))
             | false=>exact h2
         .rename_i hf
          rw [Option.map_eq_some_iff] at he
          obtain ⟨zv,hzv,rfl⟩:=he
          obtain ⟨v',h1,h2⟩:=Zhw hr hu2 hf
          cases h2
          obtain ⟨zv',h3,h4⟩:=Zlw (Z:=Z) hzv
          refine ⟨rfl,if ok then .tuple #[zv',.bool false] else zv',?_,?_⟩
          .simp only [Y7,ho,ht,Wi,hu1,hk,hkt,het]
           rw [if_pos (Zf0 hu2 Ti)]
           simp only [hg,h1,h3,Option.map_some]
          .cases ok with
           | true=>exact .tuple _ _ (.cons (.d h4) (.cons (.d (.bool _)) .nil))
           | false=>exact .d h4
         .cases he
      .cases he
     .cases he
    .cases he
   .cases he
  .cases he
 .cases he
theorem Zdz {t:TypeId} {m k y:Operand} (H:HP C ρ Z vh h) (S:SR C ρ (Zm h) Z Y0 Yr) (ho:o.op=.mapUpdate t m k y\/o.op=.insert t m k y) (he:Zj C pcf pyf all K Y0 h o=some r):
  Zez C K ρ Z h vh r.1 r.2 (Y7 C cf yf Yr vh o):=by
 have he':(match C.T t,Yq Y0 m,Yq Y0 k,Yq Y0 y with
  | some ty,some (.map i Zg),some kv,some v=>
    match ty.k with
    | .map kt _=>match C.T kt,h.get i with
      | some kty,some (w,.map es)=>if w=Zg/\Zn1 kty.k kv=true/\can K i=true then (V4 es kv v).map fun es=>(PV.tuple [],h.put i Zg (.map es)) else none
      | _,_=>none
    | _=>none
  | _,_,_,_=>none)=some r:=by
  rcases ho with ho | ho<;>simp only [Zj,ho] at he<;>exact he
 clear he
 split at he'
 .rename_i ty i Zg kv v ht hm hk hy
  obtain ⟨w,Wi,Wr⟩:=Zl S hm
  obtain ⟨u,hu1,hu2⟩:=Zl S hk
  obtain ⟨z,hz1,hz2⟩:=Zl S hy
  split at he'
  .rename_i kt et hkk
   split at he'
   .rename_i kty ver' es hkt hi
    split at he'
    .rename_i hc
     obtain ⟨rfl,Ti,Zv⟩:=hc
     rw [Option.map_eq_some_iff] at he'
     obtain ⟨es2,hes2,rfl⟩:=he'
     have hw:=Wr.map_inv hi
     subst hw
     cases H.obj _ _ _ hi with
     | map es ves hzz hg hr=>
       obtain ⟨Z3h,h1,h2⟩:=Zti hr hu2 hz2 hes2
       have Xi:=Zfl (K:=K) (ob:=.map es2) (vo:=.map Z3h) H hi Zv hzz fun ρ' vf' he=>.map es2 Z3h hzz Znt (h2.mono he (Wn.le.refl _))
       refine ⟨.tuple #[],_,_,_,?_,.tuple _ _ .nil,Xi⟩
       rcases ho with ho | ho<;>simp only [Y7,ho,ht,Wi,hu1,hz1,hkk,hkt,hg]<;>rw [if_pos (Zf0 hu2 Ti),h1]<;>rfl
    .cases he'
   .cases he'
  .cases he'
 .cases he'
end
end Go.Pure
end
section
namespace Go.Pure
open Go Go.Virt
section
variable {C:Ctx} {Z Z':Wn} {ρ ρ':Nat->Nat} {vf vf':Nat->Option Nat} {h h':PH} {vh vh':VH} {K:Loc} {n:Nat} {Y0:Yn} {Yr:SL} {o:Oper} {x:PV} {all:List Oper}
 {cf yf:Nat->List Value->VH->Option (Value×VH)} {pcf:CF} {pyf:YF} {r:PV×PH}
theorem Rd (H:HP C ρ Z vh h):Z vh.next=none:=by
 cases e:Z vh.next with
 | none=>rfl
 | some s=>exact absurd (H.vlt _ _ (H.sig _ _ e)) (Nat.lt_irrefl _)
theorem Zh9 (H:HP C ρ Z vh h) (hK:KOk K n h.next) {d g:Nat} (hd:d < n) {ty:Ty} (ht:C.T g=some ty) {m:Nat} {ys:List PV} {s:PV} {s' x':Value} {ycs:List Value} (hs:R C ρ (Zm h) Z s s') (hm:Zq4 x'=some m) (hml:ys.length=m)
  (hx:vh.elems ty.size x'=some ycs) (hy:RDs C Z (ys.flatMap cellsOf) ycs) (hyl:∀ y∈ys,(cellsOf y).length=ty.size) (he:Xv K h d g ty m ys s=some r):Zez C K ρ Z h vh r.1 r.2 (Tz vh ty s' x'):=by
 cases s with
 | nils=>
   rw [hs.nils_inv]
   have hn0:vh.elems ty.size (.slice none 0 0)=some []:=rfl
   simp only [Xv] at he
   split at he
   .rename_i hc
    split at he
    .rename_i h0
     cases he
     refine ⟨.slice none 0 0,vh,ρ,Z,?_,.d .nils,St.refl H⟩
     unfold Tz
     simp only [hm,hx,hn0]
     rw [if_pos ⟨by omega,hc.2⟩,if_pos h0]
    .rename_i h0
     cases he
     have Xi:=Zae (K:=K) (vo:=.row ycs ty.size true) H hK hd (ob:=.row g true ys) fun ρ' vf' _=>.row g ys ycs ty ht (Rd H) (by simp [VH.new]) hy hyl
     refine ⟨.slice (some ⟨vh.next,0,none⟩) m m,_,_,_,?_,Zc5 ht _,Xi⟩
     unfold Tz
     simp only [hm,hx,hn0]
     rw [if_pos ⟨by omega,hc.2⟩,if_neg h0]
   .cases he
 | own i Zg g' off len=>
   simp only [Xv] at he
   split at he
   .rename_i hc
    obtain ⟨hc1,hc2,hc3,rfl,Zv⟩:=hc
    split at he
    .rename_i xs V1
     split at he
     .rename_i hl
      cases he
      have hi:=Sl.1 V1
      obtain ⟨ty1,cap,h1,rfl⟩:=hs.own_inv hi
      obtain ⟨ty2,vcs,b,h2,hg,hrr,Tj,Zxx⟩:=Zjl H hi
      rw [ht] at h1 h2
      cases h1;cases h2
      obtain ⟨rfl,hzz⟩:=Zxx rfl
      have Te:=Ud Tj
      have h1:Xh (xs.flatMap cellsOf) (off*ty.size) (len*ty.size)=some (((xs.drop off).take len).flatMap cellsOf):=by
       unfold Xh
       rw [if_pos (by rw [Te,<- Nat.add_mul];exact Nat.mul_le_mul_right _ hl),Zar Tj,Zdd fun x hx=>Tj x (List.drop_subset _ _ hx)]
      obtain ⟨r',h2,h3⟩:=hrr.read h1
      have hel:vh.elems ty.size (.slice (some ⟨ρ i,off*ty.size,none⟩) len cap)=some r':=by
       simp only [VH.elems,VH.load,hg,Option.isSome_none,Bool.false_eq_true,if_false,h2]
      have hlt:=H.rho_lt hi
      have Xi:St C K ρ Z h vh (fun j=>if j=i then vh.next else ρ j) Z (h.put i (Zg+1) (.row g' true ((xs.drop off).take len++ys))) (((vh.put (ρ i) none).note (ρ i)).new (.row (r'++ycs) ty.size true)):=by
       refine HP.change H (.inr ⟨rfl,_,hi⟩) (H.lt _ _ hi) Zv (fun w o' hw=>?_) (by simp [VH.new,VH.note,VH.put]) (.inr (Nat.le_refl _)) (by simp [VH.new,VH.note,VH.put]) (Nat.min_le_left _ _) (fun _ _=>Nat.min_le_right _ _)
        (fun q hq1 hq2=>?_) (fun _ _=>.inl hzz) (Rd H) (fun q y hq=>?_) (fun ρ' vf' _ _ W7=>?_)
       .rw [hi] at hw;cases hw;exact ⟨by omega,fun e=>by omega⟩
       .have:=hq2 ⟨_,hi⟩
        simp [VH.new,VH.note,VH.put,Tu hq1,Tu this]
       .by_cases e:q=vh.next
        .subst e;simp [VH.new,VH.note,VH.put]
        .simp only [VH.new,VH.note,VH.put,Tu e,cond_false] at hq ⊢
         cases e2:Nat.beq q (ρ i) with
         | true=>rw [e2] at hq;cases hq
         | false=>
           rw [e2] at hq
           have:=H.vlt _ _ hq
           omega
       .refine .row g' _ (r'++ycs) ty ht (Rd H) (by simp [VH.new,VH.note,VH.put]) ?_ ?_
        .rw [List.flatMap_append];exact h3.append hy
        .intro x hx
         rcases List.mem_append.1 hx with hx | hx
         .exact Tj x (List.drop_subset _ _ (List.take_subset _ _ hx))
         .exact hyl x hx
      refine ⟨.slice (some ⟨vh.next,0,none⟩) (len+m) (len+m),_,_,_,?_,Zc5 ht _,Xi⟩
      unfold Tz
      simp only [hm,hx,hel]
      rw [if_pos ⟨hc1,hc2,hc3⟩]
      simp only [hg,if_true]
     .cases he
    .cases he
   .cases he
 | _=>simp [Xv] at he
theorem Zui {i Zg:Nat} {k:PV} {u:Value} {c:Call} (H:HP C ρ Z vh h) (S:SR C ρ (Zm h) Z Y0 Yr) (ho:o.op=.call c) (X8:c.callee=.builtin .delete) {w:Value} (ha:opds C Yr c.args.toList=some [w,u]) (hw:R C ρ (Zm h) Z (.map i Zg) w) (hu:R C ρ (Zm h) Z k u)
  (he:(match (c.argTypes[0]?).bind C.T with
     | some ts=>match ts.k with
       | .map kt _=>
         match C.T kt,h.get i with
         | some kty,some (w,.map es)=>if w=Zg/\Zn1 kty.k k=true/\can K i=true then (Za6 es k).map fun es=>(PV.tuple [],h.put i Zg (.map es)) else none
         | _,_=>none
       | _=>none
     | none=>none)=some r):Zez C K ρ Z h vh r.1 r.2 (Y7 C cf yf Yr vh o):=by
 split at he
 .rename_i ts ht
  split at he
  .rename_i kt et hk
   split at he
   .rename_i kty ver' es hkt hi
    split at he
    .rename_i hc
     obtain ⟨rfl,Ti,Zv⟩:=hc
     rw [Option.map_eq_some_iff] at he
     obtain ⟨es2,hes2,rfl⟩:=he
     have hw':=hw.map_inv hi
     subst hw'
     cases H.obj _ _ _ hi with
     | map es ves hzz hg hr=>
       obtain ⟨Z3h,h1,h2⟩:=Ztj hr hu hes2
       have Xi:=Zfl (K:=K) (ob:=.map es2) (vo:=.map Z3h) H hi Zv hzz fun ρ' vf' he=>.map es2 Z3h hzz Znt (h2.mono he (Wn.le.refl _))
       refine ⟨.tuple #[],_,_,_,?_,.tuple _ _ .nil,Xi⟩
       simp only [Y7,ho,Ue,ha,X8,ht,hk,hkt,hg]
       rw [if_pos (Zf0 hu Ti),h1]
       rfl
    .cases he
   .cases he
  .cases he
 .cases he
def Zgq (C:Ctx) (K:Loc) (n:Nat) (pcf:CF) (cf:Nat->List Value->VH->Option (Value×VH)):Prop:=
 ∀ f args h r,pcf K f args h=some r->∀ (ρ:Nat->Nat) (Z:Wn) (vh:VH) (X3:List Value),HP C ρ Z vh h->KOk K n h.next->Rs C ρ (Zm h) Z args X3->Zez C K ρ Z h vh r.1 r.2 (cf f X3 vh)
def YfSim (C:Ctx) (K:Loc) (n:Nat) (pyf:YF) (yf:Nat->List Value->VH->Option (Value×VH)):Prop:=
 ∀ l Zg args h r,pyf K l Zg args h=some r->∀ (ρ:Nat->Nat) (Z:Wn) (vh:VH) (X3:List Value) (w:Value),HP C ρ Z vh h->KOk K n h.next->Rs C ρ (Zm h) Z args X3->R C ρ (Zm h) Z (.yield l Zg) w->∃ p,w=.func (.yield p) #[] #[]/\Zez C K ρ Z h vh r.1 r.2 (yf p X3 vh)
theorem Zr2 {c:Call} (hcf:Zgq C K n pcf cf) (hyf:YfSim C K n pyf yf) (H:HP C ρ Z vh h) (S:SR C ρ (Zm h) Z Y0 Yr) (hK:KOk K n h.next) (hd:∀ d,o.dst=some d->d < n) (ho:o.op=.call c) (he:Zj C pcf pyf all K Y0 h o=some r):
  Zez C K ρ Z h vh r.1 r.2 (Y7 C cf yf Yr vh o):=by
 simp only [Zj,ho] at he
 split at he
 .cases he
 .rename_i args Xn
  obtain ⟨X3,Rv,Qh⟩:=Td S Xn
  split at he
  .rename_i f X8
   split at he
   .rename_i g first captured hf
    obtain ⟨w,Wi,Wr⟩:=Zl S hf
    cases Wr with
    | d h=>cases h
    | fn g a c2 a' c' r1 r2=>
      obtain ⟨v,vh',ρ',Z',q1,q2,q3⟩:=hcf g _ h r he ρ Z vh (a'.toList++X3++c'.toList) H hK ((r1.append Qh).append r2)
      refine ⟨v,vh',ρ',Z',?_,q2,q3⟩
      simp only [Y7,ho,Ue,Rv,X8,Wi]
      exact q1
   .rename_i l Zg hf
    obtain ⟨w,Wi,Wr⟩:=Zl S hf
    obtain ⟨p,rfl,v,vh',ρ',Z',q1,q2,q3⟩:=hyf l Zg args h r he ρ Z vh X3 w H hK Qh Wr
    refine ⟨v,vh',ρ',Z',?_,q2,q3⟩
    simp only [Y7,ho,Ue,Rv,X8,Wi]
    exact q1
   .cases he
  .cases he
  .rename_i b X8
   split at he
   .rename_i i Zg
    cases Qh with
    | cons hy hr=>
      cases hr
      split at he
      .rename_i ty ht
       split at he
       .rename_i kt et hk
        split at he
        .rename_i w es hi
         split at he
         .rename_i e
          subst e
          cases he
          have hw:=hy.map_inv hi
          subst hw
          cases H.obj _ _ _ hi with
          | map es ves hzz hg hr=>
            refine ⟨.int .i64 ves.length,vh,ρ,Z,?_,by rw [hr.length];exact .d (.int _ _),St.refl H⟩
            simp only [Y7,ho,Ue,Rv,X8,ht,hk,hg]
         .cases he
        .cases he
       .cases he
      .cases he
   .rename_i s x
    cases Qh with
    | cons hs hr=>
      rename_i s' l1
      cases hr with
      | cons hx hr=>
        rename_i x' l2
        cases hr
        split at he
        .rename_i ts tx d hts htx Sd
         split at he
         .rename_i e hk
          split at he
          .rename_i ty Rq
           have Xk:Y7 C cf yf Yr vh o=Uf vh ty tx s' x':=by
            simp only [Y7,ho,Ue,Rv,X8,hts,htx,hk,Rq]
           rw [Xk]
           split at he
           .rename_i k hkx
            split at he
            .rename_i k2 m
             have hs':=hs.nils_inv
             have hx':=hx.int_inv
             subst hs' hx'
             split at he
             .rename_i hc
              split at he
              .rename_i h0
               cases he
               refine ⟨.slice none 0 0,vh,ρ,Z,?_,.d .nils,St.refl H⟩
               simp only [Uf,hkx]
               rw [if_pos hc,if_pos h0]
              .rename_i h0
               split at he
               .rename_i z hz
                split at he
                .rename_i hzc
                 cases he
                 have Zxt:RDs C Z (cellsOf z) ty.zero:=Zd8 hz
                 have Xi:=Zae (K:=K) (vo:=.row (W6 m.toNat ty.zero) ty.size true) H hK (hd d Sd) (ob:=.row e true (List.replicate m.toNat z)) fun ρ' vf' _=>
                  .row e _ _ ty Rq (Rd H) (by simp [VH.new]) (Zjn Zxt m.toNat) (fun x hx=>by rw [(List.mem_replicate.1 hx).2];exact hzc.1)
                 refine ⟨.slice (some ⟨vh.next,0,none⟩) m.toNat m.toNat,_,_,_,?_,Zc5 Rq _,Xi⟩
                 simp only [Uf,hkx]
                 rw [if_pos hc,if_neg h0]
                .cases he
               .cases he
             .cases he
            .cases he
           .rename_i hkx
            split at he
            .rename_i b
             split at he
             .rename_i Rr
              obtain ⟨bs,rfl,rfl⟩:=hx.str_inv
              have hA:Uf vh ty tx s' (.string bs)=Tz vh ty s' (.string bs):=by
               unfold Uf
               split
               .rename_i k hk2;exact absurd hk2 (hkx _)
               .simp [Rr]
              rw [hA]
              refine Zh9 (ycs:=bs.data.toList.map fun b=>.int .u8 b.toNat) H hK (hd d Sd) Rq hs (by simp only [Zq4];rw [U5]) (by simp) rfl ?_ ?_ he
              .rw [Zp0];exact Zux bs
              .rw [Rr];exact Zuy _
             .cases he
            .rename_i hns
             split at he
             .rename_i ys hys
              obtain ⟨hl,vcs,h1,h2,h3⟩:=Zm7 H Rq hx hys
              obtain ⟨a,l,c2,rfl⟩:=Zh5 hx hys
              have hA:Uf vh ty tx s' (.slice a l c2)=Tz vh ty s' (.slice a l c2):=by
               unfold Uf
               split
               .rename_i k hk2;exact absurd hk2 (hkx _)
               .simp
              rw [hA]
              exact Zh9 H hK (hd d Sd) Rq hs hl rfl h1 h2 h3 he
             .cases he
          .cases he
         .cases he
        .cases he
   .rename_i i Zg k
    cases Qh with
    | cons hs hr=>
      cases hr with
      | cons hx hr=>
        cases hr
        exact Zui H S ho X8 Rv hs hx he
   .cases he
theorem Zje (hcf:Zgq C K n pcf cf) (hyf:YfSim C K n pyf yf) (H:HP C ρ Z vh h) (S:SR C ρ (Zm h) Z Y0 Yr) (hK:KOk K n h.next) (hd:∀ d,o.dst=some d->d < n) (he:Zj C pcf pyf all K Y0 h o=some r):
  Zez C K ρ Z h vh r.1 r.2 (Y7 C cf yf Yr vh o):=by
 cases ho:o.op with
 | load t y=>exact (Zjy H S ho he).up H
 | store t y z=>exact Zl1 H S ho he
 | convert src dst y=>exact Zrx H S hK hd ho he
 | slice t y lo hi mx=>
   cases mx with
   | none=>exact (Zv5 H S ho he).up H
   | some m=>simp [Zj,ho] at he
 | indexAddr t y z=>exact (Zd0 H S ho he).up H
 | lookup t y z ok=>exact (Zjx H S ho he).up H
 | mapUpdate t m k y=>exact Zdz H S (.inl ho) he
 | insert t m k y=>exact Zdz H S (.inr ho) he
 | call c=>exact Zr2 hcf hyf H S hK hd ho he
 | _=>simp [Zj,ho] at he
theorem Z0l (H:HP C ρ Z vh h) (S:SR C ρ (Zm h) Z Y0 Yr) (hw:Ug o=false) (he:Zj C pcf pyf all K Y0 h o=some r):Zuq C ρ Z h vh r.1 r.2 (Y7 C cf yf Yr vh o):=by
 cases ho:o.op with
 | load t y=>exact Zjy H S ho he
 | slice t y lo hi mx=>
   cases mx with
   | none=>exact Zv5 H S ho he
   | some m=>simp [Zj,ho] at he
 | indexAddr t y z=>exact Zd0 H S ho he
 | lookup t y z ok=>exact Zjx H S ho he
 | call c=>
   simp only [Ug,ho] at hw
   split at hw
   .rename_i X8
    simp only [Zj,ho] at he
    split at he
    .cases he
    .rename_i args Xn
     obtain ⟨X3,Rv,Qh⟩:=Td S Xn
     rw [X8] at he
     try dsimp only at he
     split at he
     .rename_i i Zg _
      cases Qh with
      | cons hy hr=>
        cases hr
        split at he
        .rename_i ty ht
         split at he
         .rename_i kt et hk
          split at he
          .rename_i w es hi
           split at he
           .rename_i e
            subst e
            cases he
            have hw:=hy.map_inv hi
            subst hw
            cases H.obj _ _ _ hi with
            | map es ves hzz hg hr=>
              refine ⟨rfl,.int .i64 ves.length,?_,by rw [hr.length];exact .d (.int _ _)⟩
              simp only [Y7,ho,Ue,Rv,X8,ht,hk,hg]
           .cases he
          .cases he
         .cases he
        .cases he
     .rename_i hh;cases hh
     .rename_i hh;cases hh
     .cases he
   .cases hw
 | _=>simp [Ug,ho] at hw<;>simp [Zj,ho] at he
theorem Zabk {m:Mk} {sh:Shape} {vo:VO} (hm:MkOk C ρ (Zm h) Z m sh vo) (H:HP C ρ Z vh h) (hK:KOk K n h.next) {d:Nat} (hd:d < n) {ob:PO} (Uz:m.obj=some ob):
  Zez C K ρ Z h vh (m.val (K.base+d) (h.stamp (K.base+d))) (h.put (K.base+d) (h.stamp (K.base+d)) ob) (some (sh.val vh.next,vh.new vo)):=by
 cases hm with
 | lit=>simp [Mk.obj] at Uz
 | ptr cs vcs e hr=>
   simp only [Mk.obj,Option.some.injEq] at Uz
   subst Uz
   have Xi:=Zae (K:=K) (vo:=.row vcs e true) H hK hd (ob:=.cells cs) fun ρ' vf' he=>.cells cs vcs e (Rd H) (by simp [VH.new]) (hr.mono he (Wn.le.refl _))
   exact ⟨_,_,_,_,rfl,.ptr _ _ 0 _ ⟨vh.next,0,none⟩ Zfq (Nat.le_refl _) rfl fun _=>by simp,Xi⟩
 | slice g m xs vcs ty ht hr hl=>
   simp only [Mk.obj,Option.some.injEq] at Uz
   subst Uz
   have Xi:=Zae (K:=K) (vo:=.row vcs ty.size true) H hK hd (ob:=.row g true xs) fun ρ' vf' he=>.row g xs vcs ty ht (Rd H) (by simp [VH.new]) hr hl
   exact ⟨_,_,_,_,rfl,Zc5 ht _,Xi⟩
 | map=>
   simp only [Mk.obj,Option.some.injEq] at Uz
   subst Uz
   have Xi:=Zae (K:=K) (vo:=.map []) H hK hd (ob:=.map []) fun ρ' vf' he=>.map [] [] (Rd H) (by simp [VH.new]) .nil
   exact ⟨_,_,_,_,rfl,.map _ _ _ vh.next Zfq (Nat.le_refl _) fun _=>by simp,Xi⟩
theorem Z55 (hcf:Zgq C K n pcf cf) (hyf:YfSim C K n pyf yf) (H:HP C ρ Z vh h) (S:SR C ρ (Zm h) Z Y0 Yr) (hK:KOk K n h.next) (hd:∀ d,o.dst=some d->d < n) (he:opP C pcf pyf all K Y0 h o=some r):
  Zez C K ρ Z h vh r.1 r.2 (Y7 C cf yf Yr vh o):=by
 unfold opP at he
 split at he
 .rename_i v hf
  cases he
  obtain ⟨w,h1,h2⟩:=Zrn S hf
  exact ⟨w,vh,ρ,Z,h2 cf yf vh H.sig,h1,St.refl H⟩
 .split at he
  .rename_i m hm
   obtain ⟨sh,vo,h1,h2,h3⟩:=Zmf S hm
   rw [h3 cf yf vh]
   split at he
   .rename_i Uz
    cases he
    cases h1 with
    | lit g xs vcs ty ht hr hl=>
      obtain ⟨Z',Xi,hrd,_⟩:=Z0o (K:=K) H ht hr hl
      exact ⟨_,_,ρ,Z',rfl,.d hrd,Xi⟩
    | _=>simp [Mk.obj] at Uz
   .rename_i ob d Uz Sd
    cases he
    exact Zabk h1 H hK (hd d Sd) Uz
   .cases he
  .exact Zje hcf hyf H S hK hd he
theorem Qo {ops:List Oper} {b:Bool} (S:SR C ρ vf Z Y0 Yr) (he:W9 ops Y0 o=some b):Ra ops Yr o=some b:=by
 unfold W9 at he
 unfold Ra
 split at he
 .rename_i hg;rw [hg];exact he
 .rename_i j want hg
  rw [hg]
  try dsimp only
  split at he
  .rename_i d hd
   rw [hd]
   try dsimp only
   split at he
   .rename_i c hc
    cases he
    obtain ⟨w,h1,h2⟩:=S _ _ hc
    rw [h1,h2.bool_inv]
   .rename_i w Ys hc
    cases he
    obtain ⟨u,h1,h2⟩:=S _ _ hc
    rw [h1]
    cases h2 with
    | d h=>cases h<;>first | rfl | exact absurd rfl (Ys _)
    | _=>rfl
   .cases he
  .rename_i hd
   rw [hd]
   exact he
theorem Z0s (hcf:Zgq C K n pcf cf) (hyf:YfSim C K n pyf yf):∀ (l:List Oper) {Y0:Yn} {Yr:SL} {h:PH} {vh:VH} {ρ:Nat->Nat} {Z:Wn} {q:Yn×PH},HP C ρ Z vh h->SR C ρ (Zm h) Z Y0 Yr->KOk K n h.next->(∀ o∈l,∀ d,o.dst=some d->d < n)->Qg C pcf pyf K all l Y0 h=some q ->
  ∃ vsl' vh' ρ' Z',opsV C cf yf all l Yr vh=some (vsl',vh')/\SR C ρ' (Zm q.2) Z' q.1 vsl'/\St C K ρ Z h vh ρ' Z' q.2 vh':=by
 intro l
 induction l with
 | nil=>
   intro Y0 Yr h vh ρ Z q H S hK hd he
   simp only [Qg,Option.some.injEq] at he
   subst he
   exact ⟨Yr,vh,ρ,Z,rfl,S,St.refl H⟩
 | cons o l ih=>
   intro Y0 Yr h vh ρ Z q H S hK hd he
   simp only [Qg] at he
   simp only [opsV]
   split at he
   .rename_i hw
    rw [Qo S hw]
    try dsimp only
    split at he
    .rename_i v h1 ho
     obtain ⟨w,vh1,ρ1,Z1,a1,a2,a3⟩:=Z55 hcf hyf H S hK (hd o (by simp)) ho
     rw [a1]
     try dsimp only
     obtain ⟨vsl',vh',ρ',Z',b1,b2,b3⟩:=ih a3.hp ((S.mono a3.ext a3.sig).putP o.dst a2) ⟨hK.1,Nat.le_trans hK.2 a3.next⟩ (fun o ho=>hd o (by simp [ho])) he
     exact ⟨vsl',vh',ρ',Z',b1,b2,a3.trans H b3⟩
    .cases he
   .rename_i hw
    rw [Qo S hw]
    try dsimp only
    exact ih H (S.putP o.dst (.tuple [] #[] .nil)) hK (fun o ho=>hd o (by simp [ho])) he
   .cases he
end
end Go.Pure
end
section
namespace Go.Pure
open Go Go.Virt
section
variable {C:Ctx} {Z Z':Wn} {ρ ρ':Nat->Nat} {vf vf':Nat->Option Nat} {h h':PH} {vh vh':VH} {K:Loc} {n:Nat} {Y0:Yn} {Yr:SL} {x:PV} {v:Value}
theorem HP.sub (H:HP C ρ Z vh h) (hg:h'.get=h.get) (hn:∀ i x,h.get i=some x->i < h'.next) (hv:vh'.get=vh.get) (hvn:vh.next<=vh'.next) (hw:vh'.wr<=vh'.next):HP C ρ Z vh' h' where
 lt:=fun i x hx=>hn i x (by rw [<- hg];exact hx)
 inj:=fun i j x y hx hy e=>H.inj i j x y (by rw [<- hg];exact hx) (by rw [<- hg];exact hy) e
 vlt:=fun i o ho=>Nat.lt_of_lt_of_le (H.vlt i o (by rw [<- hv];exact ho)) hvn
 sig:=fun Zr s hs=>by rw [hv];exact H.sig Zr s hs
 obj:=fun i Zg o ho=>by
  rw [hg] at ho
  have hvf:Zm h'=Zm h:=by unfold Zm;rw [hg]
  rw [hvf]
  have h1:=H.obj i Zg o ho
  cases h1 with
  | loop K0 n sl Yr ps as bd a b c d e f g=>exact .loop K0 n sl Yr ps as bd a (by rw [hv];exact b) c d e f g
  | cells cs vcs e a b c=>exact .cells cs vcs e a (by rw [hv];exact b) c
  | row g xs vcs ty a b c d e=>exact .row g xs vcs ty a b (by rw [hv];exact c) d e
  | frozen g xs s ty a b c d e f=>exact .frozen g xs s ty a b c d e f
  | map es ves a b c=>exact .map es ves a (by rw [hv];exact b) c
  | gone a b=>exact .gone (by omega) b
 wr:=hw
theorem Zgl {m:Nat} (hvf:∀ i,i < m->vf' i=vf i):∀ (k:Nat) {x:PV} {v:Value},below m k x=true->R C ρ vf Z x v->R C ρ vf' Z x v:=by
 intro k
 induction k with
 | zero=>
   intro x v hb hr
   cases hr with
   | d h=>exact .d h
   | own i Zg g off len c a cap ty hi hv hp ht ha=>exact .own i Zg g off len c a cap ty (by rw [hvf i (by simpa [below] using hb)];exact hi) hv hp ht ha
   | ptr i Zg off c a hi hv hp ha=>exact .ptr i Zg off c a (by rw [hvf i (by simpa [below] using hb)];exact hi) hv hp ha
   | eptr i Zg g ix off c a ty hi hv hp ht ha=>exact .eptr i Zg g ix off c a ty (by rw [hvf i (by simpa [below] using hb)];exact hi) hv hp ht ha
   | rptr cs Zr o s vcs hs hr hx=>exact .rptr cs Zr o s vcs hs hr hx
   | map i Zg c w hi hv ha=>exact .map i Zg c w (by rw [hvf i (by simpa [below] using hb)];exact hi) hv ha
   | yield i Zg c w hi hv ha=>exact .yield i Zg c w (by rw [hvf i (by simpa [below] using hb)];exact hi) hv ha
   | _=>simp [below] at hb
 | succ k ih=>
   intro x v hb hr
   have hs:∀ {cs:List PV} {cs':List Value},cs.all (below m k)=true->Rs C ρ vf Z cs cs'->Rs C ρ vf' Z cs cs':=by
    intro cs
    induction cs with
    | nil=>intro cs' _ h;cases h;exact .nil
    | cons c cs ih2=>
      intro cs' ha h
      simp only [List.all_cons,Bool.and_eq_true] at ha
      cases h with | cons h r=>exact .cons (ih ha.1 h) (ih2 ha.2 r)
   cases hr with
   | d h=>exact .d h
   | own i Zg g off len c a cap ty hi hv hp ht ha=>exact .own i Zg g off len c a cap ty (by rw [hvf i (by simpa [below] using hb)];exact hi) hv hp ht ha
   | ptr i Zg off c a hi hv hp ha=>exact .ptr i Zg off c a (by rw [hvf i (by simpa [below] using hb)];exact hi) hv hp ha
   | eptr i Zg g ix off c a ty hi hv hp ht ha=>exact .eptr i Zg g ix off c a ty (by rw [hvf i (by simpa [below] using hb)];exact hi) hv hp ht ha
   | rptr cs Zr o s vcs hs hr hx=>exact .rptr cs Zr o s vcs hs hr hx
   | map i Zg c w hi hv ha=>exact .map i Zg c w (by rw [hvf i (by simpa [below] using hb)];exact hi) hv ha
   | yield i Zg c w hi hv ha=>exact .yield i Zg c w (by rw [hvf i (by simpa [below] using hb)];exact hi) hv ha
   | fn f a c a' c' h1 h2=>
     simp only [below,Bool.and_eq_true] at hb
     exact .fn f a c a' c' (hs hb.1 h1) (hs hb.2 h2)
   | iface t y w h=>exact .iface t y w (ih (by simpa only [below] using hb) h)
   | agg cs cs' h=>exact .agg cs cs' (hs (by simpa only [below] using hb) h)
   | tuple cs cs' h=>exact .tuple cs cs' (hs (by simpa only [below] using hb) h)
theorem Z32 {m:Nat} (hvf:∀ i,i < m->vf' i=vf i) {k:Nat} {cs:List PV} {cs':List Value} (ha:cs.all (below m k)=true) (h:Rs C ρ vf Z cs cs'):Rs C ρ vf' Z cs cs':=by
 induction cs generalizing cs' with
 | nil=>cases h;exact .nil
 | cons c cs ih2=>
   simp only [List.all_cons,Bool.and_eq_true] at ha
   cases h with | cons h r=>exact .cons (Zgl hvf k ha.1 h) (ih2 ha.2 r)
theorem Z71 {m:Nat} (hvf:∀ i,i < m->vf' i=vf i) {k:Nat} {es:List (PV×PV)} {Sa:List (Value×Value)} (ha:es.all (fun e=>below m k e.1&&below m k e.2)=true) (h:MRP C ρ vf Z es Sa):MRP C ρ vf' Z es Sa:=by
 induction h with
 | nil=>exact .nil
 | cons hk hv r ih=>
   simp only [List.all_cons,Bool.and_eq_true] at ha
   exact .cons (Zgl hvf k ha.1.1 hk) (Zgl hvf k ha.1.2 hv) (ih ha.2)
theorem Ztb (g:Nat):∀ (n:Nat) (x:PV),Ym g n x=true->Ym g (n+1) x=true:=by
 intro n
 induction n with
 | zero=>intro x h;cases x<;>simp_all [Ym]
 | succ n ih=>
   have hs:∀ cs:List PV,cs.all (Ym g n)=true->cs.all (Ym g (n+1))=true:=fun cs h=>List.all_eq_true.2 fun c hc=>ih c (List.all_eq_true.1 h c hc)
   intro x h
   cases x with
   | lst g' xs=>simp only [Ym,Bool.and_eq_true] at h ⊢;exact ⟨h.1,hs _ h.2⟩
   | agg cs=>simp only [Ym] at h ⊢;exact hs _ h
   | tuple cs=>simp only [Ym] at h ⊢;exact hs _ h
   | iface t y=>simp only [Ym] at h ⊢;exact ih y h
   | fn f a c=>simp only [Ym,Bool.and_eq_true] at h ⊢;exact ⟨hs _ h.1,hs _ h.2⟩
   | _=>simp_all [Ym]
theorem Zb7 {g n:Nat} {x:PV} (h:Ym g n x=true):(cellsOf x).all (Ym g n)=true:=by
 cases x with
 | agg cs=>
   cases n with
   | zero=>simp [Ym] at h
   | succ n=>simp only [Ym] at h;exact List.all_eq_true.2 fun c hc=>Ztb g n c (List.all_eq_true.1 h c hc)
 | _=>simp only [cellsOf,List.all_cons,List.all_nil,Bool.and_true];exact h
def Zo8 (G:List Nat) (Z Z':Wn):Prop:=∀ Zr s,Z Zr=some s->Z' Zr=some s\/∃ g∈G,s.tag=some g
theorem Zot {G:List Nat} (hb:Zo8 G Z Z'):∀ (n:Nat) {x:PV} {v:Value},(∀ g∈G,Ym g n x=true)->RD C Z x v->RD C Z' x v:=by
 intro n
 induction n with
 | zero=>
   intro x v ha hr
   cases hr with
   | lst g xs Zr o cap s vcs ty hs he ht Rq hr hx hl=>
     rcases hb Zr s hs with h1 | ⟨g',hg',h1⟩
     .by_cases hG:G=[]
      ·
       subst hG
       have Qy:Z.le Z':=fun Zr s hs=>by
        rcases hb Zr s hs with h | ⟨g,hg,_⟩
        .exact h
        .simp at hg
       exact (RD.lst g xs Zr o cap s vcs ty hs he ht Rq hr hx hl).mono Qy
      .obtain ⟨g',hg'⟩:=List.exists_mem_of_ne_nil G hG
       have:=ha g' hg'
       simp [Ym] at this
     .have:=ha g' hg'
      simp [Ym] at this
   | iface t y w h=>
     by_cases hG:G=[]
     .subst hG
      have Qy:Z.le Z':=fun Zr s hs=>by
       rcases hb Zr s hs with h | ⟨g,hg,_⟩
       .exact h
       .simp at hg
      exact (RD.iface t y w h).mono Qy
     .obtain ⟨g',hg'⟩:=List.exists_mem_of_ne_nil G hG
      have:=ha g' hg'
      simp [Ym] at this
   | agg cs cs' h=>
     by_cases hG:G=[]
     .subst hG
      have Qy:Z.le Z':=fun Zr s hs=>by
       rcases hb Zr s hs with h | ⟨g,hg,_⟩
       .exact h
       .simp at hg
      exact (RD.agg cs cs' h).mono Qy
     .obtain ⟨g',hg'⟩:=List.exists_mem_of_ne_nil G hG
      have:=ha g' hg'
      simp [Ym] at this
   | _=>constructor
 | succ n ih=>
   have hs:∀ {cs:List PV} {cs':List Value},(∀ g∈G,cs.all (Ym g n)=true)->RDs C Z cs cs'->RDs C Z' cs cs':=by
    intro cs
    induction cs with
    | nil=>intro cs' _ h;cases h;exact .nil
    | cons c cs ih2=>
      intro cs' ha h
      cases h with
      | cons h r=>
        refine .cons (ih (fun g hg=>?_) h) (ih2 (fun g hg=>?_) r)
        .have:=ha g hg;simp only [List.all_cons,Bool.and_eq_true] at this;exact this.1
        .have:=ha g hg;simp only [List.all_cons,Bool.and_eq_true] at this;exact this.2
   intro x v ha hr
   cases hr with
   | lst g xs Zr o cap s vcs ty hs1 he ht Rq hr hx hl=>
     rcases hb Zr s hs1 with h1 | ⟨g',hg',h1⟩
     .refine .lst g xs Zr o cap s vcs ty h1 he ht Rq hr (hs (fun g' hg'=>?_) hx) hl
      have:=ha g' hg'
      simp only [Ym,Bool.and_eq_true] at this
      rw [List.all_flatMap]
      exact List.all_eq_true.2 fun y hy=>Zb7 (List.all_eq_true.1 this.2 y hy)
     .have h2:=ha g' hg'
      simp only [Ym,Bool.and_eq_true] at h2
      rcases ht with e | e
      .rw [e] at h1;cases h1
      .rw [h1] at e
       cases e
       simp at h2
   | iface t y w h=>exact .iface t y w (ih (fun g hg=>by have:=ha g hg;simpa only [Ym] using this) h)
   | agg cs cs' h=>exact .agg cs cs' (hs (fun g hg=>by have:=ha g hg;simpa only [Ym] using this) h)
   | _=>constructor
theorem Zsb {G:List Nat} (hb:Zo8 G Z Z') {n:Nat} {cs:List PV} {cs':List Value} (ha:∀ g∈G,cs.all (Ym g n)=true) (h:RDs C Z cs cs'):RDs C Z' cs cs':=by
 induction cs generalizing cs' with
 | nil=>cases h;exact .nil
 | cons c cs ih2=>
   cases h with
   | cons h r=>
     refine .cons (Zot hb n (fun g hg=>?_) h) (ih2 (fun g hg=>?_) r)
     .have:=ha g hg;simp only [List.all_cons,Bool.and_eq_true] at this;exact this.1
     .have:=ha g hg;simp only [List.all_cons,Bool.and_eq_true] at this;exact this.2
theorem Zou {G:List Nat} (hb:Zo8 G Z Z') (hG:G≠[]):∀ (n:Nat) {x:PV} {v:Value},(∀ g∈G,Ym g n x=true)->R C ρ vf Z x v->R C ρ vf Z' x v:=by
 obtain ⟨g0,hg0⟩:=List.exists_mem_of_ne_nil G hG
 intro n
 induction n with
 | zero=>
   intro x v ha hr
   have h0:=ha g0 hg0
   cases hr with
   | d h=>exact .d (Zot hb 0 ha h)
   | own i Zg g off len c a cap ty hi hv hp ht hq=>exact .own i Zg g off len c a cap ty hi hv hp ht hq
   | ptr i Zg off c a hi hv hp hq=>exact .ptr i Zg off c a hi hv hp hq
   | eptr i Zg g ix off c a ty hi hv hp ht hq=>exact .eptr i Zg g ix off c a ty hi hv hp ht hq
   | map i Zg c w hi hv hq=>exact .map i Zg c w hi hv hq
   | yield i Zg c w hi hv hq=>exact .yield i Zg c w hi hv hq
   | _=>simp [Ym] at h0
 | succ n ih=>
   have hs:∀ {cs:List PV} {cs':List Value},(∀ g∈G,cs.all (Ym g n)=true)->Rs C ρ vf Z cs cs'->Rs C ρ vf Z' cs cs':=by
    intro cs
    induction cs with
    | nil=>intro cs' _ h;cases h;exact .nil
    | cons c cs ih2=>
      intro cs' ha h
      cases h with
      | cons h r=>
        refine .cons (ih (fun g hg=>?_) h) (ih2 (fun g hg=>?_) r)
        .have:=ha g hg;simp only [List.all_cons,Bool.and_eq_true] at this;exact this.1
        .have:=ha g hg;simp only [List.all_cons,Bool.and_eq_true] at this;exact this.2
   intro x v ha hr
   have h0:=ha g0 hg0
   cases hr with
   | d h=>exact .d (Zot hb (n+1) ha h)
   | own i Zg g off len c a cap ty hi hv hp ht hq=>exact .own i Zg g off len c a cap ty hi hv hp ht hq
   | ptr i Zg off c a hi hv hp hq=>exact .ptr i Zg off c a hi hv hp hq
   | eptr i Zg g ix off c a ty hi hv hp ht hq=>exact .eptr i Zg g ix off c a ty hi hv hp ht hq
   | map i Zg c w hi hv hq=>exact .map i Zg c w hi hv hq
   | yield i Zg c w hi hv hq=>exact .yield i Zg c w hi hv hq
   | rptr=>simp [Ym] at h0
   | fn f a c a' c' h1 h2=>exact .fn f a c a' c' (hs (fun g hg=>by have:=ha g hg;simp only [Ym,Bool.and_eq_true] at this;exact this.1) h1) (hs (fun g hg=>by have:=ha g hg;simp only [Ym,Bool.and_eq_true] at this;exact this.2) h2)
   | iface t y w h=>exact .iface t y w (ih (fun g hg=>by have:=ha g hg;simpa only [Ym] using this) h)
   | agg cs cs' h=>exact .agg cs cs' (hs (fun g hg=>by have:=ha g hg;simpa only [Ym] using this) h)
   | tuple cs cs' h=>exact .tuple cs cs' (hs (fun g hg=>by have:=ha g hg;simpa only [Ym] using this) h)
theorem Z73 {G:List Nat} (hb:Zo8 G Z Z') {n:Nat} {x:PV} {v:Value} (ha:∀ g∈G,Ym g n x=true) (h:R C ρ vf Z x v):R C ρ vf Z' x v:=by
 by_cases hG:G=[]
 .subst hG
  refine h.mono (Ext.refl _ _) fun Zr s hs=>?_
  rcases hb Zr s hs with h | ⟨g,hg,_⟩
  .exact h
  .simp at hg
 .exact Zou hb hG n ha h
theorem Z72 {G:List Nat} (hb:Zo8 G Z Z') (hG:G≠[]) {n:Nat} {cs:List PV} {cs':List Value} (ha:∀ g∈G,cs.all (Ym g n)=true) (h:Rs C ρ vf Z cs cs'):Rs C ρ vf Z' cs cs':=by
 induction cs generalizing cs' with
 | nil=>cases h;exact .nil
 | cons c cs ih2=>
   cases h with
   | cons h r=>
     refine .cons (Zou hb hG n (fun g hg=>?_) h) (ih2 (fun g hg=>?_) r)
     .have:=ha g hg;simp only [List.all_cons,Bool.and_eq_true] at this;exact this.1
     .have:=ha g hg;simp only [List.all_cons,Bool.and_eq_true] at this;exact this.2
theorem Zad5 {G:List Nat} (hb:Zo8 G Z Z') (hG:G≠[]) {n:Nat} {es:List (PV×PV)} {Sa:List (Value×Value)} (ha:∀ g∈G,es.all (fun e=>Ym g n e.1&&Ym g n e.2)=true) (h:MRP C ρ vf Z es Sa):MRP C ρ vf Z' es Sa:=by
 induction h with
 | nil=>exact .nil
 | cons hk hv r ih=>
   have hh:∀ g∈G,(Ym g n _=true/\Ym g n _=true)/\_:=fun g hg=>by
    have:=ha g hg
    simp only [List.all_cons,Bool.and_eq_true] at this
    exact this
   exact .cons (Zou hb hG n (fun g hg=>(hh g hg).1.1) hk) (Zou hb hG n (fun g hg=>(hh g hg).1.2) hv) (ih fun g hg=>(hh g hg).2)
theorem Zkn:∀ (n:Nat) {x:PV} {v:Value},flat n v=true->R C ρ vf Z x v->R C ρ' vf' Z' x v/\Xd n x=true:=by
 have hD:∀ (n:Nat) {x:PV} {v:Value},flat n v=true->RD C Z x v->RD C Z' x v/\Xd n x=true:=by
  intro n
  induction n with
  | zero=>
    intro x v hf hr
    cases hr with
    | lst=>simp [flat] at hf
    | iface=>simp [flat] at hf
    | agg=>simp [flat] at hf
    | _=>exact ⟨by constructor,by simp [Xd]⟩
  | succ n ih=>
    have hs:∀ {cs:List PV} {cs':List Value},cs'.all (flat n)=true->RDs C Z cs cs'->RDs C Z' cs cs'/\cs.all (Xd n)=true:=by
     intro cs
     induction cs with
     | nil=>intro cs' _ h;cases h;exact ⟨.nil,rfl⟩
     | cons c cs ih2=>
       intro cs' ha h
       cases h with
       | cons h r=>
         simp only [List.all_cons,Bool.and_eq_true] at ha ⊢
         obtain ⟨a,b⟩:=ih ha.1 h
         obtain ⟨c,d⟩:=ih2 ha.2 r
         exact ⟨.cons a c,b,d⟩
    intro x v hf hr
    cases hr with
    | lst=>simp [flat] at hf
    | iface t y w h=>
      obtain ⟨a,b⟩:=ih (by simpa only [flat] using hf) h
      exact ⟨.iface t y w a,by simpa only [Xd] using b⟩
    | agg cs cs' h=>
      obtain ⟨a,b⟩:=hs (by simpa only [flat] using hf) h
      exact ⟨.agg cs cs' a,by simpa only [Xd] using b⟩
    | _=>exact ⟨by constructor,by simp [Xd]⟩
 intro n
 induction n with
 | zero=>
   intro x v hf hr
   cases hr with
   | d h=>exact ⟨.d (hD 0 hf h).1,(hD 0 hf h).2⟩
   | _=>simp [flat] at hf
 | succ n ih=>
   have hs:∀ {cs:List PV} {cs':List Value},cs'.all (flat n)=true->Rs C ρ vf Z cs cs'->Rs C ρ' vf' Z' cs cs'/\cs.all (Xd n)=true:=by
    intro cs
    induction cs with
    | nil=>intro cs' _ h;cases h;exact ⟨.nil,rfl⟩
    | cons c cs ih2=>
      intro cs' ha h
      cases h with
      | cons h r=>
        simp only [List.all_cons,Bool.and_eq_true] at ha ⊢
        obtain ⟨a,b⟩:=ih ha.1 h
        obtain ⟨c,d⟩:=ih2 ha.2 r
        exact ⟨.cons a c,b,d⟩
   intro x v hf hr
   cases hr with
   | d h=>exact ⟨.d (hD (n+1) hf h).1,(hD (n+1) hf h).2⟩
   | iface t y w h=>
     obtain ⟨a,b⟩:=ih (by simpa only [flat] using hf) h
     exact ⟨.iface t y w a,by simpa only [Xd] using b⟩
   | agg cs cs' h=>
     obtain ⟨a,b⟩:=hs (by simpa only [flat] using hf) h
     exact ⟨.agg cs cs' a,by simpa only [Xd] using b⟩
   | tuple cs cs' h=>
     obtain ⟨a,b⟩:=hs (by simpa only [flat] using hf) h
     exact ⟨.tuple cs cs' a,by simpa only [Xd] using b⟩
   | _=>simp [flat] at hf
theorem Z4l:∀ (n:Nat) {x:PV} {v:Value},Xd n x=true->R C ρ vf Z x v->flat n v=true:=by
 have hD:∀ (n:Nat) {x:PV} {v:Value},Xd n x=true->RD C Z x v->flat n v=true:=by
  intro n
  induction n with
  | zero=>
    intro x v hf hr
    cases hr<;>simp_all [Xd,flat]
  | succ n ih=>
    have hs:∀ {cs:List PV} {cs':List Value},cs.all (Xd n)=true->RDs C Z cs cs'->cs'.all (flat n)=true:=by
     intro cs
     induction cs with
     | nil=>intro cs' _ h;cases h;rfl
     | cons c cs ih2=>
       intro cs' ha h
       cases h with
       | cons h r=>
         simp only [List.all_cons,Bool.and_eq_true] at ha ⊢
         exact ⟨ih ha.1 h,ih2 ha.2 r⟩
    intro x v hf hr
    cases hr with
    | lst=>simp [Xd] at hf
    | iface t y w h=>simp only [flat];exact ih (by simpa only [Xd] using hf) h
    | agg cs cs' h=>simp only [flat];exact hs (by simpa only [Xd] using hf) h
    | _=>simp [flat]
 intro n
 induction n with
 | zero=>
   intro x v hf hr
   cases hr with
   | d h=>exact hD 0 hf h
   | _=>simp [Xd] at hf
 | succ n ih=>
   have hs:∀ {cs:List PV} {cs':List Value},cs.all (Xd n)=true->Rs C ρ vf Z cs cs'->cs'.all (flat n)=true:=by
    intro cs
    induction cs with
    | nil=>intro cs' _ h;cases h;rfl
    | cons c cs ih2=>
      intro cs' ha h
      cases h with
      | cons h r=>
        simp only [List.all_cons,Bool.and_eq_true] at ha ⊢
        exact ⟨ih ha.1 h,ih2 ha.2 r⟩
   intro x v hf hr
   cases hr with
   | d h=>exact hD _ hf h
   | iface t y w h=>simp only [flat];exact ih (by simpa only [Xd] using hf) h
   | agg cs cs' h=>simp only [flat];exact hs (by simpa only [Xd] using hf) h
   | tuple cs cs' h=>simp only [flat];exact hs (by simpa only [Xd] using hf) h
   | _=>simp [Xd] at hf
theorem Zko:∀ (n:Nat) (x:PV),Xd n x=true->Xd (n+1) x=true:=by
 intro n
 induction n with
 | zero=>intro x h;cases x<;>simp_all [Xd]
 | succ n ih=>
   have hs:∀ cs:List PV,cs.all (Xd n)=true->cs.all (Xd (n+1))=true:=fun cs h=>List.all_eq_true.2 fun c hc=>ih c (List.all_eq_true.1 h c hc)
   intro x h
   cases x with
   | agg cs=>simp only [Xd] at h ⊢;exact hs _ h
   | tuple cs=>simp only [Xd] at h ⊢;exact hs _ h
   | iface t y=>simp only [Xd] at h ⊢;exact ih y h
   | _=>simp_all [Xd]
theorem Zfh (H:HP C ρ Z vh h) (S:SR C ρ (Zm h) Z Y0 Yr):∀ {rs:List ResultVar} {xs:List PV},Uk C Y0 h rs=some xs->∃ vs,Zfg C Yr vh rs=some vs/\Rs C ρ (Zm h) Z xs vs
 | [],xs,he=>by simp only [Uk,Option.some.injEq] at he;subst he;exact ⟨[],rfl,.nil⟩
 | .tmp t::r,xs,he=>by
   simp only [Uk] at he
   split at he
   .rename_i p ps hp Qx
    cases he
    obtain ⟨v,h1,h2⟩:=S _ _ hp
    obtain ⟨vs,h3,h4⟩:=Zfh H S Qx
    exact ⟨v::vs,by simp only [Zfg,h1,h3],.cons h2 h4⟩
   .cases he
 | .cell a t::r,xs,he=>by
   simp only [Uk] at he
   split at he
   .rename_i i Zg off ty ps hp Rq Qx
    split at he
    .rename_i w cs hi
     split at he
     .rename_i e
      subst e
      rw [Option.map_eq_some_iff] at he
      obtain ⟨z,hz,rfl⟩:=he
      rw [Option.bind_eq_some_iff] at hz
      obtain ⟨q,hq,hz⟩:=hz
      obtain ⟨v,h1,h2⟩:=S _ _ hp
      have hv:=h2.ptr_inv hi
      subst hv
      obtain ⟨vs,h3,h4⟩:=Zfh H S Qx
      cases H.obj _ _ _ hi with
      | cells cs vcs e2 hzz hg hr=>
        obtain ⟨q',h5,h6⟩:=hr.read hq
        obtain ⟨z',h7,h8⟩:=Zfb h6 hz
        refine ⟨z'::vs,?_,.cons h8 h4⟩
        simp only [Zfg,h1,Rq,h3,VH.load,hg,Option.isSome_none,Bool.false_eq_true,if_false,h5,Option.bind_some,h7,Option.map_some]
     .cases he
    .cases he
   .cases he
theorem Zqq {xs:List PV} {vs:List Value} (h:Rs C ρ vf Z xs vs):R C ρ vf Z (Wh xs) (Zli vs):=by
 cases h with
 | nil=>exact .tuple _ _ .nil
 | cons h r=>
   cases r with
   | nil=>exact h
   | cons h2 r=>exact .tuple _ _ (by simpa using .cons h (.cons h2 r))
theorem Zw5 (l:List Value) (i t:Nat):Yy (Vk i l) t=if i<=t then l[t - i]? else none:=by
 induction l generalizing i with
 | nil=>simp [Vk,Yy]
 | cons v l ih=>
   simp only [Vk,Yy,ih]
   by_cases h:i=t
   .subst h;simp
   .have:Nat.beq i t=false:=Tu h
    simp only [this,cond_false]
    by_cases hlt:i+1<=t
    .have h2:t - i=(t - (i+1))+1:=by omega
     simp [hlt,show i<=t by omega,h2]
    .simp [hlt,show ¬ i<=t by omega]
theorem Zpj {xs:List PV} {vs:List Value} (h:Rs C ρ vf Z xs vs):SR C ρ vf Z (Sb 0 xs) (Vk 0 vs):=by
 intro t x hx
 simp only [Sb,Nat.zero_le,if_true,Nat.sub_zero] at hx
 rw [Zw5]
 simp only [Nat.zero_le,if_true,Nat.sub_zero]
 exact h.get hx
theorem Vo (h3:PH):∀ (ok:List Nat) (h:PH),(Zz h3 ok h).next=h.next
 | [],h=>rfl
 | i::r,h=>by
   simp only [Zz]
   split
   .rw [Vo h3 r];rfl
   .exact Vo h3 r h
theorem Uc (h3:PH):∀ (ok:List Nat) (h:PH) (j:Nat),(Zz h3 ok h).get j=if j∈ok then (match h3.get j with | some y=>some y | none=>h.get j) else h.get j
 | [],h,j=>by simp [Zz]
 | i::r,h,j=>by
   simp only [Zz]
   split
   .rename_i Zg o hi
    rw [Uc h3 r]
    by_cases e:j=i
    .subst e;simp [PH.put,hi]
    .simp [PH.put,e]
   .rename_i hi
    rw [Uc h3 r]
    by_cases e:j=i
    .subst e;simp [hi]
    .simp [e]
end
end Go.Pure
end
section
namespace Go.Pure
open Go Go.Virt
section
variable {C:Ctx} {Z Z' Z1 Z2 Z3 ZF:Wn} {ρ ρ' ρ2:Nat->Nat} {vf vf':Nat->Option Nat} {h h' h2 h3:PH} {vh vh' Vi vhF:VH} {K:Loc} {n m:Nat} {Y0:Yn} {Yr:SL} {x:PV} {v w:Value}
theorem OR.back {j p nx nxF:Nat} {vf3 vfF:Nat->Option Nat} {o:PO} {G:List Nat} (O:OR C ρ2 vf3 Z3 nx Vi j p o) (hb:Zu m o=true) (hvf:∀ i,i < m->vfF i=vf3 i) (hB:Zo8 G Z3 ZF) (hT:∀ g∈G,Zjr g o=true)
  (hn:Z3 p=none->ZF p=none) (hs:∀ s,Z3 p=some s->ZF p=some s) (hv:vhF.get=Vi.get) (hvn:vhF.next=Vi.next):OR C ρ2 vfF ZF nxF vhF j p o:=by
 cases O with
 | cells cs vcs e a b c=>
   refine .cells cs vcs e (hn a) (by rw [hv];exact b) ?_
   have h1:=Z32 hvf hb c
   by_cases hG:G=[]
   .subst hG
    refine h1.mono (Ext.refl _ _) fun Zr s hs=>?_
    rcases hB Zr s hs with h | ⟨g,hg,_⟩
    .exact h
    .simp at hg
   .exact Z72 hB hG (fun g hg=>hT g hg) h1
 | row g xs vcs ty a b c d e=>
   refine .row g xs vcs ty a (hn b) (by rw [hv];exact c) (Zsb hB (n:=12) (fun g hg=>?_) d) e
   have:=hT g hg
   simp only [Zjr] at this
   rw [List.all_flatMap]
   exact List.all_eq_true.2 fun y hy=>Zb7 (List.all_eq_true.1 this y hy)
 | frozen g xs s ty a b c d e f=>
   refine .frozen g xs s ty a (hs s b) c d (Zsb hB (n:=12) (fun g hg=>?_) e) f
   have:=hT g hg
   simp only [Zjr] at this
   rw [List.all_flatMap]
   exact List.all_eq_true.2 fun y hy=>Zb7 (List.all_eq_true.1 this y hy)
 | map es ves a b c=>
   refine .map es ves (hn a) (by rw [hv];exact b) ?_
   have h1:=Z71 hvf hb c
   by_cases hG:G=[]
   .subst hG
    refine h1.mono (Ext.refl _ _) fun Zr s hs=>?_
    rcases hB Zr s hs with h | ⟨g,hg,_⟩
    .exact h
    .simp at hg
   .exact Zad5 hB hG (fun g hg=>hT g hg) h1
 | loop=>simp [Zu] at hb
 | gone a b=>exact .gone (by rw [hvn];exact a) (hn b)
theorem Zor {lo:Nat} {ok:List Nat} {base j:Nat} (h1:j < lo) (h2:j∉ok):can {base:=base,lo:=lo,ok:=ok} j=false:=by
 unfold can
 rw [Bool.or_eq_false_iff]
 constructor
 .cases e:Nat.ble lo j
  .rfl
  .rw [Nat.ble_eq] at e;omega
 .rw [List.any_eq_false]
  intro y hy e
  rw [Nat.beq_eq] at e
  exact h2 (e ▸ hy)
theorem Zh4 {g:PH} {ok:List Nat} (hx:∀ i∈ok,∃ Zg o,g.get i=some (Zg,o)/\(h3.get i=some (Zg,o)\/∃ g' own xs,o=.row g' own xs/\h3.get i=some (Zg,.row g' false xs))):
  ∃ Zxs,(∀ i∈Zxs,i∈ok)/\Zz h3 ok g=g.freeze Zxs:=by
 classical
 refine ⟨ok.filter fun i=>decide (∃ Zg g' own xs,g.get i=some (Zg,.row g' own xs)/\h3.get i=some (Zg,.row g' false xs)),fun i hi=>(List.mem_filter.1 hi).1,?_⟩
 have hn:(Zz h3 ok g).next=(g.freeze (ok.filter fun i=>decide (∃ Zg g' own xs,g.get i=some (Zg,.row g' own xs)/\h3.get i=some (Zg,.row g' false xs)))).next:=by rw [Vo,Tg]
 have hg:(Zz h3 ok g).get=(g.freeze (ok.filter fun i=>decide (∃ Zg g' own xs,g.get i=some (Zg,.row g' own xs)/\h3.get i=some (Zg,.row g' false xs)))).get:=by
  funext j
  rw [Uc,Y4]
  by_cases hj:j∈ok
  .rw [if_pos hj]
   obtain ⟨Zg,o,h1,h2⟩:=hx j hj
   rcases h2 with h2 | ⟨g',own,xs,rfl,h2⟩
   .rw [h1,h2]
    cases o with
    | row g' own xs=>
      try dsimp only
      by_cases hm:j∈ok.filter fun i=>decide (∃ Zg g' own xs,g.get i=some (Zg,.row g' own xs)/\h3.get i=some (Zg,.row g' false xs))
      .rw [if_pos hm]
       obtain ⟨_,hd⟩:=List.mem_filter.1 hm
       obtain ⟨a,b,c,d,e1,e2⟩:=of_decide_eq_true hd
       rw [h1] at e1
       rw [h2] at e2
       cases e1;cases e2;rfl
      .rw [if_neg hm]
    | _=>rfl
   .rw [h1,h2]
    try dsimp only
    rw [if_pos]
    refine List.mem_filter.2 ⟨hj,decide_eq_true ⟨_,_,_,_,h1,h2⟩⟩
  .rw [if_neg hj]
   split
   .rename_i Zg g' own xs hgj
    rw [if_neg fun hm=>hj (List.mem_filter.1 hm).1,hgj]
   .rfl
 cases hA:Zz h3 ok g
 cases hB:g.freeze (ok.filter fun i=>decide (∃ Zg g' own xs,g.get i=some (Zg,.row g' own xs)/\h3.get i=some (Zg,.row g' false xs)))
 rw [hA,hB] at hn hg
 simp only at hn hg
 rw [hn,hg]
structure Pre0 (C:Ctx) (K:Loc) (m:Nat) (ρ:Nat->Nat) (Z Z1:Wn) (h:PH) (vh:VH) (ok ids:List Nat) (nx:Nat) (ρ2:Nat->Nat) (Z3:Wn) (h3:PH) (Vi:VH):Prop where
 H:HP C ρ Z vh h
 hK:KOk K m h.next
 hok:∀ i∈ok,can K i=true/\∃ x,h.get i=some x
 hids:∀ i∈ids,can K i=true
 f:Frz C true ρ Z h vh ids Z1
 st:St C {base:=h.next,lo:=h.next,ok:=ok} ρ Z1 {h.freeze ids with next:=nx} {vh with wr:=vh.next} ρ2 Z3 h3 Vi
section
variable {ok ids:List Nat} {nx:Nat}
theorem Pre0.old (P:Pre0 C K m ρ Z Z1 h vh ok ids nx ρ2 Z3 h3 Vi) {j:Nat} (hj:j < h.next) (hn:j∉ok):h3.get j=(h.freeze ids).get j:=P.st.keep j (Zor hj hn)
theorem Pre0.live1 {j:Nat} {x:Nat×PO} (hx:h.get j=some x):∃ o,(h.freeze ids).get j=some (x.1,o):=by
 obtain ⟨Zg,o⟩:=x
 rw [Y4,hx]
 cases o with
 | row g own xs=>
   try dsimp only
   split
   .exact ⟨_,rfl⟩
   .exact ⟨_,rfl⟩
 | _=>exact ⟨_,rfl⟩
theorem Pre0.ext (P:Pre0 C K m ρ Z Z1 h vh ok ids nx ρ2 Z3 h3 Vi):Ext ρ (Zm h) ρ2 (Zm h3):=by
 have:=P.st.ext
 have hv:Zm ({h.freeze ids with next:=nx}:PH)=Zm h:=by
  rw [<- Un ids h];rfl
 rw [hv] at this
 exact this
theorem Pre0.live (P:Pre0 C K m ρ Z Z1 h vh ok ids nx ρ2 Z3 h3 Vi) {j:Nat} {x:Nat×PO} (hx:h.get j=some x):∃ y,h3.get j=some y:=by
 obtain ⟨c',h1,_⟩:=P.ext j x.1 (Zq.2 ⟨x.2,hx⟩)
 obtain ⟨o,ho⟩:=Zq.1 h1
 exact ⟨_,ho⟩
theorem Pre0.rho (P:Pre0 C K m ρ Z Z1 h vh ok ids nx ρ2 Z3 h3 Vi) {j:Nat} {x:Nat×PO} (hx:h.get j=some x) (hn:j∉ok):ρ2 j=ρ j:=by
 obtain ⟨c',h1,_,h3'⟩:=P.ext j x.1 (Zq.2 ⟨x.2,hx⟩)
 obtain ⟨o,ho⟩:=Zq.1 h1
 obtain ⟨o1,ho1⟩:=Pre0.live1 (ids:=ids) hx
 rw [P.old (P.H.lt _ _ hx) hn,ho1] at ho
 cases ho
 exact h3' rfl
theorem Pre0.away (P:Pre0 C K m ρ Z Z1 h vh ok ids nx ρ2 Z3 h3 Vi) {j Zg:Nat} {o:PO} (hx:h.get j=some (Zg,o)) (hn:j∉ok) {vfF:Nat->Option Nat} (hE:Ext ρ (Zm h) ρ2 vfF) (hle:Z.le ZF) (hz:Z (ρ j)=none->ZF (ρ j)=none)
  (hv:vhF.get=Vi.get) (hvn:vh.next<=vhF.next):OR C ρ2 vfF ZF h.next vhF j (ρ2 j) o:=by
 rw [P.rho hx hn]
 obtain ⟨o1,ho1⟩:=Pre0.live1 (ids:=ids) hx
 have hg:Vi.get (ρ j)=vh.get (ρ j):=P.st.vkeep j _ ho1 (Zor (P.H.lt _ _ hx) hn)
 exact (P.H.obj _ _ _ hx).mono hE hle hz (fun _=>by rw [hv];exact hg) (Nat.le_refl _) hvn
theorem Pre0.zold (P:Pre0 C K m ρ Z Z1 h vh ok ids nx ρ2 Z3 h3 Vi) {j Zg:Nat} {o:PO} (hx:h.get j=some (Zg,o)) (hn:j∉ok) (hz:Z (ρ j)=none) (hi:∀ g xs,o=.row g true xs->j∉ids):Z3 (ρ j)=none:=by
 have h1:=P.old (P.H.lt _ _ hx) hn
 rw [Y4,hx] at h1
 have W4:h3.get j=some (Zg,o):=by
  rw [h1]
  cases o with
  | row g own xs=>
    cases own with
    | true=>simp [hi g xs rfl]
    | false=>simp
  | _=>rfl
 have h2:=P.st.hp.obj _ _ _ W4
 rw [P.rho hx hn] at h2
 cases h2 with
 | frozen g xs s ty a b c d e f=>
   cases P.H.obj _ _ _ hx with
   | frozen g2 xs2 s2 ty2 a2 b2=>rw [b2] at hz;cases hz
 | _=>assumption
theorem Pre0.marks (P:Pre0 C K m ρ Z Z1 h vh ok ids nx ρ2 Z3 h3 Vi) {hF:PH} (hvg:vhF.get=Vi.get) (hvn:vhF.next=Vi.next) (hvw:vhF.wr=min vh.wr Vi.wr) (hp:HP C ρ2 ZF vhF hF) (hle:Z.le ZF) (hn:h.next<=hF.next)
  (Us:∀ i,i∈ok->hF.get i=h3.get i) (Zan:∀ i,i < h.next->i∉ok->i∉ids->hF.get i=h.get i) (Zai3:∀ i,i < h.next->i∉ok->i∈ids->hF.get i=h.get i\/hF.get i=(h.freeze ids).get i) (Tv:∀ i x,h.next<=i->hF.get i=some x->h3.get i=some x):St C K ρ Z h vh ρ2 ZF hF vhF:=by
 have Z2s:∀ i,i < h.next->i∉ok->hF.get i=h.get i\/(i∈ids/\hF.get i=(h.freeze ids).get i):=fun i h1 h2=>by
  by_cases h4:i∈ids
  .rcases Zai3 i h1 h2 h4 with h5 | h5
   .exact .inl h5
   .exact .inr ⟨h4,h5⟩
  .exact .inl (Zan i h1 h2 h4)
 have hvf:∀ i,i < h.next->i∉ok->Zm hF i=Zm h i:=fun i h1 h2=>by
  rcases Z2s i h1 h2 with h4 | ⟨_,h4⟩
  .unfold Zm;rw [h4]
  .have:Zm (h.freeze ids) i=Zm h i:=by rw [Un]
   rw [<- this];unfold Zm;rw [h4]
 have T8:K.lo<=h.next:=by have:=P.hK.1;have:=P.hK.2;omega
 refine ⟨hp,?_,hle,hn,by rw [hvn];exact P.st.vnext,by rw [hvw];exact Nat.min_le_left _ _,?_,?_,?_,?_,?_,?_⟩
 .intro i c hi
  obtain ⟨o,ho⟩:=Zq.1 hi
  by_cases hk:i∈ok
  .obtain ⟨c',h1,h2,h4⟩:=P.ext i c hi
   refine ⟨c',?_,h2,h4⟩
   unfold Zm at h1 ⊢
   rw [Us i hk];exact h1
  .exact ⟨c,by rw [hvf i (P.H.lt _ _ ho) hk];exact hi,Nat.le_refl _,fun _=>P.rho ho hk⟩
 .intro i hi
  have hk:i∉ok:=fun hk=>by rw [(P.hok i hk).1] at hi;cases hi
  have hd:i∉ids:=fun hk=>by rw [P.hids i hk] at hi;cases hi
  have Z61:i < h.next:=by
   rcases Nat.lt_or_ge i h.next with h1 | h1
   .exact h1
   .unfold can at hi
    rw [Bool.or_eq_false_iff] at hi
    have:Nat.ble K.lo i=true:=by rw [Nat.ble_eq];omega
    rw [this] at hi
    cases hi.1
  exact Zan i Z61 hk hd
 .intro i Zg o hilo ho
  have Z61:=P.H.lt _ _ ho
  by_cases hk:i∈ok
  .rw [Us i hk]
   obtain ⟨o1,ho1⟩:=Pre0.live1 (ids:=ids) ho
   have h1:=P.st.same i Zg o1 Z61 ho1
   have Zij:=ho1
   rw [Y4,ho] at Zij
   rcases h1 with h1 | ⟨g,own,xs,rfl,h1⟩ | h1
   .cases o with
    | row g own xs=>
      simp only at Zij
      split at Zij
      .cases Zij;exact .inr (.inl ⟨_,_,_,rfl,h1⟩)
      .cases Zij;exact .inl h1
    | _=>simp only at Zij;cases Zij;exact .inl h1
   .cases o with
    | row g own xs=>
      simp only at Zij
      split at Zij<;>cases Zij<;>exact .inr (.inl ⟨_,_,_,rfl,h1⟩)
    | _=>simp only at Zij;cases Zij
   .exact .inr (.inr (by rw [hvw];exact Nat.le_trans (Nat.min_le_right _ _) h1))
  .rcases Z2s i Z61 hk with h4 | ⟨hd,h4⟩
   .exact .inl (h4.trans ho)
   .rw [Y4,ho] at h4
    cases o with
    | row g own xs=>
      simp only [hd,if_true] at h4
      exact .inr (.inl ⟨_,_,_,rfl,h4⟩)
    | _=>exact .inl h4
 .intro i x hx
  have hx3:∃ y,h3.get i=some y:=by
   rcases Nat.lt_or_ge i h.next with h1 | h1
   .by_cases hk:i∈ok
    .exact ⟨x,by rw [<- Us i hk];exact hx⟩
    .have:Zm h i=some x.1:=by rw [<- hvf i h1 hk];exact Zq.2 ⟨x.2,hx⟩
     obtain ⟨o,ho⟩:=Zq.1 this
     exact P.live ho
   .exact ⟨x,Tv i x h1 hx⟩
  obtain ⟨y,hy⟩:=hx3
  rcases P.st.plc i y hy with ⟨⟨z,hz⟩,h2⟩ | h2
  .refine .inl ⟨?_,h2⟩
   have:Zm (h.freeze ids) i=some z.1:=Zq.2 ⟨z.2,hz⟩
   rw [Un] at this
   obtain ⟨o,ho⟩:=Zq.1 this
   exact ⟨_,ho⟩
  .exact .inr h2
 .intro i x hx hc
  have hk:i∉ok:=fun hk=>by rw [(P.hok i hk).1] at hc;cases hc
  obtain ⟨o1,ho1⟩:=Pre0.live1 (ids:=ids) hx
  rw [hvg]
  exact P.st.vkeep i _ ho1 (Zor (P.H.lt _ _ hx) hk)
 .intro q hq hn hi
  rw [hvg]
  refine P.st.vnone q hq hn fun i x hx=>?_
  have:Zm (h.freeze ids) i=some x.1:=Zq.2 ⟨x.2,hx⟩
  rw [Un] at this
  obtain ⟨o,ho⟩:=Zq.1 this
  exact hi i _ ho
 .intro b h1 h2 h3
  rw [hvw]
  refine Nat.le_min.2 ⟨h2,P.st.low b h1 h1 fun i x hx hc=>?_⟩
  have hx':(h.freeze ids).get i=some x:=hx
  have:Zm h i=some x.1:=by rw [<- Un (ids:=ids)];exact Zq.2 ⟨x.2,hx'⟩
  obtain ⟨o,ho⟩:=Zq.1 this
  have hlt:=P.H.lt _ _ ho
  have hk:i∈ok:=by
   unfold can at hc
   rw [Bool.or_eq_true] at hc
   rcases hc with hc | hc
   .rw [Nat.ble_eq] at hc
    have hc':h.next<=i:=hc
    omega
   .obtain ⟨j,hj,e⟩:=List.any_eq_true.1 hc
    rw [Nat.beq_eq] at e
    exact e ▸ hj
  exact h3 i _ ho (P.hok i hk).1
end
end
end Go.Pure
end
section
namespace Go.Pure
open Go Go.Virt
section
variable {C:Ctx} {Z Z' Z1 Z2 Z3 ZF:Wn} {ρ ρ' ρ2:Nat->Nat} {vf vf':Nat->Option Nat} {h h' h2 h3:PH} {vh vh' Vi vhF:VH} {K:Loc} {n m:Nat} {Y0:Yn} {Yr:SL} {x:PV} {v w:Value} {ok ids:List Nat} {nx:Nat}
theorem Pre0.restored (P:Pre0 C K m ρ Z Z1 h vh ok ids nx ρ2 Z3 h3 Vi) (hw:vh.next<=Vi.wr) (b:Bool) (hb:b=true->∀ i∈ids,i∉ok):
  ∃ ZF,St C K ρ Z h vh ρ ZF (Zz h3 ok (if b then h else h.freeze ids)) vh:=by
 have W4:∀ i∈ok,∃ Zg o,(h.freeze ids).get i=some (Zg,o)/\(h3.get i=some (Zg,o)\/∃ g' own xs,o=.row g' own xs/\h3.get i=some (Zg,.row g' false xs)):=by
  intro i hi
  obtain ⟨hc,x,hx⟩:=P.hok i hi
  obtain ⟨o1,ho1⟩:=Pre0.live1 (ids:=ids) hx
  refine ⟨x.1,o1,ho1,?_⟩
  rcases P.st.same i x.1 o1 (P.H.lt _ _ hx) ho1 with h1 | h1 | h1
  .exact .inl h1
  .exact .inr h1
  .have:=P.H.rho_lt hx
   omega
 cases b with
 | false=>
   obtain ⟨Zxs,h1,h2⟩:=Zh4 W4
   obtain ⟨Za,fa⟩:=frz (bt:=false) ids P.H
   have sa:=St.frz (K:=K) P.H fa (List.all_eq_true.2 P.hids)
   obtain ⟨Zb,fb⟩:=frz (bt:=false) Zxs sa.hp
   have sb:=St.frz (K:=K) sa.hp fb (List.all_eq_true.2 fun i hi=>(P.hok i (h1 i hi)).1)
   refine ⟨Zb,?_⟩
   simp only [Bool.false_eq_true,if_false]
   rw [h2]
   exact sa.trans P.H sb
 | true=>
   have hb:=hb rfl
   have Zaci:∀ i∈ok,∃ Zg o,h.get i=some (Zg,o)/\(h3.get i=some (Zg,o)\/∃ g' own xs,o=.row g' own xs/\h3.get i=some (Zg,.row g' false xs)):=by
    intro i hi
    obtain ⟨Zg,o,h1,h2⟩:=W4 i hi
    refine ⟨Zg,o,?_,h2⟩
    rw [Y4] at h1
    split at h1
    .rename_i ver' g own xs hq
     rw [if_neg fun hm=>hb i hm hi] at h1
     rw [hq];exact h1
    .exact h1
   obtain ⟨Zxs,h1,h2⟩:=Zh4 Zaci
   obtain ⟨Zb,fb⟩:=frz (bt:=false) Zxs P.H
   have sb:=St.frz (K:=K) P.H fb (List.all_eq_true.2 fun i hi=>(P.hok i (h1 i hi)).1)
   refine ⟨Zb,?_⟩
   simp only [if_true]
   rw [h2]
   exact sb
theorem Pre0.clean (P:Pre0 C K m ρ Z Z1 h vh ok ids nx ρ2 Z3 h3 Vi) (hvg:vhF.get=Vi.get) (hvn:vhF.next=Vi.next) (hvw:vhF.wr=min vh.wr Vi.wr) (Zx9:∀ i∈ok,h3.belowAt h.next i=true)
  (hcl:∀ i∈ids,i∉ok/\∃ Zg g own xs,h.get i=some (Zg,.row g own xs)/\(own=true->Ym g 14 x=true/\∀ j∈ok,∀ Zg o,h3.get j=some (Zg,o)->Zjr g o=true)) (hx:R C ρ2 (Zm h3) Z3 x w) (hxb:below h.next 4 x=true):
  ∃ ZF,R C ρ2 (Zm (Zz h3 ok h)) ZF x w/\St C K ρ Z h vh ρ2 ZF (Zz h3 ok h) vhF:=by
 classical
 let Z1b:Nat->Prop:=fun Zr=>∃ i∈ids,∃ Zg g xs,h.get i=some (Zg,.row g true xs)/\Zr=ρ i
 let ZF:Wn:=fun Zr=>if Z1b Zr then none else Z3 Zr
 let G:List Nat:=ids.filterMap fun i=>match h.get i with | some (_,.row g true _)=>some g | _=>none
 have hG:∀ g∈G,∃ i∈ids,∃ Zg xs,h.get i=some (Zg,.row g true xs):=by
  intro g hg
  obtain ⟨i,hi,e⟩:=List.mem_filterMap.1 hg
  split at e
  .rename_i Zg g' xs hq;cases e;exact ⟨i,hi,Zg,xs,hq⟩
  .cases e
 have hGm:∀ i∈ids,∀ Zg g xs,h.get i=some (Zg,.row g true xs)->g∈G:=by
  intro i hi Zg g xs hq
  exact List.mem_filterMap.2 ⟨i,hi,by rw [hq]⟩
 have Z9s:∀ i Zg g xs,h.get i=some (Zg,.row g true xs)->Z (ρ i)=none:=by
  intro i Zg g xs hq
  cases P.H.obj _ _ _ hq with
  | row g xs vcs ty a b=>exact b
 have hB:Zo8 G Z3 ZF:=by
  intro Zr s hs
  by_cases hl:Z1b Zr
  .obtain ⟨i,hi,Zg,g,xs,hq,rfl⟩:=hl
   refine .inr ⟨g,hGm i hi Zg g xs hq,?_⟩
   have hfz:=Zix (ids:=ids) hi hq
   cases P.f.hp.obj _ _ _ hfz with
   | frozen g xs s1 ty a b c d e f=>
     have:=P.st.sig _ _ b
     rw [hs] at this
     cases this
     rcases P.f.new _ _ b with h1 | ⟨_,i',Sv,ver',g',xs',Qw,e1,e2⟩
     .rw [Z9s i _ _ _ hq] at h1;cases h1
     .have:i=i':=P.H.inj _ _ _ _ hq Qw e1
      subst this
      rw [hq] at Qw
      cases Qw
      exact e2
  .exact .inl (by simp only [ZF,hl,if_false];exact hs)
 have hle:Z.le ZF:=by
  intro Zr s hs
  have hl:¬ Z1b Zr:=fun ⟨i,hi,Zg,g,xs,hq,e⟩=>by rw [e,Z9s i _ _ _ hq] at hs;cases hs
  simp only [ZF,hl,if_false]
  exact P.st.sig _ _ (P.f.le _ _ hs)
 have Us:∀ i,i∈ok->(Zz h3 ok h).get i=h3.get i:=fun i hi=>by
  obtain ⟨_,y,hy⟩:=P.hok i hi
  obtain ⟨z,hz⟩:=P.live hy
  rw [Uc,if_pos hi,hz]
 have Zan:∀ i,i∉ok->(Zz h3 ok h).get i=h.get i:=fun i hi=>by rw [Uc,if_neg hi]
 have Ztp:∀ i,i < h.next->Zm (Zz h3 ok h) i=Zm h3 i:=by
  intro i hi
  by_cases hk:i∈ok
  .unfold Zm;rw [Us i hk]
  .have e1:Zm (Zz h3 ok h) i=Zm h i:=by unfold Zm;rw [Zan i hk]
   have e2:Zm h3 i=Zm (h.freeze ids) i:=by unfold Zm;rw [P.old hi hk]
   rw [e1,e2,Un]
 have hE:Ext ρ (Zm h) ρ2 (Zm (Zz h3 ok h)):=by
  intro i c hi
  obtain ⟨o,ho⟩:=Zq.1 hi
  obtain ⟨c',h1,h2,h4⟩:=P.ext i c hi
  exact ⟨c',by rw [Ztp i (P.H.lt _ _ ho)];exact h1,h2,h4⟩
 have Zd1:∀ i y,(Zz h3 ok h).get i=some y->i < h.next/\∃ z,h3.get i=some z:=by
  intro i y hy
  by_cases hk:i∈ok
  .obtain ⟨_,q,hq⟩:=P.hok i hk
   exact ⟨P.H.lt _ _ hq,y,by rw [<- Us i hk];exact hy⟩
  .rw [Zan i hk] at hy
   exact ⟨P.H.lt _ _ hy,P.live hy⟩
 have Z18:∀ j y,h3.get j=some y->j∈ok->¬ Z1b (ρ2 j):=by
  intro j y hy hj ⟨i,hi,Zg,g,xs,hq,e⟩
  have hik:=(hcl i hi).1
  obtain ⟨z,hz⟩:=P.live hq
  rw [<- P.rho hq hik] at e
  have:=P.st.hp.inj _ _ _ _ hy hz e
  exact hik (this ▸ hj)
 have hp:HP C ρ2 ZF vhF (Zz h3 ok h):=by
  refine ⟨fun i y hy=>by rw [Vo];exact (Zd1 i y hy).1,?_,fun i y hy=>by rw [hvn];exact P.st.hp.vlt i y (by rw [<- hvg];exact hy),?_,?_,?_⟩
  .intro i j y z hy hz e
   obtain ⟨_,y',hy'⟩:=Zd1 i y hy
   obtain ⟨_,z',hz'⟩:=Zd1 j z hz
   exact P.st.hp.inj _ _ _ _ hy' hz' e
  .intro Zr s hs
   simp only [ZF] at hs
   split at hs
   .cases hs
   .rw [hvg];exact P.st.hp.sig _ _ hs
  .intro j Zg o hj
   rw [Vo]
   by_cases hk:j∈ok
   .rw [Us j hk] at hj
    have hb:=Zx9 j hk
    simp only [PH.belowAt,hj] at hb
    refine (P.st.hp.obj _ _ _ hj).back hb (fun i hi=>Ztp i hi) hB (fun g hg=>?_) (fun hz=>by simp only [ZF];split<;>first | rfl | exact hz) (fun s hs=>by simp only [ZF,Z18 j _ hj hk,if_false];exact hs) hvg hvn
    obtain ⟨i,hi,ver',xs,hq⟩:=hG g hg
    obtain ⟨_,Zwx,g2,Zs8,xs2,hq2,hT⟩:=hcl i hi
    rw [hq] at hq2
    cases hq2
    exact (hT rfl).2 j hk Zg o hj
   .rw [Zan j hk] at hj
    refine P.away hj hk hE hle (fun hz=>?_) hvg (by rw [hvn];exact P.st.vnext)
    by_cases hl:Z1b (ρ j)
    .simp only [ZF,hl,if_true]
    .simp only [ZF,hl,if_false]
     exact P.zold hj hk hz fun g xs e hi=>hl ⟨j,hi,Zg,g,xs,by rw [hj,e],rfl⟩
  .rw [hvw,hvn]
   exact Nat.le_trans (Nat.min_le_right _ _) P.st.hp.wr
 refine ⟨ZF,?_,P.marks hvg hvn hvw hp hle (by rw [Vo];exact Nat.le_refl _) Us (fun i _ hk _=>Zan i hk) (fun i _ hk _=>.inl (Zan i hk)) (fun i y hi hy=>absurd (Zd1 i y hy).1 (by omega))⟩
 refine Z73 hB (n:=14) (fun g hg=>?_) (Zgl (fun i hi=>Ztp i hi) 4 hxb hx)
 obtain ⟨i,hi,ver',xs,hq⟩:=hG g hg
 obtain ⟨_,Zwx,g2,Zs8,xs2,hq2,hT⟩:=hcl i hi
 rw [hq] at hq2
 cases hq2
 exact (hT rfl).1
theorem Pre0.frozen (P:Pre0 C K m ρ Z Z1 h vh ok ids nx ρ2 Z3 h3 Vi) (hvg:vhF.get=Vi.get) (hvn:vhF.next=Vi.next) (hvw:vhF.wr=min vh.wr Vi.wr) (Zx9:∀ i∈ok,h3.belowAt h.next i=true)
  (hx:R C ρ2 (Zm h3) Z3 x w) (hxb:below h.next 4 x=true):
  ∃ ZF,R C ρ2 (Zm (Zz h3 ok (h.freeze ids))) ZF x w/\St C K ρ Z h vh ρ2 ZF (Zz h3 ok (h.freeze ids)) vhF:=by
 have hle:Z.le Z3:=fun Zr s hs=>P.st.sig _ _ (P.f.le _ _ hs)
 have hB:Zo8 [] Z3 Z3:=fun Zr s hs=>.inl hs
 have Us:∀ i,i∈ok->(Zz h3 ok (h.freeze ids)).get i=h3.get i:=fun i hi=>by
  obtain ⟨_,y,hy⟩:=P.hok i hi
  obtain ⟨z,hz⟩:=P.live hy
  rw [Uc,if_pos hi,hz]
 have Zan:∀ i,i∉ok->(Zz h3 ok (h.freeze ids)).get i=(h.freeze ids).get i:=fun i hi=>by rw [Uc,if_neg hi]
 have Ztp:∀ i,i < h.next->Zm (Zz h3 ok (h.freeze ids)) i=Zm h3 i:=by
  intro i hi
  by_cases hk:i∈ok
  .unfold Zm;rw [Us i hk]
  .unfold Zm;rw [Zan i hk,P.old hi hk]
 have hE:Ext ρ (Zm h) ρ2 (Zm (Zz h3 ok (h.freeze ids))):=by
  intro i c hi
  obtain ⟨o,ho⟩:=Zq.1 hi
  obtain ⟨c',h1,h2,h4⟩:=P.ext i c hi
  exact ⟨c',by rw [Ztp i (P.H.lt _ _ ho)];exact h1,h2,h4⟩
 have Te:∀ i y,(h.freeze ids).get i=some y->∃ z,h.get i=some z:=by
  intro i y hy
  have:Zm (h.freeze ids) i=some y.1:=Zq.2 ⟨y.2,hy⟩
  rw [Un] at this
  obtain ⟨o,ho⟩:=Zq.1 this
  exact ⟨_,ho⟩
 have Zd1:∀ i y,(Zz h3 ok (h.freeze ids)).get i=some y->i < h.next/\h3.get i=some y:=by
  intro i y hy
  by_cases hk:i∈ok
  .obtain ⟨_,q,hq⟩:=P.hok i hk
   exact ⟨P.H.lt _ _ hq,by rw [<- Us i hk];exact hy⟩
  .rw [Zan i hk] at hy
   obtain ⟨z,hz⟩:=Te i y hy
   have hlt:=P.H.lt _ _ hz
   exact ⟨hlt,by rw [P.old hlt hk];exact hy⟩
 have Qe:(Zz h3 ok (h.freeze ids)).next=h.next:=by rw [Vo,Tg]
 have hp:HP C ρ2 Z3 vhF (Zz h3 ok (h.freeze ids)):=by
  refine ⟨fun i y hy=>by rw [Qe];exact (Zd1 i y hy).1,?_,fun i y hy=>by rw [hvn];exact P.st.hp.vlt i y (by rw [<- hvg];exact hy),?_,?_,?_⟩
  .intro i j y z hy hz e
   exact P.st.hp.inj _ _ _ _ (Zd1 i y hy).2 (Zd1 j z hz).2 e
  .intro Zr s hs;rw [hvg];exact P.st.hp.sig _ _ hs
  .intro j Zg o hj
   rw [Qe]
   have hj3:=(Zd1 j _ hj).2
   have O3:=P.st.hp.obj _ _ _ hj3
   by_cases hk:j∈ok
   .have hb:=Zx9 j hk
    simp only [PH.belowAt,hj3] at hb
    exact O3.back hb (fun i hi=>Ztp i hi) hB (fun g hg=>by simp at hg) id (fun s hs=>hs) hvg hvn
   .rw [Zan j hk] at hj
    obtain ⟨z,hz⟩:=Te j _ hj
    by_cases V1:∃ g own xs,o=.row g own xs
    .obtain ⟨g,own,xs,rfl⟩:=V1
     cases O3 with
     | row g xs vcs ty a b c d e=>exact .row g xs vcs ty a b (by rw [hvg];exact c) d e
     | frozen g xs s ty a b c d e f=>exact .frozen g xs s ty a b c d e f
    .have hz':h.get j=some (Zg,o):=by
      rw [Y4,hz] at hj
      obtain ⟨zv,zo⟩:=z
      cases zo with
      | row g own xs=>
        simp only at hj
        split at hj<;>cases hj<;>exact absurd ⟨_,_,_,rfl⟩ V1
      | _=>cases hj;exact hz
     exact P.away hz' hk hE hle (fun hz0=>P.zold hz' hk hz0 fun g xs e _=>V1 ⟨g,true,xs,e⟩) hvg (by rw [hvn];exact P.st.vnext)
  .rw [hvw,hvn]
   exact Nat.le_trans (Nat.min_le_right _ _) P.st.hp.wr
 refine ⟨Z3,Zgl (fun i hi=>Ztp i hi) 4 hxb hx,P.marks hvg hvn hvw hp hle (by rw [Qe];exact Nat.le_refl _) Us (fun i _ hk hd=>?_) (fun i _ hk hd=>.inr (Zan i hk)) (fun i y hi hy=>absurd (Zd1 i y hy).1 (by omega))⟩
 rw [Zan i hk,Y4]
 split
 .rename_i Zg g own xs hq;rw [if_neg hd,hq]
 .rfl
theorem Pre0.whole (P:Pre0 C K m ρ Z Z1 h vh ok ids nx ρ2 Z3 h3 Vi) (hvg:vhF.get=Vi.get) (hvn:vhF.next=Vi.next) (hvw:vhF.wr=min vh.wr Vi.wr) (Qe:h.next<=nx):St C K ρ Z h vh ρ2 Z3 h3 vhF:=by
 have hp:HP C ρ2 Z3 vhF h3:=P.st.hp.sub rfl (fun i x hx=>P.st.hp.lt i x hx) hvg (by rw [hvn];exact Nat.le_refl _) (by rw [hvw,hvn];exact Nat.le_trans (Nat.min_le_right _ _) P.st.hp.wr)
 refine P.marks hvg hvn hvw hp (fun Zr s hs=>P.st.sig _ _ (P.f.le _ _ hs)) ?_ (fun _ _=>rfl) (fun i hi hk hd=>?_) (fun i hi hk _=>.inr (P.old hi hk)) (fun _ _ _ h=>h)
 .exact Nat.le_trans Qe P.st.next
 .rw [P.old hi hk,Y4]
  split
  .rename_i Zg g own xs hq;rw [if_neg hd,hq]
  .rfl
theorem Zsz (H:HP C ρ Z vh h) (hK:KOk K m h.next) (hok:∀ i∈ok,can K i=true/\∃ x,h.get i=some x) (hids:∀ i∈ids,can K i=true) (f:Frz C true ρ Z h vh ids Z1) (H1:HP C ρ Z1 {vh with wr:=vh.next} {h.freeze ids with next:=nx}) (Qe:h.next<=nx)
  (st:St C {base:=h.next,lo:=h.next,ok:=ok} ρ Z1 {h.freeze ids with next:=nx} {vh with wr:=vh.next} ρ2 Z2 h2 Vi) (hx:R C ρ2 (Zm h2) Z2 x w) {r:PV×PH} (he:Y2 h h2 ok ids x=some r):
  Zez C K ρ Z h vh r.1 r.2 (some (Virt.settle false vh w Vi)):=by
 unfold Y2 at he
 split at he
 .cases he
 .rename_i x' Z2f
  try dsimp only at he
  split at he
  .rename_i Zv
   obtain ⟨Z3,f3⟩:=frz (bt:=false) (ownT x) st.hp
   have st3:=St.frz (K:={base:=h.next,lo:=h.next,ok:=ok}) st.hp f3 Zv
   have stt:=st.trans H1 st3
   have hx':R C ρ2 (Zm (h2.freeze (ownT x))) Z3 x' w:=Z1j f3.hp (fun i Zg g own xs hm hg=>Zix hm hg) Z2f (hx.mono st3.ext st3.sig)
   have P:Pre0 C K m ρ Z Z1 h vh ok ids nx ρ2 Z3 (h2.freeze (ownT x)) Vi:=⟨H,hK,hok,hids,f,stt⟩
   by_cases Wa:flat 4 w=true/\vh.next<=Vi.wr
   ·
    have Za7:Virt.settle false vh w Vi=(w,vh):=by
     unfold Virt.settle
     rw [if_pos]
     simp only [Bool.not_false,Bool.true_and,Bool.and_eq_true,Nat.ble_eq]
     exact Wa
    rw [Za7]
    have Te:=Zkn (C:=C) (ρ:=ρ2) (vf:=Zm (h2.freeze (ownT x))) (Z:=Z3) (ρ':=ρ2) (vf':=fun _=>none) (Z':=Z3) 4 Wa.1 hx'
    split at he
    .split at he
     .rename_i hb hcl
      cases he
      obtain ⟨ZF,Xi⟩:=P.restored Wa.2 true fun _ i hi=>by
       have:=List.all_eq_true.1 hcl i hi
       rw [Bool.and_eq_true,Bool.not_eq_true'] at this
       intro hk
       rw [List.any_eq_false] at this
       exact this.1 i hk (by simp)
      exact ⟨w,vh,ρ,ZF,rfl,(Zkn 4 Wa.1 hx').1,Xi⟩
     .cases he
      obtain ⟨ZF,Xi⟩:=P.restored Wa.2 false (fun e=>by cases e)
      exact ⟨w,vh,ρ,ZF,rfl,(Zkn 4 Wa.1 hx').1,Xi⟩
    .split at he
     .rename_i Zao hev
      exfalso
      rw [Bool.or_eq_true] at hev
      rcases hev with hev | hev
      .rw [Zko 4 x' Te.2] at hev
       cases hev
      .obtain ⟨i,hi,hev⟩:=List.any_eq_true.1 hev
       rw [Bool.and_eq_true,Bool.not_eq_true'] at hev
       obtain ⟨_,⟨Zg,o⟩,hxx⟩:=hok i hi
       have hlt:=H.lt _ _ hxx
       obtain ⟨o1,ho1⟩:=Pre0.live1 (ids:=ids) hxx
       have Sw:Zu h.next o1=true:=by
        have h5:=hev.2
        simp only [PH.belowAt,hxx] at h5
        have ho2:=ho1
        rw [Y4,hxx] at ho2
        cases o with
        | row g own xs=>
          simp only at ho2
          split at ho2<;>cases ho2<;>rfl
        | _=>simp only at ho2;cases ho2;exact h5
       rcases stt.same i Zg o1 hlt ho1 with h1 | ⟨g,own,xs,rfl,h1⟩ | h1
       .have h5:=hev.1
        simp only [PH.belowAt,h1,Sw] at h5
        cases h5
       .have h5:=hev.1
        simp only [PH.belowAt,h1] at h5
        cases h5
       .have:=H.rho_lt hxx
        omega
     .cases he
   .have Za7:Virt.settle false vh w Vi=(w,{Vi with wr:=min vh.wr Vi.wr}):=by
     unfold Virt.settle
     rw [if_neg]
     simp only [Bool.not_false,Bool.true_and,Bool.and_eq_true,Nat.ble_eq]
     exact Wa
    rw [Za7]
    split at he
    .rename_i Zao
     rw [Bool.and_eq_true] at Zao
     have Zx9:∀ i∈ok,(h2.freeze (ownT x)).belowAt h.next i=true:=fun i hi=>List.all_eq_true.1 Zao.2 i hi
     split at he
     .rename_i hcl
      cases he
      obtain ⟨ZF,hR,Xi⟩:=P.clean (vhF:={Vi with wr:=min vh.wr Vi.wr}) rfl rfl rfl Zx9 (fun i hi=>by
       have h5:=List.all_eq_true.1 hcl i hi
       rw [Bool.and_eq_true,Bool.not_eq_true'] at h5
       refine ⟨fun hk=>?_,?_⟩
       .have:=h5.1
        rw [List.any_eq_false] at this
        exact this i hk (by simp)
       .have h6:=h5.2
        split at h6
        .rename_i Zg g xs hq
         refine ⟨Zg,g,true,xs,hq,fun _=>?_⟩
         rw [Bool.and_eq_true] at h6
         refine ⟨h6.1,fun j hj Zg o ho=>?_⟩
         have:=List.all_eq_true.1 h6.2 j hj
         rw [ho] at this
         exact this
        .rename_i Zg g xs hq
         exact ⟨Zg,g,false,xs,hq,fun e=>by cases e⟩
        .cases h6) hx' Zao.1
      exact ⟨w,_,ρ2,ZF,rfl,hR,Xi⟩
     .cases he
      obtain ⟨ZF,hR,Xi⟩:=P.frozen (vhF:={Vi with wr:=min vh.wr Vi.wr}) rfl rfl rfl Zx9 hx' Zao.1
      exact ⟨w,_,ρ2,ZF,rfl,hR,Xi⟩
    .split at he
     .cases he
      exact ⟨w,_,ρ2,Z3,rfl,hx',P.whole rfl rfl rfl Qe⟩
     .cases he
  .cases he
end
end Go.Pure
end
section
namespace Go.Pure
open Go Go.Virt
def Zdt (sl Yo:SL):Prop:=∃ e,Yo.map Prod.fst=sl.map Prod.fst++e
theorem Zdt.refl (sl:SL):Zdt sl sl:=⟨[],by simp⟩
theorem Zdt.trans {a b c:SL} (h:Zdt a b) (k:Zdt b c):Zdt a c:=by
 obtain ⟨e,h⟩:=h
 obtain ⟨f,k⟩:=k
 exact ⟨e++f,by rw [k,h,List.append_assoc]⟩
theorem Z28 (sl:SL) (d:Nat) (v:Value):Zdt sl (Zac sl d v):=by
 induction sl with
 | nil=>exact ⟨[d],rfl⟩
 | cons x sl ih=>
   obtain ⟨k,u⟩:=x
   simp only [Zac]
   cases Nat.beq k d with
   | true=>exact ⟨[],by simp⟩
   | false=>
     obtain ⟨e,he⟩:=ih
     exact ⟨e,by simp [he]⟩
theorem Zaq (sl:SL) (d:Option Nat) (v:Value):Zdt sl (putV sl d v):=by
 cases d with
 | none=>exact .refl _
 | some d=>exact Z28 sl d v
theorem Zkg {C:Ctx} {cf yf:Nat->List Value->VH->Option (Value×VH)} {all:List Oper}:∀ {l:List Oper} {sl Yo:SL} {h h':VH},opsV C cf yf all l sl h=some (Yo,h')->Zdt sl Yo
 | [],sl,Yo,h,h',he=>by simp only [opsV,Option.some.injEq,Prod.mk.injEq] at he;rw [he.1];exact .refl _
 | o::l,sl,Yo,h,h',he=>by
   simp only [opsV] at he
   split at he
   .split at he
    .exact (Zaq _ _ _).trans (Zkg he)
    .cases he
   .exact (Zaq _ _ _).trans (Zkg he)
   .cases he
theorem Zyi {C:Ctx} {cf yf:Nat->List Value->VH->Option (Value×VH)} {B M:Nat} {all:List Oper} {masks:Array Nat} {o:Oper} {i:Nat} {st st':DSt} (he:Zbi C cf yf B M all masks o i st=some st'):Zdt st.sl st'.sl:=by
 unfold Zbi at he
 try dsimp only at he
 split at he
 .cases he
 .cases he;exact Zaq _ _ _
 .split at he
  .cases he;exact Zaq _ _ _
  .split at he
   .cases he
   .split at he
    .cases he
    .split at he<;>cases he<;>exact Zaq _ _ _
theorem Zmx {C:Ctx} {cf yf:Nat->List Value->VH->Option (Value×VH)} {B M:Nat} {all:List Oper} {masks:Array Nat}:∀ {l:List Oper} {i:Nat} {st st':DSt},Zaf C cf yf B M all masks l i st=some st'->Zdt st.sl st'.sl
 | [],i,st,st',he=>by simp only [Zaf,Option.some.injEq] at he;subst he;exact .refl _
 | o::l,i,st,st',he=>by
   simp only [Zaf] at he
   split at he
   .rename_i s hs
    exact (Zyi hs).trans (Zmx he)
   .cases he
theorem Zyk {C:Ctx} {cf yf:Nat->List Value->VH->Option (Value×VH)} {ops:Array Oper} {sl Yo:SL} {h h':VH} (he:Zgh C cf yf ops sl h=some (Yo,h')):Zdt sl Yo:=by
 unfold Zgh at he
 try dsimp only at he
 split at he
 .cases he
 .rename_i st hp
  have:=Zmx hp
  split at he
  .cases he
  .split at he
   .cases he;exact this
   .cases he
theorem Zmw {sl Yo:SL} (h:Zdt sl Yo):(Yo.take sl.length).map Prod.fst=sl.map Prod.fst:=by
 obtain ⟨e,he⟩:=h
 rw [List.map_take,he]
 simp
theorem Zyj {C:Ctx}:∀ (n:Nat) (Xc:Bool) (code:Code) (sl Yo:SL) (h h':VH) (x:Ex),Virt.exec C n Xc code sl h=some (x,Yo,h')->Zdt sl Yo:=by
 intro n
 induction n with
 | zero=>intro Xc code sl Yo h h' x he;simp [Virt.exec] at he
 | succ n ih=>
   intro Xc code sl Yo h h' x he
   cases code with
   | region id ops draw=>
     rw [Virt.exec] at he
     try dsimp only at he
     rw [Option.map_eq_some_iff] at he
     obtain ⟨⟨a,b⟩,hx,e⟩:=he
     simp only [Prod.mk.injEq] at e
     obtain ⟨_,rfl,_⟩:=e
     cases draw with
     | true=>simp only [if_true] at hx;exact Zyk hx
     | false=>simp only [Bool.false_eq_true,if_false] at hx;exact Zkg hx
   | seq a b=>
     rw [Virt.exec] at he
     try dsimp only at he
     split at he
     .rename_i Rc h1 hx
      exact (ih _ _ _ _ _ _ _ hx).trans (ih _ _ _ _ _ _ _ he)
     .exact ih _ _ _ _ _ _ _ he
   | cond c a b=>
     rw [Virt.exec] at he
     try dsimp only at he
     split at he
     .exact ih _ _ _ _ _ _ _ he
     .exact ih _ _ _ _ _ _ _ he
     .cases he
   | block id b=>
     rw [Virt.exec] at he
     try dsimp only at he
     split at he
     .rename_i id' Rc h1 hx
      have:=ih _ _ _ _ _ _ _ hx
      split at he<;>cases he<;>exact this
     .exact ih _ _ _ _ _ _ _ he
   | loop b=>
     rw [Virt.exec] at he
     try dsimp only at he
     split at he
     .rename_i Rc h1 hx
      have h1:=ih _ _ _ _ _ _ _ hx
      have h2:=ih _ _ _ _ _ _ _ he
      exact Zdt.trans ⟨[],by rw [Zmw h1];simp⟩ h2
     .exact ih _ _ _ _ _ _ _ he
   | rangeFunc f ps as bd=>
     rw [Virt.exec] at he
     try dsimp only at he
     split at he
     .split at he
      .split at he
       .split at he
        .cases he;exact .refl _
        .cases he
       .cases he
      .cases he
     .cases he
   | skip=>simp only [Virt.exec,Option.some.injEq,Prod.mk.injEq] at he;rw [he.2.1];exact .refl _
   | exit id=>simp only [Virt.exec,Option.some.injEq,Prod.mk.injEq] at he;rw [he.2.1];exact .refl _
   | ret=>simp only [Virt.exec,Option.some.injEq,Prod.mk.injEq] at he;rw [he.2.1];exact .refl _
   | _=>simp [Virt.exec] at he
theorem Zsy {sl:SL} {t:Nat} {v:Value} (h:Yy sl t=some v):t∈sl.map Prod.fst:=by
 induction sl with
 | nil=>simp [Yy] at h
 | cons x sl ih=>
   obtain ⟨k,u⟩:=x
   simp only [Yy] at h
   cases e:Nat.beq k t with
   | true=>simp [Nat.eq_of_beq_eq_true e]
   | false=>rw [e] at h;simp [ih h]
theorem slGet_take {sl:SL} {t k:Nat} (h:t∈(sl.take k).map Prod.fst):Yy (sl.take k) t=Yy sl t:=by
 induction sl generalizing k with
 | nil=>simp
 | cons x sl ih=>
   cases k with
   | zero=>simp at h
   | succ k=>
     obtain ⟨j,u⟩:=x
     simp only [List.take_succ_cons,Yy]
     cases e:Nat.beq j t with
     | true=>rfl
     | false=>
       simp only [List.take_succ_cons,List.map_cons,List.mem_cons] at h
       rcases h with h | h
       .subst h;simp at e
       .exact ih h
section
variable {C:Ctx} {Z Z' Z1:Wn} {ρ ρ':Nat->Nat} {vf vf':Nat->Option Nat} {h h':PH} {vh vh':VH} {K:Loc} {n m:Nat} {Y0 Zqh:Yn} {Yr vsl':SL}
theorem SR.keep (S0:SR C ρ vf Z Y0 Yr) (S:SR C ρ' vf' Z' Zqh vsl') (hg:Zdt Yr vsl'):SR C ρ' vf' Z' (Zbl Y0 Zqh) (vsl'.take Yr.length):=by
 intro t x hx
 unfold Zbl at hx
 split at hx
 .rename_i y hy
  obtain ⟨v0,h0,_⟩:=S0 _ _ hy
  obtain ⟨v,h1,h2⟩:=S _ _ hx
  refine ⟨v,?_,h2⟩
  rw [slGet_take]
  .exact h1
  .rw [Zmw hg];exact Zsy h0
 .cases hx
def Zsi (C:Ctx) (pex:Loc->Code->Yn->PH->Option (Ex×Yn×PH)) (ex:Code->SL->VH->Option (Ex×SL×VH)):Prop:=
 ∀ K m code Y0 h x Zqh h',pex K code Y0 h=some (x,Zqh,h')->Vm m code=true->∀ (ρ:Nat->Nat) (Z:Wn) (vh:VH) (Yr:SL),HP C ρ Z vh h->KOk K m h.next->SR C ρ (Zm h) Z Y0 Yr ->
  ∃ vsl' vh' ρ' Z',ex code Yr vh=some (x,vsl',vh')/\SR C ρ' (Zm h') Z' Zqh vsl'/\St C K ρ Z h vh ρ' Z' h' vh'
structure COkP (C:Ctx):Prop where
 ext:∀ f a v,C.ext f a=some v->a=[]\/(C.raw f=true/\∃ b k c,a=[.string b,.int k c])
 extP:∀ f a v,C.ext f a=some v->(Zs 0 v).isSome=true
 code:∀ f fn c,C.F f=some fn->fn.body=some c->Vm fn.ntmps c=true
theorem Zqy (H:HP C ρ Z vh h) {ids:List Nat} (f:Frz C true ρ Z h vh ids Z1) {nx:Nat}:∀ {args Zx:List PV} {X3:List Value},(∀ a∈args,∀ i∈Yi a,i∈ids)->Yw (Xo h) args=some Zx ->
  Rs C ρ (Zm h) Z args X3->Rs C ρ (Zm ({h.freeze ids with next:=nx}:PH)) Z1 Zx X3
 | [],Zx,X3,_,ha,hr=>by
   simp only [Yw,Option.some.injEq] at ha;subst ha;cases hr;exact .nil
 | a::l,Zx,X3,hm,ha,hr=>by
   simp only [Yw] at ha
   split at ha
   .rename_i y ys hy hys
    cases ha
    have hv:Zm ({h.freeze ids with next:=nx}:PH)=Zm (h.freeze ids):=rfl
    cases hr with
    | cons h1 r=>
      refine .cons ?_ (Zqy H f (fun a ha=>hm a (by simp [ha])) hys r)
      rw [hv]
      have h1':=h1.mono (Ext.refl _ _) f.sig
      rw [<- Un ids h] at h1'
      exact Zf2 f.hp (fun i Zg g own xs hi hq=>Zix (hm a (by simp) i hi) hq) hy h1'
   .cases ha
theorem Zd6 (b:ByteArray):bytesOf (b.data.toList.map UInt8.toNat)=b:=by
 unfold bytesOf
 have:(b.data.toList.map UInt8.toNat).map Nat.toUInt8=b.data.toList:=by
  rw [List.map_map]
  conv=>rhs;rw [<- List.map_id b.data.toList]
  refine List.map_congr_left fun x _=>?_
  simp [Function.comp]
 rw [this]
theorem Zy9 {ρ:Nat->Nat} {vf:Nat->Option Nat} {Z:Wn} {s:List Nat} {v:Value} (h:R C ρ vf Z (.str s) v):v=.string (bytesOf s):=by
 cases h with
 | d h=>cases h;rw [Zd6]
theorem Z4k {ρ:Nat->Nat} {vf:Nat->Option Nat} {Z:Wn} {x:PV} {b:ByteArray} (h:R C ρ vf Z x (.string b)):∃ s,x=.str s/\bytesOf s=b:=by
 cases h with
 | d h=>cases h;exact ⟨_,rfl,Zd6 b⟩
theorem Zzb {ρ:Nat->Nat} {vf:Nat->Option Nat} {Z:Wn} {k:IntKind} {n:Int} {v:Value} (h:R C ρ vf Z (.int k n) v):v=.int k n:=by
 cases h with
 | d h=>cases h;rfl
theorem Zza {ρ:Nat->Nat} {vf:Nat->Option Nat} {Z:Wn} {x:PV} {k:IntKind} {n:Int} (h:R C ρ vf Z x (.int k n)):x=.int k n:=by
 cases h with
 | d h=>cases h;rfl
theorem Zdf (hC:COkP C) {pex:Loc->Code->Yn->PH->Option (Ex×Yn×PH)} {ex:Code->SL->VH->Option (Ex×SL×VH)} (hex:Zsi C pex ex) (K:Loc) (m:Nat):Zgq C K m (callF C pex) (Virt.callF C ex):=by
 intro f args h r he ρ Z vh X3 H hK Xn
 unfold callF at he
 unfold Virt.callF
 split at he
 .rename_i x hx
  cases he
  unfold extP at hx
  split at hx
  .cases Xn
   simp only [Option.bind_eq_some_iff] at hx
   obtain ⟨w,h1,h2⟩:=hx
   rw [h1]
   exact ⟨w,vh,ρ,Z,rfl,.d (Sq 0 w h2),St.refl H⟩
  .split at hx
   .cases Xn with
    | cons r1 r2=>
      cases r2 with
      | cons r2 r3=>
        cases r3
        rw [Zy9 r1,Zzb r2]
        simp only [Option.bind_eq_some_iff] at hx
        obtain ⟨w,h1,h2⟩:=hx
        rw [h1]
        exact ⟨w,vh,ρ,Z,rfl,.d (Sq 0 w h2),St.refl H⟩
   .cases hx
  .cases hx
 rename_i W7
 have Zajf:C.ext f X3=none:=by
  cases e:C.ext f X3 with
  | none=>rfl
  | some w=>
    have hs:=hC.extP f _ w e
    rcases hC.ext f _ w e with rfl | ⟨Y5,b,k,c,rfl⟩
    .cases Xn
     simp only [extP,e,Option.bind_some] at W7
     rw [W7] at hs
     cases hs
    .cases Xn with
     | cons r1 r2=>
       cases r2 with
       | cons r2 r3=>
         cases r3
         obtain ⟨s,rfl,hb⟩:=Z4k r1
         have h2:=Zza r2
         subst h2
         simp only [extP,Y5,if_true,hb,e,Option.bind_some] at W7
         rw [W7] at hs
         cases hs
 rw [Zajf]
 try dsimp only
 split at he
 .cases he
 .rename_i fn hF
  rw [hF]
  try dsimp only
  split at he
  .cases he
  .rename_i c Zmu
   rw [Zmu]
   try dsimp only
   have Vj:=hC.code _ _ _ hF Zmu
   split at he
   ·
    rename_i Y5
    have H1:HP C ρ Z {vh with wr:=vh.next} {h with next:=h.next+fn.ntmps}:=H.sub rfl (fun i x hx=>Nat.lt_of_lt_of_le (H.lt i x hx) (Nat.le_add_right _ _)) rfl (Nat.le_refl _) (Nat.le_refl _)
    have T8:K.lo<=h.next:=by have:=hK.1;have:=hK.2;omega
    have key:∀ x Yo h2,pex {base:=h.next,lo:=K.lo,ok:=K.ok} c (Sb 0 args) {h with next:=h.next+fn.ntmps}=some (x,Yo,h2)->(match Uk C Yo h2 fn.results.toList with
      | none=>none
      | some vs=>if h2.next=h.next+fn.ntmps/\Zf9 h2 h.next h2.next=true then some (Wh vs,{h2 with next:=h.next}) else some (Wh vs,h2))=some r ->
      ∃ vsl' Vi,ex c (Vk 0 X3) {vh with wr:=vh.next}=some (x,vsl',Vi)/\Zez C K ρ Z h vh r.1 r.2 ((Zfg C vsl' Vi fn.results.toList).map fun vs=>Virt.settle (C.raw f) vh (Zli vs) Vi):=by
     intro x Yo h2 hp hr
     obtain ⟨vsl',Vi,ρ2,Z2,e1,S2,st⟩:=hex _ _ _ _ _ _ _ _ hp Vj ρ Z _ (Vk 0 X3) H1 ⟨T8,Nat.le_refl _⟩ (Zpj Xn)
     refine ⟨vsl',Vi,e1,?_⟩
     split at hr
     .cases hr
     .rename_i vs Wa
      obtain ⟨vvs,hv1,hv2⟩:=Zfh st.hp S2 Wa
      have Zdn:=Zqq hv2
      rw [hv1,Y5]
      have Za7:Virt.settle true vh (Zli vvs) Vi=(Zli vvs,{Vi with wr:=min vh.wr Vi.wr}):=by
       unfold Virt.settle
       simp
      simp only [Option.map_some]
      rw [Za7]
      have base:∀ hF:PH,hF.get=h2.get->h.next<=hF.next->(∀ i x,hF.get i=some x->i < hF.next)->St C K ρ Z h vh ρ2 Z2 hF {Vi with wr:=min vh.wr Vi.wr}:=by
       intro hF hg hn hlt
       have hvf:Zm hF=Zm h2:=by unfold Zm;rw [hg]
       refine ⟨st.hp.sub hg (fun i x hx=>hlt i x (by rw [hg];exact hx)) rfl (Nat.le_refl _) (Nat.le_trans (Nat.min_le_right _ _) st.hp.wr),by rw [hvf];exact st.ext,st.sig,hn,st.vnext,Nat.min_le_left _ _,fun i hi=>by rw [hg];exact st.keep i hi,fun i Zg o T8 ho=>?_,fun i x hx=>st.plc i x (by rw [<- hg];exact hx),fun i x hx hc=>st.vkeep i x hx hc,fun q hq hn hi=>st.vnone q hq hn hi,fun b h1 h2 h3=>Nat.le_min.2 ⟨h2,st.low b h1 h1 h3⟩⟩
       rw [hg]
       rcases st.same i Zg o T8 ho with h5 | h5 | h5
       .exact .inl h5
       .exact .inr (.inl h5)
       .exact .inr (.inr (Nat.le_trans (Nat.min_le_right _ _) h5))
      split at hr
      .rename_i hfr
       cases hr
       have hlt:∀ i x,h2.get i=some x->i < h.next:=by
        intro i x hx
        rcases Nat.lt_or_ge i h.next with h5 | h5
        .exact h5
        .exfalso
         have h6:=st.hp.lt i x hx
         have h7:=List.all_eq_true.1 hfr.2 (i - h.next) (List.mem_range.2 (by omega))
         rw [show h.next+(i - h.next)=i by omega,hx] at h7
         cases h7
       exact ⟨Zli vvs,_,ρ2,Z2,rfl,Zdn,base _ rfl (Nat.le_refl _) hlt⟩
      .cases hr
       exact ⟨Zli vvs,_,ρ2,Z2,rfl,Zdn,base _ rfl (Nat.le_trans (Nat.le_add_right _ _) st.next) st.hp.lt⟩
    split at he
    .rename_i Yo h2 hp
     obtain ⟨vsl',Vi,e1,e2⟩:=key _ _ _ hp he
     rw [e1]
     exact e2
    .rename_i Yo h2 hp
     obtain ⟨vsl',Vi,e1,e2⟩:=key _ _ _ hp he
     rw [e1]
     exact e2
    .cases he
   .rename_i Y5
    try dsimp only at he
    split at he
    .cases he
    .rename_i Zx Z2f
     split at he
     .rename_i Zcj
      rw [Bool.and_eq_true] at Zcj
      obtain ⟨Z1,fz⟩:=frz (bt:=true) (args.flatMap Yi) H
      have Qe:h.next<=h.next+fn.ntmps:=Nat.le_add_right _ _
      have H1:HP C ρ Z1 {vh with wr:=vh.next} {h.freeze (args.flatMap Yi) with next:=h.next+fn.ntmps}:=fz.hp.sub rfl (fun i x hx=>by have:=fz.hp.lt i x hx;rw [Tg] at this;exact Nat.lt_of_lt_of_le this Qe) rfl (Nat.le_refl _) (Nat.le_refl _)
      have Zt3:=Zqy (nx:=h.next+fn.ntmps) H fz (fun a ha i hi=>List.mem_flatMap.2 ⟨a,ha,hi⟩) Z2f Xn
      have hok:∀ i∈reach h 4 (Zx.flatMap (refs 3)),can K i=true/\∃ x,h.get i=some x:=fun i hi=>by
       have:=List.all_eq_true.1 Zcj.1 i hi
       rw [Bool.and_eq_true] at this
       exact ⟨this.1,Option.isSome_iff_exists.1 this.2⟩
      have hids:∀ i∈args.flatMap Yi,can K i=true:=fun i hi=>List.all_eq_true.1 Zcj.2 i hi
      have hrw:C.raw f=false:=by simpa using Y5
      have key:∀ x Yo h2,pex {base:=h.next,lo:=h.next,ok:=reach h 4 (Zx.flatMap (refs 3))} c (Sb 0 Zx) {h.freeze (args.flatMap Yi) with next:=h.next+fn.ntmps}=some (x,Yo,h2) ->
        (match Uk C Yo h2 fn.results.toList with
        | none=>none
        | some vs=>Y2 h h2 (reach h 4 (Zx.flatMap (refs 3))) (args.flatMap Yi) (Wh vs))=some r ->
        ∃ vsl' Vi,ex c (Vk 0 X3) {vh with wr:=vh.next}=some (x,vsl',Vi)/\Zez C K ρ Z h vh r.1 r.2 ((Zfg C vsl' Vi fn.results.toList).map fun vs=>Virt.settle (C.raw f) vh (Zli vs) Vi):=by
       intro x Yo h2 hp hr
       obtain ⟨vsl',Vi,ρ2,Z2,e1,S2,st⟩:=hex _ _ _ _ _ _ _ _ hp Vj ρ Z1 _ (Vk 0 X3) H1 ⟨Nat.le_refl _,Nat.le_refl _⟩ (Zpj Zt3)
       refine ⟨vsl',Vi,e1,?_⟩
       split at hr
       .cases hr
       .rename_i vs Wa
        obtain ⟨vvs,hv1,hv2⟩:=Zfh st.hp S2 Wa
        rw [hv1,hrw]
        exact Zsz H hK hok hids fz H1 Qe st (Zqq hv2) hr
      split at he
      .rename_i Yo h2 hp
       obtain ⟨vsl',Vi,e1,e2⟩:=key _ _ _ hp he
       rw [e1]
       exact e2
      .rename_i Yo h2 hp
       obtain ⟨vsl',Vi,e1,e2⟩:=key _ _ _ hp he
       rw [e1]
       exact e2
      .cases he
     .cases he
theorem Zxd {ps:List Nat}:∀ {Y0:Yn} {Yr:SL} {xs:List PV} {vs:List Value},SR C ρ vf Z Y0 Yr->Rs C ρ vf Z xs vs->SR C ρ vf Z (Zbj Y0 (ps.zip xs)) (Zb3 Yr (ps.zip vs)):=by
 induction ps with
 | nil=>intro Y0 Yr xs vs S _;simpa [Zbj,Zb3] using S
 | cons p ps ih=>
   intro Y0 Yr xs vs S h
   cases h with
   | nil=>simpa [Zbj,Zb3] using S
   | cons h r=>simp only [List.zip_cons_cons,Zbj,Zb3];exact ih (S.put p h) r
theorem St.wider {K K0:Loc} {Z':Wn} (st:St C K0 ρ Z h vh ρ' Z' h' vh') (T8:K.lo<=K0.lo) (hc:∀ i,can K0 i=true->can K i=true):St C K ρ Z h vh ρ' Z' h' vh':=
 ⟨st.hp,st.ext,st.sig,st.next,st.vnext,st.wr,fun i hi=>st.keep i (by cases e:can K0 i with | false=>rfl | true=>rw [hc i e] at hi;cases hi),fun i Zg o hl=>st.same i Zg o (Nat.lt_of_lt_of_le hl T8),st.plc,fun i x hx hi=>st.vkeep i x hx (by cases e:can K0 i with | false=>rfl | true=>rw [hc i e] at hi;cases hi),st.vnone,fun b h1 h2 h3=>st.low b h1 h2 fun i x hx hi=>h3 i x hx (hc i hi)⟩
theorem Zgx (H:HP C ρ Z vh h) {i Zg:Nat} {ob0 ob:PO} {vo:Option VO} (hi:h.get i=some (Zg,ob0)) (T8:K.lo<=i) (hz:Z (ρ i)=none)
  (ho:∀ ρ' vf',Ext ρ (Zm h) ρ' vf'->OR C ρ' vf' Z h.next (vh.put (ρ i) vo) i (ρ i) ob):
  St C K ρ Z h vh (fun j=>if j=i then ρ i else ρ j) Z (h.put i Zg ob) (vh.put (ρ i) vo):=by
 refine HP.change H (.inl rfl) (H.lt _ _ hi) (by unfold can;rw [Bool.or_eq_true,Nat.ble_eq];exact .inl T8) (fun w o' hw=>?_) (H.rho_lt hi) (.inl ⟨_,hi,rfl⟩) (Nat.le_refl _) (Nat.le_refl _) (fun h1 _=>by omega) (fun q hq _=>?_) (fun _ _=>.inl hz) hz (fun q y hq=>?_) (fun ρ' vf' _ _ he=>ho ρ' vf' he)
 .rw [hi] at hw
  cases hw
  exact ⟨Nat.le_refl _,fun _=>rfl⟩
 .simp [VH.put,Tu hq]
 .by_cases e:q=ρ i
  .subst e;exact H.rho_lt hi
  .simp only [VH.put,Tu e,cond_false] at hq
   exact H.vlt _ _ hq
theorem Zjm {i:Nat}:(fun j=>if j=i then ρ i else ρ j)=ρ:=by
 funext j
 by_cases e:j=i
 .simp [e]
 .simp [e]
theorem Zsr {pex:Loc->Code->Yn->PH->Option (Ex×Yn×PH)} {ex:Code->SL->VH->Option (Ex×SL×VH)} (hex:Zsi C pex ex) (K:Loc) (m:Nat):YfSim C K m (Pure.yieldF pex) (Virt.yieldF ex):=by
 intro l Zg args h r he ρ Z vh X3 w H hK Xn hw
 unfold Pure.yieldF at he
 split at he
 .rename_i w0 K0 Vl ps as bd hl
  split at he
  .rename_i hc
   obtain ⟨rfl,hlen,T8,hok⟩:=hc
   have hwv:w=.func (.yield (ρ l)) #[] #[]:=by
    cases hw with
    | d h=>cases h
    | yield i Zg c p hi hv ha=>
      rw [Zq.2 ⟨_,hl⟩] at hi
      cases hi
      rw [ha rfl]
   refine ⟨ρ l,hwv,?_⟩
   rw [Nat.ble_eq] at T8
   cases H.obj _ _ _ hl with
   | loop K0 n sl Yr ps as bd hz hg hsl hK0 hb h1 h2=>
     unfold Virt.yieldF
     rw [hg]
     try dsimp only
     rw [if_pos (by rw [Xn.length];exact hlen)]
     have hKl:K.lo<=l:=by omega
     have Zv:∀ i,can K0 i=true->can K i=true:=by
      intro i hi
      unfold can at hi
      rw [Bool.or_eq_true] at hi
      rcases hi with hi | hi
      .rw [Nat.ble_eq] at hi
       unfold can
       rw [Bool.or_eq_true,Nat.ble_eq]
       exact .inl (by omega)
      .obtain ⟨y,hy,e⟩:=List.any_eq_true.1 hi
       rw [Nat.beq_eq] at e
       subst e
       exact List.all_eq_true.1 hok _ hy
     have st0:=Zgx (K:=K) (ob:=.gone) (vo:=none) H hl hKl hz fun ρ' vf' _=>.gone (H.rho_lt hl) hz
     rw [Zjm] at st0
     have hKOk:KOk K0 n h.next:=⟨hK0,by have:=H.lt _ _ hl;omega⟩
     have S0:=Zxd (ps:=ps) (hsl.mono st0.ext st0.sig) (Rs.mono st0.ext st0.sig Xn)
     split at he
     .rename_i Rc h1' hx1
      obtain ⟨Zdh,vh1,ρ1,Z1,a1,a2,a3⟩:=hex _ _ _ _ _ _ _ _ hx1 h1 ρ Z _ _ st0.hp hKOk S0
      rw [a1]
      try dsimp only
      split at he
      .rename_i sl2 h2' hx2
       obtain ⟨Z5o,Vi,ρ2,Z2,b1,b2,b3⟩:=hex _ _ _ _ _ _ _ _ hx2 h2 ρ1 Z1 _ _ a3.hp ⟨hKOk.1,Nat.le_trans hKOk.2 a3.next⟩ a2
       rw [b1]
       try dsimp only
       split at he
       .rename_i w2 Z2i
        split at he
        .rename_i e
         subst e
         cases he
         have st2:St C K ρ Z h vh ρ2 Z2 h2' Vi:=(st0.trans H (a3.wider T8 Zv)).trans H (b3.wider T8 Zv)
         have Zdm:ρ2 l=ρ l:=by
          obtain ⟨c',q1,_,q3⟩:=st2.ext l w2 (Zq.2 ⟨_,hl⟩)
          rw [Zq.2 ⟨_,Z2i⟩] at q1
          cases q1
          exact q3 rfl
         have hz2:Z2 (ρ2 l)=none:=by
          cases st2.hp.obj _ _ _ Z2i with
          | gone q1 q2=>exact q2
         have st3:=Zgx (K:=K) (ob:=.loop K0 Vl ps as bd) (vo:=some (.loop Yr ps as bd)) st2.hp Z2i hKl hz2 fun ρ' vf' hE=>.loop K0 n Vl Yr ps as bd hz2 (by simp [VH.put]) ((hsl.mono st2.ext st2.sig).mono hE (Wn.le.refl _)) hK0 hb h1 h2
         rw [Zjm,Zdm] at st3
         exact ⟨.bool true,_,_,_,rfl,.d (.bool true),st2.trans H st3⟩
        .cases he
       .cases he
      .cases he
     .cases he
  .cases he
 .cases he
def Zgp (C:Ctx) (pcf:CF) (cf:Nat->List Value->VH->Option (Value×VH)):Prop:=
 ∀ K f args h v h',pcf K f args h=some (v,h')->C.raw f=false->args.flatMap Yi=[]->args.flatMap (refs 3)=[]->Xd 4 v=true ->
  h'=h/\∀ (ρ:Nat->Nat) (Z:Wn) (vh:VH) (X3:List Value),HP C ρ Z vh h->vh.wr=vh.next->Rs C ρ (Zm h) Z args X3->∃ w,cf f X3 vh=some (w,vh)/\R C ρ (Zm h) Z v w
theorem Zxq {h:PH} {a:PV} (ha:Yi a=[]):Xo h a=some a:=by
 have hc:∀ cs:List PV,cs.flatMap U1=[]->Yw (Rl h) cs=some cs:=by
  intro cs
  induction cs with
  | nil=>intro _;rfl
  | cons c cs ih=>
    intro hh
    rw [List.flatMap_cons,List.append_eq_nil_iff] at hh
    simp only [Yw,ih hh.2]
    cases c<;>simp_all [U1,Rl]
 cases a with
 | agg cs=>simp only [Xo];rw [hc cs ha];rfl
 | own=>simp [Yi,U1] at ha
 | _=>rfl
theorem Zme {h:PH}:∀ {args:List PV},args.flatMap Yi=[]->Yw (Xo h) args=some args
 | [],_=>rfl
 | a::l,ho=>by
   rw [List.flatMap_cons,List.append_eq_nil_iff] at ho
   simp only [Yw,Zxq ho.1,Zme ho.2]
theorem Z0n (hC:COkP C) {pex:Loc->Code->Yn->PH->Option (Ex×Yn×PH)} {ex:Code->SL->VH->Option (Ex×SL×VH)} (hex:Zsi C pex ex):Zgp C (Pure.callF C pex) (Virt.callF C ex):=by
 intro K f args h v h' he Y5 ho hr hv
 have key:h'=h/\Pure.callF C pex {base:=h.next,lo:=h.next,ok:=[]} f args h=some (v,h):=by
  unfold Pure.callF at he ⊢
  cases hx:extP C f args with
  | some w=>
    rw [hx] at he
    cases he
    exact ⟨rfl,rfl⟩
  | none=>
    rw [hx] at he
    simp only at he ⊢
    cases hF:C.F f with
    | none=>rw [hF] at he;cases he
    | some fn=>
      rw [hF] at he
      simp only at he ⊢
      cases hb:fn.body with
      | none=>rw [hb] at he;cases he
      | some c=>
        rw [hb] at he
        simp only [Y5,Bool.false_eq_true,if_false,Zme ho,ho,hr,reach,List.all_nil,Bool.and_true,if_true] at he ⊢
        have Za7:∀ h2 x,Y2 h h2 [] [] x=some (v,h')->h'=h:=by
         intro h2 x hs
         unfold Y2 at hs
         split at hs
         .cases hs
         .rename_i v' hi
          simp only [List.any_nil,Bool.or_false,List.all_nil,Bool.and_true,Zz,PH.freeze,if_true] at hs
          split at hs
          .split at hs
           .simp only [Option.some.injEq,Prod.mk.injEq] at hs;exact hs.2.symm
           .split at hs
            .rename_i hf
             simp only [Option.some.injEq,Prod.mk.injEq] at hs
             rw [hs.1,Zko 4 v hv] at hf
             cases hf
            .cases hs
          .cases hs
        have Zaid:∀ (q:Option (Ex×Yn×PH)),(match q with
          | some (.normal,Yo,h2) | some (.ret,Yo,h2)=>
            (match Uk C Yo h2 fn.results.toList with
            | none=>none
            | some vs=>Y2 h h2 [] [] (Wh vs))
          | _=>none)=some (v,h')->h'=h:=by
         intro q hq
         split at hq
         .split at hq
          .cases hq
          .exact Za7 _ _ hq
         .split at hq
          .cases hq
          .exact Za7 _ _ hq
         .cases hq
        have e:=Zaid _ he
        subst e
        exact ⟨rfl,he⟩
 obtain ⟨rfl,hc⟩:=key
 refine ⟨rfl,fun ρ Z vh X3 H hw ha=>?_⟩
 obtain ⟨w,vh1,ρ1,Z1,q1,q2,q3⟩:=Zdf hC hex {base:=h'.next,lo:=h'.next,ok:=[]} 0 f args h' _ hc ρ Z vh X3 H ⟨Nat.le_refl _,Nat.le_refl _⟩ ha
 have hfw:flat 4 w=true:=Z4l 4 hv q2
 have hlow:vh.next<=vh1.wr:=q3.low vh.next (Nat.le_refl _) (by rw [hw];exact Nat.le_refl _) fun i x hx Zv=>by
  exfalso
  have:=H.lt i x hx
  unfold can at Zv
  simp only [List.any_nil,Bool.or_false,Nat.ble_eq] at Zv
  omega
 have W4:vh1=vh:=by
  unfold Virt.callF at q1
  split at q1
  .rename_i w' _
   simp only [Option.some.injEq,Prod.mk.injEq] at q1
   exact q1.2.symm
  .split at q1
   .cases q1
   .split at q1
    .cases q1
    .have Za7:∀ (vv:Value) (h2:VH),Virt.settle (C.raw f) vh vv h2=(w,vh1)->vh1=vh:=by
      intro vv h2 hs
      unfold Virt.settle at hs
      split at hs
      .simp only [Prod.mk.injEq] at hs;exact hs.2.symm
      .rename_i hn
       simp only [Prod.mk.injEq] at hs
       obtain ⟨rfl,rfl⟩:=hs
       exfalso
       apply hn
       simp only [Y5,hfw,Bool.not_false,Bool.true_and,Nat.ble_eq]
       exact Nat.le_trans hlow (Nat.min_le_right _ _)
     split at q1
     .rw [Option.map_eq_some_iff] at q1
      obtain ⟨vs,_,hs⟩:=q1
      exact Za7 _ _ hs
     .rw [Option.map_eq_some_iff] at q1
      obtain ⟨vs,_,hs⟩:=q1
      exact Za7 _ _ hs
     .cases q1
 subst W4
 exact ⟨w,q1,(Zkn 4 hfw q2).1⟩
def Zcw (C:Ctx) (pcf:CF) (cf:Nat->List Value->VH->Option (Value×VH)):Prop:=
 ∀ K f args h v h',pcf K f args h=some (v,h')->C.raw f=false->∀ Zx,Yw (Xo h) args=some Zx->∀ (ρ:Nat->Nat) (Z:Wn) (vh:VH) (X3:List Value),HP C ρ Z vh h->Rs C ρ (Zm h) Z args X3 ->
  ∀ w vh1,cf f X3 vh=some (w,vh1)->∀ u,u∉reach h 4 (Zx.flatMap (refs 3))++args.flatMap Yi->(∃ x,h.get u=some x)->vh1.get (ρ u)=vh.get (ρ u)/\h'.get u=h.get u
theorem Zw1 (hC:COkP C) {pex:Loc->Code->Yn->PH->Option (Ex×Yn×PH)} {ex:Code->SL->VH->Option (Ex×SL×VH)} (hex:Zsi C pex ex):Zcw C (Pure.callF C pex) (Virt.callF C ex):=by
 intro K f args h v h' he Y5 Zx hm ρ Z vh X3 H ha w vh1 hw u hu hx
 have key:Pure.callF C pex {base:=h.next,lo:=h.next,ok:=reach h 4 (Zx.flatMap (refs 3))++args.flatMap Yi} f args h=some (v,h'):=by
  unfold Pure.callF at he ⊢
  cases hx:extP C f args with
  | some w=>rw [hx] at he;exact he
  | none=>
    rw [hx] at he
    simp only at he ⊢
    cases hF:C.F f with
    | none=>rw [hF] at he;cases he
    | some fn=>
      rw [hF] at he
      simp only at he ⊢
      cases hb:fn.body with
      | none=>rw [hb] at he;cases he
      | some c=>
        rw [hb] at he
        simp only [Y5,Bool.false_eq_true,if_false,hm] at he ⊢
        split at he
        .rename_i hok
         rw [Bool.and_eq_true,List.all_eq_true,List.all_eq_true] at hok
         rw [if_pos]
         .exact he
         .rw [Bool.and_eq_true,List.all_eq_true,List.all_eq_true]
          have hc:∀ i,i∈reach h 4 (Zx.flatMap (refs 3))++args.flatMap Yi->can {base:=h.next,lo:=h.next,ok:=reach h 4 (Zx.flatMap (refs 3))++args.flatMap Yi} i=true:=fun i hi=>by
           unfold can
           rw [Bool.or_eq_true]
           exact .inr (List.any_eq_true.2 ⟨i,hi,Nat.beq_refl i⟩)
          refine ⟨fun i hi=>?_,fun i hi=>hc i (List.mem_append_right _ hi)⟩
          have:=hok.1 i hi
          rw [Bool.and_eq_true] at this ⊢
          exact ⟨hc i (List.mem_append_left _ hi),this.2⟩
        .cases he
 obtain ⟨w',Vi,ρ1,Z1,q1,q2,q3⟩:=Zdf hC hex {base:=h.next,lo:=h.next,ok:=reach h 4 (Zx.flatMap (refs 3))++args.flatMap Yi} 0 f args h _ key ρ Z vh X3 H ⟨Nat.le_refl _,Nat.le_refl _⟩ ha
 rw [hw] at q1
 cases q1
 obtain ⟨x,hx⟩:=hx
 suffices hcn:can {base:=h.next,lo:=h.next,ok:=reach h 4 (Zx.flatMap (refs 3))++args.flatMap Yi} u=false from ⟨q3.vkeep u x hx hcn,q3.keep u hcn⟩
 have hlt:=H.lt u x hx
 unfold can
 rw [Bool.or_eq_false_iff]
 constructor
 .rw [<- Bool.not_eq_true,Nat.ble_eq]
  show ¬ h.next<=u
  omega
 .rw [<- Bool.not_eq_true]
  intro hh
  obtain ⟨i,hi,hb⟩:=List.any_eq_true.1 hh
  rw [Nat.beq_eq] at hb
  subst hb
  exact hu hi
def Zws (C:Ctx):Prop:=∀ (K:Loc) (n:Nat) (pcf:CF) (pyf:YF) (cf yf:Nat->List Value->VH->Option (Value×VH)),Zgq C K n pcf cf->YfSim C K n pyf yf->Zgp C pcf cf->Zcw C pcf cf->Qj cf->Qj yf->∀ (ops:Array Oper) (Y0:Yn) (Yr:SL) (h:PH) (vh:VH) (ρ:Nat->Nat) (Z:Wn) (q:Yn×PH),HP C ρ Z vh h ->
 SR C ρ (Zm h) Z Y0 Yr->KOk K n h.next->(∀ o∈ops.toList,∀ d,o.dst=some d->d < n)->Zoo ops=true->Zat C pcf pyf K ops Y0 h=some q->∃ vsl' vh' ρ' Z',Zgh C cf yf ops Yr vh=some (vsl',vh')/\SR C ρ' (Zm q.2) Z' q.1 vsl'/\St C K ρ Z h vh ρ' Z' q.2 vh'
theorem Z3b (hC:COkP C) (hD:Zws C):∀ n Xc,Zsi C (fun K=>Pure.exec C n K Xc) (Virt.exec C n Xc):=by
 intro n
 induction n with
 | zero=>intro Xc K m code Y0 h x Zqh h' he;simp [Pure.exec] at he
 | succ n ih=>
   intro Xc K m code Y0 h x Zqh h' he Vj ρ Z vh Yr H hK S
   replace he:Pure.exec C (n+1) K Xc code Y0 h=some (x,Zqh,h'):=he
   have hcf:=Zdf hC (ih true) K m
   have hyf:=Zsr (ih false) K m
   have hi:=ih Xc
   cases code with
   | skip=>rw [Pure.exec] at he;cases he;exact ⟨Yr,vh,ρ,Z,by rw [Virt.exec],S,St.refl H⟩
   | exit id=>rw [Pure.exec] at he;cases he;exact ⟨Yr,vh,ρ,Z,by rw [Virt.exec],S,St.refl H⟩
   | ret=>rw [Pure.exec] at he;cases he;exact ⟨Yr,vh,ρ,Z,by rw [Virt.exec],S,St.refl H⟩
   | region id ops draw=>
     rw [Pure.exec] at he
     try dsimp only at he
     rw [Option.map_eq_some_iff] at he
     obtain ⟨⟨a,b⟩,hx,e⟩:=he
     simp only [Prod.mk.injEq] at e
     obtain ⟨rfl,rfl,rfl⟩:=e
     have hd:∀ o∈ops.toList,∀ d,o.dst=some d->d < m:=fun o ho d hd=>by
      have:=List.all_eq_true.1 (by simp only [Vm,Bool.and_eq_true] at Vj;exact Vj.1) o ho
      simp only [hd] at this
      exact Nat.blt_eq ▸ this
     rw [Virt.exec]
     try dsimp only
     cases draw with
     | true=>
       simp only [if_true] at hx ⊢
       obtain ⟨vsl',vh',ρ',Z',a1,a2,a3⟩:=hD K m _ _ _ _ hcf hyf (Z0n hC (ih true)) (Zw1 hC (ih true)) (W8.callF (W8.exec n true)) (W8.yieldF (W8.exec n false)) ops Y0 Yr h vh ρ Z _ H S hK hd (by simp only [Vm,Bool.and_eq_true,Bool.not_true,Bool.false_or] at Vj;exact Vj.2) hx
       exact ⟨vsl',vh',ρ',Z',by rw [a1];rfl,a2,a3⟩
     | false=>
       simp only [Bool.false_eq_true,if_false] at hx ⊢
       obtain ⟨vsl',vh',ρ',Z',a1,a2,a3⟩:=Z0s hcf hyf ops.toList H S hK hd hx
       exact ⟨vsl',vh',ρ',Z',by rw [a1];rfl,a2,a3⟩
   | seq a b=>
     simp only [Vm,Bool.and_eq_true] at Vj
     rw [Pure.exec] at he
     try dsimp only at he
     rw [Virt.exec]
     try dsimp only
     split at he
     .rename_i Rc h1 hx
      obtain ⟨Zdh,vh1,ρ1,Z1,a1,a2,a3⟩:=hi _ _ _ _ _ _ _ _ hx Vj.1 ρ Z vh Yr H hK S
      rw [a1]
      try dsimp only
      obtain ⟨Z5o,Vi,ρ2,Z2,b1,b2,b3⟩:=hi _ _ _ _ _ _ _ _ he Vj.2 ρ1 Z1 vh1 Zdh a3.hp ⟨hK.1,Nat.le_trans hK.2 a3.next⟩ a2
      exact ⟨Z5o,Vi,ρ2,Z2,b1,b2,a3.trans H b3⟩
     .rename_i Ys
      obtain ⟨Zdh,vh1,ρ1,Z1,a1,a2,a3⟩:=hi _ _ _ _ _ _ _ _ he Vj.1 ρ Z vh Yr H hK S
      rw [a1]
      cases x with
      | normal=>exact absurd he (Ys _ _)
      | exit id=>exact ⟨Zdh,vh1,ρ1,Z1,rfl,a2,a3⟩
      | ret=>exact ⟨Zdh,vh1,ρ1,Z1,rfl,a2,a3⟩
   | cond c a b=>
     simp only [Vm,Bool.and_eq_true] at Vj
     rw [Pure.exec] at he
     try dsimp only at he
     rw [Virt.exec]
     try dsimp only
     split at he
     .rename_i hc
      obtain ⟨w,h1,h2⟩:=Zl S hc
      rw [h1,h2.bool_inv]
      exact hi _ _ _ _ _ _ _ _ he Vj.1 ρ Z vh Yr H hK S
     .rename_i hc
      obtain ⟨w,h1,h2⟩:=Zl S hc
      rw [h1,h2.bool_inv]
      exact hi _ _ _ _ _ _ _ _ he Vj.2 ρ Z vh Yr H hK S
     .cases he
   | block id b=>
     rw [Pure.exec] at he
     try dsimp only at he
     rw [Virt.exec]
     try dsimp only
     split at he
     .rename_i id' Rc h1 hx
      obtain ⟨Zdh,vh1,ρ1,Z1,a1,a2,a3⟩:=hi _ _ _ _ _ _ _ _ hx Vj ρ Z vh Yr H hK S
      rw [a1]
      try dsimp only
      split at he
      .rename_i e
       cases he
       exact ⟨Zdh,vh1,ρ1,Z1,by rw [if_pos e],a2,a3⟩
      .rename_i e
       cases he
       exact ⟨Zdh,vh1,ρ1,Z1,by rw [if_neg e],a2,a3⟩
     .rename_i Ys
      obtain ⟨Zdh,vh1,ρ1,Z1,a1,a2,a3⟩:=hi _ _ _ _ _ _ _ _ he Vj ρ Z vh Yr H hK S
      rw [a1]
      cases x with
      | exit id=>exact absurd he (Ys _ _ _)
      | normal=>exact ⟨Zdh,vh1,ρ1,Z1,rfl,a2,a3⟩
      | ret=>exact ⟨Zdh,vh1,ρ1,Z1,rfl,a2,a3⟩
   | loop b=>
     rw [Pure.exec] at he
     try dsimp only at he
     rw [Virt.exec]
     try dsimp only
     split at he
     .rename_i Rc h1 hx
      obtain ⟨Zdh,vh1,ρ1,Z1,a1,a2,a3⟩:=hi _ _ _ _ _ _ _ _ hx Vj ρ Z vh Yr H hK S
      rw [a1]
      try dsimp only
      obtain ⟨Z5o,Vi,ρ2,Z2,b1,b2,b3⟩:=hi _ _ _ _ _ _ _ _ he Vj ρ1 Z1 vh1 _ a3.hp ⟨hK.1,Nat.le_trans hK.2 a3.next⟩ (S.keep a2 (Zyj _ _ _ _ _ _ _ _ a1))
      exact ⟨Z5o,Vi,ρ2,Z2,b1,b2,a3.trans H b3⟩
     .rename_i Ys
      obtain ⟨Zdh,vh1,ρ1,Z1,a1,a2,a3⟩:=hi _ _ _ _ _ _ _ _ he Vj ρ Z vh Yr H hK S
      rw [a1]
      cases x with
      | normal=>exact absurd he (Ys _ _)
      | exit id=>exact ⟨Zdh,vh1,ρ1,Z1,rfl,a2,a3⟩
      | ret=>exact ⟨Zdh,vh1,ρ1,Z1,rfl,a2,a3⟩
   | rangeFunc f ps as bd=>
     simp only [Vm,Bool.and_eq_true] at Vj
     rw [Pure.exec] at he
     try dsimp only at he
     rw [Virt.exec]
     try dsimp only
     split at he
     .rename_i hr
      rw [if_pos hr]
      split at he
      .rename_i g first captured hf
       obtain ⟨w,Wi,Wr⟩:=Zl S hf
       cases Wr with
       | d h=>cases h
       | fn g first captured a' c' r1 r2=>
         rw [Wi]
         try dsimp only
         split at he
         .rename_i Y5
          split at he
          .rename_i u h2 Zh1
           have H1:HP C ρ Z vh {h with next:=h.next+1}:=H.sub rfl (fun i x hx=>Nat.lt_succ_of_lt (H.lt i x hx)) rfl (Nat.le_refl _) H.wr
           have Zhx:h.get h.next=none:=by
            cases e:h.get h.next with
            | none=>rfl
            | some y=>exact absurd (H.lt _ _ e) (Nat.lt_irrefl _)
           have hKl:K.lo<=h.next:=by have:=hK.1;have:=hK.2;omega
           have Zv:can K h.next=true:=by unfold can;rw [Bool.or_eq_true,Nat.ble_eq];exact .inl hKl
           have Zaae:∀ q,q≠vh.next->(vh.new (.loop Yr ps.toList as bd)).get q=vh.get q:=fun q hq=>by simp [VH.new,Tu hq]
           have stL:=HP.change (K:=K) (vh':=vh.new (.loop Yr ps.toList as bd)) (ver':=0) (p:=vh.next) (o:=.loop K Y0 ps.toList as bd) H1 (.inl rfl) (i:=h.next) (Nat.lt_succ_self _) Zv (fun Zg o' hh=>by
             have hh':h.get h.next=some (Zg,o'):=hh
             rw [Zhx] at hh';cases hh') (by simp [VH.new]) (.inr (Nat.le_refl _)) (by simp [VH.new]) (Nat.le_refl _) (fun hlt=>by omega)
            (fun q hq _=>Zaae q hq) (fun y hy=>by
              have hy':h.get h.next=some y:=hy
              rw [Zhx] at hy';cases hy') (Rd H) (fun q y hq=>by
               by_cases e:q=vh.next
               .subst e;simp [VH.new]
               .rw [Zaae q e] at hq
                have:=H.vlt _ _ hq
                simp only [VH.new];omega) (fun ρ' vf' _ _ hE=>.loop K m Y0 Yr ps.toList as bd (Rd H) (by simp [VH.new]) (S.mono hE (Wn.le.refl _)) hK.1 hK.2 Vj.1 Vj.2)
           have Zw3:St C K ρ Z h vh (fun j=>if j=h.next then vh.next else ρ j) Z ({h.put h.next 0 (.loop K Y0 ps.toList as bd) with next:=h.next+1}:PH) (vh.new (.loop Yr ps.toList as bd)):=
            ⟨stL.hp,stL.ext,stL.sig,Nat.le_succ _,stL.vnext,stL.wr,fun i hi=>stL.keep i hi,fun i Zg o T8 ho=>stL.same i Zg o T8 ho,fun i x hx=>stL.plc i x hx,fun i x hx hc=>stL.vkeep i x hx hc,fun q hq hn hi=>stL.vnone q hq hn hi,fun b h1 h2 h3=>stL.low b h1 h2 h3⟩
           have hyv:R C (fun j=>if j=h.next then vh.next else ρ j) (Zm ({h.put h.next 0 (.loop K Y0 ps.toList as bd) with next:=h.next+1}:PH)) Z (.yield h.next 0) (.func (.yield vh.next) #[] #[]):=.yield h.next 0 0 vh.next (by simp [Zm,PH.put]) (Nat.le_refl _) (fun _=>by simp)
           obtain ⟨v,Vi,ρ2,Z2,q1,q2,q3⟩:=hcf g _ _ _ Zh1 _ _ _ (a'.toList++[.func (.yield vh.next) #[] #[]]++c'.toList) Zw3.hp ⟨hK.1,Nat.le_succ_of_le hK.2⟩ (((r1.mono Zw3.ext Zw3.sig).append (.cons hyv .nil)).append (r2.mono Zw3.ext Zw3.sig))
           have q1':Virt.callF C (Virt.exec C n true) g (a'.toList++[Value.func (Fn.yield vh.next) #[] #[]]++c'.toList) (vh.new (.loop Yr ps.toList as bd))=some (v,Vi):=q1
           rw [q1']
           try dsimp only
           split at he
           .rename_i K1 Rc ps1 as1 bd1 hl
            cases he
            have st2:=Zw3.trans H q3
            have Zdm:ρ2 h.next=vh.next:=by
             obtain ⟨c1,k1,_,k3⟩:=q3.ext h.next 0 (by simp [Zm,PH.put])
             rw [Zq.2 ⟨_,hl⟩] at k1
             cases k1
             have:=k3 rfl
             simpa using this
            cases q3.hp.obj _ _ _ hl with
            | loop K1 n1 Rc Zdh ps1 as1 bd1 z1 g1 s1 k1 b1 d1 d2=>
              rw [Zdm] at g1 z1
              rw [g1]
              try dsimp only
              have st3:=Zgx (K:=K) (ob:=.gone) (vo:=none) q3.hp hl hKl (by rw [Zdm];exact z1) fun ρ' vf' _=>.gone (q3.hp.rho_lt hl) (by rw [Zdm];exact z1)
              rw [Zjm,Zdm] at st3
              have st4:=st2.trans H st3
              exact ⟨Yr,_,ρ2,Z2,rfl,S.mono st4.ext st4.sig,st4⟩
           .cases he
          .cases he
         .cases he
      .cases he
     .cases he
   | _=>simp [Pure.exec] at he
end
end Go.Pure
end
section
namespace Go.Pure
open Go Go.Virt
section
variable {C:Ctx} {cf yf:Nat->List Value->VH->Option (Value×VH)} {pcf:CF} {pyf:YF} {K K':Loc} {n:Nat} {all:List Oper} {Y0:Yn} {Yr:SL} {h:PH} {vh:VH} {ρ:Nat->Nat} {Z:Wn} {o:Oper} {r:PV×PH}
theorem Z5s {t:TypeId} {a x:Operand} {m:List Nat×Nat} (ho:o.op=.store t a x) (ht:Xj C K Y0 h o=some m) (hc:∀ i∈m.1,can K' i=true) (he:Zj C pcf pyf all K Y0 h o=some r):Zj C pcf pyf all K' Y0 h o=some r:=by
 simp only [Xj,ho] at ht
 simp only [Zj,ho] at he ⊢
 split at he
 .rename_i ty i Zg off v h1 h2 h3
  rw [h2,h3] at ht
  simp only [Option.some.injEq] at ht
  subst ht
  split at he
  .rename_i hh
   rw [if_pos ⟨hh.1,hh.2.1,hc i (by simp)⟩]
   exact he
  .cases he
 .rename_i ty i Zg g ix off v0 h1 h2 h3
  rw [h2,h3] at ht
  simp only [Option.some.injEq] at ht
  subst ht
  split at he
  .cases he
  .rename_i v h4
   split at he
   .rename_i hh
    rw [if_pos ⟨hh.1,hh.2.1,hh.2.2.1,hc i (by simp),List.all_eq_true.2 fun j hj=>hc j (by simp [hj])⟩]
    exact he
   .cases he
 .cases he
theorem Znf {d g:Nat} {ty:Ty} {k:Nat} {ys:List PV} {s:PV} (hb:K'.base=K.base+d) (hc:∀ i Zg g' off len,s=.own i Zg g' off len->can K' i=true) {q:PV×PH} (he:Xv K h d g ty k ys s=some q):Xv K' h 0 g ty k ys s=some q:=by
 unfold Xv at he ⊢
 split at he
 .rw [hb,Nat.add_zero];exact he
 .rename_i i Zg g' off len
  try dsimp only
  split at he
  .rename_i hh
   rw [if_pos ⟨hh.1,hh.2.1,hh.2.2.1,hh.2.2.2.1,hc _ _ _ _ _ rfl⟩]
   exact he
  .cases he
 .cases he
theorem Z34 {c:Call} {d:Nat} {m:List Nat×Nat} (ho:o.op=.call c) (X8:c.callee=.builtin .append) (hd:o.dst=some d) (ht:Xj C K Y0 h o=some m) (hb:K'.base=K.base+d) (hc:∀ i∈m.1,can K' i=true) {pcf':CF} {pyf':YF} (he:Zj C pcf pyf all K Y0 h o=some r):
  Zj C pcf' pyf' all K' Y0 h {o with dst:=some 0}=some r:=by
 simp only [Xj,ho,X8,hd] at ht
 simp only [Zj,ho,X8,hd] at he ⊢
 cases hl:c.args.toList with
 | nil=>rw [hl] at ht;cases ht
 | cons x0 rest=>
   rw [hl] at ht he
   simp only [Wk] at he ⊢
   try dsimp only at ht
   cases h0:Yq Y0 x0 with
   | none=>rw [h0] at ht;cases ht
   | some s=>
     rw [h0] at ht he
     have hs:∀ i Zg g' off len,s=.own i Zg g' off len->can K' i=true:=by
      rintro i Zg g' off len rfl
      simp only [Option.some.injEq] at ht
      subst ht
      exact hc i (by simp)
     cases hr:Wk Y0 rest with
     | none=>rw [hr] at he;cases he
     | some vs=>
       rw [hr] at he
       cases vs with
       | nil=>cases he
       | cons x tail=>
         cases tail with
         | cons _ _=>cases he
         | nil=>
           dsimp only at he ⊢
           split at he
           .rename_i ts tx dd e1 e2 e3
            cases e3
            rw [e1,e2]
            dsimp only
            split at he
            .rename_i e hk
             try rw [hk]
             try dsimp only
             split at he
             .rename_i te Vf
              try rw [Vf]
              try dsimp only
              split at he
              .rename_i k hki
               try rw [hki]
               try dsimp only
               split at he
               .try dsimp only
                rw [hb,Nat.add_zero];exact he
               .cases he
              .rename_i hnk
               split at he
               .split at he
                .rename_i hh
                 try rw [if_pos hh]
                 exact Znf hb hs he
                .cases he
               .split at he
                .rename_i ys hys
                 try rw [hys]
                 exact Znf hb hs he
                .cases he
             .cases he
            .cases he
           .cases he
theorem Zdg {m:List Nat×Nat} {u b:Nat} (hu:X2 (some m) u=true) (hb:b=m.2):can {base:=b,lo:=b,ok:=m.1} u=false:=by
 unfold X2 at hu
 simp only [Bool.and_eq_true,Bool.not_eq_true',Nat.blt_eq] at hu
 unfold can
 rw [Bool.or_eq_false_iff]
 constructor
 .rw [<- Bool.not_eq_true,Nat.ble_eq]
  show ¬ b<=u
  omega
 .rw [<- Bool.not_eq_true]
  intro hh
  obtain ⟨i,hi,hbq⟩:=List.any_eq_true.1 hh
  rw [Nat.beq_eq] at hbq
  subst hbq
  have:=hu.1
  rw [<- Bool.not_eq_true] at this
  exact this (List.any_eq_true.2 ⟨u,hi,Nat.beq_refl u⟩)
theorem Zv6 {m:List Nat} {b i:Nat} (hi:i∈m):can {base:=b,lo:=b,ok:=m} i=true:=by
 unfold can
 rw [Bool.or_eq_true]
 exact .inr (List.any_eq_true.2 ⟨i,hi,Nat.beq_refl i⟩)
theorem Zi8 (hts:Zcw C pcf cf) (H:HP C ρ Z vh h) (S:SR C ρ (Zm h) Z Y0 Yr) (hn:K.base+n<=h.next) (hd:∀ d,o.dst=some d->d < n) (he:Zj C pcf pyf all K Y0 h o=some r) {w:Value} {vh1:VH} (Xk:Y7 C cf yf Yr vh o=some (w,vh1))
  {u:Nat} (hu:X2 (Xj C K Y0 h o) u=true) (hx:∃ x,h.get u=some x):vh1.get (ρ u)=vh.get (ρ u)/\r.2.get u=h.get u:=by
 obtain ⟨x,hx⟩:=hx
 cases ht:Xj C K Y0 h o with
 | none=>rw [ht] at hu;cases hu
 | some m=>
   rw [ht] at hu
   cases ho:o.op with
   | store t a y=>
     have hm2:m.2=h.next:=by
      simp only [Xj,ho] at ht
      split at ht
      .cases ht;rfl
      .cases ht;rfl
      .cases ht
     obtain ⟨v,vh',ρ',Z',q1,q2,q3⟩:=Zl1 (K:={base:=m.2,lo:=m.2,ok:=m.1}) (cf:=cf) (yf:=yf) H S ho (Z5s (K':={base:=m.2,lo:=m.2,ok:=m.1}) ho ht (fun i hi=>Zv6 hi) he)
     rw [Xk] at q1
     cases q1
     exact ⟨q3.vkeep u x hx (Zdg hu rfl),q3.keep u (Zdg hu rfl)⟩
   | call c=>
     cases X8:c.callee with
     | builtin b=>
       cases b with
       | append=>
         cases hdd:o.dst with
         | none=>
           simp only [Xj,ho,X8,hdd] at ht
           split at ht
           .rename_i hh;cases hh
           .cases ht
         | some d=>
           have hm2:m.2=K.base+d:=by
            simp only [Xj,ho,X8,hdd] at ht
            split at ht
            .rename_i hh
             cases hh
             split at ht
             .cases ht;rfl
             .cases ht;rfl
             .cases ht
            .cases ht
           have hK1:m.2+1<=h.next:=by
            have h9:=hd d hdd
            rw [hm2]
            exact Nat.le_trans (Nat.add_le_add_left (Nat.succ_le_of_lt h9) K.base) hn
           have hop':Y7 C cf yf Yr vh {o with dst:=some 0}=some (w,vh1):=Xk
           have he':=Z34 (K':={base:=m.2,lo:=m.2,ok:=m.1}) (pcf':=fun _ _ _ _=>none) (pyf':=fun _ _ _ _ _=>none) ho X8 hdd ht hm2 (fun i hi=>Zv6 hi) he
           obtain ⟨v,vh',ρ',Z',q1,q2,q3⟩:=Zr2 (K:={base:=m.2,lo:=m.2,ok:=m.1}) (n:=1) (cf:=cf) (yf:=yf) (pcf:=fun _ _ _ _=>none) (pyf:=fun _ _ _ _ _=>none) (o:={o with dst:=some 0}) (fun _ _ _ _ hh=>by cases hh) (fun _ _ _ _ _ hh=>by cases hh) H S ⟨Nat.le_refl _,hK1⟩ (fun d' hd'=>by cases hd';exact Nat.zero_lt_one) ho he'
           rw [hop'] at q1
           cases q1
           exact ⟨q3.vkeep u x hx (Zdg hu rfl),q3.keep u (Zdg hu rfl)⟩
       | _=>simp only [Xj,ho,X8] at ht;cases ht
     | invoke a b=>simp only [Xj,ho,X8] at ht;cases ht
     | value f=>
       simp only [Xj,ho,X8] at ht
       split at ht
       .rename_i g first captured args hf Xn
        split at ht
        .cases ht
        .rename_i Y5
         split at ht
         .rename_i Zx hm
          cases ht
          simp only [Zj,ho,Xn,X8,hf] at he
          obtain ⟨X3,Rv,Qh⟩:=Td S Xn
          obtain ⟨w0,Wi,Wr⟩:=Zl S hf
          cases Wr with
          | d h=>cases h
          | fn g a c2 a' c' r1 r2=>
            simp only [Y7,ho,Ue,Rv,X8,Wi] at Xk
            refine hts K g _ h r.1 r.2 he (by simpa using Y5) Zx hm ρ Z vh _ H ((r1.append Qh).append r2) w vh1 Xk u ?_ ⟨x,hx⟩
            intro hh
            unfold X2 at hu
            simp only [Bool.and_eq_true,Bool.not_eq_true'] at hu
            have:=hu.1
            rw [<- Bool.not_eq_true] at this
            exact this (List.any_eq_true.2 ⟨u,hh,Nat.beq_refl u⟩)
         .cases ht
       .cases ht
   | _=>simp only [Xj,ho] at ht;cases ht
end
end Go.Pure
end
