/- How a plain run's state stands to a virtual one's. -/
import Derived.Test.YtabcdhcpilpojaaGreatDoorPA
import Derived.MapKept
set_option linter.unusedSimpArgs false
set_option linter.unusedVariables false
section
namespace Go.Pure
open Go Go.Virt
structure SE where
 cells:List Value
 e:Nat
 own:Bool
 tag:Option Nat
abbrev Vf:=Nat->Option SE
mutual
inductive RD (C:Ctx)(Z:Vf):PV->Value->Prop
 |bool (b:Bool):RD C Z (.bool b) (.bool b)
 |int (k:IntKind) (n:Int):RD C Z (.int k n) (.int k n)
 |str (b:ByteArray):RD C Z (.str (b.data.toList.map UInt8.toNat)) (.string b)
 |nilp:RD C Z .nilp (.pointer none)
 |nils:RD C Z .nils (.slice none 0 0)
 |nilm:RD C Z .nilm (.map none)
 |nilf:RD C Z .nilf .nilFunc
 |nili:RD C Z .nili .nilIface
 |lst (g:Nat) (xs:List PV) (Zy o cap:Nat) (s:SE) (Wg:List Value) (ty:Ty) (hs:Z Zy=some s) (he:s.e=ty.size) (ht:s.tag=none\/s.tag=some g) (Rn:C.T g=some ty)
   (hr:readN s.cells o (xs.length*ty.size)=some Wg) (hx:RDs C Z (xs.flatMap Zd) Wg) (hl:∀x∈xs,(Zd x).length=ty.size):RD C Z (.lst g xs) (.slice (some ⟨Zy,o,none⟩) xs.length cap)
 |iface (t:Nat) (x:PV) (v:Value) (h:RD C Z x v):RD C Z (.iface t x) (.iface t v)
 |agg (cs:List PV) (cs':Array Value) (h:RDs C Z cs cs'.toList):RD C Z (.agg cs) (.agg cs')
inductive RDs (C:Ctx)(Z:Vf):List PV->List Value->Prop
 |nil:RDs C Z [] []
 |cons {x:PV} {v:Value} {l:List PV} {l':List Value} (h:RD C Z x v) (r:RDs C Z l l'):RDs C Z (x::l) (v::l')
end
mutual
inductive R (C:Ctx)(ρ:Nat->Nat)(vf:Nat->Option Nat)(Z:Vf):PV->Value->Prop
 |d {x:PV} {v:Value} (h:RD C Z x v):R C ρ vf Z x v
 |own (i Zc g off len c:Nat) (a:Addr) (cap:Nat) (ty:Ty) (hi:vf i=some c) (hv:Zc<=c) (hp:a.spot=none) (ht:C.T g=some ty) (ha:Zc=c->a=⟨ρ i,off*ty.size,none⟩):R C ρ vf Z (.own i Zc g off len) (.slice (some a) len cap)
 |ptr (i Zc off c:Nat) (a:Addr) (hi:vf i=some c) (hv:Zc<=c) (hp:a.spot=none) (ha:Zc=c->a=⟨ρ i,off,none⟩):R C ρ vf Z (.ptr i Zc off) (.pointer (some a))
 |eptr (i Zc g ix off c:Nat) (a:Addr) (ty:Ty) (hi:vf i=some c) (hv:Zc<=c) (hp:a.spot=none) (ht:C.T g=some ty) (ha:Zc=c->a=⟨ρ i,ix*ty.size+off,none⟩):R C ρ vf Z (.eptr i Zc g ix off) (.pointer (some a))
 |rptr (cs:List PV) (Zy o:Nat) (s:SE) (Wg:List Value) (hs:Z Zy=some s) (hr:readN s.cells o cs.length=some Wg) (hx:RDs C Z cs Wg):R C ρ vf Z (.rptr cs) (.pointer (some ⟨Zy,o,none⟩))
 |map (i Zc c w:Nat) (hi:vf i=some c) (hv:Zc<=c) (ha:Zc=c->w=ρ i):R C ρ vf Z (.map i Zc) (.map (some w))
 |fn (f:Nat) (a c:List PV) (a' c':Array Value) (h1:Rs C ρ vf Z a a'.toList) (h2:Rs C ρ vf Z c c'.toList):R C ρ vf Z (.fn f a c) (.func (.func f) a' c')
 |yield (i Zc c w:Nat) (hi:vf i=some c) (hv:Zc<=c) (ha:Zc=c->w=ρ i):R C ρ vf Z (.yield i Zc) (.func (.yield w) #[] #[])
 |iface (t:Nat) (x:PV) (v:Value) (h:R C ρ vf Z x v):R C ρ vf Z (.iface t x) (.iface t v)
 |agg (cs:List PV) (cs':Array Value) (h:Rs C ρ vf Z cs cs'.toList):R C ρ vf Z (.agg cs) (.agg cs')
 |tuple (cs:List PV) (cs':Array Value) (h:Rs C ρ vf Z cs cs'.toList):R C ρ vf Z (.tuple cs) (.tuple cs')
inductive Rs (C:Ctx)(ρ:Nat->Nat)(vf:Nat->Option Nat)(Z:Vf):List PV->List Value->Prop
 |nil:Rs C ρ vf Z [] []
 |cons {x:PV} {v:Value} {l:List PV} {l':List Value} (h:R C ρ vf Z x v) (r:Rs C ρ vf Z l l'):Rs C ρ vf Z (x::l) (v::l')
end
def Vf.le (Z Z':Vf):Prop:=∀Zy s,Z Zy=some s->Z' Zy=some s
theorem Vf.le.refl (Z:Vf):Z.le Z:=fun Zy s h=>h
theorem Vf.le.trans {A B D:Vf}(h:A.le B)(k:B.le D):A.le D:=fun Zy s ha=>k _ _ (h _ _ ha)
def Rd (ρ:Nat->Nat)(vf:Nat->Option Nat)(YB:Nat->Nat)(vf':Nat->Option Nat):Prop:=
 ∀i c,vf i=some c->∃c',vf' i=some c'/\c<=c'/\(c'=c->YB i=ρ i)
theorem Rd.refl (ρ:Nat->Nat)(vf:Nat->Option Nat):Rd ρ vf ρ vf:=fun i c h=>⟨c,h,Nat.le_refl _,fun _=>rfl⟩
theorem Rd.trans {ρ YB ρ'':Nat->Nat}{vf vf' vf'':Nat->Option Nat}(h:Rd ρ vf YB vf')(k:Rd YB vf' ρ'' vf''):Rd ρ vf ρ'' vf'':=fun i c hc=>by
 obtain⟨c1,h1,l1,e1⟩:=h i c hc;obtain⟨c2,h2,l2,e2⟩:=k i c1 h1;refine⟨c2,h2,Nat.le_trans l1 l2,fun e=>?_⟩;have:c1=c:=by omega
 subst this;rw[e2 e,e1 rfl]
section
variable {C:Ctx}{Z Z':Vf}{ρ YB:Nat->Nat}{vf vf':Nat->Option Nat}
mutual
theorem RD.mono (hz:Z.le Z'):∀ {x:PV} {v:Value},RD C Z x v->RD C Z' x v
 | _,_,.bool b=>.bool b
 | _,_,.int k n=>.int k n
 | _,_,.str b=>.str b
 | _,_,.nilp=>.nilp
 | _,_,.nils=>.nils
 | _,_,.nilm=>.nilm
 | _,_,.nilf=>.nilf
 | _,_,.nili=>.nili
 | _,_,.lst g xs Zy o cap s Wg ty hs he ht Rn hr hx hl=>by
   exact .lst g xs Zy o cap s Wg ty (hz _ _ hs) he ht Rn hr (RDs.mono hz hx) hl
 | _,_,.iface t x v h=>.iface t x v (RD.mono hz h)
 | _,_,.agg cs cs' h=>.agg cs cs' (RDs.mono hz h)
theorem RDs.mono (hz:Z.le Z'):∀ {l:List PV} {l':List Value},RDs C Z l l'->RDs C Z' l l'
 | _,_,.nil=>.nil
 | _,_,.cons h r=>.cons (RD.mono hz h) (RDs.mono hz r)
end
mutual
theorem R.mono (he:Rd ρ vf YB vf')(hz:Z.le Z'):∀ {x:PV} {v:Value},R C ρ vf Z x v->R C YB vf' Z' x v
 | _,_,.d h=>.d (h.mono hz)
 | _,_,.own i Zc g off len c a cap ty hi hv hp ht ha=>by
   obtain⟨c',h1,l1,e1⟩:=he i c hi;exact .own i Zc g off len c' a cap ty h1 (by omega) hp ht (fun e=>by rw[e1 (by omega)];exact ha (by omega))
 | _,_,.ptr i Zc off c a hi hv hp ha=>by
   obtain⟨c',h1,l1,e1⟩:=he i c hi;exact .ptr i Zc off c' a h1 (by omega) hp (fun e=>by rw[e1 (by omega)];exact ha (by omega))
 | _,_,.eptr i Zc g ix off c a ty hi hv hp ht ha=>by
   obtain⟨c',h1,l1,e1⟩:=he i c hi;exact .eptr i Zc g ix off c' a ty h1 (by omega) hp ht (fun e=>by rw[e1 (by omega)];exact ha (by omega))
 | _,_,.rptr cs Zy o s Wg hs hr hx=>.rptr cs Zy o s Wg (hz _ _ hs) hr (hx.mono hz)
 | _,_,.map i Zc c w hi hv ha=>by
   obtain⟨c',h1,l1,e1⟩:=he i c hi;exact .map i Zc c' w h1 (by omega) (fun e=>by rw[e1 (by omega)];exact ha (by omega))
 | _,_,.fn f a c a' c' h1 h2=>.fn f a c a' c' (Rs.mono he hz h1) (Rs.mono he hz h2)
 | _,_,.yield i Zc c w hi hv ha=>by
   obtain⟨c',h1,l1,e1⟩:=he i c hi;exact .yield i Zc c' w h1 (by omega) (fun e=>by rw[e1 (by omega)];exact ha (by omega))
 | _,_,.iface t x v h=>.iface t x v (R.mono he hz h)
 | _,_,.agg cs cs' h=>.agg cs cs' (Rs.mono he hz h)
 | _,_,.tuple cs cs' h=>.tuple cs cs' (Rs.mono he hz h)
theorem Rs.mono (he:Rd ρ vf YB vf')(hz:Z.le Z'):∀ {l:List PV} {l':List Value},Rs C ρ vf Z l l'->Rs C YB vf' Z' l l'
 | _,_,.nil=>.nil
 | _,_,.cons h r=>.cons (R.mono he hz h) (Rs.mono he hz r)
end
theorem RDs.length {l:List PV}{l':List Value}(h:RDs C Z l l'):l'.length=l.length:=by
 induction l generalizing l' with
 |nil=>cases h;rfl
 |cons v l ih=>cases h with | cons h r=>simp[ih r]
theorem Rs.length {l:List PV}{l':List Value}(h:Rs C ρ vf Z l l'):l'.length=l.length:=by
 induction l generalizing l' with
 |nil=>cases h;rfl
 |cons v l ih=>cases h with | cons h r=>simp[ih r]
theorem RDs.up {l:List PV}{l':List Value}(h:RDs C Z l l'):Rs C ρ vf Z l l':=by
 induction l generalizing l' with
 |nil=>cases h;exact .nil
 |cons v l ih=>cases h with | cons h r=>exact .cons (.d h) (ih r)
theorem RDs.append {a b:List PV}{a' b':List Value}(h:RDs C Z a a')(k:RDs C Z b b'):RDs C Z (a++b) (a'++b'):=by
 induction a generalizing a' with
 |nil=>cases h;exact k
 |cons v a ih=>cases h with | cons h r=>exact .cons h (ih r)
theorem Rs.append {a b:List PV}{a' b':List Value}(h:Rs C ρ vf Z a a')(k:Rs C ρ vf Z b b'):Rs C ρ vf Z (a++b) (a'++b'):=by
 induction a generalizing a' with
 |nil=>cases h;exact k
 |cons v a ih=>cases h with | cons h r=>exact .cons h (ih r)
theorem RDs.drop {l:List PV}{l':List Value}(h:RDs C Z l l'):∀n,RDs C Z (l.drop n) (l'.drop n):=by
 intro n
 induction n generalizing l l' with
 |zero=>simpa using h
 |succ n ih=>cases h with | nil=>exact .nil | cons h r=>simpa using ih r
theorem RDs.take {l:List PV}{l':List Value}(h:RDs C Z l l'):∀n,RDs C Z (l.take n) (l'.take n):=by
 intro n
 induction n generalizing l l' with
 |zero=>simpa using .nil
 |succ n ih=>cases h with | nil=>simpa using .nil | cons h r=>simpa using .cons h (ih r)
theorem Rs.drop {l:List PV}{l':List Value}(h:Rs C ρ vf Z l l'):∀n,Rs C ρ vf Z (l.drop n) (l'.drop n):=by
 intro n
 induction n generalizing l l' with
 |zero=>simpa using h
 |succ n ih=>cases h with | nil=>exact .nil | cons h r=>simpa using ih r
theorem Rs.take {l:List PV}{l':List Value}(h:Rs C ρ vf Z l l'):∀n,Rs C ρ vf Z (l.take n) (l'.take n):=by
 intro n
 induction n generalizing l l' with
 |zero=>simpa using .nil
 |succ n ih=>cases h with | nil=>simpa using .nil | cons h r=>simpa using .cons h (ih r)
theorem Rs.get {l:List PV}{l':List Value}(h:Rs C ρ vf Z l l'){j:Nat}{x:PV}(hj:l[j]?=some x):∃v,l'[j]?=some v/\R C ρ vf Z x v:=by
 induction l generalizing l' j with
 |nil=>simp at hj
 |cons u l ih=>
  cases h with
  |cons h r=>
   cases j with
   |zero=>simp at hj;subst hj;exact⟨_,by simp,h⟩
   |succ j=>simp at hj;obtain⟨v',h1,h2⟩:=ih r hj;exact⟨v',by simpa using h1,h2⟩
theorem Tc {cs:List Value}{off n:Nat}{r:List Value}:readN cs off n=some r↔r=(cs.drop off).take n/\(off+n<=cs.length\/n=0):=by
 unfold readN;simp only[List.length_take,List.length_drop];constructor
 .intro h;split at h
  .rename_i hl;cases h;exact⟨rfl,by omega⟩
  .cases h
 .rintro ⟨rfl,h⟩;rw[if_pos (by omega)]
theorem Rs.read {l:List PV}{l':List Value}(h:Rs C ρ vf Z l l'){off n:Nat}{r:List PV}(hr:X1 l off n=some r):∃r',readN l' off n=some r'/\Rs C ρ vf Z r r':=by
 unfold X1 at hr;split at hr
 .rename_i hl;cases hr;exact⟨(l'.drop off).take n,Tc.2 ⟨rfl,.inl (by rw[h.length];exact hl)⟩,(h.drop off).take n⟩
 .cases hr
theorem RDs.read {l:List PV}{l':List Value}(h:RDs C Z l l'){off n:Nat}{r:List PV}(hr:X1 l off n=some r):∃r',readN l' off n=some r'/\RDs C Z r r':=by
 unfold X1 at hr;split at hr
 .rename_i hl;cases hr;exact⟨(l'.drop off).take n,Tc.2 ⟨rfl,.inl (by rw[h.length];exact hl)⟩,(h.drop off).take n⟩
 .cases hr
theorem R4 {cs:List Value}{o m off n:Nat}{r r':List Value}(h:readN cs o m=some r)(h':readN r off n=some r')(hl:off+n<=m):readN cs (o+off) n=some r':=by
 obtain⟨rfl,h1⟩:=Tc.1 h;obtain⟨rfl,h2⟩:=Tc.1 h';refine Tc.2 ⟨?_,by omega⟩;rw[List.drop_take,List.drop_drop,List.take_take];congr 1;omega
theorem RD.cells {x:PV}{v:Value}(h:RD C Z x v):RDs C Z (Zd x) v.cells.toList:=by
 have h0:=h;cases h with
 |agg cs cs' h=>exact h
 | _=>exact .cons h0 .nil
theorem R.cells {x:PV}{v:Value}(h:R C ρ vf Z x v):Rs C ρ vf Z (Zd x) v.cells.toList:=by
 have h0:=h;cases h with
 |agg cs cs' h=>exact h
 |d h=>exact h.cells.up
 | _=>exact .cons h0 .nil
theorem R.cell {x:PV}{v:Value}(h:R C ρ vf Z x v)(hc:Wv x=true):cellB v=true:=by
 cases h with
 |d h=>cases h<;>simp_all[Wv,cellB]
 | _=>simp_all[Wv,cellB]
theorem Rs.cell {l:List PV}{l':List Value}(h:Rs C ρ vf Z l l')(hc:l.all Wv=true):l'.all cellB=true:=by
 induction l generalizing l' with
 |nil=>cases h;rfl
 |cons v l ih=>
  simp only[List.all_cons,Bool.and_eq_true]at hc;cases h with | cons h r=>simp[h.cell hc.1,ih r hc.2]
theorem Zha {l:List PV}{l':List Value}{b:Bool}{x:PV}(h:Rs C ρ vf Z l l')(hx:toP b l=some x):∃v,toV b l'=some v/\R C ρ vf Z x v:=by
 cases b with
 |true=>
  simp only[toP,if_true,Option.some.injEq]at hx;subst hx;exact⟨.agg l'.toArray,by simp[toV],.agg _ _ (by simpa using h)⟩
 |false=>
  cases h with
  |nil=>simp[toP]at hx
  |cons h r=>
   cases r with
   |nil=>
    simp[toP]at hx;subst hx;exact⟨_,by simp[toV],h⟩
   |cons _ _=>simp[toP]at hx
theorem Zg9 {l:List PV}{l':List Value}{b:Bool}{x:PV}(h:RDs C Z l l')(hx:toP b l=some x):∃v,toV b l'=some v/\RD C Z x v:=by
 cases b with
 |true=>
  simp only[toP,if_true,Option.some.injEq]at hx;subst hx;exact⟨.agg l'.toArray,by simp[toV],.agg _ _ (by simpa using h)⟩
 |false=>
  cases h with
  |nil=>simp[toP]at hx
  |cons h r=>
   cases r with
   |nil=>
    simp[toP]at hx;subst hx;exact⟨_,by simp[toV],h⟩
   |cons _ _=>simp[toP]at hx
mutual
theorem R6:∀(n:Nat) (v:Value) {x:PV},Zz n v=some x->RD C Z x v
 |n,.bool b,x,h=>by cases n<;>simp only[Zz,Option.some.injEq]at h<;>subst h<;>exact .bool b
 |n,.int k i,x,h=>by cases n<;>simp only[Zz,Option.some.injEq]at h<;>subst h<;>exact .int k i
 |n,.string s,x,h=>by cases n<;>simp only[Zz,Option.some.injEq]at h<;>subst h<;>exact .str s
 |n,.pointer none,x,h=>by cases n<;>simp only[Zz,Option.some.injEq]at h<;>subst h<;>exact .nilp
 |n,.pointer (some _),x,h=>by cases n<;>simp[Zz]at h
 |n,.slice none 0 0,x,h=>by cases n<;>simp only[Zz,Option.some.injEq]at h<;>subst h<;>exact .nils
 |n,.slice none (_+1) _,x,h=>by cases n<;>simp[Zz]at h
 |n,.slice none 0 (_+1),x,h=>by cases n<;>simp[Zz]at h
 |n,.slice (some _) _ _,x,h=>by cases n<;>simp[Zz]at h
 |n,.map none,x,h=>by cases n<;>simp only[Zz,Option.some.injEq]at h<;>subst h<;>exact .nilm
 |n,.map (some _),x,h=>by cases n<;>simp[Zz]at h
 |n,.nilFunc,x,h=>by cases n<;>simp only[Zz,Option.some.injEq]at h<;>subst h<;>exact .nilf
 |n,.nilIface,x,h=>by cases n<;>simp only[Zz,Option.some.injEq]at h<;>subst h<;>exact .nili
 | 0,.agg cs,x,h=>by simp[Zz]at h
 |n+1,.agg cs,x,h=>by
  simp only[Zz,Option.map_eq_some_iff]at h;obtain⟨l,hl,rfl⟩:=h;exact .agg _ _ (Zje n cs.toList hl)
 |n,.float _ _,x,h=>by cases n<;>simp[Zz]at h
 |n,.complex _ _ _,x,h=>by cases n<;>simp[Zz]at h
 |n,.chan _,x,h=>by cases n<;>simp[Zz]at h
 |n,.func _ _ _,x,h=>by cases n<;>simp[Zz]at h
 |n,.iface _ _,x,h=>by cases n<;>simp[Zz]at h
 |n,.tuple _,x,h=>by cases n<;>simp[Zz]at h
theorem Zje:∀(n:Nat) (l:List Value) {xs:List PV},Zz.go n l=some xs->RDs C Z xs l
 |n,[],xs,h=>by simp only[Zz.go,Option.some.injEq]at h;subst h;exact .nil
 |n,v::r,xs,h=>by
  simp only[Zz.go]at h;split at h
  .rename_i p ps hp Te;cases h;exact .cons (R6 n v hp) (Zje n r Te)
  .cases h
end
theorem R5 {l:List Value}{xs:List PV}(h:Zbf l=some xs):RDs C Z xs l:=Zje 0 l h
theorem Zpd {ty:Ty}{z:PV}(h:Q8 ty=some z):∃v,toV ty.k.agg ty.zero=some v/\RD C Z z v:=by
 unfold Q8 at h;rw[Option.bind_eq_some_iff]at h;obtain⟨l,hl,hz⟩:=h;exact Zg9 (R5 hl) hz
theorem Sy {a b:Nat}(h:a≠b):Nat.beq a b=false:=by
 cases e:Nat.beq a b
 .rfl
 .exact absurd (Nat.eq_of_beq_eq_true e) h
theorem Zuc (sl:SL)(d t:Nat)(v:Value):Xf (Zb0 sl d v) t=if d=t then some v else Xf sl t:=by
 induction sl with
 |nil=>
  simp only[Zb0,Xf];by_cases h:d=t
  .simp [h]
  .simp [h,Sy h]
 |cons x sl ih=>
  obtain⟨k,u⟩:=x;simp only[Zb0];by_cases hk:k=d
  .subst hk;simp only[Nat.beq_refl,cond_true,Xf];by_cases h:k=t
   .simp [h]
   .simp [h,Sy h]
  .have hk':Nat.beq k d=false:=Sy hk;simp only[hk',cond_false,Xf,ih];by_cases h:k=t
   .subst h;simp[Ne.symm hk]
   .have:Nat.beq k t=false:=Sy h;simp[this]
def SR (C:Ctx)(ρ:Nat->Nat)(vf:Nat->Option Nat)(Z:Vf)(Xi:Yt)(Y4:SL):Prop:=∀t x,Xi t=some x->∃v,Xf Y4 t=some v/\R C ρ vf Z x v
theorem SR.mono (he:Rd ρ vf YB vf')(hz:Z.le Z'){Xi:Yt}{Y4:SL}(S:SR C ρ vf Z Xi Y4):SR C YB vf' Z' Xi Y4:=fun t x h=>by
 obtain⟨v,h1,h2⟩:=S t x h;exact⟨v,h1,h2.mono he hz⟩
theorem SR.put {Xi:Yt}{Y4:SL}(S:SR C ρ vf Z Xi Y4)(d:Nat){x:PV}{v:Value}(h:R C ρ vf Z x v):SR C ρ vf Z (Xi.put d x) (Zb0 Y4 d v):=fun t y hy=>by
 rw[Zuc];unfold Yt.put at hy;by_cases e:d=t
 .subst e;simp at hy ⊢;subst hy;exact h
 .rw [if_neg (fun h=>e h.symm)]at hy;simp only[e,if_false];exact S t y hy
theorem SR.putP {Xi:Yt}{Y4:SL}(S:SR C ρ vf Z Xi Y4)(d:Option Nat){x:PV}{v:Value}(h:R C ρ vf Z x v):SR C ρ vf Z (putP Xi d x) (putV Y4 d v):=by
 cases d with
 |none=>exact S
 |some d=>exact S.put d h
theorem Z6v {Xi:Yt}{Y4:SL}(S:SR C ρ vf Z Xi Y4){o:Operand}{x:PV}(h:Yx Xi o=some x)(Zei:∀v,o=.const v->flat 4 v=true):∃v,opd C Y4 o=some v/\R C ρ vf Z x v:=by
 cases o with
 |tmp t=>exact S t x h
 |const v=>
  simp only[Yx]at h;refine⟨v,?_,.d (R6 3 v h)⟩;simp only[opd];rw[if_pos (Zei v rfl)]
 |global g=>simp[Yx]at h
 |func f=>
  simp only[Yx,Option.some.injEq]at h;subst h;exact⟨_,rfl,.fn f [] [] #[] #[] .nil .nil⟩
mutual
theorem Zd4:∀(n:Nat) (v:Value) {x:PV},Zz n v=some x->flat n v=true
 |n,.bool b,x,h=>by cases n<;>rfl
 |n,.int k i,x,h=>by cases n<;>rfl
 |n,.string s,x,h=>by cases n<;>rfl
 |n,.pointer none,x,h=>by cases n<;>rfl
 |n,.pointer (some _),x,h=>by cases n<;>simp[Zz]at h
 |n,.slice none 0 0,x,h=>by cases n<;>rfl
 |n,.slice none (_+1) _,x,h=>by cases n<;>simp[Zz]at h
 |n,.slice none 0 (_+1),x,h=>by cases n<;>simp[Zz]at h
 |n,.slice (some _) _ _,x,h=>by cases n<;>simp[Zz]at h
 |n,.map none,x,h=>by cases n<;>rfl
 |n,.map (some _),x,h=>by cases n<;>simp[Zz]at h
 |n,.nilFunc,x,h=>by cases n<;>rfl
 |n,.nilIface,x,h=>by cases n<;>rfl
 | 0,.agg cs,x,h=>by simp[Zz]at h
 |n+1,.agg cs,x,h=>by
  simp only[Zz,Option.map_eq_some_iff]at h;obtain⟨l,hl,rfl⟩:=h;simp only[flat];exact Zft n cs.toList hl
 |n,.float _ _,x,h=>by cases n<;>simp[Zz]at h
 |n,.complex _ _ _,x,h=>by cases n<;>simp[Zz]at h
 |n,.chan _,x,h=>by cases n<;>simp[Zz]at h
 |n,.func _ _ _,x,h=>by cases n<;>simp[Zz]at h
 |n,.iface _ _,x,h=>by cases n<;>simp[Zz]at h
 |n,.tuple _,x,h=>by cases n<;>simp[Zz]at h
theorem Zft:∀(n:Nat) (l:List Value) {xs:List PV},Zz.go n l=some xs->l.all (flat n)=true
 |n,[],xs,h=>rfl
 |n,v::r,xs,h=>by
  simp only[Zz.go]at h;split at h
  .rename_i p ps hp Te;simp only[List.all_cons,Bool.and_eq_true];exact⟨Zd4 n v hp,Zft n r Te⟩
  .cases h
end
theorem Z4h:∀(n:Nat) (v:Value),flat n v=true->flat (n+1) v=true:=by
 intro n
 induction n with
 |zero=>
  intro v h;cases v with
  |pointer a=>cases a<;>simp_all[flat]
  |slice a b c=>cases a<;>cases b<;>cases c<;>simp_all[flat]
  |map a=>cases a<;>simp_all[flat]
  |chan a=>cases a<;>simp_all[flat]
  | _=>simp_all[flat]
 |succ n ih=>
  intro v h;cases v with
  |pointer a=>cases a<;>simp_all[flat]
  |slice a b c=>cases a<;>cases b<;>cases c<;>simp_all[flat]
  |map a=>cases a<;>simp_all[flat]
  |chan a=>cases a<;>simp_all[flat]
  |agg cs=>simp only[flat,List.all_eq_true]at h ⊢;exact fun x hx=>ih x (h x hx)
  |tuple cs=>simp only[flat,List.all_eq_true]at h ⊢;exact fun x hx=>ih x (h x hx)
  |iface t v=>simp only[flat]at h ⊢;exact ih v h
  | _=>simp_all[flat]
theorem Zj {Xi:Yt}{Y4:SL}(S:SR C ρ vf Z Xi Y4){o:Operand}{x:PV}(h:Yx Xi o=some x):∃v,opd C Y4 o=some v/\R C ρ vf Z x v:=
 Z6v S h fun v e=>by subst e;exact Z4h _ _ (Zd4 3 v h)
theorem Se {Xi:Yt}{Y4:SL}(S:SR C ρ vf Z Xi Y4):∀ {l:List Operand} {xs:List PV},W8 Xi l=some xs->∃vs,opds C Y4 l=some vs/\Rs C ρ vf Z xs vs
 | [],xs,h=>by simp only[W8,Option.some.injEq]at h;subst h;exact⟨[],rfl,.nil⟩
 |o::l,xs,h=>by
  simp only[W8]at h;split at h
  .rename_i p ps hp Te;cases h;obtain⟨v,h1,h2⟩:=Zj S hp;obtain⟨vs,h3,h4⟩:=Se S Te;exact⟨v::vs,by simp only[opds,h1,h3],.cons h2 h4⟩
  .cases h
end
def Zq0 (Z:Vf)(vh:VH):Prop:=∀Zy s,Z Zy=some s->vh.get Zy=some (.row s.cells s.e s.own)
theorem U5 {xs:List PV}{sz:Nat}(hl:∀x∈xs,(Zd x).length=sz):(xs.flatMap Zd).length=xs.length*sz:=by
 induction xs with
 |nil=>simp
 |cons x xs ih=>
  simp only[List.flatMap_cons,List.length_append,List.length_cons];rw[ih fun y hy=>hl y (by simp[hy]),hl x (by simp),Nat.succ_mul];omega
theorem Zch {xs:List PV}{sz:Nat}(hl:∀x∈xs,(Zd x).length=sz)(i:Nat):(xs.flatMap Zd).drop (i*sz)=(xs.drop i).flatMap Zd:=by
 induction xs generalizing i with
 |nil=>simp
 |cons x xs ih=>
  cases i with
  |zero=>simp
  |succ i=>
   have hx:=hl x (by simp);simp only[List.flatMap_cons,List.drop_succ_cons];rw[List.drop_append,<- ih (fun y hy=>hl y (by simp[hy])) i,hx];have:(i+1)*sz - sz=i*sz:=by rw[Nat.succ_mul];omega
   rw[this,List.drop_eq_nil_of_le (by rw[hx,Nat.succ_mul];omega)];simp
theorem flat_take {xs:List PV}{sz:Nat}(hl:∀x∈xs,(Zd x).length=sz)(i:Nat):(xs.flatMap Zd).take (i*sz)=(xs.take i).flatMap Zd:=by
 induction xs generalizing i with
 |nil=>simp
 |cons x xs ih=>
  cases i with
  |zero=>simp
  |succ i=>
   have hx:=hl x (by simp);simp only[List.flatMap_cons,List.take_succ_cons];rw[List.take_append,<- ih (fun y hy=>hl y (by simp[hy])) i,hx];have:(i+1)*sz - sz=i*sz:=by rw[Nat.succ_mul];omega
   rw[this,List.take_of_length_le (by rw[hx,Nat.succ_mul];omega)]
theorem Znv {xs:List PV}{sz:Nat}(hl:∀x∈xs,(Zd x).length=sz){i:Nat}{x:PV}(hx:xs[i]?=some x):((xs.flatMap Zd).drop (i*sz)).take sz=Zd x:=by
 rw[Zch hl];obtain⟨hi,e⟩:=List.getElem?_eq_some_iff.1 hx;rw[List.drop_eq_getElem_cons hi,e,List.flatMap_cons];have:=hl x (by rw[<- e];exact List.getElem_mem hi);rw[List.take_append,this,Nat.sub_self,List.take_of_length_le (by omega)];simp
section
variable {C:Ctx}{Z Z':Vf}{ρ YB:Nat->Nat}{vf vf':Nat->Option Nat}{v:Value}
theorem R.bool_inv {b:Bool}(h:R C ρ vf Z (.bool b) v):v=.bool b:=by cases h with | d h=>cases h;rfl
theorem R.int_inv {k:IntKind}{n:Int}(h:R C ρ vf Z (.int k n) v):v=.int k n:=by cases h with | d h=>cases h;rfl
theorem R.str_inv {s:List Nat}(h:R C ρ vf Z (.str s) v):∃b:ByteArray,v=.string b/\s=b.data.toList.map UInt8.toNat:=by cases h with | d h=>cases h;exact⟨_,rfl,rfl⟩
theorem R.nils_inv (h:R C ρ vf Z .nils v):v=.slice none 0 0:=by cases h with | d h=>cases h;rfl
theorem R.nilm_inv (h:R C ρ vf Z .nilm v):v=.map none:=by cases h with | d h=>cases h;rfl
theorem R.lst_inv {g:Nat}{xs:List PV}(h:R C ρ vf Z (.lst g xs) v):RD C Z (.lst g xs) v:=by cases h with | d h=>exact h
theorem R.agg_inv {cs:List PV}(h:R C ρ vf Z (.agg cs) v):∃cs',v=.agg cs'/\Rs C ρ vf Z cs cs'.toList:=by
 cases h with
 |d h=>cases h with | agg cs cs' h=>exact⟨_,rfl,h.up⟩
 |agg cs cs' h=>exact⟨_,rfl,h⟩
theorem R.tuple_inv {cs:List PV}(h:R C ρ vf Z (.tuple cs) v):∃cs',v=.tuple cs'/\Rs C ρ vf Z cs cs'.toList:=by
 cases h with
 |d h=>cases h
 |tuple cs cs' h=>exact⟨_,rfl,h⟩
theorem T6 (b:ByteArray):b.size=(b.data.toList.map UInt8.toNat).length:=by rw[List.length_map,Array.length_toList];rfl
theorem toNat_inj:∀ {a b:List UInt8},a.map UInt8.toNat=b.map UInt8.toNat->a=b
 | [],[],_=>rfl
 | [],_::_,h=>by simp at h
 | _::_,[],h=>by simp at h
 |x::a,y::b,h=>by
  simp only[List.map_cons,List.cons.injEq]at h;rw[toNat_inj h.2,UInt8.toNat_inj.1 h.1]
theorem Zeq (a b:List UInt8):(a==b)=(a.map UInt8.toNat==b.map UInt8.toNat):=by
 by_cases h:a=b
 .subst h;simp
 .have:¬ a.map UInt8.toNat=b.map UInt8.toNat:=fun e=>h (toNat_inj e)
  rw[beq_eq_false_iff_ne.2 h,beq_eq_false_iff_ne.2 this]
theorem Z43 (x y:UInt8):Nat.blt x.toNat y.toNat=decide (x < y):=by
 by_cases h:x < y
 .rw [decide_eq_true h];exact Nat.blt_eq ▸ (UInt8.lt_iff_toNat_lt.1 h)
 .rw [decide_eq_false h];cases e:Nat.blt x.toNat y.toNat
  .rfl
  .rw [Nat.blt_eq]at e;exact absurd (UInt8.lt_iff_toNat_lt.2 e) h
theorem Zmw:∀(a b:List UInt8),Op.bytesLess a b=ltL (a.map UInt8.toNat) (b.map UInt8.toNat)
 | [],[]=>rfl
 | [],_::_=>rfl
 | _::_,[]=>rfl
 |x::a,y::b=>by
  simp only[Op.bytesLess,List.map_cons,ltL,Z43];rw[<- Zmw a b];by_cases h1:x < y
  .simp [h1]
  .by_cases h2:y < x
   .have Yp:¬ x=y:=fun e=>by subst e;exact absurd h2 (UInt8.lt_irrefl _)
    simp[h1,h2,Yp]
   .have he:x=y:=UInt8.toNat_inj.1 (by
     have a1:¬ x.toNat < y.toNat:=fun e=>h1 (UInt8.lt_iff_toNat_lt.2 e)
     have a2:¬ y.toNat < x.toNat:=fun e=>h2 (UInt8.lt_iff_toNat_lt.2 e)
     omega)
    subst he;simp[h1]
theorem Zho {x:PV}{v:Value}{b:Bool}(hx:R C ρ vf Z x v)(h:Zo0 x=some b):∃a n m,v=.slice a n m/\a.isNone=b:=by
 cases hx with
 |d h1=>cases h1<;>simp[Zo0]at h<;>subst h<;>exact⟨_,_,_,rfl,rfl⟩
 |own=>simp[Zo0]at h;subst h;exact⟨_,_,_,rfl,rfl⟩
 | _=>simp[Zo0]at h
theorem Zhp {x:PV}{v:Value}{b:Bool}(hx:R C ρ vf Z x v)(h:Zrm x=some b):∃a,v=.pointer a/\a.isNone=b:=by
 cases hx with
 |d h1=>cases h1<;>simp[Zrm]at h<;>subst h<;>exact⟨_,rfl,rfl⟩
 |ptr=>simp[Zrm]at h;subst h;exact⟨_,rfl,rfl⟩
 |eptr=>simp[Zrm]at h;subst h;exact⟨_,rfl,rfl⟩
 |rptr=>simp[Zrm]at h;subst h;exact⟨_,rfl,rfl⟩
 | _=>simp[Zrm]at h
theorem Zhq {x:PV}{v:Value}{b:Bool}(hx:R C ρ vf Z x v)(h:Zye x=some b):∃a,v=.map a/\a.isNone=b:=by
 cases hx with
 |d h1=>cases h1<;>simp[Zye]at h<;>subst h<;>exact⟨_,rfl,rfl⟩
 |map=>simp[Zye]at h;subst h;exact⟨_,rfl,rfl⟩
 | _=>simp[Zye]at h
theorem Zj3 {a b:Option Bool}{r:Bool}(h:Zqn a b=some r):(a=some true/\b=some r)\/(a=some false/\b=some true/\r=false):=by
 unfold Zqn at h;split at h
 .cases h;exact .inl ⟨rfl,rfl⟩
 .cases h;exact .inr ⟨rfl,rfl,rfl⟩
 .cases h
theorem Zwh {u:Nat}{x y:PV}{v w:Value}{b:Bool}(hx:R C ρ vf Z x v)(hy:R C ρ vf Z y w)(he:Zlq C u x y=some b):Ry C u v w=some b:=by
 unfold Zlq at he;unfold Ry;cases ht:C.T u with
 |none=>rw[ht]at he;cases he
 |some ty=>
  rw[ht]at he
  try dsimp only at he ⊢
  split at he
  .rename_i hk;cases he;rw[hx.bool_inv,hy.bool_inv,hk]
  .rename_i hk;rw[hx.int_inv,hy.int_inv,hk];exact he
  .rename_i hk;obtain⟨a,rfl,rfl⟩:=hx.str_inv;obtain⟨c,rfl,rfl⟩:=hy.str_inv;rw[hk];rw[<- he];simp only[Zeq]
  .cases he
theorem Zn0:∀ {k:Nat} {fs:List (Nat×Nat)} {l m:List PV} {l' m':List Value} {b:Bool},Rs C ρ vf Z l l'->Rs C ρ vf Z m m'->Zn1 C k fs l m=some b->Zat C k fs l' m'=some b
 | _,[],[],[],l',m',b,hx,hy,he=>by cases hx;cases hy;exact he
 |k,(o,u)::r,x::l,y::m,l',m',b,hx,hy,he=>by
  cases hx with
  |cons hx rx=>
   cases hy with
   |cons hy ry=>
    simp only[Zn1]at he;simp only[Zat];split at he
    .rename_i ho;rw[if_pos ho];rw[Option.bind_eq_some_iff]at he ⊢;obtain⟨a,h1,h2⟩:=he;rw[Option.map_eq_some_iff]at h2;obtain⟨c,h2,e⟩:=h2;exact⟨a,Zwh hx hy h1,by rw[Zn0 rx ry h2,Option.map_some,e]⟩
    .cases he
theorem Zad6 {t:Nat}{x y:PV}{v u:Value}{b:Bool}(hx:R C ρ vf Z x v)(hy:R C ρ vf Z y u)(he:eqP C t x y=some b):eqV C t v u=some b:=by
 unfold eqP at he;unfold eqV;cases ht:C.T t with
 |none=>rw[ht]at he;cases he
 |some ty=>
  rw[ht]at he
  try dsimp only at he ⊢
  cases hk:ty.k with
  |bool=>
   rw[hk]at he
   try dsimp only at he
   split at he
   .cases he;rw[hx.bool_inv,hy.bool_inv]
   .cases he
  |slice e=>
   rw[hk]at he
   try dsimp only at he
   rcases Zj3 he with⟨h1,h2⟩ | ⟨h1,h2,rfl⟩
   .obtain ⟨a,n,m,rfl,ha⟩:=Zho hx h1;obtain⟨a2,n2,m2,rfl,Qg⟩:=Zho hy h2;cases a<;>simp at ha;simp[Qg]
   .obtain ⟨a,n,m,rfl,ha⟩:=Zho hx h1;obtain⟨a2,n2,m2,rfl,Qg⟩:=Zho hy h2;cases a<;>simp at ha;cases a2<;>simp at Qg;simp
  |ptr e=>
   rw[hk]at he
   try dsimp only at he
   rcases Zj3 he with⟨h1,h2⟩ | ⟨h1,h2,rfl⟩
   .obtain ⟨a,rfl,ha⟩:=Zhp hx h1;obtain⟨a2,rfl,Qg⟩:=Zhp hy h2;cases a<;>simp at ha;simp[Qg]
   .obtain ⟨a,rfl,ha⟩:=Zhp hx h1;obtain⟨a2,rfl,Qg⟩:=Zhp hy h2;cases a<;>simp at ha;cases a2<;>simp at Qg;simp
  |struct fs=>
   rw[hk]at he
   try dsimp only at he
   split at he
   .obtain ⟨xs,rfl,hxs⟩:=hx.agg_inv;obtain⟨ys,rfl,hys⟩:=hy.agg_inv;split at he
    .rename_i hc;simp only[hc,if_true];exact Zn0 hxs hys he
    .cases he
   .cases he
  |map e f=>
   rw[hk]at he
   try dsimp only at he
   rcases Zj3 he with⟨h1,h2⟩ | ⟨h1,h2,rfl⟩
   .obtain ⟨a,rfl,ha⟩:=Zhq hx h1;obtain⟨a2,rfl,Qg⟩:=Zhq hy h2;cases a<;>simp at ha;simp[Qg]
   .obtain ⟨a,rfl,ha⟩:=Zhq hx h1;obtain⟨a2,rfl,Qg⟩:=Zhq hy h2;cases a<;>simp at ha;cases a2<;>simp at Qg;simp
  | _=>rw[hk]at he;cases he
theorem Z7n {op:BinOp}{t:Nat}{k k':IntKind}{a b:Int}{x:PV}(h:Ra op k k' a b=some x):∃v,Qj C op t (.int k a) (.int k' b)=some v/\RD C Z x v:=by
 unfold Ra at h;split at h
 .split at h
  .cases h
  .cases h;rename_i hb;exact⟨_,by simp only[Qj];rw[if_neg hb],.int _ _⟩
 .split at h
  .cases h
  .cases h;rename_i hb;exact⟨_,by simp only[Qj];rw[if_neg hb],.int _ _⟩
 .rename_i h1 h2;split at h
  .rename_i hk;subst hk
   cases op<;>(try exact absurd rfl h1)<;>(try exact absurd rfl h2)<;>simp only at h<;>(try cases h)<;>
    first
    |exact⟨_,by simp only[Qj,if_true],.int _ _⟩
    |exact⟨_,by simp only[Qj,if_true],.bool _⟩
    | (split at h
       .cases h
       .cases h;rename_i hb;exact⟨_,by simp only[Qj,if_true];rw[if_neg hb],.int _ _⟩)
  .cases h
theorem Zsr (a b:ByteArray):(a++b).data.toList.map UInt8.toNat=a.data.toList.map UInt8.toNat++b.data.toList.map UInt8.toNat:=by
 rw[ByteArray.data_append];simp
theorem Z6d {op:BinOp}{t:Nat}{a b:ByteArray}{x:PV}(h:Zow op (a.data.toList.map UInt8.toNat) (b.data.toList.map UInt8.toNat)=some x):∃v,Qj C op t (.string a) (.string b)=some v/\RD C Z x v:=by
 unfold Zow at h;split at h
 .split at h
  .rename_i hl;cases h;refine⟨.string (a++b),?_,?_⟩
   .simp only [Qj];rw[if_pos (by rw[T6,T6];exact hl)]
   .rw [<- Zsr];exact .str _
  .cases h
 .cases h;exact⟨_,by simp only[Qj];rw[Zeq],.bool _⟩
 .cases h;exact⟨_,by simp only[Qj];rw[Zeq],.bool _⟩
 .cases h;exact⟨_,by simp only[Qj];rw[Zmw],.bool _⟩
 .cases h;exact⟨_,by simp only[Qj];rw[Zmw,Zeq],.bool _⟩
 .cases h
theorem Zaaa {op:BinOp}{t:Nat}{x y z:PV}{v u:Value}(hx:R C ρ vf Z x v)(hy:R C ρ vf Z y u)(h:Za6 C op t x y=some z):∃w,Qj C op t v u=some w/\RD C Z z w:=by
 unfold Za6 at h;split at h
 .rw [hx.int_inv,hy.int_inv];exact Z7n h
 .obtain ⟨a,rfl,rfl⟩:=hx.str_inv;obtain⟨b,rfl,rfl⟩:=hy.str_inv;exact Z6d h
 .rename_i h1 h2
  have key:∀b,eqP C t x y=some b->(Qj C .eql t v u=some (.bool b))/\(Qj C .neq t v u=some (.bool !b)):=by
   intro b hb;have:=Zad6 hx hy hb
   have hv:(∀k n,v≠.int k n)/\∀s,v≠.string s:=by
    constructor
    .rintro k n rfl;simp only[eqV]at this;split at this<;>(try cases this)
     rename_i ty Rn;split at this<;>rename_i e1 e2<;>(try cases e1)<;>(try cases e2)<;>(try cases this)
    .rintro s rfl;simp only[eqV]at this;split at this<;>(try cases this)
     rename_i ty Rn;split at this<;>rename_i e1 e2<;>(try cases e1)<;>(try cases e2)<;>(try cases this)
   constructor
   .unfold Qj;split<;>simp_all
   .unfold Qj;split<;>simp_all
  split at h
  .rw [Option.map_eq_some_iff]at h;obtain⟨b,hb,rfl⟩:=h;exact⟨_,(key b hb).1,.bool _⟩
  .rw [Option.map_eq_some_iff]at h;obtain⟨b,hb,rfl⟩:=h;exact⟨_,(key b hb).2,.bool _⟩
  .cases h
end
section
variable {C:Ctx}{Z Z':Vf}{ρ YB:Nat->Nat}{vf vf':Nat->Option Nat}{v:Value}
theorem Zab8 {op:UnOp}{x z:PV}{v:Value}(hx:R C ρ vf Z x v)(h:unP op x=some z):∃w,unV op v=some w/\RD C Z z w:=by
 unfold unP at h;split at h
 .cases h;rw[hx.int_inv];exact⟨_,rfl,.int _ _⟩
 .cases h;rw[hx.bool_inv];exact⟨_,rfl,.bool _⟩
 .cases h
theorem Zhs {x:PV}{v:Value}{n:Nat}(hx:R C ρ vf Z x v)(h:Zk3 x=some n):Zht v=some n:=by
 unfold Zk3 at h;split at h
 .rw [hx.int_inv];exact h
 .cases h
inductive RO (C:Ctx)(ρ:Nat->Nat)(vf:Nat->Option Nat)(Z:Vf):Option PV->Option Value->Prop
 |none:RO C ρ vf Z none none
 |some {x:PV} {v:Value} (h:R C ρ vf Z x v):RO C ρ vf Z (some x) (some v)
theorem Zbm {len:Nat}{lo hi:Option PV}{lo' hi':Option Value}{r:Nat×Nat}(hl:RO C ρ vf Z lo lo')(hh:RO C ρ vf Z hi hi')(h:Xv len lo hi=some r):Ve len lo' hi'=some r:=by
 unfold Xv at h;unfold Ve;cases hl with
 |none=>
  cases hh with
  |none=>exact h
  |some hb=>
   simp only at h ⊢;cases hn:Zk3 _ with
   |none=>rw[hn]at h;cases h
   |some n=>rw[hn]at h;rw[Zhs hb hn];exact h
 |some ha=>
  cases hh with
  |none=>
   simp only at h ⊢;cases hn:Zk3 _ with
   |none=>rw[hn]at h;cases h
   |some n=>rw[hn]at h;rw[Zhs ha hn];exact h
  |some hb=>
   simp only at h ⊢;cases hn:Zk3 _ with
   |none=>rw[hn]at h;cases h
   |some n=>
    rw[hn]at h;rw[Zhs hb hn]
    try dsimp only at h ⊢
    cases hm:Zk3 _ with
    |none=>rw[hm]at h;cases h
    |some m=>rw[hm]at h;rw[Zhs ha hm];exact h
def Z6t (C:Ctx)(sl:SL):Option Operand->Option (Option Value)
 |some l=>(opd C sl l).map some
 |none=>some none
theorem Zhl {Xi:Yt}{Y4:SL}(S:SR C ρ vf Z Xi Y4){lo:Option Operand}{l:Option PV}(h:Sx Xi lo=some l):∃l',Z6t C Y4 lo=some l'/\RO C ρ vf Z l l':=by
 cases lo with
 |none=>simp only[Sx,Option.some.injEq]at h;subst h;exact⟨none,rfl,.none⟩
 |some o=>
  simp only[Sx,Option.map_eq_some_iff]at h;obtain⟨x,hx,rfl⟩:=h;obtain⟨v,h1,h2⟩:=Zj S hx;exact⟨some v,by simp only[Z6t,h1,Option.map_some],.some h2⟩
def Zmb (C:Ctx)(h:VH)(ty:Ty)(v:Value)(lo hi:Option Value):Option (Value×VH):=
 match ty.k,v with
 | .str,.string s=>(Ve s.size lo hi).map fun (l,u)=>(.string (s.extract l u),h)
 | .slice e,.slice none len _=>
   match C.T e,Ve len lo hi with
   |some _,some (l,u)=>some (.slice none (u - l) (u - l),h)
   | _,_=>none
 | .slice e,.slice (some a) len _=>
   match C.T e,Ve len lo hi,h.get a.block with
   |some te,some (l,u),some (.row _ e' _)=>if e'=te.size then some (.slice (some ⟨a.block,a.off+l*te.size,none⟩) (u - l) (u - l),h) else none
   | _,_,_=>none
 | _,_=>none
theorem Ze4 {cf yf:Nat->List Value->VH->Option (Value×VH)}{sl:SL}{h:VH}{o:Oper}{t:TypeId}{x:Operand}{lo hi:Option Operand}(ho:o.op=.slice t x lo hi none){ty:Ty}{v:Value}{l u:Option Value}
  (ht:C.T t=some ty) (hx:opd C sl x=some v) (hl:Z6t C sl lo=some l) (hu:Z6t C sl hi=some u):Xn C cf yf sl h o=Zmb C h ty v l u:=by
 cases lo<;>cases hi<;>simp only[Z6t,Option.map_eq_some_iff,Option.some.injEq]at hl hu
 .subst hl;subst hu;simp only[Xn,ho,ht,hx];rfl
 .subst hl;obtain⟨b,hb,rfl⟩:=hu;simp only[Xn,ho,ht,hx,hb,Option.map_some];rfl
 .subst hu;obtain⟨b,hb,rfl⟩:=hl;simp only[Xn,ho,ht,hx,hb,Option.map_some];rfl
 .obtain ⟨b,hb,rfl⟩:=hl;obtain⟨c,hc,rfl⟩:=hu;simp only[Xn,ho,ht,hx,hb,hc,Option.map_some];rfl
theorem Zf6 {cs:List PV}{off:Nat}{vs cs2:List PV}:∀ {cs' Qk:List Value},Rs C ρ vf Z cs cs'->Rs C ρ vf Z vs Qk->Yn cs off vs=some cs2->∃Zn5,We cs' off Qk=some Zn5/\Rs C ρ vf Z cs2 Zn5:=by
 induction cs generalizing off vs cs2 with
 |nil=>
  intro cs' Qk h1 h2 h;cases vs with
  |nil=>simp only[Yn,Option.some.injEq]at h;subst h;cases h2;cases h1;exact⟨[],rfl,.nil⟩
  |cons v vs=>simp[Yn]at h
 |cons c cs ih=>
  intro cs' Qk h1 h2 h;cases vs with
  |nil=>
   have:Yn (c::cs) off []=some (c::cs):=by cases off<;>rfl
   rw[this]at h;cases h;cases h2;exact⟨cs',by cases cs'<;>cases off<;>rfl,h1⟩
  |cons v vs=>
   cases h1 with
   |cons g r=>
    cases h2 with
    |cons g2 r2=>
     cases off with
     |zero=>
      simp only[Yn,Option.map_eq_some_iff]at h;obtain⟨w,hw,rfl⟩:=h;obtain⟨w',h3,h4⟩:=ih r r2 hw;exact⟨_,by simp only[We,h3,Option.map_some],.cons g2 h4⟩
     |succ i=>
      simp only[Yn,Option.map_eq_some_iff]at h;obtain⟨w,hw,rfl⟩:=h;obtain⟨w',h3,h4⟩:=ih r (.cons g2 r2) hw;exact⟨_,by simp only[We,h3,Option.map_some],.cons g h4⟩
theorem Zly {cs:List PV}{off:Nat}{vs cs2:List PV}(h:Yn cs off vs=some cs2):cs2.length=cs.length/\(vs=[]\/off+vs.length<=cs.length):=by
 induction cs generalizing off vs cs2 with
 |nil=>cases vs with
  |nil=>simp only[Yn,Option.some.injEq]at h;subst h;exact⟨rfl,.inl rfl⟩
  |cons v vs=>simp[Yn]at h
 |cons c cs ih=>
  cases vs with
  |nil=>
   have:Yn (c::cs) off []=some (c::cs):=by cases off<;>rfl
   rw[this]at h;cases h;exact⟨rfl,.inl rfl⟩
  |cons v vs=>
   cases off with
   |zero=>
    simp only[Yn,Option.map_eq_some_iff]at h;obtain⟨w,hw,rfl⟩:=h;obtain⟨h1,h2⟩:=ih hw;refine⟨by simp[h1],.inr ?_⟩;rcases h2 with rfl | h2
    .simp
    .simp only [List.length_cons];omega
   |succ i=>
    simp only[Yn,Option.map_eq_some_iff]at h;obtain⟨w,hw,rfl⟩:=h;obtain⟨h1,h2⟩:=ih hw;refine⟨by simp[h1],.inr ?_⟩;rcases h2 with h2 | h2
    .cases h2
    .simp only [List.length_cons]at h2 ⊢;omega
inductive RPs (C:Ctx)(ρ:Nat->Nat)(vf:Nat->Option Nat)(Z:Vf):List (Nat×PV)->List (Nat×Value)->Prop
 |nil:RPs C ρ vf Z [] []
 |cons {i:Nat} {x:PV} {v:Value} {l:List (Nat×PV)} {l':List (Nat×Value)} (h:R C ρ vf Z x v) (r:RPs C ρ vf Z l l'):RPs C ρ vf Z ((i,x)::l) ((i,v)::l')
theorem Zgf {Xi:Yt}{Y4:SL}(S:SR C ρ vf Z Xi Y4):∀ {l:List (Nat×Operand)} {xs:List (Nat×PV)},U1 Xi l=some xs->∃vs,parts C Y4 l=some vs/\RPs C ρ vf Z xs vs
 | [],xs,h=>by simp only[U1,Option.some.injEq]at h;subst h;exact⟨[],rfl,.nil⟩
 | (i,o)::l,xs,h=>by
   simp only[U1]at h;split at h
   .rename_i p ps hp Te;cases h;obtain⟨v,h1,h2⟩:=Zj S hp;obtain⟨vs,h3,h4⟩:=Zgf S Te;exact⟨_,by simp only[parts,h1,h3],.cons h2 h4⟩
   .cases h
theorem Zqk {place:Nat->Option (Nat×Nat)}{ps:List (Nat×PV)}{ps':List (Nat×Value)}(hp:RPs C ρ vf Z ps ps'):∀ {cells Zj6:List PV} {Wx:List Value},Rs C ρ vf Z cells Wx->Zf0 place cells ps=some Zj6 ->
  ∃Zip,Qn place Wx ps'=some Zip/\Rs C ρ vf Z Zj6 Zip:=by
 induction hp with
 |nil=>intro cells Zj6 Wx h1 h;simp only[Zf0,Option.some.injEq]at h;subst h;exact⟨Wx,rfl,h1⟩
 | @cons i x v l l' h r ih=>
   intro cells Zj6 Wx h1 hf;simp only[Zf0]at hf;simp only[Qn];split at hf
   .cases hf
   .rename_i off size hpl;rw[hpl]
    try dsimp only
    split at hf
    .rename_i hc;split at hf
     .rename_i w hw;obtain⟨w',h3,h4⟩:=Zf6 h1 h.cells hw;have hlen:v.cells.toList.length=size:=by rw[h.cells.length];exact hc.1
      rw[if_pos ⟨hlen,by rw[hlen,h1.length];exact hc.2.1,h.cells.cell hc.2.2⟩,h3];exact ih h4 hf
     .cases hf
    .cases hf
theorem Zh1 {k:TK}{x:PV}{v:Value}(hx:R C ρ vf Z x v)(h:Zrp k x=true):Zb7 k v=true:=by
 cases x<;>simp only[Zrp]at h<;>(try cases h)
 .rename_i b;rw[hx.bool_inv];exact h
 .rename_i b n;rw[hx.int_inv];exact h
 .obtain ⟨b,rfl,_⟩:=hx.str_inv;exact h
theorem Sa {x k:PV}{v u:Value}{b:Bool}(hx:R C ρ vf Z x v)(hk:R C ρ vf Z k u)(h:R3 x k=some b):Su v u=some b:=by
 unfold R3 at h;split at h
 .rw [hx.int_inv,hk.int_inv];exact h
 .obtain ⟨a,rfl,rfl⟩:=hx.str_inv;obtain⟨c,rfl,rfl⟩:=hk.str_inv;cases h;simp only[Su,Option.some.injEq]
  have:(a==c)=(a.data.toList==c.data.toList):=by
   by_cases e:a=c
   .subst e;simp[(MapKept.bytes_beq a a).2 rfl]
   .have h1:(a==c)=false:=by
     cases q:a==c
     .rfl
     .exact absurd ((MapKept.bytes_beq _ _).1 q) e
    rw[h1,eq_comm,beq_eq_false_iff_ne];intro e2;apply e;cases a;cases c;simp only[Array.toList_inj]at e2;rw[e2]
  rw[this,Zeq]
 .rw [hx.bool_inv,hk.bool_inv];exact h
 .cases h
inductive MRP (C:Ctx)(ρ:Nat->Nat)(vf:Nat->Option Nat)(Z:Vf):List (PV×PV)->List (Value×Value)->Prop
 |nil:MRP C ρ vf Z [] []
 |cons {k x:PV} {k' x':Value} {l:List (PV×PV)} {l':List (Value×Value)} (hk:R C ρ vf Z k k') (hv:R C ρ vf Z x x') (r:MRP C ρ vf Z l l'):MRP C ρ vf Z ((k,x)::l) ((k',x')::l')
theorem MRP.mono (he:Rd ρ vf YB vf')(hz:Z.le Z'){l:List (PV×PV)}{l':List (Value×Value)}(h:MRP C ρ vf Z l l'):MRP C YB vf' Z' l l':=by
 induction h with
 |nil=>exact .nil
 |cons hk hv r ih=>exact .cons (hk.mono he hz) (hv.mono he hz) ih
theorem MRP.length {l:List (PV×PV)}{l':List (Value×Value)}(h:MRP C ρ vf Z l l'):l'.length=l.length:=by
 induction h with
 |nil=>rfl
 |cons hk hv r ih=>simp[ih]
theorem Zkh {es:List (PV×PV)}{S9:List (Value×Value)}(h:MRP C ρ vf Z es S9){x:PV}{v:Value}(hx:R C ρ vf Z x v):∀ {r},Sz es x=some r->∃r',Qx S9 v=some r'/\RO C ρ vf Z r r':=by
 induction h with
 |nil=>intro r hr;simp only[Sz,Option.some.injEq]at hr;subst hr;exact⟨none,rfl,.none⟩
 |cons hk hv r ih=>
  intro q hq;simp only[Sz]at hq;simp only[Qx];split at hq
  .rename_i hs;cases hq;rw[Sa hx hk hs];exact⟨_,rfl,.some hv⟩
  .rename_i hs;rw[Sa hx hk hs];exact ih hq
  .cases hq
theorem Zyi {es:List (PV×PV)}{S9:List (Value×Value)}(h:MRP C ρ vf Z es S9){x u:PV}{v w:Value}(hx:R C ρ vf Z x v)(hu:R C ρ vf Z u w):∀ {r},Rx es x u=some r->∃r',Zd6 S9 v w=some r'/\MRP C ρ vf Z r r':=by
 induction h with
 |nil=>intro r hr;simp only[Rx,Option.some.injEq]at hr;subst hr;exact⟨_,rfl,.cons hx hu .nil⟩
 |cons hk hv r ih=>
  intro q hq;simp only[Rx]at hq;simp only[Zd6];split at hq
  .rename_i hs;cases hq;rw[Sa hx hk hs];exact⟨_,rfl,.cons hx hu r⟩
  .rename_i hs;rw[Sa hx hk hs];rw[Option.map_eq_some_iff]at hq;obtain⟨p,hp,rfl⟩:=hq;obtain⟨p',h1,h2⟩:=ih hp;exact⟨_,by simp only[h1,Option.map_some],.cons hk hv h2⟩
  .cases hq
theorem Zyj {es:List (PV×PV)}{S9:List (Value×Value)}(h:MRP C ρ vf Z es S9){x:PV}{v:Value}(hx:R C ρ vf Z x v):∀ {r},Zcx es x=some r->∃r',Zd7 S9 v=some r'/\MRP C ρ vf Z r r':=by
 induction h with
 |nil=>intro r hr;simp only[Zcx,Option.some.injEq]at hr;subst hr;exact⟨_,rfl,.nil⟩
 |cons hk hv r ih=>
  intro q hq;simp only[Zcx]at hq;simp only[Zd7];split at hq
  .rename_i hs;cases hq;rw[Sa hx hk hs];exact⟨_,rfl,r⟩
  .rename_i hs;rw[Sa hx hk hs];rw[Option.map_eq_some_iff]at hq;obtain⟨p,hp,rfl⟩:=hq;obtain⟨p',h1,h2⟩:=ih hp;exact⟨_,by simp only[h1,Option.map_some],.cons hk hv h2⟩
  .cases hq
theorem Z2l (b:ByteArray)(l u:Nat)(h:u<=b.size):(b.extract l u).data.toList.map UInt8.toNat=((b.data.toList.map UInt8.toNat).drop l).take (u - l):=by
 rw[ByteArray.data_extract];rw[Array.toList_extract];simp[List.map_take,List.map_drop]
theorem Zacx {g:Nat}{xs:List PV}{v:Value}(h:RD C Z (.lst g xs) v){l u:Nat}(hlu:l<=u)(hu:u<=xs.length):
  ∃ty Zy o cap s,C.T g=some ty/\Z Zy=some s/\s.e=ty.size/\v=.slice (some ⟨Zy,o,none⟩) xs.length cap/\RD C Z (.lst g ((xs.drop l).take (u - l))) (.slice (some ⟨Zy,o+l*ty.size,none⟩) (u - l) (u - l)):=by
 cases h with
 |lst g xs Zy o cap s Wg ty hs he ht Rn hr hx hl=>
  have hlen:((xs.drop l).take (u - l)).length=u - l:=by simp;omega
  have Uq:=U5 hl
  have h1:X1 (xs.flatMap Zd) (l*ty.size) ((u - l)*ty.size)=some (((xs.drop l).take (u - l)).flatMap Zd):=by
   unfold X1;rw[if_pos (by rw[Uq,<- Nat.add_mul];exact Nat.mul_le_mul_right _ (by omega)),Zch hl,flat_take fun x hx=>hl x (List.drop_subset _ _ hx)]
  obtain⟨r',h2,h3⟩:=hx.read h1;have h4:=R4 hr h2 (by rw[<- Nat.add_mul];exact Nat.mul_le_mul_right _ (by omega));have h5:=RD.lst g ((xs.drop l).take (u - l)) Zy (o+l*ty.size) (u - l) s r' ty hs he ht Rn (by rw[hlen];exact h4) h3 (fun x hx=>hl x (List.drop_subset _ _ (List.take_subset _ _ hx)));rw[hlen]at h5;exact⟨ty,Zy,o,cap,s,Rn,hs,he,rfl,h5⟩
theorem Zais {g:Nat}{xs:List PV}{v:Value}(h:RD C Z (.lst g xs) v){i:Nat}{x:PV}(hi:xs[i]?=some x):
  ∃ty Zy o cap,C.T g=some ty/\v=.slice (some ⟨Zy,o,none⟩) xs.length cap/\R C ρ vf Z (.rptr (Zd x)) (.pointer (some ⟨Zy,o+i*ty.size,none⟩)):=by
 cases h with
 |lst g xs Zy o cap s Wg ty hs he ht Rn hr hx hl=>
  have Uq:=U5 hl;obtain⟨hlt,e⟩:=List.getElem?_eq_some_iff.1 hi;have hxl:(Zd x).length=ty.size:=hl x (by rw[<- e];exact List.getElem_mem hlt)
  have hle:i*ty.size+ty.size<=xs.length*ty.size:=by
   rw[<- Nat.succ_mul];exact Nat.mul_le_mul_right _ hlt
  have h1:X1 (xs.flatMap Zd) (i*ty.size) ty.size=some (Zd x):=by
   unfold X1;rw[if_pos (by rw[Uq];exact hle),Znv hl hi]
  obtain⟨r',h2,h3⟩:=hx.read h1;have h4:=R4 hr h2 hle;exact⟨ty,Zy,o,cap,Rn,rfl,.rptr _ Zy _ s r' hs (by rw[hxl];exact h4) h3⟩
theorem Zuf {cs:List PV}{v:Value}(h:R C ρ vf Z (.rptr cs) v)(d:Nat)(hd:d<=cs.length):∃Zy o,v=.pointer (some ⟨Zy,o,none⟩)/\R C ρ vf Z (.rptr (cs.drop d)) (.pointer (some ⟨Zy,o+d,none⟩)):=by
 cases h with
 |d h=>cases h
 |rptr cs Zy o s Wg hs hr hx=>
  refine⟨Zy,o,rfl,?_⟩;obtain⟨rfl,hle⟩:=Tc.1 hr;refine .rptr _ Zy _ s (((s.cells.drop o).take cs.length).drop d) hs ?_ (hx.drop d);rw[Tc];refine⟨?_,?_⟩
  .rw [List.drop_take,List.drop_drop,List.length_drop]
  .rw [List.length_drop];omega
theorem Z2t {cs r:List PV}{v:Value}{n:Nat}(h:R C ρ vf Z (.rptr cs) v)(hr:X1 cs 0 n=some r):∃Zy o s r',v=.pointer (some ⟨Zy,o,none⟩)/\Z Zy=some s/\readN s.cells o n=some r'/\RDs C Z r r':=by
 cases h with
 |d h=>cases h
 |rptr cs Zy o s Wg hs hrr hx=>
  obtain⟨r',h1,h2⟩:=hx.read hr
  have hl:0+n<=cs.length:=by
   unfold X1 at hr;split at hr
   .assumption
   .cases hr
  exact⟨Zy,o,s,r',rfl,hs,by simpa using R4 hrr h1 hl,h2⟩
end
section
variable {C:Ctx}{Z Z':Vf}{ρ YB:Nat->Nat}{vf vf':Nat->Option Nat}{v:Value}
def S8 (C:Ctx)(ρ:Nat->Nat)(vf:Nat->Option Nat)(Z:Vf)(Y4:SL)(o:Oper)(x:PV):Prop:=
 ∃v,R C ρ vf Z x v/\∀(cf yf:Nat->List Value->VH->Option (Value×VH)) (vh:VH),Zq0 Z vh->Xn C cf yf Y4 vh o=some (v,vh)
theorem Zsc {Xi:Yt}{Y4:SL}(S:SR C ρ vf Z Xi Y4){o:Oper}{t:TypeId}{y:Operand}{lo hi:Option Operand}{x:PV}(ho:o.op=.slice t y lo hi none)(h:Yi C Xi o=some x):S8 C ρ vf Z Y4 o x:=by
 simp only[Yi,ho]at h;split at h
 .rename_i ty w ht hw;obtain⟨w',W4,Vj⟩:=Zj S hw;split at h
  .rename_i l u Sh hhi;obtain⟨l',hl1,hl2⟩:=Zhl S Sh;obtain⟨u',hu1,hu2⟩:=Zhl S hhi;split at h
   ·
    rename_i s hk;rw[Option.map_eq_some_iff]at h;obtain⟨⟨p,q⟩,hb,rfl⟩:=h;obtain⟨b,rfl,rfl⟩:=Vj.str_inv;have hb':=Zbm hl2 hu2 hb;rw[<- T6]at hb'
    have hq:q<=b.size:=by
     unfold Ve at hb';split at hb'
     .split at hb'
      .rename_i hc;cases hb';exact hc.2
      .cases hb'
     .cases hb'
    refine⟨.string (b.extract p q),?_,fun cf yf vh _=>?_⟩
    .show R C ρ vf Z (.str _) _;rw[<- Z2l b p q hq];exact .d (.str _)
    .rw [Ze4 ho ht W4 hl1 hu1];simp only[Zmb,hk,hb',Option.map_some]
   ·
    rename_i e hk;split at h
    .rename_i te r Vw hb;cases h;rw[Vj.nils_inv]at W4;have hb':=Zbm hl2 hu2 hb
     have hr:r=(0,0):=by
      unfold Ve at hb';split at hb'
      .split at hb'
       .rename_i hc;cases hb';rw[Prod.mk.injEq];omega
       .cases hb'
      .cases hb'
     subst hr;exact⟨_,.d .nils,fun cf yf vh _=>by rw[Ze4 ho ht W4 hl1 hu1];simp only[Zmb,hk,hb',Vw]⟩
    .cases h
   .rename_i e g xs hk;split at h
    .rename_i te p q Vw hb;split at h
     .rename_i he;cases h;have hb':=Zbm hl2 hu2 hb
      have hq:p<=q/\q<=xs.length:=by
       unfold Ve at hb';split at hb'
       .split at hb'
        .rename_i hc;cases hb';exact hc
        .cases hb'
       .cases hb'
      obtain⟨ty2,Zy,o2,cap,s,h1,h2,hse,rfl,h4⟩:=Zacx Vj.lst_inv hq.1 hq.2;subst he;rw[Vw]at h1;cases h1;refine⟨_,.d h4,fun cf yf vh hz=>?_⟩;have V7:=hz _ _ h2;rw[hse]at V7;rw[Ze4 ho ht W4 hl1 hu1];simp only[Zmb,hk,hb',Vw,V7,if_true]
     .cases h
    .cases h
   .cases h
  .cases h
 .cases h
theorem Zse {Xi:Yt}{Y4:SL}(S:SR C ρ vf Z Xi Y4){o:Oper}{t:TypeId}{y i:Operand}{x:PV}(ho:o.op=.index t y i)(h:Yi C Xi o=some x):S8 C ρ vf Z Y4 o x:=by
 simp only[Yi,ho]at h;split at h
 .rename_i ty w k n ht hw hn;obtain⟨w',W4,Vj⟩:=Zj S hw;obtain⟨n',hn1,hn2⟩:=Zj S hn;rw[hn2.int_inv]at hn1;split at h
  .rename_i m e cs hk;obtain⟨cs',rfl,hcs⟩:=Vj.agg_inv;split at h
   .rename_i te Vw;split at h
    .rename_i hb;rw[Option.bind_eq_some_iff]at h;obtain⟨r,hr,hx⟩:=h;obtain⟨r',h1,h2⟩:=hcs.read hr;obtain⟨z,h3,h4⟩:=Zha h2 hx;exact⟨z,h4,fun cf yf vh _=>by simp only[Xn,ho,ht,W4,hn1,hk,Vw];rw[if_pos hb,h1];simp only[Option.bind_some,h3,Option.map_some]⟩
    .cases h
   .cases h
  .rename_i s hk;obtain⟨b,rfl,rfl⟩:=Vj.str_inv;split at h
   .rename_i hb;rw[Option.map_eq_some_iff]at h;obtain⟨c,hc,rfl⟩:=h;rw[List.getElem?_map,Option.map_eq_some_iff]at hc;obtain⟨c',hc',rfl⟩:=hc;exact⟨_,.d (.int _ _),fun cf yf vh _=>by simp only[Xn,ho,ht,W4,hn1,hk];rw[if_pos hb,hc'];rfl⟩
   .cases h
  .cases h
 .cases h
theorem Zj0 {Xi:Yt}{Y4:SL}(S:SR C ρ vf Z Xi Y4){o:Oper}{t:TypeId}{y i:Operand}{x:PV}(ho:o.op=.indexAddr t y i)(h:Yi C Xi o=some x):S8 C ρ vf Z Y4 o x:=by
 simp only[Yi,ho]at h;split at h
 .rename_i ty w k n ht hw hn;obtain⟨w',W4,Vj⟩:=Zj S hw;obtain⟨n',hn1,hn2⟩:=Zj S hn;rw[hn2.int_inv]at hn1;split at h
  .rename_i e g xs hk;split at h
   .rename_i te Vw;split at h
    .rename_i hb;obtain⟨rfl,hb⟩:=hb;rw[Option.map_eq_some_iff]at h;obtain⟨c,hc,rfl⟩:=h;obtain⟨ty2,Zy,o2,cap,h1,rfl,h3⟩:=Zais (ρ:=ρ) (vf:=vf) Vj.lst_inv hc;rw[Vw]at h1;cases h1;exact⟨_,h3,fun cf yf vh _=>by simp only[Xn,ho,ht,W4,hn1,hk,Vw];rw[if_pos hb];rfl⟩
    .cases h
   .cases h
  .rename_i m e b Zc off hk;split at h
   .rename_i te Vw;split at h
    .rename_i hb;cases h;cases Vj with
     |d h=>cases h
     |ptr i Zc off c a hi hv hp ha=>
      refine⟨.pointer (some ⟨a.block,a.off+n.toNat*te.size,none⟩),.ptr _ _ _ c _ hi hv rfl fun e=>by rw[ha e],fun cf yf vh _=>?_⟩;simp only[Xn,ho,ht,W4,hn1,hk,Vw];rw[if_pos hb,hp];rfl
    .cases h
   .cases h
  .rename_i m e cs hk;split at h
   .rename_i te Vw;split at h
    .rename_i hb;cases h;obtain⟨Zy,o2,rfl,h2⟩:=Zuf Vj (n.toNat*te.size) (by omega);exact⟨_,h2,fun cf yf vh _=>by simp only[Xn,ho,ht,W4,hn1,hk,Vw];rw[if_pos ⟨hb.1,hb.2.1⟩];rfl⟩
    .cases h
   .cases h
  .cases h
 .cases h
end
section
variable {C:Ctx}{Z Z':Vf}{ρ YB:Nat->Nat}{vf vf':Nat->Option Nat}{v:Value}{Xi:Yt}{Y4:SL}{o:Oper}{x:PV}
theorem Zze {t:TypeId}{ps:Array (Nat×Operand)}(S:SR C ρ vf Z Xi Y4)(ho:o.op=.build t ps)(h:Yi C Xi o=some x):S8 C ρ vf Z Y4 o x:=by
 simp only[Yi,ho]at h;split at h
 .rename_i ty vs ht hvs;obtain⟨Qk,hp1,hp2⟩:=Zgf S hvs;split at h
  .rename_i fs hk;split at h
   .rename_i hall;rw[Option.bind_eq_some_iff]at h;obtain⟨z,hz,h⟩:=h;rw[Option.map_eq_some_iff]at h;obtain⟨cs,hcs,rfl⟩:=h;obtain⟨cs',h1,h2⟩:=Zqk hp2 (R5 hz).up hcs;refine⟨.agg cs'.toArray,.agg _ _ (by simpa using h2),fun cf yf vh _=>?_⟩;simp only[Xn,ho,ht,hp1,hk];rw[if_pos hall];have:Qn (fun i=>(fs[i]?).bind fun x=>match x with | (off,u)=>(C.T u).map fun tu=>(off,tu.size)) ty.zero Qk=some cs':=h1;rw[this];rfl
   .cases h
  .rename_i n e hk;split at h
   .rename_i te Vw;rw[Option.bind_eq_some_iff]at h;obtain⟨z,hz,h⟩:=h;rw[Option.map_eq_some_iff]at h;obtain⟨cs,hcs,rfl⟩:=h;obtain⟨cs',h1,h2⟩:=Zqk hp2 (R5 hz).up hcs;refine⟨.agg cs'.toArray,.agg _ _ (by simpa using h2),fun cf yf vh _=>?_⟩;simp only[Xn,ho,ht,hp1,hk,Vw];rw[h1];rfl
   .cases h
  .cases h
 .cases h
theorem Zwb {t:TypeId}{y:Operand}(S:SR C ρ vf Z Xi Y4)(ho:o.op=.load t y)(h:Yi C Xi o=some x):S8 C ρ vf Z Y4 o x:=by
 simp only[Yi,ho]at h;split at h
 .rename_i ty cs ht hy;obtain⟨w,W4,Vj⟩:=Zj S hy;rw[Option.bind_eq_some_iff]at h;obtain⟨r,hr,hx⟩:=h;obtain⟨Zy,o2,s,r',rfl,hs,h1,h2⟩:=Z2t Vj hr;obtain⟨z,h3,h4⟩:=Zg9 h2 hx;refine⟨z,.d h4,fun cf yf vh hz=>?_⟩;have V7:=hz _ _ hs;simp only[Xn,ho,ht,W4,VH.load,V7,h1,Option.bind_some,h3,Option.map_some,Option.isSome_none,Bool.false_eq_true,if_false]
 .cases h
theorem Zpb {y:Operand}(S:SR C ρ vf Z Xi Y4)(ho:o.op=.nilCheck y)(h:Yi C Xi o=some x):S8 C ρ vf Z Y4 o x:=by
 simp only[Yi,ho]at h;split at h<;>(try cases h)<;>rename_i hy<;>obtain⟨w,W4,Vj⟩:=Zj S hy
 .have hw:=Vj;cases Vj with
  |d h=>cases h
  |ptr=>exact⟨_,hw,fun cf yf vh _=>by simp only[Xn,ho,W4]⟩
 .have hw:=Vj;cases Vj with
  |d h=>cases h
  |eptr=>exact⟨_,hw,fun cf yf vh _=>by simp only[Xn,ho,W4]⟩
 .have hw:=Vj;cases Vj with
  |d h=>cases h
  |rptr=>exact⟨_,hw,fun cf yf vh _=>by simp only[Xn,ho,W4]⟩
 .have hw:=Vj;cases Vj with
  |d h=>cases h
  |fn=>exact⟨_,hw,fun cf yf vh _=>by simp only[Xn,ho,W4]⟩
 .have hw:=Vj;cases Vj with
  |d h=>cases h
  |yield=>exact⟨_,hw,fun cf yf vh _=>by simp only[Xn,ho,W4]⟩
theorem Znq {src dst:TypeId}{y:Operand}(S:SR C ρ vf Z Xi Y4)(ho:o.op=.convert src dst y)(h:Yi C Xi o=some x):S8 C ρ vf Z Y4 o x:=by
 simp only[Yi,ho]at h;split at h
 .rename_i ts td w hs hd hw;obtain⟨w',W4,Vj⟩:=Zj S hw;split at h
  .rename_i k k2 n hk;cases h;rw[Vj.int_inv]at W4;refine⟨_,.d (.int _ _),fun cf yf vh _=>?_⟩;simp only[Xn,ho,hs,hd,W4,hk]
  .rename_i s hk;cases h;obtain⟨b,rfl,rfl⟩:=Vj.str_inv;refine⟨_,.d (.str _),fun cf yf vh _=>?_⟩;simp only[Xn,ho,hs,hd,W4,hk]
  .cases h
 .cases h
theorem Zzc {t:TypeId}{y:Operand}(S:SR C ρ vf Z Xi Y4)(ho:o.op=.makeInterface t y)(h:Yi C Xi o=some x):S8 C ρ vf Z Y4 o x:=by
 simp only[Yi,ho]at h;split at h
 .rename_i ty ht;split at h
  .cases h
  .rename_i hk;rw[Option.map_eq_some_iff]at h;obtain⟨w,hw,rfl⟩:=h;obtain⟨w',W4,Vj⟩:=Zj S hw;refine⟨_,.iface t _ _ Vj,fun cf yf vh _=>?_⟩;simp only[Xn,ho,ht,W4,Option.map_some]
 .cases h
theorem Z4e {f:Fn}{a b:Array Operand}(S:SR C ρ vf Z Xi Y4)(ho:o.op=.makeFunc f a b)(h:Yi C Xi o=some x):S8 C ρ vf Z Y4 o x:=by
 simp only[Yi,ho]at h;split at h
 .rename_i g p q hp hq;cases h;obtain⟨p',h1,h2⟩:=Se S hp;obtain⟨q',h3,h4⟩:=Se S hq;refine⟨_,.fn g p q p'.toArray q'.toArray (by simpa using h2) (by simpa using h4),fun cf yf vh _=>?_⟩;simp only[Xn,ho,h1,h3]
 .cases h
theorem Znp {t:TypeId}{y:Operand}{f:Nat}(S:SR C ρ vf Z Xi Y4)(ho:o.op=.fieldAddr t y f)(h:Yi C Xi o=some x):S8 C ρ vf Z Y4 o x:=by
 simp only[Yi,ho]at h;split at h
 .rename_i ty w ht hw;obtain⟨w',W4,Vj⟩:=Zj S hw;split at h
  .rename_i fs hk;split at h
   .rename_i off u hf;split at h
    .rename_i tu htu;split at h
     .cases h
     .rename_i hsz;split at h
      .cases h;cases Vj with
       |d h=>cases h
       |ptr i Zc off c a hi hv hp ha=>
        refine⟨_,.ptr _ _ _ c ⟨a.block,a.off+_,none⟩ hi hv rfl fun e=>by rw[ha e],fun cf yf vh _=>?_⟩;simp only[Xn,ho,ht,W4,hk,hf,htu];rw[if_neg (by rw[hp];simpa using hsz)]
      .cases h;cases Vj with
       |d h=>cases h
       |eptr i Zc g ix off c a ty2 hi hv hp hg ha=>
        refine⟨_,.eptr _ _ _ _ _ c ⟨a.block,a.off+_,none⟩ ty2 hi hv rfl hg fun e=>by rw[ha e,Nat.add_assoc],fun cf yf vh _=>?_⟩;simp only[Xn,ho,ht,W4,hk,hf,htu];rw[if_neg (by rw[hp];simpa using hsz)]
      .split at h
       .rename_i cs hle;cases h;obtain⟨Zy,o2,rfl,h2⟩:=Zuf Vj off (by omega);refine⟨_,h2,fun cf yf vh _=>?_⟩;simp only[Xn,ho,ht,W4,hk,hf,htu];rw[if_neg (by simpa using hsz)]
       .cases h
      .cases h
    .cases h
   .cases h
  .cases h
 .cases h
theorem Zzd {t:TypeId}{y:Operand}{f:Nat}(S:SR C ρ vf Z Xi Y4)(ho:o.op=.field t y f)(h:Yi C Xi o=some x):S8 C ρ vf Z Y4 o x:=by
 simp only[Yi,ho]at h;split at h
 .rename_i ty cs ht hw;obtain⟨w',W4,Vj⟩:=Zj S hw;obtain⟨cs',rfl,hcs⟩:=Vj.agg_inv;split at h
  .rename_i fs hk;split at h
   .rename_i off u hf;split at h
    .rename_i tu htu;rw[Option.bind_eq_some_iff]at h;obtain⟨r,hr,hx⟩:=h;obtain⟨r',h1,h2⟩:=hcs.read hr;obtain⟨z,h3,h4⟩:=Zha h2 hx;refine⟨z,h4,fun cf yf vh _=>?_⟩;simp only[Xn,ho,ht,W4,hk,hf,htu,h1,Option.bind_some,h3,Option.map_some]
    .cases h
   .cases h
  .cases h
 .cases h
theorem Zwa {t:TypeId}{y i:Operand}{ok:Bool}(S:SR C ρ vf Z Xi Y4)(ho:o.op=.lookup t y i ok)(h:Yi C Xi o=some x):S8 C ρ vf Z Y4 o x:=by
 simp only[Yi,ho]at h;split at h
 .rename_i ty k ht hy hi;obtain⟨w,W4,Vj⟩:=Zj S hy;obtain⟨u,hu1,hu2⟩:=Zj S hi;rw[Vj.nilm_inv]at W4;split at h
  .rename_i kt et hk;split at h
   .rename_i kty ety hkt het;split at h
    .rename_i Si;rw[Option.map_eq_some_iff]at h;obtain⟨z,hz,rfl⟩:=h;obtain⟨z',h1,h2⟩:=Zpd hz;refine⟨if ok then .tuple #[z',.bool false] else z',?_,fun cf yf vh _=>?_⟩
     .cases ok with
      |true=>exact .tuple _ _ (.cons (.d h2) (.cons (.d (.bool _)) .nil))
      |false=>exact .d h2
     .simp only [Xn,ho,ht,W4,hu1,hk,hkt,het];rw[if_pos (Zh1 hu2 Si)];simp only[Qx,h1,Option.map_some]
    .cases h
   .cases h
  .cases h
 .cases h
theorem Z4f {c:Call}(S:SR C ρ vf Z Xi Y4)(ho:o.op=.call c)(h:Yi C Xi o=some x):S8 C ρ vf Z Y4 o x:=by
 simp only[Yi,ho]at h;split at h
 .cases h
 .rename_i args Xt;obtain⟨Wl,Ro,Qg⟩:=Se S Xt;split at h
  .rename_i b Ws;split at h
   .rename_i y;cases Qg with
    |cons hy hr=>
     cases hr;split at h
     .rename_i ty ht;split at h
      .rename_i s hk;cases h;obtain⟨b,rfl,rfl⟩:=hy.str_inv;refine⟨.int .i64 b.size,?_,fun cf yf vh _=>?_⟩
       .rw [T6];exact .d (.int _ _)
       .simp only [Xn,ho,U6,Ro,Ws,ht,hk]
      .rename_i e hk;cases h;have hy':=hy.nils_inv;subst hy';refine⟨.int .i64 0,.d (.int _ _),fun cf yf vh _=>?_⟩;simp only[Xn,ho,U6,Ro,Ws,ht,hk];rfl
      .rename_i e g xs hk;cases h;cases hy.lst_inv with
       |lst=>
        refine⟨.int .i64 xs.length,.d (.int _ _),fun cf yf vh _=>?_⟩;simp only[Xn,ho,U6,Ro,Ws,ht,hk]
      .rename_i e i Zc g off n hk;cases h;cases hy with
       |d h=>cases h
       |own=>
        refine⟨.int .i64 n,.d (.int _ _),fun cf yf vh _=>?_⟩;simp only[Xn,ho,U6,Ro,Ws,ht,hk]
      .rename_i e f hk;cases h;have hy':=hy.nilm_inv;subst hy';refine⟨.int .i64 0,.d (.int _ _),fun cf yf vh _=>?_⟩;simp only[Xn,ho,U6,Ro,Ws,ht,hk]
      .cases h
     .cases h
   .cases Qg with
    |cons hy hr=>
     cases hr;split at h
     .rename_i ty ht;split at h
      .rename_i e hk;cases h;have hy':=hy.nils_inv;subst hy';refine⟨.int .i64 0,.d (.int _ _),fun cf yf vh _=>?_⟩;simp only[Xn,ho,U6,Ro,Ws,ht,hk]
      .cases h
     .cases h
   .cases h;cases Qg with
    |cons hy hr=>
     cases hr with
     |cons hz hr=>
      cases hr;have hy':=hy.int_inv;have hz':=hz.int_inv;subst hy' hz';refine⟨_,.d (.int _ _),fun cf yf vh _=>?_⟩;simp only[Xn,ho,U6,Ro,Ws]
   .cases h;cases Qg with
    |cons hy hr=>
     cases hr with
     |cons hz hr=>
      cases hr;have hy':=hy.int_inv;have hz':=hz.int_inv;subst hy' hz';refine⟨_,.d (.int _ _),fun cf yf vh _=>?_⟩;simp only[Xn,ho,U6,Ro,Ws]
   .cases h
  .cases h
theorem Zv9 (S:SR C ρ vf Z Xi Y4)(h:Yi C Xi o=some x):S8 C ρ vf Z Y4 o x:=by
 cases ho:o.op with
 |move y=>
  simp only[Yi,ho]at h;obtain⟨w,h1,h2⟩:=Zj S h;exact⟨w,h2,fun cf yf vh _=>by simp only[Xn,ho,h1,Option.map_some]⟩
 |assign y=>
  simp only[Yi,ho]at h;obtain⟨w,h1,h2⟩:=Zj S h;exact⟨w,h2,fun cf yf vh _=>by simp only[Xn,ho,h1,Option.map_some]⟩
 |pick c a b=>
  simp only[Yi,ho]at h;split at h
  .rename_i hc;obtain⟨w,h1,h2⟩:=Zj S hc;obtain⟨u,h3,h4⟩:=Zj S h;rw[h2.bool_inv]at h1;exact⟨u,h4,fun cf yf vh _=>by simp only[Xn,ho,h1,h3,Option.map_some]⟩
  .rename_i hc;obtain⟨w,h1,h2⟩:=Zj S hc;obtain⟨u,h3,h4⟩:=Zj S h;rw[h2.bool_inv]at h1;exact⟨u,h4,fun cf yf vh _=>by simp only[Xn,ho,h1,h3,Option.map_some]⟩
  .cases h
 |build t ps=>exact Zze S ho h
 |load t y=>exact Zwb S ho h
 |nilCheck y=>exact Zpb S ho h
 |binOp op t y z t2=>
  simp only[Yi,ho]at h;split at h
  .rename_i a b ha hb;obtain⟨w,h1,h2⟩:=Zj S ha;obtain⟨u,h3,h4⟩:=Zj S hb;cases hn:Zu6 C op t y z a b with
   |none=>
    rw[hn,Option.none_or]at h;obtain⟨r,h5,h6⟩:=Zaaa h2 h4 h;cases hn2:Virt.nilE C op t y z w u with
    |none=>exact⟨r,.d h6,fun cf yf vh _=>by simp only[Xn,ho,h1,h3,h5,hn2,Option.none_or,Option.map_some]⟩
    |some q=>
     exfalso;unfold Virt.nilE at hn2;unfold Zu6 at hn;split at hn2
     .rename_i hl;rw[if_pos hl]at hn;split at hn2
      all_goals first
       | (cases hn2;done)
       | (split at hn2
          .rename_i hk;have e1:a=.nili:=by cases h2 with | d h2=>cases h2;rfl
           have e2:b=.nili:=by cases h4 with | d h4=>cases h4;rfl
           subst e1 e2;simp only[hk,if_true]at hn;cases hn
          .cases hn2)
     .cases hn2
   |some q=>
    rw[hn,Option.some_or]at h;cases h;unfold Zu6 at hn;split at hn
    .rename_i hl;split at hn
     all_goals first
      | (cases hn;done)
      | (split at hn
         .rename_i hk;cases hn;have e1:w=.nilIface:=by cases h2 with | d h2=>cases h2;rfl
          have e2:u=.nilIface:=by cases h4 with | d h4=>cases h4;rfl
          subst e1 e2;exact⟨_,.d (.bool _),fun cf yf vh _=>by simp only[Xn,ho,h1,h3,Virt.nilE,hl,hk,if_true,Option.some_or,Option.map_some]⟩
         .cases hn)
    .cases hn
  .cases h
 |unOp op t y=>
  simp only[Yi,ho]at h;rw[Option.bind_eq_some_iff]at h;obtain⟨a,ha,h⟩:=h;obtain⟨w,h1,h2⟩:=Zj S ha;obtain⟨r,h5,h6⟩:=Zab8 h2 h;exact⟨r,.d h6,fun cf yf vh _=>by simp only[Xn,ho,h1,Option.bind_some,h5,Option.map_some]⟩
 |convert src dst y=>exact Znq S ho h
 |makeInterface t y=>exact Zzc S ho h
 |makeFunc f a b=>exact Z4e S ho h
 |slice t y lo hi mx=>
  cases mx with
  |none=>exact Zsc S ho h
  |some m=>simp[Yi,ho]at h
 |fieldAddr t y f=>exact Znp S ho h
 |field t y f=>exact Zzd S ho h
 |indexAddr t y i=>exact Zj0 S ho h
 |index t y i=>exact Zse S ho h
 |lookup t y i ok=>exact Zwa S ho h
 |extract y ix=>
  simp only[Yi,ho]at h;split at h
  .rename_i vs hy;obtain⟨w,h1,h2⟩:=Zj S hy;obtain⟨Qk,rfl,h3⟩:=h2.tuple_inv;obtain⟨u,h4,h5⟩:=h3.get h;exact⟨u,h5,fun cf yf vh _=>by simp only[Xn,ho,h1,h4,Option.map_some]⟩
  .cases h
 |call c=>exact Z4f S ho h
 | _=>simp[Yi,ho]at h
end
def Zp (h:PH):Nat->Option Nat:=fun i=>(h.get i).map (·.1)
def Ud (n:Nat):Code->Bool
 | .region _ ops draw=>(ops.toList.all fun o=>match o.dst with | some d=>Nat.blt d n | none=>true)&&(!draw||Zsj ops)
 | .seq a b=>Ud n a&&Ud n b
 | .cond _ a b=>Ud n a&&Ud n b
 | .block _ b=>Ud n b
 | .loop b=>Ud n b
 | .rangeFunc _ _ a b=>Ud n a&&Ud n b
 | .scope b=>Ud n b
 | _=>true
def KOk (K:Loc)(n next:Nat):Prop:=K.lo<=K.base/\K.base+n<=next
inductive OR (C:Ctx)(ρ:Nat->Nat)(vf:Nat->Option Nat)(Z:Vf)(next:Nat)(vh:VH)(i p:Nat):PO->Prop
 |cells (cs:List PV) (Wg:List Value) (e:Nat) (hz:Z p=none) (hg:vh.get p=some (.row Wg e true)) (hr:Rs C ρ vf Z cs Wg):OR C ρ vf Z next vh i p (.cells cs)
 |row (g:Nat) (xs:List PV) (Wg:List Value) (ty:Ty) (ht:C.T g=some ty) (hz:Z p=none) (hg:vh.get p=some (.row Wg ty.size true)) (hr:RDs C Z (xs.flatMap Zd) Wg) (hl:∀x∈xs,(Zd x).length=ty.size):OR C ρ vf Z next vh i p (.row g true xs)
 |frozen (g:Nat) (xs:List PV) (s:SE) (ty:Ty) (ht:C.T g=some ty) (hs:Z p=some s) (he:s.e=ty.size) (Z73:s.tag=none\/s.tag=some g) (hr:RDs C Z (xs.flatMap Zd) s.cells) (hl:∀x∈xs,(Zd x).length=ty.size):OR C ρ vf Z next vh i p (.row g false xs)
 |map (es:List (PV×PV)) (ves:List (Value×Value)) (hz:Z p=none) (hg:vh.get p=some (.map ves)) (hr:MRP C ρ vf Z es ves):OR C ρ vf Z next vh i p (.map es)
 |loop (K:Loc) (n:Nat) (sl:Yt) (Y4:SL) (ps:List Nat) (as bd:Code) (hz:Z p=none) (hg:vh.get p=some (.loop Y4 ps as bd)) (hr:SR C ρ vf Z sl Y4) (hK:K.lo<=K.base) (hb:K.base+n<=i) (h1:Ud n as=true) (h2:Ud n bd=true):OR C ρ vf Z next vh i p (.loop K sl ps as bd)
 |gone (hp:p < vh.next) (hz:Z p=none):OR C ρ vf Z next vh i p .gone
section
variable (C:Ctx)(ρ:Nat->Nat)(Z:Vf)(vh:VH)
structure HP (h:PH):Prop where
 lt:∀i x,h.get i=some x->i < h.next
 inj:∀i j x y,h.get i=some x->h.get j=some y->ρ i=ρ j->i=j
 vlt:∀i o,vh.get i=some o->i < vh.next
 sig:Zq0 Z vh
 obj:∀i Zc o,h.get i=some (Zc,o)->OR C ρ (Zp h) Z h.next vh i (ρ i) o
 wr:vh.wr<=vh.next
end
section
variable {C:Ctx}{Z Z':Vf}{ρ YB:Nat->Nat}{vf vf':Nat->Option Nat}{h h':PH}{vh vh':VH}{next next':Nat}
theorem OR.mono {i p:Nat}{o:PO}(h:OR C ρ vf Z next vh i p o)(he:Rd ρ vf YB vf')(hz:Z.le Z')(hp:Z p=none->Z' p=none)(hg:Z p=none->vh'.get p=vh.get p)(hn:next<=next')(hvn:vh.next<=vh'.next):OR C YB vf' Z' next' vh' i p o:=by
 cases h with
 |cells cs Wg e hz1 Qc hr=>exact .cells cs Wg e (hp hz1) (by rw[hg hz1];exact Qc) (hr.mono he hz)
 |row g xs Wg ty ht hz1 Qc hr hl=>exact .row g xs Wg ty ht (hp hz1) (by rw[hg hz1];exact Qc) (hr.mono hz) hl
 |frozen g xs s ty ht hs he1 Z73 hr hl=>exact .frozen g xs s ty ht (hz _ _ hs) he1 Z73 (hr.mono hz) hl
 |map es ves hz1 Qc hr=>exact .map es ves (hp hz1) (by rw[hg hz1];exact Qc) (hr.mono he hz)
 |loop K n sl Y4 ps as bd hz1 Qc hr hK hb h1 h2=>exact .loop K n sl Y4 ps as bd (hp hz1) (by rw[hg hz1];exact Qc) (hr.mono he hz) hK hb h1 h2
 |gone hp1 hz1=>exact .gone (by omega) (hp hz1)
structure St (C:Ctx)(K:Loc)(ρ:Nat->Nat)(Z:Vf)(h:PH)(vh:VH)(YB:Nat->Nat)(Z':Vf)(h':PH)(vh':VH):Prop where
 hp:HP C YB Z' vh' h'
 ext:Rd ρ (Zp h) YB (Zp h')
 sig:Z.le Z'
 next:h.next<=h'.next
 vnext:vh.next<=vh'.next
 wr:vh'.wr<=vh.wr
 keep:∀i,can K i=false->h'.get i=h.get i
 same:∀i Zc o,i < K.lo->h.get i=some (Zc,o)->h'.get i=some (Zc,o)\/(∃g own xs,o=.row g own xs/\h'.get i=some (Zc,.row g false xs))\/vh'.wr<=ρ i
 plc:∀i x,h'.get i=some x->((∃y,h.get i=some y)/\YB i=ρ i)\/vh.next<=YB i
 vkeep:∀i x,h.get i=some x->can K i=false->vh'.get (ρ i)=vh.get (ρ i)
 vnone:∀q,q < vh.next->vh.get q=none->(∀i x,h.get i=some x->ρ i≠q)->vh'.get q=none
 low:∀b,b<=vh.next->b<=vh.wr->(∀i x,h.get i=some x->can K i=true->b<=ρ i)->b<=vh'.wr
theorem St.refl {K:Loc}(H:HP C ρ Z vh h):St C K ρ Z h vh ρ Z h vh where
 hp:=H
 ext:=Rd.refl _ _
 sig:=Vf.le.refl _
 next:=Nat.le_refl _
 vnext:=Nat.le_refl _
 wr:=Nat.le_refl _
 keep:=fun _ _=>rfl
 same:=fun i Zc o _ ho=>.inl ho
 plc:=fun i x hx=>.inl ⟨⟨x,hx⟩,rfl⟩
 vkeep:=fun _ _ _ _=>rfl
 vnone:=fun _ _ h _=>h
 low:=fun _ _ h _=>h
theorem Zt {i c:Nat}:Zp h i=some c↔∃o,h.get i=some (c,o):=by
 unfold Zp;rw[Option.map_eq_some_iff];constructor
 .rintro ⟨⟨a,o⟩,h1,rfl⟩;exact⟨o,h1⟩
 .rintro ⟨o,h1⟩;exact⟨(c,o),h1,rfl⟩
theorem HP.rho_lt (H:HP C ρ Z vh h){i:Nat}{x:Nat×PO}(hi:h.get i=some x):ρ i < vh.next:=by
 obtain⟨Zc,o⟩:=x;cases H.obj i Zc o hi with
 |gone hp hz=>exact hp
 |frozen g xs s ty ht hs=>exact H.vlt _ _ (H.sig _ _ hs)
 | _=>exact H.vlt _ _ (by assumption)
theorem St.trans {K:Loc}{ρ'':Nat->Nat}{Z'':Vf}{h'':PH}{vh'':VH}(H0:HP C ρ Z vh h)(a:St C K ρ Z h vh YB Z' h' vh')(b:St C K YB Z' h' vh' ρ'' Z'' h'' vh''):St C K ρ Z h vh ρ'' Z'' h'' vh'' where
 hp:=b.hp
 ext:=a.ext.trans b.ext
 sig:=a.sig.trans b.sig
 next:=Nat.le_trans a.next b.next
 vnext:=Nat.le_trans a.vnext b.vnext
 wr:=Nat.le_trans b.wr a.wr
 keep:=fun i hi=>(b.keep i hi).trans (a.keep i hi)
 same:=fun i Zc o Sh ho=>by
  rcases a.same i Zc o Sh ho with h1 | ⟨g,own,xs,rfl,h1⟩ | h1
  .have hr:YB i=ρ i:=by
    obtain⟨c',h2,_,h3⟩:=a.ext i Zc (Zt.2 ⟨o,ho⟩);rw[Zt.2 ⟨o,h1⟩]at h2;cases h2;exact h3 rfl
   rcases b.same i Zc o Sh h1 with h2 | h2 | h2
   .exact .inl h2
   .exact .inr (.inl h2)
   .rw [hr]at h2;exact .inr (.inr h2)
  .have hr:YB i=ρ i:=by
    obtain⟨c',h2,_,h3⟩:=a.ext i Zc (Zt.2 ⟨_,ho⟩);rw[Zt.2 ⟨_,h1⟩]at h2;cases h2;exact h3 rfl
   rcases b.same i Zc _ Sh h1 with h2 | ⟨g2,Zux,xs2,e,h2⟩ | h2
   .exact .inr (.inl ⟨g,own,xs,rfl,h2⟩)
   .cases e;exact .inr (.inl ⟨g,own,xs,rfl,h2⟩)
   .rw [hr]at h2;exact .inr (.inr h2)
  .exact .inr (.inr (Nat.le_trans b.wr h1))
 plc:=fun i x hx=>by
  rcases b.plc i x hx with⟨⟨y,h1⟩,h2⟩ | h1
  .rcases a.plc i y h1 with⟨h3,h4⟩ | h3
   .exact .inl ⟨h3,h2.trans h4⟩
   .exact .inr (by rw[h2];exact h3)
  .exact .inr (Nat.le_trans a.vnext h1)
 vkeep:=fun i x hx hc=>by
  have h1:=a.keep i hc;obtain⟨Zc,o⟩:=x
  have hr:YB i=ρ i:=by
   obtain⟨c',h2,_,h3⟩:=a.ext i Zc (Zt.2 ⟨o,hx⟩);rw[Zt.2 ⟨o,by rw[h1];exact hx⟩]at h2;cases h2;exact h3 rfl
  have:=b.vkeep i _ (h1.trans hx) hc;rw[hr]at this;rw[this];exact a.vkeep i _ hx hc
 vnone:=fun q hq hn hi=>b.vnone q (Nat.lt_of_lt_of_le hq a.vnext) (a.vnone q hq hn hi) fun i x hx e=>by
  rcases a.plc i x hx with⟨⟨y,hy⟩,h2⟩ | h2
  .exact hi i y hy (h2.symm.trans e)
  .omega
 low:=fun c h1 h2 h3=>b.low c (Nat.le_trans h1 a.vnext) (a.low c h1 h2 h3) fun i x hx hc=>by
  rcases a.plc i x hx with⟨⟨y,hy⟩,e⟩ | e
  .rw [e];exact h3 i y hy hc
  .omega
theorem HP.change {K:Loc}(H:HP C ρ Z vh h){i ver' p:Nat}{o:PO}(hwl:vh'.wr=vh.wr\/vh'.wr=min vh.wr (ρ i)/\∃x,h.get i=some x)(hi:i < h.next)(hc:can K i=true)
  (hver:∀Zc o',h.get i=some (Zc,o')->Zc<=ver'/\(ver'=Zc->p=ρ i)) (hpn:p < vh'.next)
  (hp:(∃x,h.get i=some x/\p=ρ i)\/vh.next<=p) (hvn:vh.next<=vh'.next) (hwr:vh'.wr<=vh.wr) (hwr2:i < K.lo->(∃x,h.get i=some x)->vh'.wr<=ρ i)
  (Zrv:∀q,q≠p->((∃x,h.get i=some x)->q≠ρ i)->vh'.get q=vh.get q) (hzi:∀x,h.get i=some x->Z (ρ i)=none\/vh'.get (ρ i)=vh.get (ρ i)) (hzp:Z p=none) (hvlt:∀q x,vh'.get q=some x->q < vh'.next)
  (ho:∀YB vf',YB=(fun j=>if j=i then p else ρ j)->vf'=Zp (h.put i ver' o)->Rd ρ (Zp h) YB vf'->OR C YB vf' Z h.next vh' i p o):
  St C K ρ Z h vh (fun j=>if j=i then p else ρ j) Z (h.put i ver' o) vh':=by
 have Ur:Rd ρ (Zp h) (fun j=>if j=i then p else ρ j) (Zp (h.put i ver' o)):=by
  intro j c hj;obtain⟨o',hj'⟩:=Zt.1 hj;by_cases e:j=i
  .subst e;obtain⟨h1,h2⟩:=hver c o' hj';exact⟨ver',by simp[Zp,PH.put],h1,fun e=>by simp[h2 e]⟩
  .exact ⟨c,by simp[Zp,PH.put,e,hj'],Nat.le_refl _,fun _=>by simp[e]⟩
 have Yp:∀j x,h.get j=some x->j≠i->ρ j≠p:=by
  intro j x hj hji e;rcases hp with⟨y,h1,rfl⟩ | h1
  .exact hji (H.inj _ _ _ _ hj h1 e)
  .have:=H.rho_lt hj;omega
 have Zne:∀j x,h.get j=some x->j≠i->((∃x,h.get i=some x)->ρ j≠ρ i):=fun j x hj hji ⟨y,hy⟩ e=>hji (H.inj _ _ _ _ hj hy e)
 refine⟨⟨?_,?_,hvlt,?_,?_,?_⟩,Ur,Vf.le.refl _,Nat.le_refl _,hvn,hwr,?_,?_,?_,?_,?_,?_⟩
 .intro j x hj;by_cases e:j=i
  .subst e;exact hi
  .simp [PH.put,e]at hj;exact H.lt j x hj
 .intro j k x y hj hk e;by_cases e1:j=i<;>by_cases e2:k=i
  .rw [e1,e2]
  .subst e1;simp[PH.put,e2]at hk e;exact absurd e.symm (Yp k _ hk e2)
  .subst e2;simp[PH.put,e1]at hj e;exact absurd e (Yp j _ hj e1)
  .simp [PH.put,e1,e2]at hj hk e;exact H.inj _ _ _ _ hj hk e
 .intro q s hq;have h1:=H.sig q s hq;by_cases e1:q=p
  .subst e1;rw[hzp]at hq;cases hq
  .by_cases e2:∃x,h.get i=some x/\q=ρ i
   .obtain ⟨x,hx,rfl⟩:=e2;rcases hzi x hx with h2 | h2
    .rw [h2]at hq;cases hq
    .rw [h2];exact h1
   .rw [Zrv q e1 fun⟨x,hx⟩ e=>e2 ⟨x,hx,e⟩];exact h1
 .intro j Zc o' hj;by_cases e:j=i
  .subst e;simp[PH.put]at hj;obtain⟨rfl,rfl⟩:=hj;simp only[if_true];exact ho _ _ rfl rfl Ur
  .simp [PH.put,e]at hj;have h1:=H.obj j Zc o' hj;simp only[e,if_false];refine h1.mono Ur (Vf.le.refl _) id (fun _=>Zrv _ (Yp j _ hj e) (Zne j _ hj e)) (Nat.le_refl _) hvn
 .exact Nat.le_trans hwr (Nat.le_trans H.wr hvn)
 .intro j hj;by_cases e:j=i
  .subst e;rw[hc]at hj;cases hj
  .simp [PH.put,e]
 .intro j Zc o' Sh hj;by_cases e:j=i
  .subst e;exact .inr (.inr (hwr2 Sh ⟨_,hj⟩))
  .exact .inl (by simp[PH.put,e,hj])
 .intro j x hj;by_cases e:j=i
  .subst e;simp only[if_true];rcases hp with⟨y,h1,rfl⟩ | h1
   .exact .inl ⟨⟨y,h1⟩,rfl⟩
   .exact .inr h1
  .simp [PH.put,e]at hj;exact .inl ⟨⟨x,hj⟩,by simp[e]⟩
 .intro j x hj hcj;have e:j≠i:=fun e=>by subst e;rw[hc]at hcj;cases hcj
  exact Zrv _ (Yp j _ hj e) (Zne j _ hj e)
 .intro q hq hn hj;rw[Zrv q ?_ ?_]
  .exact hn
  .intro e;rcases hp with⟨x,hx,h1⟩ | h1
   .exact hj i x hx (h1 ▸ e.symm)
   .omega
  .exact fun⟨x,hx⟩ e=>hj i x hx e.symm
 .intro b _ h2 h3;rcases hwl with e | ⟨e,x,hx⟩
  .rw [e];exact h2
  .rw [e];exact Nat.le_min.2 ⟨h2,h3 i x hx hc⟩
end
section
variable {C:Ctx}{Z Z':Vf}{ρ YB:Nat->Nat}{vf vf':Nat->Option Nat}{h h':PH}{vh vh':VH}{K:Loc}{n:Nat}{Xi:Yt}{Y4:SL}{o:Oper}{x:PV}{all:List Oper}
def Zfm (C:Ctx)(K:Loc)(ρ:Nat->Nat)(Z:Vf)(h:PH)(vh:VH)(x:PV)(h':PH)(r:Option (Value×VH)):Prop:=
 ∃v vh' YB Z',r=some (v,vh')/\R C YB (Zp h') Z' x v/\St C K ρ Z h vh YB Z' h' vh'
theorem Zwo (hK:K.lo<=K.base)(d:Nat):can K (K.base+d)=true:=by
 unfold can;rw[Bool.or_eq_true,Nat.ble_eq];exact .inl (by omega)
theorem Zb2 {vo:VO}(H:HP C ρ Z vh h)(hK:KOk K n h.next){d:Nat}(hd:d < n){ob:PO}
  (ho:∀YB vf',Rd ρ (Zp h) YB vf'->OR C YB vf' Z h.next (vh.new vo) (K.base+d) vh.next ob):
  St C K ρ Z h vh (fun j=>if j=K.base+d then vh.next else ρ j) Z (h.put (K.base+d) (h.stamp (K.base+d)) ob) (vh.new vo):=by
 have hzn:Z vh.next=none:=by
  cases e:Z vh.next with
  |none=>rfl
  |some s=>exact absurd (H.vlt _ _ (H.sig _ _ e)) (Nat.lt_irrefl _)
 have Zk:∀q,q≠vh.next->(vh.new vo).get q=vh.get q:=fun q hq=>by simp[VH.new,Sy hq]
 refine HP.change H (.inl rfl) (by have:=hK.2;omega) (Zwo hK.1 d) (fun Zc o' hi=>?_) (by simp[VH.new]) (.inr (Nat.le_refl _)) (by simp[VH.new]) (Nat.le_refl _) (fun Sh=>absurd Sh (by have:=hK.1;omega))
  (fun q hq _=>Zk q hq) (fun y hy=>.inr (Zk _ (by have:=H.rho_lt hy;omega))) hzn (fun q y hq=>?_) (fun YB vf' _ _ he=>ho YB vf' he)
 .have:h.stamp (K.base+d)=Zc+1:=by simp[PH.stamp,hi]
  rw[this];exact⟨by omega,fun e=>by omega⟩
 .by_cases e:q=vh.next
  .subst e;simp[VH.new]
  .rw [Zk q e]at hq;have:=H.vlt _ _ hq;simp only[VH.new];omega
theorem Zhr {i Zc:Nat}{o:PO}:Zp (h.put i Zc o) i=some Zc:=by simp[Zp,PH.put]
theorem Zmk {z:PV}{v:List Value}(hz:RDs C Z (Zd z) v)(n:Nat):RDs C Z ((List.replicate n z).flatMap Zd) (Vv n v):=by
 unfold Vv
 induction n with
 |zero=>simpa using .nil
 |succ n ih=>
  rw[List.replicate_succ',List.range_succ,List.flatMap_append,List.flatMap_append];refine ih.append ?_;simpa using hz
theorem Z0l {m:Nat}:∀ {n:Nat} {x:PV} {v:Value},plain n x=true->R C ρ vf Z x v->RD C Z x v:=by
 intro n
 induction n with
 |zero=>
  intro x v hp hr;cases hr with
  |d h=>exact h
  | _=>simp[plain]at hp
 |succ n ih=>
  intro x v hp hr
  have hs:∀ {cs:List PV} {cs':List Value},cs.all (plain n)=true->Rs C ρ vf Z cs cs'->RDs C Z cs cs':=by
   intro cs
   induction cs with
   |nil=>intro cs' _ h;cases h;exact .nil
   |cons c cs ih2=>
    intro cs' ha h;simp only[List.all_cons,Bool.and_eq_true]at ha;cases h with | cons h r=>exact .cons (ih ha.1 h) (ih2 ha.2 r)
  cases hr with
  |d h=>exact h
  |agg cs cs' h=>exact .agg _ _ (hs (by simpa[plain]using hp) h)
  |iface t y w h=>exact .iface t _ _ (ih (by simpa[plain]using hp) h)
  | _=>simp[plain]at hp
theorem Zur {n:Nat}{x:PV}{v:Value}(hp:plain n x=true)(hr:R C ρ vf Z x v):RDs C Z (Zd x) v.cells.toList:=(Z0l (m:=0) hp hr).cells
theorem Z6k {xs:List PV}{sz:Nat}(hl:∀x∈xs,(Zd x).length=sz){i:Nat}(hi:i < xs.length){y:PV}(hy:(Zd y).length=sz):Yn (xs.flatMap Zd) (i*sz) (Zd y)=some ((xs.set i y).flatMap Zd):=by
 induction xs generalizing i with
 |nil=>simp at hi
 |cons x xs ih=>
  have hx:=hl x (by simp)
  have wapp:∀(a b vs:List PV) (o:Nat),Yn (a++b) (a.length+o) vs=(Yn b o vs).map (a++·):=by
   intro a
   induction a with
   |nil=>intro b vs o;simp
   |cons c a ih2=>
    intro b vs o;cases vs with
    |nil=>
     have e1:∀(l:List PV) (k:Nat),Yn l k []=some l:=fun l k=>by cases l<;>cases k<;>rfl
     rw[e1,e1];rfl
    |cons v vs=>
     have:(c::a).length+o=(a.length+o)+1:=by simp;omega
     rw[this];simp only[List.cons_append,Yn,ih2,Option.map_map];rfl
  have wall:∀(a b vs:List PV),vs.length=a.length->Yn (a++b) 0 vs=some (vs++b):=by
   intro a
   induction a with
   |nil=>intro b vs h;cases vs with
    |nil=>cases b<;>rfl
    |cons _ _=>simp at h
   |cons c a ih2=>
    intro b vs h;cases vs with
    |nil=>simp at h
    |cons v vs=>
     simp only[List.cons_append,Yn];rw[ih2 b vs (by simpa using h)];rfl
  cases i with
  |zero=>
   simp only[List.flatMap_cons,Nat.zero_mul,List.set_cons_zero];exact wall _ _ _ (by rw[hy,hx])
  |succ i=>
   simp only[List.flatMap_cons,List.set_cons_succ];have:(i+1)*sz=(Zd x).length+i*sz:=by rw[hx,Nat.succ_mul];omega
   rw[this,wapp,ih (fun z hz=>hl z (by simp[hz])) (by simpa using hi)];rfl
theorem Z0e {xs:List PV}{sz:Nat}(hl:∀x∈xs,(Zd x).length=sz){i:Nat}{y:PV}(hy:(Zd y).length=sz):∀x∈xs.set i y,(Zd x).length=sz:=by
 intro x hx;rcases List.mem_or_eq_of_mem_set hx with h | h
 .exact hl x h
 .rw [h];exact hy
theorem Z4i {ps:List (Nat×PV)}{ps':List (Nat×Value)}{sz:Nat}(hp:RPs C ρ vf Z ps ps'):∀ {xs xs2:List PV} {Wx:List Value},RDs C Z (xs.flatMap Zd) Wx->(∀x∈xs,(Zd x).length=sz)->Zql sz xs ps=some xs2 ->
  ∃Zip,Qn (fun i=>some (i*sz,sz)) Wx ps'=some Zip/\RDs C Z (xs2.flatMap Zd) Zip/\(∀x∈xs2,(Zd x).length=sz)/\xs2.length=xs.length:=by
 induction hp with
 |nil=>intro xs xs2 Wx h1 hl h;simp only[Zql,Option.some.injEq]at h;subst h;exact⟨Wx,rfl,h1,hl,rfl⟩
 | @cons i x v l l' h r ih=>
   intro xs xs2 Wx h1 hl hf;simp only[Zql]at hf;simp only[Qn];split at hf
   .rename_i hc;obtain⟨c1,c2,c3,c4⟩:=hc;have hw:=Z6k hl c2 c1;have hpl:=Zur c4 h;obtain⟨w',h3,h4⟩:=Zf6 (ρ:=ρ) (vf:=vf) h1.up hpl.up hw
    have h5:RDs C Z ((xs.set i x).flatMap Zd) w':=by
     have hlen:=Zly hw;clear ih r hf
     have key:∀ {a:List PV} {off:Nat} {b a2:List PV} {a' b' a2':List Value},RDs C Z a a'->RDs C Z b b'->Yn a off b=some a2->We a' off b'=some a2'->RDs C Z a2 a2':=by
      intro a
      induction a with
      |nil=>
       intro off b a2 a' b' a2' ha hb hw hw';cases b with
       |nil=>simp only[Yn,Option.some.injEq]at hw;subst hw;cases hb;cases ha;simp only[We,Option.some.injEq]at hw';subst hw';exact .nil
       |cons _ _=>simp[Yn]at hw
      |cons c a iha=>
       intro off b a2 a' b' a2' ha hb hw hw';cases b with
       |nil=>
        have e1:Yn (c::a) off []=some (c::a):=by cases off<;>rfl
        rw[e1]at hw;cases hw;cases hb;have e2:We a' off []=some a':=by cases a'<;>cases off<;>rfl
        rw[e2]at hw';cases hw';exact ha
       |cons d b=>
        cases ha with
        |cons g r=>
         cases hb with
         |cons g2 r2=>
          cases off with
          |zero=>
           simp only[Yn,Option.map_eq_some_iff]at hw;simp only[We,Option.map_eq_some_iff]at hw';obtain⟨q,hq,rfl⟩:=hw;obtain⟨q',hq',rfl⟩:=hw';exact .cons g2 (iha r r2 hq hq')
          |succ k=>
           simp only[Yn,Option.map_eq_some_iff]at hw;simp only[We,Option.map_eq_some_iff]at hw';obtain⟨q,hq,rfl⟩:=hw;obtain⟨q',hq',rfl⟩:=hw';exact .cons g (iha r (.cons g2 r2) hq hq')
     exact key h1 hpl hw h3
    have hlen:v.cells.toList.length=sz:=by rw[h.cells.length];exact c1
    have Uq:=U5 hl;have hle:i*sz+sz<=xs.length*sz:=by rw[<- Nat.succ_mul];exact Nat.mul_le_mul_right _ c2
    rw[if_pos ⟨hlen,by rw[hlen,h1.length,Uq];exact hle,h.cells.cell c3⟩,h3];obtain⟨q,a1,a2,a3,a4⟩:=ih h5 (Z0e hl c1) hf;exact⟨q,a1,a2,a3,by rw[a4];simp⟩
   .cases hf
inductive MkOk (C:Ctx)(ρ:Nat->Nat)(vf:Nat->Option Nat)(Z:Vf):Mk->Shape->VO->Prop
 |lit (g:Nat) (xs:List PV) (Wg:List Value) (ty:Ty) (ht:C.T g=some ty) (hr:RDs C Z (xs.flatMap Zd) Wg) (hl:∀x∈xs,(Zd x).length=ty.size):MkOk C ρ vf Z (.lit (.lst g xs)) (.slice xs.length) (.row Wg ty.size true)
 |ptr (cs:List PV) (Wg:List Value) (e:Nat) (hr:Rs C ρ vf Z cs Wg):MkOk C ρ vf Z (.ptr (.cells cs)) .ptr (.row Wg e true)
 |slice (g n:Nat) (xs:List PV) (Wg:List Value) (ty:Ty) (ht:C.T g=some ty) (hr:RDs C Z (xs.flatMap Zd) Wg) (hl:∀x∈xs,(Zd x).length=ty.size):MkOk C ρ vf Z (.slice g n (.row g true xs)) (.slice n) (.row Wg ty.size true)
 |map:MkOk C ρ vf Z .map .map (.map [])
theorem Zri {v:Value}{x:PV}(h:Zz 0 v=some x):Wv x=true:=by
 cases v with
 |pointer a=>cases a<;>simp[Zz]at h;subst h;rfl
 |slice a b c=>cases a<;>cases b<;>cases c<;>simp[Zz]at h;subst h;rfl
 |map a=>cases a<;>simp[Zz]at h;subst h;rfl
 | _=>first | (simp[Zz]at h;done) | (simp[Zz]at h;subst h;rfl)
theorem Zf4 {te:Ty}{z:PV}(h:Q8 te=some z):RDs C Z (Zd z) te.zero:=by
 unfold Q8 at h;rw[Option.bind_eq_some_iff]at h;obtain⟨l,hl,hz⟩:=h;have h1:RDs C Z l te.zero:=R5 hl;cases hb:te.k.agg with
 |true=>
  rw[hb]at hz;simp only[toP,if_true,Option.some.injEq]at hz;subst hz;exact h1
 |false=>
  rw[hb]at hz;simp only[toP,Bool.false_eq_true,if_false]at hz;split at hz
  .rename_i u;cases hz;cases hq:te.zero with
   |nil=>rw[hq]at h1;cases h1
   |cons a r=>
    rw[hq]at h1 hl;cases h1 with
    |cons g1 g2=>
     cases g2;simp only[Zbf,Zz.go]at hl;cases hp:Zz 0 a with
     |none=>rw[hp]at hl;cases hl
     |some p=>
      rw[hp]at hl;simp only[Option.some.injEq,List.cons.injEq,and_true]at hl;subst hl;have hc:=Zri hp;have:Zd p=[p]:=by cases p<;>simp_all[Wv,Zd]
      rw[this];exact .cons g1 .nil
  .cases hz
theorem Zpz (S:SR C ρ vf Z Xi Y4){m:Mk}(h:V5 C all Xi o=some m):∃sh vo,MkOk C ρ vf Z m sh vo/\Qa C Y4 o=some (sh,vo)/\∀(cf yf:Nat->List Value->VH->Option (Value×VH)) (vh:VH),Xn C cf yf Y4 vh o=some (sh.val vh.next,vh.new vo):=by
 cases ho:o.op with
 |alloc t=>
  simp only[V5,ho]at h;split at h
  .rename_i ty ht;rw[Option.map_eq_some_iff]at h;obtain⟨z,hz,rfl⟩:=h;exact⟨.ptr,_,.ptr z ty.zero ty.size (R5 hz).up,by simp only[Qa,ho,ht],fun cf yf vh=>by simp only[Xn,ho,ht];rfl⟩
  .cases h
 |box t y=>
  simp only[V5,ho]at h;split at h
  .rename_i v hv;obtain⟨w,h1,h2⟩:=Zj S hv;split at h
   .rename_i hc;cases h;have hc':=h2.cells.cell hc;exact⟨.ptr,_,.ptr _ w.cells.toList w.cells.toList.length h2.cells,by simp only[Qa,ho,h1];rw[if_pos hc'],fun cf yf vh=>by simp only[Xn,ho,h1];rw[if_pos hc'];rfl⟩
   .cases h
  .cases h
 |buildSlice t len ps=>
  simp only[V5,ho]at h;split at h
  .rename_i ty vs ht hvs;obtain⟨Qk,hp1,hp2⟩:=Zgf S hvs;split at h
   .rename_i e hk;split at h
    .rename_i te Vw;split at h
     .rename_i hlen;split at h
      .rename_i z hz;split at h
       .rename_i hzc;split at h
        .rename_i xs hxs;have Z3d:RDs C Z (Zd z) te.zero:=Zf4 hz;obtain⟨cs,f1,f2,f3,f4⟩:=Z4i hp2 (Zmk Z3d len) (fun x hx=>by rw[(List.mem_replicate.1 hx).2];exact hzc.1) hxs;have hzl:te.zero.all cellB=true:=(Z3d.up (ρ:=ρ) (vf:=vf)).cell hzc.2.1
         have hm:Qa C Y4 o=some (.slice len,.row cs te.size true):=by
          simp only[Qa,ho,ht,hp1,hk,Vw];rw[if_pos hlen.1,f1];rfl
         have X6:∀(cf yf:Nat->List Value->VH->Option (Value×VH)) (vh:VH),Xn C cf yf Y4 vh o=some ((Shape.slice len).val vh.next,vh.new (.row cs te.size true)):=fun cf yf vh=>by
          simp only[Xn,ho,ht,hp1,hk,Vw];rw[if_pos ⟨hlen.1,hlen.2,hzl⟩,f1];rfl
         have S5:xs.length=len:=by rw[f4];simp
         split at h
         .split at h
          .cases h;have:=MkOk.lit (ρ:=ρ) (vf:=vf) e xs cs te Vw f2 f3;rw[S5]at this;exact⟨_,_,this,hm,X6⟩
          .cases h;exact⟨_,_,.slice e len xs cs te Vw f2 f3,hm,X6⟩
         .cases h
        .cases h
       .cases h
      .cases h
     .cases h
    .cases h
   .cases h
  .cases h
 |makeSlice t l c=>
  simp only[V5,ho]at h;split at h
  .rename_i ty k1 n k2 m ht hl hc;obtain⟨l',h1,h2⟩:=Zj S hl;obtain⟨c',h3,h4⟩:=Zj S hc;rw[h2.int_inv]at h1;rw[h4.int_inv]at h3;split at h
   .rename_i e hk;split at h
    .rename_i te Vw;split at h
     .rename_i hb;split at h
      .rename_i z hz;split at h
       .rename_i hzc;cases h;have Z3d:RDs C Z (Zd z) te.zero:=Zf4 hz;refine⟨_,_,.slice e n.toNat _ _ te Vw (Zmk Z3d n.toNat) (fun x hx=>by rw[(List.mem_replicate.1 hx).2];exact hzc.1),?_,fun cf yf vh=>?_⟩
        .simp only [Qa,ho,ht,h1,h3,hk,Vw];rw[if_pos hb]
        .simp only [Xn,ho,ht,h1,h3,hk,Vw];rw[if_pos ⟨hb.1,hb.2.1,hb.2.2.1⟩,if_pos hb.2.2.2];rfl
       .cases h
      .cases h
     .cases h
    .cases h
   .cases h
  .cases h
 |makeMap t r=>
  cases r with
  |none=>
   simp only[V5,ho]at h;cases h;exact⟨_,_,.map,by simp only[Qa,ho],fun cf yf vh=>by simp only[Xn,ho];rfl⟩
  |some r=>simp[V5,ho]at h
 | _=>simp[V5,ho]at h
end
end Go.Pure
end
