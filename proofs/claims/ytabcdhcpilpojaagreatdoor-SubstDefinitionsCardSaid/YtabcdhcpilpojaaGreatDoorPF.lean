/- How a plain run's state stands to a virtual one's. -/
import Derived.Test.YtabcdhcpilpojaaGreatDoorPA
import Derived.MapKept
set_option linter.unusedSimpArgs false
set_option linter.unusedVariables false
section
namespace Go.Pure
open Go Go.Virt
structure SE where
 cells:List Value
 e:Nat
 own:Bool
 tag:Option Nat
abbrev Vg:=Nat->Option SE
mutual
inductive RD (C:Ctx)(Z:Vg):PV->Value->Prop
 |bool (b:Bool):RD C Z (.bool b) (.bool b)
 |int (k:IntKind) (n:Int):RD C Z (.int k n) (.int k n)
 |str (b:ByteArray):RD C Z (.str (b.data.toList.map UInt8.toNat)) (.string b)
 |nilp:RD C Z .nilp (.pointer none)
 |nils:RD C Z .nils (.slice none 0 0)
 |nilm:RD C Z .nilm (.map none)
 |nilf:RD C Z .nilf .nilFunc
 |nili:RD C Z .nili .nilIface
 |lst (g:Nat) (xs:List PV) (Zv o cap:Nat) (s:SE) (Wi:List Value) (ty:Ty) (hs:Z Zv=some s) (he:s.e=ty.size) (ht:s.tag=none\/s.tag=some g) (Q8:C.T g=some ty)
   (hr:readN s.cells o (xs.length*ty.size)=some Wi) (hx:RDs C Z (xs.flatMap Zc) Wi) (hl:∀x∈xs,(Zc x).length=ty.size):RD C Z (.lst g xs) (.slice (some ⟨Zv,o,none⟩) xs.length cap)
 |iface (t:Nat) (x:PV) (v:Value) (h:RD C Z x v):RD C Z (.iface t x) (.iface t v)
 |agg (cs:List PV) (cs':Array Value) (h:RDs C Z cs cs'.toList):RD C Z (.agg cs) (.agg cs')
inductive RDs (C:Ctx)(Z:Vg):List PV->List Value->Prop
 |nil:RDs C Z [] []
 |cons {x:PV} {v:Value} {l:List PV} {l':List Value} (h:RD C Z x v) (r:RDs C Z l l'):RDs C Z (x::l) (v::l')
end
mutual
inductive R (C:Ctx)(ρ:Nat->Nat)(vf:Nat->Option Nat)(Z:Vg):PV->Value->Prop
 |d {x:PV} {v:Value} (h:RD C Z x v):R C ρ vf Z x v
 |own (i ver g off len c:Nat) (a:Addr) (cap:Nat) (ty:Ty) (hi:vf i=some c) (hv:ver<=c) (hp:a.spot=none) (ht:C.T g=some ty) (ha:ver=c->a=⟨ρ i,off*ty.size,none⟩):R C ρ vf Z (.own i ver g off len) (.slice (some a) len cap)
 |ptr (i ver off c:Nat) (a:Addr) (hi:vf i=some c) (hv:ver<=c) (hp:a.spot=none) (ha:ver=c->a=⟨ρ i,off,none⟩):R C ρ vf Z (.ptr i ver off) (.pointer (some a))
 |eptr (i ver g ix off c:Nat) (a:Addr) (ty:Ty) (hi:vf i=some c) (hv:ver<=c) (hp:a.spot=none) (ht:C.T g=some ty) (ha:ver=c->a=⟨ρ i,ix*ty.size+off,none⟩):R C ρ vf Z (.eptr i ver g ix off) (.pointer (some a))
 |rptr (cs:List PV) (Zv o:Nat) (s:SE) (Wi:List Value) (hs:Z Zv=some s) (hr:readN s.cells o cs.length=some Wi) (hx:RDs C Z cs Wi):R C ρ vf Z (.rptr cs) (.pointer (some ⟨Zv,o,none⟩))
 |map (i ver c w:Nat) (hi:vf i=some c) (hv:ver<=c) (ha:ver=c->w=ρ i):R C ρ vf Z (.map i ver) (.map (some w))
 |fn (f:Nat) (a c:List PV) (a' c':Array Value) (h1:Rs C ρ vf Z a a'.toList) (h2:Rs C ρ vf Z c c'.toList):R C ρ vf Z (.fn f a c) (.func (.func f) a' c')
 |yield (i ver c w:Nat) (hi:vf i=some c) (hv:ver<=c) (ha:ver=c->w=ρ i):R C ρ vf Z (.yield i ver) (.func (.yield w) #[] #[])
 |iface (t:Nat) (x:PV) (v:Value) (h:R C ρ vf Z x v):R C ρ vf Z (.iface t x) (.iface t v)
 |agg (cs:List PV) (cs':Array Value) (h:Rs C ρ vf Z cs cs'.toList):R C ρ vf Z (.agg cs) (.agg cs')
 |tuple (cs:List PV) (cs':Array Value) (h:Rs C ρ vf Z cs cs'.toList):R C ρ vf Z (.tuple cs) (.tuple cs')
inductive Rs (C:Ctx)(ρ:Nat->Nat)(vf:Nat->Option Nat)(Z:Vg):List PV->List Value->Prop
 |nil:Rs C ρ vf Z [] []
 |cons {x:PV} {v:Value} {l:List PV} {l':List Value} (h:R C ρ vf Z x v) (r:Rs C ρ vf Z l l'):Rs C ρ vf Z (x::l) (v::l')
end
def Vg.le (Z Z':Vg):Prop:=∀Zv s,Z Zv=some s->Z' Zv=some s
theorem Vg.le.refl (Z:Vg):Z.le Z:=fun Zv s h=>h
theorem Vg.le.trans {A B D:Vg}(h:A.le B)(k:B.le D):A.le D:=fun Zv s ha=>k _ _ (h _ _ ha)
def Rm (ρ:Nat->Nat)(vf:Nat->Option Nat)(YB:Nat->Nat)(vf':Nat->Option Nat):Prop:=
 ∀i c,vf i=some c->∃c',vf' i=some c'/\c<=c'/\(c'=c->YB i=ρ i)
theorem Rm.refl (ρ:Nat->Nat)(vf:Nat->Option Nat):Rm ρ vf ρ vf:=fun i c h=>⟨c,h,Nat.le_refl _,fun _=>rfl⟩
theorem Rm.trans {ρ YB ρ'':Nat->Nat}{vf vf' vf'':Nat->Option Nat}(h:Rm ρ vf YB vf')(k:Rm YB vf' ρ'' vf''):Rm ρ vf ρ'' vf'':=fun i c hc=>by
 obtain⟨c1,h1,l1,e1⟩:=h i c hc;obtain⟨c2,h2,l2,e2⟩:=k i c1 h1;refine⟨c2,h2,Nat.le_trans l1 l2,fun e=>?_⟩;have:c1=c:=by omega
 subst this;rw[e2 e,e1 rfl]
section
variable {C:Ctx}{Z Z':Vg}{ρ YB:Nat->Nat}{vf vf':Nat->Option Nat}
mutual
theorem RD.mono (hz:Z.le Z'):∀ {x:PV} {v:Value},RD C Z x v->RD C Z' x v
 | _,_,.bool b=>.bool b
 | _,_,.int k n=>.int k n
 | _,_,.str b=>.str b
 | _,_,.nilp=>.nilp
 | _,_,.nils=>.nils
 | _,_,.nilm=>.nilm
 | _,_,.nilf=>.nilf
 | _,_,.nili=>.nili
 | _,_,.lst g xs Zv o cap s Wi ty hs he ht Q8 hr hx hl=>by
   exact .lst g xs Zv o cap s Wi ty (hz _ _ hs) he ht Q8 hr (RDs.mono hz hx) hl
 | _,_,.iface t x v h=>.iface t x v (RD.mono hz h)
 | _,_,.agg cs cs' h=>.agg cs cs' (RDs.mono hz h)
theorem RDs.mono (hz:Z.le Z'):∀ {l:List PV} {l':List Value},RDs C Z l l'->RDs C Z' l l'
 | _,_,.nil=>.nil
 | _,_,.cons h r=>.cons (RD.mono hz h) (RDs.mono hz r)
end
mutual
theorem R.mono (he:Rm ρ vf YB vf')(hz:Z.le Z'):∀ {x:PV} {v:Value},R C ρ vf Z x v->R C YB vf' Z' x v
 | _,_,.d h=>.d (h.mono hz)
 | _,_,.own i ver g off len c a cap ty hi hv hp ht ha=>by
   obtain⟨c',h1,l1,e1⟩:=he i c hi;exact .own i ver g off len c' a cap ty h1 (by omega) hp ht (fun e=>by rw[e1 (by omega)];exact ha (by omega))
 | _,_,.ptr i ver off c a hi hv hp ha=>by
   obtain⟨c',h1,l1,e1⟩:=he i c hi;exact .ptr i ver off c' a h1 (by omega) hp (fun e=>by rw[e1 (by omega)];exact ha (by omega))
 | _,_,.eptr i ver g ix off c a ty hi hv hp ht ha=>by
   obtain⟨c',h1,l1,e1⟩:=he i c hi;exact .eptr i ver g ix off c' a ty h1 (by omega) hp ht (fun e=>by rw[e1 (by omega)];exact ha (by omega))
 | _,_,.rptr cs Zv o s Wi hs hr hx=>.rptr cs Zv o s Wi (hz _ _ hs) hr (hx.mono hz)
 | _,_,.map i ver c w hi hv ha=>by
   obtain⟨c',h1,l1,e1⟩:=he i c hi;exact .map i ver c' w h1 (by omega) (fun e=>by rw[e1 (by omega)];exact ha (by omega))
 | _,_,.fn f a c a' c' h1 h2=>.fn f a c a' c' (Rs.mono he hz h1) (Rs.mono he hz h2)
 | _,_,.yield i ver c w hi hv ha=>by
   obtain⟨c',h1,l1,e1⟩:=he i c hi;exact .yield i ver c' w h1 (by omega) (fun e=>by rw[e1 (by omega)];exact ha (by omega))
 | _,_,.iface t x v h=>.iface t x v (R.mono he hz h)
 | _,_,.agg cs cs' h=>.agg cs cs' (Rs.mono he hz h)
 | _,_,.tuple cs cs' h=>.tuple cs cs' (Rs.mono he hz h)
theorem Rs.mono (he:Rm ρ vf YB vf')(hz:Z.le Z'):∀ {l:List PV} {l':List Value},Rs C ρ vf Z l l'->Rs C YB vf' Z' l l'
 | _,_,.nil=>.nil
 | _,_,.cons h r=>.cons (R.mono he hz h) (Rs.mono he hz r)
end
theorem RDs.length {l:List PV}{l':List Value}(h:RDs C Z l l'):l'.length=l.length:=by
 induction l generalizing l' with
 |nil=>cases h;rfl
 |cons v l ih=>cases h with | cons h r=>simp[ih r]
theorem Rs.length {l:List PV}{l':List Value}(h:Rs C ρ vf Z l l'):l'.length=l.length:=by
 induction l generalizing l' with
 |nil=>cases h;rfl
 |cons v l ih=>cases h with | cons h r=>simp[ih r]
theorem RDs.up {l:List PV}{l':List Value}(h:RDs C Z l l'):Rs C ρ vf Z l l':=by
 induction l generalizing l' with
 |nil=>cases h;exact .nil
 |cons v l ih=>cases h with | cons h r=>exact .cons (.d h) (ih r)
theorem RDs.append {a b:List PV}{a' b':List Value}(h:RDs C Z a a')(k:RDs C Z b b'):RDs C Z (a++b) (a'++b'):=by
 induction a generalizing a' with
 |nil=>cases h;exact k
 |cons v a ih=>cases h with | cons h r=>exact .cons h (ih r)
theorem Rs.append {a b:List PV}{a' b':List Value}(h:Rs C ρ vf Z a a')(k:Rs C ρ vf Z b b'):Rs C ρ vf Z (a++b) (a'++b'):=by
 induction a generalizing a' with
 |nil=>cases h;exact k
 |cons v a ih=>cases h with | cons h r=>exact .cons h (ih r)
theorem RDs.drop {l:List PV}{l':List Value}(h:RDs C Z l l'):∀n,RDs C Z (l.drop n) (l'.drop n):=by
 intro n
 induction n generalizing l l' with
 |zero=>simpa using h
 |succ n ih=>cases h with | nil=>exact .nil | cons h r=>simpa using ih r
theorem RDs.take {l:List PV}{l':List Value}(h:RDs C Z l l'):∀n,RDs C Z (l.take n) (l'.take n):=by
 intro n
 induction n generalizing l l' with
 |zero=>simpa using .nil
 |succ n ih=>cases h with | nil=>simpa using .nil | cons h r=>simpa using .cons h (ih r)
theorem Rs.drop {l:List PV}{l':List Value}(h:Rs C ρ vf Z l l'):∀n,Rs C ρ vf Z (l.drop n) (l'.drop n):=by
 intro n
 induction n generalizing l l' with
 |zero=>simpa using h
 |succ n ih=>cases h with | nil=>exact .nil | cons h r=>simpa using ih r
theorem Rs.take {l:List PV}{l':List Value}(h:Rs C ρ vf Z l l'):∀n,Rs C ρ vf Z (l.take n) (l'.take n):=by
 intro n
 induction n generalizing l l' with
 |zero=>simpa using .nil
 |succ n ih=>cases h with | nil=>simpa using .nil | cons h r=>simpa using .cons h (ih r)
theorem Rs.get {l:List PV}{l':List Value}(h:Rs C ρ vf Z l l'){j:Nat}{x:PV}(hj:l[j]?=some x):∃v,l'[j]?=some v/\R C ρ vf Z x v:=by
 induction l generalizing l' j with
 |nil=>simp at hj
 |cons u l ih=>
  cases h with
  |cons h r=>
   cases j with
   |zero=>simp at hj;subst hj;exact⟨_,by simp,h⟩
   |succ j=>simp at hj;obtain⟨v',h1,h2⟩:=ih r hj;exact⟨v',by simpa using h1,h2⟩
theorem Tg {cs:List Value}{off n:Nat}{r:List Value}:readN cs off n=some r↔r=(cs.drop off).take n/\(off+n<=cs.length\/n=0):=by
 unfold readN;simp only[List.length_take,List.length_drop];constructor
 .intro h;split at h
  .rename_i hl;cases h;exact⟨rfl,by omega⟩
  .cases h
 .rintro ⟨rfl,h⟩;rw[if_pos (by omega)]
theorem Rs.read {l:List PV}{l':List Value}(h:Rs C ρ vf Z l l'){off n:Nat}{r:List PV}(hr:X3 l off n=some r):∃r',readN l' off n=some r'/\Rs C ρ vf Z r r':=by
 unfold X3 at hr;split at hr
 .rename_i hl;cases hr;exact⟨(l'.drop off).take n,Tg.2 ⟨rfl,.inl (by rw[h.length];exact hl)⟩,(h.drop off).take n⟩
 .cases hr
theorem RDs.read {l:List PV}{l':List Value}(h:RDs C Z l l'){off n:Nat}{r:List PV}(hr:X3 l off n=some r):∃r',readN l' off n=some r'/\RDs C Z r r':=by
 unfold X3 at hr;split at hr
 .rename_i hl;cases hr;exact⟨(l'.drop off).take n,Tg.2 ⟨rfl,.inl (by rw[h.length];exact hl)⟩,(h.drop off).take n⟩
 .cases hr
theorem Qd {cs:List Value}{o m off n:Nat}{r r':List Value}(h:readN cs o m=some r)(h':readN r off n=some r')(hl:off+n<=m):readN cs (o+off) n=some r':=by
 obtain⟨rfl,h1⟩:=Tg.1 h;obtain⟨rfl,h2⟩:=Tg.1 h';refine Tg.2 ⟨?_,by omega⟩;rw[List.drop_take,List.drop_drop,List.take_take];congr 1;omega
theorem RD.cells {x:PV}{v:Value}(h:RD C Z x v):RDs C Z (Zc x) v.cells.toList:=by
 have h0:=h;cases h with
 |agg cs cs' h=>exact h
 | _=>exact .cons h0 .nil
theorem R.cells {x:PV}{v:Value}(h:R C ρ vf Z x v):Rs C ρ vf Z (Zc x) v.cells.toList:=by
 have h0:=h;cases h with
 |agg cs cs' h=>exact h
 |d h=>exact h.cells.up
 | _=>exact .cons h0 .nil
theorem R.cell {x:PV}{v:Value}(h:R C ρ vf Z x v)(hc:Wx x=true):cellB v=true:=by
 cases h with
 |d h=>cases h<;>simp_all[Wx,cellB]
 | _=>simp_all[Wx,cellB]
theorem Rs.cell {l:List PV}{l':List Value}(h:Rs C ρ vf Z l l')(hc:l.all Wx=true):l'.all cellB=true:=by
 induction l generalizing l' with
 |nil=>cases h;rfl
 |cons v l ih=>
  simp only[List.all_cons,Bool.and_eq_true]at hc;cases h with | cons h r=>simp[h.cell hc.1,ih r hc.2]
theorem Zhr {l:List PV}{l':List Value}{b:Bool}{x:PV}(h:Rs C ρ vf Z l l')(hx:toP b l=some x):∃v,toV b l'=some v/\R C ρ vf Z x v:=by
 cases b with
 |true=>
  simp only[toP,if_true,Option.some.injEq]at hx;subst hx;exact⟨.agg l'.toArray,by simp[toV],.agg _ _ (by simpa using h)⟩
 |false=>
  cases h with
  |nil=>simp[toP]at hx
  |cons h r=>
   cases r with
   |nil=>
    simp[toP]at hx;subst hx;exact⟨_,by simp[toV],h⟩
   |cons _ _=>simp[toP]at hx
theorem Zhq {l:List PV}{l':List Value}{b:Bool}{x:PV}(h:RDs C Z l l')(hx:toP b l=some x):∃v,toV b l'=some v/\RD C Z x v:=by
 cases b with
 |true=>
  simp only[toP,if_true,Option.some.injEq]at hx;subst hx;exact⟨.agg l'.toArray,by simp[toV],.agg _ _ (by simpa using h)⟩
 |false=>
  cases h with
  |nil=>simp[toP]at hx
  |cons h r=>
   cases r with
   |nil=>
    simp[toP]at hx;subst hx;exact⟨_,by simp[toV],h⟩
   |cons _ _=>simp[toP]at hx
mutual
theorem Qf:∀(n:Nat) (v:Value) {x:PV},Zy n v=some x->RD C Z x v
 |n,.bool b,x,h=>by cases n<;>simp only[Zy,Option.some.injEq]at h<;>subst h<;>exact .bool b
 |n,.int k i,x,h=>by cases n<;>simp only[Zy,Option.some.injEq]at h<;>subst h<;>exact .int k i
 |n,.string s,x,h=>by cases n<;>simp only[Zy,Option.some.injEq]at h<;>subst h<;>exact .str s
 |n,.pointer none,x,h=>by cases n<;>simp only[Zy,Option.some.injEq]at h<;>subst h<;>exact .nilp
 |n,.pointer (some _),x,h=>by cases n<;>simp[Zy]at h
 |n,.slice none 0 0,x,h=>by cases n<;>simp only[Zy,Option.some.injEq]at h<;>subst h<;>exact .nils
 |n,.slice none (_+1) _,x,h=>by cases n<;>simp[Zy]at h
 |n,.slice none 0 (_+1),x,h=>by cases n<;>simp[Zy]at h
 |n,.slice (some _) _ _,x,h=>by cases n<;>simp[Zy]at h
 |n,.map none,x,h=>by cases n<;>simp only[Zy,Option.some.injEq]at h<;>subst h<;>exact .nilm
 |n,.map (some _),x,h=>by cases n<;>simp[Zy]at h
 |n,.nilFunc,x,h=>by cases n<;>simp only[Zy,Option.some.injEq]at h<;>subst h<;>exact .nilf
 |n,.nilIface,x,h=>by cases n<;>simp only[Zy,Option.some.injEq]at h<;>subst h<;>exact .nili
 | 0,.agg cs,x,h=>by simp[Zy]at h
 |n+1,.agg cs,x,h=>by
  simp only[Zy,Option.map_eq_some_iff]at h;obtain⟨l,hl,rfl⟩:=h;exact .agg _ _ (Zjs n cs.toList hl)
 |n,.float _ _,x,h=>by cases n<;>simp[Zy]at h
 |n,.complex _ _ _,x,h=>by cases n<;>simp[Zy]at h
 |n,.chan _,x,h=>by cases n<;>simp[Zy]at h
 |n,.func _ _ _,x,h=>by cases n<;>simp[Zy]at h
 |n,.iface _ _,x,h=>by cases n<;>simp[Zy]at h
 |n,.tuple _,x,h=>by cases n<;>simp[Zy]at h
theorem Zjs:∀(n:Nat) (l:List Value) {xs:List PV},Zy.go n l=some xs->RDs C Z xs l
 |n,[],xs,h=>by simp only[Zy.go,Option.some.injEq]at h;subst h;exact .nil
 |n,v::r,xs,h=>by
  simp only[Zy.go]at h;split at h
  .rename_i p ps hp Qp;cases h;exact .cons (Qf n v hp) (Zjs n r Qp)
  .cases h
end
theorem Qe {l:List Value}{xs:List PV}(h:Zbh l=some xs):RDs C Z xs l:=Zjs 0 l h
theorem Zp5 {ty:Ty}{z:PV}(h:Zah ty=some z):∃v,toV ty.k.agg ty.zero=some v/\RD C Z z v:=by
 unfold Zah at h;rw[Option.bind_eq_some_iff]at h;obtain⟨l,hl,hz⟩:=h;exact Zhq (Qe hl) hz
theorem S9 {a b:Nat}(h:a≠b):Nat.beq a b=false:=by
 cases e:Nat.beq a b
 .rfl
 .exact absurd (Nat.eq_of_beq_eq_true e) h
theorem Zu4 (sl:SL)(d t:Nat)(v:Value):Xc (Zb5 sl d v) t=if d=t then some v else Xc sl t:=by
 induction sl with
 |nil=>
  simp only[Zb5,Xc];by_cases h:d=t
  .simp [h]
  .simp [h,S9 h]
 |cons x sl ih=>
  obtain⟨k,u⟩:=x;simp only[Zb5];by_cases hk:k=d
  .subst hk;simp only[Nat.beq_refl,cond_true,Xc];by_cases h:k=t
   .simp [h]
   .simp [h,S9 h]
  .have hk':Nat.beq k d=false:=S9 hk;simp only[hk',cond_false,Xc,ih];by_cases h:k=t
   .subst h;simp[Ne.symm hk]
   .have:Nat.beq k t=false:=S9 h;simp[this]
def SR (C:Ctx)(ρ:Nat->Nat)(vf:Nat->Option Nat)(Z:Vg)(Xe:Yt)(Yw:SL):Prop:=∀t x,Xe t=some x->∃v,Xc Yw t=some v/\R C ρ vf Z x v
theorem SR.mono (he:Rm ρ vf YB vf')(hz:Z.le Z'){Xe:Yt}{Yw:SL}(S:SR C ρ vf Z Xe Yw):SR C YB vf' Z' Xe Yw:=fun t x h=>by
 obtain⟨v,h1,h2⟩:=S t x h;exact⟨v,h1,h2.mono he hz⟩
theorem SR.put {Xe:Yt}{Yw:SL}(S:SR C ρ vf Z Xe Yw)(d:Nat){x:PV}{v:Value}(h:R C ρ vf Z x v):SR C ρ vf Z (Xe.put d x) (Zb5 Yw d v):=fun t y hy=>by
 rw[Zu4];unfold Yt.put at hy;by_cases e:d=t
 .subst e;simp at hy ⊢;subst hy;exact h
 .rw [if_neg (fun h=>e h.symm)]at hy;simp only[e,if_false];exact S t y hy
theorem SR.putP {Xe:Yt}{Yw:SL}(S:SR C ρ vf Z Xe Yw)(d:Option Nat){x:PV}{v:Value}(h:R C ρ vf Z x v):SR C ρ vf Z (putP Xe d x) (putV Yw d v):=by
 cases d with
 |none=>exact S
 |some d=>exact S.put d h
theorem Z7f {Xe:Yt}{Yw:SL}(S:SR C ρ vf Z Xe Yw){o:Operand}{x:PV}(h:Yu Xe o=some x)(Zn0:∀v,o=.const v->flat 4 v=true):∃v,opd C Yw o=some v/\R C ρ vf Z x v:=by
 cases o with
 |tmp t=>exact S t x h
 |const v=>
  simp only[Yu]at h;refine⟨v,?_,.d (Qf 3 v h)⟩;simp only[opd];rw[if_pos (Zn0 v rfl)]
 |global g=>simp[Yu]at h
 |func f=>
  simp only[Yu,Option.some.injEq]at h;subst h;exact⟨_,rfl,.fn f [] [] #[] #[] .nil .nil⟩
mutual
theorem Zee:∀(n:Nat) (v:Value) {x:PV},Zy n v=some x->flat n v=true
 |n,.bool b,x,h=>by cases n<;>rfl
 |n,.int k i,x,h=>by cases n<;>rfl
 |n,.string s,x,h=>by cases n<;>rfl
 |n,.pointer none,x,h=>by cases n<;>rfl
 |n,.pointer (some _),x,h=>by cases n<;>simp[Zy]at h
 |n,.slice none 0 0,x,h=>by cases n<;>rfl
 |n,.slice none (_+1) _,x,h=>by cases n<;>simp[Zy]at h
 |n,.slice none 0 (_+1),x,h=>by cases n<;>simp[Zy]at h
 |n,.slice (some _) _ _,x,h=>by cases n<;>simp[Zy]at h
 |n,.map none,x,h=>by cases n<;>rfl
 |n,.map (some _),x,h=>by cases n<;>simp[Zy]at h
 |n,.nilFunc,x,h=>by cases n<;>rfl
 |n,.nilIface,x,h=>by cases n<;>rfl
 | 0,.agg cs,x,h=>by simp[Zy]at h
 |n+1,.agg cs,x,h=>by
  simp only[Zy,Option.map_eq_some_iff]at h;obtain⟨l,hl,rfl⟩:=h;simp only[flat];exact Zf8 n cs.toList hl
 |n,.float _ _,x,h=>by cases n<;>simp[Zy]at h
 |n,.complex _ _ _,x,h=>by cases n<;>simp[Zy]at h
 |n,.chan _,x,h=>by cases n<;>simp[Zy]at h
 |n,.func _ _ _,x,h=>by cases n<;>simp[Zy]at h
 |n,.iface _ _,x,h=>by cases n<;>simp[Zy]at h
 |n,.tuple _,x,h=>by cases n<;>simp[Zy]at h
theorem Zf8:∀(n:Nat) (l:List Value) {xs:List PV},Zy.go n l=some xs->l.all (flat n)=true
 |n,[],xs,h=>rfl
 |n,v::r,xs,h=>by
  simp only[Zy.go]at h;split at h
  .rename_i p ps hp Qp;simp only[List.all_cons,Bool.and_eq_true];exact⟨Zee n v hp,Zf8 n r Qp⟩
  .cases h
end
theorem Z43:∀(n:Nat) (v:Value),flat n v=true->flat (n+1) v=true:=by
 intro n
 induction n with
 |zero=>
  intro v h;cases v with
  |pointer a=>cases a<;>simp_all[flat]
  |slice a b c=>cases a<;>cases b<;>cases c<;>simp_all[flat]
  |map a=>cases a<;>simp_all[flat]
  |chan a=>cases a<;>simp_all[flat]
  | _=>simp_all[flat]
 |succ n ih=>
  intro v h;cases v with
  |pointer a=>cases a<;>simp_all[flat]
  |slice a b c=>cases a<;>cases b<;>cases c<;>simp_all[flat]
  |map a=>cases a<;>simp_all[flat]
  |chan a=>cases a<;>simp_all[flat]
  |agg cs=>simp only[flat,List.all_eq_true]at h ⊢;exact fun x hx=>ih x (h x hx)
  |tuple cs=>simp only[flat,List.all_eq_true]at h ⊢;exact fun x hx=>ih x (h x hx)
  |iface t v=>simp only[flat]at h ⊢;exact ih v h
  | _=>simp_all[flat]
theorem Zj {Xe:Yt}{Yw:SL}(S:SR C ρ vf Z Xe Yw){o:Operand}{x:PV}(h:Yu Xe o=some x):∃v,opd C Yw o=some v/\R C ρ vf Z x v:=
 Z7f S h fun v e=>by subst e;exact Z43 _ _ (Zee 3 v h)
theorem Sl {Xe:Yt}{Yw:SL}(S:SR C ρ vf Z Xe Yw):∀ {l:List Operand} {xs:List PV},W9 Xe l=some xs->∃vs,opds C Yw l=some vs/\Rs C ρ vf Z xs vs
 | [],xs,h=>by simp only[W9,Option.some.injEq]at h;subst h;exact⟨[],rfl,.nil⟩
 |o::l,xs,h=>by
  simp only[W9]at h;split at h
  .rename_i p ps hp Qp;cases h;obtain⟨v,h1,h2⟩:=Zj S hp;obtain⟨vs,h3,h4⟩:=Sl S Qp;exact⟨v::vs,by simp only[opds,h1,h3],.cons h2 h4⟩
  .cases h
end
def Zrx (Z:Vg)(vh:VH):Prop:=∀Zv s,Z Zv=some s->vh.get Zv=some (.row s.cells s.e s.own)
theorem U6 {xs:List PV}{sz:Nat}(hl:∀x∈xs,(Zc x).length=sz):(xs.flatMap Zc).length=xs.length*sz:=by
 induction xs with
 |nil=>simp
 |cons x xs ih=>
  simp only[List.flatMap_cons,List.length_append,List.length_cons];rw[ih fun y hy=>hl y (by simp[hy]),hl x (by simp),Nat.succ_mul];omega
theorem Zcr {xs:List PV}{sz:Nat}(hl:∀x∈xs,(Zc x).length=sz)(i:Nat):(xs.flatMap Zc).drop (i*sz)=(xs.drop i).flatMap Zc:=by
 induction xs generalizing i with
 |nil=>simp
 |cons x xs ih=>
  cases i with
  |zero=>simp
  |succ i=>
   have hx:=hl x (by simp);simp only[List.flatMap_cons,List.drop_succ_cons];rw[List.drop_append,<- ih (fun y hy=>hl y (by simp[hy])) i,hx];have:(i+1)*sz - sz=i*sz:=by rw[Nat.succ_mul];omega
   rw[this,List.drop_eq_nil_of_le (by rw[hx,Nat.succ_mul];omega)];simp
theorem flat_take {xs:List PV}{sz:Nat}(hl:∀x∈xs,(Zc x).length=sz)(i:Nat):(xs.flatMap Zc).take (i*sz)=(xs.take i).flatMap Zc:=by
 induction xs generalizing i with
 |nil=>simp
 |cons x xs ih=>
  cases i with
  |zero=>simp
  |succ i=>
   have hx:=hl x (by simp);simp only[List.flatMap_cons,List.take_succ_cons];rw[List.take_append,<- ih (fun y hy=>hl y (by simp[hy])) i,hx];have:(i+1)*sz - sz=i*sz:=by rw[Nat.succ_mul];omega
   rw[this,List.take_of_length_le (by rw[hx,Nat.succ_mul];omega)]
theorem Zoe {xs:List PV}{sz:Nat}(hl:∀x∈xs,(Zc x).length=sz){i:Nat}{x:PV}(hx:xs[i]?=some x):((xs.flatMap Zc).drop (i*sz)).take sz=Zc x:=by
 rw[Zcr hl];obtain⟨hi,e⟩:=List.getElem?_eq_some_iff.1 hx;rw[List.drop_eq_getElem_cons hi,e,List.flatMap_cons];have:=hl x (by rw[<- e];exact List.getElem_mem hi);rw[List.take_append,this,Nat.sub_self,List.take_of_length_le (by omega)];simp
section
variable {C:Ctx}{Z Z':Vg}{ρ YB:Nat->Nat}{vf vf':Nat->Option Nat}{v:Value}
theorem R.bool_inv {b:Bool}(h:R C ρ vf Z (.bool b) v):v=.bool b:=by cases h with | d h=>cases h;rfl
theorem R.int_inv {k:IntKind}{n:Int}(h:R C ρ vf Z (.int k n) v):v=.int k n:=by cases h with | d h=>cases h;rfl
theorem R.str_inv {s:List Nat}(h:R C ρ vf Z (.str s) v):∃b:ByteArray,v=.string b/\s=b.data.toList.map UInt8.toNat:=by cases h with | d h=>cases h;exact⟨_,rfl,rfl⟩
theorem R.nils_inv (h:R C ρ vf Z .nils v):v=.slice none 0 0:=by cases h with | d h=>cases h;rfl
theorem R.nilm_inv (h:R C ρ vf Z .nilm v):v=.map none:=by cases h with | d h=>cases h;rfl
theorem R.lst_inv {g:Nat}{xs:List PV}(h:R C ρ vf Z (.lst g xs) v):RD C Z (.lst g xs) v:=by cases h with | d h=>exact h
theorem R.agg_inv {cs:List PV}(h:R C ρ vf Z (.agg cs) v):∃cs',v=.agg cs'/\Rs C ρ vf Z cs cs'.toList:=by
 cases h with
 |d h=>cases h with | agg cs cs' h=>exact⟨_,rfl,h.up⟩
 |agg cs cs' h=>exact⟨_,rfl,h⟩
theorem R.tuple_inv {cs:List PV}(h:R C ρ vf Z (.tuple cs) v):∃cs',v=.tuple cs'/\Rs C ρ vf Z cs cs'.toList:=by
 cases h with
 |d h=>cases h
 |tuple cs cs' h=>exact⟨_,rfl,h⟩
theorem Sd (b:ByteArray):b.size=(b.data.toList.map UInt8.toNat).length:=by rw[List.length_map,Array.length_toList];rfl
theorem toNat_inj:∀ {a b:List UInt8},a.map UInt8.toNat=b.map UInt8.toNat->a=b
 | [],[],_=>rfl
 | [],_::_,h=>by simp at h
 | _::_,[],h=>by simp at h
 |x::a,y::b,h=>by
  simp only[List.map_cons,List.cons.injEq]at h;rw[toNat_inj h.2,UInt8.toNat_inj.1 h.1]
theorem Ziz (a b:List UInt8):(a==b)=(a.map UInt8.toNat==b.map UInt8.toNat):=by
 by_cases h:a=b
 .subst h;simp
 .have:¬ a.map UInt8.toNat=b.map UInt8.toNat:=fun e=>h (toNat_inj e)
  rw[beq_eq_false_iff_ne.2 h,beq_eq_false_iff_ne.2 this]
theorem Z5q (x y:UInt8):Nat.blt x.toNat y.toNat=decide (x < y):=by
 by_cases h:x < y
 .rw [decide_eq_true h];exact Nat.blt_eq ▸ (UInt8.lt_iff_toNat_lt.1 h)
 .rw [decide_eq_false h];cases e:Nat.blt x.toNat y.toNat
  .rfl
  .rw [Nat.blt_eq]at e;exact absurd (UInt8.lt_iff_toNat_lt.2 e) h
theorem Zng:∀(a b:List UInt8),Op.bytesLess a b=ltL (a.map UInt8.toNat) (b.map UInt8.toNat)
 | [],[]=>rfl
 | [],_::_=>rfl
 | _::_,[]=>rfl
 |x::a,y::b=>by
  simp only[Op.bytesLess,List.map_cons,ltL,Z5q];rw[<- Zng a b];by_cases h1:x < y
  .simp [h1]
  .by_cases h2:y < x
   .have Yn:¬ x=y:=fun e=>by subst e;exact absurd h2 (UInt8.lt_irrefl _)
    simp[h1,h2,Yn]
   .have he:x=y:=UInt8.toNat_inj.1 (by
     have a1:¬ x.toNat < y.toNat:=fun e=>h1 (UInt8.lt_iff_toNat_lt.2 e)
     have a2:¬ y.toNat < x.toNat:=fun e=>h2 (UInt8.lt_iff_toNat_lt.2 e)
     omega)
    subst he;simp[h1]
theorem Zh5 {x:PV}{v:Value}{b:Bool}(hx:R C ρ vf Z x v)(h:Zph x=some b):∃a n m,v=.slice a n m/\a.isNone=b:=by
 cases hx with
 |d h1=>cases h1<;>simp[Zph]at h<;>subst h<;>exact⟨_,_,_,rfl,rfl⟩
 |own=>simp[Zph]at h;subst h;exact⟨_,_,_,rfl,rfl⟩
 | _=>simp[Zph]at h
theorem Zh6 {x:PV}{v:Value}{b:Bool}(hx:R C ρ vf Z x v)(h:Zsi x=some b):∃a,v=.pointer a/\a.isNone=b:=by
 cases hx with
 |d h1=>cases h1<;>simp[Zsi]at h<;>subst h<;>exact⟨_,rfl,rfl⟩
 |ptr=>simp[Zsi]at h;subst h;exact⟨_,rfl,rfl⟩
 |eptr=>simp[Zsi]at h;subst h;exact⟨_,rfl,rfl⟩
 |rptr=>simp[Zsi]at h;subst h;exact⟨_,rfl,rfl⟩
 | _=>simp[Zsi]at h
theorem Zh7 {x:PV}{v:Value}{b:Bool}(hx:R C ρ vf Z x v)(h:Zy6 x=some b):∃a,v=.map a/\a.isNone=b:=by
 cases hx with
 |d h1=>cases h1<;>simp[Zy6]at h<;>subst h<;>exact⟨_,rfl,rfl⟩
 |map=>simp[Zy6]at h;subst h;exact⟨_,rfl,rfl⟩
 | _=>simp[Zy6]at h
theorem Zkh {a b:Option Bool}{r:Bool}(h:Zri a b=some r):(a=some true/\b=some r)\/(a=some false/\b=some true/\r=false):=by
 unfold Zri at h;split at h
 .cases h;exact .inl ⟨rfl,rfl⟩
 .cases h;exact .inr ⟨rfl,rfl,rfl⟩
 .cases h
theorem Zafh {t:Nat}{x y:PV}{v u:Value}{b:Bool}(hx:R C ρ vf Z x v)(hy:R C ρ vf Z y u)(he:eqP C t x y=some b):eqV C t v u=some b:=by
 unfold eqP at he;unfold eqV;cases ht:C.T t with
 |none=>rw[ht]at he;cases he
 |some ty=>
  rw[ht]at he
  try dsimp only at he ⊢
  cases hk:ty.k with
  |bool=>
   rw[hk]at he
   try dsimp only at he
   split at he
   .cases he;rw[hx.bool_inv,hy.bool_inv]
   .cases he
  |slice e=>
   rw[hk]at he
   try dsimp only at he
   rcases Zkh he with⟨h1,h2⟩ | ⟨h1,h2,rfl⟩
   .obtain ⟨a,n,m,rfl,ha⟩:=Zh5 hx h1;obtain⟨a2,n2,m2,rfl,Qu⟩:=Zh5 hy h2;cases a<;>simp at ha;simp[Qu]
   .obtain ⟨a,n,m,rfl,ha⟩:=Zh5 hx h1;obtain⟨a2,n2,m2,rfl,Qu⟩:=Zh5 hy h2;cases a<;>simp at ha;cases a2<;>simp at Qu;simp
  |ptr e=>
   rw[hk]at he
   try dsimp only at he
   rcases Zkh he with⟨h1,h2⟩ | ⟨h1,h2,rfl⟩
   .obtain ⟨a,rfl,ha⟩:=Zh6 hx h1;obtain⟨a2,rfl,Qu⟩:=Zh6 hy h2;cases a<;>simp at ha;simp[Qu]
   .obtain ⟨a,rfl,ha⟩:=Zh6 hx h1;obtain⟨a2,rfl,Qu⟩:=Zh6 hy h2;cases a<;>simp at ha;cases a2<;>simp at Qu;simp
  |map e f=>
   rw[hk]at he
   try dsimp only at he
   rcases Zkh he with⟨h1,h2⟩ | ⟨h1,h2,rfl⟩
   .obtain ⟨a,rfl,ha⟩:=Zh7 hx h1;obtain⟨a2,rfl,Qu⟩:=Zh7 hy h2;cases a<;>simp at ha;simp[Qu]
   .obtain ⟨a,rfl,ha⟩:=Zh7 hx h1;obtain⟨a2,rfl,Qu⟩:=Zh7 hy h2;cases a<;>simp at ha;cases a2<;>simp at Qu;simp
  | _=>rw[hk]at he;cases he
theorem Z79 {op:BinOp}{t:Nat}{k k':IntKind}{a b:Int}{x:PV}(h:Ri op k k' a b=some x):∃v,Qr C op t (.int k a) (.int k' b)=some v/\RD C Z x v:=by
 unfold Ri at h;split at h
 .split at h
  .cases h
  .cases h;rename_i hb;exact⟨_,by simp only[Qr];rw[if_neg hb],.int _ _⟩
 .split at h
  .cases h
  .cases h;rename_i hb;exact⟨_,by simp only[Qr];rw[if_neg hb],.int _ _⟩
 .rename_i h1 h2;split at h
  .rename_i hk;subst hk
   cases op<;>(try exact absurd rfl h1)<;>(try exact absurd rfl h2)<;>simp only at h<;>(try cases h)<;>
    first
    |exact⟨_,by simp only[Qr,if_true],.int _ _⟩
    |exact⟨_,by simp only[Qr,if_true],.bool _⟩
    | (split at h
       .cases h
       .cases h;rename_i hb;exact⟨_,by simp only[Qr,if_true];rw[if_neg hb],.int _ _⟩)
  .cases h
theorem Ztm (a b:ByteArray):(a++b).data.toList.map UInt8.toNat=a.data.toList.map UInt8.toNat++b.data.toList.map UInt8.toNat:=by
 rw[ByteArray.data_append];simp
theorem Z6t {op:BinOp}{t:Nat}{a b:ByteArray}{x:PV}(h:Zpd op (a.data.toList.map UInt8.toNat) (b.data.toList.map UInt8.toNat)=some x):∃v,Qr C op t (.string a) (.string b)=some v/\RD C Z x v:=by
 unfold Zpd at h;split at h
 .split at h
  .rename_i hl;cases h;refine⟨.string (a++b),?_,?_⟩
   .simp only [Qr];rw[if_pos (by rw[Sd,Sd];exact hl)]
   .rw [<- Ztm];exact .str _
  .cases h
 .cases h;exact⟨_,by simp only[Qr];rw[Ziz],.bool _⟩
 .cases h;exact⟨_,by simp only[Qr];rw[Ziz],.bool _⟩
 .cases h;exact⟨_,by simp only[Qr];rw[Zng],.bool _⟩
 .cases h;exact⟨_,by simp only[Qr];rw[Zng,Ziz],.bool _⟩
 .cases h
theorem Zaa6 {op:BinOp}{t:Nat}{x y z:PV}{v u:Value}(hx:R C ρ vf Z x v)(hy:R C ρ vf Z y u)(h:Zcx C op t x y=some z):∃w,Qr C op t v u=some w/\RD C Z z w:=by
 unfold Zcx at h;split at h
 .rw [hx.int_inv,hy.int_inv];exact Z79 h
 .obtain ⟨a,rfl,rfl⟩:=hx.str_inv;obtain⟨b,rfl,rfl⟩:=hy.str_inv;exact Z6t h
 .rename_i h1 h2
  have key:∀b,eqP C t x y=some b->(Qr C .eql t v u=some (.bool b))/\(Qr C .neq t v u=some (.bool !b)):=by
   intro b hb;have:=Zafh hx hy hb
   have hv:(∀k n,v≠.int k n)/\∀s,v≠.string s:=by
    constructor
    .rintro k n rfl;simp only[eqV]at this;split at this<;>(try cases this)
     rename_i ty Q8;split at this<;>rename_i e1 e2<;>(try cases e1)<;>(try cases e2)<;>(try cases this)
    .rintro s rfl;simp only[eqV]at this;split at this<;>(try cases this)
     rename_i ty Q8;split at this<;>rename_i e1 e2<;>(try cases e1)<;>(try cases e2)<;>(try cases this)
   constructor
   .unfold Qr;split<;>simp_all
   .unfold Qr;split<;>simp_all
  split at h
  .rw [Option.map_eq_some_iff]at h;obtain⟨b,hb,rfl⟩:=h;exact⟨_,(key b hb).1,.bool _⟩
  .rw [Option.map_eq_some_iff]at h;obtain⟨b,hb,rfl⟩:=h;exact⟨_,(key b hb).2,.bool _⟩
  .cases h
end
section
variable {C:Ctx}{Z Z':Vg}{ρ YB:Nat->Nat}{vf vf':Nat->Option Nat}{v:Value}
theorem Zadg {op:UnOp}{x z:PV}{v:Value}(hx:R C ρ vf Z x v)(h:unP op x=some z):∃w,unV op v=some w/\RD C Z z w:=by
 unfold unP at h;split at h
 .cases h;rw[hx.int_inv];exact⟨_,rfl,.int _ _⟩
 .cases h;rw[hx.bool_inv];exact⟨_,rfl,.bool _⟩
 .cases h
theorem Zh9 {x:PV}{v:Value}{n:Nat}(hx:R C ρ vf Z x v)(h:Zll x=some n):Zia v=some n:=by
 unfold Zll at h;split at h
 .rw [hx.int_inv];exact h
 .cases h
inductive RO (C:Ctx)(ρ:Nat->Nat)(vf:Nat->Option Nat)(Z:Vg):Option PV->Option Value->Prop
 |none:RO C ρ vf Z none none
 |some {x:PV} {v:Value} (h:R C ρ vf Z x v):RO C ρ vf Z (some x) (some v)
theorem Zbo {len:Nat}{lo hi:Option PV}{lo' hi':Option Value}{r:Nat×Nat}(hl:RO C ρ vf Z lo lo')(hh:RO C ρ vf Z hi hi')(h:Xw len lo hi=some r):Vf len lo' hi'=some r:=by
 unfold Xw at h;unfold Vf;cases hl with
 |none=>
  cases hh with
  |none=>exact h
  |some hb=>
   simp only at h ⊢;cases hn:Zll _ with
   |none=>rw[hn]at h;cases h
   |some n=>rw[hn]at h;rw[Zh9 hb hn];exact h
 |some ha=>
  cases hh with
  |none=>
   simp only at h ⊢;cases hn:Zll _ with
   |none=>rw[hn]at h;cases h
   |some n=>rw[hn]at h;rw[Zh9 ha hn];exact h
  |some hb=>
   simp only at h ⊢;cases hn:Zll _ with
   |none=>rw[hn]at h;cases h
   |some n=>
    rw[hn]at h;rw[Zh9 hb hn]
    try dsimp only at h ⊢
    cases hm:Zll _ with
    |none=>rw[hm]at h;cases h
    |some m=>rw[hm]at h;rw[Zh9 ha hm];exact h
def Z7d (C:Ctx)(sl:SL):Option Operand->Option (Option Value)
 |some l=>(opd C sl l).map some
 |none=>some none
theorem Zh2 {Xe:Yt}{Yw:SL}(S:SR C ρ vf Z Xe Yw){lo:Option Operand}{l:Option PV}(h:S8 Xe lo=some l):∃l',Z7d C Yw lo=some l'/\RO C ρ vf Z l l':=by
 cases lo with
 |none=>simp only[S8,Option.some.injEq]at h;subst h;exact⟨none,rfl,.none⟩
 |some o=>
  simp only[S8,Option.map_eq_some_iff]at h;obtain⟨x,hx,rfl⟩:=h;obtain⟨v,h1,h2⟩:=Zj S hx;exact⟨some v,by simp only[Z7d,h1,Option.map_some],.some h2⟩
def Zmx (C:Ctx)(h:VH)(ty:Ty)(v:Value)(lo hi:Option Value):Option (Value×VH):=
 match ty.k,v with
 | .str,.string s=>(Vf s.size lo hi).map fun (l,u)=>(.string (s.extract l u),h)
 | .slice e,.slice none len _=>
   match C.T e,Vf len lo hi with
   |some _,some (l,u)=>some (.slice none (u - l) (u - l),h)
   | _,_=>none
 | .slice e,.slice (some a) len _=>
   match C.T e,Vf len lo hi,h.get a.block with
   |some te,some (l,u),some (.row _ e' _)=>if e'=te.size then some (.slice (some ⟨a.block,a.off+l*te.size,none⟩) (u - l) (u - l),h) else none
   | _,_,_=>none
 | _,_=>none
theorem Zfg {cf yf:Nat->List Value->VH->Option (Value×VH)}{sl:SL}{h:VH}{o:Oper}{t:TypeId}{x:Operand}{lo hi:Option Operand}(ho:o.op=.slice t x lo hi none){ty:Ty}{v:Value}{l u:Option Value}
  (ht:C.T t=some ty) (hx:opd C sl x=some v) (hl:Z7d C sl lo=some l) (hu:Z7d C sl hi=some u):Xp C cf yf sl h o=Zmx C h ty v l u:=by
 cases lo<;>cases hi<;>simp only[Z7d,Option.map_eq_some_iff,Option.some.injEq]at hl hu
 .subst hl;subst hu;simp only[Xp,ho,ht,hx];rfl
 .subst hl;obtain⟨b,hb,rfl⟩:=hu;simp only[Xp,ho,ht,hx,hb,Option.map_some];rfl
 .subst hu;obtain⟨b,hb,rfl⟩:=hl;simp only[Xp,ho,ht,hx,hb,Option.map_some];rfl
 .obtain ⟨b,hb,rfl⟩:=hl;obtain⟨c,hc,rfl⟩:=hu;simp only[Xp,ho,ht,hx,hb,hc,Option.map_some];rfl
theorem Zgm {cs:List PV}{off:Nat}{vs cs2:List PV}:∀ {cs' Qs:List Value},Rs C ρ vf Z cs cs'->Rs C ρ vf Z vs Qs->Yp cs off vs=some cs2->∃Zol,Wg cs' off Qs=some Zol/\Rs C ρ vf Z cs2 Zol:=by
 induction cs generalizing off vs cs2 with
 |nil=>
  intro cs' Qs h1 h2 h;cases vs with
  |nil=>simp only[Yp,Option.some.injEq]at h;subst h;cases h2;cases h1;exact⟨[],rfl,.nil⟩
  |cons v vs=>simp[Yp]at h
 |cons c cs ih=>
  intro cs' Qs h1 h2 h;cases vs with
  |nil=>
   have:Yp (c::cs) off []=some (c::cs):=by cases off<;>rfl
   rw[this]at h;cases h;cases h2;exact⟨cs',by cases cs'<;>cases off<;>rfl,h1⟩
  |cons v vs=>
   cases h1 with
   |cons g r=>
    cases h2 with
    |cons g2 r2=>
     cases off with
     |zero=>
      simp only[Yp,Option.map_eq_some_iff]at h;obtain⟨w,hw,rfl⟩:=h;obtain⟨w',h3,h4⟩:=ih r r2 hw;exact⟨_,by simp only[Wg,h3,Option.map_some],.cons g2 h4⟩
     |succ i=>
      simp only[Yp,Option.map_eq_some_iff]at h;obtain⟨w,hw,rfl⟩:=h;obtain⟨w',h3,h4⟩:=ih r (.cons g2 r2) hw;exact⟨_,by simp only[Wg,h3,Option.map_some],.cons g h4⟩
theorem Zmf {cs:List PV}{off:Nat}{vs cs2:List PV}(h:Yp cs off vs=some cs2):cs2.length=cs.length/\(vs=[]\/off+vs.length<=cs.length):=by
 induction cs generalizing off vs cs2 with
 |nil=>cases vs with
  |nil=>simp only[Yp,Option.some.injEq]at h;subst h;exact⟨rfl,.inl rfl⟩
  |cons v vs=>simp[Yp]at h
 |cons c cs ih=>
  cases vs with
  |nil=>
   have:Yp (c::cs) off []=some (c::cs):=by cases off<;>rfl
   rw[this]at h;cases h;exact⟨rfl,.inl rfl⟩
  |cons v vs=>
   cases off with
   |zero=>
    simp only[Yp,Option.map_eq_some_iff]at h;obtain⟨w,hw,rfl⟩:=h;obtain⟨h1,h2⟩:=ih hw;refine⟨by simp[h1],.inr ?_⟩;rcases h2 with rfl | h2
    .simp
    .simp only [List.length_cons];omega
   |succ i=>
    simp only[Yp,Option.map_eq_some_iff]at h;obtain⟨w,hw,rfl⟩:=h;obtain⟨h1,h2⟩:=ih hw;refine⟨by simp[h1],.inr ?_⟩;rcases h2 with h2 | h2
    .cases h2
    .simp only [List.length_cons]at h2 ⊢;omega
inductive RPs (C:Ctx)(ρ:Nat->Nat)(vf:Nat->Option Nat)(Z:Vg):List (Nat×PV)->List (Nat×Value)->Prop
 |nil:RPs C ρ vf Z [] []
 |cons {i:Nat} {x:PV} {v:Value} {l:List (Nat×PV)} {l':List (Nat×Value)} (h:R C ρ vf Z x v) (r:RPs C ρ vf Z l l'):RPs C ρ vf Z ((i,x)::l) ((i,v)::l')
theorem Zgv {Xe:Yt}{Yw:SL}(S:SR C ρ vf Z Xe Yw):∀ {l:List (Nat×Operand)} {xs:List (Nat×PV)},U1 Xe l=some xs->∃vs,parts C Yw l=some vs/\RPs C ρ vf Z xs vs
 | [],xs,h=>by simp only[U1,Option.some.injEq]at h;subst h;exact⟨[],rfl,.nil⟩
 | (i,o)::l,xs,h=>by
   simp only[U1]at h;split at h
   .rename_i p ps hp Qp;cases h;obtain⟨v,h1,h2⟩:=Zj S hp;obtain⟨vs,h3,h4⟩:=Zgv S Qp;exact⟨_,by simp only[parts,h1,h3],.cons h2 h4⟩
   .cases h
theorem Zrg {place:Nat->Option (Nat×Nat)}{ps:List (Nat×PV)}{ps':List (Nat×Value)}(hp:RPs C ρ vf Z ps ps'):∀ {cells Zkl:List PV} {Wz:List Value},Rs C ρ vf Z cells Wz->Zgf place cells ps=some Zkl ->
  ∃Zi6,Qv place Wz ps'=some Zi6/\Rs C ρ vf Z Zkl Zi6:=by
 induction hp with
 |nil=>intro cells Zkl Wz h1 h;simp only[Zgf,Option.some.injEq]at h;subst h;exact⟨Wz,rfl,h1⟩
 | @cons i x v l l' h r ih=>
   intro cells Zkl Wz h1 hf;simp only[Zgf]at hf;simp only[Qv];split at hf
   .cases hf
   .rename_i off size hpl;rw[hpl]
    try dsimp only
    split at hf
    .rename_i hc;split at hf
     .rename_i w hw;obtain⟨w',h3,h4⟩:=Zgm h1 h.cells hw;have hlen:v.cells.toList.length=size:=by rw[h.cells.length];exact hc.1
      rw[if_pos ⟨hlen,by rw[hlen,h1.length];exact hc.2.1,h.cells.cell hc.2.2⟩,h3];exact ih h4 hf
     .cases hf
    .cases hf
theorem Zih {k:TK}{x:PV}{v:Value}(hx:R C ρ vf Z x v)(h:Zsl k x=true):Zcf k v=true:=by
 cases x<;>simp only[Zsl]at h<;>(try cases h)
 .rename_i b;rw[hx.bool_inv];exact h
 .rename_i b n;rw[hx.int_inv];exact h
 .obtain ⟨b,rfl,_⟩:=hx.str_inv;exact h
theorem Sg {x k:PV}{v u:Value}{b:Bool}(hx:R C ρ vf Z x v)(hk:R C ρ vf Z k u)(h:Vp x k=some b):S6 v u=some b:=by
 unfold Vp at h;split at h
 .rw [hx.int_inv,hk.int_inv];exact h
 .obtain ⟨a,rfl,rfl⟩:=hx.str_inv;obtain⟨c,rfl,rfl⟩:=hk.str_inv;cases h;simp only[S6,Option.some.injEq]
  have:(a==c)=(a.data.toList==c.data.toList):=by
   by_cases e:a=c
   .subst e;simp[(MapKept.bytes_beq a a).2 rfl]
   .have h1:(a==c)=false:=by
     cases q:a==c
     .rfl
     .exact absurd ((MapKept.bytes_beq _ _).1 q) e
    rw[h1,eq_comm,beq_eq_false_iff_ne];intro e2;apply e;cases a;cases c;simp only[Array.toList_inj]at e2;rw[e2]
  rw[this,Ziz]
 .rw [hx.bool_inv,hk.bool_inv];exact h
 .cases h
inductive MRP (C:Ctx)(ρ:Nat->Nat)(vf:Nat->Option Nat)(Z:Vg):List (PV×PV)->List (Value×Value)->Prop
 |nil:MRP C ρ vf Z [] []
 |cons {k x:PV} {k' x':Value} {l:List (PV×PV)} {l':List (Value×Value)} (hk:R C ρ vf Z k k') (hv:R C ρ vf Z x x') (r:MRP C ρ vf Z l l'):MRP C ρ vf Z ((k,x)::l) ((k',x')::l')
theorem MRP.mono (he:Rm ρ vf YB vf')(hz:Z.le Z'){l:List (PV×PV)}{l':List (Value×Value)}(h:MRP C ρ vf Z l l'):MRP C YB vf' Z' l l':=by
 induction h with
 |nil=>exact .nil
 |cons hk hv r ih=>exact .cons (hk.mono he hz) (hv.mono he hz) ih
theorem MRP.length {l:List (PV×PV)}{l':List (Value×Value)}(h:MRP C ρ vf Z l l'):l'.length=l.length:=by
 induction h with
 |nil=>rfl
 |cons hk hv r ih=>simp[ih]
theorem Zkv {es:List (PV×PV)}{Rh:List (Value×Value)}(h:MRP C ρ vf Z es Rh){x:PV}{v:Value}(hx:R C ρ vf Z x v):∀ {r},Vb es x=some r->∃r',Q5 Rh v=some r'/\RO C ρ vf Z r r':=by
 induction h with
 |nil=>intro r hr;simp only[Vb,Option.some.injEq]at hr;subst hr;exact⟨none,rfl,.none⟩
 |cons hk hv r ih=>
  intro q hq;simp only[Vb]at hq;simp only[Q5];split at hq
  .rename_i hs;cases hq;rw[Sg hx hk hs];exact⟨_,rfl,.some hv⟩
  .rename_i hs;rw[Sg hx hk hs];exact ih hq
  .cases hq
theorem Zy9 {es:List (PV×PV)}{Rh:List (Value×Value)}(h:MRP C ρ vf Z es Rh){x u:PV}{v w:Value}(hx:R C ρ vf Z x v)(hu:R C ρ vf Z u w):∀ {r},Ur es x u=some r->∃r',Zeg Rh v w=some r'/\MRP C ρ vf Z r r':=by
 induction h with
 |nil=>intro r hr;simp only[Ur,Option.some.injEq]at hr;subst hr;exact⟨_,rfl,.cons hx hu .nil⟩
 |cons hk hv r ih=>
  intro q hq;simp only[Ur]at hq;simp only[Zeg];split at hq
  .rename_i hs;cases hq;rw[Sg hx hk hs];exact⟨_,rfl,.cons hx hu r⟩
  .rename_i hs;rw[Sg hx hk hs];rw[Option.map_eq_some_iff]at hq;obtain⟨p,hp,rfl⟩:=hq;obtain⟨p',h1,h2⟩:=ih hp;exact⟨_,by simp only[h1,Option.map_some],.cons hk hv h2⟩
  .cases hq
theorem Zza {es:List (PV×PV)}{Rh:List (Value×Value)}(h:MRP C ρ vf Z es Rh){x:PV}{v:Value}(hx:R C ρ vf Z x v):∀ {r},Q6 es x=some r->∃r',Zei Rh v=some r'/\MRP C ρ vf Z r r':=by
 induction h with
 |nil=>intro r hr;simp only[Q6,Option.some.injEq]at hr;subst hr;exact⟨_,rfl,.nil⟩
 |cons hk hv r ih=>
  intro q hq;simp only[Q6]at hq;simp only[Zei];split at hq
  .rename_i hs;cases hq;rw[Sg hx hk hs];exact⟨_,rfl,r⟩
  .rename_i hs;rw[Sg hx hk hs];rw[Option.map_eq_some_iff]at hq;obtain⟨p,hp,rfl⟩:=hq;obtain⟨p',h1,h2⟩:=ih hp;exact⟨_,by simp only[h1,Option.map_some],.cons hk hv h2⟩
  .cases hq
theorem Z28 (b:ByteArray)(l u:Nat)(h:u<=b.size):(b.extract l u).data.toList.map UInt8.toNat=((b.data.toList.map UInt8.toNat).drop l).take (u - l):=by
 rw[ByteArray.data_extract];rw[Array.toList_extract];simp[List.map_take,List.map_drop]
theorem Zad3 {g:Nat}{xs:List PV}{v:Value}(h:RD C Z (.lst g xs) v){l u:Nat}(hlu:l<=u)(hu:u<=xs.length):
  ∃ty Zv o cap s,C.T g=some ty/\Z Zv=some s/\s.e=ty.size/\v=.slice (some ⟨Zv,o,none⟩) xs.length cap/\RD C Z (.lst g ((xs.drop l).take (u - l))) (.slice (some ⟨Zv,o+l*ty.size,none⟩) (u - l) (u - l)):=by
 cases h with
 |lst g xs Zv o cap s Wi ty hs he ht Q8 hr hx hl=>
  have hlen:((xs.drop l).take (u - l)).length=u - l:=by simp;omega
  have Un:=U6 hl
  have h1:X3 (xs.flatMap Zc) (l*ty.size) ((u - l)*ty.size)=some (((xs.drop l).take (u - l)).flatMap Zc):=by
   unfold X3;rw[if_pos (by rw[Un,<- Nat.add_mul];exact Nat.mul_le_mul_right _ (by omega)),Zcr hl,flat_take fun x hx=>hl x (List.drop_subset _ _ hx)]
  obtain⟨r',h2,h3⟩:=hx.read h1;have h4:=Qd hr h2 (by rw[<- Nat.add_mul];exact Nat.mul_le_mul_right _ (by omega));have h5:=RD.lst g ((xs.drop l).take (u - l)) Zv (o+l*ty.size) (u - l) s r' ty hs he ht Q8 (by rw[hlen];exact h4) h3 (fun x hx=>hl x (List.drop_subset _ _ (List.take_subset _ _ hx)));rw[hlen]at h5;exact⟨ty,Zv,o,cap,s,Q8,hs,he,rfl,h5⟩
theorem Zaka {g:Nat}{xs:List PV}{v:Value}(h:RD C Z (.lst g xs) v){i:Nat}{x:PV}(hi:xs[i]?=some x):
  ∃ty Zv o cap,C.T g=some ty/\v=.slice (some ⟨Zv,o,none⟩) xs.length cap/\R C ρ vf Z (.rptr (Zc x)) (.pointer (some ⟨Zv,o+i*ty.size,none⟩)):=by
 cases h with
 |lst g xs Zv o cap s Wi ty hs he ht Q8 hr hx hl=>
  have Un:=U6 hl;obtain⟨hlt,e⟩:=List.getElem?_eq_some_iff.1 hi;have hxl:(Zc x).length=ty.size:=hl x (by rw[<- e];exact List.getElem_mem hlt)
  have hle:i*ty.size+ty.size<=xs.length*ty.size:=by
   rw[<- Nat.succ_mul];exact Nat.mul_le_mul_right _ hlt
  have h1:X3 (xs.flatMap Zc) (i*ty.size) ty.size=some (Zc x):=by
   unfold X3;rw[if_pos (by rw[Un];exact hle),Zoe hl hi]
  obtain⟨r',h2,h3⟩:=hx.read h1;have h4:=Qd hr h2 hle;exact⟨ty,Zv,o,cap,Q8,rfl,.rptr _ Zv _ s r' hs (by rw[hxl];exact h4) h3⟩
theorem Zu6 {cs:List PV}{v:Value}(h:R C ρ vf Z (.rptr cs) v)(d:Nat)(hd:d<=cs.length):∃Zv o,v=.pointer (some ⟨Zv,o,none⟩)/\R C ρ vf Z (.rptr (cs.drop d)) (.pointer (some ⟨Zv,o+d,none⟩)):=by
 cases h with
 |d h=>cases h
 |rptr cs Zv o s Wi hs hr hx=>
  refine⟨Zv,o,rfl,?_⟩;obtain⟨rfl,hle⟩:=Tg.1 hr;refine .rptr _ Zv _ s (((s.cells.drop o).take cs.length).drop d) hs ?_ (hx.drop d);rw[Tg];refine⟨?_,?_⟩
  .rw [List.drop_take,List.drop_drop,List.length_drop]
  .rw [List.length_drop];omega
theorem Z3f {cs r:List PV}{v:Value}{n:Nat}(h:R C ρ vf Z (.rptr cs) v)(hr:X3 cs 0 n=some r):∃Zv o s r',v=.pointer (some ⟨Zv,o,none⟩)/\Z Zv=some s/\readN s.cells o n=some r'/\RDs C Z r r':=by
 cases h with
 |d h=>cases h
 |rptr cs Zv o s Wi hs hrr hx=>
  obtain⟨r',h1,h2⟩:=hx.read hr
  have hl:0+n<=cs.length:=by
   unfold X3 at hr;split at hr
   .assumption
   .cases hr
  exact⟨Zv,o,s,r',rfl,hs,by simpa using Qd hrr h1 hl,h2⟩
end
section
variable {C:Ctx}{Z Z':Vg}{ρ YB:Nat->Nat}{vf vf':Nat->Option Nat}{v:Value}
def Rg (C:Ctx)(ρ:Nat->Nat)(vf:Nat->Option Nat)(Z:Vg)(Yw:SL)(o:Oper)(x:PV):Prop:=
 ∃v,R C ρ vf Z x v/\∀(cf yf:Nat->List Value->VH->Option (Value×VH)) (vh:VH),Zrx Z vh->Xp C cf yf Yw vh o=some (v,vh)
theorem Zs6 {Xe:Yt}{Yw:SL}(S:SR C ρ vf Z Xe Yw){o:Oper}{t:TypeId}{y:Operand}{lo hi:Option Operand}{x:PV}(ho:o.op=.slice t y lo hi none)(h:Yk C Xe o=some x):Rg C ρ vf Z Yw o x:=by
 simp only[Yk,ho]at h;split at h
 .rename_i ty w ht hw;obtain⟨w',W8,Vk⟩:=Zj S hw;split at h
  .rename_i l u Rj hhi;obtain⟨l',hl1,hl2⟩:=Zh2 S Rj;obtain⟨u',hu1,hu2⟩:=Zh2 S hhi;split at h
   ·
    rename_i s hk;rw[Option.map_eq_some_iff]at h;obtain⟨⟨p,q⟩,hb,rfl⟩:=h;obtain⟨b,rfl,rfl⟩:=Vk.str_inv;have hb':=Zbo hl2 hu2 hb;rw[<- Sd]at hb'
    have hq:q<=b.size:=by
     unfold Vf at hb';split at hb'
     .split at hb'
      .rename_i hc;cases hb';exact hc.2
      .cases hb'
     .cases hb'
    refine⟨.string (b.extract p q),?_,fun cf yf vh _=>?_⟩
    .show R C ρ vf Z (.str _) _;rw[<- Z28 b p q hq];exact .d (.str _)
    .rw [Zfg ho ht W8 hl1 hu1];simp only[Zmx,hk,hb',Option.map_some]
   ·
    rename_i e hk;split at h
    .rename_i te r V8 hb;cases h;rw[Vk.nils_inv]at W8;have hb':=Zbo hl2 hu2 hb
     have hr:r=(0,0):=by
      unfold Vf at hb';split at hb'
      .split at hb'
       .rename_i hc;cases hb';rw[Prod.mk.injEq];omega
       .cases hb'
      .cases hb'
     subst hr;exact⟨_,.d .nils,fun cf yf vh _=>by rw[Zfg ho ht W8 hl1 hu1];simp only[Zmx,hk,hb',V8]⟩
    .cases h
   .rename_i e g xs hk;split at h
    .rename_i te p q V8 hb;split at h
     .rename_i he;cases h;have hb':=Zbo hl2 hu2 hb
      have hq:p<=q/\q<=xs.length:=by
       unfold Vf at hb';split at hb'
       .split at hb'
        .rename_i hc;cases hb';exact hc
        .cases hb'
       .cases hb'
      obtain⟨ty2,Zv,o2,cap,s,h1,h2,hse,rfl,h4⟩:=Zad3 Vk.lst_inv hq.1 hq.2;subst he;rw[V8]at h1;cases h1;refine⟨_,.d h4,fun cf yf vh hz=>?_⟩;have V6:=hz _ _ h2;rw[hse]at V6;rw[Zfg ho ht W8 hl1 hu1];simp only[Zmx,hk,hb',V8,V6,if_true]
     .cases h
    .cases h
   .cases h
  .cases h
 .cases h
theorem Zs8 {Xe:Yt}{Yw:SL}(S:SR C ρ vf Z Xe Yw){o:Oper}{t:TypeId}{y i:Operand}{x:PV}(ho:o.op=.index t y i)(h:Yk C Xe o=some x):Rg C ρ vf Z Yw o x:=by
 simp only[Yk,ho]at h;split at h
 .rename_i ty w k n ht hw hn;obtain⟨w',W8,Vk⟩:=Zj S hw;obtain⟨n',hn1,hn2⟩:=Zj S hn;rw[hn2.int_inv]at hn1;split at h
  .rename_i m e cs hk;obtain⟨cs',rfl,hcs⟩:=Vk.agg_inv;split at h
   .rename_i te V8;split at h
    .rename_i hb;rw[Option.bind_eq_some_iff]at h;obtain⟨r,hr,hx⟩:=h;obtain⟨r',h1,h2⟩:=hcs.read hr;obtain⟨z,h3,h4⟩:=Zhr h2 hx;exact⟨z,h4,fun cf yf vh _=>by simp only[Xp,ho,ht,W8,hn1,hk,V8];rw[if_pos hb,h1];simp only[Option.bind_some,h3,Option.map_some]⟩
    .cases h
   .cases h
  .rename_i s hk;obtain⟨b,rfl,rfl⟩:=Vk.str_inv;split at h
   .rename_i hb;rw[Option.map_eq_some_iff]at h;obtain⟨c,hc,rfl⟩:=h;rw[List.getElem?_map,Option.map_eq_some_iff]at hc;obtain⟨c',hc',rfl⟩:=hc;exact⟨_,.d (.int _ _),fun cf yf vh _=>by simp only[Xp,ho,ht,W8,hn1,hk];rw[if_pos hb,hc'];rfl⟩
   .cases h
  .cases h
 .cases h
theorem Zke {Xe:Yt}{Yw:SL}(S:SR C ρ vf Z Xe Yw){o:Oper}{t:TypeId}{y i:Operand}{x:PV}(ho:o.op=.indexAddr t y i)(h:Yk C Xe o=some x):Rg C ρ vf Z Yw o x:=by
 simp only[Yk,ho]at h;split at h
 .rename_i ty w k n ht hw hn;obtain⟨w',W8,Vk⟩:=Zj S hw;obtain⟨n',hn1,hn2⟩:=Zj S hn;rw[hn2.int_inv]at hn1;split at h
  .rename_i e g xs hk;split at h
   .rename_i te V8;split at h
    .rename_i hb;obtain⟨rfl,hb⟩:=hb;rw[Option.map_eq_some_iff]at h;obtain⟨c,hc,rfl⟩:=h;obtain⟨ty2,Zv,o2,cap,h1,rfl,h3⟩:=Zaka (ρ:=ρ) (vf:=vf) Vk.lst_inv hc;rw[V8]at h1;cases h1;exact⟨_,h3,fun cf yf vh _=>by simp only[Xp,ho,ht,W8,hn1,hk,V8];rw[if_pos hb];rfl⟩
    .cases h
   .cases h
  .rename_i m e b ver off hk;split at h
   .rename_i te V8;split at h
    .rename_i hb;cases h;cases Vk with
     |d h=>cases h
     |ptr i ver off c a hi hv hp ha=>
      refine⟨.pointer (some ⟨a.block,a.off+n.toNat*te.size,none⟩),.ptr _ _ _ c _ hi hv rfl fun e=>by rw[ha e],fun cf yf vh _=>?_⟩;simp only[Xp,ho,ht,W8,hn1,hk,V8];rw[if_pos hb,hp];rfl
    .cases h
   .cases h
  .rename_i m e cs hk;split at h
   .rename_i te V8;split at h
    .rename_i hb;cases h;obtain⟨Zv,o2,rfl,h2⟩:=Zu6 Vk (n.toNat*te.size) (by omega);exact⟨_,h2,fun cf yf vh _=>by simp only[Xp,ho,ht,W8,hn1,hk,V8];rw[if_pos ⟨hb.1,hb.2.1⟩];rfl⟩
    .cases h
   .cases h
  .cases h
 .cases h
end
section
variable {C:Ctx}{Z Z':Vg}{ρ YB:Nat->Nat}{vf vf':Nat->Option Nat}{v:Value}{Xe:Yt}{Yw:SL}{o:Oper}{x:PV}
theorem Zz5 {t:TypeId}{ps:Array (Nat×Operand)}(S:SR C ρ vf Z Xe Yw)(ho:o.op=.build t ps)(h:Yk C Xe o=some x):Rg C ρ vf Z Yw o x:=by
 simp only[Yk,ho]at h;split at h
 .rename_i ty vs ht hvs;obtain⟨Qs,hp1,hp2⟩:=Zgv S hvs;split at h
  .rename_i fs hk;split at h
   .rename_i hall;rw[Option.bind_eq_some_iff]at h;obtain⟨z,hz,h⟩:=h;rw[Option.map_eq_some_iff]at h;obtain⟨cs,hcs,rfl⟩:=h;obtain⟨cs',h1,h2⟩:=Zrg hp2 (Qe hz).up hcs;refine⟨.agg cs'.toArray,.agg _ _ (by simpa using h2),fun cf yf vh _=>?_⟩;simp only[Xp,ho,ht,hp1,hk];rw[if_pos hall];have:Qv (fun i=>(fs[i]?).bind fun x=>match x with | (off,u)=>(C.T u).map fun tu=>(off,tu.size)) ty.zero Qs=some cs':=h1;rw[this];rfl
   .cases h
  .rename_i n e hk;split at h
   .rename_i te V8;rw[Option.bind_eq_some_iff]at h;obtain⟨z,hz,h⟩:=h;rw[Option.map_eq_some_iff]at h;obtain⟨cs,hcs,rfl⟩:=h;obtain⟨cs',h1,h2⟩:=Zrg hp2 (Qe hz).up hcs;refine⟨.agg cs'.toArray,.agg _ _ (by simpa using h2),fun cf yf vh _=>?_⟩;simp only[Xp,ho,ht,hp1,hk,V8];rw[h1];rfl
   .cases h
  .cases h
 .cases h
theorem Zw0 {t:TypeId}{y:Operand}(S:SR C ρ vf Z Xe Yw)(ho:o.op=.load t y)(h:Yk C Xe o=some x):Rg C ρ vf Z Yw o x:=by
 simp only[Yk,ho]at h;split at h
 .rename_i ty cs ht hy;obtain⟨w,W8,Vk⟩:=Zj S hy;rw[Option.bind_eq_some_iff]at h;obtain⟨r,hr,hx⟩:=h;obtain⟨Zv,o2,s,r',rfl,hs,h1,h2⟩:=Z3f Vk hr;obtain⟨z,h3,h4⟩:=Zhq h2 hx;refine⟨z,.d h4,fun cf yf vh hz=>?_⟩;have V6:=hz _ _ hs;simp only[Xp,ho,ht,W8,VH.load,V6,h1,Option.bind_some,h3,Option.map_some,Option.isSome_none,Bool.false_eq_true,if_false]
 .cases h
theorem Zp1 {y:Operand}(S:SR C ρ vf Z Xe Yw)(ho:o.op=.nilCheck y)(h:Yk C Xe o=some x):Rg C ρ vf Z Yw o x:=by
 simp only[Yk,ho]at h;split at h<;>(try cases h)<;>rename_i hy<;>obtain⟨w,W8,Vk⟩:=Zj S hy
 .have hw:=Vk;cases Vk with
  |d h=>cases h
  |ptr=>exact⟨_,hw,fun cf yf vh _=>by simp only[Xp,ho,W8]⟩
 .have hw:=Vk;cases Vk with
  |d h=>cases h
  |eptr=>exact⟨_,hw,fun cf yf vh _=>by simp only[Xp,ho,W8]⟩
 .have hw:=Vk;cases Vk with
  |d h=>cases h
  |rptr=>exact⟨_,hw,fun cf yf vh _=>by simp only[Xp,ho,W8]⟩
 .have hw:=Vk;cases Vk with
  |d h=>cases h
  |fn=>exact⟨_,hw,fun cf yf vh _=>by simp only[Xp,ho,W8]⟩
 .have hw:=Vk;cases Vk with
  |d h=>cases h
  |yield=>exact⟨_,hw,fun cf yf vh _=>by simp only[Xp,ho,W8]⟩
theorem Zoc {src dst:TypeId}{y:Operand}(S:SR C ρ vf Z Xe Yw)(ho:o.op=.convert src dst y)(h:Yk C Xe o=some x):Rg C ρ vf Z Yw o x:=by
 simp only[Yk,ho]at h;split at h
 .rename_i ts td w hs hd hw;obtain⟨w',W8,Vk⟩:=Zj S hw;split at h
  .rename_i k k2 n hk;cases h;rw[Vk.int_inv]at W8;refine⟨_,.d (.int _ _),fun cf yf vh _=>?_⟩;simp only[Xp,ho,hs,hd,W8,hk]
  .rename_i s hk;cases h;obtain⟨b,rfl,rfl⟩:=Vk.str_inv;refine⟨_,.d (.str _),fun cf yf vh _=>?_⟩;simp only[Xp,ho,hs,hd,W8,hk]
  .cases h
 .cases h
theorem Zz3 {t:TypeId}{y:Operand}(S:SR C ρ vf Z Xe Yw)(ho:o.op=.makeInterface t y)(h:Yk C Xe o=some x):Rg C ρ vf Z Yw o x:=by
 simp only[Yk,ho]at h;split at h
 .rename_i ty ht;split at h
  .cases h
  .rename_i hk;rw[Option.map_eq_some_iff]at h;obtain⟨w,hw,rfl⟩:=h;obtain⟨w',W8,Vk⟩:=Zj S hw;refine⟨_,.iface t _ _ Vk,fun cf yf vh _=>?_⟩;simp only[Xp,ho,ht,W8,Option.map_some]
 .cases h
theorem Z41 {f:Fn}{a b:Array Operand}(S:SR C ρ vf Z Xe Yw)(ho:o.op=.makeFunc f a b)(h:Yk C Xe o=some x):Rg C ρ vf Z Yw o x:=by
 simp only[Yk,ho]at h;split at h
 .rename_i g p q hp hq;cases h;obtain⟨p',h1,h2⟩:=Sl S hp;obtain⟨q',h3,h4⟩:=Sl S hq;refine⟨_,.fn g p q p'.toArray q'.toArray (by simpa using h2) (by simpa using h4),fun cf yf vh _=>?_⟩;simp only[Xp,ho,h1,h3]
 .cases h
theorem Zob {t:TypeId}{y:Operand}{f:Nat}(S:SR C ρ vf Z Xe Yw)(ho:o.op=.fieldAddr t y f)(h:Yk C Xe o=some x):Rg C ρ vf Z Yw o x:=by
 simp only[Yk,ho]at h;split at h
 .rename_i ty w ht hw;obtain⟨w',W8,Vk⟩:=Zj S hw;split at h
  .rename_i fs hk;split at h
   .rename_i off u hf;split at h
    .rename_i tu htu;split at h
     .cases h
     .rename_i Qa;split at h
      .cases h;cases Vk with
       |d h=>cases h
       |ptr i ver off c a hi hv hp ha=>
        refine⟨_,.ptr _ _ _ c ⟨a.block,a.off+_,none⟩ hi hv rfl fun e=>by rw[ha e],fun cf yf vh _=>?_⟩;simp only[Xp,ho,ht,W8,hk,hf,htu];rw[if_neg (by rw[hp];simpa using Qa)]
      .cases h;cases Vk with
       |d h=>cases h
       |eptr i ver g ix off c a ty2 hi hv hp hg ha=>
        refine⟨_,.eptr _ _ _ _ _ c ⟨a.block,a.off+_,none⟩ ty2 hi hv rfl hg fun e=>by rw[ha e,Nat.add_assoc],fun cf yf vh _=>?_⟩;simp only[Xp,ho,ht,W8,hk,hf,htu];rw[if_neg (by rw[hp];simpa using Qa)]
      .split at h
       .rename_i cs hle;cases h;obtain⟨Zv,o2,rfl,h2⟩:=Zu6 Vk off (by omega);refine⟨_,h2,fun cf yf vh _=>?_⟩;simp only[Xp,ho,ht,W8,hk,hf,htu];rw[if_neg (by simpa using Qa)]
       .cases h
      .cases h
    .cases h
   .cases h
  .cases h
 .cases h
theorem Zz4 {t:TypeId}{y:Operand}{f:Nat}(S:SR C ρ vf Z Xe Yw)(ho:o.op=.field t y f)(h:Yk C Xe o=some x):Rg C ρ vf Z Yw o x:=by
 simp only[Yk,ho]at h;split at h
 .rename_i ty cs ht hw;obtain⟨w',W8,Vk⟩:=Zj S hw;obtain⟨cs',rfl,hcs⟩:=Vk.agg_inv;split at h
  .rename_i fs hk;split at h
   .rename_i off u hf;split at h
    .rename_i tu htu;rw[Option.bind_eq_some_iff]at h;obtain⟨r,hr,hx⟩:=h;obtain⟨r',h1,h2⟩:=hcs.read hr;obtain⟨z,h3,h4⟩:=Zhr h2 hx;refine⟨z,h4,fun cf yf vh _=>?_⟩;simp only[Xp,ho,ht,W8,hk,hf,htu,h1,Option.bind_some,h3,Option.map_some]
    .cases h
   .cases h
  .cases h
 .cases h
theorem Zwz {t:TypeId}{y i:Operand}{ok:Bool}(S:SR C ρ vf Z Xe Yw)(ho:o.op=.lookup t y i ok)(h:Yk C Xe o=some x):Rg C ρ vf Z Yw o x:=by
 simp only[Yk,ho]at h;split at h
 .rename_i ty k ht hy hi;obtain⟨w,W8,Vk⟩:=Zj S hy;obtain⟨u,hu1,hu2⟩:=Zj S hi;rw[Vk.nilm_inv]at W8;split at h
  .rename_i kt et hk;split at h
   .rename_i kty ety hkt het;split at h
    .rename_i Ss;rw[Option.map_eq_some_iff]at h;obtain⟨z,hz,rfl⟩:=h;obtain⟨z',h1,h2⟩:=Zp5 hz;refine⟨if ok then .tuple #[z',.bool false] else z',?_,fun cf yf vh _=>?_⟩
     .cases ok with
      |true=>exact .tuple _ _ (.cons (.d h2) (.cons (.d (.bool _)) .nil))
      |false=>exact .d h2
     .simp only [Xp,ho,ht,W8,hu1,hk,hkt,het];rw[if_pos (Zih hu2 Ss)];simp only[Q5,h1,Option.map_some]
    .cases h
   .cases h
  .cases h
 .cases h
theorem Z42 {c:Call}(S:SR C ρ vf Z Xe Yw)(ho:o.op=.call c)(h:Yk C Xe o=some x):Rg C ρ vf Z Yw o x:=by
 simp only[Yk,ho]at h;split at h
 .cases h
 .rename_i args Xu;obtain⟨Wl,Qq,Qu⟩:=Sl S Xu;split at h
  .rename_i b Wt;split at h
   .rename_i y;cases Qu with
    |cons hy hr=>
     cases hr;split at h
     .rename_i ty ht;split at h
      .rename_i s hk;cases h;obtain⟨b,rfl,rfl⟩:=hy.str_inv;refine⟨.int .i64 b.size,?_,fun cf yf vh _=>?_⟩
       .rw [Sd];exact .d (.int _ _)
       .simp only [Xp,ho,U9,Qq,Wt,ht,hk]
      .rename_i e hk;cases h;have hy':=hy.nils_inv;subst hy';refine⟨.int .i64 0,.d (.int _ _),fun cf yf vh _=>?_⟩;simp only[Xp,ho,U9,Qq,Wt,ht,hk];rfl
      .rename_i e g xs hk;cases h;cases hy.lst_inv with
       |lst=>
        refine⟨.int .i64 xs.length,.d (.int _ _),fun cf yf vh _=>?_⟩;simp only[Xp,ho,U9,Qq,Wt,ht,hk]
      .rename_i e i ver g off n hk;cases h;cases hy with
       |d h=>cases h
       |own=>
        refine⟨.int .i64 n,.d (.int _ _),fun cf yf vh _=>?_⟩;simp only[Xp,ho,U9,Qq,Wt,ht,hk]
      .rename_i e f hk;cases h;have hy':=hy.nilm_inv;subst hy';refine⟨.int .i64 0,.d (.int _ _),fun cf yf vh _=>?_⟩;simp only[Xp,ho,U9,Qq,Wt,ht,hk]
      .cases h
     .cases h
   .cases Qu with
    |cons hy hr=>
     cases hr;split at h
     .rename_i ty ht;split at h
      .rename_i e hk;cases h;have hy':=hy.nils_inv;subst hy';refine⟨.int .i64 0,.d (.int _ _),fun cf yf vh _=>?_⟩;simp only[Xp,ho,U9,Qq,Wt,ht,hk]
      .cases h
     .cases h
   .cases h;cases Qu with
    |cons hy hr=>
     cases hr with
     |cons hz hr=>
      cases hr;have hy':=hy.int_inv;have hz':=hz.int_inv;subst hy' hz';refine⟨_,.d (.int _ _),fun cf yf vh _=>?_⟩;simp only[Xp,ho,U9,Qq,Wt]
   .cases h;cases Qu with
    |cons hy hr=>
     cases hr with
     |cons hz hr=>
      cases hr;have hy':=hy.int_inv;have hz':=hz.int_inv;subst hy' hz';refine⟨_,.d (.int _ _),fun cf yf vh _=>?_⟩;simp only[Xp,ho,U9,Qq,Wt]
   .cases h
  .cases h
theorem Zwy (S:SR C ρ vf Z Xe Yw)(h:Yk C Xe o=some x):Rg C ρ vf Z Yw o x:=by
 cases ho:o.op with
 |move y=>
  simp only[Yk,ho]at h;obtain⟨w,h1,h2⟩:=Zj S h;exact⟨w,h2,fun cf yf vh _=>by simp only[Xp,ho,h1,Option.map_some]⟩
 |assign y=>
  simp only[Yk,ho]at h;obtain⟨w,h1,h2⟩:=Zj S h;exact⟨w,h2,fun cf yf vh _=>by simp only[Xp,ho,h1,Option.map_some]⟩
 |pick c a b=>
  simp only[Yk,ho]at h;split at h
  .rename_i hc;obtain⟨w,h1,h2⟩:=Zj S hc;obtain⟨u,h3,h4⟩:=Zj S h;rw[h2.bool_inv]at h1;exact⟨u,h4,fun cf yf vh _=>by simp only[Xp,ho,h1,h3,Option.map_some]⟩
  .rename_i hc;obtain⟨w,h1,h2⟩:=Zj S hc;obtain⟨u,h3,h4⟩:=Zj S h;rw[h2.bool_inv]at h1;exact⟨u,h4,fun cf yf vh _=>by simp only[Xp,ho,h1,h3,Option.map_some]⟩
  .cases h
 |build t ps=>exact Zz5 S ho h
 |load t y=>exact Zw0 S ho h
 |nilCheck y=>exact Zp1 S ho h
 |binOp op t y z t2=>
  simp only[Yk,ho]at h;split at h
  .rename_i a b ha hb;obtain⟨w,h1,h2⟩:=Zj S ha;obtain⟨u,h3,h4⟩:=Zj S hb;cases hn:Zvu C op t y z a b with
   |none=>
    rw[hn,Option.none_or]at h;obtain⟨r,h5,h6⟩:=Zaa6 h2 h4 h;cases hn2:Virt.nilE C op t y z w u with
    |none=>exact⟨r,.d h6,fun cf yf vh _=>by simp only[Xp,ho,h1,h3,h5,hn2,Option.none_or,Option.map_some]⟩
    |some q=>
     exfalso;unfold Virt.nilE at hn2;unfold Zvu at hn;split at hn2
     .rename_i hl;rw[if_pos hl]at hn;split at hn2
      all_goals first
       | (cases hn2;done)
       | (split at hn2
          .rename_i hk;have e1:a=.nili:=by cases h2 with | d h2=>cases h2;rfl
           have e2:b=.nili:=by cases h4 with | d h4=>cases h4;rfl
           subst e1 e2;simp only[hk,if_true]at hn;cases hn
          .cases hn2)
     .cases hn2
   |some q=>
    rw[hn,Option.some_or]at h;cases h;unfold Zvu at hn;split at hn
    .rename_i hl;split at hn
     all_goals first
      | (cases hn;done)
      | (split at hn
         .rename_i hk;cases hn;have e1:w=.nilIface:=by cases h2 with | d h2=>cases h2;rfl
          have e2:u=.nilIface:=by cases h4 with | d h4=>cases h4;rfl
          subst e1 e2;exact⟨_,.d (.bool _),fun cf yf vh _=>by simp only[Xp,ho,h1,h3,Virt.nilE,hl,hk,if_true,Option.some_or,Option.map_some]⟩
         .cases hn)
    .cases hn
  .cases h
 |unOp op t y=>
  simp only[Yk,ho]at h;rw[Option.bind_eq_some_iff]at h;obtain⟨a,ha,h⟩:=h;obtain⟨w,h1,h2⟩:=Zj S ha;obtain⟨r,h5,h6⟩:=Zadg h2 h;exact⟨r,.d h6,fun cf yf vh _=>by simp only[Xp,ho,h1,Option.bind_some,h5,Option.map_some]⟩
 |convert src dst y=>exact Zoc S ho h
 |makeInterface t y=>exact Zz3 S ho h
 |makeFunc f a b=>exact Z41 S ho h
 |slice t y lo hi mx=>
  cases mx with
  |none=>exact Zs6 S ho h
  |some m=>simp[Yk,ho]at h
 |fieldAddr t y f=>exact Zob S ho h
 |field t y f=>exact Zz4 S ho h
 |indexAddr t y i=>exact Zke S ho h
 |index t y i=>exact Zs8 S ho h
 |lookup t y i ok=>exact Zwz S ho h
 |extract y ix=>
  simp only[Yk,ho]at h;split at h
  .rename_i vs hy;obtain⟨w,h1,h2⟩:=Zj S hy;obtain⟨Qs,rfl,h3⟩:=h2.tuple_inv;obtain⟨u,h4,h5⟩:=h3.get h;exact⟨u,h5,fun cf yf vh _=>by simp only[Xp,ho,h1,h4,Option.map_some]⟩
  .cases h
 |call c=>exact Z42 S ho h
 | _=>simp[Yk,ho]at h
end
def Zl (h:PH):Nat->Option Nat:=fun i=>(h.get i).map (·.1)
def Ud (n:Nat):Code->Bool
 | .region _ ops draw=>(ops.toList.all fun o=>match o.dst with | some d=>Nat.blt d n | none=>true)&&(!draw||Zte ops)
 | .seq a b=>Ud n a&&Ud n b
 | .cond _ a b=>Ud n a&&Ud n b
 | .block _ b=>Ud n b
 | .loop b=>Ud n b
 | .rangeFunc _ _ a b=>Ud n a&&Ud n b
 | .scope b=>Ud n b
 | _=>true
def KOk (K:Loc)(n next:Nat):Prop:=K.lo<=K.base/\K.base+n<=next
inductive OR (C:Ctx)(ρ:Nat->Nat)(vf:Nat->Option Nat)(Z:Vg)(next:Nat)(vh:VH)(i p:Nat):PO->Prop
 |cells (cs:List PV) (Wi:List Value) (e:Nat) (hz:Z p=none) (hg:vh.get p=some (.row Wi e true)) (hr:Rs C ρ vf Z cs Wi):OR C ρ vf Z next vh i p (.cells cs)
 |row (g:Nat) (xs:List PV) (Wi:List Value) (ty:Ty) (ht:C.T g=some ty) (hz:Z p=none) (hg:vh.get p=some (.row Wi ty.size true)) (hr:RDs C Z (xs.flatMap Zc) Wi) (hl:∀x∈xs,(Zc x).length=ty.size):OR C ρ vf Z next vh i p (.row g true xs)
 |frozen (g:Nat) (xs:List PV) (s:SE) (ty:Ty) (ht:C.T g=some ty) (hs:Z p=some s) (he:s.e=ty.size) (Z8s:s.tag=none\/s.tag=some g) (hr:RDs C Z (xs.flatMap Zc) s.cells) (hl:∀x∈xs,(Zc x).length=ty.size):OR C ρ vf Z next vh i p (.row g false xs)
 |map (es:List (PV×PV)) (ves:List (Value×Value)) (hz:Z p=none) (hg:vh.get p=some (.map ves)) (hr:MRP C ρ vf Z es ves):OR C ρ vf Z next vh i p (.map es)
 |loop (K:Loc) (n:Nat) (sl:Yt) (Yw:SL) (ps:List Nat) (as bd:Code) (hz:Z p=none) (hg:vh.get p=some (.loop Yw ps as bd)) (hr:SR C ρ vf Z sl Yw) (hK:K.lo<=K.base) (hb:K.base+n<=i) (h1:Ud n as=true) (h2:Ud n bd=true):OR C ρ vf Z next vh i p (.loop K sl ps as bd)
 |gone (hp:p < vh.next) (hz:Z p=none):OR C ρ vf Z next vh i p .gone
section
variable (C:Ctx)(ρ:Nat->Nat)(Z:Vg)(vh:VH)
structure HP (h:PH):Prop where
 lt:∀i x,h.get i=some x->i < h.next
 inj:∀i j x y,h.get i=some x->h.get j=some y->ρ i=ρ j->i=j
 vlt:∀i o,vh.get i=some o->i < vh.next
 sig:Zrx Z vh
 obj:∀i ver o,h.get i=some (ver,o)->OR C ρ (Zl h) Z h.next vh i (ρ i) o
 wr:vh.wr<=vh.next
end
section
variable {C:Ctx}{Z Z':Vg}{ρ YB:Nat->Nat}{vf vf':Nat->Option Nat}{h h':PH}{vh vh':VH}{next next':Nat}
theorem OR.mono {i p:Nat}{o:PO}(h:OR C ρ vf Z next vh i p o)(he:Rm ρ vf YB vf')(hz:Z.le Z')(hp:Z p=none->Z' p=none)(hg:Z p=none->vh'.get p=vh.get p)(hn:next<=next')(hvn:vh.next<=vh'.next):OR C YB vf' Z' next' vh' i p o:=by
 cases h with
 |cells cs Wi e hz1 hg1 hr=>exact .cells cs Wi e (hp hz1) (by rw[hg hz1];exact hg1) (hr.mono he hz)
 |row g xs Wi ty ht hz1 hg1 hr hl=>exact .row g xs Wi ty ht (hp hz1) (by rw[hg hz1];exact hg1) (hr.mono hz) hl
 |frozen g xs s ty ht hs he1 Z8s hr hl=>exact .frozen g xs s ty ht (hz _ _ hs) he1 Z8s (hr.mono hz) hl
 |map es ves hz1 hg1 hr=>exact .map es ves (hp hz1) (by rw[hg hz1];exact hg1) (hr.mono he hz)
 |loop K n sl Yw ps as bd hz1 hg1 hr hK hb h1 h2=>exact .loop K n sl Yw ps as bd (hp hz1) (by rw[hg hz1];exact hg1) (hr.mono he hz) hK hb h1 h2
 |gone hp1 hz1=>exact .gone (by omega) (hp hz1)
structure St (C:Ctx)(K:Loc)(ρ:Nat->Nat)(Z:Vg)(h:PH)(vh:VH)(YB:Nat->Nat)(Z':Vg)(h':PH)(vh':VH):Prop where
 hp:HP C YB Z' vh' h'
 ext:Rm ρ (Zl h) YB (Zl h')
 sig:Z.le Z'
 next:h.next<=h'.next
 vnext:vh.next<=vh'.next
 wr:vh'.wr<=vh.wr
 keep:∀i,can K i=false->h'.get i=h.get i
 same:∀i ver o,i < K.lo->h.get i=some (ver,o)->h'.get i=some (ver,o)\/(∃g own xs,o=.row g own xs/\h'.get i=some (ver,.row g false xs))\/vh'.wr<=ρ i
 plc:∀i x,h'.get i=some x->((∃y,h.get i=some y)/\YB i=ρ i)\/vh.next<=YB i
 vkeep:∀i x,h.get i=some x->can K i=false->vh'.get (ρ i)=vh.get (ρ i)
 vnone:∀q,q < vh.next->vh.get q=none->(∀i x,h.get i=some x->ρ i≠q)->vh'.get q=none
 low:∀b,b<=vh.next->b<=vh.wr->(∀i x,h.get i=some x->can K i=true->b<=ρ i)->b<=vh'.wr
theorem St.refl {K:Loc}(H:HP C ρ Z vh h):St C K ρ Z h vh ρ Z h vh where
 hp:=H
 ext:=Rm.refl _ _
 sig:=Vg.le.refl _
 next:=Nat.le_refl _
 vnext:=Nat.le_refl _
 wr:=Nat.le_refl _
 keep:=fun _ _=>rfl
 same:=fun i ver o _ ho=>.inl ho
 plc:=fun i x hx=>.inl ⟨⟨x,hx⟩,rfl⟩
 vkeep:=fun _ _ _ _=>rfl
 vnone:=fun _ _ h _=>h
 low:=fun _ _ h _=>h
theorem Zr {i c:Nat}:Zl h i=some c↔∃o,h.get i=some (c,o):=by
 unfold Zl;rw[Option.map_eq_some_iff];constructor
 .rintro ⟨⟨a,o⟩,h1,rfl⟩;exact⟨o,h1⟩
 .rintro ⟨o,h1⟩;exact⟨(c,o),h1,rfl⟩
theorem HP.rho_lt (H:HP C ρ Z vh h){i:Nat}{x:Nat×PO}(hi:h.get i=some x):ρ i < vh.next:=by
 obtain⟨ver,o⟩:=x;cases H.obj i ver o hi with
 |gone hp hz=>exact hp
 |frozen g xs s ty ht hs=>exact H.vlt _ _ (H.sig _ _ hs)
 | _=>exact H.vlt _ _ (by assumption)
theorem St.trans {K:Loc}{ρ'':Nat->Nat}{Z'':Vg}{h'':PH}{vh'':VH}(H0:HP C ρ Z vh h)(a:St C K ρ Z h vh YB Z' h' vh')(b:St C K YB Z' h' vh' ρ'' Z'' h'' vh''):St C K ρ Z h vh ρ'' Z'' h'' vh'' where
 hp:=b.hp
 ext:=a.ext.trans b.ext
 sig:=a.sig.trans b.sig
 next:=Nat.le_trans a.next b.next
 vnext:=Nat.le_trans a.vnext b.vnext
 wr:=Nat.le_trans b.wr a.wr
 keep:=fun i hi=>(b.keep i hi).trans (a.keep i hi)
 same:=fun i ver o Rj ho=>by
  rcases a.same i ver o Rj ho with h1 | ⟨g,own,xs,rfl,h1⟩ | h1
  .have hr:YB i=ρ i:=by
    obtain⟨c',h2,_,h3⟩:=a.ext i ver (Zr.2 ⟨o,ho⟩);rw[Zr.2 ⟨o,h1⟩]at h2;cases h2;exact h3 rfl
   rcases b.same i ver o Rj h1 with h2 | h2 | h2
   .exact .inl h2
   .exact .inr (.inl h2)
   .rw [hr]at h2;exact .inr (.inr h2)
  .have hr:YB i=ρ i:=by
    obtain⟨c',h2,_,h3⟩:=a.ext i ver (Zr.2 ⟨_,ho⟩);rw[Zr.2 ⟨_,h1⟩]at h2;cases h2;exact h3 rfl
   rcases b.same i ver _ Rj h1 with h2 | ⟨g2,Zvl,xs2,e,h2⟩ | h2
   .exact .inr (.inl ⟨g,own,xs,rfl,h2⟩)
   .cases e;exact .inr (.inl ⟨g,own,xs,rfl,h2⟩)
   .rw [hr]at h2;exact .inr (.inr h2)
  .exact .inr (.inr (Nat.le_trans b.wr h1))
 plc:=fun i x hx=>by
  rcases b.plc i x hx with⟨⟨y,h1⟩,h2⟩ | h1
  .rcases a.plc i y h1 with⟨h3,h4⟩ | h3
   .exact .inl ⟨h3,h2.trans h4⟩
   .exact .inr (by rw[h2];exact h3)
  .exact .inr (Nat.le_trans a.vnext h1)
 vkeep:=fun i x hx hc=>by
  have h1:=a.keep i hc;obtain⟨ver,o⟩:=x
  have hr:YB i=ρ i:=by
   obtain⟨c',h2,_,h3⟩:=a.ext i ver (Zr.2 ⟨o,hx⟩);rw[Zr.2 ⟨o,by rw[h1];exact hx⟩]at h2;cases h2;exact h3 rfl
  have:=b.vkeep i _ (h1.trans hx) hc;rw[hr]at this;rw[this];exact a.vkeep i _ hx hc
 vnone:=fun q hq hn hi=>b.vnone q (Nat.lt_of_lt_of_le hq a.vnext) (a.vnone q hq hn hi) fun i x hx e=>by
  rcases a.plc i x hx with⟨⟨y,hy⟩,h2⟩ | h2
  .exact hi i y hy (h2.symm.trans e)
  .omega
 low:=fun c h1 h2 h3=>b.low c (Nat.le_trans h1 a.vnext) (a.low c h1 h2 h3) fun i x hx hc=>by
  rcases a.plc i x hx with⟨⟨y,hy⟩,e⟩ | e
  .rw [e];exact h3 i y hy hc
  .omega
theorem HP.change {K:Loc}(H:HP C ρ Z vh h){i ver' p:Nat}{o:PO}(hwl:vh'.wr=vh.wr\/vh'.wr=min vh.wr (ρ i)/\∃x,h.get i=some x)(hi:i < h.next)(hc:can K i=true)
  (hver:∀ver o',h.get i=some (ver,o')->ver<=ver'/\(ver'=ver->p=ρ i)) (hpn:p < vh'.next)
  (hp:(∃x,h.get i=some x/\p=ρ i)\/vh.next<=p) (hvn:vh.next<=vh'.next) (hwr:vh'.wr<=vh.wr) (hwr2:i < K.lo->(∃x,h.get i=some x)->vh'.wr<=ρ i)
  (Zsq:∀q,q≠p->((∃x,h.get i=some x)->q≠ρ i)->vh'.get q=vh.get q) (hzi:∀x,h.get i=some x->Z (ρ i)=none\/vh'.get (ρ i)=vh.get (ρ i)) (hzp:Z p=none) (hvlt:∀q x,vh'.get q=some x->q < vh'.next)
  (ho:∀YB vf',YB=(fun j=>if j=i then p else ρ j)->vf'=Zl (h.put i ver' o)->Rm ρ (Zl h) YB vf'->OR C YB vf' Z h.next vh' i p o):
  St C K ρ Z h vh (fun j=>if j=i then p else ρ j) Z (h.put i ver' o) vh':=by
 have U3:Rm ρ (Zl h) (fun j=>if j=i then p else ρ j) (Zl (h.put i ver' o)):=by
  intro j c hj;obtain⟨o',hj'⟩:=Zr.1 hj;by_cases e:j=i
  .subst e;obtain⟨h1,h2⟩:=hver c o' hj';exact⟨ver',by simp[Zl,PH.put],h1,fun e=>by simp[h2 e]⟩
  .exact ⟨c,by simp[Zl,PH.put,e,hj'],Nat.le_refl _,fun _=>by simp[e]⟩
 have Yn:∀j x,h.get j=some x->j≠i->ρ j≠p:=by
  intro j x hj hji e;rcases hp with⟨y,h1,rfl⟩ | h1
  .exact hji (H.inj _ _ _ _ hj h1 e)
  .have:=H.rho_lt hj;omega
 have Zio:∀j x,h.get j=some x->j≠i->((∃x,h.get i=some x)->ρ j≠ρ i):=fun j x hj hji ⟨y,hy⟩ e=>hji (H.inj _ _ _ _ hj hy e)
 refine⟨⟨?_,?_,hvlt,?_,?_,?_⟩,U3,Vg.le.refl _,Nat.le_refl _,hvn,hwr,?_,?_,?_,?_,?_,?_⟩
 .intro j x hj;by_cases e:j=i
  .subst e;exact hi
  .simp [PH.put,e]at hj;exact H.lt j x hj
 .intro j k x y hj hk e;by_cases e1:j=i<;>by_cases e2:k=i
  .rw [e1,e2]
  .subst e1;simp[PH.put,e2]at hk e;exact absurd e.symm (Yn k _ hk e2)
  .subst e2;simp[PH.put,e1]at hj e;exact absurd e (Yn j _ hj e1)
  .simp [PH.put,e1,e2]at hj hk e;exact H.inj _ _ _ _ hj hk e
 .intro q s hq;have h1:=H.sig q s hq;by_cases e1:q=p
  .subst e1;rw[hzp]at hq;cases hq
  .by_cases e2:∃x,h.get i=some x/\q=ρ i
   .obtain ⟨x,hx,rfl⟩:=e2;rcases hzi x hx with h2 | h2
    .rw [h2]at hq;cases hq
    .rw [h2];exact h1
   .rw [Zsq q e1 fun⟨x,hx⟩ e=>e2 ⟨x,hx,e⟩];exact h1
 .intro j ver o' hj;by_cases e:j=i
  .subst e;simp[PH.put]at hj;obtain⟨rfl,rfl⟩:=hj;simp only[if_true];exact ho _ _ rfl rfl U3
  .simp [PH.put,e]at hj;have h1:=H.obj j ver o' hj;simp only[e,if_false];refine h1.mono U3 (Vg.le.refl _) id (fun _=>Zsq _ (Yn j _ hj e) (Zio j _ hj e)) (Nat.le_refl _) hvn
 .exact Nat.le_trans hwr (Nat.le_trans H.wr hvn)
 .intro j hj;by_cases e:j=i
  .subst e;rw[hc]at hj;cases hj
  .simp [PH.put,e]
 .intro j ver o' Rj hj;by_cases e:j=i
  .subst e;exact .inr (.inr (hwr2 Rj ⟨_,hj⟩))
  .exact .inl (by simp[PH.put,e,hj])
 .intro j x hj;by_cases e:j=i
  .subst e;simp only[if_true];rcases hp with⟨y,h1,rfl⟩ | h1
   .exact .inl ⟨⟨y,h1⟩,rfl⟩
   .exact .inr h1
  .simp [PH.put,e]at hj;exact .inl ⟨⟨x,hj⟩,by simp[e]⟩
 .intro j x hj hcj;have e:j≠i:=fun e=>by subst e;rw[hc]at hcj;cases hcj
  exact Zsq _ (Yn j _ hj e) (Zio j _ hj e)
 .intro q hq hn hj;rw[Zsq q ?_ ?_]
  .exact hn
  .intro e;rcases hp with⟨x,hx,h1⟩ | h1
   .exact hj i x hx (h1 ▸ e.symm)
   .omega
  .exact fun⟨x,hx⟩ e=>hj i x hx e.symm
 .intro b _ h2 h3;rcases hwl with e | ⟨e,x,hx⟩
  .rw [e];exact h2
  .rw [e];exact Nat.le_min.2 ⟨h2,h3 i x hx hc⟩
end
section
variable {C:Ctx}{Z Z':Vg}{ρ YB:Nat->Nat}{vf vf':Nat->Option Nat}{h h':PH}{vh vh':VH}{K:Loc}{n:Nat}{Xe:Yt}{Yw:SL}{o:Oper}{x:PV}{all:List Oper}
def Zf0 (C:Ctx)(K:Loc)(ρ:Nat->Nat)(Z:Vg)(h:PH)(vh:VH)(x:PV)(h':PH)(r:Option (Value×VH)):Prop:=
 ∃v vh' YB Z',r=some (v,vh')/\R C YB (Zl h') Z' x v/\St C K ρ Z h vh YB Z' h' vh'
theorem Zxd (hK:K.lo<=K.base)(d:Nat):can K (K.base+d)=true:=by
 unfold can;rw[Bool.or_eq_true,Nat.ble_eq];exact .inl (by omega)
theorem Zb8 {vo:VO}(H:HP C ρ Z vh h)(hK:KOk K n h.next){d:Nat}(hd:d < n){ob:PO}
  (ho:∀YB vf',Rm ρ (Zl h) YB vf'->OR C YB vf' Z h.next (vh.new vo) (K.base+d) vh.next ob):
  St C K ρ Z h vh (fun j=>if j=K.base+d then vh.next else ρ j) Z (h.put (K.base+d) (h.stamp (K.base+d)) ob) (vh.new vo):=by
 have hzn:Z vh.next=none:=by
  cases e:Z vh.next with
  |none=>rfl
  |some s=>exact absurd (H.vlt _ _ (H.sig _ _ e)) (Nat.lt_irrefl _)
 have Zk:∀q,q≠vh.next->(vh.new vo).get q=vh.get q:=fun q hq=>by simp[VH.new,S9 hq]
 refine HP.change H (.inl rfl) (by have:=hK.2;omega) (Zxd hK.1 d) (fun ver o' hi=>?_) (by simp[VH.new]) (.inr (Nat.le_refl _)) (by simp[VH.new]) (Nat.le_refl _) (fun Rj=>absurd Rj (by have:=hK.1;omega))
  (fun q hq _=>Zk q hq) (fun y hy=>.inr (Zk _ (by have:=H.rho_lt hy;omega))) hzn (fun q y hq=>?_) (fun YB vf' _ _ he=>ho YB vf' he)
 .have:h.stamp (K.base+d)=ver+1:=by simp[PH.stamp,hi]
  rw[this];exact⟨by omega,fun e=>by omega⟩
 .by_cases e:q=vh.next
  .subst e;simp[VH.new]
  .rw [Zk q e]at hq;have:=H.vlt _ _ hq;simp only[VH.new];omega
theorem Zh8 {i ver:Nat}{o:PO}:Zl (h.put i ver o) i=some ver:=by simp[Zl,PH.put]
theorem Zm3 {z:PV}{v:List Value}(hz:RDs C Z (Zc z) v)(n:Nat):RDs C Z ((List.replicate n z).flatMap Zc) (Vv n v):=by
 unfold Vv
 induction n with
 |zero=>simpa using .nil
 |succ n ih=>
  rw[List.replicate_succ',List.range_succ,List.flatMap_append,List.flatMap_append];refine ih.append ?_;simpa using hz
theorem Z1b {m:Nat}:∀ {n:Nat} {x:PV} {v:Value},plain n x=true->R C ρ vf Z x v->RD C Z x v:=by
 intro n
 induction n with
 |zero=>
  intro x v hp hr;cases hr with
  |d h=>exact h
  | _=>simp[plain]at hp
 |succ n ih=>
  intro x v hp hr
  have hs:∀ {cs:List PV} {cs':List Value},cs.all (plain n)=true->Rs C ρ vf Z cs cs'->RDs C Z cs cs':=by
   intro cs
   induction cs with
   |nil=>intro cs' _ h;cases h;exact .nil
   |cons c cs ih2=>
    intro cs' ha h;simp only[List.all_cons,Bool.and_eq_true]at ha;cases h with | cons h r=>exact .cons (ih ha.1 h) (ih2 ha.2 r)
  cases hr with
  |d h=>exact h
  |agg cs cs' h=>exact .agg _ _ (hs (by simpa[plain]using hp) h)
  |iface t y w h=>exact .iface t _ _ (ih (by simpa[plain]using hp) h)
  | _=>simp[plain]at hp
theorem Zvg {n:Nat}{x:PV}{v:Value}(hp:plain n x=true)(hr:R C ρ vf Z x v):RDs C Z (Zc x) v.cells.toList:=(Z1b (m:=0) hp hr).cells
theorem Z60 {xs:List PV}{sz:Nat}(hl:∀x∈xs,(Zc x).length=sz){i:Nat}(hi:i < xs.length){y:PV}(hy:(Zc y).length=sz):Yp (xs.flatMap Zc) (i*sz) (Zc y)=some ((xs.set i y).flatMap Zc):=by
 induction xs generalizing i with
 |nil=>simp at hi
 |cons x xs ih=>
  have hx:=hl x (by simp)
  have wapp:∀(a b vs:List PV) (o:Nat),Yp (a++b) (a.length+o) vs=(Yp b o vs).map (a++·):=by
   intro a
   induction a with
   |nil=>intro b vs o;simp
   |cons c a ih2=>
    intro b vs o;cases vs with
    |nil=>
     have e1:∀(l:List PV) (k:Nat),Yp l k []=some l:=fun l k=>by cases l<;>cases k<;>rfl
     rw[e1,e1];rfl
    |cons v vs=>
     have:(c::a).length+o=(a.length+o)+1:=by simp;omega
     rw[this];simp only[List.cons_append,Yp,ih2,Option.map_map];rfl
  have wall:∀(a b vs:List PV),vs.length=a.length->Yp (a++b) 0 vs=some (vs++b):=by
   intro a
   induction a with
   |nil=>intro b vs h;cases vs with
    |nil=>cases b<;>rfl
    |cons _ _=>simp at h
   |cons c a ih2=>
    intro b vs h;cases vs with
    |nil=>simp at h
    |cons v vs=>
     simp only[List.cons_append,Yp];rw[ih2 b vs (by simpa using h)];rfl
  cases i with
  |zero=>
   simp only[List.flatMap_cons,Nat.zero_mul,List.set_cons_zero];exact wall _ _ _ (by rw[hy,hx])
  |succ i=>
   simp only[List.flatMap_cons,List.set_cons_succ];have:(i+1)*sz=(Zc x).length+i*sz:=by rw[hx,Nat.succ_mul];omega
   rw[this,wapp,ih (fun z hz=>hl z (by simp[hz])) (by simpa using hi)];rfl
theorem Z07 {xs:List PV}{sz:Nat}(hl:∀x∈xs,(Zc x).length=sz){i:Nat}{y:PV}(hy:(Zc y).length=sz):∀x∈xs.set i y,(Zc x).length=sz:=by
 intro x hx;rcases List.mem_or_eq_of_mem_set hx with h | h
 .exact hl x h
 .rw [h];exact hy
theorem Z45 {ps:List (Nat×PV)}{ps':List (Nat×Value)}{sz:Nat}(hp:RPs C ρ vf Z ps ps'):∀ {xs xs2:List PV} {Wz:List Value},RDs C Z (xs.flatMap Zc) Wz->(∀x∈xs,(Zc x).length=sz)->Zrh sz xs ps=some xs2 ->
  ∃Zi6,Qv (fun i=>some (i*sz,sz)) Wz ps'=some Zi6/\RDs C Z (xs2.flatMap Zc) Zi6/\(∀x∈xs2,(Zc x).length=sz)/\xs2.length=xs.length:=by
 induction hp with
 |nil=>intro xs xs2 Wz h1 hl h;simp only[Zrh,Option.some.injEq]at h;subst h;exact⟨Wz,rfl,h1,hl,rfl⟩
 | @cons i x v l l' h r ih=>
   intro xs xs2 Wz h1 hl hf;simp only[Zrh]at hf;simp only[Qv];split at hf
   .rename_i hc;obtain⟨c1,c2,c3,c4⟩:=hc;have hw:=Z60 hl c2 c1;have hpl:=Zvg c4 h;obtain⟨w',h3,h4⟩:=Zgm (ρ:=ρ) (vf:=vf) h1.up hpl.up hw
    have h5:RDs C Z ((xs.set i x).flatMap Zc) w':=by
     have hlen:=Zmf hw;clear ih r hf
     have key:∀ {a:List PV} {off:Nat} {b a2:List PV} {a' b' a2':List Value},RDs C Z a a'->RDs C Z b b'->Yp a off b=some a2->Wg a' off b'=some a2'->RDs C Z a2 a2':=by
      intro a
      induction a with
      |nil=>
       intro off b a2 a' b' a2' ha hb hw hw';cases b with
       |nil=>simp only[Yp,Option.some.injEq]at hw;subst hw;cases hb;cases ha;simp only[Wg,Option.some.injEq]at hw';subst hw';exact .nil
       |cons _ _=>simp[Yp]at hw
      |cons c a iha=>
       intro off b a2 a' b' a2' ha hb hw hw';cases b with
       |nil=>
        have e1:Yp (c::a) off []=some (c::a):=by cases off<;>rfl
        rw[e1]at hw;cases hw;cases hb;have e2:Wg a' off []=some a':=by cases a'<;>cases off<;>rfl
        rw[e2]at hw';cases hw';exact ha
       |cons d b=>
        cases ha with
        |cons g r=>
         cases hb with
         |cons g2 r2=>
          cases off with
          |zero=>
           simp only[Yp,Option.map_eq_some_iff]at hw;simp only[Wg,Option.map_eq_some_iff]at hw';obtain⟨q,hq,rfl⟩:=hw;obtain⟨q',hq',rfl⟩:=hw';exact .cons g2 (iha r r2 hq hq')
          |succ k=>
           simp only[Yp,Option.map_eq_some_iff]at hw;simp only[Wg,Option.map_eq_some_iff]at hw';obtain⟨q,hq,rfl⟩:=hw;obtain⟨q',hq',rfl⟩:=hw';exact .cons g (iha r (.cons g2 r2) hq hq')
     exact key h1 hpl hw h3
    have hlen:v.cells.toList.length=sz:=by rw[h.cells.length];exact c1
    have Un:=U6 hl;have hle:i*sz+sz<=xs.length*sz:=by rw[<- Nat.succ_mul];exact Nat.mul_le_mul_right _ c2
    rw[if_pos ⟨hlen,by rw[hlen,h1.length,Un];exact hle,h.cells.cell c3⟩,h3];obtain⟨q,a1,a2,a3,a4⟩:=ih h5 (Z07 hl c1) hf;exact⟨q,a1,a2,a3,by rw[a4];simp⟩
   .cases hf
inductive MkOk (C:Ctx)(ρ:Nat->Nat)(vf:Nat->Option Nat)(Z:Vg):Mk->Shape->VO->Prop
 |lit (g:Nat) (xs:List PV) (Wi:List Value) (ty:Ty) (ht:C.T g=some ty) (hr:RDs C Z (xs.flatMap Zc) Wi) (hl:∀x∈xs,(Zc x).length=ty.size):MkOk C ρ vf Z (.lit (.lst g xs)) (.slice xs.length) (.row Wi ty.size true)
 |ptr (cs:List PV) (Wi:List Value) (e:Nat) (hr:Rs C ρ vf Z cs Wi):MkOk C ρ vf Z (.ptr (.cells cs)) .ptr (.row Wi e true)
 |slice (g n:Nat) (xs:List PV) (Wi:List Value) (ty:Ty) (ht:C.T g=some ty) (hr:RDs C Z (xs.flatMap Zc) Wi) (hl:∀x∈xs,(Zc x).length=ty.size):MkOk C ρ vf Z (.slice g n (.row g true xs)) (.slice n) (.row Wi ty.size true)
 |map:MkOk C ρ vf Z .map .map (.map [])
theorem Zsf {v:Value}{x:PV}(h:Zy 0 v=some x):Wx x=true:=by
 cases v with
 |pointer a=>cases a<;>simp[Zy]at h;subst h;rfl
 |slice a b c=>cases a<;>cases b<;>cases c<;>simp[Zy]at h;subst h;rfl
 |map a=>cases a<;>simp[Zy]at h;subst h;rfl
 | _=>first | (simp[Zy]at h;done) | (simp[Zy]at h;subst h;rfl)
theorem Zgk {te:Ty}{z:PV}(h:Zah te=some z):RDs C Z (Zc z) te.zero:=by
 unfold Zah at h;rw[Option.bind_eq_some_iff]at h;obtain⟨l,hl,hz⟩:=h;have h1:RDs C Z l te.zero:=Qe hl;cases hb:te.k.agg with
 |true=>
  rw[hb]at hz;simp only[toP,if_true,Option.some.injEq]at hz;subst hz;exact h1
 |false=>
  rw[hb]at hz;simp only[toP,Bool.false_eq_true,if_false]at hz;split at hz
  .rename_i u;cases hz;cases hq:te.zero with
   |nil=>rw[hq]at h1;cases h1
   |cons a r=>
    rw[hq]at h1 hl;cases h1 with
    |cons g1 g2=>
     cases g2;simp only[Zbh,Zy.go]at hl;cases hp:Zy 0 a with
     |none=>rw[hp]at hl;cases hl
     |some p=>
      rw[hp]at hl;simp only[Option.some.injEq,List.cons.injEq,and_true]at hl;subst hl;have hc:=Zsf hp;have:Zc p=[p]:=by cases p<;>simp_all[Wx,Zc]
      rw[this];exact .cons g1 .nil
  .cases hz
theorem Zqt (S:SR C ρ vf Z Xe Yw){m:Mk}(h:V5 C all Xe o=some m):∃sh vo,MkOk C ρ vf Z m sh vo/\Qi C Yw o=some (sh,vo)/\∀(cf yf:Nat->List Value->VH->Option (Value×VH)) (vh:VH),Xp C cf yf Yw vh o=some (sh.val vh.next,vh.new vo):=by
 cases ho:o.op with
 |alloc t=>
  simp only[V5,ho]at h;split at h
  .rename_i ty ht;rw[Option.map_eq_some_iff]at h;obtain⟨z,hz,rfl⟩:=h;exact⟨.ptr,_,.ptr z ty.zero ty.size (Qe hz).up,by simp only[Qi,ho,ht],fun cf yf vh=>by simp only[Xp,ho,ht];rfl⟩
  .cases h
 |box t y=>
  simp only[V5,ho]at h;split at h
  .rename_i v hv;obtain⟨w,h1,h2⟩:=Zj S hv;split at h
   .rename_i hc;cases h;have hc':=h2.cells.cell hc;exact⟨.ptr,_,.ptr _ w.cells.toList w.cells.toList.length h2.cells,by simp only[Qi,ho,h1];rw[if_pos hc'],fun cf yf vh=>by simp only[Xp,ho,h1];rw[if_pos hc'];rfl⟩
   .cases h
  .cases h
 |buildSlice t len ps=>
  simp only[V5,ho]at h;split at h
  .rename_i ty vs ht hvs;obtain⟨Qs,hp1,hp2⟩:=Zgv S hvs;split at h
   .rename_i e hk;split at h
    .rename_i te V8;split at h
     .rename_i hlen;split at h
      .rename_i z hz;split at h
       .rename_i hzc;split at h
        .rename_i xs hxs;have Z33:RDs C Z (Zc z) te.zero:=Zgk hz;obtain⟨cs,f1,f2,f3,f4⟩:=Z45 hp2 (Zm3 Z33 len) (fun x hx=>by rw[(List.mem_replicate.1 hx).2];exact hzc.1) hxs;have hzl:te.zero.all cellB=true:=(Z33.up (ρ:=ρ) (vf:=vf)).cell hzc.2.1
         have hm:Qi C Yw o=some (.slice len,.row cs te.size true):=by
          simp only[Qi,ho,ht,hp1,hk,V8];rw[if_pos hlen.1,f1];rfl
         have Xy:∀(cf yf:Nat->List Value->VH->Option (Value×VH)) (vh:VH),Xp C cf yf Yw vh o=some ((Shape.slice len).val vh.next,vh.new (.row cs te.size true)):=fun cf yf vh=>by
          simp only[Xp,ho,ht,hp1,hk,V8];rw[if_pos ⟨hlen.1,hlen.2,hzl⟩,f1];rfl
         have Rc:xs.length=len:=by rw[f4];simp
         split at h
         .split at h
          .cases h;have:=MkOk.lit (ρ:=ρ) (vf:=vf) e xs cs te V8 f2 f3;rw[Rc]at this;exact⟨_,_,this,hm,Xy⟩
          .cases h;exact⟨_,_,.slice e len xs cs te V8 f2 f3,hm,Xy⟩
         .cases h
        .cases h
       .cases h
      .cases h
     .cases h
    .cases h
   .cases h
  .cases h
 |makeSlice t l c=>
  simp only[V5,ho]at h;split at h
  .rename_i ty k1 n k2 m ht hl hc;obtain⟨l',h1,h2⟩:=Zj S hl;obtain⟨c',h3,h4⟩:=Zj S hc;rw[h2.int_inv]at h1;rw[h4.int_inv]at h3;split at h
   .rename_i e hk;split at h
    .rename_i te V8;split at h
     .rename_i hb;split at h
      .rename_i z hz;split at h
       .rename_i hzc;cases h;have Z33:RDs C Z (Zc z) te.zero:=Zgk hz;refine⟨_,_,.slice e n.toNat _ _ te V8 (Zm3 Z33 n.toNat) (fun x hx=>by rw[(List.mem_replicate.1 hx).2];exact hzc.1),?_,fun cf yf vh=>?_⟩
        .simp only [Qi,ho,ht,h1,h3,hk,V8];rw[if_pos hb]
        .simp only [Xp,ho,ht,h1,h3,hk,V8];rw[if_pos ⟨hb.1,hb.2.1,hb.2.2.1⟩,if_pos hb.2.2.2];rfl
       .cases h
      .cases h
     .cases h
    .cases h
   .cases h
  .cases h
 |makeMap t r=>
  cases r with
  |none=>
   simp only[V5,ho]at h;cases h;exact⟨_,_,.map,by simp only[Qi,ho],fun cf yf vh=>by simp only[Xp,ho];rfl⟩
  |some r=>simp[V5,ho]at h
 | _=>simp[V5,ho]at h
end
end Go.Pure
end
