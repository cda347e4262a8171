/- How a plain run's state stands to a virtual one's. -/
import Derived.Test.YtabcdhcpilpojaaGreatDoorPA
import Derived.MapKept
set_option linter.unusedSimpArgs false
set_option linter.unusedVariables false
section
namespace Go.Pure
open Go Go.Virt
structure SE where
 cells:List Value
 e:Nat
 own:Bool
 tag:Option Nat
abbrev Vj:=Nat->Option SE
mutual
inductive RD (C:Ctx)(Z:Vj):PV->Value->Prop
 |bool (b:Bool):RD C Z (.bool b) (.bool b)
 |int (k:IntKind) (n:Int):RD C Z (.int k n) (.int k n)
 |str (b:ByteArray):RD C Z (.str (b.data.toList.map UInt8.toNat)) (.string b)
 |nilp:RD C Z .nilp (.pointer none)
 |nils:RD C Z .nils (.slice none 0 0)
 |nilm:RD C Z .nilm (.map none)
 |nilf:RD C Z .nilf .nilFunc
 |nili:RD C Z .nili .nilIface
 |lst (g:Nat) (xs:List PV) (Yb o cap:Nat) (s:SE) (Wj:List Value) (ty:Ty) (hs:Z Yb=some s) (he:s.e=ty.size) (ht:s.tag=none\/s.tag=some g) (hty:C.T g=some ty)
   (hr:readN s.cells o (xs.length*ty.size)=some Wj) (hx:RDs C Z (xs.flatMap Zd) Wj) (hl:∀x∈xs,(Zd x).length=ty.size):RD C Z (.lst g xs) (.slice (some ⟨Yb,o,none⟩) xs.length cap)
 |iface (t:Nat) (x:PV) (v:Value) (h:RD C Z x v):RD C Z (.iface t x) (.iface t v)
 |agg (cs:List PV) (cs':Array Value) (h:RDs C Z cs cs'.toList):RD C Z (.agg cs) (.agg cs')
inductive RDs (C:Ctx)(Z:Vj):List PV->List Value->Prop
 |nil:RDs C Z [] []
 |cons {x:PV} {v:Value} {l:List PV} {l':List Value} (h:RD C Z x v) (r:RDs C Z l l'):RDs C Z (x::l) (v::l')
end
mutual
inductive R (C:Ctx)(ρ:Nat->Nat)(vf:Nat->Option Nat)(Z:Vj):PV->Value->Prop
 |d {x:PV} {v:Value} (h:RD C Z x v):R C ρ vf Z x v
 |own (i Zc g off len c:Nat) (a:Addr) (cap:Nat) (ty:Ty) (hi:vf i=some c) (hv:Zc<=c) (hp:a.spot=none) (ht:C.T g=some ty) (ha:Zc=c->a=⟨ρ i,off*ty.size,none⟩):R C ρ vf Z (.own i Zc g off len) (.slice (some a) len cap)
 |ptr (i Zc off c:Nat) (a:Addr) (hi:vf i=some c) (hv:Zc<=c) (hp:a.spot=none) (ha:Zc=c->a=⟨ρ i,off,none⟩):R C ρ vf Z (.ptr i Zc off) (.pointer (some a))
 |eptr (i Zc g ix off c:Nat) (a:Addr) (ty:Ty) (hi:vf i=some c) (hv:Zc<=c) (hp:a.spot=none) (ht:C.T g=some ty) (ha:Zc=c->a=⟨ρ i,ix*ty.size+off,none⟩):R C ρ vf Z (.eptr i Zc g ix off) (.pointer (some a))
 |rptr (cs:List PV) (Yb o:Nat) (s:SE) (Wj:List Value) (hs:Z Yb=some s) (hr:readN s.cells o cs.length=some Wj) (hx:RDs C Z cs Wj):R C ρ vf Z (.rptr cs) (.pointer (some ⟨Yb,o,none⟩))
 |map (i Zc c w:Nat) (hi:vf i=some c) (hv:Zc<=c) (ha:Zc=c->w=ρ i):R C ρ vf Z (.map i Zc) (.map (some w))
 |fn (f:Nat) (a c:List PV) (a' c':Array Value) (h1:Rs C ρ vf Z a a'.toList) (h2:Rs C ρ vf Z c c'.toList):R C ρ vf Z (.fn f a c) (.func (.func f) a' c')
 |yield (i Zc c w:Nat) (hi:vf i=some c) (hv:Zc<=c) (ha:Zc=c->w=ρ i):R C ρ vf Z (.yield i Zc) (.func (.yield w) #[] #[])
 |iface (t:Nat) (x:PV) (v:Value) (h:R C ρ vf Z x v):R C ρ vf Z (.iface t x) (.iface t v)
 |agg (cs:List PV) (cs':Array Value) (h:Rs C ρ vf Z cs cs'.toList):R C ρ vf Z (.agg cs) (.agg cs')
 |tuple (cs:List PV) (cs':Array Value) (h:Rs C ρ vf Z cs cs'.toList):R C ρ vf Z (.tuple cs) (.tuple cs')
inductive Rs (C:Ctx)(ρ:Nat->Nat)(vf:Nat->Option Nat)(Z:Vj):List PV->List Value->Prop
 |nil:Rs C ρ vf Z [] []
 |cons {x:PV} {v:Value} {l:List PV} {l':List Value} (h:R C ρ vf Z x v) (r:Rs C ρ vf Z l l'):Rs C ρ vf Z (x::l) (v::l')
end
def Vj.le (Z Z':Vj):Prop:=∀Yb s,Z Yb=some s->Z' Yb=some s
theorem Vj.le.refl (Z:Vj):Z.le Z:=fun Yb s h=>h
theorem Vj.le.trans {A B D:Vj}(h:A.le B)(k:B.le D):A.le D:=fun Yb s ha=>k _ _ (h _ _ ha)
def Rp (ρ:Nat->Nat)(vf:Nat->Option Nat)(ρ':Nat->Nat)(vf':Nat->Option Nat):Prop:=
 ∀i c,vf i=some c->∃c',vf' i=some c'/\c<=c'/\(c'=c->ρ' i=ρ i)
theorem Rp.refl (ρ:Nat->Nat)(vf:Nat->Option Nat):Rp ρ vf ρ vf:=fun i c h=>⟨c,h,Nat.le_refl _,fun _=>rfl⟩
theorem Rp.trans {ρ ρ' ρ'':Nat->Nat}{vf vf' vf'':Nat->Option Nat}(h:Rp ρ vf ρ' vf')(k:Rp ρ' vf' ρ'' vf''):Rp ρ vf ρ'' vf'':=fun i c hc=>by
 obtain⟨c1,h1,l1,e1⟩:=h i c hc;obtain⟨c2,h2,l2,e2⟩:=k i c1 h1;refine⟨c2,h2,Nat.le_trans l1 l2,fun e=>?_⟩;have:c1=c:=by omega
 subst this;rw[e2 e,e1 rfl]
section
variable {C:Ctx}{Z Z':Vj}{ρ ρ':Nat->Nat}{vf vf':Nat->Option Nat}
mutual
theorem RD.mono (hz:Z.le Z'):∀ {x:PV} {v:Value},RD C Z x v->RD C Z' x v
 | _,_,.bool b=>.bool b
 | _,_,.int k n=>.int k n
 | _,_,.str b=>.str b
 | _,_,.nilp=>.nilp
 | _,_,.nils=>.nils
 | _,_,.nilm=>.nilm
 | _,_,.nilf=>.nilf
 | _,_,.nili=>.nili
 | _,_,.lst g xs Yb o cap s Wj ty hs he ht hty hr hx hl=>by
   exact .lst g xs Yb o cap s Wj ty (hz _ _ hs) he ht hty hr (RDs.mono hz hx) hl
 | _,_,.iface t x v h=>.iface t x v (RD.mono hz h)
 | _,_,.agg cs cs' h=>.agg cs cs' (RDs.mono hz h)
theorem RDs.mono (hz:Z.le Z'):∀ {l:List PV} {l':List Value},RDs C Z l l'->RDs C Z' l l'
 | _,_,.nil=>.nil
 | _,_,.cons h r=>.cons (RD.mono hz h) (RDs.mono hz r)
end
mutual
theorem R.mono (he:Rp ρ vf ρ' vf')(hz:Z.le Z'):∀ {x:PV} {v:Value},R C ρ vf Z x v->R C ρ' vf' Z' x v
 | _,_,.d h=>.d (h.mono hz)
 | _,_,.own i Zc g off len c a cap ty hi hv hp ht ha=>by
   obtain⟨c',h1,l1,e1⟩:=he i c hi;exact .own i Zc g off len c' a cap ty h1 (by omega) hp ht (fun e=>by rw[e1 (by omega)];exact ha (by omega))
 | _,_,.ptr i Zc off c a hi hv hp ha=>by
   obtain⟨c',h1,l1,e1⟩:=he i c hi;exact .ptr i Zc off c' a h1 (by omega) hp (fun e=>by rw[e1 (by omega)];exact ha (by omega))
 | _,_,.eptr i Zc g ix off c a ty hi hv hp ht ha=>by
   obtain⟨c',h1,l1,e1⟩:=he i c hi;exact .eptr i Zc g ix off c' a ty h1 (by omega) hp ht (fun e=>by rw[e1 (by omega)];exact ha (by omega))
 | _,_,.rptr cs Yb o s Wj hs hr hx=>.rptr cs Yb o s Wj (hz _ _ hs) hr (hx.mono hz)
 | _,_,.map i Zc c w hi hv ha=>by
   obtain⟨c',h1,l1,e1⟩:=he i c hi;exact .map i Zc c' w h1 (by omega) (fun e=>by rw[e1 (by omega)];exact ha (by omega))
 | _,_,.fn f a c a' c' h1 h2=>.fn f a c a' c' (Rs.mono he hz h1) (Rs.mono he hz h2)
 | _,_,.yield i Zc c w hi hv ha=>by
   obtain⟨c',h1,l1,e1⟩:=he i c hi;exact .yield i Zc c' w h1 (by omega) (fun e=>by rw[e1 (by omega)];exact ha (by omega))
 | _,_,.iface t x v h=>.iface t x v (R.mono he hz h)
 | _,_,.agg cs cs' h=>.agg cs cs' (Rs.mono he hz h)
 | _,_,.tuple cs cs' h=>.tuple cs cs' (Rs.mono he hz h)
theorem Rs.mono (he:Rp ρ vf ρ' vf')(hz:Z.le Z'):∀ {l:List PV} {l':List Value},Rs C ρ vf Z l l'->Rs C ρ' vf' Z' l l'
 | _,_,.nil=>.nil
 | _,_,.cons h r=>.cons (R.mono he hz h) (Rs.mono he hz r)
end
theorem RDs.length {l:List PV}{l':List Value}(h:RDs C Z l l'):l'.length=l.length:=by
 induction l generalizing l' with
 |nil=>cases h;rfl
 |cons v l ih=>cases h with | cons h r=>simp[ih r]
theorem Rs.length {l:List PV}{l':List Value}(h:Rs C ρ vf Z l l'):l'.length=l.length:=by
 induction l generalizing l' with
 |nil=>cases h;rfl
 |cons v l ih=>cases h with | cons h r=>simp[ih r]
theorem RDs.up {l:List PV}{l':List Value}(h:RDs C Z l l'):Rs C ρ vf Z l l':=by
 induction l generalizing l' with
 |nil=>cases h;exact .nil
 |cons v l ih=>cases h with | cons h r=>exact .cons (.d h) (ih r)
theorem RDs.append {a b:List PV}{a' b':List Value}(h:RDs C Z a a')(k:RDs C Z b b'):RDs C Z (a++b) (a'++b'):=by
 induction a generalizing a' with
 |nil=>cases h;exact k
 |cons v a ih=>cases h with | cons h r=>exact .cons h (ih r)
theorem Rs.append {a b:List PV}{a' b':List Value}(h:Rs C ρ vf Z a a')(k:Rs C ρ vf Z b b'):Rs C ρ vf Z (a++b) (a'++b'):=by
 induction a generalizing a' with
 |nil=>cases h;exact k
 |cons v a ih=>cases h with | cons h r=>exact .cons h (ih r)
theorem RDs.drop {l:List PV}{l':List Value}(h:RDs C Z l l'):∀n,RDs C Z (l.drop n) (l'.drop n):=by
 intro n
 induction n generalizing l l' with
 |zero=>simpa using h
 |succ n ih=>cases h with | nil=>exact .nil | cons h r=>simpa using ih r
theorem RDs.take {l:List PV}{l':List Value}(h:RDs C Z l l'):∀n,RDs C Z (l.take n) (l'.take n):=by
 intro n
 induction n generalizing l l' with
 |zero=>simpa using .nil
 |succ n ih=>cases h with | nil=>simpa using .nil | cons h r=>simpa using .cons h (ih r)
theorem Rs.drop {l:List PV}{l':List Value}(h:Rs C ρ vf Z l l'):∀n,Rs C ρ vf Z (l.drop n) (l'.drop n):=by
 intro n
 induction n generalizing l l' with
 |zero=>simpa using h
 |succ n ih=>cases h with | nil=>exact .nil | cons h r=>simpa using ih r
theorem Rs.take {l:List PV}{l':List Value}(h:Rs C ρ vf Z l l'):∀n,Rs C ρ vf Z (l.take n) (l'.take n):=by
 intro n
 induction n generalizing l l' with
 |zero=>simpa using .nil
 |succ n ih=>cases h with | nil=>simpa using .nil | cons h r=>simpa using .cons h (ih r)
theorem Rs.get {l:List PV}{l':List Value}(h:Rs C ρ vf Z l l'){j:Nat}{x:PV}(hj:l[j]?=some x):∃v,l'[j]?=some v/\R C ρ vf Z x v:=by
 induction l generalizing l' j with
 |nil=>simp at hj
 |cons u l ih=>
  cases h with
  |cons h r=>
   cases j with
   |zero=>simp at hj;subst hj;exact⟨_,by simp,h⟩
   |succ j=>simp at hj;obtain⟨v',h1,h2⟩:=ih r hj;exact⟨v',by simpa using h1,h2⟩
theorem Tk {cs:List Value}{off n:Nat}{r:List Value}:readN cs off n=some r↔r=(cs.drop off).take n/\(off+n<=cs.length\/n=0):=by
 unfold readN;simp only[List.length_take,List.length_drop];constructor
 .intro h;split at h
  .rename_i hl;cases h;exact⟨rfl,by omega⟩
  .cases h
 .rintro ⟨rfl,h⟩;rw[if_pos (by omega)]
theorem Rs.read {l:List PV}{l':List Value}(h:Rs C ρ vf Z l l'){off n:Nat}{r:List PV}(hr:X6 l off n=some r):∃r',readN l' off n=some r'/\Rs C ρ vf Z r r':=by
 unfold X6 at hr;split at hr
 .rename_i hl;cases hr;exact⟨(l'.drop off).take n,Tk.2 ⟨rfl,.inl (by rw[h.length];exact hl)⟩,(h.drop off).take n⟩
 .cases hr
theorem RDs.read {l:List PV}{l':List Value}(h:RDs C Z l l'){off n:Nat}{r:List PV}(hr:X6 l off n=some r):∃r',readN l' off n=some r'/\RDs C Z r r':=by
 unfold X6 at hr;split at hr
 .rename_i hl;cases hr;exact⟨(l'.drop off).take n,Tk.2 ⟨rfl,.inl (by rw[h.length];exact hl)⟩,(h.drop off).take n⟩
 .cases hr
theorem Qj {cs:List Value}{o m off n:Nat}{r r':List Value}(h:readN cs o m=some r)(h':readN r off n=some r')(hl:off+n<=m):readN cs (o+off) n=some r':=by
 obtain⟨rfl,h1⟩:=Tk.1 h;obtain⟨rfl,h2⟩:=Tk.1 h';refine Tk.2 ⟨?_,by omega⟩;rw[List.drop_take,List.drop_drop,List.take_take];congr 1;omega
theorem RD.cells {x:PV}{v:Value}(h:RD C Z x v):RDs C Z (Zd x) v.cells.toList:=by
 have h0:=h;cases h with
 |agg cs cs' h=>exact h
 | _=>exact .cons h0 .nil
theorem R.cells {x:PV}{v:Value}(h:R C ρ vf Z x v):Rs C ρ vf Z (Zd x) v.cells.toList:=by
 have h0:=h;cases h with
 |agg cs cs' h=>exact h
 |d h=>exact h.cells.up
 | _=>exact .cons h0 .nil
theorem R.cell {x:PV}{v:Value}(h:R C ρ vf Z x v)(hc:Wy x=true):cellB v=true:=by
 cases h with
 |d h=>cases h<;>simp_all[Wy,cellB]
 | _=>simp_all[Wy,cellB]
theorem Rs.cell {l:List PV}{l':List Value}(h:Rs C ρ vf Z l l')(hc:l.all Wy=true):l'.all cellB=true:=by
 induction l generalizing l' with
 |nil=>cases h;rfl
 |cons v l ih=>
  simp only[List.all_cons,Bool.and_eq_true]at hc;cases h with | cons h r=>simp[h.cell hc.1,ih r hc.2]
theorem Zhq {l:List PV}{l':List Value}{b:Bool}{x:PV}(h:Rs C ρ vf Z l l')(hx:toP b l=some x):∃v,toV b l'=some v/\R C ρ vf Z x v:=by
 cases b with
 |true=>
  simp only[toP,if_true,Option.some.injEq]at hx;subst hx;exact⟨.agg l'.toArray,by simp[toV],.agg _ _ (by simpa using h)⟩
 |false=>
  cases h with
  |nil=>simp[toP]at hx
  |cons h r=>
   cases r with
   |nil=>
    simp[toP]at hx;subst hx;exact⟨_,by simp[toV],h⟩
   |cons _ _=>simp[toP]at hx
theorem Zhp {l:List PV}{l':List Value}{b:Bool}{x:PV}(h:RDs C Z l l')(hx:toP b l=some x):∃v,toV b l'=some v/\RD C Z x v:=by
 cases b with
 |true=>
  simp only[toP,if_true,Option.some.injEq]at hx;subst hx;exact⟨.agg l'.toArray,by simp[toV],.agg _ _ (by simpa using h)⟩
 |false=>
  cases h with
  |nil=>simp[toP]at hx
  |cons h r=>
   cases r with
   |nil=>
    simp[toP]at hx;subst hx;exact⟨_,by simp[toV],h⟩
   |cons _ _=>simp[toP]at hx
mutual
theorem Ql:∀(n:Nat) (v:Value) {x:PV},Yc n v=some x->RD C Z x v
 |n,.bool b,x,h=>by cases n<;>simp only[Yc,Option.some.injEq]at h<;>subst h<;>exact .bool b
 |n,.int k i,x,h=>by cases n<;>simp only[Yc,Option.some.injEq]at h<;>subst h<;>exact .int k i
 |n,.string s,x,h=>by cases n<;>simp only[Yc,Option.some.injEq]at h<;>subst h<;>exact .str s
 |n,.pointer none,x,h=>by cases n<;>simp only[Yc,Option.some.injEq]at h<;>subst h<;>exact .nilp
 |n,.pointer (some _),x,h=>by cases n<;>simp[Yc]at h
 |n,.slice none 0 0,x,h=>by cases n<;>simp only[Yc,Option.some.injEq]at h<;>subst h<;>exact .nils
 |n,.slice none (_+1) _,x,h=>by cases n<;>simp[Yc]at h
 |n,.slice none 0 (_+1),x,h=>by cases n<;>simp[Yc]at h
 |n,.slice (some _) _ _,x,h=>by cases n<;>simp[Yc]at h
 |n,.map none,x,h=>by cases n<;>simp only[Yc,Option.some.injEq]at h<;>subst h<;>exact .nilm
 |n,.map (some _),x,h=>by cases n<;>simp[Yc]at h
 |n,.nilFunc,x,h=>by cases n<;>simp only[Yc,Option.some.injEq]at h<;>subst h<;>exact .nilf
 |n,.nilIface,x,h=>by cases n<;>simp only[Yc,Option.some.injEq]at h<;>subst h<;>exact .nili
 | 0,.agg cs,x,h=>by simp[Yc]at h
 |n+1,.agg cs,x,h=>by
  simp only[Yc,Option.map_eq_some_iff]at h;obtain⟨l,hl,rfl⟩:=h;exact .agg _ _ (Zjp n cs.toList hl)
 |n,.float _ _,x,h=>by cases n<;>simp[Yc]at h
 |n,.complex _ _ _,x,h=>by cases n<;>simp[Yc]at h
 |n,.chan _,x,h=>by cases n<;>simp[Yc]at h
 |n,.func _ _ _,x,h=>by cases n<;>simp[Yc]at h
 |n,.iface _ _,x,h=>by cases n<;>simp[Yc]at h
 |n,.tuple _,x,h=>by cases n<;>simp[Yc]at h
theorem Zjp:∀(n:Nat) (l:List Value) {xs:List PV},Yc.go n l=some xs->RDs C Z xs l
 |n,[],xs,h=>by simp only[Yc.go,Option.some.injEq]at h;subst h;exact .nil
 |n,v::r,xs,h=>by
  simp only[Yc.go]at h;split at h
  .rename_i p ps hp hps;cases h;exact .cons (Ql n v hp) (Zjp n r hps)
  .cases h
end
theorem Qk {l:List Value}{xs:List PV}(h:Zbq l=some xs):RDs C Z xs l:=Zjp 0 l h
theorem Zpz {ty:Ty}{z:PV}(h:Zak ty=some z):∃v,toV ty.k.agg ty.zero=some v/\RD C Z z v:=by
 unfold Zak at h;rw[Option.bind_eq_some_iff]at h;obtain⟨l,hl,hz⟩:=h;exact Zhp (Qk hl) hz
theorem Rd {a b:Nat}(h:a≠b):Nat.beq a b=false:=by
 cases e:Nat.beq a b
 .rfl
 .exact absurd (Nat.eq_of_beq_eq_true e) h
theorem Zux (sl:SL)(d t:Nat)(v:Value):Xg (Zcd sl d v) t=if d=t then some v else Xg sl t:=by
 induction sl with
 |nil=>
  simp only[Zcd,Xg];by_cases h:d=t
  .simp [h]
  .simp [h,Rd h]
 |cons x sl ih=>
  obtain⟨k,u⟩:=x;simp only[Zcd];by_cases hk:k=d
  .subst hk;simp only[Nat.beq_refl,cond_true,Xg];by_cases h:k=t
   .simp [h]
   .simp [h,Rd h]
  .have hk':Nat.beq k d=false:=Rd hk;simp only[hk',cond_false,Xg,ih];by_cases h:k=t
   .subst h;simp[Ne.symm hk]
   .have:Nat.beq k t=false:=Rd h;simp[this]
def SR (C:Ctx)(ρ:Nat->Nat)(vf:Nat->Option Nat)(Z:Vj)(Xi:Yu)(Y4:SL):Prop:=∀t x,Xi t=some x->∃v,Xg Y4 t=some v/\R C ρ vf Z x v
theorem SR.mono (he:Rp ρ vf ρ' vf')(hz:Z.le Z'){Xi:Yu}{Y4:SL}(S:SR C ρ vf Z Xi Y4):SR C ρ' vf' Z' Xi Y4:=fun t x h=>by
 obtain⟨v,h1,h2⟩:=S t x h;exact⟨v,h1,h2.mono he hz⟩
theorem SR.put {Xi:Yu}{Y4:SL}(S:SR C ρ vf Z Xi Y4)(d:Nat){x:PV}{v:Value}(h:R C ρ vf Z x v):SR C ρ vf Z (Xi.put d x) (Zcd Y4 d v):=fun t y hy=>by
 rw[Zux];unfold Yu.put at hy;by_cases e:d=t
 .subst e;simp at hy ⊢;subst hy;exact h
 .rw [if_neg (fun h=>e h.symm)]at hy;simp only[e,if_false];exact S t y hy
theorem SR.putP {Xi:Yu}{Y4:SL}(S:SR C ρ vf Z Xi Y4)(d:Option Nat){x:PV}{v:Value}(h:R C ρ vf Z x v):SR C ρ vf Z (putP Xi d x) (putV Y4 d v):=by
 cases d with
 |none=>exact S
 |some d=>exact S.put d h
theorem Z69 {Xi:Yu}{Y4:SL}(S:SR C ρ vf Z Xi Y4){o:Operand}{x:PV}(h:Yx Xi o=some x)(Znv:∀v,o=.const v->flat 4 v=true):∃v,opd C Y4 o=some v/\R C ρ vf Z x v:=by
 cases o with
 |tmp t=>exact S t x h
 |const v=>
  simp only[Yx]at h;refine⟨v,?_,.d (Ql 3 v h)⟩;simp only[opd];rw[if_pos (Znv v rfl)]
 |global g=>simp[Yx]at h
 |func f=>
  simp only[Yx,Option.some.injEq]at h;subst h;exact⟨_,rfl,.fn f [] [] #[] #[] .nil .nil⟩
mutual
theorem Zei:∀(n:Nat) (v:Value) {x:PV},Yc n v=some x->flat n v=true
 |n,.bool b,x,h=>by cases n<;>rfl
 |n,.int k i,x,h=>by cases n<;>rfl
 |n,.string s,x,h=>by cases n<;>rfl
 |n,.pointer none,x,h=>by cases n<;>rfl
 |n,.pointer (some _),x,h=>by cases n<;>simp[Yc]at h
 |n,.slice none 0 0,x,h=>by cases n<;>rfl
 |n,.slice none (_+1) _,x,h=>by cases n<;>simp[Yc]at h
 |n,.slice none 0 (_+1),x,h=>by cases n<;>simp[Yc]at h
 |n,.slice (some _) _ _,x,h=>by cases n<;>simp[Yc]at h
 |n,.map none,x,h=>by cases n<;>rfl
 |n,.map (some _),x,h=>by cases n<;>simp[Yc]at h
 |n,.nilFunc,x,h=>by cases n<;>rfl
 |n,.nilIface,x,h=>by cases n<;>rfl
 | 0,.agg cs,x,h=>by simp[Yc]at h
 |n+1,.agg cs,x,h=>by
  simp only[Yc,Option.map_eq_some_iff]at h;obtain⟨l,hl,rfl⟩:=h;simp only[flat];exact Zga n cs.toList hl
 |n,.float _ _,x,h=>by cases n<;>simp[Yc]at h
 |n,.complex _ _ _,x,h=>by cases n<;>simp[Yc]at h
 |n,.chan _,x,h=>by cases n<;>simp[Yc]at h
 |n,.func _ _ _,x,h=>by cases n<;>simp[Yc]at h
 |n,.iface _ _,x,h=>by cases n<;>simp[Yc]at h
 |n,.tuple _,x,h=>by cases n<;>simp[Yc]at h
theorem Zga:∀(n:Nat) (l:List Value) {xs:List PV},Yc.go n l=some xs->l.all (flat n)=true
 |n,[],xs,h=>rfl
 |n,v::r,xs,h=>by
  simp only[Yc.go]at h;split at h
  .rename_i p ps hp hps;simp only[List.all_cons,Bool.and_eq_true];exact⟨Zei n v hp,Zga n r hps⟩
  .cases h
end
theorem Z4w:∀(n:Nat) (v:Value),flat n v=true->flat (n+1) v=true:=by
 intro n
 induction n with
 |zero=>
  intro v h;cases v with
  |pointer a=>cases a<;>simp_all[flat]
  |slice a b c=>cases a<;>cases b<;>cases c<;>simp_all[flat]
  |map a=>cases a<;>simp_all[flat]
  |chan a=>cases a<;>simp_all[flat]
  | _=>simp_all[flat]
 |succ n ih=>
  intro v h;cases v with
  |pointer a=>cases a<;>simp_all[flat]
  |slice a b c=>cases a<;>cases b<;>cases c<;>simp_all[flat]
  |map a=>cases a<;>simp_all[flat]
  |chan a=>cases a<;>simp_all[flat]
  |agg cs=>simp only[flat,List.all_eq_true]at h ⊢;exact fun x hx=>ih x (h x hx)
  |tuple cs=>simp only[flat,List.all_eq_true]at h ⊢;exact fun x hx=>ih x (h x hx)
  |iface t v=>simp only[flat]at h ⊢;exact ih v h
  | _=>simp_all[flat]
theorem Zj {Xi:Yu}{Y4:SL}(S:SR C ρ vf Z Xi Y4){o:Operand}{x:PV}(h:Yx Xi o=some x):∃v,opd C Y4 o=some v/\R C ρ vf Z x v:=
 Z69 S h fun v e=>by subst e;exact Z4w _ _ (Zei 3 v h)
theorem Sq {Xi:Yu}{Y4:SL}(S:SR C ρ vf Z Xi Y4):∀ {l:List Operand} {xs:List PV},Vd Xi l=some xs->∃vs,opds C Y4 l=some vs/\Rs C ρ vf Z xs vs
 | [],xs,h=>by simp only[Vd,Option.some.injEq]at h;subst h;exact⟨[],rfl,.nil⟩
 |o::l,xs,h=>by
  simp only[Vd]at h;split at h
  .rename_i p ps hp hps;cases h;obtain⟨v,h1,h2⟩:=Zj S hp;obtain⟨vs,h3,h4⟩:=Sq S hps;exact⟨v::vs,by simp only[opds,h1,h3],.cons h2 h4⟩
  .cases h
end
def Zrl (Z:Vj)(vh:VH):Prop:=∀Yb s,Z Yb=some s->vh.get Yb=some (.row s.cells s.e s.own)
theorem Ta {xs:List PV}{sz:Nat}(hl:∀x∈xs,(Zd x).length=sz):(xs.flatMap Zd).length=xs.length*sz:=by
 induction xs with
 |nil=>simp
 |cons x xs ih=>
  simp only[List.flatMap_cons,List.length_append,List.length_cons];rw[ih fun y hy=>hl y (by simp[hy]),hl x (by simp),Nat.succ_mul];omega
theorem Zcu {xs:List PV}{sz:Nat}(hl:∀x∈xs,(Zd x).length=sz)(i:Nat):(xs.flatMap Zd).drop (i*sz)=(xs.drop i).flatMap Zd:=by
 induction xs generalizing i with
 |nil=>simp
 |cons x xs ih=>
  cases i with
  |zero=>simp
  |succ i=>
   have hx:=hl x (by simp);simp only[List.flatMap_cons,List.drop_succ_cons];rw[List.drop_append,<- ih (fun y hy=>hl y (by simp[hy])) i,hx];have:(i+1)*sz - sz=i*sz:=by rw[Nat.succ_mul];omega
   rw[this,List.drop_eq_nil_of_le (by rw[hx,Nat.succ_mul];omega)];simp
theorem flat_take {xs:List PV}{sz:Nat}(hl:∀x∈xs,(Zd x).length=sz)(i:Nat):(xs.flatMap Zd).take (i*sz)=(xs.take i).flatMap Zd:=by
 induction xs generalizing i with
 |nil=>simp
 |cons x xs ih=>
  cases i with
  |zero=>simp
  |succ i=>
   have hx:=hl x (by simp);simp only[List.flatMap_cons,List.take_succ_cons];rw[List.take_append,<- ih (fun y hy=>hl y (by simp[hy])) i,hx];have:(i+1)*sz - sz=i*sz:=by rw[Nat.succ_mul];omega
   rw[this,List.take_of_length_le (by rw[hx,Nat.succ_mul];omega)]
theorem Zob {xs:List PV}{sz:Nat}(hl:∀x∈xs,(Zd x).length=sz){i:Nat}{x:PV}(hx:xs[i]?=some x):((xs.flatMap Zd).drop (i*sz)).take sz=Zd x:=by
 rw[Zcu hl];obtain⟨hi,e⟩:=List.getElem?_eq_some_iff.1 hx;rw[List.drop_eq_getElem_cons hi,e,List.flatMap_cons];have:=hl x (by rw[<- e];exact List.getElem_mem hi);rw[List.take_append,this,Nat.sub_self,List.take_of_length_le (by omega)];simp
section
variable {C:Ctx}{Z Z':Vj}{ρ ρ':Nat->Nat}{vf vf':Nat->Option Nat}{v:Value}
theorem R.bool_inv {b:Bool}(h:R C ρ vf Z (.bool b) v):v=.bool b:=by cases h with | d h=>cases h;rfl
theorem R.int_inv {k:IntKind}{n:Int}(h:R C ρ vf Z (.int k n) v):v=.int k n:=by cases h with | d h=>cases h;rfl
theorem R.str_inv {s:List Nat}(h:R C ρ vf Z (.str s) v):∃b:ByteArray,v=.string b/\s=b.data.toList.map UInt8.toNat:=by cases h with | d h=>cases h;exact⟨_,rfl,rfl⟩
theorem R.nils_inv (h:R C ρ vf Z .nils v):v=.slice none 0 0:=by cases h with | d h=>cases h;rfl
theorem R.nilm_inv (h:R C ρ vf Z .nilm v):v=.map none:=by cases h with | d h=>cases h;rfl
theorem R.lst_inv {g:Nat}{xs:List PV}(h:R C ρ vf Z (.lst g xs) v):RD C Z (.lst g xs) v:=by cases h with | d h=>exact h
theorem R.agg_inv {cs:List PV}(h:R C ρ vf Z (.agg cs) v):∃cs',v=.agg cs'/\Rs C ρ vf Z cs cs'.toList:=by
 cases h with
 |d h=>cases h with | agg cs cs' h=>exact⟨_,rfl,h.up⟩
 |agg cs cs' h=>exact⟨_,rfl,h⟩
theorem R.tuple_inv {cs:List PV}(h:R C ρ vf Z (.tuple cs) v):∃cs',v=.tuple cs'/\Rs C ρ vf Z cs cs'.toList:=by
 cases h with
 |d h=>cases h
 |tuple cs cs' h=>exact⟨_,rfl,h⟩
theorem Sh (b:ByteArray):b.size=(b.data.toList.map UInt8.toNat).length:=by rw[List.length_map,Array.length_toList];rfl
theorem toNat_inj:∀ {a b:List UInt8},a.map UInt8.toNat=b.map UInt8.toNat->a=b
 | [],[],_=>rfl
 | [],_::_,h=>by simp at h
 | _::_,[],h=>by simp at h
 |x::a,y::b,h=>by
  simp only[List.map_cons,List.cons.injEq]at h;rw[toNat_inj h.2,UInt8.toNat_inj.1 h.1]
theorem Ziz (a b:List UInt8):(a==b)=(a.map UInt8.toNat==b.map UInt8.toNat):=by
 by_cases h:a=b
 .subst h;simp
 .have:¬ a.map UInt8.toNat=b.map UInt8.toNat:=fun e=>h (toNat_inj e)
  rw[beq_eq_false_iff_ne.2 h,beq_eq_false_iff_ne.2 this]
theorem Z5l (x y:UInt8):Nat.blt x.toNat y.toNat=decide (x < y):=by
 by_cases h:x < y
 .rw [decide_eq_true h];exact Nat.blt_eq ▸ (UInt8.lt_iff_toNat_lt.1 h)
 .rw [decide_eq_false h];cases e:Nat.blt x.toNat y.toNat
  .rfl
  .rw [Nat.blt_eq]at e;exact absurd (UInt8.lt_iff_toNat_lt.2 e) h
theorem Zna:∀(a b:List UInt8),Op.bytesLess a b=ltL (a.map UInt8.toNat) (b.map UInt8.toNat)
 | [],[]=>rfl
 | [],_::_=>rfl
 | _::_,[]=>rfl
 |x::a,y::b=>by
  simp only[Op.bytesLess,List.map_cons,ltL,Z5l];rw[<- Zna a b];by_cases h1:x < y
  .simp [h1]
  .by_cases h2:y < x
   .have Yi:¬ x=y:=fun e=>by subst e;exact absurd h2 (UInt8.lt_irrefl _)
    simp[h1,h2,Yi]
   .have he:x=y:=UInt8.toNat_inj.1 (by
     have a1:¬ x.toNat < y.toNat:=fun e=>h1 (UInt8.lt_iff_toNat_lt.2 e)
     have a2:¬ y.toNat < x.toNat:=fun e=>h2 (UInt8.lt_iff_toNat_lt.2 e)
     omega)
    subst he;simp[h1]
theorem Zh3 {x:PV}{v:Value}{b:Bool}(hx:R C ρ vf Z x v)(h:Zpd x=some b):∃a n m,v=.slice a n m/\a.isNone=b:=by
 cases hx with
 |d h1=>cases h1<;>simp[Zpd]at h<;>subst h<;>exact⟨_,_,_,rfl,rfl⟩
 |own=>simp[Zpd]at h;subst h;exact⟨_,_,_,rfl,rfl⟩
 | _=>simp[Zpd]at h
theorem Zh4 {x:PV}{v:Value}{b:Bool}(hx:R C ρ vf Z x v)(h:Zr6 x=some b):∃a,v=.pointer a/\a.isNone=b:=by
 cases hx with
 |d h1=>cases h1<;>simp[Zr6]at h<;>subst h<;>exact⟨_,rfl,rfl⟩
 |ptr=>simp[Zr6]at h;subst h;exact⟨_,rfl,rfl⟩
 |eptr=>simp[Zr6]at h;subst h;exact⟨_,rfl,rfl⟩
 |rptr=>simp[Zr6]at h;subst h;exact⟨_,rfl,rfl⟩
 | _=>simp[Zr6]at h
theorem Zh5 {x:PV}{v:Value}{b:Bool}(hx:R C ρ vf Z x v)(h:Zys x=some b):∃a,v=.map a/\a.isNone=b:=by
 cases hx with
 |d h1=>cases h1<;>simp[Zys]at h<;>subst h<;>exact⟨_,rfl,rfl⟩
 |map=>simp[Zys]at h;subst h;exact⟨_,rfl,rfl⟩
 | _=>simp[Zys]at h
theorem Zke {a b:Option Bool}{r:Bool}(h:Zq8 a b=some r):(a=some true/\b=some r)\/(a=some false/\b=some true/\r=false):=by
 unfold Zq8 at h;split at h
 .cases h;exact .inl ⟨rfl,rfl⟩
 .cases h;exact .inr ⟨rfl,rfl,rfl⟩
 .cases h
theorem Zaep {t:Nat}{x y:PV}{v u:Value}{b:Bool}(hx:R C ρ vf Z x v)(hy:R C ρ vf Z y u)(he:eqP C t x y=some b):eqV C t v u=some b:=by
 unfold eqP at he;unfold eqV;cases ht:C.T t with
 |none=>rw[ht]at he;cases he
 |some ty=>
  rw[ht]at he
  try dsimp only at he ⊢
  cases hk:ty.k with
  |bool=>
   rw[hk]at he
   try dsimp only at he
   split at he
   .cases he;rw[hx.bool_inv,hy.bool_inv]
   .cases he
  |slice e=>
   rw[hk]at he
   try dsimp only at he
   rcases Zke he with⟨h1,h2⟩ | ⟨h1,h2,rfl⟩
   .obtain ⟨a,n,m,rfl,ha⟩:=Zh3 hx h1;obtain⟨a2,n2,m2,rfl,Ry⟩:=Zh3 hy h2;cases a<;>simp at ha;simp[Ry]
   .obtain ⟨a,n,m,rfl,ha⟩:=Zh3 hx h1;obtain⟨a2,n2,m2,rfl,Ry⟩:=Zh3 hy h2;cases a<;>simp at ha;cases a2<;>simp at Ry;simp
  |ptr e=>
   rw[hk]at he
   try dsimp only at he
   rcases Zke he with⟨h1,h2⟩ | ⟨h1,h2,rfl⟩
   .obtain ⟨a,rfl,ha⟩:=Zh4 hx h1;obtain⟨a2,rfl,Ry⟩:=Zh4 hy h2;cases a<;>simp at ha;simp[Ry]
   .obtain ⟨a,rfl,ha⟩:=Zh4 hx h1;obtain⟨a2,rfl,Ry⟩:=Zh4 hy h2;cases a<;>simp at ha;cases a2<;>simp at Ry;simp
  |map e f=>
   rw[hk]at he
   try dsimp only at he
   rcases Zke he with⟨h1,h2⟩ | ⟨h1,h2,rfl⟩
   .obtain ⟨a,rfl,ha⟩:=Zh5 hx h1;obtain⟨a2,rfl,Ry⟩:=Zh5 hy h2;cases a<;>simp at ha;simp[Ry]
   .obtain ⟨a,rfl,ha⟩:=Zh5 hx h1;obtain⟨a2,rfl,Ry⟩:=Zh5 hy h2;cases a<;>simp at ha;cases a2<;>simp at Ry;simp
  | _=>rw[hk]at he;cases he
theorem Z70 {op:BinOp}{t:Nat}{k k':IntKind}{a b:Int}{x:PV}(h:Rl op k k' a b=some x):∃v,Qx C op t (.int k a) (.int k' b)=some v/\RD C Z x v:=by
 unfold Rl at h;split at h
 .split at h
  .cases h
  .cases h;rename_i hb;exact⟨_,by simp only[Qx];rw[if_neg hb],.int _ _⟩
 .split at h
  .cases h
  .cases h;rename_i hb;exact⟨_,by simp only[Qx];rw[if_neg hb],.int _ _⟩
 .rename_i h1 h2;split at h
  .rename_i hk;subst hk
   cases op<;>(try exact absurd rfl h1)<;>(try exact absurd rfl h2)<;>simp only at h<;>(try cases h)<;>
    first
    |exact⟨_,by simp only[Qx,if_true],.int _ _⟩
    |exact⟨_,by simp only[Qx,if_true],.bool _⟩
    | (split at h
       .cases h
       .cases h;rename_i hb;exact⟨_,by simp only[Qx,if_true];rw[if_neg hb],.int _ _⟩)
  .cases h
theorem Ztc (a b:ByteArray):(a++b).data.toList.map UInt8.toNat=a.data.toList.map UInt8.toNat++b.data.toList.map UInt8.toNat:=by
 rw[ByteArray.data_append];simp
theorem Z6o {op:BinOp}{t:Nat}{a b:ByteArray}{x:PV}(h:Zo9 op (a.data.toList.map UInt8.toNat) (b.data.toList.map UInt8.toNat)=some x):∃v,Qx C op t (.string a) (.string b)=some v/\RD C Z x v:=by
 unfold Zo9 at h;split at h
 .split at h
  .rename_i hl;cases h;refine⟨.string (a++b),?_,?_⟩
   .simp only [Qx];rw[if_pos (by rw[Sh,Sh];exact hl)]
   .rw [<- Ztc];exact .str _
  .cases h
 .cases h;exact⟨_,by simp only[Qx];rw[Ziz],.bool _⟩
 .cases h;exact⟨_,by simp only[Qx];rw[Ziz],.bool _⟩
 .cases h;exact⟨_,by simp only[Qx];rw[Zna],.bool _⟩
 .cases h;exact⟨_,by simp only[Qx];rw[Zna,Ziz],.bool _⟩
 .cases h
theorem Zaar {op:BinOp}{t:Nat}{x y z:PV}{v u:Value}(hx:R C ρ vf Z x v)(hy:R C ρ vf Z y u)(h:Zcz C op t x y=some z):∃w,Qx C op t v u=some w/\RD C Z z w:=by
 unfold Zcz at h;split at h
 .rw [hx.int_inv,hy.int_inv];exact Z70 h
 .obtain ⟨a,rfl,rfl⟩:=hx.str_inv;obtain⟨b,rfl,rfl⟩:=hy.str_inv;exact Z6o h
 .rename_i h1 h2
  have key:∀b,eqP C t x y=some b->(Qx C .eql t v u=some (.bool b))/\(Qx C .neq t v u=some (.bool !b)):=by
   intro b hb;have:=Zaep hx hy hb
   have hv:(∀k n,v≠.int k n)/\∀s,v≠.string s:=by
    constructor
    .rintro k n rfl;simp only[eqV]at this;split at this<;>(try cases this)
     rename_i ty hty;split at this<;>rename_i e1 e2<;>(try cases e1)<;>(try cases e2)<;>(try cases this)
    .rintro s rfl;simp only[eqV]at this;split at this<;>(try cases this)
     rename_i ty hty;split at this<;>rename_i e1 e2<;>(try cases e1)<;>(try cases e2)<;>(try cases this)
   constructor
   .unfold Qx;split<;>simp_all
   .unfold Qx;split<;>simp_all
  split at h
  .rw [Option.map_eq_some_iff]at h;obtain⟨b,hb,rfl⟩:=h;exact⟨_,(key b hb).1,.bool _⟩
  .rw [Option.map_eq_some_iff]at h;obtain⟨b,hb,rfl⟩:=h;exact⟨_,(key b hb).2,.bool _⟩
  .cases h
end
section
variable {C:Ctx}{Z Z':Vj}{ρ ρ':Nat->Nat}{vf vf':Nat->Option Nat}{v:Value}
theorem Zacq {op:UnOp}{x z:PV}{v:Value}(hx:R C ρ vf Z x v)(h:unP op x=some z):∃w,unV op v=some w/\RD C Z z w:=by
 unfold unP at h;split at h
 .cases h;rw[hx.int_inv];exact⟨_,rfl,.int _ _⟩
 .cases h;rw[hx.bool_inv];exact⟨_,rfl,.bool _⟩
 .cases h
theorem Zh7 {x:PV}{v:Value}{n:Nat}(hx:R C ρ vf Z x v)(h:Zli x=some n):Zh8 v=some n:=by
 unfold Zli at h;split at h
 .rw [hx.int_inv];exact h
 .cases h
inductive RO (C:Ctx)(ρ:Nat->Nat)(vf:Nat->Option Nat)(Z:Vj):Option PV->Option Value->Prop
 |none:RO C ρ vf Z none none
 |some {x:PV} {v:Value} (h:R C ρ vf Z x v):RO C ρ vf Z (some x) (some v)
theorem Zbx {len:Nat}{lo hi:Option PV}{lo' hi':Option Value}{r:Nat×Nat}(hl:RO C ρ vf Z lo lo')(hh:RO C ρ vf Z hi hi')(h:X1 len lo hi=some r):Vi len lo' hi'=some r:=by
 unfold X1 at h;unfold Vi;cases hl with
 |none=>
  cases hh with
  |none=>exact h
  |some hb=>
   simp only at h ⊢;cases hn:Zli _ with
   |none=>rw[hn]at h;cases h
   |some n=>rw[hn]at h;rw[Zh7 hb hn];exact h
 |some ha=>
  cases hh with
  |none=>
   simp only at h ⊢;cases hn:Zli _ with
   |none=>rw[hn]at h;cases h
   |some n=>rw[hn]at h;rw[Zh7 ha hn];exact h
  |some hb=>
   simp only at h ⊢;cases hn:Zli _ with
   |none=>rw[hn]at h;cases h
   |some n=>
    rw[hn]at h;rw[Zh7 hb hn]
    try dsimp only at h ⊢
    cases hm:Zli _ with
    |none=>rw[hm]at h;cases h
    |some m=>rw[hm]at h;rw[Zh7 ha hm];exact h
def Z67 (C:Ctx)(sl:SL):Option Operand->Option (Option Value)
 |some l=>(opd C sl l).map some
 |none=>some none
theorem Zh0 {Xi:Yu}{Y4:SL}(S:SR C ρ vf Z Xi Y4){lo:Option Operand}{l:Option PV}(h:Rc Xi lo=some l):∃l',Z67 C Y4 lo=some l'/\RO C ρ vf Z l l':=by
 cases lo with
 |none=>simp only[Rc,Option.some.injEq]at h;subst h;exact⟨none,rfl,.none⟩
 |some o=>
  simp only[Rc,Option.map_eq_some_iff]at h;obtain⟨x,hx,rfl⟩:=h;obtain⟨v,h1,h2⟩:=Zj S hx;exact⟨some v,by simp only[Z67,h1,Option.map_some],.some h2⟩
def Zmu (C:Ctx)(h:VH)(ty:Ty)(v:Value)(lo hi:Option Value):Option (Value×VH):=
 match ty.k,v with
 | .str,.string s=>(Vi s.size lo hi).map fun (l,u)=>(.string (s.extract l u),h)
 | .slice e,.slice none len _=>
   match C.T e,Vi len lo hi with
   |some _,some (l,u)=>some (.slice none (u - l) (u - l),h)
   | _,_=>none
 | .slice e,.slice (some a) len _=>
   match C.T e,Vi len lo hi,h.get a.block with
   |some te,some (l,u),some (.row _ e' _)=>if e'=te.size then some (.slice (some ⟨a.block,a.off+l*te.size,none⟩) (u - l) (u - l),h) else none
   | _,_,_=>none
 | _,_=>none
theorem Zfk {cf yf:Nat->List Value->VH->Option (Value×VH)}{sl:SL}{h:VH}{o:Oper}{t:TypeId}{x:Operand}{lo hi:Option Operand}(ho:o.op=.slice t x lo hi none){ty:Ty}{v:Value}{l u:Option Value}
  (ht:C.T t=some ty) (hx:opd C sl x=some v) (hl:Z67 C sl lo=some l) (hu:Z67 C sl hi=some u):Xu C cf yf sl h o=Zmu C h ty v l u:=by
 cases lo<;>cases hi<;>simp only[Z67,Option.map_eq_some_iff,Option.some.injEq]at hl hu
 .subst hl;subst hu;simp only[Xu,ho,ht,hx];rfl
 .subst hl;obtain⟨b,hb,rfl⟩:=hu;simp only[Xu,ho,ht,hx,hb,Option.map_some];rfl
 .subst hu;obtain⟨b,hb,rfl⟩:=hl;simp only[Xu,ho,ht,hx,hb,Option.map_some];rfl
 .obtain ⟨b,hb,rfl⟩:=hl;obtain⟨c,hc,rfl⟩:=hu;simp only[Xu,ho,ht,hx,hb,hc,Option.map_some];rfl
theorem Zgn {cs:List PV}{off:Nat}{vs cs2:List PV}:∀ {cs' Qy:List Value},Rs C ρ vf Z cs cs'->Rs C ρ vf Z vs Qy->Ym cs off vs=some cs2->∃Zoh,Wg cs' off Qy=some Zoh/\Rs C ρ vf Z cs2 Zoh:=by
 induction cs generalizing off vs cs2 with
 |nil=>
  intro cs' Qy h1 h2 h;cases vs with
  |nil=>simp only[Ym,Option.some.injEq]at h;subst h;cases h2;cases h1;exact⟨[],rfl,.nil⟩
  |cons v vs=>simp[Ym]at h
 |cons c cs ih=>
  intro cs' Qy h1 h2 h;cases vs with
  |nil=>
   have:Ym (c::cs) off []=some (c::cs):=by cases off<;>rfl
   rw[this]at h;cases h;cases h2;exact⟨cs',by cases cs'<;>cases off<;>rfl,h1⟩
  |cons v vs=>
   cases h1 with
   |cons g r=>
    cases h2 with
    |cons g2 r2=>
     cases off with
     |zero=>
      simp only[Ym,Option.map_eq_some_iff]at h;obtain⟨w,hw,rfl⟩:=h;obtain⟨w',h3,h4⟩:=ih r r2 hw;exact⟨_,by simp only[Wg,h3,Option.map_some],.cons g2 h4⟩
     |succ i=>
      simp only[Ym,Option.map_eq_some_iff]at h;obtain⟨w,hw,rfl⟩:=h;obtain⟨w',h3,h4⟩:=ih r (.cons g2 r2) hw;exact⟨_,by simp only[Wg,h3,Option.map_some],.cons g h4⟩
theorem Zmd {cs:List PV}{off:Nat}{vs cs2:List PV}(h:Ym cs off vs=some cs2):cs2.length=cs.length/\(vs=[]\/off+vs.length<=cs.length):=by
 induction cs generalizing off vs cs2 with
 |nil=>cases vs with
  |nil=>simp only[Ym,Option.some.injEq]at h;subst h;exact⟨rfl,.inl rfl⟩
  |cons v vs=>simp[Ym]at h
 |cons c cs ih=>
  cases vs with
  |nil=>
   have:Ym (c::cs) off []=some (c::cs):=by cases off<;>rfl
   rw[this]at h;cases h;exact⟨rfl,.inl rfl⟩
  |cons v vs=>
   cases off with
   |zero=>
    simp only[Ym,Option.map_eq_some_iff]at h;obtain⟨w,hw,rfl⟩:=h;obtain⟨h1,h2⟩:=ih hw;refine⟨by simp[h1],.inr ?_⟩;rcases h2 with rfl | h2
    .simp
    .simp only [List.length_cons];omega
   |succ i=>
    simp only[Ym,Option.map_eq_some_iff]at h;obtain⟨w,hw,rfl⟩:=h;obtain⟨h1,h2⟩:=ih hw;refine⟨by simp[h1],.inr ?_⟩;rcases h2 with h2 | h2
    .cases h2
    .simp only [List.length_cons]at h2 ⊢;omega
inductive RPs (C:Ctx)(ρ:Nat->Nat)(vf:Nat->Option Nat)(Z:Vj):List (Nat×PV)->List (Nat×Value)->Prop
 |nil:RPs C ρ vf Z [] []
 |cons {i:Nat} {x:PV} {v:Value} {l:List (Nat×PV)} {l':List (Nat×Value)} (h:R C ρ vf Z x v) (r:RPs C ρ vf Z l l'):RPs C ρ vf Z ((i,x)::l) ((i,v)::l')
theorem Zgw {Xi:Yu}{Y4:SL}(S:SR C ρ vf Z Xi Y4):∀ {l:List (Nat×Operand)} {xs:List (Nat×PV)},U6 Xi l=some xs->∃vs,parts C Y4 l=some vs/\RPs C ρ vf Z xs vs
 | [],xs,h=>by simp only[U6,Option.some.injEq]at h;subst h;exact⟨[],rfl,.nil⟩
 | (i,o)::l,xs,h=>by
   simp only[U6]at h;split at h
   .rename_i p ps hp hps;cases h;obtain⟨v,h1,h2⟩:=Zj S hp;obtain⟨vs,h3,h4⟩:=Zgw S hps;exact⟨_,by simp only[parts,h1,h3],.cons h2 h4⟩
   .cases h
theorem Zq6 {place:Nat->Option (Nat×Nat)}{ps:List (Nat×PV)}{ps':List (Nat×Value)}(hp:RPs C ρ vf Z ps ps'):∀ {cells Zki:List PV} {W2:List Value},Rs C ρ vf Z cells W2->Zgg place cells ps=some Zki ->
  ∃Zi4,Q0 place W2 ps'=some Zi4/\Rs C ρ vf Z Zki Zi4:=by
 induction hp with
 |nil=>intro cells Zki W2 h1 h;simp only[Zgg,Option.some.injEq]at h;subst h;exact⟨W2,rfl,h1⟩
 | @cons i x v l l' h r ih=>
   intro cells Zki W2 h1 hf;simp only[Zgg]at hf;simp only[Q0];split at hf
   .cases hf
   .rename_i off size hpl;rw[hpl]
    try dsimp only
    split at hf
    .rename_i hc;split at hf
     .rename_i w hw;obtain⟨w',h3,h4⟩:=Zgn h1 h.cells hw;have hlen:v.cells.toList.length=size:=by rw[h.cells.length];exact hc.1
      rw[if_pos ⟨hlen,by rw[hlen,h1.length];exact hc.2.1,h.cells.cell hc.2.2⟩,h3];exact ih h4 hf
     .cases hf
    .cases hf
theorem Zif {k:TK}{x:PV}{v:Value}(hx:R C ρ vf Z x v)(h:Zr9 k x=true):Zck k v=true:=by
 cases x<;>simp only[Zr9]at h<;>(try cases h)
 .rename_i b;rw[hx.bool_inv];exact h
 .rename_i b n;rw[hx.int_inv];exact h
 .obtain ⟨b,rfl,_⟩:=hx.str_inv;exact h
theorem Sk {x k:PV}{v u:Value}{b:Bool}(hx:R C ρ vf Z x v)(hk:R C ρ vf Z k u)(h:Uk x k=some b):Ra v u=some b:=by
 unfold Uk at h;split at h
 .rw [hx.int_inv,hk.int_inv];exact h
 .obtain ⟨a,rfl,rfl⟩:=hx.str_inv;obtain⟨c,rfl,rfl⟩:=hk.str_inv;cases h;simp only[Ra,Option.some.injEq]
  have:(a==c)=(a.data.toList==c.data.toList):=by
   by_cases e:a=c
   .subst e;simp[(MapKept.bytes_beq a a).2 rfl]
   .have h1:(a==c)=false:=by
     cases q:a==c
     .rfl
     .exact absurd ((MapKept.bytes_beq _ _).1 q) e
    rw[h1,eq_comm,beq_eq_false_iff_ne];intro e2;apply e;cases a;cases c;simp only[Array.toList_inj]at e2;rw[e2]
  rw[this,Ziz]
 .rw [hx.bool_inv,hk.bool_inv];exact h
 .cases h
inductive MRP (C:Ctx)(ρ:Nat->Nat)(vf:Nat->Option Nat)(Z:Vj):List (PV×PV)->List (Value×Value)->Prop
 |nil:MRP C ρ vf Z [] []
 |cons {k x:PV} {k' x':Value} {l:List (PV×PV)} {l':List (Value×Value)} (hk:R C ρ vf Z k k') (hv:R C ρ vf Z x x') (r:MRP C ρ vf Z l l'):MRP C ρ vf Z ((k,x)::l) ((k',x')::l')
theorem MRP.mono (he:Rp ρ vf ρ' vf')(hz:Z.le Z'){l:List (PV×PV)}{l':List (Value×Value)}(h:MRP C ρ vf Z l l'):MRP C ρ' vf' Z' l l':=by
 induction h with
 |nil=>exact .nil
 |cons hk hv r ih=>exact .cons (hk.mono he hz) (hv.mono he hz) ih
theorem MRP.length {l:List (PV×PV)}{l':List (Value×Value)}(h:MRP C ρ vf Z l l'):l'.length=l.length:=by
 induction h with
 |nil=>rfl
 |cons hk hv r ih=>simp[ih]
theorem Zku {es:List (PV×PV)}{Rk:List (Value×Value)}(h:MRP C ρ vf Z es Rk){x:PV}{v:Value}(hx:R C ρ vf Z x v):∀ {r},V5 es x=some r->∃r',Zab Rk v=some r'/\RO C ρ vf Z r r':=by
 induction h with
 |nil=>intro r hr;simp only[V5,Option.some.injEq]at hr;subst hr;exact⟨none,rfl,.none⟩
 |cons hk hv r ih=>
  intro q hq;simp only[V5]at hq;simp only[Zab];split at hq
  .rename_i hs;cases hq;rw[Sk hx hk hs];exact⟨_,rfl,.some hv⟩
  .rename_i hs;rw[Sk hx hk hs];exact ih hq
  .cases hq
theorem Zyx {es:List (PV×PV)}{Rk:List (Value×Value)}(h:MRP C ρ vf Z es Rk){x u:PV}{v w:Value}(hx:R C ρ vf Z x v)(hu:R C ρ vf Z u w):∀ {r},Uw es x u=some r->∃r',Zel Rk v w=some r'/\MRP C ρ vf Z r r':=by
 induction h with
 |nil=>intro r hr;simp only[Uw,Option.some.injEq]at hr;subst hr;exact⟨_,rfl,.cons hx hu .nil⟩
 |cons hk hv r ih=>
  intro q hq;simp only[Uw]at hq;simp only[Zel];split at hq
  .rename_i hs;cases hq;rw[Sk hx hk hs];exact⟨_,rfl,.cons hx hu r⟩
  .rename_i hs;rw[Sk hx hk hs];rw[Option.map_eq_some_iff]at hq;obtain⟨p,hp,rfl⟩:=hq;obtain⟨p',h1,h2⟩:=ih hp;exact⟨_,by simp only[h1,Option.map_some],.cons hk hv h2⟩
  .cases hq
theorem Zyy {es:List (PV×PV)}{Rk:List (Value×Value)}(h:MRP C ρ vf Z es Rk){x:PV}{v:Value}(hx:R C ρ vf Z x v):∀ {r},Zc7 es x=some r->∃r',Zem Rk v=some r'/\MRP C ρ vf Z r r':=by
 induction h with
 |nil=>intro r hr;simp only[Zc7,Option.some.injEq]at hr;subst hr;exact⟨_,rfl,.nil⟩
 |cons hk hv r ih=>
  intro q hq;simp only[Zc7]at hq;simp only[Zem];split at hq
  .rename_i hs;cases hq;rw[Sk hx hk hs];exact⟨_,rfl,r⟩
  .rename_i hs;rw[Sk hx hk hs];rw[Option.map_eq_some_iff]at hq;obtain⟨p,hp,rfl⟩:=hq;obtain⟨p',h1,h2⟩:=ih hp;exact⟨_,by simp only[h1,Option.map_some],.cons hk hv h2⟩
  .cases hq
theorem Z24 (b:ByteArray)(l u:Nat)(h:u<=b.size):(b.extract l u).data.toList.map UInt8.toNat=((b.data.toList.map UInt8.toNat).drop l).take (u - l):=by
 rw[ByteArray.data_extract];rw[Array.toList_extract];simp[List.map_take,List.map_drop]
theorem Zadc {g:Nat}{xs:List PV}{v:Value}(h:RD C Z (.lst g xs) v){l u:Nat}(hlu:l<=u)(hu:u<=xs.length):
  ∃ty Yb o cap s,C.T g=some ty/\Z Yb=some s/\s.e=ty.size/\v=.slice (some ⟨Yb,o,none⟩) xs.length cap/\RD C Z (.lst g ((xs.drop l).take (u - l))) (.slice (some ⟨Yb,o+l*ty.size,none⟩) (u - l) (u - l)):=by
 cases h with
 |lst g xs Yb o cap s Wj ty hs he ht hty hr hx hl=>
  have hlen:((xs.drop l).take (u - l)).length=u - l:=by simp;omega
  have Uq:=Ta hl
  have h1:X6 (xs.flatMap Zd) (l*ty.size) ((u - l)*ty.size)=some (((xs.drop l).take (u - l)).flatMap Zd):=by
   unfold X6;rw[if_pos (by rw[Uq,<- Nat.add_mul];exact Nat.mul_le_mul_right _ (by omega)),Zcu hl,flat_take fun x hx=>hl x (List.drop_subset _ _ hx)]
  obtain⟨r',h2,h3⟩:=hx.read h1;have h4:=Qj hr h2 (by rw[<- Nat.add_mul];exact Nat.mul_le_mul_right _ (by omega));have h5:=RD.lst g ((xs.drop l).take (u - l)) Yb (o+l*ty.size) (u - l) s r' ty hs he ht hty (by rw[hlen];exact h4) h3 (fun x hx=>hl x (List.drop_subset _ _ (List.take_subset _ _ hx)));rw[hlen]at h5;exact⟨ty,Yb,o,cap,s,hty,hs,he,rfl,h5⟩
theorem Zai6 {g:Nat}{xs:List PV}{v:Value}(h:RD C Z (.lst g xs) v){i:Nat}{x:PV}(hi:xs[i]?=some x):
  ∃ty Yb o cap,C.T g=some ty/\v=.slice (some ⟨Yb,o,none⟩) xs.length cap/\R C ρ vf Z (.rptr (Zd x)) (.pointer (some ⟨Yb,o+i*ty.size,none⟩)):=by
 cases h with
 |lst g xs Yb o cap s Wj ty hs he ht hty hr hx hl=>
  have Uq:=Ta hl;obtain⟨hlt,e⟩:=List.getElem?_eq_some_iff.1 hi;have hxl:(Zd x).length=ty.size:=hl x (by rw[<- e];exact List.getElem_mem hlt)
  have hle:i*ty.size+ty.size<=xs.length*ty.size:=by
   rw[<- Nat.succ_mul];exact Nat.mul_le_mul_right _ hlt
  have h1:X6 (xs.flatMap Zd) (i*ty.size) ty.size=some (Zd x):=by
   unfold X6;rw[if_pos (by rw[Uq];exact hle),Zob hl hi]
  obtain⟨r',h2,h3⟩:=hx.read h1;have h4:=Qj hr h2 hle;exact⟨ty,Yb,o,cap,hty,rfl,.rptr _ Yb _ s r' hs (by rw[hxl];exact h4) h3⟩
theorem Zuz {cs:List PV}{v:Value}(h:R C ρ vf Z (.rptr cs) v)(d:Nat)(hd:d<=cs.length):∃Yb o,v=.pointer (some ⟨Yb,o,none⟩)/\R C ρ vf Z (.rptr (cs.drop d)) (.pointer (some ⟨Yb,o+d,none⟩)):=by
 cases h with
 |d h=>cases h
 |rptr cs Yb o s Wj hs hr hx=>
  refine⟨Yb,o,rfl,?_⟩;obtain⟨rfl,hle⟩:=Tk.1 hr;refine .rptr _ Yb _ s (((s.cells.drop o).take cs.length).drop d) hs ?_ (hx.drop d);rw[Tk];refine⟨?_,?_⟩
  .rw [List.drop_take,List.drop_drop,List.length_drop]
  .rw [List.length_drop];omega
theorem Z3c {cs r:List PV}{v:Value}{n:Nat}(h:R C ρ vf Z (.rptr cs) v)(hr:X6 cs 0 n=some r):∃Yb o s r',v=.pointer (some ⟨Yb,o,none⟩)/\Z Yb=some s/\readN s.cells o n=some r'/\RDs C Z r r':=by
 cases h with
 |d h=>cases h
 |rptr cs Yb o s Wj hs hrr hx=>
  obtain⟨r',h1,h2⟩:=hx.read hr
  have hl:0+n<=cs.length:=by
   unfold X6 at hr;split at hr
   .assumption
   .cases hr
  exact⟨Yb,o,s,r',rfl,hs,by simpa using Qj hrr h1 hl,h2⟩
end
section
variable {C:Ctx}{Z Z':Vj}{ρ ρ':Nat->Nat}{vf vf':Nat->Option Nat}{v:Value}
def Rj (C:Ctx)(ρ:Nat->Nat)(vf:Nat->Option Nat)(Z:Vj)(Y4:SL)(o:Oper)(x:PV):Prop:=
 ∃v,R C ρ vf Z x v/\∀(cf yf:Nat->List Value->VH->Option (Value×VH)) (vh:VH),Zrl Z vh->Xu C cf yf Y4 vh o=some (v,vh)
theorem Zsw {Xi:Yu}{Y4:SL}(S:SR C ρ vf Z Xi Y4){o:Oper}{t:TypeId}{y:Operand}{lo hi:Option Operand}{x:PV}(ho:o.op=.slice t y lo hi none)(h:Yj C Xi o=some x):Rj C ρ vf Z Y4 o x:=by
 simp only[Yj,ho]at h;split at h
 .rename_i ty w ht hw;obtain⟨w',Vb,Vn⟩:=Zj S hw;split at h
  .rename_i l u Sr hhi;obtain⟨l',hl1,hl2⟩:=Zh0 S Sr;obtain⟨u',hu1,hu2⟩:=Zh0 S hhi;split at h
   ·
    rename_i s hk;rw[Option.map_eq_some_iff]at h;obtain⟨⟨p,q⟩,hb,rfl⟩:=h;obtain⟨b,rfl,rfl⟩:=Vn.str_inv;have hb':=Zbx hl2 hu2 hb;rw[<- Sh]at hb'
    have hq:q<=b.size:=by
     unfold Vi at hb';split at hb'
     .split at hb'
      .rename_i hc;cases hb';exact hc.2
      .cases hb'
     .cases hb'
    refine⟨.string (b.extract p q),?_,fun cf yf vh _=>?_⟩
    .show R C ρ vf Z (.str _) _;rw[<- Z24 b p q hq];exact .d (.str _)
    .rw [Zfk ho ht Vb hl1 hu1];simp only[Zmu,hk,hb',Option.map_some]
   ·
    rename_i e hk;split at h
    .rename_i te r V9 hb;cases h;rw[Vn.nils_inv]at Vb;have hb':=Zbx hl2 hu2 hb
     have hr:r=(0,0):=by
      unfold Vi at hb';split at hb'
      .split at hb'
       .rename_i hc;cases hb';rw[Prod.mk.injEq];omega
       .cases hb'
      .cases hb'
     subst hr;exact⟨_,.d .nils,fun cf yf vh _=>by rw[Zfk ho ht Vb hl1 hu1];simp only[Zmu,hk,hb',V9]⟩
    .cases h
   .rename_i e g xs hk;split at h
    .rename_i te p q V9 hb;split at h
     .rename_i he;cases h;have hb':=Zbx hl2 hu2 hb
      have hq:p<=q/\q<=xs.length:=by
       unfold Vi at hb';split at hb'
       .split at hb'
        .rename_i hc;cases hb';exact hc
        .cases hb'
       .cases hb'
      obtain⟨ty2,Yb,o2,cap,s,h1,h2,hse,rfl,h4⟩:=Zadc Vn.lst_inv hq.1 hq.2;subst he;rw[V9]at h1;cases h1;refine⟨_,.d h4,fun cf yf vh hz=>?_⟩;have Ug:=hz _ _ h2;rw[hse]at Ug;rw[Zfk ho ht Vb hl1 hu1];simp only[Zmu,hk,hb',V9,Ug,if_true]
     .cases h
    .cases h
   .cases h
  .cases h
 .cases h
theorem Zsy {Xi:Yu}{Y4:SL}(S:SR C ρ vf Z Xi Y4){o:Oper}{t:TypeId}{y i:Operand}{x:PV}(ho:o.op=.index t y i)(h:Yj C Xi o=some x):Rj C ρ vf Z Y4 o x:=by
 simp only[Yj,ho]at h;split at h
 .rename_i ty w k n ht hw hn;obtain⟨w',Vb,Vn⟩:=Zj S hw;obtain⟨n',hn1,hn2⟩:=Zj S hn;rw[hn2.int_inv]at hn1;split at h
  .rename_i m e cs hk;obtain⟨cs',rfl,R7⟩:=Vn.agg_inv;split at h
   .rename_i te V9;split at h
    .rename_i hb;rw[Option.bind_eq_some_iff]at h;obtain⟨r,hr,hx⟩:=h;obtain⟨r',h1,h2⟩:=R7.read hr;obtain⟨z,h3,h4⟩:=Zhq h2 hx;exact⟨z,h4,fun cf yf vh _=>by simp only[Xu,ho,ht,Vb,hn1,hk,V9];rw[if_pos hb,h1];simp only[Option.bind_some,h3,Option.map_some]⟩
    .cases h
   .cases h
  .rename_i s hk;obtain⟨b,rfl,rfl⟩:=Vn.str_inv;split at h
   .rename_i hb;rw[Option.map_eq_some_iff]at h;obtain⟨c,hc,rfl⟩:=h;rw[List.getElem?_map,Option.map_eq_some_iff]at hc;obtain⟨c',hc',rfl⟩:=hc;exact⟨_,.d (.int _ _),fun cf yf vh _=>by simp only[Xu,ho,ht,Vb,hn1,hk];rw[if_pos hb,hc'];rfl⟩
   .cases h
  .cases h
 .cases h
theorem Zkb {Xi:Yu}{Y4:SL}(S:SR C ρ vf Z Xi Y4){o:Oper}{t:TypeId}{y i:Operand}{x:PV}(ho:o.op=.indexAddr t y i)(h:Yj C Xi o=some x):Rj C ρ vf Z Y4 o x:=by
 simp only[Yj,ho]at h;split at h
 .rename_i ty w k n ht hw hn;obtain⟨w',Vb,Vn⟩:=Zj S hw;obtain⟨n',hn1,hn2⟩:=Zj S hn;rw[hn2.int_inv]at hn1;split at h
  .rename_i e g xs hk;split at h
   .rename_i te V9;split at h
    .rename_i hb;obtain⟨rfl,hb⟩:=hb;rw[Option.map_eq_some_iff]at h;obtain⟨c,hc,rfl⟩:=h;obtain⟨ty2,Yb,o2,cap,h1,rfl,h3⟩:=Zai6 (ρ:=ρ) (vf:=vf) Vn.lst_inv hc;rw[V9]at h1;cases h1;exact⟨_,h3,fun cf yf vh _=>by simp only[Xu,ho,ht,Vb,hn1,hk,V9];rw[if_pos hb];rfl⟩
    .cases h
   .cases h
  .rename_i m e b Zc off hk;split at h
   .rename_i te V9;split at h
    .rename_i hb;cases h;cases Vn with
     |d h=>cases h
     |ptr i Zc off c a hi hv hp ha=>
      refine⟨.pointer (some ⟨a.block,a.off+n.toNat*te.size,none⟩),.ptr _ _ _ c _ hi hv rfl fun e=>by rw[ha e],fun cf yf vh _=>?_⟩;simp only[Xu,ho,ht,Vb,hn1,hk,V9];rw[if_pos hb,hp];rfl
    .cases h
   .cases h
  .rename_i m e cs hk;split at h
   .rename_i te V9;split at h
    .rename_i hb;cases h;obtain⟨Yb,o2,rfl,h2⟩:=Zuz Vn (n.toNat*te.size) (by omega);exact⟨_,h2,fun cf yf vh _=>by simp only[Xu,ho,ht,Vb,hn1,hk,V9];rw[if_pos ⟨hb.1,hb.2.1⟩];rfl⟩
    .cases h
   .cases h
  .cases h
 .cases h
end
section
variable {C:Ctx}{Z Z':Vj}{ρ ρ':Nat->Nat}{vf vf':Nat->Option Nat}{v:Value}{Xi:Yu}{Y4:SL}{o:Oper}{x:PV}
theorem Zzq {t:TypeId}{ps:Array (Nat×Operand)}(S:SR C ρ vf Z Xi Y4)(ho:o.op=.build t ps)(h:Yj C Xi o=some x):Rj C ρ vf Z Y4 o x:=by
 simp only[Yj,ho]at h;split at h
 .rename_i ty vs ht hvs;obtain⟨Qy,hp1,hp2⟩:=Zgw S hvs;split at h
  .rename_i fs hk;split at h
   .rename_i hall;rw[Option.bind_eq_some_iff]at h;obtain⟨z,hz,h⟩:=h;rw[Option.map_eq_some_iff]at h;obtain⟨cs,R7,rfl⟩:=h;obtain⟨cs',h1,h2⟩:=Zq6 hp2 (Qk hz).up R7;refine⟨.agg cs'.toArray,.agg _ _ (by simpa using h2),fun cf yf vh _=>?_⟩;simp only[Xu,ho,ht,hp1,hk];rw[if_pos hall];have:Q0 (fun i=>(fs[i]?).bind fun x=>match x with | (off,u)=>(C.T u).map fun tu=>(off,tu.size)) ty.zero Qy=some cs':=h1;rw[this];rfl
   .cases h
  .rename_i n e hk;split at h
   .rename_i te V9;rw[Option.bind_eq_some_iff]at h;obtain⟨z,hz,h⟩:=h;rw[Option.map_eq_some_iff]at h;obtain⟨cs,R7,rfl⟩:=h;obtain⟨cs',h1,h2⟩:=Zq6 hp2 (Qk hz).up R7;refine⟨.agg cs'.toArray,.agg _ _ (by simpa using h2),fun cf yf vh _=>?_⟩;simp only[Xu,ho,ht,hp1,hk,V9];rw[h1];rfl
   .cases h
  .cases h
 .cases h
theorem Zws {t:TypeId}{y:Operand}(S:SR C ρ vf Z Xi Y4)(ho:o.op=.load t y)(h:Yj C Xi o=some x):Rj C ρ vf Z Y4 o x:=by
 simp only[Yj,ho]at h;split at h
 .rename_i ty cs ht hy;obtain⟨w,Vb,Vn⟩:=Zj S hy;rw[Option.bind_eq_some_iff]at h;obtain⟨r,hr,hx⟩:=h;obtain⟨Yb,o2,s,r',rfl,hs,h1,h2⟩:=Z3c Vn hr;obtain⟨z,h3,h4⟩:=Zhp h2 hx;refine⟨z,.d h4,fun cf yf vh hz=>?_⟩;have Ug:=hz _ _ hs;simp only[Xu,ho,ht,Vb,VH.load,Ug,h1,Option.bind_some,h3,Option.map_some,Option.isSome_none,Bool.false_eq_true,if_false]
 .cases h
theorem Zpw {y:Operand}(S:SR C ρ vf Z Xi Y4)(ho:o.op=.nilCheck y)(h:Yj C Xi o=some x):Rj C ρ vf Z Y4 o x:=by
 simp only[Yj,ho]at h;split at h<;>(try cases h)<;>rename_i hy<;>obtain⟨w,Vb,Vn⟩:=Zj S hy
 .have hw:=Vn;cases Vn with
  |d h=>cases h
  |ptr=>exact⟨_,hw,fun cf yf vh _=>by simp only[Xu,ho,Vb]⟩
 .have hw:=Vn;cases Vn with
  |d h=>cases h
  |eptr=>exact⟨_,hw,fun cf yf vh _=>by simp only[Xu,ho,Vb]⟩
 .have hw:=Vn;cases Vn with
  |d h=>cases h
  |rptr=>exact⟨_,hw,fun cf yf vh _=>by simp only[Xu,ho,Vb]⟩
 .have hw:=Vn;cases Vn with
  |d h=>cases h
  |fn=>exact⟨_,hw,fun cf yf vh _=>by simp only[Xu,ho,Vb]⟩
 .have hw:=Vn;cases Vn with
  |d h=>cases h
  |yield=>exact⟨_,hw,fun cf yf vh _=>by simp only[Xu,ho,Vb]⟩
theorem Zn9 {src dst:TypeId}{y:Operand}(S:SR C ρ vf Z Xi Y4)(ho:o.op=.convert src dst y)(h:Yj C Xi o=some x):Rj C ρ vf Z Y4 o x:=by
 simp only[Yj,ho]at h;split at h
 .rename_i ts td w hs hd hw;obtain⟨w',Vb,Vn⟩:=Zj S hw;split at h
  .rename_i k k2 n hk;cases h;rw[Vn.int_inv]at Vb;refine⟨_,.d (.int _ _),fun cf yf vh _=>?_⟩;simp only[Xu,ho,hs,hd,Vb,hk]
  .rename_i s hk;cases h;obtain⟨b,rfl,rfl⟩:=Vn.str_inv;refine⟨_,.d (.str _),fun cf yf vh _=>?_⟩;simp only[Xu,ho,hs,hd,Vb,hk]
  .cases h
 .cases h
theorem Zzo {t:TypeId}{y:Operand}(S:SR C ρ vf Z Xi Y4)(ho:o.op=.makeInterface t y)(h:Yj C Xi o=some x):Rj C ρ vf Z Y4 o x:=by
 simp only[Yj,ho]at h;split at h
 .rename_i ty ht;split at h
  .cases h
  .rename_i hk;rw[Option.map_eq_some_iff]at h;obtain⟨w,hw,rfl⟩:=h;obtain⟨w',Vb,Vn⟩:=Zj S hw;refine⟨_,.iface t _ _ Vn,fun cf yf vh _=>?_⟩;simp only[Xu,ho,ht,Vb,Option.map_some]
 .cases h
theorem Z4u {f:Fn}{a b:Array Operand}(S:SR C ρ vf Z Xi Y4)(ho:o.op=.makeFunc f a b)(h:Yj C Xi o=some x):Rj C ρ vf Z Y4 o x:=by
 simp only[Yj,ho]at h;split at h
 .rename_i g p q hp hq;cases h;obtain⟨p',h1,h2⟩:=Sq S hp;obtain⟨q',h3,h4⟩:=Sq S hq;refine⟨_,.fn g p q p'.toArray q'.toArray (by simpa using h2) (by simpa using h4),fun cf yf vh _=>?_⟩;simp only[Xu,ho,h1,h3]
 .cases h
theorem Zn8 {t:TypeId}{y:Operand}{f:Nat}(S:SR C ρ vf Z Xi Y4)(ho:o.op=.fieldAddr t y f)(h:Yj C Xi o=some x):Rj C ρ vf Z Y4 o x:=by
 simp only[Yj,ho]at h;split at h
 .rename_i ty w ht hw;obtain⟨w',Vb,Vn⟩:=Zj S hw;split at h
  .rename_i fs hk;split at h
   .rename_i off u hf;split at h
    .rename_i tu htu;split at h
     .cases h
     .rename_i Qf;split at h
      .cases h;cases Vn with
       |d h=>cases h
       |ptr i Zc off c a hi hv hp ha=>
        refine⟨_,.ptr _ _ _ c ⟨a.block,a.off+_,none⟩ hi hv rfl fun e=>by rw[ha e],fun cf yf vh _=>?_⟩;simp only[Xu,ho,ht,Vb,hk,hf,htu];rw[if_neg (by rw[hp];simpa using Qf)]
      .cases h;cases Vn with
       |d h=>cases h
       |eptr i Zc g ix off c a ty2 hi hv hp hg ha=>
        refine⟨_,.eptr _ _ _ _ _ c ⟨a.block,a.off+_,none⟩ ty2 hi hv rfl hg fun e=>by rw[ha e,Nat.add_assoc],fun cf yf vh _=>?_⟩;simp only[Xu,ho,ht,Vb,hk,hf,htu];rw[if_neg (by rw[hp];simpa using Qf)]
      .split at h
       .rename_i cs hle;cases h;obtain⟨Yb,o2,rfl,h2⟩:=Zuz Vn off (by omega);refine⟨_,h2,fun cf yf vh _=>?_⟩;simp only[Xu,ho,ht,Vb,hk,hf,htu];rw[if_neg (by simpa using Qf)]
       .cases h
      .cases h
    .cases h
   .cases h
  .cases h
 .cases h
theorem Zzp {t:TypeId}{y:Operand}{f:Nat}(S:SR C ρ vf Z Xi Y4)(ho:o.op=.field t y f)(h:Yj C Xi o=some x):Rj C ρ vf Z Y4 o x:=by
 simp only[Yj,ho]at h;split at h
 .rename_i ty cs ht hw;obtain⟨w',Vb,Vn⟩:=Zj S hw;obtain⟨cs',rfl,R7⟩:=Vn.agg_inv;split at h
  .rename_i fs hk;split at h
   .rename_i off u hf;split at h
    .rename_i tu htu;rw[Option.bind_eq_some_iff]at h;obtain⟨r,hr,hx⟩:=h;obtain⟨r',h1,h2⟩:=R7.read hr;obtain⟨z,h3,h4⟩:=Zhq h2 hx;refine⟨z,h4,fun cf yf vh _=>?_⟩;simp only[Xu,ho,ht,Vb,hk,hf,htu,h1,Option.bind_some,h3,Option.map_some]
    .cases h
   .cases h
  .cases h
 .cases h
theorem Zwr {t:TypeId}{y i:Operand}{ok:Bool}(S:SR C ρ vf Z Xi Y4)(ho:o.op=.lookup t y i ok)(h:Yj C Xi o=some x):Rj C ρ vf Z Y4 o x:=by
 simp only[Yj,ho]at h;split at h
 .rename_i ty k ht hy hi;obtain⟨w,Vb,Vn⟩:=Zj S hy;obtain⟨u,hu1,hu2⟩:=Zj S hi;rw[Vn.nilm_inv]at Vb;split at h
  .rename_i kt et hk;split at h
   .rename_i kty ety hkt het;split at h
    .rename_i Sy;rw[Option.map_eq_some_iff]at h;obtain⟨z,hz,rfl⟩:=h;obtain⟨z',h1,h2⟩:=Zpz hz;refine⟨if ok then .tuple #[z',.bool false] else z',?_,fun cf yf vh _=>?_⟩
     .cases ok with
      |true=>exact .tuple _ _ (.cons (.d h2) (.cons (.d (.bool _)) .nil))
      |false=>exact .d h2
     .simp only [Xu,ho,ht,Vb,hu1,hk,hkt,het];rw[if_pos (Zif hu2 Sy)];simp only[Zab,h1,Option.map_some]
    .cases h
   .cases h
  .cases h
 .cases h
theorem Z4v {c:Call}(S:SR C ρ vf Z Xi Y4)(ho:o.op=.call c)(h:Yj C Xi o=some x):Rj C ρ vf Z Y4 o x:=by
 simp only[Yj,ho]at h;split at h
 .cases h
 .rename_i args Xz;obtain⟨Wn,R8,Ry⟩:=Sq S Xz;split at h
  .rename_i b Wt;split at h
   .rename_i y;cases Ry with
    |cons hy hr=>
     cases hr;split at h
     .rename_i ty ht;split at h
      .rename_i s hk;cases h;obtain⟨b,rfl,rfl⟩:=hy.str_inv;refine⟨.int .i64 b.size,?_,fun cf yf vh _=>?_⟩
       .rw [Sh];exact .d (.int _ _)
       .simp only [Xu,ho,Tc,R8,Wt,ht,hk]
      .rename_i e hk;cases h;have hy':=hy.nils_inv;subst hy';refine⟨.int .i64 0,.d (.int _ _),fun cf yf vh _=>?_⟩;simp only[Xu,ho,Tc,R8,Wt,ht,hk];rfl
      .rename_i e g xs hk;cases h;cases hy.lst_inv with
       |lst=>
        refine⟨.int .i64 xs.length,.d (.int _ _),fun cf yf vh _=>?_⟩;simp only[Xu,ho,Tc,R8,Wt,ht,hk]
      .rename_i e i Zc g off n hk;cases h;cases hy with
       |d h=>cases h
       |own=>
        refine⟨.int .i64 n,.d (.int _ _),fun cf yf vh _=>?_⟩;simp only[Xu,ho,Tc,R8,Wt,ht,hk]
      .rename_i e f hk;cases h;have hy':=hy.nilm_inv;subst hy';refine⟨.int .i64 0,.d (.int _ _),fun cf yf vh _=>?_⟩;simp only[Xu,ho,Tc,R8,Wt,ht,hk]
      .cases h
     .cases h
   .cases Ry with
    |cons hy hr=>
     cases hr;split at h
     .rename_i ty ht;split at h
      .rename_i e hk;cases h;have hy':=hy.nils_inv;subst hy';refine⟨.int .i64 0,.d (.int _ _),fun cf yf vh _=>?_⟩;simp only[Xu,ho,Tc,R8,Wt,ht,hk]
      .cases h
     .cases h
   .cases h;cases Ry with
    |cons hy hr=>
     cases hr with
     |cons hz hr=>
      cases hr;have hy':=hy.int_inv;have hz':=hz.int_inv;subst hy' hz';refine⟨_,.d (.int _ _),fun cf yf vh _=>?_⟩;simp only[Xu,ho,Tc,R8,Wt]
   .cases h;cases Ry with
    |cons hy hr=>
     cases hr with
     |cons hz hr=>
      cases hr;have hy':=hy.int_inv;have hz':=hz.int_inv;subst hy' hz';refine⟨_,.d (.int _ _),fun cf yf vh _=>?_⟩;simp only[Xu,ho,Tc,R8,Wt]
   .cases h
  .cases h
theorem Zwq (S:SR C ρ vf Z Xi Y4)(h:Yj C Xi o=some x):Rj C ρ vf Z Y4 o x:=by
 cases ho:o.op with
 |move y=>
  simp only[Yj,ho]at h;obtain⟨w,h1,h2⟩:=Zj S h;exact⟨w,h2,fun cf yf vh _=>by simp only[Xu,ho,h1,Option.map_some]⟩
 |assign y=>
  simp only[Yj,ho]at h;obtain⟨w,h1,h2⟩:=Zj S h;exact⟨w,h2,fun cf yf vh _=>by simp only[Xu,ho,h1,Option.map_some]⟩
 |pick c a b=>
  simp only[Yj,ho]at h;split at h
  .rename_i hc;obtain⟨w,h1,h2⟩:=Zj S hc;obtain⟨u,h3,h4⟩:=Zj S h;rw[h2.bool_inv]at h1;exact⟨u,h4,fun cf yf vh _=>by simp only[Xu,ho,h1,h3,Option.map_some]⟩
  .rename_i hc;obtain⟨w,h1,h2⟩:=Zj S hc;obtain⟨u,h3,h4⟩:=Zj S h;rw[h2.bool_inv]at h1;exact⟨u,h4,fun cf yf vh _=>by simp only[Xu,ho,h1,h3,Option.map_some]⟩
  .cases h
 |build t ps=>exact Zzq S ho h
 |load t y=>exact Zws S ho h
 |nilCheck y=>exact Zpw S ho h
 |binOp op t y z t2=>
  simp only[Yj,ho]at h;split at h
  .rename_i a b ha hb;obtain⟨w,h1,h2⟩:=Zj S ha;obtain⟨u,h3,h4⟩:=Zj S hb;cases hn:Zvl C op t y z a b with
   |none=>
    rw[hn,Option.none_or]at h;obtain⟨r,h5,h6⟩:=Zaar h2 h4 h;cases hn2:Virt.nilE C op t y z w u with
    |none=>exact⟨r,.d h6,fun cf yf vh _=>by simp only[Xu,ho,h1,h3,h5,hn2,Option.none_or,Option.map_some]⟩
    |some q=>
     exfalso;unfold Virt.nilE at hn2;unfold Zvl at hn;split at hn2
     .rename_i hl;rw[if_pos hl]at hn;split at hn2
      all_goals first
       | (cases hn2;done)
       | (split at hn2
          .rename_i hk;have e1:a=.nili:=by cases h2 with | d h2=>cases h2;rfl
           have e2:b=.nili:=by cases h4 with | d h4=>cases h4;rfl
           subst e1 e2;simp only[hk,if_true]at hn;cases hn
          .cases hn2)
     .cases hn2
   |some q=>
    rw[hn,Option.some_or]at h;cases h;unfold Zvl at hn;split at hn
    .rename_i hl;split at hn
     all_goals first
      | (cases hn;done)
      | (split at hn
         .rename_i hk;cases hn;have e1:w=.nilIface:=by cases h2 with | d h2=>cases h2;rfl
          have e2:u=.nilIface:=by cases h4 with | d h4=>cases h4;rfl
          subst e1 e2;exact⟨_,.d (.bool _),fun cf yf vh _=>by simp only[Xu,ho,h1,h3,Virt.nilE,hl,hk,if_true,Option.some_or,Option.map_some]⟩
         .cases hn)
    .cases hn
  .cases h
 |unOp op t y=>
  simp only[Yj,ho]at h;rw[Option.bind_eq_some_iff]at h;obtain⟨a,ha,h⟩:=h;obtain⟨w,h1,h2⟩:=Zj S ha;obtain⟨r,h5,h6⟩:=Zacq h2 h;exact⟨r,.d h6,fun cf yf vh _=>by simp only[Xu,ho,h1,Option.bind_some,h5,Option.map_some]⟩
 |convert src dst y=>exact Zn9 S ho h
 |makeInterface t y=>exact Zzo S ho h
 |makeFunc f a b=>exact Z4u S ho h
 |slice t y lo hi mx=>
  cases mx with
  |none=>exact Zsw S ho h
  |some m=>simp[Yj,ho]at h
 |fieldAddr t y f=>exact Zn8 S ho h
 |field t y f=>exact Zzp S ho h
 |indexAddr t y i=>exact Zkb S ho h
 |index t y i=>exact Zsy S ho h
 |lookup t y i ok=>exact Zwr S ho h
 |extract y ix=>
  simp only[Yj,ho]at h;split at h
  .rename_i vs hy;obtain⟨w,h1,h2⟩:=Zj S hy;obtain⟨Qy,rfl,h3⟩:=h2.tuple_inv;obtain⟨u,h4,h5⟩:=h3.get h;exact⟨u,h5,fun cf yf vh _=>by simp only[Xu,ho,h1,h4,Option.map_some]⟩
  .cases h
 |call c=>exact Z4v S ho h
 | _=>simp[Yj,ho]at h
end
def Zo (h:PH):Nat->Option Nat:=fun i=>(h.get i).map (·.1)
def Ue (n:Nat):Code->Bool
 | .region _ ops draw=>(ops.toList.all fun o=>match o.dst with | some d=>Nat.blt d n | none=>true)&&(!draw||Zs4 ops)
 | .seq a b=>Ue n a&&Ue n b
 | .cond _ a b=>Ue n a&&Ue n b
 | .block _ b=>Ue n b
 | .loop b=>Ue n b
 | .rangeFunc _ _ a b=>Ue n a&&Ue n b
 | .scope b=>Ue n b
 | _=>true
def KOk (K:Loc)(n next:Nat):Prop:=K.lo<=K.base/\K.base+n<=next
inductive OR (C:Ctx)(ρ:Nat->Nat)(vf:Nat->Option Nat)(Z:Vj)(next:Nat)(vh:VH)(i p:Nat):PO->Prop
 |cells (cs:List PV) (Wj:List Value) (e:Nat) (hz:Z p=none) (hg:vh.get p=some (.row Wj e true)) (hr:Rs C ρ vf Z cs Wj):OR C ρ vf Z next vh i p (.cells cs)
 |row (g:Nat) (xs:List PV) (Wj:List Value) (ty:Ty) (ht:C.T g=some ty) (hz:Z p=none) (hg:vh.get p=some (.row Wj ty.size true)) (hr:RDs C Z (xs.flatMap Zd) Wj) (hl:∀x∈xs,(Zd x).length=ty.size):OR C ρ vf Z next vh i p (.row g true xs)
 |frozen (g:Nat) (xs:List PV) (s:SE) (ty:Ty) (ht:C.T g=some ty) (hs:Z p=some s) (he:s.e=ty.size) (Z8n:s.tag=none\/s.tag=some g) (hr:RDs C Z (xs.flatMap Zd) s.cells) (hl:∀x∈xs,(Zd x).length=ty.size):OR C ρ vf Z next vh i p (.row g false xs)
 |map (es:List (PV×PV)) (ves:List (Value×Value)) (hz:Z p=none) (hg:vh.get p=some (.map ves)) (hr:MRP C ρ vf Z es ves):OR C ρ vf Z next vh i p (.map es)
 |loop (K:Loc) (n:Nat) (sl:Yu) (Y4:SL) (ps:List Nat) (as bd:Code) (hz:Z p=none) (hg:vh.get p=some (.loop Y4 ps as bd)) (hr:SR C ρ vf Z sl Y4) (hK:K.lo<=K.base) (hb:K.base+n<=i) (h1:Ue n as=true) (h2:Ue n bd=true):OR C ρ vf Z next vh i p (.loop K sl ps as bd)
 |gone (hp:p < vh.next) (hz:Z p=none):OR C ρ vf Z next vh i p .gone
section
variable (C:Ctx)(ρ:Nat->Nat)(Z:Vj)(vh:VH)
structure HP (h:PH):Prop where
 lt:∀i x,h.get i=some x->i < h.next
 inj:∀i j x y,h.get i=some x->h.get j=some y->ρ i=ρ j->i=j
 vlt:∀i o,vh.get i=some o->i < vh.next
 sig:Zrl Z vh
 obj:∀i Zc o,h.get i=some (Zc,o)->OR C ρ (Zo h) Z h.next vh i (ρ i) o
 wr:vh.wr<=vh.next
end
section
variable {C:Ctx}{Z Z':Vj}{ρ ρ':Nat->Nat}{vf vf':Nat->Option Nat}{h h':PH}{vh vh':VH}{next next':Nat}
theorem OR.mono {i p:Nat}{o:PO}(h:OR C ρ vf Z next vh i p o)(he:Rp ρ vf ρ' vf')(hz:Z.le Z')(hp:Z p=none->Z' p=none)(hg:Z p=none->vh'.get p=vh.get p)(hn:next<=next')(hvn:vh.next<=vh'.next):OR C ρ' vf' Z' next' vh' i p o:=by
 cases h with
 |cells cs Wj e hz1 Rm hr=>exact .cells cs Wj e (hp hz1) (by rw[hg hz1];exact Rm) (hr.mono he hz)
 |row g xs Wj ty ht hz1 Rm hr hl=>exact .row g xs Wj ty ht (hp hz1) (by rw[hg hz1];exact Rm) (hr.mono hz) hl
 |frozen g xs s ty ht hs he1 Z8n hr hl=>exact .frozen g xs s ty ht (hz _ _ hs) he1 Z8n (hr.mono hz) hl
 |map es ves hz1 Rm hr=>exact .map es ves (hp hz1) (by rw[hg hz1];exact Rm) (hr.mono he hz)
 |loop K n sl Y4 ps as bd hz1 Rm hr hK hb h1 h2=>exact .loop K n sl Y4 ps as bd (hp hz1) (by rw[hg hz1];exact Rm) (hr.mono he hz) hK hb h1 h2
 |gone hp1 hz1=>exact .gone (by omega) (hp hz1)
structure St (C:Ctx)(K:Loc)(ρ:Nat->Nat)(Z:Vj)(h:PH)(vh:VH)(ρ':Nat->Nat)(Z':Vj)(h':PH)(vh':VH):Prop where
 hp:HP C ρ' Z' vh' h'
 ext:Rp ρ (Zo h) ρ' (Zo h')
 sig:Z.le Z'
 next:h.next<=h'.next
 vnext:vh.next<=vh'.next
 wr:vh'.wr<=vh.wr
 keep:∀i,can K i=false->h'.get i=h.get i
 same:∀i Zc o,i < K.lo->h.get i=some (Zc,o)->h'.get i=some (Zc,o)\/(∃g own xs,o=.row g own xs/\h'.get i=some (Zc,.row g false xs))\/vh'.wr<=ρ i
 plc:∀i x,h'.get i=some x->((∃y,h.get i=some y)/\ρ' i=ρ i)\/vh.next<=ρ' i
 vkeep:∀i x,h.get i=some x->can K i=false->vh'.get (ρ i)=vh.get (ρ i)
 vnone:∀q,q < vh.next->vh.get q=none->(∀i x,h.get i=some x->ρ i≠q)->vh'.get q=none
 low:∀b,b<=vh.next->b<=vh.wr->(∀i x,h.get i=some x->can K i=true->b<=ρ i)->b<=vh'.wr
theorem St.refl {K:Loc}(H:HP C ρ Z vh h):St C K ρ Z h vh ρ Z h vh where
 hp:=H
 ext:=Rp.refl _ _
 sig:=Vj.le.refl _
 next:=Nat.le_refl _
 vnext:=Nat.le_refl _
 wr:=Nat.le_refl _
 keep:=fun _ _=>rfl
 same:=fun i Zc o _ ho=>.inl ho
 plc:=fun i x hx=>.inl ⟨⟨x,hx⟩,rfl⟩
 vkeep:=fun _ _ _ _=>rfl
 vnone:=fun _ _ h _=>h
 low:=fun _ _ h _=>h
theorem Zu {i c:Nat}:Zo h i=some c↔∃o,h.get i=some (c,o):=by
 unfold Zo;rw[Option.map_eq_some_iff];constructor
 .rintro ⟨⟨a,o⟩,h1,rfl⟩;exact⟨o,h1⟩
 .rintro ⟨o,h1⟩;exact⟨(c,o),h1,rfl⟩
theorem HP.rho_lt (H:HP C ρ Z vh h){i:Nat}{x:Nat×PO}(hi:h.get i=some x):ρ i < vh.next:=by
 obtain⟨Zc,o⟩:=x;cases H.obj i Zc o hi with
 |gone hp hz=>exact hp
 |frozen g xs s ty ht hs=>exact H.vlt _ _ (H.sig _ _ hs)
 | _=>exact H.vlt _ _ (by assumption)
theorem St.trans {K:Loc}{ρ'':Nat->Nat}{Z'':Vj}{h'':PH}{vh'':VH}(H0:HP C ρ Z vh h)(a:St C K ρ Z h vh ρ' Z' h' vh')(b:St C K ρ' Z' h' vh' ρ'' Z'' h'' vh''):St C K ρ Z h vh ρ'' Z'' h'' vh'' where
 hp:=b.hp
 ext:=a.ext.trans b.ext
 sig:=a.sig.trans b.sig
 next:=Nat.le_trans a.next b.next
 vnext:=Nat.le_trans a.vnext b.vnext
 wr:=Nat.le_trans b.wr a.wr
 keep:=fun i hi=>(b.keep i hi).trans (a.keep i hi)
 same:=fun i Zc o Sr ho=>by
  rcases a.same i Zc o Sr ho with h1 | ⟨g,own,xs,rfl,h1⟩ | h1
  .have hr:ρ' i=ρ i:=by
    obtain⟨c',h2,_,h3⟩:=a.ext i Zc (Zu.2 ⟨o,ho⟩);rw[Zu.2 ⟨o,h1⟩]at h2;cases h2;exact h3 rfl
   rcases b.same i Zc o Sr h1 with h2 | h2 | h2
   .exact .inl h2
   .exact .inr (.inl h2)
   .rw [hr]at h2;exact .inr (.inr h2)
  .have hr:ρ' i=ρ i:=by
    obtain⟨c',h2,_,h3⟩:=a.ext i Zc (Zu.2 ⟨_,ho⟩);rw[Zu.2 ⟨_,h1⟩]at h2;cases h2;exact h3 rfl
   rcases b.same i Zc _ Sr h1 with h2 | ⟨g2,Zvc,xs2,e,h2⟩ | h2
   .exact .inr (.inl ⟨g,own,xs,rfl,h2⟩)
   .cases e;exact .inr (.inl ⟨g,own,xs,rfl,h2⟩)
   .rw [hr]at h2;exact .inr (.inr h2)
  .exact .inr (.inr (Nat.le_trans b.wr h1))
 plc:=fun i x hx=>by
  rcases b.plc i x hx with⟨⟨y,h1⟩,h2⟩ | h1
  .rcases a.plc i y h1 with⟨h3,h4⟩ | h3
   .exact .inl ⟨h3,h2.trans h4⟩
   .exact .inr (by rw[h2];exact h3)
  .exact .inr (Nat.le_trans a.vnext h1)
 vkeep:=fun i x hx hc=>by
  have h1:=a.keep i hc;obtain⟨Zc,o⟩:=x
  have hr:ρ' i=ρ i:=by
   obtain⟨c',h2,_,h3⟩:=a.ext i Zc (Zu.2 ⟨o,hx⟩);rw[Zu.2 ⟨o,by rw[h1];exact hx⟩]at h2;cases h2;exact h3 rfl
  have:=b.vkeep i _ (h1.trans hx) hc;rw[hr]at this;rw[this];exact a.vkeep i _ hx hc
 vnone:=fun q hq hn hi=>b.vnone q (Nat.lt_of_lt_of_le hq a.vnext) (a.vnone q hq hn hi) fun i x hx e=>by
  rcases a.plc i x hx with⟨⟨y,hy⟩,h2⟩ | h2
  .exact hi i y hy (h2.symm.trans e)
  .omega
 low:=fun c h1 h2 h3=>b.low c (Nat.le_trans h1 a.vnext) (a.low c h1 h2 h3) fun i x hx hc=>by
  rcases a.plc i x hx with⟨⟨y,hy⟩,e⟩ | e
  .rw [e];exact h3 i y hy hc
  .omega
theorem HP.change {K:Loc}(H:HP C ρ Z vh h){i ver' p:Nat}{o:PO}(hwl:vh'.wr=vh.wr\/vh'.wr=min vh.wr (ρ i)/\∃x,h.get i=some x)(hi:i < h.next)(hc:can K i=true)
  (hver:∀Zc o',h.get i=some (Zc,o')->Zc<=ver'/\(ver'=Zc->p=ρ i)) (hpn:p < vh'.next)
  (hp:(∃x,h.get i=some x/\p=ρ i)\/vh.next<=p) (hvn:vh.next<=vh'.next) (hwr:vh'.wr<=vh.wr) (hwr2:i < K.lo->(∃x,h.get i=some x)->vh'.wr<=ρ i)
  (Zsg:∀q,q≠p->((∃x,h.get i=some x)->q≠ρ i)->vh'.get q=vh.get q) (hzi:∀x,h.get i=some x->Z (ρ i)=none\/vh'.get (ρ i)=vh.get (ρ i)) (hzp:Z p=none) (hvlt:∀q x,vh'.get q=some x->q < vh'.next)
  (ho:∀ρ' vf',ρ'=(fun j=>if j=i then p else ρ j)->vf'=Zo (h.put i ver' o)->Rp ρ (Zo h) ρ' vf'->OR C ρ' vf' Z h.next vh' i p o):
  St C K ρ Z h vh (fun j=>if j=i then p else ρ j) Z (h.put i ver' o) vh':=by
 have Vx:Rp ρ (Zo h) (fun j=>if j=i then p else ρ j) (Zo (h.put i ver' o)):=by
  intro j c hj;obtain⟨o',hj'⟩:=Zu.1 hj;by_cases e:j=i
  .subst e;obtain⟨h1,h2⟩:=hver c o' hj';exact⟨ver',by simp[Zo,PH.put],h1,fun e=>by simp[h2 e]⟩
  .exact ⟨c,by simp[Zo,PH.put,e,hj'],Nat.le_refl _,fun _=>by simp[e]⟩
 have Yi:∀j x,h.get j=some x->j≠i->ρ j≠p:=by
  intro j x hj hji e;rcases hp with⟨y,h1,rfl⟩ | h1
  .exact hji (H.inj _ _ _ _ hj h1 e)
  .have:=H.rho_lt hj;omega
 have Zns:∀j x,h.get j=some x->j≠i->((∃x,h.get i=some x)->ρ j≠ρ i):=fun j x hj hji ⟨y,hy⟩ e=>hji (H.inj _ _ _ _ hj hy e)
 refine⟨⟨?_,?_,hvlt,?_,?_,?_⟩,Vx,Vj.le.refl _,Nat.le_refl _,hvn,hwr,?_,?_,?_,?_,?_,?_⟩
 .intro j x hj;by_cases e:j=i
  .subst e;exact hi
  .simp [PH.put,e]at hj;exact H.lt j x hj
 .intro j k x y hj hk e;by_cases e1:j=i<;>by_cases e2:k=i
  .rw [e1,e2]
  .subst e1;simp[PH.put,e2]at hk e;exact absurd e.symm (Yi k _ hk e2)
  .subst e2;simp[PH.put,e1]at hj e;exact absurd e (Yi j _ hj e1)
  .simp [PH.put,e1,e2]at hj hk e;exact H.inj _ _ _ _ hj hk e
 .intro q s hq;have h1:=H.sig q s hq;by_cases e1:q=p
  .subst e1;rw[hzp]at hq;cases hq
  .by_cases e2:∃x,h.get i=some x/\q=ρ i
   .obtain ⟨x,hx,rfl⟩:=e2;rcases hzi x hx with h2 | h2
    .rw [h2]at hq;cases hq
    .rw [h2];exact h1
   .rw [Zsg q e1 fun⟨x,hx⟩ e=>e2 ⟨x,hx,e⟩];exact h1
 .intro j Zc o' hj;by_cases e:j=i
  .subst e;simp[PH.put]at hj;obtain⟨rfl,rfl⟩:=hj;simp only[if_true];exact ho _ _ rfl rfl Vx
  .simp [PH.put,e]at hj;have h1:=H.obj j Zc o' hj;simp only[e,if_false];refine h1.mono Vx (Vj.le.refl _) id (fun _=>Zsg _ (Yi j _ hj e) (Zns j _ hj e)) (Nat.le_refl _) hvn
 .exact Nat.le_trans hwr (Nat.le_trans H.wr hvn)
 .intro j hj;by_cases e:j=i
  .subst e;rw[hc]at hj;cases hj
  .simp [PH.put,e]
 .intro j Zc o' Sr hj;by_cases e:j=i
  .subst e;exact .inr (.inr (hwr2 Sr ⟨_,hj⟩))
  .exact .inl (by simp[PH.put,e,hj])
 .intro j x hj;by_cases e:j=i
  .subst e;simp only[if_true];rcases hp with⟨y,h1,rfl⟩ | h1
   .exact .inl ⟨⟨y,h1⟩,rfl⟩
   .exact .inr h1
  .simp [PH.put,e]at hj;exact .inl ⟨⟨x,hj⟩,by simp[e]⟩
 .intro j x hj hcj;have e:j≠i:=fun e=>by subst e;rw[hc]at hcj;cases hcj
  exact Zsg _ (Yi j _ hj e) (Zns j _ hj e)
 .intro q hq hn hj;rw[Zsg q ?_ ?_]
  .exact hn
  .intro e;rcases hp with⟨x,hx,h1⟩ | h1
   .exact hj i x hx (h1 ▸ e.symm)
   .omega
  .exact fun⟨x,hx⟩ e=>hj i x hx e.symm
 .intro b _ h2 h3;rcases hwl with e | ⟨e,x,hx⟩
  .rw [e];exact h2
  .rw [e];exact Nat.le_min.2 ⟨h2,h3 i x hx hc⟩
end
section
variable {C:Ctx}{Z Z':Vj}{ρ ρ':Nat->Nat}{vf vf':Nat->Option Nat}{h h':PH}{vh vh':VH}{K:Loc}{n:Nat}{Xi:Yu}{Y4:SL}{o:Oper}{x:PV}{all:List Oper}
def Zf3 (C:Ctx)(K:Loc)(ρ:Nat->Nat)(Z:Vj)(h:PH)(vh:VH)(x:PV)(h':PH)(r:Option (Value×VH)):Prop:=
 ∃v vh' ρ' Z',r=some (v,vh')/\R C ρ' (Zo h') Z' x v/\St C K ρ Z h vh ρ' Z' h' vh'
theorem Zw5 (hK:K.lo<=K.base)(d:Nat):can K (K.base+d)=true:=by
 unfold can;rw[Bool.or_eq_true,Nat.ble_eq];exact .inl (by omega)
theorem Zcf {vo:VO}(H:HP C ρ Z vh h)(hK:KOk K n h.next){d:Nat}(hd:d < n){ob:PO}
  (ho:∀ρ' vf',Rp ρ (Zo h) ρ' vf'->OR C ρ' vf' Z h.next (vh.new vo) (K.base+d) vh.next ob):
  St C K ρ Z h vh (fun j=>if j=K.base+d then vh.next else ρ j) Z (h.put (K.base+d) (h.stamp (K.base+d)) ob) (vh.new vo):=by
 have hzn:Z vh.next=none:=by
  cases e:Z vh.next with
  |none=>rfl
  |some s=>exact absurd (H.vlt _ _ (H.sig _ _ e)) (Nat.lt_irrefl _)
 have Zk:∀q,q≠vh.next->(vh.new vo).get q=vh.get q:=fun q hq=>by simp[VH.new,Rd hq]
 refine HP.change H (.inl rfl) (by have:=hK.2;omega) (Zw5 hK.1 d) (fun Zc o' hi=>?_) (by simp[VH.new]) (.inr (Nat.le_refl _)) (by simp[VH.new]) (Nat.le_refl _) (fun Sr=>absurd Sr (by have:=hK.1;omega))
  (fun q hq _=>Zk q hq) (fun y hy=>.inr (Zk _ (by have:=H.rho_lt hy;omega))) hzn (fun q y hq=>?_) (fun ρ' vf' _ _ he=>ho ρ' vf' he)
 .have:h.stamp (K.base+d)=Zc+1:=by simp[PH.stamp,hi]
  rw[this];exact⟨by omega,fun e=>by omega⟩
 .by_cases e:q=vh.next
  .subst e;simp[VH.new]
  .rw [Zk q e]at hq;have:=H.vlt _ _ hq;simp only[VH.new];omega
theorem Zh6 {i Zc:Nat}{o:PO}:Zo (h.put i Zc o) i=some Zc:=by simp[Zo,PH.put]
theorem Zm0 {z:PV}{v:List Value}(hz:RDs C Z (Zd z) v)(n:Nat):RDs C Z ((List.replicate n z).flatMap Zd) (Vw n v):=by
 unfold Vw
 induction n with
 |zero=>simpa using .nil
 |succ n ih=>
  rw[List.replicate_succ',List.range_succ,List.flatMap_append,List.flatMap_append];refine ih.append ?_;simpa using hz
theorem Z02 {m:Nat}:∀ {n:Nat} {x:PV} {v:Value},plain n x=true->R C ρ vf Z x v->RD C Z x v:=by
 intro n
 induction n with
 |zero=>
  intro x v hp hr;cases hr with
  |d h=>exact h
  | _=>simp[plain]at hp
 |succ n ih=>
  intro x v hp hr
  have hs:∀ {cs:List PV} {cs':List Value},cs.all (plain n)=true->Rs C ρ vf Z cs cs'->RDs C Z cs cs':=by
   intro cs
   induction cs with
   |nil=>intro cs' _ h;cases h;exact .nil
   |cons c cs ih2=>
    intro cs' ha h;simp only[List.all_cons,Bool.and_eq_true]at ha;cases h with | cons h r=>exact .cons (ih ha.1 h) (ih2 ha.2 r)
  cases hr with
  |d h=>exact h
  |agg cs cs' h=>exact .agg _ _ (hs (by simpa[plain]using hp) h)
  |iface t y w h=>exact .iface t _ _ (ih (by simpa[plain]using hp) h)
  | _=>simp[plain]at hp
theorem Zu8 {n:Nat}{x:PV}{v:Value}(hp:plain n x=true)(hr:R C ρ vf Z x v):RDs C Z (Zd x) v.cells.toList:=(Z02 (m:=0) hp hr).cells
theorem Z6v {xs:List PV}{sz:Nat}(hl:∀x∈xs,(Zd x).length=sz){i:Nat}(hi:i < xs.length){y:PV}(hy:(Zd y).length=sz):Ym (xs.flatMap Zd) (i*sz) (Zd y)=some ((xs.set i y).flatMap Zd):=by
 induction xs generalizing i with
 |nil=>simp at hi
 |cons x xs ih=>
  have hx:=hl x (by simp)
  have wapp:∀(a b vs:List PV) (o:Nat),Ym (a++b) (a.length+o) vs=(Ym b o vs).map (a++·):=by
   intro a
   induction a with
   |nil=>intro b vs o;simp
   |cons c a ih2=>
    intro b vs o;cases vs with
    |nil=>
     have e1:∀(l:List PV) (k:Nat),Ym l k []=some l:=fun l k=>by cases l<;>cases k<;>rfl
     rw[e1,e1];rfl
    |cons v vs=>
     have:(c::a).length+o=(a.length+o)+1:=by simp;omega
     rw[this];simp only[List.cons_append,Ym,ih2,Option.map_map];rfl
  have wall:∀(a b vs:List PV),vs.length=a.length->Ym (a++b) 0 vs=some (vs++b):=by
   intro a
   induction a with
   |nil=>intro b vs h;cases vs with
    |nil=>cases b<;>rfl
    |cons _ _=>simp at h
   |cons c a ih2=>
    intro b vs h;cases vs with
    |nil=>simp at h
    |cons v vs=>
     simp only[List.cons_append,Ym];rw[ih2 b vs (by simpa using h)];rfl
  cases i with
  |zero=>
   simp only[List.flatMap_cons,Nat.zero_mul,List.set_cons_zero];exact wall _ _ _ (by rw[hy,hx])
  |succ i=>
   simp only[List.flatMap_cons,List.set_cons_succ];have:(i+1)*sz=(Zd x).length+i*sz:=by rw[hx,Nat.succ_mul];omega
   rw[this,wapp,ih (fun z hz=>hl z (by simp[hz])) (by simpa using hi)];rfl
theorem Z0x {xs:List PV}{sz:Nat}(hl:∀x∈xs,(Zd x).length=sz){i:Nat}{y:PV}(hy:(Zd y).length=sz):∀x∈xs.set i y,(Zd x).length=sz:=by
 intro x hx;rcases List.mem_or_eq_of_mem_set hx with h | h
 .exact hl x h
 .rw [h];exact hy
theorem Z4y {ps:List (Nat×PV)}{ps':List (Nat×Value)}{sz:Nat}(hp:RPs C ρ vf Z ps ps'):∀ {xs xs2:List PV} {W2:List Value},RDs C Z (xs.flatMap Zd) W2->(∀x∈xs,(Zd x).length=sz)->Zq7 sz xs ps=some xs2 ->
  ∃Zi4,Q0 (fun i=>some (i*sz,sz)) W2 ps'=some Zi4/\RDs C Z (xs2.flatMap Zd) Zi4/\(∀x∈xs2,(Zd x).length=sz)/\xs2.length=xs.length:=by
 induction hp with
 |nil=>intro xs xs2 W2 h1 hl h;simp only[Zq7,Option.some.injEq]at h;subst h;exact⟨W2,rfl,h1,hl,rfl⟩
 | @cons i x v l l' h r ih=>
   intro xs xs2 W2 h1 hl hf;simp only[Zq7]at hf;simp only[Q0];split at hf
   .rename_i hc;obtain⟨c1,c2,c3,c4⟩:=hc;have hw:=Z6v hl c2 c1;have hpl:=Zu8 c4 h;obtain⟨w',h3,h4⟩:=Zgn (ρ:=ρ) (vf:=vf) h1.up hpl.up hw
    have h5:RDs C Z ((xs.set i x).flatMap Zd) w':=by
     have hlen:=Zmd hw;clear ih r hf
     have key:∀ {a:List PV} {off:Nat} {b a2:List PV} {a' b' a2':List Value},RDs C Z a a'->RDs C Z b b'->Ym a off b=some a2->Wg a' off b'=some a2'->RDs C Z a2 a2':=by
      intro a
      induction a with
      |nil=>
       intro off b a2 a' b' a2' ha hb hw hw';cases b with
       |nil=>simp only[Ym,Option.some.injEq]at hw;subst hw;cases hb;cases ha;simp only[Wg,Option.some.injEq]at hw';subst hw';exact .nil
       |cons _ _=>simp[Ym]at hw
      |cons c a iha=>
       intro off b a2 a' b' a2' ha hb hw hw';cases b with
       |nil=>
        have e1:Ym (c::a) off []=some (c::a):=by cases off<;>rfl
        rw[e1]at hw;cases hw;cases hb;have e2:Wg a' off []=some a':=by cases a'<;>cases off<;>rfl
        rw[e2]at hw';cases hw';exact ha
       |cons d b=>
        cases ha with
        |cons g r=>
         cases hb with
         |cons g2 r2=>
          cases off with
          |zero=>
           simp only[Ym,Option.map_eq_some_iff]at hw;simp only[Wg,Option.map_eq_some_iff]at hw';obtain⟨q,hq,rfl⟩:=hw;obtain⟨q',hq',rfl⟩:=hw';exact .cons g2 (iha r r2 hq hq')
          |succ k=>
           simp only[Ym,Option.map_eq_some_iff]at hw;simp only[Wg,Option.map_eq_some_iff]at hw';obtain⟨q,hq,rfl⟩:=hw;obtain⟨q',hq',rfl⟩:=hw';exact .cons g (iha r (.cons g2 r2) hq hq')
     exact key h1 hpl hw h3
    have hlen:v.cells.toList.length=sz:=by rw[h.cells.length];exact c1
    have Uq:=Ta hl;have hle:i*sz+sz<=xs.length*sz:=by rw[<- Nat.succ_mul];exact Nat.mul_le_mul_right _ c2
    rw[if_pos ⟨hlen,by rw[hlen,h1.length,Uq];exact hle,h.cells.cell c3⟩,h3];obtain⟨q,a1,a2,a3,a4⟩:=ih h5 (Z0x hl c1) hf;exact⟨q,a1,a2,a3,by rw[a4];simp⟩
   .cases hf
inductive MkOk (C:Ctx)(ρ:Nat->Nat)(vf:Nat->Option Nat)(Z:Vj):Mk->Shape->VO->Prop
 |lit (g:Nat) (xs:List PV) (Wj:List Value) (ty:Ty) (ht:C.T g=some ty) (hr:RDs C Z (xs.flatMap Zd) Wj) (hl:∀x∈xs,(Zd x).length=ty.size):MkOk C ρ vf Z (.lit (.lst g xs)) (.slice xs.length) (.row Wj ty.size true)
 |ptr (cs:List PV) (Wj:List Value) (e:Nat) (hr:Rs C ρ vf Z cs Wj):MkOk C ρ vf Z (.ptr (.cells cs)) .ptr (.row Wj e true)
 |slice (g n:Nat) (xs:List PV) (Wj:List Value) (ty:Ty) (ht:C.T g=some ty) (hr:RDs C Z (xs.flatMap Zd) Wj) (hl:∀x∈xs,(Zd x).length=ty.size):MkOk C ρ vf Z (.slice g n (.row g true xs)) (.slice n) (.row Wj ty.size true)
 |map:MkOk C ρ vf Z .map .map (.map [])
theorem Zr3 {v:Value}{x:PV}(h:Yc 0 v=some x):Wy x=true:=by
 cases v with
 |pointer a=>cases a<;>simp[Yc]at h;subst h;rfl
 |slice a b c=>cases a<;>cases b<;>cases c<;>simp[Yc]at h;subst h;rfl
 |map a=>cases a<;>simp[Yc]at h;subst h;rfl
 | _=>first | (simp[Yc]at h;done) | (simp[Yc]at h;subst h;rfl)
theorem Zgl {te:Ty}{z:PV}(h:Zak te=some z):RDs C Z (Zd z) te.zero:=by
 unfold Zak at h;rw[Option.bind_eq_some_iff]at h;obtain⟨l,hl,hz⟩:=h;have h1:RDs C Z l te.zero:=Qk hl;cases hb:te.k.agg with
 |true=>
  rw[hb]at hz;simp only[toP,if_true,Option.some.injEq]at hz;subst hz;exact h1
 |false=>
  rw[hb]at hz;simp only[toP,Bool.false_eq_true,if_false]at hz;split at hz
  .rename_i u;cases hz;cases hq:te.zero with
   |nil=>rw[hq]at h1;cases h1
   |cons a r=>
    rw[hq]at h1 hl;cases h1 with
    |cons g1 g2=>
     cases g2;simp only[Zbq,Yc.go]at hl;cases hp:Yc 0 a with
     |none=>rw[hp]at hl;cases hl
     |some p=>
      rw[hp]at hl;simp only[Option.some.injEq,List.cons.injEq,and_true]at hl;subst hl;have hc:=Zr3 hp;have:Zd p=[p]:=by cases p<;>simp_all[Wy,Zd]
      rw[this];exact .cons g1 .nil
  .cases hz
theorem Zqk (S:SR C ρ vf Z Xi Y4){m:Mk}(h:V6 C all Xi o=some m):∃sh vo,MkOk C ρ vf Z m sh vo/\Qp C Y4 o=some (sh,vo)/\∀(cf yf:Nat->List Value->VH->Option (Value×VH)) (vh:VH),Xu C cf yf Y4 vh o=some (sh.val vh.next,vh.new vo):=by
 cases ho:o.op with
 |alloc t=>
  simp only[V6,ho]at h;split at h
  .rename_i ty ht;rw[Option.map_eq_some_iff]at h;obtain⟨z,hz,rfl⟩:=h;exact⟨.ptr,_,.ptr z ty.zero ty.size (Qk hz).up,by simp only[Qp,ho,ht],fun cf yf vh=>by simp only[Xu,ho,ht];rfl⟩
  .cases h
 |box t y=>
  simp only[V6,ho]at h;split at h
  .rename_i v hv;obtain⟨w,h1,h2⟩:=Zj S hv;split at h
   .rename_i hc;cases h;have hc':=h2.cells.cell hc;exact⟨.ptr,_,.ptr _ w.cells.toList w.cells.toList.length h2.cells,by simp only[Qp,ho,h1];rw[if_pos hc'],fun cf yf vh=>by simp only[Xu,ho,h1];rw[if_pos hc'];rfl⟩
   .cases h
  .cases h
 |buildSlice t len ps=>
  simp only[V6,ho]at h;split at h
  .rename_i ty vs ht hvs;obtain⟨Qy,hp1,hp2⟩:=Zgw S hvs;split at h
   .rename_i e hk;split at h
    .rename_i te V9;split at h
     .rename_i hlen;split at h
      .rename_i z hz;split at h
       .rename_i hzc;split at h
        .rename_i xs hxs;have Z3y:RDs C Z (Zd z) te.zero:=Zgl hz;obtain⟨cs,f1,f2,f3,f4⟩:=Z4y hp2 (Zm0 Z3y len) (fun x hx=>by rw[(List.mem_replicate.1 hx).2];exact hzc.1) hxs;have hzl:te.zero.all cellB=true:=(Z3y.up (ρ:=ρ) (vf:=vf)).cell hzc.2.1
         have hm:Qp C Y4 o=some (.slice len,.row cs te.size true):=by
          simp only[Qp,ho,ht,hp1,hk,V9];rw[if_pos hlen.1,f1];rfl
         have X7:∀(cf yf:Nat->List Value->VH->Option (Value×VH)) (vh:VH),Xu C cf yf Y4 vh o=some ((Shape.slice len).val vh.next,vh.new (.row cs te.size true)):=fun cf yf vh=>by
          simp only[Xu,ho,ht,hp1,hk,V9];rw[if_pos ⟨hlen.1,hlen.2,hzl⟩,f1];rfl
         have Rg:xs.length=len:=by rw[f4];simp
         split at h
         .split at h
          .cases h;have:=MkOk.lit (ρ:=ρ) (vf:=vf) e xs cs te V9 f2 f3;rw[Rg]at this;exact⟨_,_,this,hm,X7⟩
          .cases h;exact⟨_,_,.slice e len xs cs te V9 f2 f3,hm,X7⟩
         .cases h
        .cases h
       .cases h
      .cases h
     .cases h
    .cases h
   .cases h
  .cases h
 |makeSlice t l c=>
  simp only[V6,ho]at h;split at h
  .rename_i ty k1 n k2 m ht hl hc;obtain⟨l',h1,h2⟩:=Zj S hl;obtain⟨c',h3,h4⟩:=Zj S hc;rw[h2.int_inv]at h1;rw[h4.int_inv]at h3;split at h
   .rename_i e hk;split at h
    .rename_i te V9;split at h
     .rename_i hb;split at h
      .rename_i z hz;split at h
       .rename_i hzc;cases h;have Z3y:RDs C Z (Zd z) te.zero:=Zgl hz;refine⟨_,_,.slice e n.toNat _ _ te V9 (Zm0 Z3y n.toNat) (fun x hx=>by rw[(List.mem_replicate.1 hx).2];exact hzc.1),?_,fun cf yf vh=>?_⟩
        .simp only [Qp,ho,ht,h1,h3,hk,V9];rw[if_pos hb]
        .simp only [Xu,ho,ht,h1,h3,hk,V9];rw[if_pos ⟨hb.1,hb.2.1,hb.2.2.1⟩,if_pos hb.2.2.2];rfl
       .cases h
      .cases h
     .cases h
    .cases h
   .cases h
  .cases h
 |makeMap t r=>
  cases r with
  |none=>
   simp only[V6,ho]at h;cases h;exact⟨_,_,.map,by simp only[Qp,ho],fun cf yf vh=>by simp only[Xu,ho];rfl⟩
  |some r=>simp[V6,ho]at h
 | _=>simp[V6,ho]at h
end
end Go.Pure
end
