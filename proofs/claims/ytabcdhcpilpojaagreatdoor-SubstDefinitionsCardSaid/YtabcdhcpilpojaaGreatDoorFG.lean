/- Terms as trees: well-formed trees, their uses, substitution. -/
import Derived.Test.YtabcdhcpilpojaaGreatDoorFF
import Derived.Test.YtabcdhcpilpojaaGreatDoorPD
import Derived.Test.YtabcdhcpilpojaaGreatDoorFC
set_option linter.unusedSimpArgs false
set_option linter.unusedVariables false
section
set_option maxRecDepth 20000
namespace Go.Proofs.YtabcdhcpilpojaaGreatDoor
open Go Go.Pure
open Go.Virt (Ex Ctx Ty TK)
mutual
def WF:Tr->Prop
 | .mk op sort name num ks=>Wq op sort name num=true/\Yy op (ks.length:Int)=true/\WFs ks
def WFs:List Tr->Prop
 | []=>True
 |k::r=>WF k/\WFs r
end
theorem Zahg:∀ {ks:List Tr},WFs ks↔∀k∈ks,WF k
 | []=>by simp[WFs]
 |k::r=>by simp[WFs,Zahg (ks:=r)]
theorem Zqs {p:List Nd->Option (Tr×List Nd)}(hp:∀r t r',p r=some (t,r')->r=flat t++r'/\WF t):∀ {k:Nat} {r r':List Nd} {ts:List Tr},many p k r=some (ts,r')->r=Tz ts++r'/\WFs ts/\ts.length=k
 | 0,r,r',ts,h=>by
   simp only[many,Option.some.injEq,Prod.mk.injEq]at h;obtain⟨rfl,rfl⟩:=h;exact⟨rfl,trivial,rfl⟩
 |k+1,r,r',ts,h=>by
  simp only[many]at h;split at h
  .cases h
  .rename_i t1 r1 h1;split at h
   .cases h
   .rename_i us r2 h2;cases h;obtain⟨e1,w1⟩:=hp _ _ _ h1;obtain⟨e2,w2,l2⟩:=Zqs hp h2;refine⟨?_,⟨w1,w2⟩,by simp[l2]⟩;rw[e1,e2];simp[Tz]
theorem Ztl {op n:Int}(h:Yy op n=true):0<=n:=by
 unfold Yy at h;split at h
 .simp at h;omega
 .split at h
  .simp at h;omega
  .split at h
   .simp at h;omega
   .split at h
    .simpa using h
    .split at h
     .simp at h;omega
     .split at h
      .simp at h;omega
      .simp at h;omega
theorem Zgw:∀ {d:Nat} {r r':List Nd} {t:Tr},Zg d r=some (t,r')->r=flat t++r'/\WF t
 | 0,r,r',t,h=>by simp[Zg]at h
 |d+1,[],r',t,h=>by simp[Zg]at h
 |d+1,n::r,r',t,h=>by
  simp only[Zg]at h;split at h
  .rename_i hc;rw[Bool.and_eq_true]at hc;split at h
   .cases h
   .rename_i ks r1 h1;cases h;obtain⟨e,w,l⟩:=Zqs (fun _ _ _ hh=>Zgw hh) h1
    have hk:(ks.length:Int)=n.kids:=by
     have:=Ztl hc.2;rw[l];omega
    obtain⟨op,sort,name,num,kids⟩:=n;simp only at hk hc;subst hk;refine⟨?_,hc.1,hc.2,w⟩;rw[e];simp[flat]
  .cases h
mutual
theorem Zg9:∀(t:Tr) (d:Nat) (r:List Nd),WF t->Xb t<=d->Zg d (flat t++r)=some (t,r)
 | .mk op sort name num ks,d,r,hw,hd=>by
   cases d with
   |zero=>rw[Xb]at hd;omega
   |succ d=>
    rw[Xb]at hd;rw[WF]at hw;have h1:=Zey ks d r hw.2.2 (by omega);simp only[flat,List.cons_append,Zg,hw.1,hw.2.1,Bool.and_self,if_true,Int.toNat_natCast,h1]
theorem Zey:∀(ks:List Tr) (d:Nat) (r:List Nd),WFs ks->Y6 ks<=d->many (Zg d) ks.length (Tz ks++r)=some (ks,r)
 | [],d,r,hw,hd=>by simp[many,Tz]
 |k::ks,d,r,hw,hd=>by
  rw[Y6]at hd;rw[WFs]at hw;have h1:=Zg9 k d (Tz ks++r) hw.1 (by omega);have h2:=Zey ks d r hw.2 (by omega);simp only[Tz,List.length_cons,many,List.append_assoc,h1,h2]
end
def Zpc (op sort:Int)(name:Yi)(ks:List Tr):List Use:=if op=4 then [⟨false,name,[],sort⟩] else if op=5 then [⟨true,name,Ys ks,sort⟩] else []
mutual
def Uq:Tr->List Use
 | .mk op sort name num ks=>Zpc op sort name ks++Uv ks
def Uv:List Tr->List Use
 | []=>[]
 |k::r=>Uq k++Uv r
end
mutual
theorem Zqa:∀(t:Tr) (r:List Nd),WF t->Xb t<=258->Zt (flat t++r)=Uq t++Zt r
 | .mk op sort name num ks,r,hw,hd=>by
   rw[Xb]at hd;rw[WF]at hw;have h1:=Zml ks r hw.2.2 (by omega);have h2:=Zey ks 257 r hw.2.2 (by omega);simp only[flat,List.cons_append,Zt,Xf,Int.toNat_natCast,h2,h1,Uq,Zpc,List.append_assoc]
theorem Zml:∀(ks:List Tr) (r:List Nd),WFs ks->Y6 ks<=257->Zt (Tz ks++r)=Uv ks++Zt r
 | [],r,hw,hd=>by simp[Tz,Uv]
 |k::ks,r,hw,hd=>by
  rw[Y6]at hd;rw[WFs]at hw;have h1:=Zqa k (Tz ks++r) hw.1 (by omega);have h2:=Zml ks r hw.2 (by omega);simp only[Tz,Uv,List.append_assoc,h1,h2]
end
theorem Zmm {t:Tr}(hw:WF t)(hd:Xb t<=258):Zt (flat t)=Uq t:=by
 have:=Zqa t [] hw hd;simpa[Zt]using this
def Zsc (f:Yi->Option Tr)(op sort:Int)(name num:Yi)(ks ks':List Tr):Tr:=if op=4 then (match f name with
  |some t=>t
  |none=>.mk op sort name num ks) else .mk op sort name num ks'
mutual
def Zb4 (f:Yi->Option Tr):Tr->Tr
 | .mk op sort name num ks=>Zsc f op sort name num ks (Zbe f ks)
def Zbe (f:Yi->Option Tr):List Tr->List Tr
 | []=>[]
 |k::r=>Zb4 f k::Zbe f r
end
theorem Zc1 (f:Yi->Option Tr):∀ks,(Zbe f ks).length=ks.length
 | []=>rfl
 |k::r=>by simp[Zbe,Zc1 f r]
theorem Zmi {sort:Int}{name num:Yi}{ks:List Tr}(h:WF (.mk 4 sort name num ks)):ks=[]:=by
 rw[WF]at h;have:=h.2.1;simp[Yy]at this;exact this
mutual
theorem Z05 (f:Yi->Option Tr)(hf:∀x t,f x=some t->WF t):∀t,WF t->WF (Zb4 f t)
 | .mk op sort name num ks,hw=>by
   rw[Zb4,Zsc];split
   .split
    .rename_i t' ht;exact hf _ _ ht
    .exact hw
   .rw [WF]at hw ⊢;exact⟨hw.1,by rw[Zc1];exact hw.2.1,Zu1 f hf ks hw.2.2⟩
theorem Zu1 (f:Yi->Option Tr)(hf:∀x t,f x=some t->WF t):∀ks,WFs ks->WFs (Zbe f ks)
 | [],_=>trivial
 |k::r,hw=>by
  rw[WFs]at hw;exact⟨Z05 f hf k hw.1,Zu1 f hf r hw.2⟩
end
def Z3i (f:Yi->Option Tr)(n:Nd):List Nd:=if n.op=4 then (match f n.name with
  |some t=>flat t
  |none=>[n]) else [n]
mutual
theorem Zw2 (f:Yi->Option Tr):∀t,WF t->flat (Zb4 f t)=(flat t).flatMap (Z3i f)
 | .mk op sort name num ks,hw=>by
   by_cases h4:op=4
   .subst h4;have hk:=Zmi hw;subst hk;simp only[Zb4,Zsc,if_true,flat,Tz,List.flatMap_cons,List.flatMap_nil,List.append_nil,Z3i];split<;>simp_all[flat,Tz]
   .rw [WF]at hw;have h1:=Zrf f ks hw.2.2;simp only[Zb4,Zsc,if_neg h4,flat,h1,List.flatMap_cons,Z3i,Zc1];rfl
theorem Zrf (f:Yi->Option Tr):∀ks,WFs ks->Tz (Zbe f ks)=(Tz ks).flatMap (Z3i f)
 | [],_=>rfl
 |k::r,hw=>by
  rw[WFs]at hw;simp only[Zbe,Tz,List.flatMap_append,Zw2 f k hw.1,Zrf f r hw.2]
end
theorem Z3h {op sort a b:Int}{l:List Int}(h:op≠15\/a=b):W7 op sort a l=W7 op sort b l:=by
 rcases h with h | h
 .simp only [W7,h,if_false]
 .rw [h]
theorem Zadl {sort a:Int}{l:List Int}(h:0 < W7 15 sort a l):a=3:=by
 by_cases h3:a=3
 .exact h3
 .simp [W7,h3]at h
mutual
theorem Zqe (f:Yi->Option Tr):∀t,WF t->0 < Ya t->(∀u∈Uq t,u.fn=false->∀r,f u.name=some r->Ya r=u.sort)->Ya (Zb4 f t)=Ya t
 | .mk op sort name num ks,hw,hp,hu=>by
   rw[Uq]at hu;by_cases h4:op=4
   .subst h4;have hk:=Zmi hw;subst hk;rw[Zb4,Zsc,if_pos rfl];cases hf:f name with
    |none=>rfl
    |some r=>
     simp only;rw[hu ⟨false,name,[],sort⟩ (by simp[Zpc]) rfl r hf];simp[Ya,Ys,W7]
   .rw [WF]at hw;obtain⟨hks,he⟩:=Zal hp;have h1:=Zd6 f ks hw.2.2 hks (fun u hu'=>hu u (List.mem_append_right _ hu'));rw[Zb4,Zsc,if_neg h4,he,Ya,h1];rw[if_pos]
    .refine Z3h ?_;by_cases h15:op=15
     .right;rw[he,h15]at hp;have h3:=Zadl hp;rw[h3];cases ks with
      |nil=>simp[Ve]at h3
      |cons k r=>
       obtain⟨kop,ks1,kn,knu,kk⟩:=k;simp only[Ve,Tr.op]at h3;subst h3;simp[Zbe,Zb4,Zsc,Ve,Tr.op]
     .exact .inl h15
    .rw [List.all_eq_true];intro s hs;rw[decide_eq_true_eq]
     have:∀(l:List Tr),(∀k∈l,0 < Ya k)->∀s∈Ys l,0 < s:=by
      intro l
      induction l with
      |nil=>intro _ s hs;simp[Ys]at hs
      |cons k r ih=>
       intro hl s hs;simp only[Ys,List.mem_cons]at hs;rcases hs with rfl | hs
       .exact hl k (by simp)
       .exact ih (fun k hk=>hl k (by simp[hk])) s hs
     exact this ks hks s hs
theorem Zd6 (f:Yi->Option Tr):∀ks,WFs ks->(∀k∈ks,0 < Ya k)->(∀u∈Uv ks,u.fn=false->∀r,f u.name=some r->Ya r=u.sort)->Ys (Zbe f ks)=Ys ks
 | [],_,_,_=>rfl
 |k::r,hw,hp,hu=>by
  rw[WFs]at hw;rw[Uv]at hu;have h1:=Zqe f k hw.1 (hp k (by simp)) (fun u h=>hu u (List.mem_append_left _ h));have h2:=Zd6 f r hw.2 (fun k hk=>hp k (by simp[hk])) (fun u h=>hu u (List.mem_append_right _ h));simp only[Zbe,Ys,h1,h2]
end
mutual
theorem Zp9 (f:Yi->Option Tr):∀t,WF t->0 < Ya t->(∀u∈Uq t,u.fn=false->∀r,f u.name=some r->Ya r=u.sort)->∀u,u∈Uq (Zb4 f t)↔(u∈Uq t/\(u.fn=true\/f u.name=none))\/∃v∈Uq t,v.fn=false/\∃r,f v.name=some r/\u∈Uq r
 | .mk op sort name num ks,hw,hp,hu,u=>by
   rw[Uq]at hu;by_cases h4:op=4
   .subst h4;have hk:=Zmi hw;subst hk;rw[Zb4,Zsc,if_pos rfl];cases hf:f name with
    |none=>
     simp only[Uq,Zpc,if_true,Uv,List.append_nil,List.mem_singleton];constructor
     .rintro rfl;exact .inl ⟨rfl,.inr hf⟩
     .rintro (⟨rfl,_⟩ | ⟨v,rfl,_,r,h,_⟩)
      .rfl
      .rw [hf]at h;cases h
    |some r=>
     simp only[Uq,Zpc,if_true,Uv,List.append_nil,List.mem_singleton];constructor
     .intro h;exact .inr ⟨_,rfl,rfl,r,hf,h⟩
     .rintro (⟨rfl,h⟩ | ⟨v,rfl,_,r',h,h'⟩)
      .rcases h with h | h
       .cases h
       .rw [hf]at h;cases h
      .rw [hf]at h;cases h;exact h'
   .rw [WF]at hw;obtain⟨hks,he⟩:=Zal hp;have hu2:∀u∈Uv ks,u.fn=false->∀r,f u.name=some r->Ya r=u.sort:=fun u hu'=>hu u (List.mem_append_right _ hu')
    have h1:=Zd6 f ks hw.2.2 hks hu2;have h2:=Zmj f ks hw.2.2 hks hu2 u;rw[Zb4,Zsc,if_neg h4];have hN:Zpc op sort name (Zbe f ks)=Zpc op sort name ks:=by simp only[Zpc,h1]
    have hNf:∀w∈Zpc op sort name ks,w.fn=true:=by
     intro w hw';unfold Zpc at hw';rw[if_neg h4]at hw';split at hw'
     .simp at hw';rw[hw']
     .cases hw'
    simp only[Uq,hN,List.mem_append,h2];constructor
    .rintro (h | ⟨h,h'⟩ | ⟨v,hv,h',h''⟩)
     .exact .inl ⟨.inl h,.inl (hNf u h)⟩
     .exact .inl ⟨.inr h,h'⟩
     .exact .inr ⟨v,.inr hv,h',h''⟩
    .rintro (⟨h | h,h'⟩ | ⟨v,hv | hv,h',h''⟩)
     .exact .inl h
     .exact .inr (.inl ⟨h,h'⟩)
     .have:=hNf v hv;rw[h']at this;cases this
     .exact .inr (.inr ⟨v,hv,h',h''⟩)
theorem Zmj (f:Yi->Option Tr):∀ks,WFs ks->(∀k∈ks,0 < Ya k)->(∀u∈Uv ks,u.fn=false->∀r,f u.name=some r->Ya r=u.sort)->∀u,u∈Uv (Zbe f ks)↔(u∈Uv ks/\(u.fn=true\/f u.name=none))\/∃v∈Uv ks,v.fn=false/\∃r,f v.name=some r/\u∈Uq r
 | [],_,_,_,u=>by simp[Zbe,Uv]
 |k::r,hw,hp,hu,u=>by
  rw[WFs]at hw;rw[Uv]at hu;have h1:=Zp9 f k hw.1 (hp k (by simp)) (fun u h=>hu u (List.mem_append_left _ h)) u;have h2:=Zmj f r hw.2 (fun k hk=>hp k (by simp[hk])) (fun u h=>hu u (List.mem_append_right _ h)) u;simp only[Zbe,Uv,List.mem_append,h1,h2];constructor
  .rintro ((⟨h,h'⟩ | ⟨v,hv,h',h''⟩) | (⟨h,h'⟩ | ⟨v,hv,h',h''⟩))
   .exact .inl ⟨.inl h,h'⟩
   .exact .inr ⟨v,.inl hv,h',h''⟩
   .exact .inl ⟨.inr h,h'⟩
   .exact .inr ⟨v,.inr hv,h',h''⟩
  .rintro (⟨h | h,h'⟩ | ⟨v,hv | hv,h',h''⟩)
   .exact .inl (.inl ⟨h,h'⟩)
   .exact .inr (.inl ⟨h,h'⟩)
   .exact .inl (.inr ⟨v,hv,h',h''⟩)
   .exact .inr (.inr ⟨v,hv,h',h''⟩)
end
def Z0i:List Nat->List Nat
 | []=>[]
 |k::r=>(k - 1)::r
def Zh0 (st:List Nat):List Nat:=st.dropWhile (fun k=>k==0)
def U8:List Nat->List Nd->Bool
 | _,[]=>false
 |st,n::r=>if 256 < (Zh0 st).length then true else U8 (n.kids.toNat::Z0i (Zh0 st)) r
theorem Z5f (st:List Nat)(r:List Nd):U8 (0::st) r=U8 st r:=by
 cases r with
 |nil=>rfl
 |cons n r=>
  have:Zh0 (0::st)=Zh0 st:=by simp[Zh0]
  simp only[U8,this]
theorem Zqi {st:List Nat}(h:st.head?≠some 0):Zh0 st=st:=by
 cases st with
 |nil=>rfl
 |cons k r=>
  have:k≠0:=by simpa using h
  simp[Zh0,List.dropWhile_cons,this]
mutual
theorem Zrm:∀(t:Tr) (st:List Nat) (r:List Nd),st.head?≠some 0->U8 st (flat t++r)=(decide (256 < st.length+(Xb t - 1))||U8 (Z0i st) r)
 | .mk op sort name num ks,st,r,hn=>by
   simp only[flat,List.cons_append,U8,Zqi hn,Xb,Nat.add_sub_cancel,Int.toNat_natCast];have h1:=Zoj ks (Z0i st) r;by_cases hl:256 < st.length
   .rw [if_pos hl,decide_eq_true (by omega)];rfl
   .rw [if_neg hl,h1];have hd:(Z0i st).length=st.length:=by cases st<;>rfl
    rw[hd];cases ks with
    |nil=>
     have:decide (256 < st.length+Y6 [])=false:=by rw[Y6,decide_eq_false_iff_not];omega
     rw[this];simp
    |cons k ks=>simp
theorem Zoj:∀(ks:List Tr) (st:List Nat) (r:List Nd),U8 (ks.length::st) (Tz ks++r)=((!ks.isEmpty&&decide (256 < st.length+Y6 ks))||U8 st r)
 | [],st,r=>by simp[Tz,Z5f]
 |k::ks,st,r=>by
  have h1:=Zrm k ((ks.length+1)::st) (Tz ks++r) (by simp);have h2:=Zoj ks st r;have hk:0 < Xb k:=by cases k;rw[Xb];omega
  have hd:Y6 (k::ks)=max (Xb k) (Y6 ks):=by rw[Y6]
  rw[hd];simp only[Tz,List.append_assoc,List.length_cons,h1,Z0i,Nat.add_sub_cancel,h2,List.isEmpty_cons,Bool.not_false,Bool.true_and];rw[<- Bool.or_assoc];congr 1;cases ks with
  |nil=>
   have h0:Y6 []=0:=by rw[Y6]
   rw[h0];simp only[List.isEmpty_nil,Bool.not_true,Bool.false_and,Bool.or_false];exact decide_eq_decide.2 (by omega)
  |cons a b=>
   simp only[List.isEmpty_cons,Bool.not_false,Bool.true_and];rw[Bool.eq_iff_iff];simp only[Bool.or_eq_true,decide_eq_true_eq];omega
end
theorem Z5g (t:Tr):U8 [] (flat t)=decide (257 < Xb t):=by
 have h:=Zrm t [] [] (by simp);have hk:0 < Xb t:=by cases t;rw[Xb];omega
 rw[List.append_nil]at h;rw[h];simp only[U8,List.length_nil,Bool.or_false,decide_eq_decide];omega
abbrev Yh:=Yi×List Nd
abbrev Wv (s:Yh):PV:=.agg [.str s.1,L 58 true (s.2.map Yb)]
def Tu (s:List Yh)(x:Yi):Int:=match s.findIdx? (fun p=>p.1==x) with
 |some k=>k
 |none=> -1
theorem Zoz (b:Bool)(s:List Yh)(x:Yi)(hl:s.length < 2^30):Xn vE 62 [L 47 b (s.map Wv),.str x] (.int .i64 (Tu s x)):=by
 unfold Tu;cases hf:s.findIdx? (fun p=>p.1==x) with
 |none=>
  have hall:∀i (h:i < s.length),s[i].1≠x:=fun i h=>by
   have:=List.findIdx?_eq_none_iff.1 hf s[i] (List.getElem_mem h);simpa using this
  replace hall:=Hide.mk hall;clear hf;intro K H;refine Wc Tryz.func62 ?_
  (refine Zm ?_;repeat'(first|(refine Zi fun _=>?_;try simp(disch:=first|exact Zq|fail)[*,Zs,Tryz.f62])|refine Ye ?_|refine Zx ?_|refine Zn ?_ ?_))
  refine Zh [0,1] (fun n sl h=>∃i:Nat,n=s.length - i/\i<=s.length/\sl 5=some (.int .i64 i)) s.length rfl ⟨0,by simp,by simp,by simp⟩ ?_;rintro n sl h Rk ⟨i,hn,hi,h5⟩;simp at Rk;by_cases hlt:i < s.length
  .have hx:=hall.get i hlt;generalize hy:s[i]=y at *
   (refine Zm ?_;repeat'(first|(refine Zi fun _=>?_;try simp(disch:=first|exact Zq|fail)[*,Zs])|refine Ye ?_|refine Zx ?_|refine Zn ?_ ?_))
   .rename_i e;exact absurd (hy ▸ e) hx
   .exact ⟨_,by omega,i+1,rfl,by omega,by omega⟩
  . (refine Zm ?_;repeat'(first|(refine Zi fun _=>?_;try simp(disch:=first|exact Zq|fail)[*,Zs])|refine Ye ?_|refine Zx ?_|refine Zn ?_ ?_))
 |some k=>
  obtain⟨hk,Yn,hall⟩:=List.findIdx?_eq_some_iff_getElem.1 hf;have Z84:s[k].1=x:=by simpa using Yn
  have Z9x:∀i (h:i < s.length),i < k->s[i].1≠x:=fun i h hi=>by simpa using hall i hi
  clear Yn hall hf;replace Z9x:=Hide.mk Z9x;intro K H;refine Wc Tryz.func62 ?_
  (refine Zm ?_;repeat'(first|(refine Zi fun _=>?_;try simp(disch:=first|exact Zq|fail)[*,Zs,Tryz.f62])|refine Ye ?_|refine Zx ?_|refine Zn ?_ ?_))
  refine Zh [0,1] (fun n sl h=>∃i:Nat,n=s.length - i/\i<=k/\sl 5=some (.int .i64 i)) s.length rfl ⟨0,by simp,by simp,by simp⟩ ?_;rintro n sl h Rk ⟨i,hn,hi,h5⟩;simp at Rk;by_cases hik:i < k
  .have hx:=Z9x.get i (by omega) hik;have hlt:i < s.length:=by omega
   clear Z84;generalize hy:s[i]=y at *
   (refine Zm ?_;repeat'(first|(refine Zi fun _=>?_;try simp(disch:=first|exact Zq|fail)[*,Zs])|refine Ye ?_|refine Zx ?_|refine Zn ?_ ?_))
   .rename_i e;exact absurd (hy ▸ e) hx
   .exact ⟨_,by omega,i+1,rfl,by omega,by omega⟩
  .have e:i=k:=by omega
   subst e;generalize hy:s[i]=y at *
   (refine Zm ?_;repeat'(first|(refine Zi fun _=>?_;try simp(disch:=first|exact Zq|fail)[*,Zs])|refine Ye ?_|refine Zx ?_|refine Zn ?_ ?_))
theorem Zqb {s:List Yh}{x:Yi}:Tu s x < 0↔x∉s.map (·.1):=by
 unfold Tu;cases hf:s.findIdx? (fun p=>p.1==x) with
 |none=>
  have h:=List.findIdx?_eq_none_iff.1 hf;simp only[List.mem_map,not_exists,not_and];exact⟨fun _ p hp e=>by simpa[e]using h p hp,fun _=>by decide⟩
 |some k=>
  obtain⟨hk,Yn,_⟩:=List.findIdx?_eq_some_iff_getElem.1 hf;simp only[List.mem_map];exact⟨fun h=>by omega,fun h=>absurd ⟨s[k],List.getElem_mem hk,by simpa using Yn⟩ h⟩
theorem Zabj (b:Bool)(s:List Yh)(hl:s.length < 2^30):Xn vE 61 [L 47 b (s.map Wv)] (.bool (!(decide (s.map (·.1)).Nodup))):=by
 intro K H;refine Wc Tryz.func61 ?_
 (refine Zm ?_;repeat'(first|(refine Zi fun _=>?_;try simp(disch:=first|exact Zq|fail)[*,Zs,Tryz.f61])|refine Ye ?_|refine Zx ?_|refine Zn ?_ ?_))
 refine Zh [0] (fun n sl h=>∃i:Nat,n=s.length - i/\i<=s.length/\sl 3=some (.int .i64 i)/\((s.map (·.1)).take i).Nodup) s.length rfl ⟨0,by simp,by simp,by simp,by simp⟩ ?_;rintro n sl h Rk ⟨i,hn,hi,h3,hnd⟩;simp at Rk;by_cases hlt:i < s.length
 .have hlm:i < (s.map (·.1)).length:=by simpa using hlt
  have htk:=Y8 (s.map (·.1)) i hlm;have h62:=Zoz (b&&s.isEmpty) (s.take i) s[i].1 (by simp;omega);have Zwj:=Zqb (s:=s.take i) (x:=s[i].1);rw[List.map_take]at Zwj h62;have hgm:(s.map (·.1))[i]=s[i].1:=by simp
  rw[hgm]at htk;by_cases hm:s[i].1∈(s.map (·.1)).take i
  .have hnn:¬ (s.map (·.1)).Nodup:=fun hN=>by
    have h2:((s.map (·.1)).take (i+1)).Nodup:=hN.sublist (List.take_sublist _ _);rw[htk,List.nodup_append]at h2;exact h2.2.2 _ hm _ (by simp) rfl
   have e:decide (s.map (·.1)).Nodup=false:=by simpa using hnn
   rw[e]
   have hge:0<=Tu (s.take i) s[i].1:=by
    have:¬ Tu (s.take i) s[i].1 < 0:=fun hh=>Zwj.1 hh hm
    omega
   clear Zwj hnd htk hm hnn hgm e;generalize Tu (s.take i) s[i].1=q at *;generalize hy:s[i]=y at *
   (refine Zm ?_;repeat'(first|(refine Zi fun _=>?_;try simp(disch:=first|exact Zq|fail)[*,Zs])|refine Ye ?_|refine Zx ?_|refine Zn ?_ ?_))
  .have hge:Tu (s.take i) s[i].1 < 0:=Zwj.2 hm
   have Zzl:((s.map (·.1)).take (i+1)).Nodup:=by
    rw[htk,List.nodup_append];exact⟨hnd,by simp,fun a ha b hb e=>by simp at hb;subst hb;exact hm (e ▸ ha)⟩
   replace Zzl:=Hide.mk Zzl;clear Zwj hnd htk hm hgm;generalize Tu (s.take i) s[i].1=q at *;generalize hy:s[i]=y at *
   (refine Zm ?_;repeat'(first|(refine Zi fun _=>?_;try simp(disch:=first|exact Zq|fail)[*,Zs])|refine Ye ?_|refine Zx ?_|refine Zn ?_ ?_))
   exact⟨_,by omega,i+1,rfl,by omega,by omega,Zzl.get⟩
 .have e:i=s.length:=by omega
  subst e;rw[show s.length=(s.map (·.1)).length by simp,List.take_length]at hnd;have e:decide (s.map (·.1)).Nodup=true:=by simpa using hnd
  rw[e]
  (refine Zm ?_;repeat'(first|(refine Zi fun _=>?_;try simp(disch:=first|exact Zq|fail)[*,Zs])|refine Ye ?_|refine Zx ?_|refine Zn ?_ ?_))
def Vd (s:List Yh):Prop:=∀x∈s,Tm x.1=true/\x.1.length<=2^19/\∃tr,VT x.2 tr
theorem VT.short {t:List Nd}{tr:Tr}(v:VT t tr):∀n∈t,n.Short:=v.good.short
theorem VT.sortL {t:List Nd}{tr:Tr}(v:VT t tr):Go.Proofs.YtabcdhcpilpojaaGreatDoor.sortL t=Ya tr:=by
 unfold Go.Proofs.YtabcdhcpilpojaaGreatDoor.sortL;rw[if_neg (by have:=v.len;omega),v.parse];have:Yx (Zt t)=true:=by unfold Yx;rw[decide_eq_true_eq];exact v.clean
 simp only[this,if_true]
theorem VT.ans59 {t:List Nd}{tr:Tr}(v:VT t tr)(b:Bool):Xn vE 59 [L 58 b (t.map Yb)] (.bool true):=by
 have h:=Zo0 b t v.short (by have:=v.len;omega);have hp:=v.pos;rw[v.sortL,decide_eq_true hp]at h;exact h
theorem VT.ans34 {t:List Nd}{tr:Tr}(v:VT t tr)(b:Bool):Xn vE 34 [L 58 b (t.map Yb)] (.int .i64 (Ya tr)):=by
 have h:=Zabt b t v.short (by have:=v.len;omega);rw[v.sortL]at h;exact h
theorem Zabk (b:Bool)(s:List Yh)(hl:s.length < 2^30)(hg:Vd s):Xn vE 60 [L 47 b (s.map Wv)] (.bool true):=by
 replace hg:=Hide.mk hg;intro K H;refine Wc Tryz.func60 ?_
 (refine Zm ?_;repeat'(first|(refine Zi fun _=>?_;try simp(disch:=first|exact Zq|fail)[*,Zs,Tryz.f60])|refine Ye ?_|refine Zx ?_|refine Zn ?_ ?_))
 refine Zh [0] (fun n sl h=>∃i:Nat,n=s.length - i/\i<=s.length/\sl 3=some (.int .i64 i)) s.length rfl ⟨0,by simp,by simp,by simp⟩ ?_;rintro n sl h Rk ⟨i,hn,hi,h3⟩;simp at Rk;by_cases hlt:i < s.length
 .obtain ⟨g1,g2,tr,g3⟩:=hg.get s[i] (List.getElem_mem hlt);have h30:=Zabu s[i].1 (by omega);rw[g1]at h30;have h59:=g3.ans59 true;clear g1 g3;generalize hy:s[i]=y at *
  (refine Zm ?_;repeat'(first|(refine Zi fun _=>?_;try simp(disch:=first|exact Zq|fail)[*,Zs])|refine Ye ?_|refine Zx ?_|refine Zn ?_ ?_))
  exact⟨_,by omega,i+1,rfl,by omega,by omega⟩
 . (refine Zm ?_;repeat'(first|(refine Zi fun _=>?_;try simp(disch:=first|exact Zq|fail)[*,Zs])|refine Ye ?_|refine Zx ?_|refine Zn ?_ ?_))
def Zbx (vs:List Use)(x:Yi)(s:Int):Bool:=vs.any fun u=>u.name==x&&u.sort==s
theorem Zag9 (b:Bool)(l:List Use)(n:Nd)(hl:l.length < 2^62):Xn vE 112 [L 69 b (l.map Xh),Yb n] (.bool (Zbx l n.name n.sort)):=by
 intro K H;refine Wc Tryz.func112 ?_
 (refine Zm ?_;repeat'(first|(refine Zi fun _=>?_;try simp(disch:=first|exact Zq|fail)[*,Zs,Tryz.f112])|refine Ye ?_|refine Zx ?_|refine Zn ?_ ?_))
 generalize hv3:H.stamp (H.next+3)=v3;refine Zh [0,3] (fun m sl h=>∃i:Nat,m=l.length - i/\i<=l.length/\sl 5=some (.int .i64 i)/\h.get (H.next+3)=some (v3,.cells [.int .i64 n.op,.int .i64 n.sort,.str n.name,.str n.num,.int .i64 n.kids])/\Zbx l n.name n.sort=Zbx (l.drop i) n.name n.sort) l.length rfl ⟨0,by simp[*]⟩ ?_;rintro m sl h hf ⟨i,hm,hi,h5,hg,hd⟩;simp at hf;by_cases hlt:i < l.length
 .rw [List.drop_eq_getElem_cons hlt]at hd;generalize hli:l[i]=u at *;obtain⟨fn,nm,ars,so⟩:=u;have Rv:nm≠n.name->(nm==n.name)=false:=fun h=>by simpa using h
  have hb2:so≠n.sort->(so==n.sort)=false:=fun h=>by simpa using h
  by_cases h1:nm=n.name
  .by_cases h2:so=n.sort
   .have e:Zbx l n.name n.sort=true:=by rw[hd];simp[Zbx,h1,h2]
    rw[e];clear hd e Rv hb2
    (simp(disch:=first|exact Zw|fail)[*,Zu])
    refine Yj false false [] [16,25] [H.next+3] [] false (by decide +kernel) ?_
    (refine Zm ?_;repeat'(first|(refine Zi fun _=>?_;try simp(disch:=first|exact Zw|fail)[*,Zu])|refine Zx ?_|refine Zn ?_ ?_))
   .have e:Zbx l n.name n.sort=Zbx (l.drop (i+1)) n.name n.sort:=by rw[hd];simp[Zbx,h1,h2]
    clear hd Rv;replace hb2:=hb2 h2;replace e:=Hide.mk e
    (simp(disch:=first|exact Zw|fail)[*,Zu])
    refine Yj false false [] [16,25] [H.next+3] [] false (by decide +kernel) ?_
    (refine Zm ?_;repeat'(first|(refine Zi fun _=>?_;try simp(disch:=first|exact Zw|fail)[*,Zu])|refine Zx ?_|refine Zn ?_ ?_))
    exact⟨_,by omega,i+1,rfl,by omega,by omega,e.get⟩
  .have e:Zbx l n.name n.sort=Zbx (l.drop (i+1)) n.name n.sort:=by rw[hd];simp[Zbx,h1]
   clear hd hb2;replace Rv:=Rv h1;replace e:=Hide.mk e
   (simp(disch:=first|exact Zw|fail)[*,Zu])
   refine Yj false false [] [16,25] [H.next+3] [] false (by decide +kernel) ?_
   (refine Zm ?_;repeat'(first|(refine Zi fun _=>?_;try simp(disch:=first|exact Zw|fail)[*,Zu])|refine Zx ?_|refine Zn ?_ ?_))
   exact⟨_,by omega,i+1,rfl,by omega,by omega,e.get⟩
 .have e:l.drop i=[]:=by simp;omega
  rw[e]at hd;replace hd:Zbx l n.name n.sort=false:=hd;rw[hd];clear e hd
  (refine Zm ?_;repeat'(first|(refine Zi fun _=>?_;try simp(disch:=first|exact Zw|fail)[*,Zu])|refine Zx ?_|refine Zn ?_ ?_))
structure UR (p ver:Nat)(vs fs:List Use)(lv lf:List Nat)(h:PH):Prop where
 ex:∃v f,h.get p=some (ver,.cells [v,f])/\Own h 69 v (vs.map Xh) lv/\Own h 155 f (fs.map Y5) lf
 pv:p∉lv
 pf:p∉lf
 vf:∀i∈lv,i∉lf
 lp:p < h.next
 ltv:∀i∈lv,i < h.next
 ltf:∀i∈lf,i < h.next
theorem _root_.Go.Pure.Own.refsO {h:PH}{g:Nat}{v:PV}{xs:List PV}{l:List Nat}(hA:Own h g v xs l):∀i∈l,∀ver o,h.get i=some (ver,o)->Pure.refsO o=[]:=by
 rcases hA with⟨rfl,rfl,rfl⟩ | ⟨i,ver,Yn,rfl,hg,rfl⟩
 .simp
 .intro j hj ver' o e;simp only[List.mem_singleton]at hj;subst hj;rw[hg]at e;cases e;rfl
theorem Zyx {h:PH}{l:List Nat}(h0:∀i∈l,∀ver o,h.get i=some (ver,o)->Pure.refsO o=[])(n:Nat):Pure.reach h (n+2) l=l:=by
 cases l with
 |nil=>rfl
 |cons a l=>
  rw[Pure.reach]
  .rw [List.flatMap_eq_nil_iff.2]
   .simp [Pure.reach]
   .intro i hi;cases e:h.get i with
    |none=>rfl
    |some x=>
     obtain⟨ver,o⟩:=x;exact h0 i hi ver o e
  .simp
theorem UR.reach {p ver:Nat}{vs fs:List Use}{lv lf:List Nat}{h:PH}(U:UR p ver vs fs lv lf h):Pure.reach h 4 [p]=p::(lv++lf):=by
 obtain⟨v,f,h1,h2,h3⟩:=U.ex
 have e1:Pure.refsO (.cells [v,f])=lv++lf:=by
  simp only[Pure.refsO,List.flatMap_cons,List.flatMap_nil,List.append_nil,h2.refs,h3.refs]
 have e2:Pure.reach h 3 (lv++lf)=lv++lf:=Zyx (fun i hi=>(List.mem_append.1 hi).elim (h2.refsO i) (h3.refsO i)) 1;simp only[Pure.reach,List.flatMap_cons,List.flatMap_nil,h1,List.append_nil,e1];rw[show Pure.reach h 3 (lv++lf)=lv++lf from e2];rfl
theorem _root_.Go.Pure.Own.some {h:PH}{g:Nat}{v:PV}{xs:List PV}{l:List Nat}(hA:Own h g v xs l):∀i∈l,(h.get i).isSome=true:=by
 rcases hA with⟨rfl,rfl,rfl⟩ | ⟨i,ver,Yn,rfl,hg,rfl⟩
 .simp
 .simp [hg]
theorem UR.some {p ver:Nat}{vs fs:List Use}{lv lf:List Nat}{h:PH}(U:UR p ver vs fs lv lf h):∀i∈p::(lv++lf),(h.get i).isSome=true:=by
 obtain⟨v,f,h1,h2,h3⟩:=U.ex;intro i hi;simp only[List.mem_cons,List.mem_append]at hi;rcases hi with rfl | hi | hi
 .rw [h1];rfl
 .exact h2.some i hi
 .exact h3.some i hi
theorem UR.frame {p ver:Nat}{vs fs:List Use}{lv lf:List Nat}{h h':PH}(U:UR p ver vs fs lv lf h)(hg:∀i∈p::(lv++lf),h'.get i=h.get i)(hn:h.next<=h'.next):UR p ver vs fs lv lf h':=by
 obtain⟨v,f,h1,h2,h3⟩:=U.ex;exact⟨⟨v,f,by rw[hg p (by simp),h1],h2.frame fun i hi=>hg i (by simp[hi]),h3.frame fun i hi=>hg i (by simp[hi])⟩,U.pv,U.pf,U.vf,by have:=U.lp;omega,fun i hi=>by have:=U.ltv i hi;omega,fun i hi=>by have:=U.ltf i hi;omega⟩
theorem _root_.Go.Pure.Own.belowC {h:PH}{g m:Nat}{v:PV}{xs:List PV}{l:List Nat}(hA:Own h g v xs l):Pure.below m 3 v=l.all fun i=>Nat.blt i m:=by
 rcases hA with⟨rfl,rfl,rfl⟩ | ⟨i,ver,Yn,rfl,hg,rfl⟩
 .rfl
 .simp [Pure.below]
theorem _root_.Go.Pure.Own.belowAt {h:PH}{g m:Nat}{v:PV}{xs:List PV}{l:List Nat}(hA:Own h g v xs l):∀i∈l,h.belowAt m i=true:=by
 rcases hA with⟨rfl,rfl,rfl⟩ | ⟨i,ver,Yn,rfl,hg,rfl⟩
 .simp
 .simp [PH.belowAt,hg,Xr]
theorem UR.settle {p ver:Nat}{vs fs:List Use}{lv lf Rr Ru:List Nat}{h h2:PH}(U:UR p ver vs fs lv lf h2)(hp:p < h.next)(h0v:∀i∈Rr,i < h.next)(h0f:∀i∈Ru,i < h.next)(hb:h.belowAt h.next p=true)(hv:lv=Rr\/Rr=[]/\∃i,lv=[i]/\h.next<=i)(hf:lf=Ru\/Ru=[]/\∃i,lf=[i]/\h.next<=i):
  ((p::(Rr++Ru)).all (fun i=>h2.belowAt h.next i)=true/\lv=Rr/\lf=Ru)\/(p::(Rr++Ru)).any (fun i=>!(h2.belowAt h.next i)&&h.belowAt h.next i)=true:=by
 obtain⟨v,f,h1,h2',h3⟩:=U.ex
 have hbp:h2.belowAt h.next p=(lv.all (fun i=>Nat.blt i h.next)&&lf.all fun i=>Nat.blt i h.next):=by
  simp only[PH.belowAt,h1,Xr,List.all_cons,List.all_nil,Bool.and_true,h2'.belowC,h3.belowC]
 have Zco:(lv.all (fun i=>Nat.blt i h.next)&&lf.all fun i=>Nat.blt i h.next)=false->(p::(Rr++Ru)).any (fun i=>!(h2.belowAt h.next i)&&h.belowAt h.next i)=true:=fun e=>by
  rw[List.any_eq_true];exact⟨p,by simp,by rw[hbp,e,hb];rfl⟩
 rcases hv with rfl | ⟨_,i,rfl,hi⟩
 .rcases hf with rfl | ⟨_,i,rfl,hi⟩
  .refine .inl ⟨?_,rfl,rfl⟩;rw[List.all_eq_true];intro i hi;simp only[List.mem_cons,List.mem_append]at hi;rcases hi with rfl | hi | hi
   .rw [hbp,Bool.and_eq_true,List.all_eq_true,List.all_eq_true];exact⟨fun i hi=>by rw[Nat.blt_eq];exact h0v i hi,fun i hi=>by rw[Nat.blt_eq];exact h0f i hi⟩
   .exact h2'.belowAt i hi
   .exact h3.belowAt i hi
  .right;apply Zco;have:Nat.blt i h.next=false:=by rw[<- Bool.not_eq_true,Nat.blt_eq];omega
   simp[this]
 .right;apply Zco;have:Nat.blt i h.next=false:=by rw[<- Bool.not_eq_true,Nat.blt_eq];omega
  simp[this]
def Su (s:List Use×List Use)(u:Use):List Use×List Use:=if u.fn then (s.1,s.2++[u]) else (if Zbx s.1 u.name u.sort then s.1 else s.1++[u],s.2)
def Wd:List Nd->List Bool->List Use
 |n::r,k::ks=>(if k then Xf n r else [])++Wd r ks
 | _,_=>[]
theorem Zcg {t:List Nd}{ks:List Bool}{i:Nat}(hl:ks.length=t.length)(hi:i < t.length):Wd (t.drop i) (ks.drop i)=(if ks[i]'(by omega) then Xf t[i] (t.drop (i+1)) else [])++Wd (t.drop (i+1)) (ks.drop (i+1)):=by
 rw[List.drop_eq_getElem_cons hi,List.drop_eq_getElem_cons (by omega:i < ks.length)];rfl
theorem Z72 (t:List Nd):Wd t (List.replicate t.length true)=Zt t:=by
 induction t with
 |nil=>rfl
 |cons n r ih=>simp[Wd,Zt,List.replicate_succ,ih]
structure AddI (t:List Nd)(ks:List Bool)(p ver:Nat)(s0:List Use×List Use)(Rr Ru:List Nat)(hb h0:PH)(i:Nat)(vs fs:List Use)(lv lf:List Nat)(h:PH):Prop where
 u:UR p ver vs fs lv lf h
 run:(Wd (t.drop i) (ks.drop i)).foldl Su (vs,fs)=(Wd t ks).foldl Su s0
 v:lv=Rr\/Rr=[]/\lv=[hb.next+57]
 f:lf=Ru\/Ru=[]/\lf=[hb.next+71]
 old:∀j,j < hb.next->j∉p::(Rr++Ru)->h.get j=h0.get j
 next:hb.next+74<=h.next
 nv:vs.length<=s0.1.length+i
 nf:fs.length<=s0.2.length+i
 fa:∀g∈fs,g.args.length < 2^30
theorem AddI.var {t:List Nd}{ks:List Bool}{p ver:Nat}{s0:List Use×List Use}{Rr Ru:List Nat}{hb h0:PH}{i:Nat}{vs fs:List Use}{lv lf l':List Nat}{h h':PH}{u:Use}{wv wf v':PV}(I:AddI t ks p ver s0 Rr Ru hb h0 i vs fs lv lf h)(hks:ks.length=t.length)(hi:i < t.length)(hk:ks[i]'(by omega)=true)
  (hu:Xf t[i] (t.drop (i+1))=[u]) (hfn:u.fn=false) (hh:Zbx vs u.name u.sort=false) (hp:p < hb.next) (hv0:∀i∈Rr,i < hb.next) (hf0:∀i∈Ru,i < hb.next) (hF:Own h 155 wf (fs.map Y5) lf) (hA:Own h' 69 v' (vs.map Xh++[Xh u]) l') (hl:l'=lv\/lv=[]/\l'=[hb.next+57]) (hn:h'.next=h.next)
  (Zk:∀j,j∉l'->h'.get j=h.get j):AddI t ks p ver s0 Rr Ru hb h0 (i+1) (vs++[u]) fs l' lf (h'.put p ver (.cells [v',wf])):=by
 have hv:l'=Rr\/Rr=[]/\l'=[hb.next+57]:=by
  rcases hl with rfl | ⟨rfl,rfl⟩
  .exact I.v
  .rcases I.v with e | ⟨_,e⟩
   .exact .inr ⟨e.symm,rfl⟩
   .cases e
 have hpl:p∉l':=by
  rcases hv with rfl | ⟨_,rfl⟩
  .rcases I.v with e | ⟨e,_⟩
   .rw [<- e];exact I.u.pv
   .rw [e];simp
  .simp only [List.mem_singleton];omega
 have Zzw:∀j∈l',j∉lf:=by
  intro j hj hjf
  have hjf':j∈Ru\/j=hb.next+71:=by
   rcases I.f with e | ⟨_,e⟩
   .rw [e]at hjf;exact .inl hjf
   .rw [e]at hjf;simp at hjf;exact .inr hjf
  rcases hl with rfl | ⟨rfl,rfl⟩
  .exact I.u.vf j hj hjf
  .simp only [List.mem_singleton]at hj;subst hj;rcases hjf' with h1 | h1
   .have:=hf0 _ h1;omega
   .omega
 refine⟨⟨⟨v',wf,by simp,?_,?_⟩,hpl,I.u.pf,Zzw,?_,?_,?_⟩,?_,hv,I.f,?_,?_,?_,?_,I.fa⟩
 .rw [List.map_append,List.map_cons,List.map_nil]
  exact hA.frame fun j hj=>by
   have:j≠p:=fun e=>hpl (e ▸ hj)
   simp[this]
 .exact hF.frame fun j hj=>by
   have h1:j≠p:=fun e=>I.u.pf (e ▸ hj)
   have h2:j∉l':=fun e=>Zzw j e hj
   simp[h1,Zk j h2]
 .have:=I.u.lp;simp[hn];omega
 .intro j hj;have Uf:=I.next
  have:j < hb.next+74:=by
   rcases hv with rfl | ⟨_,rfl⟩
   .have:=hv0 j hj;omega
   .simp at hj;omega
  simp[hn];omega
 .intro j hj;have:=I.u.ltf j hj;simp[hn];omega
 .have hr:=I.run;rw[Zcg hks hi,hk,if_pos rfl,hu,List.singleton_append,List.foldl_cons]at hr;rw[<- hr];congr 1;simp[Su,hfn,hh]
 .intro j hj hjn;have h1:j≠p:=fun e=>hjn (by simp[e])
  have h2:j∉l':=by
   rcases hv with rfl | ⟨_,rfl⟩
   .exact fun e=>hjn (by simp[e])
   .simp;omega
  simp only[Zgt,if_neg h1];rw[Zk j h2];exact I.old j hj hjn
 .have:=I.next;simp[hn];omega
 .have:=I.nv;simp;omega
 .have:=I.nf;omega
theorem AddI.fn {t:List Nd}{ks:List Bool}{p ver:Nat}{s0:List Use×List Use}{Rr Ru:List Nat}{hb h0:PH}{i:Nat}{vs fs:List Use}{lv lf l':List Nat}{h h':PH}{u:Use}{wv wf v':PV}(I:AddI t ks p ver s0 Rr Ru hb h0 i vs fs lv lf h)(hks:ks.length=t.length)(hi:i < t.length)(hk:ks[i]'(by omega)=true)
  (hu:Xf t[i] (t.drop (i+1))=[u]) (hfn:u.fn=true) (hua:u.args.length < 2^30) (hp:p < hb.next) (hv0:∀i∈Rr,i < hb.next) (hf0:∀i∈Ru,i < hb.next) (hV:Own h 69 wv (vs.map Xh) lv) (hA:Own h' 155 v' (fs.map Y5++[Y5 u]) l') (hl:l'=lf\/lf=[]/\l'=[hb.next+71]) (hn:h'.next=h.next)
  (Zk:∀j,j∉l'->h'.get j=h.get j):AddI t ks p ver s0 Rr Ru hb h0 (i+1) vs (fs++[u]) lv l' (h'.put p ver (.cells [wv,v'])):=by
 have hv:l'=Ru\/Ru=[]/\l'=[hb.next+71]:=by
  rcases hl with rfl | ⟨rfl,rfl⟩
  .exact I.f
  .rcases I.f with e | ⟨_,e⟩
   .exact .inr ⟨e.symm,rfl⟩
   .cases e
 have hpl:p∉l':=by
  rcases hv with rfl | ⟨_,rfl⟩
  .rcases I.f with e | ⟨e,_⟩
   .rw [<- e];exact I.u.pf
   .rw [e];simp
  .simp only [List.mem_singleton];omega
 have Zzw:∀j∈lv,j∉l':=by
  intro j hjf hj
  have hjf':j∈Rr\/j=hb.next+57:=by
   rcases I.v with e | ⟨_,e⟩
   .rw [e]at hjf;exact .inl hjf
   .rw [e]at hjf;simp at hjf;exact .inr hjf
  rcases hl with rfl | ⟨rfl,rfl⟩
  .exact I.u.vf j hjf hj
  .simp only [List.mem_singleton]at hj;subst hj;rcases hjf' with h1 | h1
   .have:=hv0 _ h1;omega
   .omega
 refine⟨⟨⟨wv,v',by simp,?_,?_⟩,I.u.pv,hpl,Zzw,?_,?_,?_⟩,?_,I.v,hv,?_,?_,?_,?_,?_⟩
 .exact hV.frame fun j hj=>by
   have h1:j≠p:=fun e=>I.u.pv (e ▸ hj)
   have h2:j∉l':=fun e=>Zzw j hj e
   simp[h1,Zk j h2]
 .rw [List.map_append,List.map_cons,List.map_nil]
  exact hA.frame fun j hj=>by
   have:j≠p:=fun e=>hpl (e ▸ hj)
   simp[this]
 .have:=I.u.lp;simp[hn];omega
 .intro j hj;have:=I.u.ltv j hj;simp[hn];omega
 .intro j hj;have Uf:=I.next
  have:j < hb.next+74:=by
   rcases hv with rfl | ⟨_,rfl⟩
   .have:=hf0 j hj;omega
   .simp at hj;omega
  simp[hn];omega
 .have hr:=I.run;rw[Zcg hks hi,hk,if_pos rfl,hu,List.singleton_append,List.foldl_cons]at hr;rw[<- hr];congr 1;simp[Su,hfn]
 .intro j hj hjn;have h1:j≠p:=fun e=>hjn (by simp[e])
  have h2:j∉l':=by
   rcases hv with rfl | ⟨_,rfl⟩
   .exact fun e=>hjn (by simp[e])
   .simp;omega
  simp only[Zgt,if_neg h1];rw[Zk j h2];exact I.old j hj hjn
 .have:=I.next;simp[hn];omega
 .have:=I.nv;omega
 .have:=I.nf;simp;omega
 .intro g hg;rcases List.mem_append.1 hg with hg | hg
  .exact I.fa g hg
  .simp at hg;subst hg;exact hua
theorem AddI.have {t:List Nd}{ks:List Bool}{p ver:Nat}{s0:List Use×List Use}{Rr Ru:List Nat}{hb h0:PH}{i:Nat}{vs fs:List Use}{lv lf:List Nat}{h:PH}{u:Use}(I:AddI t ks p ver s0 Rr Ru hb h0 i vs fs lv lf h)(hks:ks.length=t.length)(hi:i < t.length)(hk:ks[i]'(by omega)=true)
  (hu:Xf t[i] (t.drop (i+1))=[u]) (hfn:u.fn=false) (hh:Zbx vs u.name u.sort=true):AddI t ks p ver s0 Rr Ru hb h0 (i+1) vs fs lv lf h:=by
 refine⟨I.u,?_,I.v,I.f,I.old,I.next,by have:=I.nv;omega,by have:=I.nf;omega,I.fa⟩;have hr:=I.run;rw[Zcg hks hi,hk,if_pos rfl,hu,List.singleton_append,List.foldl_cons]at hr;rw[<- hr];congr 1;simp[Su,hfn,hh]
set_option maxHeartbeats 4000000 in
theorem Zafw {t:List Nd}{tr:Tr}(v:VT t tr)(b:Bool)(kb:PV)(ks:List Bool)(hks:ks.length=t.length)(hkb:kb=L 4 true []/\ks=List.replicate t.length true\/∃bk,kb=L 4 bk (ks.map .bool)){p ver:Nat}{s0:List Use×List Use}{Rr Ru:List Nat}{hb h0:PH}
  (hn0:h0.next=hb.next) (hg0:∀i∈p::(Rr++Ru),h0.get i=hb.get i) (U:UR p ver s0.1 s0.2 Rr Ru hb) (hl1:s0.1.length < 2^29) (hl2:s0.2.length < 2^29) (hfa:∀g∈s0.2,g.args.length < 2^30) (c:Code) (hc:Tryz.f63.body=some c):
  wp (Vu vE {base:=hb.next,lo:=hb.next,ok:=p::(Rr++Ru)} true c (Qn 0 [.ptr p ver 0,L 58 b (t.map Yb),kb]) {h0 with next:=hb.next+Tryz.f63.ntmps}) fun r=>(r.1=.normal\/r.1=.ret)/\wp (Uz vE r.2.1 r.2.2 Tryz.f63.results.toList) fun vs=>
   inlT r.2.2 (Vq vs)=some (.tuple [])/\ownT (Vq vs)=[]/\∃vs fs lv lf,AddI t ks p ver s0 Rr Ru hb h0 t.length vs fs lv lf r.2.2:=by
 have Vh:=Yg U.lp;have hsh:=v.short;have htl:=v.len;injection hc with hc
 subst hc
 (refine Zm ?_;repeat'(first|(refine Zi fun _=>?_;try simp(disch:=first|exact Zw|fail)[*,Zu,Tryz.f63,Zd U.lp])|refine Zx ?_|refine Zn ?_ ?_))
 refine Zh [0,1,2] (fun n sl h=>∃(i:Nat) (vs fs:List Use) (lv lf:List Nat),n=t.length - i/\i<=t.length/\sl 6=some (.int .i64 i)/\AddI t ks p ver s0 Rr Ru hb h0 i vs fs lv lf h) t.length rfl ⟨0,s0.1,s0.2,Rr,Ru,by simp,by simp,by simp,?_⟩ ?_
 .exact ⟨U.frame hg0 (by simp),rfl,.inl rfl,.inl rfl,fun j _ _=>rfl,by simp,by simp,by simp,hfa⟩
 rintro n sl h hf ⟨i,vs,fs,lv,lf,hn,hi,h6,I⟩;simp at hf
 have hca:∀j∈p::(lv++lf),can {base:=hb.next,lo:=hb.next,ok:=p::(Rr++Ru)} j=true:=by
  intro j hj;simp only[List.mem_cons,List.mem_append]at hj;simp only[can,Bool.or_eq_true,Nat.ble_eq,List.any_eq_true];rcases hj with rfl | hj | hj
  .exact .inr ⟨_,List.mem_cons_self,by simp⟩
  .rcases I.v with e | ⟨_,e⟩
   .exact .inr ⟨j,by rw[e]at hj;simp[hj],by simp⟩
   .rw [e]at hj;simp at hj;left;omega
  .rcases I.f with e | ⟨_,e⟩
   .exact .inr ⟨j,by rw[e]at hj;simp[hj],by simp⟩
   .rw [e]at hj;simp at hj;left;omega
 by_cases hlt:i < t.length
 .have Yz:=I.run;rw[Zcg hks hlt]at Yz;obtain⟨wv,wf,g1,g2,g3⟩:=I.u.ex;have Uf:=I.next;have hnv:=I.nv;have hnf:=I.nf;have h112:=g2.call (C:=vE) (K:={base:=hb.next,lo:=hb.next,ok:=p::(Rr++Ru)}) (fun j hj=>hca j (by simp[hj])) (f:=112) rfl [] [Yb t[i]] (Zag9 true vs t[i] (by omega)) rfl rfl rfl;simp only[List.nil_append]at h112;have hcp:=hca p (by simp);have hcv:∀j∈lv,can {base:=hb.next,lo:=hb.next,ok:=p::(Rr++Ru)} j=true:=fun j hj=>hca j (by simp[hj])
  have hcf:∀j∈lf,can {base:=hb.next,lo:=hb.next,ok:=p::(Rr++Ru)} j=true:=fun j hj=>hca j (by simp[hj])
  have hsv:=g2.same (n:=3);have hsf:=g3.same (n:=3)
  have stay:Wd (t.drop i) (ks.drop i)=Wd (t.drop (i+1)) (ks.drop (i+1))->AddI t ks p ver s0 Rr Ru hb h0 (i+1) vs fs lv lf h:=fun e=>
   ⟨I.u,by rw[<- e];exact I.run,I.v,I.f,I.old,I.next,by omega,by omega,I.fa⟩
  have skip:Xf t[i] (t.drop (i+1))=[]\/ks[i]'(by omega)=false->AddI t ks p ver s0 Rr Ru hb h0 (i+1) vs fs lv lf h:=fun e=>
   stay (by rw[Zcg hks hlt];rcases e with e | e<;>simp[e])
  have Z06:∀u,Xf t[i] (t.drop (i+1))=[u]->u.fn=false->ks[i]'(by omega)=true->Zbx vs u.name u.sort=true->AddI t ks p ver s0 Rr Ru hb h0 (i+1) vs fs lv lf h:=fun u a1 a2 a3 a4=>I.have hks hlt a3 a1 a2 a4
  have addv:∀u v' h' l',Xf t[i] (t.drop (i+1))=[u]->u.fn=false->ks[i]'(by omega)=true->Zbx vs u.name u.sort=false->Own h' 69 v' (vs.map Xh++[Xh u]) l'->(l'=lv\/lv=[]/\l'=[hb.next+57])->h'.next=h.next->(∀j,j∉l'->h'.get j=h.get j)->AddI t ks p ver s0 Rr Ru hb h0 (i+1) (vs++[u]) fs l' lf (h'.put p ver (.cells [v',wf])):=fun u v' h' l' a1 a2 a3 a4 a5 a6 a7 a8=>I.var (wv:=wv) hks hlt a3 a1 a2 a4 U.lp U.ltv U.ltf g3 a5 a6 a7 a8
  have addf:∀u v' h' l',Xf t[i] (t.drop (i+1))=[u]->u.fn=true->ks[i]'(by omega)=true->u.args.length < 2^30->Own h' 155 v' (fs.map Y5++[Y5 u]) l'->(l'=lf\/lf=[]/\l'=[hb.next+71])->h'.next=h.next->(∀j,j∉l'->h'.get j=h.get j)->AddI t ks p ver s0 Rr Ru hb h0 (i+1) vs (fs++[u]) lv l' (h'.put p ver (.cells [wv,v'])):=fun u v' h' l' a1 a2 a3 a4 a5 a6 a7 a8=>I.fn (wf:=wf) hks hlt a3 a1 a2 a4 U.lp U.ltv U.ltf g2 a5 a6 a7 a8
  have Sv:=fun f5=>v.app hlt f5
  have Xu:=v.args;have hpn:p < h.next:=I.u.lp;have hpv:=I.u.pv;have hpf:=I.u.pf;replace stay:=Hide.mk stay;replace skip:=Hide.mk skip;replace Z06:=Hide.mk Z06;replace addv:=Hide.mk addv;replace addf:=Hide.mk addf;replace Xu:=Hide.mk Xu;replace hcv:=Hide.mk hcv;replace hcf:=Hide.mk hcf;clear hca hfa I Yz;generalize hki:ks[i]'(by omega)=kk at *;have Za2f:(0 < t.length)=True:=by simp;omega
  generalize htd:t[i]=d at *;obtain⟨op,sort,name,num,kids⟩:=d;by_cases h4:op=4
  .subst h4;have hu:Xf (⟨4,sort,name,num,kids⟩:Nd) (t.drop (i+1))=[⟨false,name,[],sort⟩]:=by simp[Xf]
   replace hu:=Hide.mk hu;clear Sv;obtain⟨wv',h1,l',hapv,X4,hl',hn1,Zes⟩:=g2.app (K:={base:=hb.next,lo:=hb.next,ok:=p::(Rr++Ru)}) (dd:=57) hcv.get (ys:=[Xh ⟨false,name,[],sort⟩]) (T:={k:=.struct [(0,9),(1,3)],size:=2,bytes:=24,zero:=[.string ⟨#[]⟩,.int .i64 0]}) (by simp;omega) (by decide) (by decide) (by simp);simp only[List.length_cons,List.length_nil]at hapv;have hsv':=X4.same (n:=3)
   have hpl:h1.get p=some (ver,.cells [wv,wf]):=by
    rw[Zes p,g1];rcases hl' with rfl | ⟨_,rfl⟩
    .exact hpv
    .simp only [List.mem_singleton];have:=U.lp;omega
   obtain⟨hcw1,hcw2⟩:=X4.cells;replace X4:=Hide.mk X4;replace Zes:=Hide.mk Zes;replace hl':=Hide.mk hl';cases hh:Zbx vs name sort with
   |true=>
    rw[hh]at h112;rcases hkb with⟨rfl,hk0⟩ | ⟨bk,rfl⟩
    .have hkk:kk=true:=by subst hk0;simpa using hki.symm
     clear hk0
     (simp(disch:=first|exact Zw|fail)[*,Zu,Zd U.lp])
     refine Yj false false [] [] [] [] false (by decide +kernel) ?_
     (refine Zm ?_;repeat'(first|(refine Zi fun _=>?_;try simp(disch:=first|exact Zw|fail)[*,Zu,Zd U.lp])|refine Zx ?_|refine Zn ?_ ?_))
     exact⟨_,by omega,i+1,rfl,by omega,by omega,vs,fs,lv,lf,Z06.get _ hu.get rfl hkk hh⟩
    .cases kk with
     |true=>
      (simp(disch:=first|exact Zw|fail)[*,Zu,Zd U.lp])
      refine Yj false false [] [] [] [] false (by decide +kernel) ?_
      (refine Zm ?_;repeat'(first|(refine Zi fun _=>?_;try simp(disch:=first|exact Zw|fail)[*,Zu,Zd U.lp])|refine Zx ?_|refine Zn ?_ ?_))
      exact⟨_,by omega,i+1,rfl,by omega,by omega,vs,fs,lv,lf,Z06.get _ hu.get rfl rfl hh⟩
     |false=>
      (refine Zm ?_;repeat'(first|(refine Zi fun _=>?_;try simp(disch:=first|exact Zw|fail)[*,Zu,Zd U.lp])|refine Zx ?_|refine Zn ?_ ?_))
      exact⟨_,by omega,i+1,rfl,by omega,by omega,vs,fs,lv,lf,skip.get (.inr rfl)⟩
   |false=>
    rw[hh]at h112;rcases hkb with⟨rfl,hk0⟩ | ⟨bk,rfl⟩
    .have hkk:kk=true:=by subst hk0;simpa using hki.symm
     clear hk0
     (simp(disch:=first|exact Zw|fail)[*,Zu,Zd U.lp])
     refine Yj false false [] [] [] [] false (by decide +kernel) ?_
     (simp(disch:=first|exact Zw|fail)[*,Zu,Zd U.lp])
     refine Yj false false [] [] [] [] false (by decide +kernel) ?_
     (simp(disch:=first|exact Zw|fail)[*,Zu,Zd U.lp])
     exact⟨_,by omega,i+1,rfl,by omega,by omega,_,fs,l',lf,addv.get _ wv' h1 l' hu.get rfl hkk hh X4.get hl'.get hn1 Zes.get⟩
    .cases kk with
     |true=>
      (simp(disch:=first|exact Zw|fail)[*,Zu,Zd U.lp])
      refine Yj false false [] [] [] [] false (by decide +kernel) ?_
      (simp(disch:=first|exact Zw|fail)[*,Zu,Zd U.lp])
      refine Yj false false [] [] [] [] false (by decide +kernel) ?_
      (simp(disch:=first|exact Zw|fail)[*,Zu,Zd U.lp])
      exact⟨_,by omega,i+1,rfl,by omega,by omega,_,fs,l',lf,addv.get _ wv' h1 l' hu.get rfl rfl hh X4.get hl'.get hn1 Zes.get⟩
     |false=>
      (refine Zm ?_;repeat'(first|(refine Zi fun _=>?_;try simp(disch:=first|exact Zw|fail)[*,Zu,Zd U.lp])|refine Zx ?_|refine Zn ?_ ?_))
      exact⟨_,by omega,i+1,rfl,by omega,by omega,vs,fs,lv,lf,skip.get (.inr rfl)⟩
  .by_cases h5:op=5
   .subst h5;obtain⟨kt,rt,kn,hkn,hmn,Qb,hu⟩:=Sv rfl;simp only at hkn hu
    have hua:=Xu.get ⟨true,name,Ys kt,sort⟩ (by
     have h1:=Zac hlt;rw[htd,hu]at h1;exact Zr2 hlt (by rw[h1];simp))
    have Z99:=Z20 b t hsh (by omega) i hlt kt rt kn (by rw[htd];exact hkn) hmn;rw[htd]at Z99;simp only at Z99;obtain⟨wf',h1,l',hapf,X4,hl',hn1,Zes⟩:=g3.app (K:={base:=hb.next,lo:=hb.next,ok:=p::(Rr++Ru)}) (dd:=71) hcf.get (ys:=[Y5 ⟨true,name,Ys kt,sort⟩]) (T:={k:=.struct [(0,9),(1,22),(2,3)],size:=3,bytes:=48,zero:=[.string ⟨#[]⟩,.slice none 0 0,.int .i64 0]}) (by simp;omega) (by decide) (by decide) (by simp);simp only[List.length_cons,List.length_nil]at hapf;have hsf':=X4.same (n:=3)
    have hpl:h1.get p=some (ver,.cells [wv,wf]):=by
     rw[Zes p,g1];rcases hl' with rfl | ⟨_,rfl⟩
     .exact hpf
     .simp only [List.mem_singleton];have:=U.lp;omega
    obtain⟨hcw1,hcw2⟩:=X4.cells;have hpb:Nat.blt p h.next=true:=by rw[Nat.blt_eq];exact hpn
    replace hu:=Hide.mk hu;replace X4:=Hide.mk X4;replace Zes:=Hide.mk Zes;replace hl':=Hide.mk hl';replace hua:=Hide.mk hua;clear Sv h112 hmn Qb;rcases hkb with⟨rfl,hk0⟩ | ⟨bk,rfl⟩
    .have hkk:kk=true:=by subst hk0;simpa using hki.symm
     clear hk0
     (simp(disch:=first|exact Zw|fail)[*,Zu,Zd U.lp])
     refine Yj false false [] [66] [p] [69] true (by decide +kernel) ?_
     (simp(disch:=first|exact Zw|fail)[*,Zu,Zd U.lp,Pure.reach])
     exact⟨_,by omega,i+1,rfl,by omega,by omega,vs,_,lv,l',addf.get _ wf' h1 l' hu.get rfl hkk hua.get X4.get hl'.get hn1 Zes.get⟩
    .cases kk with
     |true=>
      (simp(disch:=first|exact Zw|fail)[*,Zu,Zd U.lp])
      refine Yj false false [] [66] [p] [69] true (by decide +kernel) ?_
      (simp(disch:=first|exact Zw|fail)[*,Zu,Zd U.lp,Pure.reach])
      exact⟨_,by omega,i+1,rfl,by omega,by omega,vs,_,lv,l',addf.get _ wf' h1 l' hu.get rfl rfl hua.get X4.get hl'.get hn1 Zes.get⟩
     |false=>
      (refine Zm ?_;repeat'(first|(refine Zi fun _=>?_;try simp(disch:=first|exact Zw|fail)[*,Zu,Zd U.lp])|refine Zx ?_|refine Zn ?_ ?_))
      exact⟨_,by omega,i+1,rfl,by omega,by omega,vs,fs,lv,lf,skip.get (.inr rfl)⟩
   .have hu:Xf (⟨op,sort,name,num,kids⟩:Nd) (t.drop (i+1))=[]:=by simp[Xf,h4,h5]
    replace hu:=Hide.mk hu;clear Sv h112;rcases hkb with⟨rfl,hk0⟩ | ⟨bk,rfl⟩
    .have hkk:kk=true:=by subst hk0;simpa using hki.symm
     clear hk0
     (refine Zm ?_;repeat'(first|(refine Zi fun _=>?_;try simp(disch:=first|exact Zw|fail)[*,Zu,Zd U.lp])|refine Zx ?_|refine Zn ?_ ?_))
     exact⟨_,by omega,i+1,rfl,by omega,by omega,vs,fs,lv,lf,skip.get (.inl hu.get)⟩
    .cases kk with
     |true=>
      (refine Zm ?_;repeat'(first|(refine Zi fun _=>?_;try simp(disch:=first|exact Zw|fail)[*,Zu,Zd U.lp])|refine Zx ?_|refine Zn ?_ ?_))
      exact⟨_,by omega,i+1,rfl,by omega,by omega,vs,fs,lv,lf,skip.get (.inl hu.get)⟩
     |false=>
      (refine Zm ?_;repeat'(first|(refine Zi fun _=>?_;try simp(disch:=first|exact Zw|fail)[*,Zu,Zd U.lp])|refine Zx ?_|refine Zn ?_ ?_))
      exact⟨_,by omega,i+1,rfl,by omega,by omega,vs,fs,lv,lf,skip.get (.inr rfl)⟩
 .have e:i=t.length:=by omega
  subst e;replace I:=Hide.mk I
  (refine Zm ?_;repeat'(first|(refine Zi fun _=>?_;try simp(disch:=first|exact Zw|fail)[*,Zu])|refine Zx ?_|refine Zn ?_ ?_))
  exact⟨vs,fs,lv,lf,I.get⟩
theorem UR.move {p ver:Nat}{vs fs:List Use}{lv lf:List Nat}{h h':PH}(U:UR p ver vs fs lv lf h)(hg:∀i∈p::(lv++lf),h'.get i=h.get i)(hp:p < h'.next)(hv:∀i∈lv,i < h'.next)(hf:∀i∈lf,i < h'.next):UR p ver vs fs lv lf h':=by
 obtain⟨v,f,h1,h2,h3⟩:=U.ex;exact⟨⟨v,f,by rw[hg p (by simp),h1],h2.frame fun i hi=>hg i (by simp[hi]),h3.frame fun i hi=>hg i (by simp[hi])⟩,U.pv,U.pf,U.vf,hp,hv,hf⟩
theorem UR.can {K:Pure.Loc}{p ver:Nat}{vs fs:List Use}{lv lf:List Nat}{h:PH}(U:UR p ver vs fs lv lf h)(hK:∀i∈p::(lv++lf),can K i=true):(p::(lv++lf)).all (fun i=>Pure.can K i&&(h.get i).isSome)=true:=by
 rw[List.all_eq_true];intro i hi;rw[hK i hi,U.some i hi];rfl
theorem UR.belowP {p ver:Nat}{vs fs:List Use}{lv lf:List Nat}{h:PH}(U:UR p ver vs fs lv lf h):h.belowAt h.next p=true:=by
 obtain⟨v,f,h1,h2,h3⟩:=U.ex;simp only[PH.belowAt,h1,Xr,List.all_cons,List.all_nil,Bool.and_true,h2.belowC,h3.belowC,Bool.and_eq_true,List.all_eq_true];exact⟨fun i hi=>by rw[Nat.blt_eq];exact U.ltv i hi,fun i hi=>by rw[Nat.blt_eq];exact U.ltf i hi⟩
structure Added (p ver:Nat)(vs fs:List Use)(Rr Ru ids:List Nat)(h h':PH):Prop where
 u:∃lv lf,UR p ver vs fs lv lf h'/\(lv=Rr\/Rr=[]/\∃i,lv=[i]/\h.next<=i)/\(lf=Ru\/Ru=[]/\∃i,lf=[i]/\h.next<=i)
 old:∀j,j < h.next->j∉p::(Rr++Ru)->h'.get j=h.get j\/h'.get j=(h.freeze ids).get j
 next:h.next<=h'.next
theorem Z2i {t:List Nd}{tr:Tr}(v:VT t tr)(b:Bool)(kb kb':PV)(ks:List Bool)(hks:ks.length=t.length)(hkb:kb'=L 4 true []/\ks=List.replicate t.length true\/∃bk,kb'=L 4 bk (ks.map .bool)){p ver:Nat}{s0:List Use×List Use}{Rr Ru ids:List Nat}{h:PH}
  (U:UR p ver s0.1 s0.2 Rr Ru h) (hl1:s0.1.length < 2^29) (hl2:s0.2.length < 2^29) (hfa:∀g∈s0.2,g.args.length < 2^30) (K:Pure.Loc) (hK:∀i∈p::(Rr++Ru),can K i=true)
  (Vi:inlV h kb=some kb') (hid:ownV kb=ids) (hidc:ids.all (can K)=true) (Zzw:∀i∈ids,i∉p::(Rr++Ru)) (hr:refs 3 kb'=[]):
  ∃h',Yf vE K 63 [.ptr p ver 0,L 58 b (t.map Yb),kb] h=some (.tuple [],h')/\Added p ver ((Wd t ks).foldl Su s0).1 ((Wd t ks).foldl Su s0).2 Rr Ru ids h h':=by
 refine Zum (fn:=Tryz.f63) (ok:=p::(Rr++Ru)) Tryz.func63 rfl rfl rfl (args':=[.ptr p ver 0,L 58 b (t.map Yb),kb']) (by simp[Vi]) ?_ (U.can hK) (by simpa[hid]using hidc) ?_
 .simpa [hr]using U.reach
 have hg0:∀i∈p::(Rr++Ru),(h.freeze ([PV.ptr p ver 0,L 58 b (t.map Yb),kb].flatMap ownV)).get i=h.get i:=by
  intro i hi;refine Rd fun j hj=>?_
  simp[hid]at hj;rintro rfl;exact Zzw j hj hi
 have hids:[PV.ptr p ver 0,L 58 b (t.map Yb),kb].flatMap ownV=ids:=by simp[hid]
 rw[hids]at hg0 ⊢;refine Pure.wp_mono (Zafw v b kb' ks hks hkb (h0:=h.freeze ids) (Xm _ _) hg0 U hl1 hl2 hfa _ rfl) ?_;rintro r ⟨h1,h2⟩;refine⟨h1,Pure.wp_mono h2 ?_⟩;rintro vs ⟨e1,e2,Qs,fs',lv,lf,I⟩;have Yz:=I.run;rw[List.drop_length,<- hks,List.drop_length]at Yz;simp only[Wd,List.foldl_nil]at Yz;have hv':lv=Rr\/Rr=[]/\∃i,lv=[i]/\h.next<=i:=I.v.imp_right fun⟨a,e⟩=>⟨a,_,e,by omega⟩
 have hf':lf=Ru\/Ru=[]/\∃i,lf=[i]/\h.next<=i:=I.f.imp_right fun⟨a,e⟩=>⟨a,_,e,by omega⟩
 refine⟨e1,e2,rfl,?_⟩;rw[<- Yz];rcases I.u.settle U.lp U.ltv U.ltf U.belowP hv' hf' with⟨hall,rfl,rfl⟩ | hany
 .refine .inl ⟨hall,?_,?_⟩
  all_goals refine⟨⟨lv,lf,I.u.move (fun i hi=>Zod (I.u.some i hi) hi) ?_ ?_ ?_,.inl rfl,.inl rfl⟩,?_,?_⟩
  .rw [W6];exact U.lp
  .rw [W6];exact U.ltv
  .rw [W6];exact U.ltf
  .exact fun j hj hjn=>.inl (U4 hjn)
  .rw [W6];omega
  .rw [W6,Xm];exact U.lp
  .rw [W6,Xm];exact U.ltv
  .rw [W6,Xm];exact U.ltf
  .exact fun j hj hjn=>.inr (U4 hjn)
  .rw [W6,Xm];omega
 .refine .inr ⟨hany,⟨lv,lf,I.u,hv',hf'⟩,fun j hj hjn=>.inr (I.old j hj hjn),by have:=I.next;omega⟩
structure UL (vs fs:List Use):Prop where
 v:∀u∈vs,u.fn=false/\u.args=[]
 f:∀u∈fs,u.fn=true
 nd:vs.Nodup
theorem UL.bad_vv {vs fs:List Use}(U:UL vs fs){a b:Nat}(ha:a < vs.length)(hb:b < a)(e:vs[a].name=(vs[b]'(by omega)).name):Yx (vs++fs)=false:=by
 unfold Yx;rw[decide_eq_false_iff_not];intro hC;have hb':b < vs.length:=by omega
 have:=hC vs[a] (by simp) vs[b] (by simp) e;exact List.pairwise_iff_getElem.1 U.nd b a hb' ha hb this.symm
theorem UL.bad_vf {vs fs:List Use}(U:UL vs fs){a b:Nat}(ha:a < vs.length)(hb:b < fs.length)(e:vs[a].name=fs[b].name):Yx (vs++fs)=false:=by
 unfold Yx;rw[decide_eq_false_iff_not];intro hC;have h1:=hC vs[a] (by simp) fs[b] (by simp) e;have h2:=(U.v vs[a] (List.getElem_mem ha)).1;have h3:=U.f fs[b] (List.getElem_mem hb);rw[h1,h3]at h2;cases h2
theorem UL.good {vs fs:List Use}(U:UL vs fs)(h1:∀a (ha:a < vs.length),∀b (hb:b < a),vs[a].name≠(vs[b]'(by omega)).name)(h2:∀a (ha:a < vs.length),∀b (hb:b < fs.length),vs[a].name≠fs[b].name)
  (h3:∀a (ha:a < fs.length),∀b (hb:b < a),fs[a].name=(fs[b]'(by omega)).name->fs[a].sort=(fs[b]'(by omega)).sort/\fs[a].args=(fs[b]'(by omega)).args):Yx (vs++fs)=true:=by
 unfold Yx;rw[decide_eq_true_iff];intro x hx y hy e
 have eqf:∀u∈fs,∀w∈fs,u.name=w.name->u.sort=w.sort->u.args=w.args->u=w:=fun u hu w hw a b c=>by
  have e1:=U.f u hu;have e2:=U.f w hw;obtain⟨u1,u2,u3,u4⟩:=u;obtain⟨w1,w2,w3,w4⟩:=w;simp only at *;rw[e1,e2,a,b,c]
 rcases List.mem_append.1 hx with hx | hx<;>rcases List.mem_append.1 hy with hy | hy
 .obtain ⟨a,ha,rfl⟩:=List.getElem_of_mem hx;obtain⟨b,hb,rfl⟩:=List.getElem_of_mem hy;rcases Nat.lt_trichotomy a b with h | h | h
  .exact absurd e.symm (h1 b hb a h)
  .subst h;rfl
  .exact absurd e (h1 a ha b h)
 .obtain ⟨a,ha,rfl⟩:=List.getElem_of_mem hx;obtain⟨b,hb,rfl⟩:=List.getElem_of_mem hy;exact absurd e (h2 a ha b hb)
 .obtain ⟨a,ha,rfl⟩:=List.getElem_of_mem hx;obtain⟨b,hb,rfl⟩:=List.getElem_of_mem hy;exact absurd e.symm (h2 b hb a ha)
 .obtain ⟨a,ha,rfl⟩:=List.getElem_of_mem hx;obtain⟨b,hb,rfl⟩:=List.getElem_of_mem hy;rcases Nat.lt_trichotomy a b with h | h | h
  .obtain ⟨e1,e2⟩:=h3 b hb a h e.symm;exact eqf _ hx _ hy e e1.symm e2.symm
  .subst h;rfl
  .obtain ⟨e1,e2⟩:=h3 a ha b h e;exact eqf _ hx _ hy e e1 e2
structure CL (p ver:Nat)(wv wf:PV)(hb h:PH):Prop where
 g:h.get p=some (ver,.cells [wv,wf])
 next:hb.next<=h.next
 old:∀j,j < hb.next->h.get j=hb.get j
set_option maxHeartbeats 4000000 in
theorem Zaft {p ver:Nat}{vs fs:List Use}{lv lf:List Nat}{h:PH}(U:UR p ver vs fs lv lf h)(W:UL vs fs)(hl1:vs.length < 2^30)(hl2:fs.length<=1)(K:Pure.Loc)(hK:∀i∈p::(lv++lf),can K i=true):Yf vE K 66 [.ptr p ver 0] h=some (.bool (!(Yx (vs++fs))),h):=by
 obtain⟨wv,wf,g1,g2,g3⟩:=U.ex;have Vh:=Yg U.lp
 have hbl:∀i∈p::(lv++lf),i < h.next:=by
  intro i hi;simp only[List.mem_cons,List.mem_append]at hi;rcases hi with rfl | hi | hi
  .exact U.lp
  .exact U.ltv i hi
  .exact U.ltf i hi
 refine X6 (ok:=p::(lv++lf)) (fn:=Tryz.f66) Tryz.func66 rfl rfl rfl (by simp) (by simpa using U.reach) (U.can hK) hbl ?_ ?_ (by simp)
 .intro i hi;simp only[List.mem_cons,List.mem_append]at hi;rcases hi with rfl | hi | hi
  .exact U.belowP
  .exact g2.belowAt i hi
  .exact g3.belowAt i hi
 have hlv:=g2.lenK (e:=69);have hlf:=g3.lenK (e:=155);rw[List.length_map]at hlv hlf;have hsv:=g2.same (n:=3);have hsf:=g3.same (n:=3);replace hbl:=Hide.mk hbl;have hpn:=U.lp;have Zwi:∀b,Yx (vs++fs)=b->(PV.bool (!(Yx (vs++fs))))=.bool (!b):=fun b e=>by rw[e]
 replace Zwi:=Hide.mk Zwi
 (refine Zm ?_;repeat'(first|(refine Zi fun _=>?_;try simp(disch:=first|exact Zw|fail)[*,Zu,Tryz.f66])|refine Zx ?_|refine Zn ?_ ?_))
 refine Zh [0] (fun m sl h'=>∃i:Nat,m=vs.length - i/\i<=vs.length/\sl 3=some (.int .i64 i)/\h'={h with next:=h.next+115}/\(∀a (ha:a < vs.length),a < i->∀b (hb:b < a),vs[a].name≠(vs[b]'(by omega)).name)/\(∀a (ha:a < vs.length),a < i->∀b (hb:b < fs.length),vs[a].name≠fs[b].name)) vs.length rfl ⟨0,by simp⟩ ?_;rintro m sl h' hf ⟨i,hm,hi,h3,rfl,hv1,hv2⟩;simp at hf;replace hv1:=Hide.mk hv1;replace hv2:=Hide.mk hv2;by_cases hlt:i < vs.length
 .obtain ⟨iv,vv,rfl,hgv,rfl⟩:=g2.pos hlt;generalize hvi:vs[i]=x;obtain⟨xf,xn,xa,xs⟩:=x
  (refine Zm ?_;repeat'(first|(refine Zi fun _=>?_;try simp(disch:=first|exact Zw|fail)[*,Zu])|refine Zx ?_|refine Zn ?_ ?_))
  refine Zh [0,3] (fun m2 sl2 h2=>∃k:Nat,m2=i - k/\k<=i/\sl2 4=some (.int .i64 k)/\h2={h with next:=h.next+115}/\∀b (hb:b < k) (hb2:b < vs.length),xn≠vs[b].name) i rfl ⟨0,by simp⟩ ?_;rintro m2 sl2 h2 hf2 ⟨k,hm2,hk,h4,rfl,hno⟩;simp at hf2;replace hno:=Hide.mk hno;by_cases Qb:k < i
  .have hkv:k < vs.length:=by omega
   generalize hvk:vs[k]=y;obtain⟨yf,yn,ya,ys⟩:=y;by_cases hxy:xn=yn
   .have Zco:=Zwi.get _ (W.bad_vv hlt Qb (by rw[hvi,hvk];exact hxy));rw[Zco];clear Zco
    (simp(disch:=first|exact Zw|fail)[*,Zu])
    refine Yj false false [] [] [] [] false (by decide +kernel) ?_
    (simp(disch:=first|exact Zw|fail)[*,Zu])
   .have hxb:(xn==yn)=false:=by simpa using hxy
    (simp(disch:=first|exact Zw|fail)[*,Zu])
    refine Yj false false [] [] [] [] false (by decide +kernel) ?_
    (simp(disch:=first|exact Zw|fail)[*,Zu])
    refine⟨_,by omega,k+1,rfl,by omega,by omega,fun b hb hb2 e=>?_⟩;by_cases hbk:b=k
    .subst hbk;rw[hvk]at e;exact hxy e
    .exact hno.get b (by omega) hb2 e
  .have e:k=i:=by omega
   subst e
   (simp(disch:=first|exact Zw|fail)[*,Zu])
   refine Zh [0,3] (fun m2 sl2 h2=>∃q:Nat,m2=fs.length - q/\q<=fs.length/\sl2 5=some (.int .i64 q)/\h2={h with next:=h.next+115}/\∀b (hb:b < q) (hb2:b < fs.length),xn≠fs[b].name) fs.length rfl ⟨0,by simp[*]⟩ ?_;rintro m3 sl3 h3' hf3 ⟨q,hm3,hq,h5,rfl,Zst⟩;simp at hf3;replace Zst:=Hide.mk Zst;by_cases hql:q < fs.length
   .obtain ⟨jf,vf,rfl,hgf,rfl⟩:=g3.pos hql;generalize hfq:fs[q]=y;obtain⟨yf,yn,ya,ys⟩:=y;by_cases hxy:xn=yn
    .have Zco:=Zwi.get _ (W.bad_vf hlt hql (by rw[hvi,hfq];exact hxy));rw[Zco];clear Zco
     (simp(disch:=first|exact Zw|fail)[*,Zu])
     refine Yj false false [] [] [] [] false (by decide +kernel) ?_
     (simp(disch:=first|exact Zw|fail)[*,Zu])
    .have hxb:(xn==yn)=false:=by simpa using hxy
     (simp(disch:=first|exact Zw|fail)[*,Zu])
     refine Yj false false [] [] [] [] false (by decide +kernel) ?_
     (simp(disch:=first|exact Zw|fail)[*,Zu])
     refine⟨_,by omega,q+1,rfl,by omega,by omega,fun b hb hb2 e=>?_⟩;by_cases hbk:b=q
     .subst hbk;rw[hfq]at e;exact hxy e
     .exact Zst.get b (by omega) hb2 e
   .have e:q=fs.length:=by omega
    subst e
    (simp(disch:=first|exact Zw|fail)[*,Zu])
    refine⟨_,by omega,k+1,rfl,by omega,by omega,fun a ha hai b hb=>?_,fun a ha hai b hb=>?_⟩
    .by_cases hak:a=k
     .subst hak;rw[hvi];exact hno.get b hb (by omega)
     .exact hv1.get a ha (by omega) b hb
    .by_cases hak:a=k
     .subst hak;rw[hvi];exact Zst.get b hb hb
     .exact hv2.get a ha (by omega) b hb
 .have e:i=vs.length:=by omega
  subst e
  (simp(disch:=first|exact Zw|fail)[*,Zu])
  refine Zh [0] (fun m2 sl2 h2=>∃q:Nat,m2=fs.length - q/\q<=fs.length/\sl2 6=some (.int .i64 q)/\CL p ver wv wf h h2/\(∀a (ha:a < fs.length),a < q->∀b (hb:b < a),fs[a].name=(fs[b]'(by omega)).name->fs[a].sort=(fs[b]'(by omega)).sort/\fs[a].args=(fs[b]'(by omega)).args)) fs.length rfl ⟨0,by simp,by simp,by simp,⟨g1,by simp,fun j _=>rfl⟩,by simp⟩ ?_;rintro m2 sl2 h2 hf2 ⟨q,hm2,hq,h6,I,hff⟩;simp at hf2;have c1:=I.g;have c2:=I.next;replace hff:=Hide.mk hff;replace I:=Hide.mk I;by_cases hql:q < fs.length
  .obtain ⟨jf,vf,rfl,hgf,rfl⟩:=g3.pos hql;generalize hfq:fs[q]=x;obtain⟨xf,xn,xa,xs⟩:=x
   (simp(disch:=first|exact Zw|fail)[*,Zu])
   refine Zh [0,6] (fun m3 sl3 h3=>∃k:Nat,m3=q - k/\k<=q/\sl3 7=some (.int .i64 k)/\CL p ver wv (.own jf vf 155 0 fs.length) h h3) q rfl ⟨0,by simp,by simp,by simp,I.get⟩ ?_;rintro m3 sl3 h3' hf3 ⟨k,hm3,hk,h7,I3⟩;simp at hf3;have hq0:q=0:=by omega
   have hk0:k=0:=by omega
   subst hq0;subst hk0;replace I3:=Hide.mk I3
   (simp(disch:=first|exact Zw|fail)[*,Zu])
   exact⟨_,by omega,1,rfl,by omega,by omega,I3.get,fun a ha hai b hb=>by omega⟩
  .have Zk2:Yx (vs++fs)=true:=W.good (fun a ha b hb=>hv1.get a ha ha b hb) (fun a ha b hb=>hv2.get a ha ha b hb) (fun a ha b hb=>hff.get a ha (by omega) b hb);have hgd:=Zwi.get _ Zk2;rw[hgd];have Xa:=fun i hi=>I.get.old i (hbl.get i hi)
   clear hgd Zk2;replace Xa:=Hide.mk Xa
   (simp(disch:=first|exact Zw|fail)[*,Zu])
   exact fun a ha=>Xa.get a (by simp[ha])
def Zb7 (s:List Yh)(n:Nd):Option (List Nd):=if n.op=4 then (s.find? (fun p=>p.1==n.name)).map (·.2) else none
def rep (s:List Yh)(n:Nd):List Nd:=(Zb7 s n).getD [n]
def Sq (s:List Yh)(t:List Nd):List Nd:=t.flatMap (rep s)
def ixS (s:List Yh)(n:Nd):Int:=if n.op=4 then Tu s n.name else -1
def kbS (s:List Yh)(n:Nd):Bool:=decide (ixS s n < 0)
theorem Zc2 {s:List Yh}{x:Yi}:(Tu s x < 0/\s.find? (fun p=>p.1==x)=none)\/∃k,∃hk:k < s.length,Tu s x=(k:Int)/\s.find? (fun p=>p.1==x)=some s[k]/\s[k].1=x:=by
 unfold Tu;cases hf:s.findIdx? (fun p=>p.1==x) with
 |none=>
  left;refine⟨by decide,?_⟩;rw[List.find?_eq_none];intro p hp;have:=List.findIdx?_eq_none_iff.1 hf p hp;simpa using this
 |some k=>
  right;obtain⟨hk,Yn,hlt⟩:=List.findIdx?_eq_some_iff_getElem.1 hf;refine⟨k,hk,rfl,?_,by simpa using Yn⟩;rw[List.find?_eq_some_iff_getElem];exact⟨Yn,k,hk,rfl,fun j hj=>by simpa using hlt j hj⟩
theorem Tx (s:List Yh)(n:Nd):(ixS s n < 0/\kbS s n=true/\Zb7 s n=none/\rep s n=[n])\/∃k,∃hk:k < s.length,ixS s n=(k:Int)/\kbS s n=false/\Zb7 s n=some s[k].2/\rep s n=s[k].2/\n.op=4/\s[k].1=n.name:=by
 unfold kbS rep Zb7 ixS;by_cases h4:n.op=4
 .simp only [h4,if_true];rcases Zc2 (s:=s) (x:=n.name) with⟨h1,h2⟩ | ⟨k,hk,h1,h2,h3⟩
  .left;rw[h2];simp[h1]
  .right;rw[h2,h1];exact⟨k,hk,rfl,by simp,rfl,rfl,trivial,h3⟩
 .simp [h4]
theorem Zab1 (us:List Use):∀(s0:List Use×List Use),UL s0.1 s0.2->(∀u∈us,u.fn=false->u.args=[])->UL (us.foldl Su s0).1 (us.foldl Su s0).2/\(∀u,u∈(us.foldl Su s0).1++(us.foldl Su s0).2↔u∈s0.1++s0.2\/u∈us)/\(us.foldl Su s0).1.length<=s0.1.length+us.length /\
  (us.foldl Su s0).2.length=s0.2.length+(us.filter (·.fn)).length:=by
 induction us with
 |nil=>intro s0 h _;simp[h]
 |cons x us ih=>
  intro s0 hU ha;have ha':∀u∈us,u.fn=false->u.args=[]:=fun u hu=>ha u (by simp[hu])
  cases hx:x.fn with
  |true=>
   have e:Su s0 x=(s0.1,s0.2++[x]):=by simp[Su,hx]
   have hU':UL (Su s0 x).1 (Su s0 x).2:=by
    rw[e];refine⟨hU.v,fun u hu=>?_,hU.nd⟩;rcases List.mem_append.1 hu with hu | hu
    .exact hU.f u hu
    .simp at hu;rw[hu];exact hx
   obtain⟨i1,i2,i3,i4⟩:=ih _ hU' ha';rw[List.foldl_cons];refine⟨i1,fun u=>?_,?_,?_⟩
   .rw [i2,e];simp only[List.mem_append,List.mem_cons,List.not_mem_nil,or_false];constructor
    .rintro ((h | h | h) | h)<;>simp[h]
    .rintro ((h | h) | h | h)<;>simp[h]
   .rw [e]at i3 ⊢;simp at i3 ⊢;omega
   .rw [e]at i4 ⊢;simp[hx]at i4 ⊢;omega
  |false=>
   have hxa:=ha x (by simp) hx;cases hh:Zbx s0.1 x.name x.sort with
   |true=>
    have e:Su s0 x=s0:=by simp[Su,hx,hh]
    have Rb:x∈s0.1:=by
     unfold Zbx at hh;rw[List.any_eq_true]at hh;obtain⟨u,hu,h2⟩:=hh;simp only[Bool.and_eq_true,beq_iff_eq]at h2;obtain⟨q1,q2⟩:=hU.v u hu
     have:u=x:=by
      obtain⟨a,b,c,d⟩:=u;obtain⟨a',b',c',d'⟩:=x;simp only at *;rw[q1,hx,h2.1,h2.2,q2,hxa]
     rw[<- this];exact hu
    obtain⟨i1,i2,i3,i4⟩:=ih s0 hU ha';rw[List.foldl_cons,e];refine⟨i1,fun u=>?_,by simp;omega,by simp[hx];omega⟩;rw[i2];simp only[List.mem_cons];constructor
    .rintro (h | h)
     .exact .inl h
     .exact .inr (.inr h)
    .rintro (h | rfl | h)
     .exact .inl h
     .exact .inl (List.mem_append_left _ Rb)
     .exact .inr h
   |false=>
    have e:Su s0 x=(s0.1++[x],s0.2):=by simp[Su,hx,hh]
    have hnm:x∉s0.1:=fun hm=>by
     unfold Zbx at hh;rw[List.any_eq_false]at hh;exact hh x hm (by simp)
    have hU':UL (Su s0 x).1 (Su s0 x).2:=by
     rw[e];refine⟨fun u hu=>?_,hU.f,?_⟩
     .rcases List.mem_append.1 hu with hu | hu
      .exact hU.v u hu
      .simp at hu;rw[hu];exact⟨hx,hxa⟩
     .rw [List.nodup_append];exact⟨hU.nd,by simp,fun a Qu b hb e'=>by simp at hb;subst hb;exact hnm (e' ▸ Qu)⟩
    obtain⟨i1,i2,i3,i4⟩:=ih _ hU' ha';rw[List.foldl_cons];refine⟨i1,fun u=>?_,?_,?_⟩
    .rw [i2,e];simp only[List.mem_append,List.mem_cons,List.not_mem_nil,or_false];constructor
     .rintro (((h | h) | h) | h)<;>simp[h]
     .rintro ((h | h) | h | h)<;>simp[h]
    .rw [e]at i3 ⊢;simp at i3 ⊢;omega
    .rw [e]at i4 ⊢;simp[hx]at i4 ⊢;omega
theorem Zkk {a b:List Use}(h:∀u,u∈a↔u∈b):Yx a=Yx b:=by
 unfold Yx;rw[decide_eq_decide];unfold Clean;constructor
 .intro H u hu v hv;exact H u ((h u).2 hu) v ((h v).2 hv)
 .intro H u hu v hv;exact H u ((h u).1 hu) v ((h v).1 hv)
def Sc (t:List Nd)(s:List Yh):List Use:=s.flatMap fun x=>if Qk (Rn t) x.1 then Zt x.2 else []
def Zdx (t:List Nd)(s:List Yh):List Use:=Wd t (t.map (kbS s))++Sc t s
theorem Zii:∀ {t:List Nd} {ks:List Bool} {u:Use},u∈Wd t ks->u∈Zt t
 | [],ks,u,h=>by simp[Wd]at h
 |n::r,[],u,h=>by simp[Wd]at h
 |n::r,k::ks,u,h=>by
  simp only[Wd,List.mem_append]at h;simp only[Zt,List.mem_append];rcases h with h | h
  .split at h
   .exact .inl h
   .cases h
  .exact .inr (Zii h)
theorem Znn (p:Use->Bool):∀ {t:List Nd} {ks:List Bool},((Wd t ks).filter p).length<=((Zt t).filter p).length
 | [],ks=>by simp[Wd]
 |n::r,[]=>by simp[Wd]
 |n::r,k::ks=>by
  have:=Znn p (t:=r) (ks:=ks);simp only[Wd,Zt,List.filter_append,List.length_append];split<;>simp<;>omega
theorem Z3z (t:List Nd)(s:List Yh)(k:Nat)(h:k < s.length):Sc t (s.take (k+1))=Sc t (s.take k)++(if Qk (Rn t) s[k].1 then Zt s[k].2 else []):=by
 rw[Y8 s k h,Sc,List.flatMap_append];simp only[List.flatMap_cons,List.flatMap_nil,List.append_nil];rfl
theorem Znp {t:List Nd}{s:List Yh}{u:Use}(h:u∈Sc t s):∃x∈s,u∈Zt x.2:=by
 unfold Sc at h;rw[List.mem_flatMap]at h;obtain⟨x,hx,h⟩:=h;split at h
 .exact ⟨x,hx,h⟩
 .cases h
theorem Z8a (t:List Nd)(s:List Yh)(h:∀x∈s,x.2.length<=20000):(Sc t s).length<=s.length*20000:=by
 induction s with
 |nil=>simp[Sc]
 |cons x s ih=>
  have h1:=h x (by simp);have h2:=Zb2 x.2;have h3:=ih fun y hy=>h y (by simp[hy])
  have:Sc t (x::s)=(if Qk (Rn t) x.1 then Zt x.2 else [])++Sc t s:=by rw[Sc,List.flatMap_cons];rfl
  rw[this,List.length_append,List.length_cons];have h4:(s.length+1)*20000=s.length*20000+20000:=by omega
  rw[h4];split
  .omega
  .simp only [List.length_nil];omega
theorem Zmk {t:List Nd}{tr:Tr}(v:VT t tr){s:List Yh}(hg:Vd s)(hs:s.length<=1000)(hf1:((Zt t).filter (·.fn)).length<=1)(hf2:∀x∈s,∀u∈Zt x.2,u.fn=false)(ks:List Bool)(k:Nat){vs fs:List Use}(e:(Wd t ks++Sc t (s.take k)).foldl Su ([],[])=(vs,fs)):
  UL vs fs/\vs.length < 2^29/\fs.length<=1/\(∀g∈fs,g.args.length < 2^30)/\∀u,u∈vs++fs↔u∈Wd t ks++Sc t (s.take k):=by
 have Vi:∀u∈Wd t ks++Sc t (s.take k),(u.fn=false->u.args=[])/\u.args.length < 2^30:=by
  intro u hu;rcases List.mem_append.1 hu with hu | hu
  .exact ⟨Ze9 u (Zii hu),v.args u (Zii hu)⟩
  .obtain ⟨x,hx,hu⟩:=Znp hu;obtain⟨_,_,_,vx⟩:=hg x (List.take_subset _ _ hx);exact⟨Ze9 u hu,vx.args u hu⟩
 obtain⟨i1,i2,i3,i4⟩:=Zab1 (Wd t ks++Sc t (s.take k)) ([],[]) ⟨by simp,by simp,by simp⟩ (fun u hu=>(Vi u hu).1);rw[e]at i1 i2 i3 i4;simp only[List.nil_append,List.not_mem_nil,false_or,List.length_nil,Nat.zero_add,List.append_nil]at i2 i3 i4
 have hl1:(Wd t ks).length<=20000:=by
  have h1:=Znn (fun _=>true) (t:=t) (ks:=ks);rw[List.filter_eq_self.2 (by simp),List.filter_eq_self.2 (by simp)]at h1;have h2:=Zb2 t;have h3:=v.len;omega
 have hl2:(Sc t (s.take k)).length<=1000*20000:=by
  have h1:=Z8a t (s.take k) fun x hx=>by obtain⟨_,_,_,vx⟩:=hg x (List.take_subset _ _ hx);exact vx.len
  have h2:(s.take k).length<=1000:=by simp;omega
  exact Nat.le_trans h1 (Nat.mul_le_mul_right _ h2)
 have hf:((Wd t ks++Sc t (s.take k)).filter (·.fn)).length<=1:=by
  have h1:=Znn (fun u=>u.fn) (t:=t) (ks:=ks)
  have h2:(Sc t (s.take k)).filter (·.fn)=[]:=by
   rw[List.filter_eq_nil_iff];intro u hu;obtain⟨x,hx,hu⟩:=Znp hu;rw[hf2 x (List.take_subset _ _ hx) u hu];simp
  rw[List.filter_append,List.length_append,h2];simp only[List.length_nil];omega
 refine⟨i1,?_,?_,?_,i2⟩
 .rw [List.length_append]at i3;omega
 .rw [i4];exact hf
 .intro g hgm;exact (Vi g ((i2 g).1 (List.mem_append_right _ hgm))).2
def X0 (t:List Nd)(s:List Yh):List Nd×Int:=
 if ¬(s.map (·.1)).Nodup then ([],5)
 else if ∃n∈t,∃r,Zb7 s n=some r/\sortL r≠n.sort then ([],3)
 else if Yx (Zdx t s)=false then ([],3)
 else if 20000 < (Sq s t).length then ([],6)
 else if 0 < sortL (Sq s t) then (Sq s t,0) else ([],6)
theorem Zanl (b:Bool)(t:List Nd)(hs:∀n∈t,n.Short)(hl:t.length < 2^30):Xn vE 67 [L 58 b (t.map Yb)] (Zf3 (if 0 < sortL t then (t,0) else ([],6))):=by
 have h59:=Zo0 b t hs hl;clear hs;by_cases hv:0 < sortL t
 .rw [if_pos hv];rw[decide_eq_true hv]at h59;cases t with
  |nil=>exact absurd hv (by decide)
  |cons n r=>
   simp only[List.map_cons,Xs]at h59 ⊢;clear hv;intro K H;refine Wc Tryz.func67 ?_
   (refine Zm ?_;repeat'(first|(refine Zi fun _=>?_;try simp(disch:=first|exact Zq|fail)[*,Zs,Tryz.f67,Xs])|refine Ye ?_|refine Zx ?_|refine Zn ?_ ?_))
 .rw [if_neg hv];rw[decide_eq_false hv]at h59;clear hv;intro K H;refine Wc Tryz.func67 ?_
  (refine Zm ?_;repeat'(first|(refine Zi fun _=>?_;try simp(disch:=first|exact Zq|fail)[*,Zs,Tryz.f67,Wh])|refine Ye ?_|refine Zx ?_|refine Zn ?_ ?_))
theorem Zaa8 (t:List Nd)(b:Bool):∀m k,below m (k+1) (L 58 b (t.map Yb))=true:=by
 intro m k;cases b<;>cases t<;>rfl
theorem Zbp (t:List Nd)(e:Int):∀m,below m 4 (Zf3 (t,e))=true:=by
 intro m;simp only[below,List.all_cons,List.all_nil,Bool.and_true,Zaa8]
theorem Zxv (s:List Yh)(t:List Nd)(i:Nat)(h:i < t.length):Sq s (t.take (i+1))=Sq s (t.take i)++rep s t[i]:=by
 rw[Y8 t i h,Sq,List.flatMap_append];simp[Sq, -List.map_take]
theorem Zand (s:List Yh)(hg:∀x∈s,x.2.length<=20000)(t:List Nd):(Sq s t).length<=t.length*20000:=by
 induction t with
 |nil=>simp[Sq]
 |cons n r ih=>
  have h1:(rep s n).length<=20000:=by
   rcases Tx s n with⟨_,_,_,e⟩ | ⟨k,hk,_,_,_,e,_⟩
   .rw [e];simp
   .rw [e];exact hg _ (List.getElem_mem hk)
  have:Sq s (n::r)=rep s n++Sq s r:=by simp[Sq]
  rw[this,List.length_append,List.length_cons];omega
def Zfs (s:List Yh)(t:List Nd)(i:Nat):List PV:=((t.take i).map fun n=>PV.bool (kbS s n))++List.replicate (t.length - i) (.bool false)
theorem Z62 (s:List Yh)(t:List Nd)(i:Nat)(h:i<=t.length):(Zfs s t i).length=t.length:=by simp[Zfs];omega
theorem Z61 (s:List Yh)(t:List Nd)(i:Nat)(h:i < t.length):(Zfs s t i).set i (.bool (kbS s t[i]))=Zfs s t (i+1):=by
 unfold Zfs;rw[List.set_append_right _ _ (by simp;omega)];have e1:i - ((t.take i).map fun n=>PV.bool (kbS s n)).length=0:=by simp;omega
 have e2:t.length - i=(t.length - (i+1))+1:=by omega
 rw[e1,e2,List.replicate_succ,List.set_cons_zero,Y8 t i h,List.map_append,List.append_assoc];rfl
theorem Z63 (s:List Yh)(t:List Nd)(i:Nat)(h:i < t.length)(h2:i < (Zfs s t i).length):(Zfs s t i)[i]=.bool false:=by
 have e:(Zfs s t i)[i]?=some (PV.bool false):=by
  unfold Zfs;rw[List.getElem?_append_right (by simp;omega)];simp[List.getElem?_replicate];omega
 exact (List.getElem?_eq_some_iff.1 e).2
theorem Z3g (s:List Yh)(t:List Nd):Zfs s t t.length=(t.map (kbS s)).map .bool:=by
 unfold Zfs;rw[List.take_length];simp
structure RState (t:List Nd)(s:List Yh)(H:PH)(v6 v28 k:Nat)(h:PH):Prop where
 u:∃vs fs lv lf,UR (H.next+6) v6 vs fs lv lf h/\(Wd t (t.map (kbS s))++Sc t (s.take k)).foldl Su ([],[])=(vs,fs)/\∀j∈lv++lf,H.next<=j/\j≠H.next+28
 row:∃o,h.get (H.next+28)=some (v28,.row 4 o ((t.map (kbS s)).map .bool))
 next:H.next+138<=h.next
theorem RState.add {t:List Nd}{s:List Yh}{H:PH}{v6 v28 k:Nat}{h h':PH}{us:List Use}{vs fs:List Use}{lv lf:List Nat}(R:RState t s H v6 v28 k h)(U:UR (H.next+6) v6 vs fs lv lf h)(e:(Wd t (t.map (kbS s))++Sc t (s.take k)).foldl Su ([],[])=(vs,fs))(hj:∀j∈lv++lf,H.next<=j/\j≠H.next+28)
  (A:Added (H.next+6) v6 (us.foldl Su (vs,fs)).1 (us.foldl Su (vs,fs)).2 lv lf [] h h') (hn:Sc t (s.take (k+1))=Sc t (s.take k)++us):RState t s H v6 v28 (k+1) h':=by
 obtain⟨lv',lf',U',e1,e2⟩:=A.u;have Uf:=R.next;refine⟨⟨_,_,lv',lf',U',?_,?_⟩,?_,by have:=A.next;omega⟩
 .rw [hn,<- List.append_assoc,List.foldl_append,e]
 .intro j hjm;rcases List.mem_append.1 hjm with hm | hm
  .rcases e1 with rfl | ⟨_,i,rfl,hi⟩
   .exact hj j (by simp[hm])
   .simp at hm;omega
  .rcases e2 with rfl | ⟨_,i,rfl,hi⟩
   .exact hj j (by simp[hm])
   .simp at hm;omega
 .obtain ⟨o,ho⟩:=R.row;refine⟨o,?_⟩
  have h28:H.next+28∉(H.next+6)::(lv++lf):=by
   intro hm;simp only[List.mem_cons]at hm;rcases hm with hm | hm
   .omega
   .exact (hj _ hm).2 rfl
  rcases A.old (H.next+28) (by omega) h28 with e' | e'
  .rw [e',ho]
  .rw [e'];exact ho
theorem RState.same {t:List Nd}{s:List Yh}{H:PH}{v6 v28 k:Nat}{h:PH}(R:RState t s H v6 v28 k h)(hn:Sc t (s.take (k+1))=Sc t (s.take k)):RState t s H v6 v28 (k+1) h:=by
 obtain⟨vs,fs,lv,lf,U,e,hj⟩:=R.u;exact⟨⟨vs,fs,lv,lf,U,by rw[hn];exact e,hj⟩,R.row,R.next⟩
theorem RState.start {t:List Nd}{s:List Yh}{H:PH}{v6 v28:Nat}{h h':PH}(A:Added (H.next+6) v6 ((Wd t (t.map (kbS s))).foldl Su ([],[])).1 ((Wd t (t.map (kbS s))).foldl Su ([],[])).2 [] [] [H.next+28] h h')(Uf:h.next=H.next+138)(g28:h.get (H.next+28)=some (v28,.row 4 true ((t.map (kbS s)).map .bool))):RState t s H v6 v28 0 h':=by
 obtain⟨lv',lf',U',e1,e2⟩:=A.u;refine⟨⟨_,_,lv',lf',U',by simp[Sc],?_⟩,?_,by have:=A.next;omega⟩
 .intro j hjm;rcases List.mem_append.1 hjm with hm | hm
  .rcases e1 with rfl | ⟨_,i,rfl,hi⟩
   .simp at hm
   .simp at hm;omega
  .rcases e2 with rfl | ⟨_,i,rfl,hi⟩
   .simp at hm
   .simp at hm;omega
 .rcases A.old (H.next+28) (by omega) (by simp) with e' | e'
  .exact ⟨true,by rw[e',g28]⟩
  .exact ⟨false,by rw[e'];simp[g28]⟩
set_option maxHeartbeats 4000000 in
theorem Zanu {t:List Nd}{tr:Tr}(v:VT t tr)(b b1:Bool)(s:List Yh)(hg:Vd s)(hs:s.length<=1000)(hf1:((Zt t).filter (·.fn)).length<=1)(hf2:∀x∈s,∀u∈Zt x.2,u.fn=false):Xn vE 17 [L 58 b (t.map Yb),L 47 b1 (s.map Wv)] (Zf3 (X0 t s)):=by
 have h59:=v.ans59 b;have h60:=Zabk b1 s (by omega) hg;have h61:=Zabj b1 s (by omega);have hl:=v.len;by_cases hN:(s.map (·.1)).Nodup
 .have hV:∃V,X0 t s=V:=⟨_,rfl⟩
  obtain⟨V,hV⟩:=hV;rw[hV];have hV1:=hV;unfold X0 at hV1;rw[if_neg (by simpa using hN)]at hV1;rw[decide_eq_true hN]at h61;replace hV:=Hide.mk hV;replace hV1:=Hide.mk hV1;replace hf1:=Hide.mk hf1;replace hf2:=Hide.mk hf2;replace hg:=Hide.mk hg;have Z1s:Zfs s t 0=List.replicate t.length (.bool false):=by simp[Zfs]
  have Qa:∀i,(Sq s (t.take i)).length<=t.length*20000:=fun i=>by
   have:=Zand s (fun x hx=>by obtain⟨_,_,tr',v'⟩:=hg.get x hx;exact v'.len) (t.take i);have h2:(t.take i).length<=t.length:=by simp;omega
   exact Nat.le_trans this (Nat.mul_le_mul_right _ h2)
  have hszt:t.length*20000<=400000000:=by omega
  replace Z1s:=Hide.mk Z1s;replace Qa:=Hide.mk Qa;intro K H;refine Wc Tryz.func17 ?_
  (refine Zm ?_;repeat'(first|(refine Zi fun _=>?_;try simp(disch:=first|exact Zq|fail)[*,Zs,Tryz.f17])|refine Ye ?_|refine Zx ?_|refine Zn ?_ ?_))
  generalize hv28:H.stamp (H.next+28)=v28;generalize hv6:H.stamp (H.next+6)=v6
  refine Zh [0,1,6,8] (fun m sl h=>∃i:Nat,m=t.length - i/\i<=t.length/\sl 9=some (.int .i64 i)/\sl 7=some (.int .i64 ((Sq s (t.take i)).length:Nat))/\h.next=H.next+138/\h.get (H.next+6)=some (v6,.cells [.nils,.nils])/\h.get (H.next+28)=some (v28,.row 4 true (Zfs s t i)) /\
   ∀n∈t.take i,∀r,Zb7 s n=some r->sortL r=n.sort) t.length rfl ⟨0,by simp,by simp,by simp,by simp[Sq],by simp,by simp[*],by simp[Z1s.get, *],by simp⟩ ?_
  rintro m sl h Rk ⟨i,hm,hi,h9,h7,Uf,g6,g28,hok⟩;simp at Rk;replace hok:=Hide.mk hok;by_cases hlt:i < t.length
  .have R3:=Zxv s t i hlt;have Zaw:=Z61 s t i hlt;have hrl:=Z62 s t i hi;have hrg:∀hh,(Zfs s t i)[i]'hh=.bool false:=fun hh=>Z63 s t i hlt hh
   have hz1:=Qa.get i;have hz2:=Qa.get (i+1);rw[R3,List.length_append]at hz2;have htk:=Y8 t i hlt;have htm:=List.getElem_mem hlt;generalize htd:t[i]=d at *;generalize hT1:Sq s (t.take i)=T1 at *;generalize hR1:Zfs s t i=R1 at *;replace hrg:=hrg (by omega);replace R3:=Hide.mk R3;replace htk:=Hide.mk htk;rcases Tx s d with⟨c1,c2,c3,c4⟩ | ⟨k,hk,c1,c2,c3,c4,c5,c6⟩
   .rw [c2]at Zaw;rw[c4]at hz2
    have Xg:Hide (∀n∈t.take (i+1),∀r,Zb7 s n=some r->sortL r=n.sort):=Hide.mk (by
     rw[htk.get];intro n hn r hr;rcases List.mem_append.1 hn with hn | hn
     .exact hok.get n hn r hr
     .simp at hn;subst hn;rw[c3]at hr;cases hr)
    replace c3:=Hide.mk c3;have Zwk:Hide ((Sq s (t.take (i+1))).length=T1.length+1):=Hide.mk (by rw[R3.get,c4];simp);replace c4:=Hide.mk c4;clear hok;unfold ixS at c1;have h62:=Zoz b1 s d.name (by omega);by_cases h4:d.op=4
    .rw [if_pos h4]at c1;generalize Tu s d.name=q at *;obtain⟨op,sort,name,num,kids⟩:=d;simp only at h4;subst h4
     (refine Zm ?_;repeat'(first|(refine Zi fun _=>?_;try simp(disch:=first|exact Zq|fail)[*,Zs])|refine Ye ?_|refine Zx ?_|refine Zn ?_ ?_))
     exact⟨_,by omega,i+1,rfl,by omega,by omega,by rw[Zwk.get];omega,rfl,Xg.get⟩
    .clear h62 c1;obtain⟨op,sort,name,num,kids⟩:=d;simp only at h4
     (refine Zm ?_;repeat'(first|(refine Zi fun _=>?_;try simp(disch:=first|exact Zq|fail)[*,Zs])|refine Ye ?_|refine Zx ?_|refine Zn ?_ ?_))
     exact⟨_,by omega,i+1,rfl,by omega,by omega,by rw[Zwk.get];omega,rfl,Xg.get⟩
   .rw [c2]at Zaw;rw[c4]at hz2;obtain⟨_,_,trk,vk⟩:=hg.get s[k] (List.getElem_mem hk);have h34:=vk.ans34 true;have hsk:=vk.sortL;have hskl:=vk.len;have hskn:=vk.ne;have Zwk:Hide ((Sq s (t.take (i+1))).length=T1.length+s[k].2.length):=Hide.mk (by rw[R3.get,c4];simp);replace c4:=Hide.mk c4;have h62:=Zoz b1 s d.name (by omega);unfold ixS at c1;rw[if_pos c5]at c1;rw[c1]at h62
    have Xg:Hide (Ya trk=d.sort->∀n∈t.take (i+1),∀r,Zb7 s n=some r->sortL r=n.sort):=Hide.mk (by
     intro Ws;rw[htk.get];intro n hn r hr;rcases List.mem_append.1 hn with hn | hn
     .exact hok.get n hn r hr
     .simp at hn;subst hn;rw[c3]at hr;cases hr;rw[hsk,Ws])
    have Zco:Hide (Ya trk≠d.sort->V=([],3)):=Hide.mk (by
     intro Yn;rw[<- hV1.get,if_pos];exact⟨d,htm,_,c3,by rw[hsk];exact Yn⟩)
    replace c3:=Hide.mk c3;replace c6:=Hide.mk c6;clear hok hsk c1;generalize hskk:s[k]=sk at *;obtain⟨xk,rk⟩:=sk;simp only at hskn hskl hz2;generalize Ya trk=S at *;obtain⟨op,sort,name,num,kids⟩:=d;simp only at c5;subst c5;by_cases hS:S=sort
    .replace Xg:=Hide.mk (Xg.get hS);clear Zco;subst hS
     (refine Zm ?_;repeat'(first|(refine Zi fun _=>?_;try simp(disch:=first|exact Zq|fail)[*,Zs])|refine Ye ?_|refine Zx ?_|refine Zn ?_ ?_))
     refine⟨_,by omega,i+1,rfl,by omega,by omega,?_,?_,Xg.get⟩
     .have e:=Zwk.get;simp only at e;rw[e];omega
     .rw [show (decide ((k:Int) < 0))=false by rw[decide_eq_false_iff_not];omega];exact Zaw
    .have hVV:=Zco.get hS;clear Zco Xg;have hSb:(S==sort)=false:=by simpa using hS
     (refine Zm ?_;repeat'(first|(refine Zi fun _=>?_;try simp(disch:=first|exact Zq|fail)[*,Zs,Wh])|refine Ye ?_|refine Zx ?_|refine Zn ?_ ?_))
  .have hi2:i=t.length:=by omega
   subst hi2;rw[List.take_length]at h7;replace hok:=hok.get;rw[List.take_length]at hok;rw[Z3g]at g28
   have hV2:Hide ((if Yx (Zdx t s)=false then ([],3) else if 20000 < (Sq s t).length then ([],6) else if 0 < sortL (Sq s t) then (Sq s t,0) else ([],6))=V):=Hide.mk (by
    have hno:¬ ∃n∈t,∃r,Zb7 s n=some r/\sortL r≠n.sort:=by
     rintro⟨n,hn,r,h1,h2⟩;exact h2 (hok n hn r h1)
    have e:=hV1.get;rw[if_neg hno]at e;exact e)
   clear hok hV1 hV;have hUR0:UR (H.next+6) v6 (([],[]):List Use×List Use).1 (([],[]):List Use×List Use).2 [] [] h:=⟨⟨.nils,.nils,g6,Own.nil,Own.nil⟩,by simp,by simp,by simp,by omega,by simp,by simp⟩
   obtain⟨h1,hc63,A⟩:=Z2i v b (.own (H.next+28) v28 4 0 t.length) (L 4 false ((t.map (kbS s)).map .bool)) (t.map (kbS s)) (by simp) (.inr ⟨false,rfl⟩) (s0:=([],[])) hUR0 (by simp) (by simp) (by simp) {base:=H.next,lo:=H.next,ok:=[]} (by simp) (by simp[g28,L];exact List.take_of_length_le (by simp)) rfl (by simp) (by simp) (by simp[L]);have R0:=RState.start (s:=s) A Uf g28;clear A hUR0 g28 g6 Z1s;replace R0:=Hide.mk R0
   (refine Zm ?_;repeat'(first|(refine Zi fun _=>?_;try simp(disch:=first|exact Zq|fail)[*,Zs])|refine Ye ?_|refine Zx ?_|refine Zn ?_ ?_))
   have hszT:Hide ((Sq s t).length<=t.length*20000):=Hide.mk (by have:=Qa.get t.length;rwa [List.take_length]at this);clear Qa hm hi h9;refine Zh [0,1,6,7,8] (fun m sl h=>∃k:Nat,m=s.length - k/\k<=s.length/\sl 11=some (.int .i64 k)/\RState t s H v6 v28 k h) s.length rfl ⟨0,by simp,by simp,by simp,R0.get⟩ ?_;rintro m sl2 h2 Z9h ⟨k,hm,hk,h11,R⟩;simp[Rk]at Z9h;have Zsr:=R.next;by_cases Qb:k < s.length
   .obtain ⟨g1,g2,trk,vk⟩:=hg.get s[k] (List.getElem_mem Qb);obtain⟨vs,fs,lv,lf,U,e,hj⟩:=R.u;obtain⟨s1,s2,s3,s4,s5⟩:=Zmk v hg.get hs hf1.get hf2.get (t.map (kbS s)) k e;have R3:=Z3z t s k Qb;have h65:=Zabh b t v.short (by omega)
    have hvl:(Rn t).length < 2^62:=by
     unfold Rn;split
     .have:=Zo3 t [];simp at this;omega
     .simp
    have h64:=Zabi true (Rn t) s[k].1 hvl
    obtain⟨h3,Zair,A⟩:=Z2i vk true .nils (L 4 true []) (List.replicate s[k].2.length true) (by simp) (.inl ⟨rfl,rfl⟩) (s0:=(vs,fs)) U s2 (Nat.lt_of_le_of_lt s3 (by decide)) s4 {base:=H.next,lo:=H.next,ok:=[]} (by
     intro i hi;simp only[can,Bool.or_eq_true,Nat.ble_eq];left;rcases List.mem_cons.1 hi with rfl | hi
     .omega
     .exact (hj i hi).1) rfl rfl rfl (by simp) rfl
    rw[Z72]at A;cases hh:Qk (Rn t) s[k].1 with
    |true=>
     rw[hh]at h64;rw[hh,if_pos rfl]at R3;have R2:=R.add U e hj A R3;clear A R3 s1 s2 s3 s4 s5 U e hj R;replace R2:=Hide.mk R2;generalize hskk:s[k]=sk at *;obtain⟨xk,rk⟩:=sk;simp only at g1 g2 h64 Zair;clear hh
     (refine Zm ?_;repeat'(first|(refine Zi fun _=>?_;try simp(disch:=first|exact Zw|fail)[*,Zu,Wh])|refine Zx ?_|refine Zn ?_ ?_))
     refine Yj false true [91] [] [] [] false (by decide +kernel) ?_
     (refine Zm ?_;repeat'(first|(refine Zi fun _=>?_;try simp(disch:=first|exact Zw|fail)[*,Zu,Wh])|refine Zx ?_|refine Zn ?_ ?_))
     exact⟨_,by omega,k+1,rfl,by omega,by omega,R2.get⟩
    |false=>
     rw[hh]at h64;rw[hh,if_neg (by simp),List.append_nil]at R3;have R2:=R.same R3;clear A R3 s1 s2 s3 s4 s5 U e hj R Zair;replace R2:=Hide.mk R2;generalize hskk:s[k]=sk at *;obtain⟨xk,rk⟩:=sk;simp only at g1 g2 h64;clear hh
     (refine Zm ?_;repeat'(first|(refine Zi fun _=>?_;try simp(disch:=first|exact Zw|fail)[*,Zu,Wh])|refine Zx ?_|refine Zn ?_ ?_))
     refine Yj false true [91] [] [] [] false (by decide +kernel) ?_
     (refine Zm ?_;repeat'(first|(refine Zi fun _=>?_;try simp(disch:=first|exact Zw|fail)[*,Zu,Wh])|refine Zx ?_|refine Zn ?_ ?_))
     exact⟨_,by omega,k+1,rfl,by omega,by omega,R2.get⟩
   .have hks:k=s.length:=by omega
    subst hks;obtain⟨vs,fs,lv,lf,U,e,hj⟩:=R.u;obtain⟨s1,s2,s3,s4,s5⟩:=Zmk v hg.get hs hf1.get hf2.get (t.map (kbS s)) s.length e;rw[List.take_length]at s5
    have h66:=Zaft U s1 (by omega) s3 {base:=H.next,lo:=H.next,ok:=[]} (by
     intro i hi;simp only[can,Bool.or_eq_true,Nat.ble_eq];left;rcases List.mem_cons.1 hi with rfl | hi
     .omega
     .exact (hj i hi).1)
    rw[Zkk s5,show Wd t (t.map (kbS s))++Sc t s=Zdx t s from rfl]at h66;obtain⟨o28,g28⟩:=R.row;clear U e hj R s1 s2 s3 s4 s5 hf1 hf2;cases hcl:Yx (Zdx t s) with
    |false=>
     rw[hcl]at h66;have hVV:=hV2.get;rw[if_pos hcl]at hVV;subst hVV;clear hV2 hcl
     (refine Zm ?_;repeat'(first|(refine Zi fun _=>?_;try simp(disch:=first|exact Zw|fail)[*,Zu,Wh])|refine Zx ?_|refine Zn ?_ ?_))
    |true=>
     rw[hcl]at h66
     have hV3:Hide ((if 20000 < (Sq s t).length then ([],6) else if 0 < sortL (Sq s t) then (Sq s t,0) else ([],6))=V):=Hide.mk (by
      have:=hV2.get
      rwa [if_neg (by rw[hcl];simp)]at this)
     clear hV2 hcl;have hb2:=hszT.get;by_cases Zev:20000 < (Sq s t).length
     .have hVV:=hV3.get;rw[if_pos Zev]at hVV;subst hVV;clear hV3
      (refine Zm ?_;repeat'(first|(refine Zi fun _=>?_;try simp(disch:=first|exact Zw|fail)[*,Zu,Wh])|refine Zx ?_|refine Zn ?_ ?_))
     .have hV4:Hide ((if 0 < sortL (Sq s t) then (Sq s t,0) else ([],6))=V):=Hide.mk (by
       have:=hV3.get
       rwa [if_neg Zev]at this)
      clear hV3
      have hpa:∀i,(Sq s (t.take i)).length<=(Sq s t).length:=fun i=>by
       conv=>rhs;rw[<- List.take_append_drop i t]
       rw[Sq,Sq,List.flatMap_append,List.length_append];omega
      replace hpa:=Hide.mk hpa;have hkr:∀i (hi:i < t.length),((t.map (kbS s)).map PV.bool)[i]?=some (.bool (kbS s t[i])):=fun i hi=>by simp[List.getElem?_eq_getElem hi]
      generalize hKR:(t.map (kbS s)).map PV.bool=KR at *;have hKRl:KR.length=t.length:=by rw[<- hKR];simp
      replace hKR:=Hide.mk hKR
      (refine Zm ?_;repeat'(first|(refine Zi fun _=>?_;try simp(disch:=first|exact Zw|fail)[*,Zu,Wh])|refine Zx ?_|refine Zn ?_ ?_))
      clear h66 h61 h60 h59;refine Zh [0,1,8] (fun m sl h=>∃(i:Nat) (w:PV),m=t.length - i/\i<=t.length/\sl 13=some (.int .i64 i)/\sl 12=some w/\h.get (H.next+28)=some (v28,.row 4 o28 KR)/\Acc [120,133] ⟨H.next,H.next,[]⟩ h 58 w ((Sq s (t.take i)).map Yb)) t.length rfl ⟨0,.nils,by simp,by simp,by simp,by simp,by simp[*],Pure.Acc.nil⟩ ?_;clear hm hk h11 Zsr Qb;rintro m sl3 h4 hfr3 ⟨i,w,hm,hi,h13,h12,g28',hA⟩;simp[Z9h]at hfr3;clear Z9h;by_cases hlt:i < t.length
      .have R3:=Zxv s t i hlt;have hz2:=hpa.get (i+1);rw[R3,List.length_append]at hz2;have hkri:=hkr i hlt;obtain⟨hki1,hki2⟩:=List.getElem?_eq_some_iff.1 hkri;generalize htd:t[i]=d at *;generalize hT1:Sq s (t.take i)=T1 at *;replace R3:=Hide.mk R3;clear hkr hkri;rcases Tx s d with⟨c1,c2,c3,c4⟩ | ⟨k,hk,c1,c2,c3,c4,c5,c6⟩
       .rw [c2]at hki2;obtain⟨w',h5,Sv,X4,Ts,Zk⟩:=hA.app (dd:=120) (ys:=[Yb d]) (T:={k:=.struct [(0,3),(1,3),(2,9),(3,9),(4,3)],size:=5,bytes:=56,zero:=[.int .i64 0,.int .i64 0,.string ⟨#[]⟩,.string ⟨#[]⟩,.int .i64 0]}) (by simp) rfl (by simp;omega) (by decide) (by decide) (by simp);simp only[List.length_cons,List.length_nil]at Sv;have Ws:=hA.same (n:=3);have Zda:=X4.same (n:=3);have hg28:=Zk (H.next+28) (by simp)
        have Xg:Hide (Acc [120,133] ⟨H.next,H.next,[]⟩ h5 58 w' ((Sq s (t.take (i+1))).map Yb)):=Hide.mk (by
         rw[R3.get,c4,List.map_append];exact X4)
        clear X4 Zk c1 c2 c3 c4 hA;obtain⟨op,sort,name,num,kids⟩:=d
        (refine Zm ?_;repeat'(first|(refine Zi fun _=>?_;try simp(disch:=first|exact Zw|fail)[*,Zu])|refine Zx ?_|refine Zn ?_ ?_))
        exact⟨_,by omega,i+1,rfl,by omega,by omega,Xg.get⟩
       .rw [c2]at hki2;obtain⟨_,_,trk,vk⟩:=hg.get s[k] (List.getElem_mem hk);have hskl:=vk.len;have h62:=Zoz b1 s d.name (by omega);unfold ixS at c1;rw[if_pos c5]at c1;rw[c1]at h62;rw[c4]at hz2;obtain⟨w',h5,Sv,X4,Ts,Zk⟩:=hA.app' (dd:=133) (ys:=s[k].2.map Yb) (T:={k:=.struct [(0,3),(1,3),(2,9),(3,9),(4,3)],size:=5,bytes:=56,zero:=[.int .i64 0,.int .i64 0,.string ⟨#[]⟩,.string ⟨#[]⟩,.int .i64 0]}) (by simp) rfl (by simp;omega) (by decide) (by decide);rw[List.length_map]at Sv;have Ws:=hA.same (n:=3);have Zda:=X4.same (n:=3);have hg28:=Zk (H.next+28) (by simp)
        have Xg:Hide (Acc [120,133] ⟨H.next,H.next,[]⟩ h5 58 w' ((Sq s (t.take (i+1))).map Yb)):=Hide.mk (by
         rw[R3.get,c4,List.map_append];exact X4)
        clear X4 Zk c1 c2 c3 c4 hA vk;generalize hskk:s[k]=sk at *;obtain⟨xk,rk⟩:=sk;simp only at Sv hskl;obtain⟨op,sort,name,num,kids⟩:=d;simp only at c5;subst c5
        (refine Zm ?_;repeat'(first|(refine Zi fun _=>?_;try simp(disch:=first|exact Zw|fail)[*,Zu,-PH.elems])|refine Zx ?_|refine Zn ?_ ?_))
        exact⟨_,by omega,i+1,rfl,by omega,by omega,Xg.get⟩
      .have hit:i=t.length:=by omega
       subst hit;rw[List.take_length]at hA
       have hsh:∀n∈Sq s t,n.Short:=by
        intro n hn;unfold Sq at hn;rw[List.mem_flatMap]at hn;obtain⟨n0,hn0,hn⟩:=hn;rcases Tx s n0 with⟨_,_,_,e⟩ | ⟨k,hk,_,_,_,e,_⟩
        .rw [e]at hn;simp at hn;subst hn;exact v.short n hn0
        .rw [e]at hn;obtain⟨_,_,trk,vk⟩:=hg.get s[k] (List.getElem_mem hk);exact vk.short n hn
       have h67:=Zanl true (Sq s t) hsh (by omega);rw[hV4.get]at h67;obtain⟨x,e⟩:=V;obtain⟨h5,hc67,hnx5,Zas5⟩:=hA.callF (C:=vE) (f:=67) rfl rfl [] [] h67 (Zbp x e) rfl rfl;simp only[List.nil_append]at hc67;clear hsh hkr hA hpa Zas5 hV4
       (refine Zm ?_;repeat'(first|(refine Zi fun _=>?_;try simp(disch:=first|exact Zw|fail)[*,Zu,Zf3])|refine Zx ?_|refine Zn ?_ ?_))
 .rw [decide_eq_false hN]at h61;unfold X0;rw[if_pos hN];clear hN hf1 hf2 hg;intro K H;refine Wc Tryz.func17 ?_
  (refine Zm ?_;repeat'(first|(refine Zi fun _=>?_;try simp(disch:=first|exact Zq|fail)[*,Zs,Tryz.f17,Wh])|refine Ye ?_|refine Zx ?_|refine Zn ?_ ?_))
theorem Zann {t:List Nd}{tr:Tr}(v:VT t tr)(b:Bool):Xn vE 54 [L 58 b (t.map Yb)] (.int .i64 (Ya tr)):=by
 intro K H;obtain⟨p,vp,q,vq,ps,h1,hc,hV,Qq,Qu,ha3,ha4,Xa⟩:=Zi8 v b {base:=H.next,lo:=H.next,ok:=[]} {H with next:=H.next+19};simp only at hc Qq Qu Xa;have hv:=hV.view;have hr:=hV.row;have hlen:=hV.len;have h0:=hV.done 0 v.ne
 have hpa:partAt 257 t 0=(Ya tr,Xb tr,t.length):=by
  unfold partAt;rw[List.drop_zero,v.parse];simp
 rw[hpa]at h0;obtain⟨h01,h02⟩:=List.getElem?_eq_some_iff.1 h0;have Yn:=v.ne;have hl:=v.len;clear hV Xa h0 hpa;refine X6 (ok:=[]) (fn:=Tryz.f54) Tryz.func54 rfl rfl rfl (by simp) (by simp[reach]) (by simp) (by simp) (by simp) ?_ (by simp)
 (refine Zm ?_;repeat'(first|(refine Zi fun _=>?_;try simp(disch:=first|exact Zw|fail)[*,Zu,Tryz.f54])|refine Zx ?_|refine Zn ?_ ?_))
theorem Zabe {t:List Nd}{tr:Tr}(v:VT t tr)(b:Bool):Xn vE 99 [L 58 b (t.map Yb)] (L 69 true ((X9 (Zt t)).1.map Xh)):=by
 intro K H;obtain⟨p,vp,q,vq,ps,h1,hc,hV,Qq,Qu,ha3,ha4,Xa⟩:=Zi8 v b {base:=H.next,lo:=H.next,ok:=[]} {H with next:=H.next+22};simp only at hc Qq Qu Xa;have h109:=Zor (by omega) v.parse v.pos v.clean hV v.len {base:=H.next,lo:=H.next,ok:=[]} (by simp;omega) (by simp;omega) ha3 ha4;clear hV Xa;refine X6 (ok:=[]) (fn:=Tryz.f99) Tryz.func99 rfl rfl rfl (by simp) (by simp[reach]) (by simp) (by simp) (by simp) ?_ (by simp)
 (refine Zm ?_;repeat'(first|(refine Zi fun _=>?_;try simp(disch:=first|exact Zw|fail)[*,Zu,Tryz.f99])|refine Zx ?_|refine Zn ?_ ?_))
theorem Zahc {s:Yh}(h1:Tm s.1=true)(h2:s.1.length<=2^19){tr:Tr}(v:VT s.2 tr):Xn vE 104 [Wv s] (.bool false):=by
 have h85:=Zabg s.1 (by omega);rw[h1]at h85;have h49:=Zabp v true;clear h1 v;obtain⟨x,t⟩:=s;simp only at h85 h49;intro K H;refine Wc Tryz.func104 ?_
 (refine Zm ?_;repeat'(first|(refine Zi fun _=>?_;try simp(disch:=first|exact Zq|fail)[*,Zs,Tryz.f104])|refine Ye ?_|refine Zx ?_|refine Zn ?_ ?_))
theorem Zane (b:Bool)(s:List Yh)(hl:s.length < 2^30)(hg:Vd s):Xn vE 96 [L 47 b (s.map Wv),.fn 104 [] []] (.int .i64 (-1)):=by
 replace hg:=Hide.mk hg;intro K H;refine Wc Tryz.func96 ?_
 (refine Zm ?_;repeat'(first|(refine Zi fun _=>?_;try simp(disch:=first|exact Zq|fail)[*,Zs,Tryz.f96])|refine Ye ?_|refine Zx ?_|refine Zn ?_ ?_))
 refine Zh [0,1,7] (fun n sl h=>∃i:Nat,n=s.length - i/\i<=s.length/\sl 8=some (.int .i64 i)) s.length rfl ⟨0,by simp,by simp,by simp⟩ ?_;rintro n sl h Rk ⟨i,hn,hi,h8⟩;simp at Rk;by_cases hlt:i < s.length
 .obtain ⟨g1,g2,tr,g3⟩:=hg.get s[i] (List.getElem_mem hlt);have hc:=Zahc g1 g2 g3;clear g1 g2 g3
  (refine Zm ?_;repeat'(first|(refine Zi fun _=>?_;try simp(disch:=first|exact Zq|fail)[*,Zs])|refine Ye ?_|refine Zx ?_|refine Zn ?_ ?_))
  exact⟨_,by omega,i+1,rfl,by omega,by omega⟩
 . (refine Zm ?_;repeat'(first|(refine Zi fun _=>?_;try simp(disch:=first|exact Zq|fail)[*,Zs])|refine Ye ?_|refine Zx ?_|refine Zn ?_ ?_))
theorem Zahd (b:Bool)(s:List Yh)(hl:s.length < 2^30)(hg:Vd s):Xn vE 103 [L 47 b (s.map Wv),.fn 104 [] []] (.bool false):=by
 have hc:=Zane b s hl hg;clear hg;intro K H;refine Wc Tryz.func103 ?_
 (refine Zm ?_;repeat'(first|(refine Zi fun _=>?_;try simp(disch:=first|exact Zq|fail)[*,Zs,Tryz.f103])|refine Ye ?_|refine Zx ?_|refine Zn ?_ ?_))
theorem Zabo (b:Bool)(s:List Yh)(hl:s.length < 2^30)(hg:Vd s):Xn vE 50 [L 47 b (s.map Wv)] (.bool true):=by
 have hc:=Zahd b s hl hg;clear hg;intro K H;refine Wc Tryz.func50 ?_
 (refine Zm ?_;repeat'(first|(refine Zi fun _=>?_;try simp(disch:=first|exact Zq|fail)[*,Zs,Tryz.f50])|refine Ye ?_|refine Zx ?_|refine Zn ?_ ?_))
theorem Zabm (b:Bool)(s:List Yh)(hl:s.length < 2^29):Xn vE 52 [L 47 b (s.map Wv)] (L 9 true ((s.map (·.1)).map .str)):=by
 intro K H;refine Wc Tryz.func52 ?_
 (refine Zm ?_;repeat'(first|(refine Zi fun _=>?_;try simp(disch:=first|exact Zq|fail)[*,Zs,Tryz.f52])|refine Ye ?_|refine Zx ?_|refine Zn ?_ ?_))
 refine Zh [6,7] (fun n sl h=>∃(i:Nat) (w:PV),n=s.length - i/\i<=s.length/\sl 8=some (.int .i64 i)/\sl 3=some w/\Acc [16] ⟨H.next,H.next,[]⟩ h 9 w (((s.take i).map (·.1)).map .str)) s.length rfl ⟨0,.nils,by simp,by simp,by simp,by simp,Pure.Acc.nil⟩ ?_;rintro n sl h Rk ⟨i,w,hn,hi,h8,h3,hA⟩;simp at Rk;by_cases hlt:i < s.length
 .have htk:=Y8 s i hlt;generalize hy:s[i]=y at *;obtain⟨x,t⟩:=y;obtain⟨w',h',Sv,X4,Ts,Zk⟩:=(hA.frame (h':=(h.put (H.next+5) (h.stamp (H.next+5)) (.cells [.str [],.nils])).put (H.next+5) (h.stamp (H.next+5)) (.cells [.str x,L 58 true (t.map Yb)])) (fun d hd=>by simp at hd;subst hd;simp)).app (dd:=16) (ys:=[.str x]) (T:={k:=TK.str,size:=1,bytes:=16,zero:=[Value.string {data:=#[]}]}) (by simp) rfl (by simp;omega) (by decide) (by decide) (by simp);simp only[List.length_cons,List.length_nil]at Sv;have Ws:=hA.same (n:=3);have Zda:=X4.same (n:=3)
  have Xg:Hide (Acc [16] ⟨H.next,H.next,[]⟩ h' 9 w' (((s.take (i+1)).map (·.1)).map .str)):=Hide.mk (by
   rw[htk,List.map_append,List.map_append];exact X4)
  clear X4 Zk htk hA
  (refine Zm ?_;repeat'(first|(refine Zi fun _=>?_;try simp(disch:=first|exact Zq|fail)[*,Zs])|refine Ye ?_|refine Zx ?_|refine Zn ?_ ?_))
  exact⟨_,by omega,i+1,rfl,by omega,by omega,by simpa using Xg.get⟩
 .have hit:i=s.length:=by omega
  subst hit;rw[List.take_length]at hA;have Vi:=hA.inl;have Znz:=hA.inlT;rw[Vi]at Znz;have hot:=hA.ownT;clear hA Vi
  (refine Zm ?_;repeat'(first|(refine Zi fun _=>?_;try simp(disch:=first|exact Zq|fail)[*,Zs])|refine Ye ?_|refine Zx ?_|refine Zn ?_ ?_))
  exact hot
def Zr3 (l:List Use)(n:Nd):List Use:=if n.op=4 then [⟨false,n.name,[],n.sort⟩] else if n.op=5 then (l.find? (fun u=>u.name==n.name)).toList else []
def Ro (l:List Use)(out:List Nd):List Use:=out.flatMap (Zr3 l)
theorem Zym {l:List Use}{t:List Nd}{i:Nat}(h:i < t.length):Ro l (t.drop i)=Zr3 l t[i]++Ro l (t.drop (i+1)):=by
 rw[List.drop_eq_getElem_cons h];rfl
def Zty (out:List Nd)(l:List Use):Prop:=∀i (h:i < out.length),out[i].op=5->∃k,∃hk:k < l.length,l.findIdx? (fun u=>u.name==out[i].name)=some k/\Zr3 l out[i]=[l[k]]/\l[k].fn=true
set_option maxHeartbeats 4000000 in
theorem Zxo (out:List Nd)(bo:Bool)(l:List Use)(hkn:Zty out l)(hol:out.length < 2^29)(Rc:l.length < 2^29)(hla:∀g∈l,g.args.length < 2^30){p ver a va b vb:Nat}{vs0 fs0:List Use}{h:PH}(hf0:∀g∈fs0,g.args.length < 2^30)(U:UM p ver a va b vb vs0 fs0 h)(c:Code)(hc:Tryz.f56.body=some c):
  wp (Vu vE {base:=h.next,lo:=h.next,ok:=[p,a,b]} true c (Qn 0 [.ptr p ver 0,L 58 bo (out.map Yb),L 155 true (l.map Y5)]) {h with next:=h.next+Tryz.f56.ntmps}) fun r=>(r.1=.normal\/r.1=.ret)/\wp (Uz vE r.2.1 r.2.2 Tryz.f56.results.toList) fun vs=>
   inlT r.2.2 (Vq vs)=some (.bool (W1 vs0 fs0 (Ro l out)).1)/\ownT (Vq vs)=[]/\r.2.2.get p=h.get p/\r.2.2.get a=some (va,Zpi (W1 vs0 fs0 (Ro l out)).2.1)/\r.2.2.get b=some (vb,Zpj (W1 vs0 fs0 (Ro l out)).2.2):=by
 have Vh:=Yg U.lp;have had:=Yg U.la;have hbd:=Yg U.lb;have Zpq:(p=a)=False:=by simp[U.pa]
 have Zio:(p=b)=False:=by simp[U.pb]
 injection hc with hc
 subst hc
 (refine Zm ?_;repeat'(first|(refine Zi fun _=>?_;try simp(disch:=first|exact Zw|fail)[*,Zu,Tryz.f56,Zd U.lp,Zd U.la,Zd U.lb])|refine Zx ?_|refine Zn ?_ ?_))
 refine Zh [0,2,10,11] (fun n sl h'=>∃(i:Nat) (vs fs:List Use),n=out.length - i/\i<=out.length/\sl 12=some (.int .i64 i)/\W1 vs0 fs0 (Ro l out)=W1 vs fs (Ro l (out.drop i))/\UM p ver a va b vb vs fs h'/\(∀g∈fs,g.args.length < 2^30)/\h.next+40<=h'.next/\h'.get p=h.get p) out.length rfl ⟨0,vs0,fs0,by simp,by simp,by simp,by simp,⟨U.o,U.v,U.f,U.pa,U.pb,U.ab,by simp;have:=U.lp;omega,by simp;have:=U.la;omega,by simp;have:=U.lb;omega⟩,hf0,by simp,rfl⟩ ?_;rintro n sl h' hf ⟨i,vs,fs,hn,hi,h12,Yz,U',Un,Uf,hgp⟩;simp at hf;by_cases hlt:i < out.length
 .rw [Zym hlt]at Yz;have Z4e:=hkn i hlt;generalize hti:out[i]=nn at *;obtain⟨op,sort,name,num,kids⟩:=nn;by_cases h4:op=4
  .subst h4;have hu:Zr3 l (⟨4,sort,name,num,kids⟩:Nd)=[⟨false,name,[],sort⟩]:=by simp[Zr3]
   rw[hu]at Yz;simp only[List.singleton_append,W1,Bool.false_eq_true,if_false]at Yz;have Zs4:=fun (h2:PH) (U2:UM p ver a va b vb vs fs h2) (K:Pure.Loc) (a1:can K p=true) (a2:can K a=true) (a3:can K b=true)=>Zxj U2 name sort K a1 a2 a3
   generalize Xj:Qy vs fs name sort=st at *;obtain⟨okk,vs2⟩:=st;simp only at Yz Zs4
   (refine Zm ?_;repeat'(first|(refine Zi fun _=>?_;try simp(disch:=first|exact Zw|fail)[*,Zu,Zd U.lp,Zd U.la,Zd U.lb])|refine Zx ?_|refine Zn ?_ ?_))
   rw[Zs4 _ (U'.frame (by simp[Vh]) (by simp[had]) (by simp[hbd]) (by simp)) _ (by simp) (by simp) (by simp)];have U2:=(U'.frame (h2:=(h'.put (h.next+8) (h'.stamp (h.next+8)) (.cells [.int .i64 4,.int .i64 sort,.str name,.str num,.int .i64 kids]))) (by simp[Vh]) (by simp[had]) (by simp[hbd]) (by simp)).put vs2 fs;cases okk with
   |true=>
    simp only[if_true]at Yz;clear Zs4 Z4e hkn U2
    (refine Zm ?_;repeat'(first|(refine Zi fun _=>?_;try simp(disch:=first|exact Zw|fail)[*,Zu,Zd U.lp,Zd U.la,Zd U.lb])|refine Zx ?_|refine Zn ?_ ?_))
    exact⟨_,by omega,i+1,rfl,by omega,by omega,vs2,fs,rfl,(U'.frame (by simp[Vh]) (by simp[had]) (by simp[hbd]) (by simp)).put vs2 fs,Un⟩
   |false=>
    simp only[Bool.false_eq_true,if_false]at Yz;rw[Yz];clear Zs4 Z4e hkn U2
    (refine Zm ?_;repeat'(first|(refine Zi fun _=>?_;try simp(disch:=first|exact Zw|fail)[*,Zu,Zd U.lp,Zd U.la,Zd U.lb])|refine Zx ?_|refine Zn ?_ ?_))
    simp[Zpq,Zio,U.ab]
  .by_cases h5:op=5
   .subst h5;obtain⟨k,Qb,hfi,hus,hfn⟩:=Z4e rfl;simp only at hfi;rw[hus]at Yz;have hlk:=hla l[k] (List.getElem_mem Qb);have Zs3:=fun (h2:PH) (U2:UM p ver a va b vb vs fs h2) (K:Pure.Loc) (a1:can K p=true) (a2:can K a=true) (a3:can K b=true)=>Zxi U2 l[k] hlk Un K a1 a2 a3
    have h107:=fun (K:Pure.Loc) (H:PH) (Zz:can K (h.next+8)=true) (hlt:h.next+8 < H.next) (ver:Nat) (hp:H.get (h.next+8)=some (ver,.cells [.int .i64 5,.int .i64 sort,.str name,.str num,.int .i64 kids]))=>Zaa2 l k 5 sort kids name num hfi (by omega) K H (h.next+8) ver Zz hlt hp
    generalize hlk':l[k]=u at *;simp only[List.singleton_append,W1,hfn,if_true]at Yz
    have hfl2:∀g∈(R4 vs fs u).2,g.args.length < 2^30:=by
     unfold R4;split
     .exact Un
     .split
      .exact Un
      .intro g hg;rcases List.mem_append.1 hg with hg | hg
       .exact Un g hg
       .simp at hg;subst hg;exact hlk
    generalize Xj:R4 vs fs u=st at *;obtain⟨okk,fs2⟩:=st;simp only at Yz Zs3 hfl2
    (refine Zm ?_;repeat'(first|(refine Zi fun _=>?_;try simp(disch:=first|exact Zw|fail)[*,Zu,Zd U.lp,Zd U.la,Zd U.lb])|refine Zx ?_|refine Zn ?_ ?_))
    clear h107;rw[Zs3 _ (U'.frame (by simp[Vh]) (by simp[had]) (by simp[hbd]) (by simp)) _ (by simp) (by simp) (by simp)];cases okk with
    |true=>
     simp only[if_true]at Yz;clear Zs3 Z4e hkn
     (refine Zm ?_;repeat'(first|(refine Zi fun _=>?_;try simp(disch:=first|exact Zw|fail)[*,Zu,Zd U.lp,Zd U.la,Zd U.lb])|refine Zx ?_|refine Zn ?_ ?_))
     exact⟨_,by omega,i+1,rfl,by omega,by omega,vs,fs2,rfl,(U'.frame (by simp[Vh]) (by simp[had]) (by simp[hbd]) (by simp)).put vs fs2,hfl2⟩
    |false=>
     simp only[Bool.false_eq_true,if_false]at Yz;rw[Yz];clear Zs3 Z4e hkn
     (refine Zm ?_;repeat'(first|(refine Zi fun _=>?_;try simp(disch:=first|exact Zw|fail)[*,Zu,Zd U.lp,Zd U.la,Zd U.lb])|refine Zx ?_|refine Zn ?_ ?_))
     simp[Zpq,Zio,U.ab]
   .have hu:Zr3 l (⟨op,sort,name,num,kids⟩:Nd)=[]:=by simp[Zr3,h4,h5]
    rw[hu,List.nil_append]at Yz;clear Z4e hkn
    (refine Zm ?_;repeat'(first|(refine Zi fun _=>?_;try simp(disch:=first|exact Zw|fail)[*,Zu,Zd U.lp,Zd U.la,Zd U.lb])|refine Zx ?_|refine Zn ?_ ?_))
    exact⟨_,by omega,i+1,rfl,by omega,by omega,vs,fs,rfl,U'.frame (by simp[Vh]) (by simp[had]) (by simp[hbd]) (by simp),Un⟩
 .have e:i=out.length:=by omega
  subst e;rw[List.drop_length]at Yz;rw[Yz];have e0:Ro l []=[]:=rfl;rw[e0];simp only[W1];have g1:=hgp;have g2:=U'.v;have g3:=U'.f;clear hkn Yz Un e0
  (refine Zm ?_;repeat'(first|(refine Zi fun _=>?_;try simp(disch:=first|exact Zw|fail)[*,Zu])|refine Zx ?_|refine Zn ?_ ?_))
theorem Zc8 (us:List Use):∀s:List Use×List Use,∀u,u∈(us.foldl Zby s).1↔u∈s.1\/(u∈us/\u.fn=false):=by
 induction us with
 |nil=>simp
 |cons x us ih=>
  intro s u;rw[List.foldl_cons,ih];unfold Zby;cases hx:x.fn with
  |false=>
   simp only[Bool.false_eq_true,if_false,List.mem_cons];split
   .rename_i hm;constructor
    .rintro (h | h)
     .exact .inl h
     .exact .inr ⟨.inr h.1,h.2⟩
    .rintro (h | ⟨rfl | h,h'⟩)
     .exact .inl h
     .exact .inl hm
     .exact .inr ⟨h,h'⟩
   .simp only [List.mem_append,List.mem_singleton];constructor
    .rintro ((h | rfl) | h)
     .exact .inl h
     .exact .inr ⟨.inl rfl,hx⟩
     .exact .inr ⟨.inr h.1,h.2⟩
    .rintro (h | ⟨rfl | h,h'⟩)
     .exact .inl (.inl h)
     .exact .inl (.inr rfl)
     .exact .inr ⟨h,h'⟩
  |true=>
   simp only[if_true,List.mem_cons];constructor
   .rintro (h | h)
    .exact .inl h
    .exact .inr ⟨.inr h.1,h.2⟩
   .rintro (h | ⟨rfl | h,h'⟩)
    .exact .inl h
    .rw [hx]at h';cases h'
    .exact .inr ⟨h,h'⟩
theorem Zna (us:List Use):∀s:List Use×List Use,(us.foldl Zby s).1.length<=s.1.length+us.length:=by
 induction us with
 |nil=>simp
 |cons x us ih=>
  intro s;have h1:=ih (Zby s x)
  have h2:(Zby s x).1.length<=s.1.length+1:=by
   unfold Zby;split
   .simp
   .simp only;split<;>simp
  simp only[List.foldl_cons,List.length_cons];omega
def Zai (r:List Nd):List Use:=(X9 (Zt r)).1++(X9 (Zt r)).2
theorem Zjl {r:List Nd}{u:Use}:u∈Zai r↔u∈Zt r:=by
 unfold Zai X9;rw[List.mem_append,Zc8,Zj0];simp only[List.not_mem_nil,false_or];constructor
 .rintro (h | h)<;>exact h.1
 .intro h;cases hf:u.fn with
  |true=>exact .inr ⟨h,rfl⟩
  |false=>exact .inl ⟨h,rfl⟩
theorem Qc (b:List Use):∀(a vs fs:List Use),W1 vs fs (a++b)=if (W1 vs fs a).1 then W1 (W1 vs fs a).2.1 (W1 vs fs a).2.2 b else W1 vs fs a
 | [],vs,fs=>by simp[W1]
 |u::a,vs,fs=>by
  simp only[List.cons_append,W1];split
  .split
   .rw [Qc b a]
   .simp
  .split
   .rw [Qc b a]
   .simp
theorem Z2a {vs fs:List Use}{u:Use}(hf:∀g∈fs,g.args.length < 2^30)(hu:u.args.length < 2^30):∀g∈(R4 vs fs u).2,g.args.length < 2^30:=by
 unfold R4;split
 .exact hf
 .split
  .exact hf
  .intro g hg;rcases List.mem_append.1 hg with hg | hg
   .exact hf g hg
   .simp at hg;subst hg;exact hu
theorem Zjn:∀(us vs fs:List Use),(∀g∈fs,g.args.length < 2^30)->(∀u∈us,u.args.length < 2^30)->∀g∈(W1 vs fs us).2.2,g.args.length < 2^30
 | [],vs,fs,hf,hu=>hf
 |u::us,vs,fs,hf,hu=>by
  have hu':∀w∈us,w.args.length < 2^30:=fun w hw=>hu w (by simp[hw])
  have h1:=Z2a (vs:=vs) hf (hu u (by simp));simp only[W1];split
  .split
   .exact Zjn us _ _ h1 hu'
   .exact h1
  .split
   .exact Zjn us _ _ hf hu'
   .exact hf
set_option maxHeartbeats 4000000 in
theorem Zafu {r:List Nd}{tr:Tr}(vr:VT r tr)(bb:Bool){p ver a va b vb:Nat}{vs0 fs0:List Use}{h:PH}(hf0:∀g∈fs0,g.args.length < 2^30)(U:UM p ver a va b vb vs0 fs0 h)(K:Pure.Loc)(hp:can K p=true)(ha:can K a=true)(hb:can K b=true):
  Yf vE K 55 [.ptr p ver 0,L 58 bb (r.map Yb)] h=some (.bool (W1 vs0 fs0 (Zai r)).1,(h.put a va (Zpi (W1 vs0 fs0 (Zai r)).2.1)).put b vb (Zpj (W1 vs0 fs0 (Zai r)).2.2)):=by
 refine Zhh (fn:=Tryz.f55) Tryz.func55 rfl rfl rfl (by simp) (by simpa using U.reach) (U.can hp ha hb) U.belowP ?_ (by simp) (Za3 _ _) (Za4 _ _);have h99:=Zabe vr bb;have h57:=Zabl vr bb
 have hvl:∀u∈(X9 (Zt r)).1,u.fn=false:=fun u hu=>by
  unfold X9 at hu;rw[Zc8]at hu;simp at hu;exact hu.2
 have Un:∀u∈(X9 (Zt r)).2,u.fn=true/\u.args.length < 2^30:=fun u hu=>by
  unfold X9 at hu;rw[Zj0]at hu;simp at hu;exact⟨hu.2,vr.args u hu.1⟩
 have hl1:(X9 (Zt r)).1.length<=20000:=by
  have h1:=Zna (Zt r) ([],[]);have h2:=Zb2 r;have h3:=vr.len;unfold X9;simp at h1;omega
 have hl2:(X9 (Zt r)).2.length<=20000:=by
  have h1:=Zqo (Zt r) ([],[]);have h2:=Zb2 r;have h3:=vr.len;unfold X9;simp at h1;omega
 unfold Zai;generalize (X9 (Zt r)).1=vl at *;generalize (X9 (Zt r)).2=fl at *;have Vh:=Yg U.lp;have had:=Yg U.la;have hbd:=Yg U.lb;have Zpq:(p=a)=False:=by simp[U.pa]
 have Zio:(p=b)=False:=by simp[U.pb]
 clear vr;replace hvl:=Hide.mk hvl;replace Un:=Hide.mk Un;replace hf0:=Hide.mk hf0
 (refine Zm ?_;repeat'(first|(refine Zi fun _=>?_;try simp(disch:=first|exact Zw|fail)[*,Zu,Tryz.f55,Zd U.lp,Zd U.la,Zd U.lb])|refine Zx ?_|refine Zn ?_ ?_))
 refine Zh [0,1,10,11] (fun n sl h'=>∃(i:Nat) (vs fs:List Use),n=vl.length - i/\i<=vl.length/\sl 12=some (.int .i64 i)/\W1 vs0 fs0 (vl++fl)=W1 vs fs (vl.drop i++fl)/\UM p ver a va b vb vs fs h'/\(∀g∈fs,g.args.length < 2^30)/\h.next+36<=h'.next/\h'.get p=h.get p) vl.length rfl ⟨0,vs0,fs0,by simp,by simp,by simp,by simp,⟨U.o,U.v,U.f,U.pa,U.pb,U.ab,by simp;have:=U.lp;omega,by simp;have:=U.la;omega,by simp;have:=U.lb;omega⟩,hf0.get,by simp,rfl⟩ ?_;rintro n sl h' hf ⟨i,vs,fs,hn,hi,h12,Yz,U',hfa,Uf,hgp⟩;simp at hf;by_cases hlt:i < vl.length
 .rw [List.drop_eq_getElem_cons hlt]at Yz;have hufn:=hvl.get vl[i] (List.getElem_mem hlt);generalize hui:vl[i]=u at *;simp only[List.cons_append,W1,hufn,Bool.false_eq_true,if_false]at Yz;have Zs4:=fun (h2:PH) (U2:UM p ver a va b vb vs fs h2) (K:Pure.Loc) (a1:can K p=true) (a2:can K a=true) (a3:can K b=true)=>Zxj U2 u.name u.sort K a1 a2 a3
  generalize Xj:Qy vs fs u.name u.sort=st at *;obtain⟨okk,vs2⟩:=st;simp only at Yz Zs4;clear h99 h57
  (refine Zm ?_;repeat'(first|(refine Zi fun _=>?_;try simp(disch:=first|exact Zw|fail)[*,Zu,Zd U.lp,Zd U.la,Zd U.lb])|refine Zx ?_|refine Zn ?_ ?_))
  rw[Zs4 _ (U'.frame (by simp[Vh]) (by simp[had]) (by simp[hbd]) (by simp)) _ (by simp) (by simp) (by simp)];cases okk with
  |true=>
   simp only[if_true]at Yz;clear Zs4
   (refine Zm ?_;repeat'(first|(refine Zi fun _=>?_;try simp(disch:=first|exact Zw|fail)[*,Zu,Zd U.lp,Zd U.la,Zd U.lb])|refine Zx ?_|refine Zn ?_ ?_))
   exact⟨_,by omega,i+1,rfl,by omega,by omega,vs2,fs,rfl,(U'.frame (by simp[Vh]) (by simp[had]) (by simp[hbd]) (by simp)).put vs2 fs,hfa⟩
  |false=>
   simp only[Bool.false_eq_true,if_false]at Yz;rw[Yz];clear Zs4
   (refine Zm ?_;repeat'(first|(refine Zi fun _=>?_;try simp(disch:=first|exact Zw|fail)[*,Zu,Zd U.lp,Zd U.la,Zd U.lb])|refine Zx ?_|refine Zn ?_ ?_))
   simp[Zpq,Zio,U.ab]
 .have e:i=vl.length:=by omega
  subst e;rw[List.drop_length,List.nil_append]at Yz;clear h99
  (refine Zm ?_;repeat'(first|(refine Zi fun _=>?_;try simp(disch:=first|exact Zw|fail)[*,Zu,Zd U.lp,Zd U.la,Zd U.lb])|refine Zx ?_|refine Zn ?_ ?_))
  refine Zh [0,25,26] (fun n sl h2=>∃(i:Nat) (vs2 fs2:List Use),n=fl.length - i/\i<=fl.length/\sl 27=some (.int .i64 i)/\W1 vs0 fs0 (vl++fl)=W1 vs2 fs2 (fl.drop i)/\UM p ver a va b vb vs2 fs2 h2/\(∀g∈fs2,g.args.length < 2^30)/\h.next+36<=h2.next/\h2.get p=h.get p) fl.length rfl ⟨0,vs,fs,by simp,by simp,by simp,by simpa using Yz,U',hfa,Uf,hgp⟩ ?_;clear Yz U' hfa Uf hgp hlt hi hn h12;rintro n sl2 h' hf2 ⟨i,vs,fs,hn,hi,h27,Yz,U',hfa,Uf,hgp⟩;simp[hf]at hf2;clear hf;by_cases hlt:i < fl.length
  .rw [List.drop_eq_getElem_cons hlt]at Yz;obtain⟨hufn,hua⟩:=Un.get fl[i] (List.getElem_mem hlt);generalize hui:fl[i]=u at *;simp only[W1,hufn,if_true]at Yz;have Zwp:=Z2a (vs:=vs) hfa hua;have Zs3:=fun (h2:PH) (U2:UM p ver a va b vb vs fs h2) (K:Pure.Loc) (a1:can K p=true) (a2:can K a=true) (a3:can K b=true)=>Zxi U2 u hua hfa K a1 a2 a3
   generalize Xj:R4 vs fs u=st at *;obtain⟨okk,fs2⟩:=st;simp only at Yz Zs3 Zwp;clear h57;replace Zwp:=Hide.mk Zwp;replace hfa:=Hide.mk hfa
   (refine Zm ?_;repeat'(first|(refine Zi fun _=>?_;try simp(disch:=first|exact Zw|fail)[*,Zu,Zd U.lp,Zd U.la,Zd U.lb])|refine Zx ?_|refine Zn ?_ ?_))
   rw[Zs3 _ (U'.frame (by simp[Vh]) (by simp[had]) (by simp[hbd]) (by simp)) _ (by simp) (by simp) (by simp)];cases okk with
   |true=>
    simp only[if_true]at Yz;clear Zs3
    (refine Zm ?_;repeat'(first|(refine Zi fun _=>?_;try simp(disch:=first|exact Zw|fail)[*,Zu,Zd U.lp,Zd U.la,Zd U.lb])|refine Zx ?_|refine Zn ?_ ?_))
    exact⟨_,by omega,i+1,rfl,by omega,by omega,vs,fs2,rfl,(U'.frame (by simp[Vh]) (by simp[had]) (by simp[hbd]) (by simp)).put vs fs2,Zwp.get⟩
   |false=>
    simp only[Bool.false_eq_true,if_false]at Yz;rw[Yz];clear Zs3
    (refine Zm ?_;repeat'(first|(refine Zi fun _=>?_;try simp(disch:=first|exact Zw|fail)[*,Zu,Zd U.lp,Zd U.la,Zd U.lb])|refine Zx ?_|refine Zn ?_ ?_))
    simp[Zpq,Zio,U.ab]
  .have e:i=fl.length:=by omega
   subst e;rw[List.drop_length]at Yz;rw[Yz];simp only[W1];have g1:=hgp;have g2:=U'.v;have g3:=U'.f;clear Yz hfa
   (refine Zm ?_;repeat'(first|(refine Zi fun _=>?_;try simp(disch:=first|exact Zw|fail)[*,Zu])|refine Zx ?_|refine Zn ?_ ?_))
def fT (s:List Yh)(x:Yi):Option Tr:=(s.find? (fun p=>p.1==x)).bind fun p=>(Zg 257 p.2).map (·.1)
theorem Zdd {s:List Yh}(hg:Vd s){x:Yi}{p:Yh}(h:s.find? (fun p=>p.1==x)=some p):∃tr,fT s x=some tr/\VT p.2 tr/\flat tr=p.2/\WF tr/\p∈s/\p.1=x:=by
 have hm:=List.mem_of_find?_eq_some h;have hn:p.1=x:=by simpa using List.find?_some h
 obtain⟨_,_,tr,v⟩:=hg p hm;obtain⟨e,w⟩:=Zgw v.parse;refine⟨tr,?_,v,by rw[e,List.append_nil],w,hm,hn⟩;simp only[fT,h,Option.bind_some,v.parse,Option.map_some]
theorem Ziy {s:List Yh}(hg:Vd s){x:Yi}:fT s x=none↔s.find? (fun p=>p.1==x)=none:=by
 constructor
 .intro h;cases hf:s.find? (fun p=>p.1==x) with
  |none=>rfl
  |some p=>
   obtain⟨tr,h1,_⟩:=Zdd hg hf;rw[h]at h1;cases h1
 .intro h;simp[fT,h]
theorem Zz9 {s:List Yh}(hg:Vd s){x:Yi}{tr:Tr}(h:fT s x=some tr):∃p,s.find? (fun p=>p.1==x)=some p/\VT p.2 tr/\flat tr=p.2/\WF tr/\p∈s/\p.1=x:=by
 cases hf:s.find? (fun p=>p.1==x) with
 |none=>rw[(Ziy hg).2 hf]at h;cases h
 |some p=>
  obtain⟨tr',h1,h2⟩:=Zdd hg hf;rw[h]at h1;cases h1;exact⟨p,rfl,h2⟩
theorem Z66 {s:List Yh}(hg:Vd s)(n:Nd):rep s n=Z3i (fT s) n:=by
 unfold rep Zb7 Z3i;by_cases h4:n.op=4
 .simp only [h4,if_true];cases hf:s.find? (fun p=>p.1==n.name) with
  |none=>rw[(Ziy hg).2 hf];rfl
  |some p=>
   obtain⟨tr,h1,h2,h3,_⟩:=Zdd hg hf;rw[h1];simp only[Option.map_some,Option.getD_some,h3]
 .simp [h4]
theorem VT.flatE {t:List Nd}{tr:Tr}(v:VT t tr):t=flat tr/\WF tr:=by
 obtain⟨e,w⟩:=Zgw v.parse;exact⟨by rw[e,List.append_nil],w⟩
theorem VT.depth {t:List Nd}{tr:Tr}(v:VT t tr):Xb tr<=257:=Qg v.parse
theorem VT.usesE {t:List Nd}{tr:Tr}(v:VT t tr):Zt t=Uq tr:=by
 obtain⟨e,w⟩:=v.flatE;have:=Zmm w (by have:=v.depth;omega);rw[<- e]at this;exact this
theorem Zabd {t:List Nd}{tr:Tr}(v:VT t tr){s:List Yh}(hg:Vd s):Sq s t=flat (Zb4 (fT s) tr):=by
 obtain⟨e,w⟩:=v.flatE;rw[Zw2 _ _ w,<- e];unfold Sq;congr 1;funext n;exact Z66 hg n
theorem Zajt {t:List Nd}{tr:Tr}(v:VT t tr){s:List Yh}(hg:Vd s):WF (Zb4 (fT s) tr):=Z05 _ (fun x r h=>by
 obtain⟨p,_,_,_,w,_⟩:=Zz9 hg h;exact w) _ v.flatE.2
theorem Zhn {t:List Nd}{u:Use}(h:u∈Zt t)(hf:u.fn=false):∃n∈t,n.op=4/\n.name=u.name/\n.sort=u.sort:=by
 obtain⟨i,hi,hu⟩:=Zut h;refine⟨t[i],List.getElem_mem hi,?_⟩;unfold Xf at hu;split at hu
 .rename_i h4;simp at hu;rw[hu];exact⟨h4,rfl,rfl⟩
 .split at hu
  .split at hu
   .simp at hu;rw[hu]at hf;cases hf
   .cases hu
  .cases hu
theorem Zcc {t:List Nd}{n:Nd}(h:n∈t)(h4:n.op=4):(⟨false,n.name,[],n.sort⟩:Use)∈Zt t:=by
 induction t with
 |nil=>cases h
 |cons m r ih=>
  simp only[Zt,List.mem_append];rcases List.mem_cons.1 h with rfl | h
  .left;simp[Xf,h4]
  .exact .inr (ih h)
def Zdj (t:List Nd)(s:List Yh):Prop:=¬∃n∈t,∃r,Zb7 s n=some r/\sortL r≠n.sort
theorem Zqf {t:List Nd}{tr:Tr}(v:VT t tr){s:List Yh}(hg:Vd s)(hs:Zdj t s):∀u∈Uq tr,u.fn=false->∀r,fT s u.name=some r->Ya r=u.sort:=by
 intro u hu hf r hr;rw[<- v.usesE]at hu;obtain⟨n,hn,h4,e1,e2⟩:=Zhn hu hf;obtain⟨p,hp,vp,_⟩:=Zz9 hg hr;by_cases h:Ya r=u.sort
 .exact h
 .exfalso;apply hs;refine⟨n,hn,p.2,?_,?_⟩
  .simp only [Zb7,h4,if_true,e1,hp,Option.map_some]
  .rw [vp.sortL,e2];exact h
theorem Z71 {t:List Nd}{s:List Yh}(hg:Vd s){u:Use}:u∈Wd t (t.map (kbS s))↔u∈Zt t/\(u.fn=true\/fT s u.name=none):=by
 induction t with
 |nil=>simp[Wd,Zt]
 |cons n r ih=>
  simp only[List.map_cons,Wd,Zt,List.mem_append,ih]
  have key:u∈(if kbS s n=true then Xf n r else [])↔u∈Xf n r/\(u.fn=true\/fT s u.name=none):=by
   by_cases h4:n.op=4
   .have hu:Xf n r=[⟨false,n.name,[],n.sort⟩]:=by simp[Xf,h4]
    rw[hu];unfold kbS ixS;rw[if_pos h4];rcases Zc2 (s:=s) (x:=n.name) with⟨h1,h2⟩ | ⟨k,hk,h1,h2,h3⟩
    .have:=(Ziy hg).2 h2;simp only[h1,decide_true,if_true,List.mem_singleton];constructor
     .rintro rfl;exact⟨rfl,.inr this⟩
     .exact fun h=>h.1
    .have:¬ Tu s n.name < 0:=by omega
     simp only[this,decide_false,Bool.false_eq_true,if_false,List.mem_singleton,List.not_mem_nil,false_iff];rintro⟨rfl,h | h⟩
     .cases h
     .rw [(Ziy hg)]at h;simp only at h;rw[h2]at h;cases h
   .have hk:kbS s n=true:=by simp[kbS,ixS,h4]
    rw[hk,if_pos rfl];constructor
    .intro h;refine⟨h,.inl ?_⟩;unfold Xf at h;rw[if_neg h4]at h;split at h
     .split at h
      .simp at h;rw[h]
      .cases h
     .cases h
    .exact fun h=>h.1
  rw[key];constructor
  .rintro (h | h)
   .exact ⟨.inl h.1,h.2⟩
   .exact ⟨.inr h.1,h.2⟩
  .rintro ⟨h | h,h'⟩
   .exact .inl ⟨h,h'⟩
   .exact .inr ⟨h,h'⟩
theorem Z0s (t:List Nd)(x:Yi):∀o,Qk (t.foldl Tt o) x=true↔Qk o x=true\/∃n∈t,n.op=4/\n.name=x:=by
 induction t with
 |nil=>simp
 |cons n t ih=>
  intro o;rw[List.foldl_cons,ih]
  have key:Qk (Tt o n) x=true↔Qk o x=true\/n.op=4/\n.name=x:=by
   unfold Tt;split
   .rename_i hc;simp only[Qk,List.any_append,List.any_cons,List.any_nil,Bool.or_false,Bool.or_eq_true,beq_iff_eq,hc.1,true_and]
   .rename_i hc;constructor
    .exact .inl
    .rintro (h | ⟨h4,rfl⟩)
     .exact h
     .cases hh:Qk o n.name with
      |true=>rfl
      |false=>exact absurd ⟨h4,hh⟩ hc
  rw[key];simp only[List.mem_cons];constructor
  .rintro ((h | h) | ⟨m,h1,h2⟩)
   .exact .inl h
   .exact .inr ⟨n,.inl rfl,h⟩
   .exact .inr ⟨m,.inr h1,h2⟩
  .rintro (h | ⟨m,rfl | h1,h2⟩)
   .exact .inl (.inl h)
   .exact .inl (.inr h2)
   .exact .inr ⟨m,h1,h2⟩
theorem Zhk {t:List Nd}{tr:Tr}(v:VT t tr)(x:Yi):Qk (Rn t) x=true↔∃n∈t,n.op=4/\n.name=x:=by
 unfold Rn;rw[if_pos (by rw[v.sortL];exact v.pos),Z0s];simp[Qk]
theorem Z44 {s:List Yh}(hN:(s.map (·.1)).Nodup){x:Yh}(hx:x∈s):s.find? (fun p=>p.1==x.1)=some x:=by
 obtain⟨i,hi,rfl⟩:=List.getElem_of_mem hx;rw[List.find?_eq_some_iff_getElem];refine⟨by simp,i,hi,rfl,fun j hj=>?_⟩;have:=List.pairwise_iff_getElem.1 hN j i (by simp;omega) (by simpa using hi) hj;simpa using this
theorem Zly {t:List Nd}{tr:Tr}(v:VT t tr){s:List Yh}(hg:Vd s)(hN:(s.map (·.1)).Nodup){u:Use}:u∈Sc t s↔∃w∈Uq tr,w.fn=false/\∃r,fT s w.name=some r/\u∈Uq r:=by
 unfold Sc;rw[List.mem_flatMap];constructor
 .rintro ⟨x,hx,hu⟩;split at hu
  .rename_i hh;obtain⟨n,hn,h4,e⟩:=(Zhk v x.1).1 hh;have hw:=Zcc hn h4;rw[v.usesE]at hw;have hf:=Z44 hN hx;obtain⟨r,h1,h2,h3,h5,_⟩:=Zdd hg hf;refine⟨_,hw,rfl,r,by simp only[e];exact h1,?_⟩;rw[<- h2.usesE];exact hu
  .cases hu
 .rintro ⟨w,hw,hwf,r,hr,hu⟩;rw[<- v.usesE]at hw;obtain⟨n,hn,h4,e1,e2⟩:=Zhn hw hwf;obtain⟨p,hp,vp,_,_,hm,hpn⟩:=Zz9 hg hr;refine⟨p,hm,?_⟩;rw[if_pos ((Zhk v p.1).2 ⟨n,hn,h4,by rw[e1,hpn]⟩),vp.usesE];exact hu
theorem Zabz {t:List Nd}{tr:Tr}(v:VT t tr){s:List Yh}(hg:Vd s)(hN:(s.map (·.1)).Nodup)(hs:Zdj t s)(u:Use):u∈Uq (Zb4 (fT s) tr)↔u∈Zdx t s:=by
 rw[Zp9 _ _ v.flatE.2 v.pos (Zqf v hg hs),Zdx,List.mem_append,Z71 hg,Zly v hg hN,v.usesE]
theorem Zu0 {t:List Nd}{tr:Tr}(v:VT t tr){s:List Yh}(hg:Vd s)(hN:(s.map (·.1)).Nodup)(hs:Zdj t s)(hc:Yx (Zdx t s)=true)(hl:(Sq s t).length<=20000):
  (U8 [] (Sq s t)=true->sortL (Sq s t)=0)/\(U8 [] (Sq s t)=false->VT (Sq s t) (Zb4 (fT s) tr)/\Ya (Zb4 (fT s) tr)=Ya tr):=by
 have hw:=Zajt v hg;have Zns:=Zqe _ _ v.flatE.2 v.pos (Zqf v hg hs);have Sr:0 < Ya (Zb4 (fT s) tr):=by rw[Zns];exact v.pos
 have Zk2:Good (Sq s t):=by
  have key:∀n∈Sq s t,n.Short/\n.Sm:=by
   intro n hn;unfold Sq at hn;rw[List.mem_flatMap]at hn;obtain⟨m,hm,hn⟩:=hn;rcases Tx s m with⟨_,_,_,e⟩ | ⟨k,hk,_,_,_,e,_⟩
   .rw [e]at hn;simp at hn;subst hn;exact⟨v.good.short n hm,v.good.sm n hm⟩
   .rw [e]at hn;obtain⟨_,_,trk,vk⟩:=hg s[k] (List.getElem_mem hk);exact⟨vk.good.short n hn,vk.good.sm n hn⟩
  exact⟨fun n hn=>(key n hn).1,fun n hn=>(key n hn).2⟩
 rw[Zabd v hg]at hl Zk2 ⊢;rw[Z5g];generalize hT:Zb4 (fT s) tr=T at *;constructor
 .intro hd;have hd:257 < Xb T:=by simpa using hd
  unfold sortL;rw[if_neg (by omega)];have hp:=Zg9 T (Xb T) [] hw (Nat.le_refl _);rw[List.append_nil]at hp;cases hq:Zg 257 (flat T) with
  |none=>rfl
  |some x=>
   have h2:=Zca (e:=Xb T) (by omega) hq;rw[hp]at h2;cases h2;have:=Qg hq;omega
 .intro hd;have hd:Xb T<=257:=by simpa using hd
  have hp:=Zg9 T 257 [] hw hd;rw[List.append_nil]at hp;refine⟨⟨hp,Sr,Zk2,hl,?_⟩,Zns⟩;rw[Zmm hw (by omega)];have e:Yx (Uq T)=Yx (Zdx t s):=Zkk fun u=>by rw[<- hT];exact Zabz v hg hN hs u
  have:Yx (Uq T)=true:=by rw[e,hc]
  unfold Yx at this;exact of_decide_eq_true this
theorem Zxs {t:List Nd}{tr:Tr}(v:VT t tr){s:List Yh}(hg:Vd s)(hN:(s.map (·.1)).Nodup)(hs:Zdj t s)(hc:Yx (Zdx t s)=true):X0 t s=if 20000 < (Sq s t).length then ([],6) else if U8 [] (Sq s t) then ([],6) else (Sq s t,0):=by
 unfold X0;rw[if_neg (by simpa using hN),if_neg hs,if_neg (by rw[hc];simp)];by_cases hl:20000 < (Sq s t).length
 .rw [if_pos hl,if_pos hl]
 .rw [if_neg hl,if_neg hl];have h:=Zu0 v hg hN hs hc (by omega);cases hd:U8 [] (Sq s t) with
  |true=>rw[if_pos rfl,if_neg (by rw[h.1 hd];omega)]
  |false=>
   obtain⟨v2,e⟩:=h.2 hd;rw[if_pos (by rw[v2.sortL];exact v2.pos),if_neg (by simp)]
theorem Zxr {t:List Nd}{tr:Tr}(v:VT t tr){s:List Yh}(hg:Vd s)(h0:(X0 t s).2=0):X0 t s=(Sq s t,0)/\∃tr',VT (Sq s t) tr'/\Ya tr'=Ya tr:=by
 by_cases hN:(s.map (·.1)).Nodup
 .by_cases hs:Zdj t s
  .cases hc:Yx (Zdx t s) with
   |false=>
    unfold X0 at h0;rw[if_neg (by simpa using hN),if_neg hs,if_pos hc]at h0;cases h0
   |true=>
    have e:=Zxs v hg hN hs hc;by_cases hl:20000 < (Sq s t).length
    .rw [e,if_pos hl]at h0;cases h0
    .cases hd:U8 [] (Sq s t) with
     |true=>rw[e,if_neg hl,hd]at h0;cases h0
     |false=>
      rw[if_neg hl,hd]at e;obtain⟨v2,e2⟩:=(Zu0 v hg hN hs hc (by omega)).2 hd;exact⟨e,_,v2,e2⟩
  .unfold X0 at h0;rw[if_neg (by simpa using hN),if_pos (Classical.not_not.1 hs)]at h0;cases h0
 .unfold X0 at h0;rw[if_pos hN]at h0;cases h0
theorem Z18 {t:List Nd}{tr:Tr}(v:VT t tr){i:Nat}(hi:i < t.length)(h5:t[i].op=5):∃k,∃hk:k < (W3 t).length,(W3 t).findIdx? (fun u=>u.name==t[i].name)=some k/\(W3 t).find? (fun u=>u.name==t[i].name)=some (W3 t)[k]/\Xf t[i] (t.drop (i+1))=[(W3 t)[k]]/\(W3 t)[k].fn=true:=by
 obtain⟨ks,r,kn,hk,hm,Qb,hu⟩:=v.app hi h5
 have Rb:(⟨true,t[i].name,Ys ks,t[i].sort⟩:Use)∈Zt t:=by
  have h1:=Zac hi;exact Zr2 hi (by rw[h1,hu];simp)
 have hmf:(⟨true,t[i].name,Ys ks,t[i].sort⟩:Use)∈W3 t:=Zkc.2 ⟨Rb,rfl⟩;cases hf:(W3 t).findIdx? (fun u=>u.name==t[i].name) with
 |none=>
  have:=List.findIdx?_eq_none_iff.1 hf _ hmf;simp at this
 |some k=>
  obtain⟨Qb,Yn,hall⟩:=List.findIdx?_eq_some_iff_getElem.1 hf;have hnm:(W3 t)[k].name=t[i].name:=by simpa using Yn
  have hm2:=Zkc.1 (List.getElem_mem Qb);have e:(W3 t)[k]=⟨true,t[i].name,Ys ks,t[i].sort⟩:=v.clean _ hm2.1 _ Rb hnm;refine⟨k,Qb,rfl,?_,by rw[hu,e],hm2.2⟩;rw[List.find?_eq_some_iff_getElem];exact⟨Yn,k,Qb,rfl,fun j hj=>by simpa using hall j hj⟩
theorem Z01 {t:List Nd}{tr:Tr}(v:VT t tr){i:Nat}(hi:i < t.length):Zr3 (W3 t) t[i]=Xf t[i] (t.drop (i+1)):=by
 unfold Zr3;by_cases h4:t[i].op=4
 .rw [if_pos h4];simp[Xf,h4]
 .rw [if_neg h4];by_cases h5:t[i].op=5
  .rw [if_pos h5];obtain⟨k,hk,h1,h2,h3,h4⟩:=Z18 v hi h5;rw[h2,h3];rfl
  .rw [if_neg h5];simp[Xf,h4,h5]
theorem Zyl {t:List Nd}{tr:Tr}(v:VT t tr)(f:Nd->Bool):Ro (W3 t) (t.filter f)=Wd t (t.map f):=by
 have key:∀k i,i+k=t.length->Ro (W3 t) ((t.drop i).filter f)=Wd (t.drop i) ((t.drop i).map f):=by
  intro k
  induction k with
  |zero=>
   intro i hi;rw[List.drop_eq_nil_of_le (by omega)];rfl
  |succ k ih=>
   intro i hi;have hlt:i < t.length:=by omega
   have h1:=ih (i+1) (by omega);rw[List.drop_eq_getElem_cons hlt,List.map_cons,Wd,<- h1,List.filter_cons];cases hf:f t[i]with
   |true=>
    simp only[if_true];rw[Ro,List.flatMap_cons,Z01 v hlt];rfl
   |false=>simp
 have:=key t.length 0 (by omega);simpa using this
theorem Zpl {t:List Nd}{tr:Tr}(v:VT t tr)(f:Nd->Bool):Zty (t.filter f) (W3 t):=by
 intro i hi h5;have hm:(t.filter f)[i]∈t:=(List.mem_filter.1 (List.getElem_mem hi)).1;obtain⟨j,hj,e⟩:=List.getElem_of_mem hm;rw[<- e]at h5 ⊢;obtain⟨k,hk,h1,h2,h3,h4⟩:=Z18 v hj h5;exact⟨k,hk,h1,by rw[Z01 v hj,h3],h4⟩
theorem Z5m {a b:List Use}(h:∀u∈a,u∈b)(hb:Clean b):Clean a:=fun u hu w hw e=>hb u (h u hu) w (h w hw) e
theorem Z08 {us:List Use}(ha:∀u∈us,u.fn=false->u.args=[]):(W1 [] [] us).1=Yx us:=by
 have h:=Zm0 us [] [] [] (by simp) (by simp) (by simp[Clean]) (by simpa using ha);rw[List.nil_append]at h;rw[Bool.eq_iff_iff,h];simp[Yx]
theorem Ze5 {t:List Nd}{s:List Yh}(hN:(s.map (·.1)).Nodup)(h:Zdj t s->Yx (Zdx t s)=false):X0 t s=([],3):=by
 unfold X0;rw[if_neg (by simpa using hN)];by_cases hs:Zdj t s
 .rw [if_neg hs,if_pos (h hs)]
 .rw [if_pos (Classical.not_not.1 hs)]
structure PSt (t:List Nd)(s:List Yh)(i:Nat)(ins:List Yi)(P vs fs:List Use):Prop where
 nd:ins.Nodup
 inm:∀x,x∈ins↔∃n∈t.take i,n.op=4/\n.name=x/\(fT s x).isSome=true
 mem:∀u,u∈P↔∃x∈ins,∃r,fT s x=some r/\u∈Uq r
 run:W1 [] [] P=(true,vs,fs)
 sort:∀n∈t.take i,∀r,Zb7 s n=some r->sortL r=n.sort
 len:ins.length<=i
theorem PSt.start (t:List Nd)(s:List Yh):PSt t s 0 [] [] [] []:=⟨by simp,by simp,by simp,rfl,by simp,by simp⟩
theorem PSt.sub {t:List Nd}{tr:Tr}(v:VT t tr){s:List Yh}(hg:Vd s)(hN:(s.map (·.1)).Nodup){i:Nat}{ins:List Yi}{P vs fs:List Use}(A:PSt t s i ins P vs fs):∀u∈P,u∈Sc t s:=by
 intro u hu;obtain⟨x,hx,r,hr,hu⟩:=(A.mem u).1 hu;obtain⟨n,hn,h4,e,_⟩:=(A.inm x).1 hx;have hw:=Zcc (List.take_subset _ _ hn) h4;rw[v.usesE]at hw;exact (Zly v hg hN).2 ⟨_,hw,rfl,r,by simp only[e];exact hr,hu⟩
theorem Zqz {t:List Nd}{s:List Yh}:∀u∈Sc t s,u.fn=false->u.args=[]:=fun u hu=>by
 obtain⟨x,_,hu⟩:=Znp hu;exact Ze9 u hu
theorem PSt.keep {t:List Nd}{s:List Yh}(hg:Vd s){i:Nat}{ins:List Yi}{P vs fs:List Use}(A:PSt t s i ins P vs fs)(hi:i < t.length)(hr:Zb7 s t[i]=none):PSt t s (i+1) ins P vs fs:=by
 refine⟨A.nd,fun x=>?_,A.mem,A.run,?_,by have:=A.len;omega⟩
 .rw [A.inm,Y8 t i hi];simp only[List.mem_append,List.mem_singleton];constructor
  .rintro ⟨n,hn,h⟩;exact⟨n,.inl hn,h⟩
  .rintro ⟨n,hn | rfl,h4,e,h⟩
   .exact ⟨n,hn,h4,e,h⟩
   .exfalso;unfold Zb7 at hr;rw[if_pos h4,Option.map_eq_none_iff,e]at hr;rw[(Ziy hg).2 hr]at h;cases h
 .intro n hn r h;rw[Y8 t i hi]at hn;rcases List.mem_append.1 hn with hn | hn
  .exact A.sort n hn r h
  .simp at hn;subst hn;rw[hr]at h;cases h
theorem PSt.again {t:List Nd}{tr:Tr}(v:VT t tr){s:List Yh}(hg:Vd s){i:Nat}{ins:List Yi}{P vs fs:List Use}(A:PSt t s i ins P vs fs)(hi:i < t.length)(h4:t[i].op=4)(hm:t[i].name∈ins):PSt t s (i+1) ins P vs fs:=by
 obtain⟨n0,hn0,h04,e0,hs0⟩:=(A.inm _).1 hm;refine⟨A.nd,fun x=>?_,A.mem,A.run,?_,by have:=A.len;omega⟩
 .rw [A.inm,Y8 t i hi];simp only[List.mem_append,List.mem_singleton];constructor
  .rintro ⟨n,hn,h⟩;exact⟨n,.inl hn,h⟩
  .rintro ⟨n,hn | rfl,h4,e,h⟩
   .exact ⟨n,hn,h4,e,h⟩
   .exact ⟨n0,hn0,h04,by rw[e0,e],h⟩
 .intro n hn r h;rw[Y8 t i hi]at hn;rcases List.mem_append.1 hn with hn | hn
  .exact A.sort n hn r h
  .simp at hn;subst hn
   have h1:=A.sort n0 hn0 r (by
    unfold Zb7 at h ⊢;rw[if_pos h4]at h;rw[if_pos h04,e0];exact h)
   rw[h1];have u1:=Zcc (List.take_subset _ _ hn0) h04;have u2:=Zcc (List.getElem_mem hi) h4;have:=v.clean _ u1 _ u2 e0;exact congrArg Use.sort this
theorem PSt.put {t:List Nd}{tr:Tr}(v:VT t tr){s:List Yh}(hg:Vd s){i:Nat}{ins:List Yi}{P vs fs:List Use}(A:PSt t s i ins P vs fs)(hi:i < t.length)(h4:t[i].op=4)(hm:t[i].name∉ins){p:Yh}(hp:s.find? (fun p=>p.1==t[i].name)=some p)(hs:sortL p.2=t[i].sort){vs2 fs2:List Use}(hr:W1 vs fs (Zai p.2)=(true,vs2,fs2)):
  PSt t s (i+1) (ins++[t[i].name]) (P++Zai p.2) vs2 fs2:=by
 obtain⟨trp,h1,vp,_⟩:=Zdd hg hp;refine⟨?_,fun x=>?_,fun u=>?_,?_,?_,by have:=A.len;simp;omega⟩
 .rw [List.nodup_append];exact⟨A.nd,by simp,fun a ha b hb e=>by simp at hb;subst hb;exact hm (e ▸ ha)⟩
 .simp only [List.mem_append,List.mem_singleton];rw[A.inm,Y8 t i hi];simp only[List.mem_append,List.mem_singleton];constructor
  .rintro (⟨n,hn,h⟩ | rfl)
   .exact ⟨n,.inl hn,h⟩
   .exact ⟨t[i],.inr rfl,h4,rfl,by rw[h1];rfl⟩
  .rintro ⟨n,hn | rfl,h4',e,h⟩
   .exact .inl ⟨n,hn,h4',e,h⟩
   .exact .inr e.symm
 .simp only [List.mem_append,A.mem,Zjl,List.mem_singleton];constructor
  .rintro (⟨x,hx,r,hr⟩ | hu)
   .exact ⟨x,.inl hx,r,hr⟩
   .exact ⟨t[i].name,.inr rfl,trp,h1,by rw[<- vp.usesE];exact hu⟩
  .rintro ⟨x,hx | rfl,r,hr,hu⟩
   .exact .inl ⟨x,hx,r,hr,hu⟩
   .rw [h1]at hr;cases hr;exact .inr (by rw[vp.usesE];exact hu)
 .rw [Qc,A.run];simp only[if_true];exact hr
 .intro n hn r h;rw[Y8 t i hi]at hn;rcases List.mem_append.1 hn with hn | hn
  .exact A.sort n hn r h
  .simp at hn;subst hn;unfold Zb7 at h;rw[if_pos h4,hp]at h;cases h;exact hs
theorem PSt.badSort {t:List Nd}{s:List Yh}{i:Nat}(hi:i < t.length)(h4:t[i].op=4){p:Yh}(hp:s.find? (fun p=>p.1==t[i].name)=some p)(hs:sortL p.2≠t[i].sort):¬ Zdj t s:=by
 intro h;exact h ⟨t[i],List.getElem_mem hi,p.2,by simp only[Zb7,h4,if_true,hp,Option.map_some],hs⟩
theorem PSt.badUse {t:List Nd}{tr:Tr}(v:VT t tr){s:List Yh}(hg:Vd s)(hN:(s.map (·.1)).Nodup){i:Nat}{ins:List Yi}{P vs fs:List Use}(A:PSt t s i ins P vs fs)(hi:i < t.length)(h4:t[i].op=4){p:Yh}(hp:s.find? (fun p=>p.1==t[i].name)=some p)(hr:(W1 vs fs (Zai p.2)).1=false):Yx (Zdx t s)=false:=by
 obtain⟨trp,h1,vp,_⟩:=Zdd hg hp
 have Zds:∀u∈P++Zai p.2,u∈Sc t s:=by
  intro u hu;rcases List.mem_append.1 hu with hu | hu
  .exact A.sub v hg hN u hu
  .have hw:=Zcc (List.getElem_mem hi) h4;rw[v.usesE]at hw;exact (Zly v hg hN).2 ⟨_,hw,rfl,trp,h1,by rw[<- vp.usesE];exact Zjl.1 hu⟩
 have h2:(W1 [] [] (P++Zai p.2)).1=false:=by
  rw[Qc,A.run];simpa using hr
 rw[Z08 (fun u hu=>Zqz u (Zds u hu))]at h2;rw[<- Bool.not_eq_true]at h2 ⊢;unfold Yx at h2 ⊢;rw[decide_eq_true_eq]at h2 ⊢;exact fun hc=>h2 (Z5m (fun u hu=>List.mem_append_right _ (Zds u hu)) hc)
theorem PSt.sortOk {t:List Nd}{s:List Yh}{ins:List Yi}{P vs fs:List Use}(A:PSt t s t.length ins P vs fs):Zdj t s:=by
 rintro⟨n,hn,r,h1,h2⟩;exact h2 (A.sort n (by rw[List.take_length];exact hn) r h1)
theorem PSt.done {t:List Nd}{tr:Tr}(v:VT t tr){s:List Yh}(hg:Vd s)(hN:(s.map (·.1)).Nodup){ins:List Yi}{P vs fs:List Use}(A:PSt t s t.length ins P vs fs):(W1 vs fs (Ro (W3 t) (t.filter (kbS s)))).1=Yx (Zdx t s):=by
 have h1:(W1 vs fs (Ro (W3 t) (t.filter (kbS s)))).1=(W1 [] [] (P++Ro (W3 t) (t.filter (kbS s)))).1:=by
  rw[Qc,A.run];rfl
 rw[h1,Zyl v]
 have Rb:∀u,u∈P++Wd t (t.map (kbS s))↔u∈Zdx t s:=by
  intro u;unfold Zdx;simp only[List.mem_append];constructor
  .rintro (h | h)
   .exact .inr (A.sub v hg hN u h)
   .exact .inl h
  .rintro (h | h)
   .exact .inr h
   .left;obtain⟨w,hw,hwf,r,hr,hu⟩:=(Zly v hg hN).1 h;rw[<- v.usesE]at hw;obtain⟨n,hn,h4,e1,e2⟩:=Zhn hw hwf;refine (A.mem u).2 ⟨w.name,(A.inm _).2 ⟨n,by rw[List.take_length];exact hn,h4,e1,by rw[hr];rfl⟩,r,hr,hu⟩
 rw[Z08]
 .exact Zkk Rb
 .intro u hu;rcases List.mem_append.1 ((Rb u).1 hu) with h | h
  .exact Ze9 u (Zii h)
  .exact Zqz u h
theorem VT.kids {t:List Nd}{tr:Tr}(v:VT t tr):∀n∈t,0<=n.kids/\n.kids < 2^60:=by
 intro n hn;obtain⟨i,hi,rfl⟩:=List.getElem_of_mem hn;obtain⟨t1,t2,hF,hk,_⟩:=Zjy (d:=256) v.parse v.pos hi;have h1:=hF.le;have h2:=v.len;rw[List.length_append,List.length_drop]at h1;omega
theorem Zaas (out:List Nd)(bo:Bool)(l:List Use)(hkn:Zty out l)(hol:out.length < 2^29)(Rc:l.length < 2^29)(hla:∀g∈l,g.args.length < 2^30){p ver a va b vb:Nat}{vs0 fs0:List Use}{h:PH}(hf0:∀g∈fs0,g.args.length < 2^30)(U:UM p ver a va b vb vs0 fs0 h)(K:Pure.Loc)(hp:can K p=true)(ha:can K a=true)(hb:can K b=true):
  ∃h',Yf vE K 56 [.ptr p ver 0,L 58 bo (out.map Yb),L 155 true (l.map Y5)] h=some (.bool (W1 vs0 fs0 (Ro l out)).1,h')/\∀j,j≠p->j≠a->j≠b->h'.get j=h.get j:=by
 refine⟨_,Zhh (va:=va) (vb:=vb) (fn:=Tryz.f56) Tryz.func56 rfl rfl rfl (by simp) (by simpa using U.reach) (U.can hp ha hb) U.belowP ?_ (by simp) (Za3 (W1 vs0 fs0 (Ro l out)).2.1 _) (Za4 (W1 vs0 fs0 (Ro l out)).2.2 _),fun j _ ha hb=>by simp[ha,hb]⟩;exact Zxo out bo l hkn hol Rc hla hf0 U _ rfl
theorem Zaat (out:List Nd)(l:List Use)(hkn:Zty out l)(hol:out.length < 2^29)(Rc:l.length < 2^29)(hla:∀g∈l,g.args.length < 2^30){p ver a va b vb q vq:Nat}{h:PH}{vs0 fs0:List Use}(hf0:∀g∈fs0,g.args.length < 2^30)(U:UM p ver a va b vb vs0 fs0 h)(hq:h.get q=some (vq,.row 58 true (out.map Yb)))(hqp:q≠p)(hqa:q≠a)(hqb:q≠b)(K:Pure.Loc)(hp:can K p=true)(ha:can K a=true)(hb:can K b=true)(hcq:can K q=true):
  ∃h',Yf vE K 56 [.ptr p ver 0,.own q vq 58 0 out.length,L 155 true (l.map Y5)] h=some (.bool (W1 vs0 fs0 (Ro l out)).1,h')/\∀j,j≠p->j≠a->j≠b->j≠q->h'.get j=h.get j:=by
 refine Zum (fn:=Tryz.f56) (ok:=[p,a,b]) (args':=[.ptr p ver 0,.lst 58 (out.map Yb),L 155 true (l.map Y5)]) Tryz.func56 rfl rfl rfl (by simp[hq];exact List.take_of_length_le (by simp)) (by simpa using U.reach) (U.can hp ha hb) (by simp only[List.flatMap_cons,List.flatMap_nil];simpa using hcq) ?_;have hids:[PV.ptr p ver 0,.own q vq 58 0 out.length,L 155 true (l.map Y5)].flatMap ownV=[q]:=by simp
 rw[hids];have hfz:h.freeze [q]=h.put q vq (.row 58 false (out.map Yb)):=by simp[hq]
 have U2:UM p ver a va b vb vs0 fs0 (h.freeze [q]):=by
  rw[hfz];exact U.frame (by simp[Ne.symm hqp]) (by simp[Ne.symm hqa]) (by simp[Ne.symm hqb]) (Nat.le_refl _)
 have hb56:=Zxo out false l hkn hol Rc hla hf0 U2 _ rfl;have Uf:(h.freeze [q]).next=h.next:=by rw[hfz];rfl
 rw[Uf]at hb56;refine Pure.wp_mono hb56 ?_;rintro r ⟨h1,h2⟩;refine⟨h1,Pure.wp_mono h2 ?_⟩;rintro vs ⟨e1,e2,e3,e4,e5⟩;refine⟨e1,e2,rfl,.inl ⟨?_,?_,?_⟩⟩
 .have hbp:=U2.belowP;rw[Uf]at hbp;simp only[List.all_cons,List.all_nil,Bool.and_true,PH.belowAt,e4,e5,Za3,Za4];unfold PH.belowAt at hbp;rw[e3];exact hbp
 .intro j hj1 hj2 hj3 hj4;exact U4 (by simp[hj1,hj2,hj3])
 .intro j hj1 hj2 hj3 hj4;rw[U4 (by simp[hj1,hj2,hj3]),hfz];simp[hj4]
abbrev zN:PV:=.agg [.int .i64 0,.int .i64 0,.str [],.str [],.int .i64 0]
theorem Z0p (K:Pure.Loc)(h:PH)(n:Nat)(h0:0 < n)(hl:n<=20000):Zxt vE K h 22 (.slice 58) (.int .i64) .nils (.int .i64 n)=some (.own (K.base+22) (h.stamp (K.base+22)) 58 0 n,h.put (K.base+22) (h.stamp (K.base+22)) (.row 58 true (List.replicate n zN))):=by
 have h1:(0:Int)<=n/\(n:Int)<=(Virt.maxLenV:Nat):=by rw[Rz];omega
 have h2:(n:Int)≠0:=by omega
 simp[Zxt,h1,h2];omega
theorem Zaax (n:Nat)(hn:0 < n)(hl:n<=20000)(K:Pure.Loc)(h:PH)(hK:K.lo<=h.next):∃ver h',Yf vE K 140 [.nils,.int .i64 n] h=some (.own (h.next+22) ver 58 0 0,h')/\h'.get (h.next+22)=some (ver,.row 58 true (List.replicate n zN))/\h'.next=h.next+27/\∀j,j < h.next->h'.get j=h.get j:=by
 have key:wp (Yf vE K 140 [.nils,.int .i64 n] h) fun r=>∃ver h',r=(.own (h.next+22) ver 58 0 0,h')/\h'.get (h.next+22)=some (ver,.row 58 true (List.replicate n zN))/\h'.next=h.next+27/\∀j,j < h.next->h'.get j=h.get j:=by
  refine Zmg (fn:=Tryz.f140) (by rfl) Tryz.func140 rfl rfl ?_;have hz:=fun K h=>Z0p K h n hn hl
  (refine Zm ?_;repeat'(first|(refine Zi fun _=>?_;try simp(disch:=first|exact Zw|fail)[*,Zu,Tryz.f140])|refine Zx ?_|refine Zn ?_ ?_))
  refine⟨_,_,⟨rfl,rfl⟩,?_⟩;rw[if_neg]
  .exact ⟨by simp,rfl,fun j hj=>by simp;omega⟩
  .rw [Bool.not_eq_true];unfold Zfl;rw[List.all_eq_false];exact⟨22,by simp,by simp⟩
 obtain⟨r,h1,ver,h',rfl,h2⟩:=X8.1 key;exact⟨ver,h',h1,h2⟩
abbrev Sn (p:List Nd):PV:=L 58 true (p.map Yb)
theorem flat_take {ps:List (List Nd)}{i:Nat}(h:i < ps.length):(ps.take (i+1)).flatten=(ps.take i).flatten++ps[i]:=by
 rw[Y8 ps i h,List.flatten_append,List.flatten_cons,List.flatten_nil,List.append_nil]
theorem Z2b (ps:List (List Nd))(i:Nat):(ps.take i).flatten.length<=ps.flatten.length:=by
 conv=>rhs;rw[<- List.take_append_drop i ps]
 rw[List.flatten_append,List.length_append];omega
set_option maxHeartbeats 2000000 in
theorem Zahb (b:Bool)(ps:List (List Nd))(Yn:ps.flatten≠[])(hl:ps.flatten.length<=20000)(hk:ps.length<=2^20):Xn vE 110 [L 23 b (ps.map Sn)] (.lst 58 (ps.flatten.map Yb)):=by
 have Sr:0 < ps.flatten.length:=List.length_pos_iff.2 Yn;obtain⟨F,hF⟩:∃F:Nat->List PV,∀i,(ps.take i).flatten.map Yb=F i:=⟨_,fun _=>rfl⟩
 have hF0:F 0=[]:=by rw[<- hF];rfl
 have hFe:F ps.length=ps.flatten.map Yb:=by rw[<- hF,List.take_length]
 have hFs:∀i (hi:i < ps.length),F (i+1)=F i++ps[i].map Yb:=fun i hi=>by rw[<- hF,<- hF,flat_take hi,List.map_append]
 have hFl:∀i,(F i).length<=20000:=fun i=>by rw[<- hF,List.length_map];exact Nat.le_trans (Z2b ps i) hl
 have hlen:ps.flatten.length=(F ps.length).length:=by rw[hFe,List.length_map]
 rw[<- hFe];rw[hlen]at Sr hl;clear hF hFe hlen Yn;replace hFs:=Hide.mk hFs;replace hFl:=Hide.mk hFl;intro K H;refine Wc Tryz.func110 ?_
 (refine Zm ?_;repeat'(first|(refine Zi fun _=>?_;try simp(disch:=first|exact Zw|fail)[*,Zu,Tryz.f110])|refine Zx ?_|refine Zn ?_ ?_))
 refine Zh [0,9,10] (fun n sl h=>∃i:Nat,n=ps.length - i/\i<=ps.length/\sl 11=some (.int .i64 i)/\sl 3=some (.int .i64 ((F i).length:Nat))/\h={H with next:=H.next+36}) ps.length rfl ⟨0,by simp,by simp,by simp,by simp[hF0],rfl⟩ ?_;rintro n sl h hf ⟨i,hn,hi,h11,h3,rfl⟩;simp at hf;by_cases hlt:i < ps.length
 .have h1:=hFl.get (i+1);have h2:=hFs.get i hlt;rw[h2,List.length_append,List.length_map]at h1;generalize hpi:ps[i]=p at *;have h2l:Hide ((F (i+1)).length=(F i).length+p.length):=Hide.mk (by rw[h2,List.length_append,List.length_map]);clear h2;generalize (F i).length=q at *
  (refine Zm ?_;repeat'(first|(refine Zi fun _=>?_;try simp(disch:=first|exact Zw|fail)[*,Zu])|refine Zx ?_|refine Zn ?_ ?_))
  exact⟨_,by omega,i+1,rfl,by omega,by omega,by rw[h2l.get];omega⟩
 .have e:i=ps.length:=by omega
  subst e;obtain⟨ver,h',hc,hg,Uf,Xa⟩:=Zaax (F ps.length).length Sr hl {base:=H.next,lo:=H.next,ok:=[]} {H with next:=H.next+36} (by simp);simp only at hc hg Uf;clear Xa
  (refine Zm ?_;repeat'(first|(refine Zi fun _=>?_;try simp(disch:=first|exact Zw|fail)[*,Zu])|refine Zx ?_|refine Zn ?_ ?_))
  refine Zh [25,26] (fun n sl h=>∃(i v2:Nat) (rest:List PV),n=ps.length - i/\i<=ps.length/\sl 27=some (.int .i64 i)/\sl 6=some (.own (H.next+36+22) v2 58 0 (F i).length)/\h.get (H.next+36+22)=some (v2,.row 58 true (F i++rest))) ps.length rfl ⟨0,ver,_,by simp,by simp,by simp,by simp[hF0],by rw[hF0];simpa using hg⟩ ?_;clear hc hg Uf h11 h3 hf hlt hi hn;rintro n sl h hf ⟨i,v2,rest,hn,hi,h27,h6,hg⟩;simp at hf;by_cases hlt:i < ps.length
  .have h1:=hFl.get (i+1);have h2:=hFs.get i hlt;rw[h2,List.length_append,List.length_map]at h1;generalize hpi:ps[i]=p at *;replace h2:=Hide.mk h2;generalize hQ:F i=Q at *
   (refine Zm ?_;repeat'(first|(refine Zi fun _=>?_;try simp(disch:=first|exact Zw|fail)[*,Zu,-PH.elems])|refine Zx ?_|refine Zn ?_ ?_))
   exact⟨_,by omega,i+1,rfl,by omega,by omega,_,⟨rfl,by rw[h2.get];simp⟩,rfl,[],by rw[h2.get];simp⟩
  .have e:i=ps.length:=by omega
   subst e
   (refine Zm ?_;repeat'(first|(refine Zi fun _=>?_;try simp(disch:=first|exact Zw|fail)[*,Zu])|refine Zx ?_|refine Zn ?_ ?_))
   omega
abbrev nI (k:Nat):PV:=.int .i64 (k:Int)
def Stk (id:Nat)(h:PH)(v:PV)(st:List Nat):Prop:=(st=[]/\v=.nils)\/∃ver rest,v=.own id ver 3 0 st.length/\h.get id=some (ver,.row 3 true (st.reverse.map nI++rest))
theorem Stk.lenK {id:Nat}{h:PH}{v:PV}{st:List Nat}(S:Stk id h v st):Pure.lenK (.slice 3) v=some (.int .i64 st.length):=by
 rcases S with⟨rfl,rfl⟩ | ⟨ver,rest,rfl,_⟩<;>rfl
theorem Stk.frame {id:Nat}{h h':PH}{v:PV}{st:List Nat}(S:Stk id h v st)(hg:h'.get id=h.get id):Stk id h' v st:=by
 rcases S with h1 | ⟨ver,rest,e,h2⟩
 .exact .inl h1
 .exact .inr ⟨ver,rest,e,by rw[hg,h2]⟩
theorem Stk.same {id n:Nat}{h:PH}{v:PV}{st:List Nat}(S:Stk id h v st):W5 n v=true:=by
 rcases S with⟨rfl,rfl⟩ | ⟨ver,rest,rfl,_⟩<;>cases n<;>rfl
theorem Stk.app {id d:Nat}{h:PH}{v:PV}{st:List Nat}{K:Pure.Loc}{T:Ty}(S:Stk id h v st)(hid:id=K.base+d)(hK:can K id=true)(h1:st.length+1<=1073741824)(h2:T.bytes<=65536)(h3:0 < T.size)(k:Nat):
  ∃v' h',Xl K h d 3 T 1 [nI k] v=some (v',h')/\Stk id h' v' (k::st)/\h'.next=h.next/\∀j,j≠id->h'.get j=h.get j:=by
 subst hid;rcases S with⟨rfl,rfl⟩ | ⟨ver,rest,rfl,hg⟩
 .refine ⟨_,_,Zaa (by omega) h2 h3 (by decide),.inr ⟨h.stamp (K.base+d),[],by simp,by simp⟩,rfl,fun j hj=>by simp[hj]⟩
 .have hr:h.row (K.base+d) ver 3=some (true,st.reverse.map nI++rest):=by simp[PH.row,hg]
  refine⟨_,_,((by rw[Qm,hr];rfl:Xl K h d 3 T 1 [nI k] (.own (K.base+d) ver 3 0 st.length)=Zxu K h T 3 (K.base+d) ver 0 st.length 1 [nI k] (true,st.reverse.map nI++rest)).trans (Zma h1 h2 h3 hK rfl (by simp))),.inr ⟨ver+1,[],by simp,?_⟩,rfl,fun j hj=>by simp[hj]⟩;simp
set_option maxHeartbeats 4000000 in
theorem Zaha (b:Bool)(t:List Nd)(hl:t.length<=20000)(hk:∀n∈t,0<=n.kids/\n.kids < 2^60):Xn vE 111 [L 58 b (t.map Yb)] (.bool (U8 [] t)):=by
 have hV:∃V,U8 [] t=V:=⟨_,rfl⟩
 obtain⟨V,hV⟩:=hV;rw[hV];replace hk:=Hide.mk hk;intro K H;refine Wc Tryz.func111 ?_
 (refine Zm ?_;repeat'(first|(refine Zi fun _=>?_;try simp(disch:=first|exact Zw|fail)[*,Zu,Tryz.f111])|refine Zx ?_|refine Zn ?_ ?_))
 refine Zh [6,7] (fun n sl h=>∃(i:Nat) (st:List Nat) (w:PV),n=t.length - i/\i<=t.length/\sl 8=some (.int .i64 i)/\sl 3=some w/\Stk (H.next+47) h w st/\st.length<=i/\(∀x∈st,x < 2^60)/\U8 st (t.drop i)=V) t.length rfl ⟨0,[],.nils,by simp,by simp,by simp,by simp,.inl ⟨rfl,rfl⟩,by simp,by simp,by simpa using hV⟩ ?_;rintro n sl h hf ⟨i,st,w,hn,hi,h8,h3,S,hsl,hbd,hd⟩;simp at hf;by_cases hlt:i < t.length
 .rw [List.drop_eq_getElem_cons hlt]at hd;have hkk:=hk.get t[i] (List.getElem_mem hlt);generalize htd:t[i]=d at *;obtain⟨op,sort,name,num,kids⟩:=d;simp only at hkk;obtain⟨k,rfl⟩:∃k:Nat,kids=(k:Int):=⟨kids.toNat,by omega⟩
  simp only[U8,Int.toNat_natCast]at hd;replace hd:=Hide.mk hd;have hlk:=S.lenK;replace hbd:=Hide.mk hbd
  (refine Zm ?_;repeat'(first|(refine Zi fun _=>?_;try simp(disch:=first|exact Zw|fail)[*,Zu])|refine Zx ?_|refine Zn ?_ ?_))
  refine Zh [5,6,7,8] (fun m sl2 h2=>∃(st2:List Nat) (w2:PV),m=st2.length/\st2.length<=i/\(∀x∈st2,x < 2^60)/\Zh0 st2=Zh0 st/\sl2 3=some w2/\Stk (H.next+47) h2 w2 st2/\h2.get (H.next+5)=some (h.stamp (H.next+5),.cells [.int .i64 op,.int .i64 sort,.str name,.str num,.int .i64 (k:Int)])) st.length rfl ⟨st,w,rfl,hsl,hbd.get,rfl,by simp[*],S.frame (by simp),by simp⟩ ?_;rintro m sl2 h2 hf2 ⟨st2,w2,hm,hs2,Z9w,hpop,h32,S2,hg5⟩;simp[hf]at hf2;have hlk2:=S2.lenK;replace Z9w:=Hide.mk Z9w;cases st2 with
  |nil=>
   have hp0:Zh0 st=[]:=by rw[<- hpop];rfl
   have hd2:=hd.get;rw[hp0]at hd2;simp[Z0i]at hd2;obtain⟨w3,h3',Sv,S3,Uf,Zk⟩:=S2.app (d:=47) (K:={base:=H.next,lo:=H.next,ok:=[]}) (T:={k:=.int .i64,size:=1,bytes:=8,zero:=[.int .i64 0]}) rfl (by simp) (by simp) (by decide) (by decide) k;simp only[List.length_nil,List.length_cons]at hlk2;clear hlk S
   (refine Zm ?_;repeat'(first|(refine Zi fun _=>?_;try simp(disch:=first|exact Zw|fail)[*,Zu])|refine Zx ?_|refine Zn ?_ ?_))
   exact⟨_,by omega,i+1,rfl,by omega,by omega,[k],S3,by simp,by simp;omega,hd2⟩
  |cons q st2=>
   rcases S2 with⟨e0,_⟩ | ⟨ver,rest,rfl,hgs⟩
   .cases e0
   simp only[List.length_cons,List.reverse_cons,List.map_append,List.map_cons,List.map_nil,List.append_assoc,List.singleton_append]at hgs hlk2 hs2 hm ⊢;have hrl:(st2.reverse.map nI).length=st2.length:=by simp
   generalize hRV:st2.reverse.map nI=RV at *;by_cases hq:q=0
   .subst hq;have Zase:Zh0 st2=Zh0 st:=by rw[<- hpop];simp[Zh0]
    clear hlk S hd
    (refine Zm ?_;repeat'(first|(refine Zi fun _=>?_;try simp(disch:=first|exact Zw|fail)[*,Zu])|refine Zx ?_|refine Zn ?_ ?_))
    exact⟨_,by omega,st2,rfl,by omega,fun x hx=>Z9w.get x (by simp[hx]),Zase,.inr ⟨ver,nI 0::rest,rfl,by rw[hRV];exact hgs⟩⟩
   .have hqb:=Z9w.get q (by simp);have hp1:Zh0 st=q::st2:=by rw[<- hpop];exact Zqi (by simp[hq])
    have hd2:=hd.get;rw[hp1]at hd2;simp only[List.length_cons,Z0i]at hd2;clear hlk S hd;by_cases Zev:256 < st2.length+1
    .rw [if_pos Zev]at hd2;subst hd2
     (refine Zm ?_;repeat'(first|(refine Zi fun _=>?_;try simp(disch:=first|exact Zw|fail)[*,Zu])|refine Zx ?_|refine Zn ?_ ?_))
    .rw [if_neg Zev]at hd2;have hq1:(q:Int) - 1=((q - 1:Nat):Int):=by omega
     have htk:(RV++[nI (q - 1)]++rest).take (st2.length+1)=RV++[nI (q - 1)]:=List.take_left' (by simp[hrl]);rw[List.append_assoc,List.singleton_append]at htk
     (refine Zm ?_;repeat'(first|(refine Zi fun _=>?_;try simp(disch:=first|exact Zw|fail)[*,Zu])|refine Zx ?_|refine Zn ?_ ?_))
     refine⟨_,by omega,i+1,rfl,by omega,by omega,k::(q - 1)::st2,.inr ⟨ver+1,[],by simp,?_⟩,by simp;omega,?_,hd2⟩
     .simp [hRV]
     .intro x hx;simp only[List.mem_cons]at hx;rcases hx with rfl | rfl | hx
      .omega
      .omega
      .exact Z9w.get x (by simp[hx])
 .have e:t.drop i=[]:=by simp;omega
  rw[e]at hd;subst hd;simp only[U8]
  (refine Zm ?_;repeat'(first|(refine Zi fun _=>?_;try simp(disch:=first|exact Zw|fail)[*,Zu])|refine Zx ?_|refine Zn ?_ ?_))
def Zv5 (ps:List (List Nd)):List Nd×Int:=if 20000 < ps.flatten.length then ([],6) else if U8 [] ps.flatten then ([],6) else (ps.flatten,0)
set_option maxHeartbeats 2000000 in
theorem Zanm (b:Bool)(ps:List (List Nd))(Yn:ps.flatten≠[])(hk:ps.length<=2^20)(hp:∀p∈ps,p.length<=20000)(hkid:∀n∈ps.flatten,0<=n.kids/\n.kids < 2^60):Xn vE 58 [L 23 b (ps.map Sn)] (Zf3 (Zv5 ps)):=by
 have hV:∃V,Zv5 ps=V:=⟨_,rfl⟩
 obtain⟨V,hV⟩:=hV;rw[hV];unfold Zv5 at hV;obtain⟨F,hF⟩:∃F:Nat->Nat,∀i,(ps.take i).flatten.length=F i:=⟨_,fun _=>rfl⟩
 have hF0:F 0=0:=by rw[<- hF];rfl
 have hFe:F ps.length=ps.flatten.length:=by rw[<- hF,List.take_length]
 have hFs:∀i (hi:i < ps.length),F (i+1)=F i+ps[i].length:=fun i hi=>by rw[<- hF,<- hF,flat_take hi,List.length_append]
 have hFl:∀i,F i<=ps.flatten.length:=fun i=>by rw[<- hF];exact Z2b ps i
 clear hF;replace hFs:=Hide.mk hFs;replace hFl:=Hide.mk hFl;by_cases Zev:20000 < ps.flatten.length
 .rw [if_pos Zev]at hV;subst hV;intro K H;refine Wc Tryz.func58 ?_
  (refine Zm ?_;repeat'(first|(refine Zi fun _=>?_;try simp(disch:=first|exact Zw|fail)[*,Zu,Tryz.f58])|refine Zx ?_|refine Zn ?_ ?_))
  rw[<- hFe]at Zev;refine Zh [0,8,9] (fun n sl h=>∃i:Nat,n=ps.length - i/\i<=ps.length/\sl 10=some (.int .i64 i)/\sl 4=some (.int .i64 (F i:Nat))/\F i<=20000) ps.length rfl ⟨0,by simp,by simp,by simp,by simp[hF0],by rw[hF0];omega⟩ ?_;rintro n sl h hf ⟨i,hn,hi,h10,h4,hle⟩;simp at hf;by_cases hlt:i < ps.length
  .have h2:=hFs.get i hlt;have hpl:=hp ps[i] (List.getElem_mem hlt);generalize hpi:ps[i]=p at *;replace h2:=Hide.mk h2;generalize hq0:F i=q at *;clear hFe hp hkid;by_cases hq:20000 < q+p.length
   . (refine Zm ?_;repeat'(first|(refine Zi fun _=>?_;try simp(disch:=first|exact Zw|fail)[*,Zu,Wh])|refine Zx ?_|refine Zn ?_ ?_))
   . (refine Zm ?_;repeat'(first|(refine Zi fun _=>?_;try simp(disch:=first|exact Zw|fail)[*,Zu,Wh])|refine Zx ?_|refine Zn ?_ ?_))
     exact⟨_,by omega,i+1,rfl,by omega,by omega,by rw[h2.get];omega,by rw[h2.get];omega⟩
  .exfalso;have e:i=ps.length:=by omega
   subst e;omega
 .rw [if_neg Zev]at hV;have h110:=Zahb b ps Yn (by omega) hk;have h111:=Zaha true ps.flatten (by omega) hkid;intro K H;refine Wc Tryz.func58 ?_
  (refine Zm ?_;repeat'(first|(refine Zi fun _=>?_;try simp(disch:=first|exact Zw|fail)[*,Zu,Tryz.f58])|refine Zx ?_|refine Zn ?_ ?_))
  refine Zh [0,8,9] (fun n sl h=>∃i:Nat,n=ps.length - i/\i<=ps.length/\sl 10=some (.int .i64 i)/\sl 4=some (.int .i64 (F i:Nat))) ps.length rfl ⟨0,by simp,by simp,by simp,by simp[hF0]⟩ ?_;rintro n sl h hf ⟨i,hn,hi,h10,h4⟩;simp at hf;by_cases hlt:i < ps.length
  .have h2:=hFs.get i hlt;have h1:=hFl.get (i+1);rw[h2]at h1;generalize hpi:ps[i]=p at *;replace h2:=Hide.mk h2;generalize hq0:F i=q at *;clear h110 h111 hFe hp hkid
   (refine Zm ?_;repeat'(first|(refine Zi fun _=>?_;try simp(disch:=first|exact Zw|fail)[*,Zu,Wh])|refine Zx ?_|refine Zn ?_ ?_))
   exact⟨_,by omega,i+1,rfl,by omega,by omega,by rw[h2.get];omega⟩
  .obtain ⟨n0,r0,e0⟩:∃n r,ps.flatten=n::r:=by
    cases e:ps.flatten with
    |nil=>exact absurd e Yn
    |cons n r=>exact⟨n,r,rfl⟩
   clear h4 hFe hFl hkid;generalize ps.flatten=F at *;subst e0;simp only[List.map_cons,Xs]at h110 h111;cases hd:U8 [] (n0::r0) with
   |true=>
    rw[hd]at h111;rw[hd,if_pos rfl]at hV;subst hV
    (refine Zm ?_;repeat'(first|(refine Zi fun _=>?_;try simp(disch:=first|exact Zw|fail)[*,Zu,Wh])|refine Zx ?_|refine Zn ?_ ?_))
   |false=>
    rw[hd]at h111;rw[hd,if_neg (by simp)]at hV;subst hV
    (refine Zm ?_;repeat'(first|(refine Zi fun _=>?_;try simp(disch:=first|exact Zw|fail)[*,Zu,Xs])|refine Zx ?_|refine Zn ?_ ?_))
theorem Zw4:∀(s:List Yh) (x:Yi),Vb (s.map fun p=>(PV.str p.1,Sn p.2)) (.str x)=some ((s.find? fun p=>p.1==x).map fun p=>Sn p.2)
 | [],x=>rfl
 |p::s,x=>by
  simp only[List.map_cons,Vb,Vp,List.find?_cons];by_cases h:x=p.1
  .subst h;simp
  .have h1:(x==p.1)=false:=by simpa using h
   have h2:(p.1==x)=false:=by simpa using Ne.symm h
   simp only[h1,h2];exact Zw4 s x
theorem Zado (s:List Yh)(x:Yi)(r:List Nd)(h:x∉s.map (·.1)):Ur (s.map fun p=>(PV.str p.1,Sn p.2)) (.str x) (Sn r)=some ((s++[(x,r)]).map fun p=>(PV.str p.1,Sn p.2)):=by
 induction s with
 |nil=>rfl
 |cons p s ih=>
  simp only[List.map_cons,List.mem_cons,not_or]at h;have h1:(x==p.1)=false:=by simpa using h.1
  simp only[List.map_cons,Ur,Vp,h1,ih h.2,Option.map_some,List.cons_append]
theorem Zadx (t:List Nd)(e:Int):Yo 23 14 (Zf3 (t,e))=true:=by
 simp only[Zf3,Yo,List.all_cons,List.all_nil,Bool.and_true];rcases Zp3 58 true (t.map Yb) with⟨h,_⟩ | ⟨h,_⟩
 .rw [h];rfl
 .rw [h];simp only[Yo,Bool.and_eq_true,List.all_eq_true];refine⟨by decide,fun x hx=>?_⟩;obtain⟨n,_,rfl⟩:=List.mem_map.1 hx;simp[Yo,Yb]
theorem Zw8 (s:List Yh)(t:List Nd)(i:Nat)(h:i < t.length):(t.take (i+1)).filter (kbS s)=(t.take i).filter (kbS s)++(if kbS s t[i] then [t[i]] else []):=by
 rw[Y8 t i h,List.filter_append];congr 1;cases hk:kbS s t[i]<;>simp[hk]
set_option maxHeartbeats 8000000 in
theorem Zanv {t:List Nd}{tr:Tr}(v:VT t tr)(b b1:Bool)(s:List Yh)(hg:Vd s)(hs:s.length<=1000):Xn vE 16 [L 58 b (t.map Yb),L 47 b1 (s.map Wv)] (Zf3 (X0 t s)):=by
 have h49:=Zabp v b;have h50:=Zabo b1 s (by omega) hg;have h52:=Zabm b1 s (by omega);have h51:=Zabn true (s.map (·.1)) (by simp;omega);have hnml:(s.map (·.1)).length=s.length:=by simp
 generalize hnm:s.map (·.1)=nm at h51 h52 hnml;have hl:=v.len;have hV:∃V,X0 t s=V:=⟨_,rfl⟩
 obtain⟨V,hV⟩:=hV;rw[hV];by_cases hN:(s.map (·.1)).Nodup
 .rw [decide_eq_true (hnm ▸ hN)]at h51;clear hnm;replace hV:=Hide.mk hV;replace hg:=Hide.mk hg;have hN0:=hN;replace hN:=Hide.mk hN
  have hnd:∀i (hi:i < s.length),s[i].1∉(s.take i).map (·.1):=by
   intro i hi hm;have h1:=hN0.sublist (List.take_sublist (i+1) _);rw[Y8 _ i (by simpa using hi),List.nodup_append]at h1;exact h1.2.2 _ (by simpa using hm) _ (by simp) rfl
  clear hN0;replace hnd:=Hide.mk hnd;intro K H;refine Wc Tryz.func16 ?_
  (refine Zm ?_;repeat'(first|(refine Zi fun _=>?_;try simp(disch:=first|exact Zw|fail)[*,Zu,Tryz.f16])|refine Zx ?_|refine Zn ?_ ?_))
  generalize hv30:H.stamp (H.next+30)=v30;refine Zh [0,6,31,32] (fun m sl h=>∃i:Nat,m=s.length - i/\i<=s.length/\sl 33=some (.int .i64 i)/\h.get (H.next+30)=some (v30,.map ((s.take i).map fun p=>(PV.str p.1,Sn p.2)))/\h.next=H.next+111) s.length rfl ⟨0,by simp,by simp,by simp,by simp[*],by simp⟩ ?_;rintro m sl h Rk ⟨i,hm,hi,h33,g30,Uf⟩;simp at Rk;by_cases hlt:i < s.length
  .have Qp:=Zado (s.take i) s[i].1 s[i].2 (hnd.get i hlt);have htk:=Y8 s i hlt;have e2:s.take i++[(s[i].1,s[i].2)]=s.take (i+1):=by rw[htk]
   rw[e2]at Qp;generalize hT2:s.take (i+1)=T2 at *;replace hT2:=Hide.mk hT2;clear htk e2;generalize s.take i=T1 at *;generalize hsi:s[i]=y at *;obtain⟨x,r⟩:=y;simp only at Qp
   (refine Zm ?_;repeat'(first|(refine Zi fun _=>?_;try simp(disch:=first|exact Zw|fail)[*,Zu])|refine Zx ?_|refine Zn ?_ ?_))
   exact⟨_,by omega,i+1,rfl,by omega,by omega,by rw[<- List.map_take,hT2.get]⟩
  .have hi2:i=s.length:=by omega
   subst hi2;rw[List.take_length]at g30;obtain⟨ver,va,vb,h1,h53,U,Xa⟩:=Zadw {base:=H.next,lo:=H.next,ok:=[]} h;have g30':=(Xa (H.next+30) (by omega)).trans g30;rw[Uf]at h53 U;have hnx1:=U.lp;clear h49 h50 h51 h52 hnd Xa
   (refine Zm ?_;repeat'(first|(refine Zi fun _=>?_;try simp(disch:=first|exact Zw|fail)[*,Zu])|refine Zx ?_|refine Zn ?_ ?_))
   generalize hv44:h1.stamp (H.next+44)=v44
   have Sv:∀n∈(t.map (rep s)).flatten,0<=n.kids/\n.kids < 2^60:=by
    intro n hn;rw[List.mem_flatten]at hn;obtain⟨p,hp,hn⟩:=hn;obtain⟨m,hm,rfl⟩:=List.mem_map.1 hp;rcases Tx s m with⟨_,_,_,e⟩ | ⟨k,hk,_,_,_,e,_⟩
    .rw [e]at hn;simp at hn;subst hn;exact v.kids n hm
    .rw [e]at hn;obtain⟨_,_,trk,vk⟩:=hg.get s[k] (List.getElem_mem hk);exact vk.kids n hn
   replace Sv:=Hide.mk Sv
   refine Zh [0,6,9,12,45,46] (fun m sl h=>∃(i:Nat) (wp' wk:PV) (ins:List Yi) (P vs fs:List Use),m=t.length - i/\i<=t.length/\sl 47=some (.int .i64 i)/\sl 10=some wp'/\sl 11=some wk/\Pure.Acc [73,81] ⟨H.next,H.next,[]⟩ h 23 wp' (((t.take i).map (rep s)).map Sn)/\Pure.Acc [77] ⟨H.next,H.next,[]⟩ h 58 wk (((t.take i).filter (kbS s)).map Yb) /\
    UM (H.next+111+4) ver (H.next+111+1) va (H.next+111+2) vb vs fs h/\h.get (H.next+30)=some (v30,.map (s.map fun p=>(PV.str p.1,Sn p.2)))/\h.get (H.next+44)=some (v44,.map (ins.map fun x=>(PV.str x,PV.bool true)))/\PSt t s i ins P vs fs/\(∀g∈fs,g.args.length < 2^30)) t.length rfl
    ⟨0,.nils,.nils,[],[],[],[],by simp,by simp,by simp,by simp,by simp,Pure.Acc.nil,Pure.Acc.nil,?_,by simp[*],by simp[*],PSt.start t s,by simp⟩ ?_
   .exact U.frame (by simp) (by simp) (by simp) (by simp)
   clear U g30' g30 h53 hv44;rintro m sl2 h2 Z9h ⟨i,wp',wk,ins,P,vs,fs,hm,hi,h47,h10,h11,hAp,hAk,U,g30,g44,A,hfa⟩;simp[Rk]at Z9h;have hpn:=U.lp;by_cases hlt:i < t.length
   .have hfs:=Zw4 s t[i].name
    have hsl:((t.map Yb).drop i).take 1=[Yb t[i]]:=by
     rw[List.drop_eq_getElem_cons (by simpa using hlt)];simp
    have htk:=Y8 t i hlt;have Un:=Zw8 s t i hlt;have Qb:((t.take i).filter (kbS s)).length<=i:=Nat.le_trans (List.length_filter_le _ _) (by simp;omega);generalize htd:t[i]=d at *;rcases Tx s d with⟨c1,c2,c3,c4⟩ | ⟨k,hk,c1,c2,c3,c4,c5,c6⟩
    .have A2:=A.keep hg.get hlt (by rw[htd];exact c3);have Zwo:Hide (((t.take (i+1)).map (rep s)).map Sn=((t.take i).map (rep s)).map Sn++[Sn [d]]):=Hide.mk (by rw[htk,List.map_append,List.map_append,List.map_cons,List.map_nil,c4];rfl);have Zwn:Hide (((t.take (i+1)).filter (kbS s)).map Yb=((t.take i).filter (kbS s)).map Yb++[Yb d]):=Hide.mk (by rw[Un,c2,if_pos rfl,List.map_append];rfl);replace A2:=Hide.mk A2;clear A c1 c2 c4 htk Un;replace c3:=Hide.mk c3;replace hfa:=Hide.mk hfa;obtain⟨op,sort,name,num,kids⟩:=d;simp only at hfs;have hpl:((t.take i).map (rep s)).length<=20000:=by simp;omega
     obtain⟨wp2,h3,Zzz,Zz1,hnx3,Zk3⟩:=(hAp.frame (h':=(h2.put (H.next+14) (h2.stamp (H.next+14)) (PO.cells [PV.int IntKind.i64 0,PV.int IntKind.i64 0,PV.str [],PV.str [],PV.int IntKind.i64 0])).put (H.next+14) (h2.stamp (H.next+14)) (PO.cells [PV.int IntKind.i64 op,PV.int IntKind.i64 sort,PV.str name,PV.str num,PV.int IntKind.i64 kids])) (fun d hd=>by simp at hd;rcases hd with rfl | rfl<;>simp)).app (dd:=73) (ys:=[PV.lst 58 [Yb ⟨op,sort,name,num,kids⟩]]) (T:={k:=.slice 58,size:=1,bytes:=24,zero:=[.slice none 0 0]}) (by simp) rfl (by simp only[List.length_map,List.length_cons,List.length_nil]at hpl ⊢;omega) (by decide) (by decide) (by simp);obtain⟨wk2,h4,Z4o,hAk2,hnx4,Z9d⟩:=(hAk.frame (h':=h3) (fun d hd=>by simp at hd;subst hd;rw[Zk3 _ (by intro e he;simp at he;rcases he with rfl | rfl<;>simp)];simp)).app (dd:=77) (ys:=[Yb ⟨op,sort,name,num,kids⟩]) (T:={k:=.struct [(0,3),(1,3),(2,9),(3,9),(4,3)],size:=5,bytes:=56,zero:=[.int .i64 0,.int .i64 0,.string ⟨#[]⟩,.string ⟨#[]⟩,.int .i64 0]}) (by simp) rfl (by simp only[List.length_map,List.length_cons,List.length_nil];omega) (by decide) (by decide) (by simp);simp only[List.length_cons,List.length_nil]at Zzz Z4o
     have hwf:wp'=.nils\/(∃v0 n0,wp'=.own (H.next+73) v0 23 0 n0)\/∃v0 n0,wp'=.own (H.next+81) v0 23 0 n0:=by
      rcases hAp with⟨_,e⟩ | ⟨d0,v0,_,hd0,e,_⟩
      .exact .inl e
      .simp at hd0;rcases hd0 with rfl | rfl
       .exact .inr (.inl ⟨_,_,e⟩)
       .exact .inr (.inr ⟨_,_,e⟩)
     have hs1:=hAp.same (n:=3);have hs2:=hAk.same (n:=3);have hs3:=Zz1.same (n:=3);have hs4:=hAk2.same (n:=3)
     have e14:h3.get (H.next+14)=some (h2.stamp (H.next+14),.cells [.int .i64 op,.int .i64 sort,.str name,.str num,.int .i64 kids]):=by
      rw[Zk3 _ (by intro e he;simp at he;rcases he with rfl | rfl<;>simp)];simp
     have Zq2:∀j,j≠H.next+14->j≠H.next+73->j≠H.next+81->j≠H.next+77->h4.get j=h2.get j:=fun j a1 a2 a3 a4=>by
      rw[Z9d j (by intro e he;simp at he;subst he;exact a4),Zk3 j (by intro e he;simp at he;rcases he with rfl | rfl;exact a2;exact a3)];simp[a1]
     have hUf:UM (H.next+111+4) ver (H.next+111+1) va (H.next+111+2) vb vs fs h4:=U.frame (Zq2 _ (by omega) (by omega) (by omega) (by omega)) (Zq2 _ (by omega) (by omega) (by omega) (by omega)) (Zq2 _ (by omega) (by omega) (by omega) (by omega)) (by rw[hnx4,hnx3];simp);have Zp0:=(Zq2 (H.next+30) (by omega) (by omega) (by omega) (by omega)).trans g30;have Z40:=(Zq2 (H.next+44) (by omega) (by omega) (by omega) (by omega)).trans g44
     have Zpx:Pure.Acc [73,81] ⟨H.next,H.next,[]⟩ h4 23 wp2 (((t.take (i+1)).map (rep s)).map Sn):=by
      rw[Zwo.get];exact Zz1.frame fun d hd=>Z9d _ (by intro e he;simp at he hd;subst he;rcases hd with rfl | rfl<;>simp)
     have Zpy:Pure.Acc [77] ⟨H.next,H.next,[]⟩ h4 58 wk2 (((t.take (i+1)).filter (kbS s)).map Yb):=by rw[Zwn.get];exact hAk2
     replace Zpx:=Hide.mk Zpx;replace Zpy:=Hide.mk Zpy;replace hUf:=Hide.mk hUf;replace Zp0:=Hide.mk Zp0;replace Z40:=Hide.mk Z40;clear Zz1 hAk2 Zk3 Z9d Zq2 hAp hAk U Zwo Zwn;cases hfd:s.find? (fun p=>p.1==name) with
     |none=>
      rw[hfd,Option.map_none]at hfs;have hb73:Nat.blt (H.next+14) (H.next+73)=true:=by rw[Nat.blt_eq];omega
      have he59:(H.next==H.next+59)=false:=by simp
      have he67:(H.next==H.next+67)=false:=by simp
      by_cases h4':op=4
      .subst h4'
       (refine Zm ?_;repeat'(first|(refine Zi fun _=>?_;try simp(disch:=first|exact Zw|fail)[*,Zu])|refine Zx ?_|refine Zn ?_ ?_))
       refine Yj false false [71] [75] [H.next+14] [73] false (by decide +kernel) ?_;rcases hwf with rfl | ⟨v0,n0,rfl⟩ | ⟨v0,n0,rfl⟩
       all_goals (refine Zm ?_;repeat'(first|(refine Zi fun _=>?_;try simp(disch:=first|exact Zw|fail)[*,Zu])|refine Zx ?_|refine Zn ?_ ?_))
       all_goals exact⟨_,by omega,i+1,rfl,by omega,by omega,by simpa using Zpx.get,by simpa using Zpy.get,ins,P,vs,fs,hUf.get,Zp0.get,Z40.get,A2.get,hfa.get⟩
      . (refine Zm ?_;repeat'(first|(refine Zi fun _=>?_;try simp(disch:=first|exact Zw|fail)[*,Zu])|refine Zx ?_|refine Zn ?_ ?_))
        refine Yj false false [71] [75] [H.next+14] [73] false (by decide +kernel) ?_;rcases hwf with rfl | ⟨v0,n0,rfl⟩ | ⟨v0,n0,rfl⟩
        all_goals (refine Zm ?_;repeat'(first|(refine Zi fun _=>?_;try simp(disch:=first|exact Zw|fail)[*,Zu])|refine Zx ?_|refine Zn ?_ ?_))
        all_goals exact⟨_,by omega,i+1,rfl,by omega,by omega,by simpa using Zpx.get,by simpa using Zpy.get,ins,P,vs,fs,hUf.get,Zp0.get,Z40.get,A2.get,hfa.get⟩
     |some p=>
      rw[hfd,Option.map_some]at hfs;have hb73:Nat.blt (H.next+14) (H.next+73)=true:=by rw[Nat.blt_eq];omega
      have he59:(H.next==H.next+59)=false:=by simp
      have he67:(H.next==H.next+67)=false:=by simp
      have h4':op≠4:=by
       rintro rfl;have:=c3.get;unfold Zb7 at this;rw[if_pos rfl,hfd]at this;cases this
      (refine Zm ?_;repeat'(first|(refine Zi fun _=>?_;try simp(disch:=first|exact Zw|fail)[*,Zu])|refine Zx ?_|refine Zn ?_ ?_))
      refine Yj false false [71] [75] [H.next+14] [73] false (by decide +kernel) ?_;rcases hwf with rfl | ⟨v0,n0,rfl⟩ | ⟨v0,n0,rfl⟩
      all_goals (refine Zm ?_;repeat'(first|(refine Zi fun _=>?_;try simp(disch:=first|exact Zw|fail)[*,Zu])|refine Zx ?_|refine Zn ?_ ?_))
      all_goals exact⟨_,by omega,i+1,rfl,by omega,by omega,by simpa using Zpx.get,by simpa using Zpy.get,ins,P,vs,fs,hUf.get,Zp0.get,Z40.get,A2.get,hfa.get⟩
    .obtain ⟨op,sort,name,num,kids⟩:=d;simp only at hfs c5 c6;subst c5
     have hfd:∃p,s.find? (fun p=>p.1==name)=some p/\p.2=s[k].2:=by
      unfold Zb7 at c3;rw[if_pos rfl,Option.map_eq_some_iff]at c3;exact c3
     obtain⟨p,hfd,hpk⟩:=hfd;rw[<- hpk]at c4;clear hpk c3 c6 c1 hk k;rw[hfd,Option.map_some]at hfs;obtain⟨trp,hT1,vp,_,_,_,_⟩:=Zdd hg.get hfd;have h54:=Zann vp true;have hsr:=vp.sortL;have Zwo:Hide (((t.take (i+1)).map (rep s)).map Sn=((t.take i).map (rep s)).map Sn++[Sn p.2]):=Hide.mk (by rw[htk,List.map_append,List.map_append,List.map_cons,List.map_nil,c4];rfl);have Zwn:Hide (((t.take (i+1)).filter (kbS s)).map Yb=((t.take i).filter (kbS s)).map Yb):=Hide.mk (by rw[Un,c2];simp);have hfi:=Zw5 ins name;have hnm:t[i].name=name:=by rw[htd]
     have Xy:t[i].op=4:=by rw[htd]
     have hso:t[i].sort=sort:=by rw[htd]
     have hpl:((t.take i).map (rep s)).length<=20000:=by simp;omega
     obtain⟨wp2,h3,Zzz,Zz1,hnx3,Zk3⟩:=(hAp.frame (h':=(h2.put (H.next+14) (h2.stamp (H.next+14)) (PO.cells [PV.int IntKind.i64 0,PV.int IntKind.i64 0,PV.str [],PV.str [],PV.int IntKind.i64 0])).put (H.next+14) (h2.stamp (H.next+14)) (PO.cells [PV.int IntKind.i64 4,PV.int IntKind.i64 sort,PV.str name,PV.str num,PV.int IntKind.i64 kids])) (fun d hd=>by simp at hd;rcases hd with rfl | rfl<;>simp)).app (dd:=81) (ys:=[Sn p.2]) (T:={k:=.slice 58,size:=1,bytes:=24,zero:=[.slice none 0 0]}) (by simp) rfl (by simp only[List.length_map,List.length_cons,List.length_nil]at hpl ⊢;omega) (by decide) (by decide) (by simp);simp only[List.length_cons,List.length_nil]at Zzz;have hs1:=hAp.same (n:=3);have hs3:=Zz1.same (n:=3)
     have e14:h3.get (H.next+14)=some (h2.stamp (H.next+14),.cells [.int .i64 4,.int .i64 sort,.str name,.str num,.int .i64 kids]):=by
      rw[Zk3 _ (by intro e he;simp at he;rcases he with rfl | rfl<;>simp)];simp
     have Znu:∀j,j≠H.next+14->j≠H.next+73->j≠H.next+81->h3.get j=h2.get j:=fun j a1 a2 a3=>by
      rw[Zk3 j (by intro e he;simp at he;rcases he with rfl | rfl;exact a2;exact a3)];simp[a1]
     have hUf:UM (H.next+111+4) ver (H.next+111+1) va (H.next+111+2) vb vs fs h3:=U.frame (Znu _ (by omega) (by omega) (by omega)) (Znu _ (by omega) (by omega) (by omega)) (Znu _ (by omega) (by omega) (by omega)) (by rw[hnx3];simp);have Zp0:=(Znu (H.next+30) (by omega) (by omega) (by omega)).trans g30;have Z40:=(Znu (H.next+44) (by omega) (by omega) (by omega)).trans g44
     have Zpx:Pure.Acc [73,81] ⟨H.next,H.next,[]⟩ h3 23 wp2 (((t.take (i+1)).map (rep s)).map Sn):=by
      rw[Zwo.get];exact Zz1
     have Zpy:Pure.Acc [77] ⟨H.next,H.next,[]⟩ h3 58 wk (((t.take (i+1)).filter (kbS s)).map Yb):=by
      rw[Zwn.get];exact hAk.frame fun d hd=>by simp at hd;subst hd;exact Znu _ (by show H.next+77≠_;omega) (by show H.next+77≠_;omega) (by show H.next+77≠_;omega)
     have hs2:=hAk.same (n:=3);replace Zpx:=Hide.mk Zpx;replace Zpy:=Hide.mk Zpy;replace hUf:=Hide.mk hUf;replace Zp0:=Hide.mk Zp0;clear Zz1 Zk3 Znu hAp hAk U Zwo Zwn;by_cases Vi:name∈ins
     .rw [if_pos Vi]at hfi;have A2:=A.again v hg.get hlt Xy (by rw[hnm];exact Vi);replace A2:=Hide.mk A2;replace hfa:=Hide.mk hfa;clear A c2 c4 htk Un vp h54 hsr hfd Vi
      (refine Zm ?_;repeat'(first|(refine Zi fun _=>?_;try simp(disch:=first|exact Zw|fail)[*,Zu])|refine Zx ?_|refine Zn ?_ ?_))
      exact⟨_,by omega,i+1,rfl,by omega,by omega,by simpa using Zpx.get,by simpa using Zpy.get,ins,P,vs,fs,hUf.get,Zp0.get,rfl,A2.get,hfa.get⟩
     .rw [if_neg Vi]at hfi;have hpi:=Zsd ins name Vi;by_cases Zns:Ya trp=sort
      .have A2:=fun vs2 fs2 hr=>A.put (vs2:=vs2) (fs2:=fs2) v hg.get hlt Xy (by rw[hnm];exact Vi) (by rw[hnm];exact hfd) (by rw[hsr,hso];exact Zns) hr
       have Zco:(W1 vs fs (Zai p.2)).1=false->V=([],3):=fun hr=>by
        rw[<- hV.get];exact Ze5 hN.get fun _=>A.badUse v hg.get hN.get hlt Xy (by rw[hnm];exact hfd) hr
       have Zwp:=Zjn (Zai p.2) vs fs hfa (fun u hu=>vp.args u (Zjl.1 hu));have h55:=fun (h2:PH) (U2:UM (H.next+111+4) ver (H.next+111+1) va (H.next+111+2) vb vs fs h2) (K:Pure.Loc) a1 a2 a3=>Zafu vp true hfa U2 K a1 a2 a3
       rw[hnm]at A2;replace A2:=Hide.mk A2;replace hfa:=Hide.mk hfa;replace Zwp:=Hide.mk Zwp;replace Zco:=Hide.mk Zco;clear A c2 c4 htk Un vp hsr hfd Vi;generalize W1 vs fs (Zai p.2)=st at *;obtain⟨okk,vs2,fs2⟩:=st;subst Zns;have hb14:Nat.blt (H.next+14) h2.next=true:=by rw[Nat.blt_eq];omega
       have hU3:∀m,UM (H.next+111+4) ver (H.next+111+1) va (H.next+111+2) vb vs fs (h3.put (H.next+44) v44 m):=fun m=>hUf.get.frame (by simp) (by simp) (by simp) (by simp)
       (refine Zm ?_;repeat'(first|(refine Zi fun _=>?_;try simp(disch:=first|exact Zw|fail)[*,Zu])|refine Zx ?_|refine Zn ?_ ?_))
       refine Yj false false [] [92] [H.next+14] [90] false (by decide +kernel) ?_
       (refine Zm ?_;repeat'(first|(refine Zi fun _=>?_;try simp(disch:=first|exact Zw|fail)[*,Zu,Pure.reach])|refine Zx ?_|refine Zn ?_ ?_))
       .rename_i ho
        have hAp4:∀m1 m2 m3,Pure.Acc [73,81] ⟨H.next,H.next,[]⟩ (((h3.put (H.next+44) v44 m1).put (H.next+111+1) va m2).put (H.next+111+2) vb m3) 23 wp2 (((t.take (i+1)).map (rep s)).map Sn):=fun m1 m2 m3=>Zpx.get.frame fun d hd=>by
         simp at hd;rcases hd with rfl | rfl<;>simp
        have hAk4:∀m1 m2 m3,Pure.Acc [77] ⟨H.next,H.next,[]⟩ (((h3.put (H.next+44) v44 m1).put (H.next+111+1) va m2).put (H.next+111+2) vb m3) 58 wk (((t.take (i+1)).filter (kbS s)).map Yb):=fun m1 m2 m3=>Zpy.get.frame fun d hd=>by
         simp at hd;subst hd;simp
        refine⟨_,by omega,i+1,rfl,by omega,by omega,by simpa using hAp4 _ _ _,by simpa using hAk4 _ _ _,ins++[name],P++Zai p.2,vs2,fs2,(hU3 _).put vs2 fs2,Zp0.get,by simp,A2.get vs2 fs2 (by rw[ho]),Zwp.get⟩
       .rename_i ho;have hVV:=Zco.get ho;subst hVV;simp[Wh]
      .have hVV:V=([],3):=by
        rw[<- hV.get];refine Ze5 hN.get fun hs=>absurd hs (PSt.badSort hlt Xy (by rw[hnm];exact hfd) ?_)
        rw[hsr,hso];exact Zns
       subst hVV;have hsb:(Ya trp==sort)=false:=by simpa using Zns
       clear A c2 c4 htk Un vp hsr hfd Vi;have hb14:Nat.blt (H.next+14) h2.next=true:=by rw[Nat.blt_eq];omega
       (refine Zm ?_;repeat'(first|(refine Zi fun _=>?_;try simp(disch:=first|exact Zw|fail)[*,Zu])|refine Zx ?_|refine Zn ?_ ?_))
       refine Yj false false [] [92] [H.next+14] [90] false (by decide +kernel) ?_
       (refine Zm ?_;repeat'(first|(refine Zi fun _=>?_;try simp(disch:=first|exact Zw|fail)[*,Zu,Wh,Pure.reach])|refine Zx ?_|refine Zn ?_ ?_))
   .have hit:i=t.length:=by omega
    subst hit;rw[List.take_length]at hAp hAk;have Zay:=A.done v hg.get hN.get;have hsok:=A.sortOk;have h57:=Zabl v b;have hKK:=Zpl v (kbS s);have Qb:(t.filter (kbS s)).length<=t.length:=List.length_filter_le _ _
    have Un:(W3 t).length < 2^29:=by
     have h1:=Zqo (Zt t) ([],[]);have h2:=Zb2 t;unfold W3 X9;simp at h1;omega
    have hfar:∀g∈W3 t,g.args.length < 2^30:=fun g hgm=>v.args g (Zkc.1 hgm).1
    have hapE:(t.map (rep s)).flatten=Sq s t:=by unfold Sq;rw[List.flatMap_def]
    have hVV:∀c,Yx (Zdx t s)=c->V=if c then Zv5 (t.map (rep s)) else ([],3):=fun c hc=>by
     rw[<- hV.get];cases c with
     |false=>exact Ze5 hN.get fun _=>hc
     |true=>rw[Zxs v hg.get hN.get hsok hc];simp only[Zv5,hapE,if_true]
    have Yn:(t.map (rep s)).flatten≠[]:=by
     intro e;rw[List.flatten_eq_nil_iff]at e;have hn:=v.ne;have h1:=e (rep s t[0]) (List.mem_map.2 ⟨t[0],List.getElem_mem hn,rfl⟩);rcases Tx s t[0]with⟨_,_,_,e2⟩ | ⟨k,hk,_,_,_,e2,_⟩
     .rw [e2]at h1;cases h1
     .rw [e2]at h1;obtain⟨_,_,trk,vk⟩:=hg.get s[k] (List.getElem_mem hk);have:=vk.ne;rw[h1]at this;simp at this
    have hpp:∀p∈t.map (rep s),p.length<=20000:=by
     intro p hp;obtain⟨n,_,rfl⟩:=List.mem_map.1 hp;rcases Tx s n with⟨_,_,_,e2⟩ | ⟨k,hk,_,_,_,e2,_⟩
     .rw [e2];simp
     .rw [e2];obtain⟨_,_,trk,vk⟩:=hg.get s[k] (List.getElem_mem hk);exact vk.len
    have h58:=Zanm true (t.map (rep s)) Yn (by simp;omega) hpp Sv.get
    have hc56:∃h5,Yf vE {base:=H.next,lo:=H.next,ok:=[]} 56 [.ptr (H.next+111+4) ver 0,wk,L 155 true ((X9 (Zt t)).2.map Y5)] h2=some (.bool (Yx (Zdx t s)),h5)/\∀j,j≠H.next+111+4->j≠H.next+111+1->j≠H.next+111+2->j≠H.next+77->h5.get j=h2.get j:=by
     rcases hAk with⟨e0,rfl⟩ | ⟨d,Zyk,Zio,hd,rfl,hgk⟩
     .obtain ⟨h5,hc,ho⟩:=Zaas (t.filter (kbS s)) true (W3 t) hKK (by omega) Un hfar hfa U {base:=H.next,lo:=H.next,ok:=[]} (by simp;omega) (by simp;omega) (by simp;omega);rw[Zay,e0]at hc;exact⟨h5,hc,fun j a1 a2 a3 _=>ho j a1 a2 a3⟩
     .simp only [List.mem_singleton]at hd;subst hd;rw[List.length_map];obtain⟨h5,hc,ho⟩:=Zaat (t.filter (kbS s)) (W3 t) hKK (by omega) Un hfar hfa U hgk (by show H.next+77≠_;omega) (by show H.next+77≠_;omega) (by show H.next+77≠_;omega) {base:=H.next,lo:=H.next,ok:=[]} (by simp;omega) (by simp;omega) (by simp;omega) (by simp);rw[Zay]at hc;exact⟨h5,hc,fun j a1 a2 a3 a4=>ho j a1 a2 a3 a4⟩
    obtain⟨h5,hc56,Z8y⟩:=hc56;have hAp5:=hAp.frame (h':=h5) (fun d hd=>Z8y _ (by simp at hd;rcases hd with rfl | rfl<;>show H.next+_≠_<;>omega) (by simp at hd;rcases hd with rfl | rfl<;>show H.next+_≠_<;>omega) (by simp at hd;rcases hd with rfl | rfl<;>show H.next+_≠_<;>omega) (by simp at hd;rcases hd with rfl | rfl<;>show H.next+_≠_<;>omega));cases hcl:Yx (Zdx t s) with
    |false=>
     rw[hcl]at hc56;have hv:=hVV false hcl;simp only[Bool.false_eq_true,if_false]at hv;subst hv;clear hVV Zay hsok hKK hfar Yn hpp h58 Z8y hAp5 hAp hAk A U hcl Sv hfa
     (refine Zm ?_;repeat'(first|(refine Zi fun _=>?_;try simp(disch:=first|exact Zw|fail)[*,Zu,Wh])|refine Zx ?_|refine Zn ?_ ?_))
    |true=>
     rw[hcl]at hc56;have hv:=hVV true hcl;simp only[if_true]at hv;rw[<- hv]at h58;obtain⟨x,e⟩:=V;have hc58:=hAp5.callT (C:=vE) (f:=58) rfl rfl [] [] h58 (Zbp x e) (Zadx x e) rfl rfl;simp only[List.nil_append]at hc58;clear hVV Zay hsok hKK hfar Yn hpp h58 Z8y hAp5 hAp hAk A U hcl Sv hfa hv
     (refine Zm ?_;repeat'(first|(refine Zi fun _=>?_;try simp(disch:=first|exact Zw|fail)[*,Zu])|refine Zx ?_|refine Zn ?_ ?_))
 .rw [decide_eq_false (hnm ▸ hN)]at h51;clear hnm;unfold X0 at hV;rw[if_pos hN]at hV;subst hV;clear hN hg;intro K H;refine Wc Tryz.func16 ?_
  (refine Zm ?_;repeat'(first|(refine Zi fun _=>?_;try simp(disch:=first|exact Zw|fail)[*,Zu,Tryz.f16,Wh])|refine Zx ?_|refine Zn ?_ ?_))
end Go.Proofs.YtabcdhcpilpojaaGreatDoor
end
