/- Terms as trees: well-formed trees, their uses, substitution. -/
import Derived.Test.YtabcdhcpilpojaaGreatDoorFF
import Derived.Test.YtabcdhcpilpojaaGreatDoorPD
import Derived.Test.YtabcdhcpilpojaaGreatDoorFC
set_option linter.unusedSimpArgs false
set_option linter.unusedVariables false
section
set_option maxRecDepth 20000
namespace Go.Proofs.YtabcdhcpilpojaaGreatDoor
open Go Go.Pure
open Go.Virt (Ex Ctx Ty TK)
mutual
def WF:Tr->Prop
 | .mk op sort name num ks=>Wh op sort name num=true/\Y5 op (ks.length:Int)=true/\WFs ks
def WFs:List Tr->Prop
 | []=>True
 |k::r=>WF k/\WFs r
end
theorem Zagk:∀ {ks:List Tr},WFs ks↔∀k∈ks,WF k
 | []=>by simp[WFs]
 |k::r=>by simp[WFs,Zagk (ks:=r)]
theorem Zqj {p:List Nd->Option (Tr×List Nd)}(hp:∀r t r',p r=some (t,r')->r=flat t++r'/\WF t):∀ {k:Nat} {r r':List Nd} {ts:List Tr},many p k r=some (ts,r')->r=Tx ts++r'/\WFs ts/\ts.length=k
 | 0,r,r',ts,h=>by
   simp only[many,Option.some.injEq,Prod.mk.injEq]at h;obtain⟨rfl,rfl⟩:=h;exact⟨rfl,trivial,rfl⟩
 |k+1,r,r',ts,h=>by
  simp only[many]at h;split at h
  .cases h
  .rename_i t1 r1 h1;split at h
   .cases h
   .rename_i us r2 h2;cases h;obtain⟨e1,w1⟩:=hp _ _ _ h1;obtain⟨e2,w2,l2⟩:=Zqj hp h2;refine⟨?_,⟨w1,w2⟩,by simp[l2]⟩;rw[e1,e2];simp[Tx]
theorem Ztb {op n:Int}(h:Y5 op n=true):0<=n:=by
 unfold Y5 at h;split at h
 .simp at h;omega
 .split at h
  .simp at h;omega
  .split at h
   .simp at h;omega
   .split at h
    .simpa using h
    .split at h
     .simp at h;omega
     .split at h
      .simp at h;omega
      .simp at h;omega
theorem Zgx:∀ {d:Nat} {r r':List Nd} {t:Tr},Zg d r=some (t,r')->r=flat t++r'/\WF t
 | 0,r,r',t,h=>by simp[Zg]at h
 |d+1,[],r',t,h=>by simp[Zg]at h
 |d+1,n::r,r',t,h=>by
  simp only[Zg]at h;split at h
  .rename_i hc;rw[Bool.and_eq_true]at hc;split at h
   .cases h
   .rename_i ks r1 h1;cases h;obtain⟨e,w,l⟩:=Zqj (fun _ _ _ hh=>Zgx hh) h1
    have hk:(ks.length:Int)=n.kids:=by
     have:=Ztb hc.2;rw[l];omega
    obtain⟨op,sort,name,num,kids⟩:=n;simp only at hk hc;subst hk;refine⟨?_,hc.1,hc.2,w⟩;rw[e];simp[flat]
  .cases h
mutual
theorem Zg8:∀(t:Tr) (d:Nat) (r:List Nd),WF t->Xd t<=d->Zg d (flat t++r)=some (t,r)
 | .mk op sort name num ks,d,r,hw,hd=>by
   cases d with
   |zero=>rw[Xd]at hd;omega
   |succ d=>
    rw[Xd]at hd;rw[WF]at hw;have h1:=Ze2 ks d r hw.2.2 (by omega);simp only[flat,List.cons_append,Zg,hw.1,hw.2.1,Bool.and_self,if_true,Int.toNat_natCast,h1]
theorem Ze2:∀(ks:List Tr) (d:Nat) (r:List Nd),WFs ks->Y8 ks<=d->many (Zg d) ks.length (Tx ks++r)=some (ks,r)
 | [],d,r,hw,hd=>by simp[many,Tx]
 |k::ks,d,r,hw,hd=>by
  rw[Y8]at hd;rw[WFs]at hw;have h1:=Zg8 k d (Tx ks++r) hw.1 (by omega);have h2:=Ze2 ks d r hw.2 (by omega);simp only[Tx,List.length_cons,many,List.append_assoc,h1,h2]
end
def Zo8 (op sort:Int)(name:Yn)(ks:List Tr):List Use:=if op=4 then [⟨false,name,[],sort⟩] else if op=5 then [⟨true,name,Yr ks,sort⟩] else []
mutual
def Uu:Tr->List Use
 | .mk op sort name num ks=>Zo8 op sort name ks++U0 ks
def U0:List Tr->List Use
 | []=>[]
 |k::r=>Uu k++U0 r
end
mutual
theorem Zp4:∀(t:Tr) (r:List Nd),WF t->Xd t<=258->Zy (flat t++r)=Uu t++Zy r
 | .mk op sort name num ks,r,hw,hd=>by
   rw[Xd]at hd;rw[WF]at hw;have h1:=Zmh ks r hw.2.2 (by omega);have h2:=Ze2 ks 257 r hw.2.2 (by omega);simp only[flat,List.cons_append,Zy,Xf,Int.toNat_natCast,h2,h1,Uu,Zo8,List.append_assoc]
theorem Zmh:∀(ks:List Tr) (r:List Nd),WFs ks->Y8 ks<=257->Zy (Tx ks++r)=U0 ks++Zy r
 | [],r,hw,hd=>by simp[Tx,U0]
 |k::ks,r,hw,hd=>by
  rw[Y8]at hd;rw[WFs]at hw;have h1:=Zp4 k (Tx ks++r) hw.1 (by omega);have h2:=Zmh ks r hw.2 (by omega);simp only[Tx,U0,List.append_assoc,h1,h2]
end
theorem Zmi {t:Tr}(hw:WF t)(hd:Xd t<=258):Zy (flat t)=Uu t:=by
 have:=Zp4 t [] hw hd;simpa[Zy]using this
def Zr1 (f:Yn->Option Tr)(op sort:Int)(name num:Yn)(ks ks':List Tr):Tr:=if op=4 then (match f name with
  |some t=>t
  |none=>.mk op sort name num ks) else .mk op sort name num ks'
mutual
def Zcc (f:Yn->Option Tr):Tr->Tr
 | .mk op sort name num ks=>Zr1 f op sort name num ks (Zbn f ks)
def Zbn (f:Yn->Option Tr):List Tr->List Tr
 | []=>[]
 |k::r=>Zcc f k::Zbn f r
end
theorem Zc2 (f:Yn->Option Tr):∀ks,(Zbn f ks).length=ks.length
 | []=>rfl
 |k::r=>by simp[Zbn,Zc2 f r]
theorem Zme {sort:Int}{name num:Yn}{ks:List Tr}(h:WF (.mk 4 sort name num ks)):ks=[]:=by
 rw[WF]at h;have:=h.2.1;simp[Y5]at this;exact this
mutual
theorem Z0v (f:Yn->Option Tr)(hf:∀x t,f x=some t->WF t):∀t,WF t->WF (Zcc f t)
 | .mk op sort name num ks,hw=>by
   rw[Zcc,Zr1];split
   .split
    .rename_i t' ht;exact hf _ _ ht
    .exact hw
   .rw [WF]at hw ⊢;exact⟨hw.1,by rw[Zc2];exact hw.2.1,Zuu f hf ks hw.2.2⟩
theorem Zuu (f:Yn->Option Tr)(hf:∀x t,f x=some t->WF t):∀ks,WFs ks->WFs (Zbn f ks)
 | [],_=>trivial
 |k::r,hw=>by
  rw[WFs]at hw;exact⟨Z0v f hf k hw.1,Zuu f hf r hw.2⟩
end
def Z3f (f:Yn->Option Tr)(n:Nd):List Nd:=if n.op=4 then (match f n.name with
  |some t=>flat t
  |none=>[n]) else [n]
mutual
theorem Zwu (f:Yn->Option Tr):∀t,WF t->flat (Zcc f t)=(flat t).flatMap (Z3f f)
 | .mk op sort name num ks,hw=>by
   by_cases h4:op=4
   .subst h4;have hk:=Zme hw;subst hk;simp only[Zcc,Zr1,if_true,flat,Tx,List.flatMap_cons,List.flatMap_nil,List.append_nil,Z3f];split<;>simp_all[flat,Tx]
   .rw [WF]at hw;have h1:=Zq5 f ks hw.2.2;simp only[Zcc,Zr1,if_neg h4,flat,h1,List.flatMap_cons,Z3f,Zc2];rfl
theorem Zq5 (f:Yn->Option Tr):∀ks,WFs ks->Tx (Zbn f ks)=(Tx ks).flatMap (Z3f f)
 | [],_=>rfl
 |k::r,hw=>by
  rw[WFs]at hw;simp only[Zbn,Tx,List.flatMap_append,Zwu f k hw.1,Zq5 f r hw.2]
end
theorem Z3e {op sort a b:Int}{l:List Int}(h:op≠15\/a=b):W5 op sort a l=W5 op sort b l:=by
 rcases h with h | h
 .simp only [W5,h,if_false]
 .rw [h]
theorem Zacw {sort a:Int}{l:List Int}(h:0 < W5 15 sort a l):a=3:=by
 by_cases h3:a=3
 .exact h3
 .simp [W5,h3]at h
mutual
theorem Zp7 (f:Yn->Option Tr):∀t,WF t->0 < Ya t->(∀u∈Uu t,u.fn=false->∀r,f u.name=some r->Ya r=u.sort)->Ya (Zcc f t)=Ya t
 | .mk op sort name num ks,hw,hp,hu=>by
   rw[Uu]at hu;by_cases h4:op=4
   .subst h4;have hk:=Zme hw;subst hk;rw[Zcc,Zr1,if_pos rfl];cases hf:f name with
    |none=>rfl
    |some r=>
     simp only;rw[hu ⟨false,name,[],sort⟩ (by simp[Zo8]) rfl r hf];simp[Ya,Yr,W5]
   .rw [WF]at hw;obtain⟨hks,he⟩:=Zao hp;have h1:=Zeb f ks hw.2.2 hks (fun u hu'=>hu u (List.mem_append_right _ hu'));rw[Zcc,Zr1,if_neg h4,he,Ya,h1];rw[if_pos]
    .refine Z3e ?_;by_cases h15:op=15
     .right;rw[he,h15]at hp;have h3:=Zacw hp;rw[h3];cases ks with
      |nil=>simp[Vh]at h3
      |cons k r=>
       obtain⟨kop,ks1,kn,knu,kk⟩:=k;simp only[Vh,Tr.op]at h3;subst h3;simp[Zbn,Zcc,Zr1,Vh,Tr.op]
     .exact .inl h15
    .rw [List.all_eq_true];intro s hs;rw[decide_eq_true_eq]
     have:∀(l:List Tr),(∀k∈l,0 < Ya k)->∀s∈Yr l,0 < s:=by
      intro l
      induction l with
      |nil=>intro _ s hs;simp[Yr]at hs
      |cons k r ih=>
       intro hl s hs;simp only[Yr,List.mem_cons]at hs;rcases hs with rfl | hs
       .exact hl k (by simp)
       .exact ih (fun k hk=>hl k (by simp[hk])) s hs
     exact this ks hks s hs
theorem Zeb (f:Yn->Option Tr):∀ks,WFs ks->(∀k∈ks,0 < Ya k)->(∀u∈U0 ks,u.fn=false->∀r,f u.name=some r->Ya r=u.sort)->Yr (Zbn f ks)=Yr ks
 | [],_,_,_=>rfl
 |k::r,hw,hp,hu=>by
  rw[WFs]at hw;rw[U0]at hu;have h1:=Zp7 f k hw.1 (hp k (by simp)) (fun u h=>hu u (List.mem_append_left _ h));have h2:=Zeb f r hw.2 (fun k hk=>hp k (by simp[hk])) (fun u h=>hu u (List.mem_append_right _ h));simp only[Zbn,Yr,h1,h2]
end
mutual
theorem Zp3 (f:Yn->Option Tr):∀t,WF t->0 < Ya t->(∀u∈Uu t,u.fn=false->∀r,f u.name=some r->Ya r=u.sort)->∀u,u∈Uu (Zcc f t)↔(u∈Uu t/\(u.fn=true\/f u.name=none))\/∃v∈Uu t,v.fn=false/\∃r,f v.name=some r/\u∈Uu r
 | .mk op sort name num ks,hw,hp,hu,u=>by
   rw[Uu]at hu;by_cases h4:op=4
   .subst h4;have hk:=Zme hw;subst hk;rw[Zcc,Zr1,if_pos rfl];cases hf:f name with
    |none=>
     simp only[Uu,Zo8,if_true,U0,List.append_nil,List.mem_singleton];constructor
     .rintro rfl;exact .inl ⟨rfl,.inr hf⟩
     .rintro (⟨rfl,_⟩ | ⟨v,rfl,_,r,h,_⟩)
      .rfl
      .rw [hf]at h;cases h
    |some r=>
     simp only[Uu,Zo8,if_true,U0,List.append_nil,List.mem_singleton];constructor
     .intro h;exact .inr ⟨_,rfl,rfl,r,hf,h⟩
     .rintro (⟨rfl,h⟩ | ⟨v,rfl,_,r',h,h'⟩)
      .rcases h with h | h
       .cases h
       .rw [hf]at h;cases h
      .rw [hf]at h;cases h;exact h'
   .rw [WF]at hw;obtain⟨hks,he⟩:=Zao hp;have hu2:∀u∈U0 ks,u.fn=false->∀r,f u.name=some r->Ya r=u.sort:=fun u hu'=>hu u (List.mem_append_right _ hu')
    have h1:=Zeb f ks hw.2.2 hks hu2;have h2:=Zmf f ks hw.2.2 hks hu2 u;rw[Zcc,Zr1,if_neg h4];have hN:Zo8 op sort name (Zbn f ks)=Zo8 op sort name ks:=by simp only[Zo8,h1]
    have hNf:∀w∈Zo8 op sort name ks,w.fn=true:=by
     intro w hw';unfold Zo8 at hw';rw[if_neg h4]at hw';split at hw'
     .simp at hw';rw[hw']
     .cases hw'
    simp only[Uu,hN,List.mem_append,h2];constructor
    .rintro (h | ⟨h,h'⟩ | ⟨v,hv,h',h''⟩)
     .exact .inl ⟨.inl h,.inl (hNf u h)⟩
     .exact .inl ⟨.inr h,h'⟩
     .exact .inr ⟨v,.inr hv,h',h''⟩
    .rintro (⟨h | h,h'⟩ | ⟨v,hv | hv,h',h''⟩)
     .exact .inl h
     .exact .inr (.inl ⟨h,h'⟩)
     .have:=hNf v hv;rw[h']at this;cases this
     .exact .inr (.inr ⟨v,hv,h',h''⟩)
theorem Zmf (f:Yn->Option Tr):∀ks,WFs ks->(∀k∈ks,0 < Ya k)->(∀u∈U0 ks,u.fn=false->∀r,f u.name=some r->Ya r=u.sort)->∀u,u∈U0 (Zbn f ks)↔(u∈U0 ks/\(u.fn=true\/f u.name=none))\/∃v∈U0 ks,v.fn=false/\∃r,f v.name=some r/\u∈Uu r
 | [],_,_,_,u=>by simp[Zbn,U0]
 |k::r,hw,hp,hu,u=>by
  rw[WFs]at hw;rw[U0]at hu;have h1:=Zp3 f k hw.1 (hp k (by simp)) (fun u h=>hu u (List.mem_append_left _ h)) u;have h2:=Zmf f r hw.2 (fun k hk=>hp k (by simp[hk])) (fun u h=>hu u (List.mem_append_right _ h)) u;simp only[Zbn,U0,List.mem_append,h1,h2];constructor
  .rintro ((⟨h,h'⟩ | ⟨v,hv,h',h''⟩) | (⟨h,h'⟩ | ⟨v,hv,h',h''⟩))
   .exact .inl ⟨.inl h,h'⟩
   .exact .inr ⟨v,.inl hv,h',h''⟩
   .exact .inl ⟨.inr h,h'⟩
   .exact .inr ⟨v,.inr hv,h',h''⟩
  .rintro (⟨h | h,h'⟩ | ⟨v,hv | hv,h',h''⟩)
   .exact .inl (.inl ⟨h,h'⟩)
   .exact .inr (.inl ⟨h,h'⟩)
   .exact .inl (.inr ⟨v,hv,h',h''⟩)
   .exact .inr (.inr ⟨v,hv,h',h''⟩)
end
def Zz3:List Nat->List Nat
 | []=>[]
 |k::r=>(k - 1)::r
def Zhy (st:List Nat):List Nat:=st.dropWhile (fun k=>k==0)
def Tb:List Nat->List Nd->Bool
 | _,[]=>false
 |st,n::r=>if 256 < (Zhy st).length then true else Tb (n.kids.toNat::Zz3 (Zhy st)) r
theorem Z48 (st:List Nat)(r:List Nd):Tb (0::st) r=Tb st r:=by
 cases r with
 |nil=>rfl
 |cons n r=>
  have:Zhy (0::st)=Zhy st:=by simp[Zhy]
  simp only[Tb,this]
theorem Zqb {st:List Nat}(h:st.head?≠some 0):Zhy st=st:=by
 cases st with
 |nil=>rfl
 |cons k r=>
  have:k≠0:=by simpa using h
  simp[Zhy,List.dropWhile_cons,this]
mutual
theorem Zrc:∀(t:Tr) (st:List Nat) (r:List Nd),st.head?≠some 0->Tb st (flat t++r)=(decide (256 < st.length+(Xd t - 1))||Tb (Zz3 st) r)
 | .mk op sort name num ks,st,r,hn=>by
   simp only[flat,List.cons_append,Tb,Zqb hn,Xd,Nat.add_sub_cancel,Int.toNat_natCast];have h1:=Zog ks (Zz3 st) r;by_cases hl:256 < st.length
   .rw [if_pos hl,decide_eq_true (by omega)];rfl
   .rw [if_neg hl,h1];have hd:(Zz3 st).length=st.length:=by cases st<;>rfl
    rw[hd];cases ks with
    |nil=>
     have:decide (256 < st.length+Y8 [])=false:=by rw[Y8,decide_eq_false_iff_not];omega
     rw[this];simp
    |cons k ks=>simp
theorem Zog:∀(ks:List Tr) (st:List Nat) (r:List Nd),Tb (ks.length::st) (Tx ks++r)=((!ks.isEmpty&&decide (256 < st.length+Y8 ks))||Tb st r)
 | [],st,r=>by simp[Tx,Z48]
 |k::ks,st,r=>by
  have h1:=Zrc k ((ks.length+1)::st) (Tx ks++r) (by simp);have h2:=Zog ks st r;have hk:0 < Xd k:=by cases k;rw[Xd];omega
  have hd:Y8 (k::ks)=max (Xd k) (Y8 ks):=by rw[Y8]
  rw[hd];simp only[Tx,List.append_assoc,List.length_cons,h1,Zz3,Nat.add_sub_cancel,h2,List.isEmpty_cons,Bool.not_false,Bool.true_and];rw[<- Bool.or_assoc];congr 1;cases ks with
  |nil=>
   have h0:Y8 []=0:=by rw[Y8]
   rw[h0];simp only[List.isEmpty_nil,Bool.not_true,Bool.false_and,Bool.or_false];exact decide_eq_decide.2 (by omega)
  |cons a b=>
   simp only[List.isEmpty_cons,Bool.not_false,Bool.true_and];rw[Bool.eq_iff_iff];simp only[Bool.or_eq_true,decide_eq_true_eq];omega
end
theorem Z49 (t:Tr):Tb [] (flat t)=decide (257 < Xd t):=by
 have h:=Zrc t [] [] (by simp);have hk:0 < Xd t:=by cases t;rw[Xd];omega
 rw[List.append_nil]at h;rw[h];simp only[Tb,List.length_nil,Bool.or_false,decide_eq_decide];omega
abbrev Ys:=Yn×List Nd
abbrev V7 (s:Ys):PV:=.agg [.str s.1,L 58 true (s.2.map Zv)]
def Vv (s:List Ys)(x:Yn):Int:=match s.findIdx? (fun p=>p.1==x) with
 |some k=>k
 |none=> -1
theorem Zow (b:Bool)(s:List Ys)(x:Yn)(hl:s.length < 2^30):Xn vE 62 [L 47 b (s.map V7),.str x] (.int .i64 (Vv s x)):=by
 unfold Vv;cases hf:s.findIdx? (fun p=>p.1==x) with
 |none=>
  have hall:∀i (h:i < s.length),s[i].1≠x:=fun i h=>by
   have:=List.findIdx?_eq_none_iff.1 hf s[i] (List.getElem_mem h);simpa using this
  replace hall:=Hide.mk hall;clear hf;intro K H;refine Wc Tryz.func62 ?_
  (refine Zm ?_;repeat'(first|(refine Zi fun _=>?_;try simp(disch:=first|exact Zq|fail)[*,Zs,Tryz.f62])|refine Ye ?_|refine Zx ?_|refine Zn ?_ ?_))
  refine Zl [0,1] (fun n sl h=>∃i:Nat,n=s.length - i/\i<=s.length/\sl 5=some (.int .i64 i)) s.length rfl ⟨0,by simp,by simp,by simp⟩ ?_;rintro n sl h hfr ⟨i,hn,hi,h5⟩;simp at hfr;by_cases hlt:i < s.length
  .have hx:=hall.get i hlt;generalize hy:s[i]=y at *
   (refine Zm ?_;repeat'(first|(refine Zi fun _=>?_;try simp(disch:=first|exact Zq|fail)[*,Zs])|refine Ye ?_|refine Zx ?_|refine Zn ?_ ?_))
   .rename_i e;exact absurd (hy ▸ e) hx
   .exact ⟨_,by omega,i+1,rfl,by omega,by omega⟩
  . (refine Zm ?_;repeat'(first|(refine Zi fun _=>?_;try simp(disch:=first|exact Zq|fail)[*,Zs])|refine Ye ?_|refine Zx ?_|refine Zn ?_ ?_))
 |some k=>
  obtain⟨hk,Yi,hall⟩:=List.findIdx?_eq_some_iff_getElem.1 hf;have Zim:s[k].1=x:=by simpa using Yi
  have Zn1:∀i (h:i < s.length),i < k->s[i].1≠x:=fun i h hi=>by simpa using hall i hi
  clear Yi hall hf;replace Zn1:=Hide.mk Zn1;intro K H;refine Wc Tryz.func62 ?_
  (refine Zm ?_;repeat'(first|(refine Zi fun _=>?_;try simp(disch:=first|exact Zq|fail)[*,Zs,Tryz.f62])|refine Ye ?_|refine Zx ?_|refine Zn ?_ ?_))
  refine Zl [0,1] (fun n sl h=>∃i:Nat,n=s.length - i/\i<=k/\sl 5=some (.int .i64 i)) s.length rfl ⟨0,by simp,by simp,by simp⟩ ?_;rintro n sl h hfr ⟨i,hn,hi,h5⟩;simp at hfr;by_cases hik:i < k
  .have hx:=Zn1.get i (by omega) hik;have hlt:i < s.length:=by omega
   clear Zim;generalize hy:s[i]=y at *
   (refine Zm ?_;repeat'(first|(refine Zi fun _=>?_;try simp(disch:=first|exact Zq|fail)[*,Zs])|refine Ye ?_|refine Zx ?_|refine Zn ?_ ?_))
   .rename_i e;exact absurd (hy ▸ e) hx
   .exact ⟨_,by omega,i+1,rfl,by omega,by omega⟩
  .have e:i=k:=by omega
   subst e;generalize hy:s[i]=y at *
   (refine Zm ?_;repeat'(first|(refine Zi fun _=>?_;try simp(disch:=first|exact Zq|fail)[*,Zs])|refine Ye ?_|refine Zx ?_|refine Zn ?_ ?_))
theorem Z21 {s:List Ys}{x:Yn}:Vv s x < 0↔x∉s.map (·.1):=by
 unfold Vv;cases hf:s.findIdx? (fun p=>p.1==x) with
 |none=>
  have h:=List.findIdx?_eq_none_iff.1 hf;simp only[List.mem_map,not_exists,not_and];exact⟨fun _ p hp e=>by simpa[e]using h p hp,fun _=>by decide⟩
 |some k=>
  obtain⟨hk,Yi,_⟩:=List.findIdx?_eq_some_iff_getElem.1 hf;simp only[List.mem_map];exact⟨fun h=>by omega,fun h=>absurd ⟨s[k],List.getElem_mem hk,by simpa using Yi⟩ h⟩
theorem Z0a (b:Bool)(s:List Ys)(hl:s.length < 2^30):Xn vE 61 [L 47 b (s.map V7)] (.bool (!(decide (s.map (·.1)).Nodup))):=by
 intro K H;refine Wc Tryz.func61 ?_
 (refine Zm ?_;repeat'(first|(refine Zi fun _=>?_;try simp(disch:=first|exact Zq|fail)[*,Zs,Tryz.f61])|refine Ye ?_|refine Zx ?_|refine Zn ?_ ?_))
 refine Zl [0] (fun n sl h=>∃i:Nat,n=s.length - i/\i<=s.length/\sl 3=some (.int .i64 i)/\((s.map (·.1)).take i).Nodup) s.length rfl ⟨0,by simp,by simp,by simp,by simp⟩ ?_;rintro n sl h hfr ⟨i,hn,hi,h3,hnd⟩;simp at hfr;by_cases hlt:i < s.length
 .have hlm:i < (s.map (·.1)).length:=by simpa using hlt
  have htk:=Xb (s.map (·.1)) i hlm;have h62:=Zow (b&&s.isEmpty) (s.take i) s[i].1 (by simp;omega);have Zv8:=Z21 (s:=s.take i) (x:=s[i].1);rw[List.map_take]at Zv8 h62;have hgm:(s.map (·.1))[i]=s[i].1:=by simp
  rw[hgm]at htk;by_cases hm:s[i].1∈(s.map (·.1)).take i
  .have hnn:¬ (s.map (·.1)).Nodup:=fun hN=>by
    have h2:((s.map (·.1)).take (i+1)).Nodup:=hN.sublist (List.take_sublist _ _);rw[htk,List.nodup_append]at h2;exact h2.2.2 _ hm _ (by simp) rfl
   have e:decide (s.map (·.1)).Nodup=false:=by simpa using hnn
   rw[e]
   have hge:0<=Vv (s.take i) s[i].1:=by
    have:¬ Vv (s.take i) s[i].1 < 0:=fun hh=>Zv8.1 hh hm
    omega
   clear Zv8 hnd htk hm hnn hgm e;generalize Vv (s.take i) s[i].1=q at *;generalize hy:s[i]=y at *
   (refine Zm ?_;repeat'(first|(refine Zi fun _=>?_;try simp(disch:=first|exact Zq|fail)[*,Zs])|refine Ye ?_|refine Zx ?_|refine Zn ?_ ?_))
  .have hge:Vv (s.take i) s[i].1 < 0:=Zv8.2 hm
   have Zza:((s.map (·.1)).take (i+1)).Nodup:=by
    rw[htk,List.nodup_append];exact⟨hnd,by simp,fun a ha b hb e=>by simp at hb;subst hb;exact hm (e ▸ ha)⟩
   replace Zza:=Hide.mk Zza;clear Zv8 hnd htk hm hgm;generalize Vv (s.take i) s[i].1=q at *;generalize hy:s[i]=y at *
   (refine Zm ?_;repeat'(first|(refine Zi fun _=>?_;try simp(disch:=first|exact Zq|fail)[*,Zs])|refine Ye ?_|refine Zx ?_|refine Zn ?_ ?_))
   exact⟨_,by omega,i+1,rfl,by omega,by omega,Zza.get⟩
 .have e:i=s.length:=by omega
  subst e;rw[show s.length=(s.map (·.1)).length by simp,List.take_length]at hnd;have e:decide (s.map (·.1)).Nodup=true:=by simpa using hnd
  rw[e]
  (refine Zm ?_;repeat'(first|(refine Zi fun _=>?_;try simp(disch:=first|exact Zq|fail)[*,Zs])|refine Ye ?_|refine Zx ?_|refine Zn ?_ ?_))
def Wd (s:List Ys):Prop:=∀x∈s,Uv x.1=true/\x.1.length<=2^19/\∃tr,VT x.2 tr
theorem VT.short {t:List Nd}{tr:Tr}(v:VT t tr):∀n∈t,n.Short:=v.good.short
theorem VT.sortL {t:List Nd}{tr:Tr}(v:VT t tr):Go.Proofs.YtabcdhcpilpojaaGreatDoor.sortL t=Ya tr:=by
 unfold Go.Proofs.YtabcdhcpilpojaaGreatDoor.sortL;rw[if_neg (by have:=v.len;omega),v.parse];have:Yz (Zy t)=true:=by unfold Yz;rw[decide_eq_true_eq];exact v.clean
 simp only[this,if_true]
theorem VT.ans59 {t:List Nd}{tr:Tr}(v:VT t tr)(b:Bool):Xn vE 59 [L 58 b (t.map Zv)] (.bool true):=by
 have h:=Zox b t v.short (by have:=v.len;omega);have hp:=v.pos;rw[v.sortL,decide_eq_true hp]at h;exact h
theorem VT.ans34 {t:List Nd}{tr:Tr}(v:VT t tr)(b:Bool):Xn vE 34 [L 58 b (t.map Zv)] (.int .i64 (Ya tr)):=by
 have h:=Z0f b t v.short (by have:=v.len;omega);rw[v.sortL]at h;exact h
theorem Z0b (b:Bool)(s:List Ys)(hl:s.length < 2^30)(hg:Wd s):Xn vE 60 [L 47 b (s.map V7)] (.bool true):=by
 replace hg:=Hide.mk hg;intro K H;refine Wc Tryz.func60 ?_
 (refine Zm ?_;repeat'(first|(refine Zi fun _=>?_;try simp(disch:=first|exact Zq|fail)[*,Zs,Tryz.f60])|refine Ye ?_|refine Zx ?_|refine Zn ?_ ?_))
 refine Zl [0] (fun n sl h=>∃i:Nat,n=s.length - i/\i<=s.length/\sl 3=some (.int .i64 i)) s.length rfl ⟨0,by simp,by simp,by simp⟩ ?_;rintro n sl h hfr ⟨i,hn,hi,h3⟩;simp at hfr;by_cases hlt:i < s.length
 .obtain ⟨g1,g2,tr,g3⟩:=hg.get s[i] (List.getElem_mem hlt);have h30:=Zaa2 s[i].1 (by omega);rw[g1]at h30;have h59:=g3.ans59 true;clear g1 g3;generalize hy:s[i]=y at *
  (refine Zm ?_;repeat'(first|(refine Zi fun _=>?_;try simp(disch:=first|exact Zq|fail)[*,Zs])|refine Ye ?_|refine Zx ?_|refine Zn ?_ ?_))
  exact⟨_,by omega,i+1,rfl,by omega,by omega⟩
 . (refine Zm ?_;repeat'(first|(refine Zi fun _=>?_;try simp(disch:=first|exact Zq|fail)[*,Zs])|refine Ye ?_|refine Zx ?_|refine Zn ?_ ?_))
def Zb7 (vs:List Use)(x:Yn)(s:Int):Bool:=vs.any fun u=>u.name==x&&u.sort==s
theorem Zagc (b:Bool)(l:List Use)(n:Nd)(hl:l.length < 2^62):Xn vE 112 [L 69 b (l.map Xx),Zv n] (.bool (Zb7 l n.name n.sort)):=by
 intro K H;refine Wc Tryz.func112 ?_
 (refine Zm ?_;repeat'(first|(refine Zi fun _=>?_;try simp(disch:=first|exact Zq|fail)[*,Zs,Tryz.f112])|refine Ye ?_|refine Zx ?_|refine Zn ?_ ?_))
 generalize hv3:H.stamp (H.next+3)=v3;refine Zl [0,3] (fun m sl h=>∃i:Nat,m=l.length - i/\i<=l.length/\sl 5=some (.int .i64 i)/\h.get (H.next+3)=some (v3,.cells [.int .i64 n.op,.int .i64 n.sort,.str n.name,.str n.num,.int .i64 n.kids])/\Zb7 l n.name n.sort=Zb7 (l.drop i) n.name n.sort) l.length rfl ⟨0,by simp[*]⟩ ?_;rintro m sl h hf ⟨i,hm,hi,h5,hg,hd⟩;simp at hf;by_cases hlt:i < l.length
 .rw [List.drop_eq_getElem_cons hlt]at hd;generalize hli:l[i]=u at *;obtain⟨fn,nm,ars,so⟩:=u;have Ss:nm≠n.name->(nm==n.name)=false:=fun h=>by simpa using h
  have Qu:so≠n.sort->(so==n.sort)=false:=fun h=>by simpa using h
  by_cases h1:nm=n.name
  .by_cases h2:so=n.sort
   .have e:Zb7 l n.name n.sort=true:=by rw[hd];simp[Zb7,h1,h2]
    rw[e];clear hd e Ss Qu
    (simp(disch:=first|exact Zw|fail)[*,Zz])
    refine Yd false false [] [16,25] [H.next+3] [] false (by decide +kernel) ?_
    (refine Zm ?_;repeat'(first|(refine Zi fun _=>?_;try simp(disch:=first|exact Zw|fail)[*,Zz])|refine Zx ?_|refine Zn ?_ ?_))
   .have e:Zb7 l n.name n.sort=Zb7 (l.drop (i+1)) n.name n.sort:=by rw[hd];simp[Zb7,h1,h2]
    clear hd Ss;replace Qu:=Qu h2;replace e:=Hide.mk e
    (simp(disch:=first|exact Zw|fail)[*,Zz])
    refine Yd false false [] [16,25] [H.next+3] [] false (by decide +kernel) ?_
    (refine Zm ?_;repeat'(first|(refine Zi fun _=>?_;try simp(disch:=first|exact Zw|fail)[*,Zz])|refine Zx ?_|refine Zn ?_ ?_))
    exact⟨_,by omega,i+1,rfl,by omega,by omega,e.get⟩
  .have e:Zb7 l n.name n.sort=Zb7 (l.drop (i+1)) n.name n.sort:=by rw[hd];simp[Zb7,h1]
   clear hd Qu;replace Ss:=Ss h1;replace e:=Hide.mk e
   (simp(disch:=first|exact Zw|fail)[*,Zz])
   refine Yd false false [] [16,25] [H.next+3] [] false (by decide +kernel) ?_
   (refine Zm ?_;repeat'(first|(refine Zi fun _=>?_;try simp(disch:=first|exact Zw|fail)[*,Zz])|refine Zx ?_|refine Zn ?_ ?_))
   exact⟨_,by omega,i+1,rfl,by omega,by omega,e.get⟩
 .have e:l.drop i=[]:=by simp;omega
  rw[e]at hd;replace hd:Zb7 l n.name n.sort=false:=hd;rw[hd];clear e hd
  (refine Zm ?_;repeat'(first|(refine Zi fun _=>?_;try simp(disch:=first|exact Zw|fail)[*,Zz])|refine Zx ?_|refine Zn ?_ ?_))
structure UR (p Zc:Nat)(vs fs:List Use)(lv lf:List Nat)(h:PH):Prop where
 ex:∃v f,h.get p=some (Zc,.cells [v,f])/\Own h 69 v (vs.map Xx) lv/\Own h 155 f (fs.map Y7) lf
 pv:p∉lv
 pf:p∉lf
 vf:∀i∈lv,i∉lf
 lp:p < h.next
 ltv:∀i∈lv,i < h.next
 ltf:∀i∈lf,i < h.next
theorem _root_.Go.Pure.Own.refsO {h:PH}{g:Nat}{v:PV}{xs:List PV}{l:List Nat}(hA:Own h g v xs l):∀i∈l,∀Zc o,h.get i=some (Zc,o)->Pure.refsO o=[]:=by
 rcases hA with⟨rfl,rfl,rfl⟩ | ⟨i,Zc,Yi,rfl,hg,rfl⟩
 .simp
 .intro j hj ver' o e;simp only[List.mem_singleton]at hj;subst hj;rw[hg]at e;cases e;rfl
theorem Zyj {h:PH}{l:List Nat}(h0:∀i∈l,∀Zc o,h.get i=some (Zc,o)->Pure.refsO o=[])(n:Nat):Pure.reach h (n+2) l=l:=by
 cases l with
 |nil=>rfl
 |cons a l=>
  rw[Pure.reach]
  .rw [List.flatMap_eq_nil_iff.2]
   .simp [Pure.reach]
   .intro i hi;cases e:h.get i with
    |none=>rfl
    |some x=>
     obtain⟨Zc,o⟩:=x;exact h0 i hi Zc o e
  .simp
theorem UR.reach {p Zc:Nat}{vs fs:List Use}{lv lf:List Nat}{h:PH}(U:UR p Zc vs fs lv lf h):Pure.reach h 4 [p]=p::(lv++lf):=by
 obtain⟨v,f,h1,h2,h3⟩:=U.ex
 have e1:Pure.refsO (.cells [v,f])=lv++lf:=by
  simp only[Pure.refsO,List.flatMap_cons,List.flatMap_nil,List.append_nil,h2.refs,h3.refs]
 have e2:Pure.reach h 3 (lv++lf)=lv++lf:=Zyj (fun i hi=>(List.mem_append.1 hi).elim (h2.refsO i) (h3.refsO i)) 1;simp only[Pure.reach,List.flatMap_cons,List.flatMap_nil,h1,List.append_nil,e1];rw[show Pure.reach h 3 (lv++lf)=lv++lf from e2];rfl
theorem _root_.Go.Pure.Own.some {h:PH}{g:Nat}{v:PV}{xs:List PV}{l:List Nat}(hA:Own h g v xs l):∀i∈l,(h.get i).isSome=true:=by
 rcases hA with⟨rfl,rfl,rfl⟩ | ⟨i,Zc,Yi,rfl,hg,rfl⟩
 .simp
 .simp [hg]
theorem UR.some {p Zc:Nat}{vs fs:List Use}{lv lf:List Nat}{h:PH}(U:UR p Zc vs fs lv lf h):∀i∈p::(lv++lf),(h.get i).isSome=true:=by
 obtain⟨v,f,h1,h2,h3⟩:=U.ex;intro i hi;simp only[List.mem_cons,List.mem_append]at hi;rcases hi with rfl | hi | hi
 .rw [h1];rfl
 .exact h2.some i hi
 .exact h3.some i hi
theorem UR.frame {p Zc:Nat}{vs fs:List Use}{lv lf:List Nat}{h h':PH}(U:UR p Zc vs fs lv lf h)(hg:∀i∈p::(lv++lf),h'.get i=h.get i)(hn:h.next<=h'.next):UR p Zc vs fs lv lf h':=by
 obtain⟨v,f,h1,h2,h3⟩:=U.ex;exact⟨⟨v,f,by rw[hg p (by simp),h1],h2.frame fun i hi=>hg i (by simp[hi]),h3.frame fun i hi=>hg i (by simp[hi])⟩,U.pv,U.pf,U.vf,by have:=U.lp;omega,fun i hi=>by have:=U.ltv i hi;omega,fun i hi=>by have:=U.ltf i hi;omega⟩
theorem _root_.Go.Pure.Own.belowC {h:PH}{g m:Nat}{v:PV}{xs:List PV}{l:List Nat}(hA:Own h g v xs l):Pure.below m 3 v=l.all fun i=>Nat.blt i m:=by
 rcases hA with⟨rfl,rfl,rfl⟩ | ⟨i,Zc,Yi,rfl,hg,rfl⟩
 .rfl
 .simp [Pure.below]
theorem _root_.Go.Pure.Own.belowAt {h:PH}{g m:Nat}{v:PV}{xs:List PV}{l:List Nat}(hA:Own h g v xs l):∀i∈l,h.belowAt m i=true:=by
 rcases hA with⟨rfl,rfl,rfl⟩ | ⟨i,Zc,Yi,rfl,hg,rfl⟩
 .simp
 .simp [PH.belowAt,hg,Wl]
theorem UR.settle {p Zc:Nat}{vs fs:List Use}{lv lf Rv Rw:List Nat}{h h2:PH}(U:UR p Zc vs fs lv lf h2)(hp:p < h.next)(h0v:∀i∈Rv,i < h.next)(h0f:∀i∈Rw,i < h.next)(hb:h.belowAt h.next p=true)(hv:lv=Rv\/Rv=[]/\∃i,lv=[i]/\h.next<=i)(hf:lf=Rw\/Rw=[]/\∃i,lf=[i]/\h.next<=i):
  ((p::(Rv++Rw)).all (fun i=>h2.belowAt h.next i)=true/\lv=Rv/\lf=Rw)\/(p::(Rv++Rw)).any (fun i=>!(h2.belowAt h.next i)&&h.belowAt h.next i)=true:=by
 obtain⟨v,f,h1,h2',h3⟩:=U.ex
 have hbp:h2.belowAt h.next p=(lv.all (fun i=>Nat.blt i h.next)&&lf.all fun i=>Nat.blt i h.next):=by
  simp only[PH.belowAt,h1,Wl,List.all_cons,List.all_nil,Bool.and_true,h2'.belowC,h3.belowC]
 have hbad:(lv.all (fun i=>Nat.blt i h.next)&&lf.all fun i=>Nat.blt i h.next)=false->(p::(Rv++Rw)).any (fun i=>!(h2.belowAt h.next i)&&h.belowAt h.next i)=true:=fun e=>by
  rw[List.any_eq_true];exact⟨p,by simp,by rw[hbp,e,hb];rfl⟩
 rcases hv with rfl | ⟨_,i,rfl,hi⟩
 .rcases hf with rfl | ⟨_,i,rfl,hi⟩
  .refine .inl ⟨?_,rfl,rfl⟩;rw[List.all_eq_true];intro i hi;simp only[List.mem_cons,List.mem_append]at hi;rcases hi with rfl | hi | hi
   .rw [hbp,Bool.and_eq_true,List.all_eq_true,List.all_eq_true];exact⟨fun i hi=>by rw[Nat.blt_eq];exact h0v i hi,fun i hi=>by rw[Nat.blt_eq];exact h0f i hi⟩
   .exact h2'.belowAt i hi
   .exact h3.belowAt i hi
  .right;apply hbad;have:Nat.blt i h.next=false:=by rw[<- Bool.not_eq_true,Nat.blt_eq];omega
   simp[this]
 .right;apply hbad;have:Nat.blt i h.next=false:=by rw[<- Bool.not_eq_true,Nat.blt_eq];omega
  simp[this]
def Sz (s:List Use×List Use)(u:Use):List Use×List Use:=if u.fn then (s.1,s.2++[u]) else (if Zb7 s.1 u.name u.sort then s.1 else s.1++[u],s.2)
def Wb:List Nd->List Bool->List Use
 |n::r,k::ks=>(if k then Xf n r else [])++Wb r ks
 | _,_=>[]
theorem Zcl {t:List Nd}{ks:List Bool}{i:Nat}(hl:ks.length=t.length)(hi:i < t.length):Wb (t.drop i) (ks.drop i)=(if ks[i]'(by omega) then Xf t[i] (t.drop (i+1)) else [])++Wb (t.drop (i+1)) (ks.drop (i+1)):=by
 rw[List.drop_eq_getElem_cons hi,List.drop_eq_getElem_cons (by omega:i < ks.length)];rfl
theorem Z7u (t:List Nd):Wb t (List.replicate t.length true)=Zy t:=by
 induction t with
 |nil=>rfl
 |cons n r ih=>simp[Wb,Zy,List.replicate_succ,ih]
structure AddI (t:List Nd)(ks:List Bool)(p Zc:Nat)(s0:List Use×List Use)(Rv Rw:List Nat)(hb h0:PH)(i:Nat)(vs fs:List Use)(lv lf:List Nat)(h:PH):Prop where
 u:UR p Zc vs fs lv lf h
 run:(Wb (t.drop i) (ks.drop i)).foldl Sz (vs,fs)=(Wb t ks).foldl Sz s0
 v:lv=Rv\/Rv=[]/\lv=[hb.next+57]
 f:lf=Rw\/Rw=[]/\lf=[hb.next+71]
 old:∀j,j < hb.next->j∉p::(Rv++Rw)->h.get j=h0.get j
 next:hb.next+74<=h.next
 nv:vs.length<=s0.1.length+i
 nf:fs.length<=s0.2.length+i
 fa:∀g∈fs,g.args.length < 2^30
theorem AddI.var {t:List Nd}{ks:List Bool}{p Zc:Nat}{s0:List Use×List Use}{Rv Rw:List Nat}{hb h0:PH}{i:Nat}{vs fs:List Use}{lv lf l':List Nat}{h h':PH}{u:Use}{wv wf v':PV}(I:AddI t ks p Zc s0 Rv Rw hb h0 i vs fs lv lf h)(hks:ks.length=t.length)(hi:i < t.length)(hk:ks[i]'(by omega)=true)
  (hu:Xf t[i] (t.drop (i+1))=[u]) (Rn:u.fn=false) (hh:Zb7 vs u.name u.sort=false) (hp:p < hb.next) (hv0:∀i∈Rv,i < hb.next) (hf0:∀i∈Rw,i < hb.next) (hF:Own h 155 wf (fs.map Y7) lf) (hA:Own h' 69 v' (vs.map Xx++[Xx u]) l') (hl:l'=lv\/lv=[]/\l'=[hb.next+57]) (hn:h'.next=h.next)
  (Zk:∀j,j∉l'->h'.get j=h.get j):AddI t ks p Zc s0 Rv Rw hb h0 (i+1) (vs++[u]) fs l' lf (h'.put p Zc (.cells [v',wf])):=by
 have hv:l'=Rv\/Rv=[]/\l'=[hb.next+57]:=by
  rcases hl with rfl | ⟨rfl,rfl⟩
  .exact I.v
  .rcases I.v with e | ⟨_,e⟩
   .exact .inr ⟨e.symm,rfl⟩
   .cases e
 have hpl:p∉l':=by
  rcases hv with rfl | ⟨_,rfl⟩
  .rcases I.v with e | ⟨e,_⟩
   .rw [<- e];exact I.u.pv
   .rw [e];simp
  .simp only [List.mem_singleton];omega
 have Zzh:∀j∈l',j∉lf:=by
  intro j hj hjf
  have hjf':j∈Rw\/j=hb.next+71:=by
   rcases I.f with e | ⟨_,e⟩
   .rw [e]at hjf;exact .inl hjf
   .rw [e]at hjf;simp at hjf;exact .inr hjf
  rcases hl with rfl | ⟨rfl,rfl⟩
  .exact I.u.vf j hj hjf
  .simp only [List.mem_singleton]at hj;subst hj;rcases hjf' with h1 | h1
   .have:=hf0 _ h1;omega
   .omega
 refine⟨⟨⟨v',wf,by simp,?_,?_⟩,hpl,I.u.pf,Zzh,?_,?_,?_⟩,?_,hv,I.f,?_,?_,?_,?_,I.fa⟩
 .rw [List.map_append,List.map_cons,List.map_nil]
  exact hA.frame fun j hj=>by
   have:j≠p:=fun e=>hpl (e ▸ hj)
   simp[this]
 .exact hF.frame fun j hj=>by
   have h1:j≠p:=fun e=>I.u.pf (e ▸ hj)
   have h2:j∉l':=fun e=>Zzh j e hj
   simp[h1,Zk j h2]
 .have:=I.u.lp;simp[hn];omega
 .intro j hj;have U7:=I.next
  have:j < hb.next+74:=by
   rcases hv with rfl | ⟨_,rfl⟩
   .have:=hv0 j hj;omega
   .simp at hj;omega
  simp[hn];omega
 .intro j hj;have:=I.u.ltf j hj;simp[hn];omega
 .have hr:=I.run;rw[Zcl hks hi,hk,if_pos rfl,hu,List.singleton_append,List.foldl_cons]at hr;rw[<- hr];congr 1;simp[Sz,Rn,hh]
 .intro j hj hjn;have h1:j≠p:=fun e=>hjn (by simp[e])
  have h2:j∉l':=by
   rcases hv with rfl | ⟨_,rfl⟩
   .exact fun e=>hjn (by simp[e])
   .simp;omega
  simp only[Zgu,if_neg h1];rw[Zk j h2];exact I.old j hj hjn
 .have:=I.next;simp[hn];omega
 .have:=I.nv;simp;omega
 .have:=I.nf;omega
theorem AddI.fn {t:List Nd}{ks:List Bool}{p Zc:Nat}{s0:List Use×List Use}{Rv Rw:List Nat}{hb h0:PH}{i:Nat}{vs fs:List Use}{lv lf l':List Nat}{h h':PH}{u:Use}{wv wf v':PV}(I:AddI t ks p Zc s0 Rv Rw hb h0 i vs fs lv lf h)(hks:ks.length=t.length)(hi:i < t.length)(hk:ks[i]'(by omega)=true)
  (hu:Xf t[i] (t.drop (i+1))=[u]) (Rn:u.fn=true) (hua:u.args.length < 2^30) (hp:p < hb.next) (hv0:∀i∈Rv,i < hb.next) (hf0:∀i∈Rw,i < hb.next) (hV:Own h 69 wv (vs.map Xx) lv) (hA:Own h' 155 v' (fs.map Y7++[Y7 u]) l') (hl:l'=lf\/lf=[]/\l'=[hb.next+71]) (hn:h'.next=h.next)
  (Zk:∀j,j∉l'->h'.get j=h.get j):AddI t ks p Zc s0 Rv Rw hb h0 (i+1) vs (fs++[u]) lv l' (h'.put p Zc (.cells [wv,v'])):=by
 have hv:l'=Rw\/Rw=[]/\l'=[hb.next+71]:=by
  rcases hl with rfl | ⟨rfl,rfl⟩
  .exact I.f
  .rcases I.f with e | ⟨_,e⟩
   .exact .inr ⟨e.symm,rfl⟩
   .cases e
 have hpl:p∉l':=by
  rcases hv with rfl | ⟨_,rfl⟩
  .rcases I.f with e | ⟨e,_⟩
   .rw [<- e];exact I.u.pf
   .rw [e];simp
  .simp only [List.mem_singleton];omega
 have Zzh:∀j∈lv,j∉l':=by
  intro j hjf hj
  have hjf':j∈Rv\/j=hb.next+57:=by
   rcases I.v with e | ⟨_,e⟩
   .rw [e]at hjf;exact .inl hjf
   .rw [e]at hjf;simp at hjf;exact .inr hjf
  rcases hl with rfl | ⟨rfl,rfl⟩
  .exact I.u.vf j hjf hj
  .simp only [List.mem_singleton]at hj;subst hj;rcases hjf' with h1 | h1
   .have:=hv0 _ h1;omega
   .omega
 refine⟨⟨⟨wv,v',by simp,?_,?_⟩,I.u.pv,hpl,Zzh,?_,?_,?_⟩,?_,I.v,hv,?_,?_,?_,?_,?_⟩
 .exact hV.frame fun j hj=>by
   have h1:j≠p:=fun e=>I.u.pv (e ▸ hj)
   have h2:j∉l':=fun e=>Zzh j hj e
   simp[h1,Zk j h2]
 .rw [List.map_append,List.map_cons,List.map_nil]
  exact hA.frame fun j hj=>by
   have:j≠p:=fun e=>hpl (e ▸ hj)
   simp[this]
 .have:=I.u.lp;simp[hn];omega
 .intro j hj;have:=I.u.ltv j hj;simp[hn];omega
 .intro j hj;have U7:=I.next
  have:j < hb.next+74:=by
   rcases hv with rfl | ⟨_,rfl⟩
   .have:=hf0 j hj;omega
   .simp at hj;omega
  simp[hn];omega
 .have hr:=I.run;rw[Zcl hks hi,hk,if_pos rfl,hu,List.singleton_append,List.foldl_cons]at hr;rw[<- hr];congr 1;simp[Sz,Rn]
 .intro j hj hjn;have h1:j≠p:=fun e=>hjn (by simp[e])
  have h2:j∉l':=by
   rcases hv with rfl | ⟨_,rfl⟩
   .exact fun e=>hjn (by simp[e])
   .simp;omega
  simp only[Zgu,if_neg h1];rw[Zk j h2];exact I.old j hj hjn
 .have:=I.next;simp[hn];omega
 .have:=I.nv;omega
 .have:=I.nf;simp;omega
 .intro g hg;rcases List.mem_append.1 hg with hg | hg
  .exact I.fa g hg
  .simp at hg;subst hg;exact hua
theorem AddI.have {t:List Nd}{ks:List Bool}{p Zc:Nat}{s0:List Use×List Use}{Rv Rw:List Nat}{hb h0:PH}{i:Nat}{vs fs:List Use}{lv lf:List Nat}{h:PH}{u:Use}(I:AddI t ks p Zc s0 Rv Rw hb h0 i vs fs lv lf h)(hks:ks.length=t.length)(hi:i < t.length)(hk:ks[i]'(by omega)=true)
  (hu:Xf t[i] (t.drop (i+1))=[u]) (Rn:u.fn=false) (hh:Zb7 vs u.name u.sort=true):AddI t ks p Zc s0 Rv Rw hb h0 (i+1) vs fs lv lf h:=by
 refine⟨I.u,?_,I.v,I.f,I.old,I.next,by have:=I.nv;omega,by have:=I.nf;omega,I.fa⟩;have hr:=I.run;rw[Zcl hks hi,hk,if_pos rfl,hu,List.singleton_append,List.foldl_cons]at hr;rw[<- hr];congr 1;simp[Sz,Rn,hh]
set_option maxHeartbeats 4000000 in
theorem Zaey {t:List Nd}{tr:Tr}(v:VT t tr)(b:Bool)(kb:PV)(ks:List Bool)(hks:ks.length=t.length)(hkb:kb=L 4 true []/\ks=List.replicate t.length true\/∃bk,kb=L 4 bk (ks.map .bool)){p Zc:Nat}{s0:List Use×List Use}{Rv Rw:List Nat}{hb h0:PH}
  (hn0:h0.next=hb.next) (hg0:∀i∈p::(Rv++Rw),h0.get i=hb.get i) (U:UR p Zc s0.1 s0.2 Rv Rw hb) (hl1:s0.1.length < 2^29) (hl2:s0.2.length < 2^29) (hfa:∀g∈s0.2,g.args.length < 2^30) (c:Code) (hc:Tryz.f63.body=some c):
  wp (Vl vE {base:=hb.next,lo:=hb.next,ok:=p::(Rv++Rw)} true c (Sb 0 [.ptr p Zc 0,L 58 b (t.map Zv),kb]) {h0 with next:=hb.next+Tryz.f63.ntmps}) fun r=>(r.1=.normal\/r.1=.ret)/\wp (Us vE r.2.1 r.2.2 Tryz.f63.results.toList) fun vs=>
   inlT r.2.2 (Wr vs)=some (.tuple [])/\ownT (Wr vs)=[]/\∃vs fs lv lf,AddI t ks p Zc s0 Rv Rw hb h0 t.length vs fs lv lf r.2.2:=by
 have W0:=Yh U.lp;have hsh:=v.short;have htl:=v.len;injection hc with hc
 subst hc
 (refine Zm ?_;repeat'(first|(refine Zi fun _=>?_;try simp(disch:=first|exact Zw|fail)[*,Zz,Tryz.f63,Ze U.lp])|refine Zx ?_|refine Zn ?_ ?_))
 refine Zl [0,1,2] (fun n sl h=>∃(i:Nat) (vs fs:List Use) (lv lf:List Nat),n=t.length - i/\i<=t.length/\sl 6=some (.int .i64 i)/\AddI t ks p Zc s0 Rv Rw hb h0 i vs fs lv lf h) t.length rfl ⟨0,s0.1,s0.2,Rv,Rw,by simp,by simp,by simp,?_⟩ ?_
 .exact ⟨U.frame hg0 (by simp),rfl,.inl rfl,.inl rfl,fun j _ _=>rfl,by simp,by simp,by simp,hfa⟩
 rintro n sl h hf ⟨i,vs,fs,lv,lf,hn,hi,h6,I⟩;simp at hf
 have hca:∀j∈p::(lv++lf),can {base:=hb.next,lo:=hb.next,ok:=p::(Rv++Rw)} j=true:=by
  intro j hj;simp only[List.mem_cons,List.mem_append]at hj;simp only[can,Bool.or_eq_true,Nat.ble_eq,List.any_eq_true];rcases hj with rfl | hj | hj
  .exact .inr ⟨_,List.mem_cons_self,by simp⟩
  .rcases I.v with e | ⟨_,e⟩
   .exact .inr ⟨j,by rw[e]at hj;simp[hj],by simp⟩
   .rw [e]at hj;simp at hj;left;omega
  .rcases I.f with e | ⟨_,e⟩
   .exact .inr ⟨j,by rw[e]at hj;simp[hj],by simp⟩
   .rw [e]at hj;simp at hj;left;omega
 by_cases hlt:i < t.length
 .have Y6:=I.run;rw[Zcl hks hlt]at Y6;obtain⟨wv,wf,g1,g2,g3⟩:=I.u.ex;have U7:=I.next;have hnv:=I.nv;have hnf:=I.nf;have Z9w:=g2.call (C:=vE) (K:={base:=hb.next,lo:=hb.next,ok:=p::(Rv++Rw)}) (fun j hj=>hca j (by simp[hj])) (f:=112) rfl [] [Zv t[i]] (Zagc true vs t[i] (by omega)) rfl rfl rfl;simp only[List.nil_append]at Z9w;have hcp:=hca p (by simp);have hcv:∀j∈lv,can {base:=hb.next,lo:=hb.next,ok:=p::(Rv++Rw)} j=true:=fun j hj=>hca j (by simp[hj])
  have hcf:∀j∈lf,can {base:=hb.next,lo:=hb.next,ok:=p::(Rv++Rw)} j=true:=fun j hj=>hca j (by simp[hj])
  have hsv:=g2.same (n:=3);have hsf:=g3.same (n:=3)
  have stay:Wb (t.drop i) (ks.drop i)=Wb (t.drop (i+1)) (ks.drop (i+1))->AddI t ks p Zc s0 Rv Rw hb h0 (i+1) vs fs lv lf h:=fun e=>
   ⟨I.u,by rw[<- e];exact I.run,I.v,I.f,I.old,I.next,by omega,by omega,I.fa⟩
  have skip:Xf t[i] (t.drop (i+1))=[]\/ks[i]'(by omega)=false->AddI t ks p Zc s0 Rv Rw hb h0 (i+1) vs fs lv lf h:=fun e=>
   stay (by rw[Zcl hks hlt];rcases e with e | e<;>simp[e])
  have Z0w:∀u,Xf t[i] (t.drop (i+1))=[u]->u.fn=false->ks[i]'(by omega)=true->Zb7 vs u.name u.sort=true->AddI t ks p Zc s0 Rv Rw hb h0 (i+1) vs fs lv lf h:=fun u a1 a2 a3 a4=>I.have hks hlt a3 a1 a2 a4
  have addv:∀u v' h' l',Xf t[i] (t.drop (i+1))=[u]->u.fn=false->ks[i]'(by omega)=true->Zb7 vs u.name u.sort=false->Own h' 69 v' (vs.map Xx++[Xx u]) l'->(l'=lv\/lv=[]/\l'=[hb.next+57])->h'.next=h.next->(∀j,j∉l'->h'.get j=h.get j)->AddI t ks p Zc s0 Rv Rw hb h0 (i+1) (vs++[u]) fs l' lf (h'.put p Zc (.cells [v',wf])):=fun u v' h' l' a1 a2 a3 a4 a5 a6 a7 a8=>I.var (wv:=wv) hks hlt a3 a1 a2 a4 U.lp U.ltv U.ltf g3 a5 a6 a7 a8
  have addf:∀u v' h' l',Xf t[i] (t.drop (i+1))=[u]->u.fn=true->ks[i]'(by omega)=true->u.args.length < 2^30->Own h' 155 v' (fs.map Y7++[Y7 u]) l'->(l'=lf\/lf=[]/\l'=[hb.next+71])->h'.next=h.next->(∀j,j∉l'->h'.get j=h.get j)->AddI t ks p Zc s0 Rv Rw hb h0 (i+1) vs (fs++[u]) lv l' (h'.put p Zc (.cells [wv,v'])):=fun u v' h' l' a1 a2 a3 a4 a5 a6 a7 a8=>I.fn (wf:=wf) hks hlt a3 a1 a2 a4 U.lp U.ltv U.ltf g2 a5 a6 a7 a8
  have Te:=fun f5=>v.app hlt f5
  have Xz:=v.args;have hpn:p < h.next:=I.u.lp;have hpv:=I.u.pv;have hpf:=I.u.pf;replace stay:=Hide.mk stay;replace skip:=Hide.mk skip;replace Z0w:=Hide.mk Z0w;replace addv:=Hide.mk addv;replace addf:=Hide.mk addf;replace Xz:=Hide.mk Xz;replace hcv:=Hide.mk hcv;replace hcf:=Hide.mk hcf;clear hca hfa I Y6;generalize hki:ks[i]'(by omega)=kk at *;have Za02:(0 < t.length)=True:=by simp;omega
  generalize htd:t[i]=d at *;obtain⟨op,sort,name,num,kids⟩:=d;by_cases h4:op=4
  .subst h4;have hu:Xf (⟨4,sort,name,num,kids⟩:Nd) (t.drop (i+1))=[⟨false,name,[],sort⟩]:=by simp[Xf]
   replace hu:=Hide.mk hu;clear Te;obtain⟨wv',h1,l',hapv,Xj,hl',hn1,Zew⟩:=g2.app (K:={base:=hb.next,lo:=hb.next,ok:=p::(Rv++Rw)}) (dd:=57) hcv.get (ys:=[Xx ⟨false,name,[],sort⟩]) (T:={k:=.struct [(0,9),(1,3)],size:=2,bytes:=24,zero:=[.string ⟨#[]⟩,.int .i64 0]}) (by simp;omega) (by decide) (by decide) (by simp);simp only[List.length_cons,List.length_nil]at hapv;have hsv':=Xj.same (n:=3)
   have hpl:h1.get p=some (Zc,.cells [wv,wf]):=by
    rw[Zew p,g1];rcases hl' with rfl | ⟨_,rfl⟩
    .exact hpv
    .simp only [List.mem_singleton];have:=U.lp;omega
   obtain⟨hcw1,hcw2⟩:=Xj.cells;replace Xj:=Hide.mk Xj;replace Zew:=Hide.mk Zew;replace hl':=Hide.mk hl';cases hh:Zb7 vs name sort with
   |true=>
    rw[hh]at Z9w;rcases hkb with⟨rfl,hk0⟩ | ⟨bk,rfl⟩
    .have hkk:kk=true:=by subst hk0;simpa using hki.symm
     clear hk0
     (simp(disch:=first|exact Zw|fail)[*,Zz,Ze U.lp])
     refine Yd false false [] [] [] [] false (by decide +kernel) ?_
     (refine Zm ?_;repeat'(first|(refine Zi fun _=>?_;try simp(disch:=first|exact Zw|fail)[*,Zz,Ze U.lp])|refine Zx ?_|refine Zn ?_ ?_))
     exact⟨_,by omega,i+1,rfl,by omega,by omega,vs,fs,lv,lf,Z0w.get _ hu.get rfl hkk hh⟩
    .cases kk with
     |true=>
      (simp(disch:=first|exact Zw|fail)[*,Zz,Ze U.lp])
      refine Yd false false [] [] [] [] false (by decide +kernel) ?_
      (refine Zm ?_;repeat'(first|(refine Zi fun _=>?_;try simp(disch:=first|exact Zw|fail)[*,Zz,Ze U.lp])|refine Zx ?_|refine Zn ?_ ?_))
      exact⟨_,by omega,i+1,rfl,by omega,by omega,vs,fs,lv,lf,Z0w.get _ hu.get rfl rfl hh⟩
     |false=>
      (refine Zm ?_;repeat'(first|(refine Zi fun _=>?_;try simp(disch:=first|exact Zw|fail)[*,Zz,Ze U.lp])|refine Zx ?_|refine Zn ?_ ?_))
      exact⟨_,by omega,i+1,rfl,by omega,by omega,vs,fs,lv,lf,skip.get (.inr rfl)⟩
   |false=>
    rw[hh]at Z9w;rcases hkb with⟨rfl,hk0⟩ | ⟨bk,rfl⟩
    .have hkk:kk=true:=by subst hk0;simpa using hki.symm
     clear hk0
     (simp(disch:=first|exact Zw|fail)[*,Zz,Ze U.lp])
     refine Yd false false [] [] [] [] false (by decide +kernel) ?_
     (simp(disch:=first|exact Zw|fail)[*,Zz,Ze U.lp])
     refine Yd false false [] [] [] [] false (by decide +kernel) ?_
     (simp(disch:=first|exact Zw|fail)[*,Zz,Ze U.lp])
     exact⟨_,by omega,i+1,rfl,by omega,by omega,_,fs,l',lf,addv.get _ wv' h1 l' hu.get rfl hkk hh Xj.get hl'.get hn1 Zew.get⟩
    .cases kk with
     |true=>
      (simp(disch:=first|exact Zw|fail)[*,Zz,Ze U.lp])
      refine Yd false false [] [] [] [] false (by decide +kernel) ?_
      (simp(disch:=first|exact Zw|fail)[*,Zz,Ze U.lp])
      refine Yd false false [] [] [] [] false (by decide +kernel) ?_
      (simp(disch:=first|exact Zw|fail)[*,Zz,Ze U.lp])
      exact⟨_,by omega,i+1,rfl,by omega,by omega,_,fs,l',lf,addv.get _ wv' h1 l' hu.get rfl rfl hh Xj.get hl'.get hn1 Zew.get⟩
     |false=>
      (refine Zm ?_;repeat'(first|(refine Zi fun _=>?_;try simp(disch:=first|exact Zw|fail)[*,Zz,Ze U.lp])|refine Zx ?_|refine Zn ?_ ?_))
      exact⟨_,by omega,i+1,rfl,by omega,by omega,vs,fs,lv,lf,skip.get (.inr rfl)⟩
  .by_cases h5:op=5
   .subst h5;obtain⟨kt,rt,kn,hkn,hmn,hkl,hu⟩:=Te rfl;simp only at hkn hu
    have hua:=Xz.get ⟨true,name,Yr kt,sort⟩ (by
     have h1:=Zag hlt;rw[htd,hu]at h1;exact Zrq hlt (by rw[h1];simp))
    have Z9v:=Z2t b t hsh (by omega) i hlt kt rt kn (by rw[htd];exact hkn) hmn;rw[htd]at Z9v;simp only at Z9v;obtain⟨wf',h1,l',hapf,Xj,hl',hn1,Zew⟩:=g3.app (K:={base:=hb.next,lo:=hb.next,ok:=p::(Rv++Rw)}) (dd:=71) hcf.get (ys:=[Y7 ⟨true,name,Yr kt,sort⟩]) (T:={k:=.struct [(0,9),(1,22),(2,3)],size:=3,bytes:=48,zero:=[.string ⟨#[]⟩,.slice none 0 0,.int .i64 0]}) (by simp;omega) (by decide) (by decide) (by simp);simp only[List.length_cons,List.length_nil]at hapf;have hsf':=Xj.same (n:=3)
    have hpl:h1.get p=some (Zc,.cells [wv,wf]):=by
     rw[Zew p,g1];rcases hl' with rfl | ⟨_,rfl⟩
     .exact hpf
     .simp only [List.mem_singleton];have:=U.lp;omega
    obtain⟨hcw1,hcw2⟩:=Xj.cells;have hpb:Nat.blt p h.next=true:=by rw[Nat.blt_eq];exact hpn
    replace hu:=Hide.mk hu;replace Xj:=Hide.mk Xj;replace Zew:=Hide.mk Zew;replace hl':=Hide.mk hl';replace hua:=Hide.mk hua;clear Te Z9w hmn hkl;rcases hkb with⟨rfl,hk0⟩ | ⟨bk,rfl⟩
    .have hkk:kk=true:=by subst hk0;simpa using hki.symm
     clear hk0
     (simp(disch:=first|exact Zw|fail)[*,Zz,Ze U.lp])
     refine Yd false false [] [66] [p] [69] true (by decide +kernel) ?_
     (simp(disch:=first|exact Zw|fail)[*,Zz,Ze U.lp,Pure.reach])
     exact⟨_,by omega,i+1,rfl,by omega,by omega,vs,_,lv,l',addf.get _ wf' h1 l' hu.get rfl hkk hua.get Xj.get hl'.get hn1 Zew.get⟩
    .cases kk with
     |true=>
      (simp(disch:=first|exact Zw|fail)[*,Zz,Ze U.lp])
      refine Yd false false [] [66] [p] [69] true (by decide +kernel) ?_
      (simp(disch:=first|exact Zw|fail)[*,Zz,Ze U.lp,Pure.reach])
      exact⟨_,by omega,i+1,rfl,by omega,by omega,vs,_,lv,l',addf.get _ wf' h1 l' hu.get rfl rfl hua.get Xj.get hl'.get hn1 Zew.get⟩
     |false=>
      (refine Zm ?_;repeat'(first|(refine Zi fun _=>?_;try simp(disch:=first|exact Zw|fail)[*,Zz,Ze U.lp])|refine Zx ?_|refine Zn ?_ ?_))
      exact⟨_,by omega,i+1,rfl,by omega,by omega,vs,fs,lv,lf,skip.get (.inr rfl)⟩
   .have hu:Xf (⟨op,sort,name,num,kids⟩:Nd) (t.drop (i+1))=[]:=by simp[Xf,h4,h5]
    replace hu:=Hide.mk hu;clear Te Z9w;rcases hkb with⟨rfl,hk0⟩ | ⟨bk,rfl⟩
    .have hkk:kk=true:=by subst hk0;simpa using hki.symm
     clear hk0
     (refine Zm ?_;repeat'(first|(refine Zi fun _=>?_;try simp(disch:=first|exact Zw|fail)[*,Zz,Ze U.lp])|refine Zx ?_|refine Zn ?_ ?_))
     exact⟨_,by omega,i+1,rfl,by omega,by omega,vs,fs,lv,lf,skip.get (.inl hu.get)⟩
    .cases kk with
     |true=>
      (refine Zm ?_;repeat'(first|(refine Zi fun _=>?_;try simp(disch:=first|exact Zw|fail)[*,Zz,Ze U.lp])|refine Zx ?_|refine Zn ?_ ?_))
      exact⟨_,by omega,i+1,rfl,by omega,by omega,vs,fs,lv,lf,skip.get (.inl hu.get)⟩
     |false=>
      (refine Zm ?_;repeat'(first|(refine Zi fun _=>?_;try simp(disch:=first|exact Zw|fail)[*,Zz,Ze U.lp])|refine Zx ?_|refine Zn ?_ ?_))
      exact⟨_,by omega,i+1,rfl,by omega,by omega,vs,fs,lv,lf,skip.get (.inr rfl)⟩
 .have e:i=t.length:=by omega
  subst e;replace I:=Hide.mk I
  (refine Zm ?_;repeat'(first|(refine Zi fun _=>?_;try simp(disch:=first|exact Zw|fail)[*,Zz])|refine Zx ?_|refine Zn ?_ ?_))
  exact⟨vs,fs,lv,lf,I.get⟩
theorem UR.move {p Zc:Nat}{vs fs:List Use}{lv lf:List Nat}{h h':PH}(U:UR p Zc vs fs lv lf h)(hg:∀i∈p::(lv++lf),h'.get i=h.get i)(hp:p < h'.next)(hv:∀i∈lv,i < h'.next)(hf:∀i∈lf,i < h'.next):UR p Zc vs fs lv lf h':=by
 obtain⟨v,f,h1,h2,h3⟩:=U.ex;exact⟨⟨v,f,by rw[hg p (by simp),h1],h2.frame fun i hi=>hg i (by simp[hi]),h3.frame fun i hi=>hg i (by simp[hi])⟩,U.pv,U.pf,U.vf,hp,hv,hf⟩
theorem UR.can {K:Pure.Loc}{p Zc:Nat}{vs fs:List Use}{lv lf:List Nat}{h:PH}(U:UR p Zc vs fs lv lf h)(hK:∀i∈p::(lv++lf),can K i=true):(p::(lv++lf)).all (fun i=>Pure.can K i&&(h.get i).isSome)=true:=by
 rw[List.all_eq_true];intro i hi;rw[hK i hi,U.some i hi];rfl
theorem UR.belowP {p Zc:Nat}{vs fs:List Use}{lv lf:List Nat}{h:PH}(U:UR p Zc vs fs lv lf h):h.belowAt h.next p=true:=by
 obtain⟨v,f,h1,h2,h3⟩:=U.ex;simp only[PH.belowAt,h1,Wl,List.all_cons,List.all_nil,Bool.and_true,h2.belowC,h3.belowC,Bool.and_eq_true,List.all_eq_true];exact⟨fun i hi=>by rw[Nat.blt_eq];exact U.ltv i hi,fun i hi=>by rw[Nat.blt_eq];exact U.ltf i hi⟩
structure Added (p Zc:Nat)(vs fs:List Use)(Rv Rw ids:List Nat)(h h':PH):Prop where
 u:∃lv lf,UR p Zc vs fs lv lf h'/\(lv=Rv\/Rv=[]/\∃i,lv=[i]/\h.next<=i)/\(lf=Rw\/Rw=[]/\∃i,lf=[i]/\h.next<=i)
 old:∀j,j < h.next->j∉p::(Rv++Rw)->h'.get j=h.get j\/h'.get j=(h.freeze ids).get j
 next:h.next<=h'.next
theorem freeze_next:∀ {l:List Nat} {h:PH},(h.freeze l).next=h.next
 | [],h=>rfl
 |i::r,h=>by
  simp only[PH.freeze];split
  .rw [freeze_next];rfl
  .exact freeze_next
theorem Z2b {t:List Nd}{tr:Tr}(v:VT t tr)(b:Bool)(kb kb':PV)(ks:List Bool)(hks:ks.length=t.length)(hkb:kb'=L 4 true []/\ks=List.replicate t.length true\/∃bk,kb'=L 4 bk (ks.map .bool)){p Zc:Nat}{s0:List Use×List Use}{Rv Rw ids:List Nat}{h:PH}
  (U:UR p Zc s0.1 s0.2 Rv Rw h) (hl1:s0.1.length < 2^29) (hl2:s0.2.length < 2^29) (hfa:∀g∈s0.2,g.args.length < 2^30) (K:Pure.Loc) (hK:∀i∈p::(Rv++Rw),can K i=true)
  (W1:inlV h kb=some kb') (hid:ownV kb=ids) (hidc:ids.all (can K)=true) (Zzh:∀i∈ids,i∉p::(Rv++Rw)) (hr:refs 3 kb'=[]):
  ∃h',Yv vE K 63 [.ptr p Zc 0,L 58 b (t.map Zv),kb] h=some (.tuple [],h')/\Added p Zc ((Wb t ks).foldl Sz s0).1 ((Wb t ks).foldl Sz s0).2 Rv Rw ids h h':=by
 refine Zue (fn:=Tryz.f63) (ok:=p::(Rv++Rw)) Tryz.func63 rfl rfl rfl (args':=[.ptr p Zc 0,L 58 b (t.map Zv),kb']) (by simp[W1]) ?_ (U.can hK) (by simpa[hid]using hidc) ?_
 .simpa [hr]using U.reach
 have hg0:∀i∈p::(Rv++Rw),(h.freeze ([PV.ptr p Zc 0,L 58 b (t.map Zv),kb].flatMap ownV)).get i=h.get i:=by
  intro i hi;refine Rh fun j hj=>?_
  simp[hid]at hj;rintro rfl;exact Zzh j hj hi
 have hids:[PV.ptr p Zc 0,L 58 b (t.map Zv),kb].flatMap ownV=ids:=by simp[hid]
 rw[hids]at hg0 ⊢;refine Pure.wp_mono (Zaey v b kb' ks hks hkb (h0:=h.freeze ids) freeze_next hg0 U hl1 hl2 hfa _ rfl) ?_;rintro r ⟨h1,h2⟩;refine⟨h1,Pure.wp_mono h2 ?_⟩;rintro vs ⟨e1,e2,Qy,fs',lv,lf,I⟩;have Y6:=I.run;rw[List.drop_length,<- hks,List.drop_length]at Y6;simp only[Wb,List.foldl_nil]at Y6;have hv':lv=Rv\/Rv=[]/\∃i,lv=[i]/\h.next<=i:=I.v.imp_right fun⟨a,e⟩=>⟨a,_,e,by omega⟩
 have hf':lf=Rw\/Rw=[]/\∃i,lf=[i]/\h.next<=i:=I.f.imp_right fun⟨a,e⟩=>⟨a,_,e,by omega⟩
 refine⟨e1,e2,rfl,?_⟩;rw[<- Y6];rcases I.u.settle U.lp U.ltv U.ltf U.belowP hv' hf' with⟨hall,rfl,rfl⟩ | hany
 .refine .inl ⟨hall,?_,?_⟩
  all_goals refine⟨⟨lv,lf,I.u.move (fun i hi=>Zoa (I.u.some i hi) hi) ?_ ?_ ?_,.inl rfl,.inl rfl⟩,?_,?_⟩
  .rw [W9];exact U.lp
  .rw [W9];exact U.ltv
  .rw [W9];exact U.ltf
  .exact fun j hj hjn=>.inl (U8 hjn)
  .rw [W9];omega
  .rw [W9,freeze_next];exact U.lp
  .rw [W9,freeze_next];exact U.ltv
  .rw [W9,freeze_next];exact U.ltf
  .exact fun j hj hjn=>.inr (U8 hjn)
  .rw [W9,freeze_next];omega
 .refine .inr ⟨hany,⟨lv,lf,I.u,hv',hf'⟩,fun j hj hjn=>.inr (I.old j hj hjn),by have:=I.next;omega⟩
structure UL (vs fs:List Use):Prop where
 v:∀u∈vs,u.fn=false/\u.args=[]
 f:∀u∈fs,u.fn=true
 nd:vs.Nodup
theorem UL.bad_vv {vs fs:List Use}(U:UL vs fs){a b:Nat}(ha:a < vs.length)(hb:b < a)(e:vs[a].name=(vs[b]'(by omega)).name):Yz (vs++fs)=false:=by
 unfold Yz;rw[decide_eq_false_iff_not];intro hC;have hb':b < vs.length:=by omega
 have:=hC vs[a] (by simp) vs[b] (by simp) e;exact List.pairwise_iff_getElem.1 U.nd b a hb' ha hb this.symm
theorem UL.bad_vf {vs fs:List Use}(U:UL vs fs){a b:Nat}(ha:a < vs.length)(hb:b < fs.length)(e:vs[a].name=fs[b].name):Yz (vs++fs)=false:=by
 unfold Yz;rw[decide_eq_false_iff_not];intro hC;have h1:=hC vs[a] (by simp) fs[b] (by simp) e;have h2:=(U.v vs[a] (List.getElem_mem ha)).1;have h3:=U.f fs[b] (List.getElem_mem hb);rw[h1,h3]at h2;cases h2
theorem UL.good {vs fs:List Use}(U:UL vs fs)(h1:∀a (ha:a < vs.length),∀b (hb:b < a),vs[a].name≠(vs[b]'(by omega)).name)(h2:∀a (ha:a < vs.length),∀b (hb:b < fs.length),vs[a].name≠fs[b].name)
  (h3:∀a (ha:a < fs.length),∀b (hb:b < a),fs[a].name=(fs[b]'(by omega)).name->fs[a].sort=(fs[b]'(by omega)).sort/\fs[a].args=(fs[b]'(by omega)).args):Yz (vs++fs)=true:=by
 unfold Yz;rw[decide_eq_true_iff];intro x hx y hy e
 have eqf:∀u∈fs,∀w∈fs,u.name=w.name->u.sort=w.sort->u.args=w.args->u=w:=fun u hu w hw a b c=>by
  have e1:=U.f u hu;have e2:=U.f w hw;obtain⟨u1,u2,u3,u4⟩:=u;obtain⟨w1,w2,w3,w4⟩:=w;simp only at *;rw[e1,e2,a,b,c]
 rcases List.mem_append.1 hx with hx | hx<;>rcases List.mem_append.1 hy with hy | hy
 .obtain ⟨a,ha,rfl⟩:=List.getElem_of_mem hx;obtain⟨b,hb,rfl⟩:=List.getElem_of_mem hy;rcases Nat.lt_trichotomy a b with h | h | h
  .exact absurd e.symm (h1 b hb a h)
  .subst h;rfl
  .exact absurd e (h1 a ha b h)
 .obtain ⟨a,ha,rfl⟩:=List.getElem_of_mem hx;obtain⟨b,hb,rfl⟩:=List.getElem_of_mem hy;exact absurd e (h2 a ha b hb)
 .obtain ⟨a,ha,rfl⟩:=List.getElem_of_mem hx;obtain⟨b,hb,rfl⟩:=List.getElem_of_mem hy;exact absurd e.symm (h2 b hb a ha)
 .obtain ⟨a,ha,rfl⟩:=List.getElem_of_mem hx;obtain⟨b,hb,rfl⟩:=List.getElem_of_mem hy;rcases Nat.lt_trichotomy a b with h | h | h
  .obtain ⟨e1,e2⟩:=h3 b hb a h e.symm;exact eqf _ hx _ hy e e1.symm e2.symm
  .subst h;rfl
  .obtain ⟨e1,e2⟩:=h3 a ha b h e;exact eqf _ hx _ hy e e1 e2
structure CL (p Zc:Nat)(wv wf:PV)(hb h:PH):Prop where
 g:h.get p=some (Zc,.cells [wv,wf])
 next:hb.next<=h.next
 old:∀j,j < hb.next->h.get j=hb.get j
set_option maxHeartbeats 4000000 in
theorem Zaew {p Zc:Nat}{vs fs:List Use}{lv lf:List Nat}{h:PH}(U:UR p Zc vs fs lv lf h)(W:UL vs fs)(hl1:vs.length < 2^30)(hl2:fs.length<=1)(K:Pure.Loc)(hK:∀i∈p::(lv++lf),can K i=true):Yv vE K 66 [.ptr p Zc 0] h=some (.bool (!(Yz (vs++fs))),h):=by
 obtain⟨wv,wf,g1,g2,g3⟩:=U.ex;have W0:=Yh U.lp
 have hbl:∀i∈p::(lv++lf),i < h.next:=by
  intro i hi;simp only[List.mem_cons,List.mem_append]at hi;rcases hi with rfl | hi | hi
  .exact U.lp
  .exact U.ltv i hi
  .exact U.ltf i hi
 refine Vc (ok:=p::(lv++lf)) (fn:=Tryz.f66) Tryz.func66 rfl rfl rfl (by simp) (by simpa using U.reach) (U.can hK) hbl ?_ ?_ (by simp)
 .intro i hi;simp only[List.mem_cons,List.mem_append]at hi;rcases hi with rfl | hi | hi
  .exact U.belowP
  .exact g2.belowAt i hi
  .exact g3.belowAt i hi
 have hlv:=g2.lenK (e:=69);have hlf:=g3.lenK (e:=155);rw[List.length_map]at hlv hlf;have hsv:=g2.same (n:=3);have hsf:=g3.same (n:=3);replace hbl:=Hide.mk hbl;have hpn:=U.lp;have Zv7:∀b,Yz (vs++fs)=b->(PV.bool (!(Yz (vs++fs))))=.bool (!b):=fun b e=>by rw[e]
 replace Zv7:=Hide.mk Zv7
 (refine Zm ?_;repeat'(first|(refine Zi fun _=>?_;try simp(disch:=first|exact Zw|fail)[*,Zz,Tryz.f66])|refine Zx ?_|refine Zn ?_ ?_))
 refine Zl [0] (fun m sl h'=>∃i:Nat,m=vs.length - i/\i<=vs.length/\sl 3=some (.int .i64 i)/\h'={h with next:=h.next+115}/\(∀a (ha:a < vs.length),a < i->∀b (hb:b < a),vs[a].name≠(vs[b]'(by omega)).name)/\(∀a (ha:a < vs.length),a < i->∀b (hb:b < fs.length),vs[a].name≠fs[b].name)) vs.length rfl ⟨0,by simp⟩ ?_;rintro m sl h' hf ⟨i,hm,hi,h3,rfl,hv1,hv2⟩;simp at hf;replace hv1:=Hide.mk hv1;replace hv2:=Hide.mk hv2;by_cases hlt:i < vs.length
 .obtain ⟨iv,vv,rfl,hgv,rfl⟩:=g2.pos hlt;generalize hvi:vs[i]=x;obtain⟨xf,xn,xa,xs⟩:=x
  (refine Zm ?_;repeat'(first|(refine Zi fun _=>?_;try simp(disch:=first|exact Zw|fail)[*,Zz])|refine Zx ?_|refine Zn ?_ ?_))
  refine Zl [0,3] (fun m2 sl2 h2=>∃k:Nat,m2=i - k/\k<=i/\sl2 4=some (.int .i64 k)/\h2={h with next:=h.next+115}/\∀b (hb:b < k) (Qu:b < vs.length),xn≠vs[b].name) i rfl ⟨0,by simp⟩ ?_;rintro m2 sl2 h2 hf2 ⟨k,hm2,hk,h4,rfl,hno⟩;simp at hf2;replace hno:=Hide.mk hno;by_cases hkl:k < i
  .have hkv:k < vs.length:=by omega
   generalize hvk:vs[k]=y;obtain⟨yf,yn,ya,ys⟩:=y;by_cases hxy:xn=yn
   .have hbad:=Zv7.get _ (W.bad_vv hlt hkl (by rw[hvi,hvk];exact hxy));rw[hbad];clear hbad
    (simp(disch:=first|exact Zw|fail)[*,Zz])
    refine Yd false false [] [] [] [] false (by decide +kernel) ?_
    (simp(disch:=first|exact Zw|fail)[*,Zz])
   .have hxb:(xn==yn)=false:=by simpa using hxy
    (simp(disch:=first|exact Zw|fail)[*,Zz])
    refine Yd false false [] [] [] [] false (by decide +kernel) ?_
    (simp(disch:=first|exact Zw|fail)[*,Zz])
    refine⟨_,by omega,k+1,rfl,by omega,by omega,fun b hb Qu e=>?_⟩;by_cases hbk:b=k
    .subst hbk;rw[hvk]at e;exact hxy e
    .exact hno.get b (by omega) Qu e
  .have e:k=i:=by omega
   subst e
   (simp(disch:=first|exact Zw|fail)[*,Zz])
   refine Zl [0,3] (fun m2 sl2 h2=>∃q:Nat,m2=fs.length - q/\q<=fs.length/\sl2 5=some (.int .i64 q)/\h2={h with next:=h.next+115}/\∀b (hb:b < q) (Qu:b < fs.length),xn≠fs[b].name) fs.length rfl ⟨0,by simp[*]⟩ ?_;rintro m3 sl3 h3' hf3 ⟨q,hm3,hq,h5,rfl,Zsk⟩;simp at hf3;replace Zsk:=Hide.mk Zsk;by_cases hql:q < fs.length
   .obtain ⟨jf,vf,rfl,hgf,rfl⟩:=g3.pos hql;generalize hfq:fs[q]=y;obtain⟨yf,yn,ya,ys⟩:=y;by_cases hxy:xn=yn
    .have hbad:=Zv7.get _ (W.bad_vf hlt hql (by rw[hvi,hfq];exact hxy));rw[hbad];clear hbad
     (simp(disch:=first|exact Zw|fail)[*,Zz])
     refine Yd false false [] [] [] [] false (by decide +kernel) ?_
     (simp(disch:=first|exact Zw|fail)[*,Zz])
    .have hxb:(xn==yn)=false:=by simpa using hxy
     (simp(disch:=first|exact Zw|fail)[*,Zz])
     refine Yd false false [] [] [] [] false (by decide +kernel) ?_
     (simp(disch:=first|exact Zw|fail)[*,Zz])
     refine⟨_,by omega,q+1,rfl,by omega,by omega,fun b hb Qu e=>?_⟩;by_cases hbk:b=q
     .subst hbk;rw[hfq]at e;exact hxy e
     .exact Zsk.get b (by omega) Qu e
   .have e:q=fs.length:=by omega
    subst e
    (simp(disch:=first|exact Zw|fail)[*,Zz])
    refine⟨_,by omega,k+1,rfl,by omega,by omega,fun a ha hai b hb=>?_,fun a ha hai b hb=>?_⟩
    .by_cases hak:a=k
     .subst hak;rw[hvi];exact hno.get b hb (by omega)
     .exact hv1.get a ha (by omega) b hb
    .by_cases hak:a=k
     .subst hak;rw[hvi];exact Zsk.get b hb hb
     .exact hv2.get a ha (by omega) b hb
 .have e:i=vs.length:=by omega
  subst e
  (simp(disch:=first|exact Zw|fail)[*,Zz])
  refine Zl [0] (fun m2 sl2 h2=>∃q:Nat,m2=fs.length - q/\q<=fs.length/\sl2 6=some (.int .i64 q)/\CL p Zc wv wf h h2/\(∀a (ha:a < fs.length),a < q->∀b (hb:b < a),fs[a].name=(fs[b]'(by omega)).name->fs[a].sort=(fs[b]'(by omega)).sort/\fs[a].args=(fs[b]'(by omega)).args)) fs.length rfl ⟨0,by simp,by simp,by simp,⟨g1,by simp,fun j _=>rfl⟩,by simp⟩ ?_;rintro m2 sl2 h2 hf2 ⟨q,hm2,hq,h6,I,hff⟩;simp at hf2;have c1:=I.g;have c2:=I.next;replace hff:=Hide.mk hff;replace I:=Hide.mk I;by_cases hql:q < fs.length
  .obtain ⟨jf,vf,rfl,hgf,rfl⟩:=g3.pos hql;generalize hfq:fs[q]=x;obtain⟨xf,xn,xa,xs⟩:=x
   (simp(disch:=first|exact Zw|fail)[*,Zz])
   refine Zl [0,6] (fun m3 sl3 h3=>∃k:Nat,m3=q - k/\k<=q/\sl3 7=some (.int .i64 k)/\CL p Zc wv (.own jf vf 155 0 fs.length) h h3) q rfl ⟨0,by simp,by simp,by simp,I.get⟩ ?_;rintro m3 sl3 h3' hf3 ⟨k,hm3,hk,h7,I3⟩;simp at hf3;have hq0:q=0:=by omega
   have hk0:k=0:=by omega
   subst hq0;subst hk0;replace I3:=Hide.mk I3
   (simp(disch:=first|exact Zw|fail)[*,Zz])
   exact⟨_,by omega,1,rfl,by omega,by omega,I3.get,fun a ha hai b hb=>by omega⟩
  .have Rx:Yz (vs++fs)=true:=W.good (fun a ha b hb=>hv1.get a ha ha b hb) (fun a ha b hb=>hv2.get a ha ha b hb) (fun a ha b hb=>hff.get a ha (by omega) b hb);have hgd:=Zv7.get _ Rx;rw[hgd];have Xc:=fun i hi=>I.get.old i (hbl.get i hi)
   clear hgd Rx;replace Xc:=Hide.mk Xc
   (simp(disch:=first|exact Zw|fail)[*,Zz])
   exact fun a ha=>Xc.get a (by simp[ha])
def Zap (s:List Ys)(n:Nd):Option (List Nd):=if n.op=4 then (s.find? (fun p=>p.1==n.name)).map (·.2) else none
def rep (s:List Ys)(n:Nd):List Nd:=(Zap s n).getD [n]
def Sa (s:List Ys)(t:List Nd):List Nd:=t.flatMap (rep s)
def ixS (s:List Ys)(n:Nd):Int:=if n.op=4 then Vv s n.name else -1
def kbS (s:List Ys)(n:Nd):Bool:=decide (ixS s n < 0)
theorem Zgp {s:List Ys}{x:Yn}:(Vv s x < 0/\s.find? (fun p=>p.1==x)=none)\/∃k,∃hk:k < s.length,Vv s x=(k:Int)/\s.find? (fun p=>p.1==x)=some s[k]/\s[k].1=x:=by
 unfold Vv;cases hf:s.findIdx? (fun p=>p.1==x) with
 |none=>
  left;refine⟨by decide,?_⟩;rw[List.find?_eq_none];intro p hp;have:=List.findIdx?_eq_none_iff.1 hf p hp;simpa using this
 |some k=>
  right;obtain⟨hk,Yi,hlt⟩:=List.findIdx?_eq_some_iff_getElem.1 hf;refine⟨k,hk,rfl,?_,by simpa using Yi⟩;rw[List.find?_eq_some_iff_getElem];exact⟨Yi,k,hk,rfl,fun j hj=>by simpa using hlt j hj⟩
theorem Re (s:List Ys)(n:Nd):(ixS s n < 0/\kbS s n=true/\Zap s n=none/\rep s n=[n])\/∃k,∃hk:k < s.length,ixS s n=(k:Int)/\kbS s n=false/\Zap s n=some s[k].2/\rep s n=s[k].2/\n.op=4/\s[k].1=n.name:=by
 unfold kbS rep Zap ixS;by_cases h4:n.op=4
 .simp only [h4,if_true];rcases Zgp (s:=s) (x:=n.name) with⟨h1,h2⟩ | ⟨k,hk,h1,h2,h3⟩
  .left;rw[h2];simp[h1]
  .right;rw[h2,h1];exact⟨k,hk,rfl,by simp,rfl,rfl,trivial,h3⟩
 .simp [h4]
theorem Zaba (us:List Use):∀(s0:List Use×List Use),UL s0.1 s0.2->(∀u∈us,u.fn=false->u.args=[])->UL (us.foldl Sz s0).1 (us.foldl Sz s0).2/\(∀u,u∈(us.foldl Sz s0).1++(us.foldl Sz s0).2↔u∈s0.1++s0.2\/u∈us)/\(us.foldl Sz s0).1.length<=s0.1.length+us.length /\
  (us.foldl Sz s0).2.length=s0.2.length+(us.filter (·.fn)).length:=by
 induction us with
 |nil=>intro s0 h _;simp[h]
 |cons x us ih=>
  intro s0 hU ha;have ha':∀u∈us,u.fn=false->u.args=[]:=fun u hu=>ha u (by simp[hu])
  cases hx:x.fn with
  |true=>
   have e:Sz s0 x=(s0.1,s0.2++[x]):=by simp[Sz,hx]
   have hU':UL (Sz s0 x).1 (Sz s0 x).2:=by
    rw[e];refine⟨hU.v,fun u hu=>?_,hU.nd⟩;rcases List.mem_append.1 hu with hu | hu
    .exact hU.f u hu
    .simp at hu;rw[hu];exact hx
   obtain⟨i1,i2,i3,i4⟩:=ih _ hU' ha';rw[List.foldl_cons];refine⟨i1,fun u=>?_,?_,?_⟩
   .rw [i2,e];simp only[List.mem_append,List.mem_cons,List.not_mem_nil,or_false];constructor
    .rintro ((h | h | h) | h)<;>simp[h]
    .rintro ((h | h) | h | h)<;>simp[h]
   .rw [e]at i3 ⊢;simp at i3 ⊢;omega
   .rw [e]at i4 ⊢;simp[hx]at i4 ⊢;omega
  |false=>
   have hxa:=ha x (by simp) hx;cases hh:Zb7 s0.1 x.name x.sort with
   |true=>
    have e:Sz s0 x=s0:=by simp[Sz,hx,hh]
    have R6:x∈s0.1:=by
     unfold Zb7 at hh;rw[List.any_eq_true]at hh;obtain⟨u,hu,h2⟩:=hh;simp only[Bool.and_eq_true,beq_iff_eq]at h2;obtain⟨q1,q2⟩:=hU.v u hu
     have:u=x:=by
      obtain⟨a,b,c,d⟩:=u;obtain⟨a',b',c',d'⟩:=x;simp only at *;rw[q1,hx,h2.1,h2.2,q2,hxa]
     rw[<- this];exact hu
    obtain⟨i1,i2,i3,i4⟩:=ih s0 hU ha';rw[List.foldl_cons,e];refine⟨i1,fun u=>?_,by simp;omega,by simp[hx];omega⟩;rw[i2];simp only[List.mem_cons];constructor
    .rintro (h | h)
     .exact .inl h
     .exact .inr (.inr h)
    .rintro (h | rfl | h)
     .exact .inl h
     .exact .inl (List.mem_append_left _ R6)
     .exact .inr h
   |false=>
    have e:Sz s0 x=(s0.1++[x],s0.2):=by simp[Sz,hx,hh]
    have hnm:x∉s0.1:=fun hm=>by
     unfold Zb7 at hh;rw[List.any_eq_false]at hh;exact hh x hm (by simp)
    have hU':UL (Sz s0 x).1 (Sz s0 x).2:=by
     rw[e];refine⟨fun u hu=>?_,hU.f,?_⟩
     .rcases List.mem_append.1 hu with hu | hu
      .exact hU.v u hu
      .simp at hu;rw[hu];exact⟨hx,hxa⟩
     .rw [List.nodup_append];exact⟨hU.nd,by simp,fun a Ry b hb e'=>by simp at hb;subst hb;exact hnm (e' ▸ Ry)⟩
    obtain⟨i1,i2,i3,i4⟩:=ih _ hU' ha';rw[List.foldl_cons];refine⟨i1,fun u=>?_,?_,?_⟩
    .rw [i2,e];simp only[List.mem_append,List.mem_cons,List.not_mem_nil,or_false];constructor
     .rintro (((h | h) | h) | h)<;>simp[h]
     .rintro ((h | h) | h | h)<;>simp[h]
    .rw [e]at i3 ⊢;simp at i3 ⊢;omega
    .rw [e]at i4 ⊢;simp[hx]at i4 ⊢;omega
theorem Zkh {a b:List Use}(h:∀u,u∈a↔u∈b):Yz a=Yz b:=by
 unfold Yz;rw[decide_eq_decide];unfold Clean;constructor
 .intro H u hu v hv;exact H u ((h u).2 hu) v ((h v).2 hv)
 .intro H u hu v hv;exact H u ((h u).1 hu) v ((h v).1 hv)
def Sg (t:List Nd)(s:List Ys):List Use:=s.flatMap fun x=>if Zbh (Zd7 t) x.1 then Zy x.2 else []
def Zd1 (t:List Nd)(s:List Ys):List Use:=Wb t (t.map (kbS s))++Sg t s
theorem Zig:∀ {t:List Nd} {ks:List Bool} {u:Use},u∈Wb t ks->u∈Zy t
 | [],ks,u,h=>by simp[Wb]at h
 |n::r,[],u,h=>by simp[Wb]at h
 |n::r,k::ks,u,h=>by
  simp only[Wb,List.mem_append]at h;simp only[Zy,List.mem_append];rcases h with h | h
  .split at h
   .exact .inl h
   .cases h
  .exact .inr (Zig h)
theorem Znh (p:Use->Bool):∀ {t:List Nd} {ks:List Bool},((Wb t ks).filter p).length<=((Zy t).filter p).length
 | [],ks=>by simp[Wb]
 |n::r,[]=>by simp[Wb]
 |n::r,k::ks=>by
  have:=Znh p (t:=r) (ks:=ks);simp only[Wb,Zy,List.filter_append,List.length_append];split<;>simp<;>omega
theorem Z3u (t:List Nd)(s:List Ys)(k:Nat)(h:k < s.length):Sg t (s.take (k+1))=Sg t (s.take k)++(if Zbh (Zd7 t) s[k].1 then Zy s[k].2 else []):=by
 rw[Xb s k h,Sg,List.flatMap_append];simp only[List.flatMap_cons,List.flatMap_nil,List.append_nil];rfl
theorem Znj {t:List Nd}{s:List Ys}{u:Use}(h:u∈Sg t s):∃x∈s,u∈Zy x.2:=by
 unfold Sg at h;rw[List.mem_flatMap]at h;obtain⟨x,hx,h⟩:=h;split at h
 .exact ⟨x,hx,h⟩
 .cases h
theorem Z71 (t:List Nd)(s:List Ys)(h:∀x∈s,x.2.length<=20000):(Sg t s).length<=s.length*20000:=by
 induction s with
 |nil=>simp[Sg]
 |cons x s ih=>
  have h1:=h x (by simp);have h2:=Zd8 x.2;have h3:=ih fun y hy=>h y (by simp[hy])
  have:Sg t (x::s)=(if Zbh (Zd7 t) x.1 then Zy x.2 else [])++Sg t s:=by rw[Sg,List.flatMap_cons];rfl
  rw[this,List.length_append,List.length_cons];have h4:(s.length+1)*20000=s.length*20000+20000:=by omega
  rw[h4];split
  .omega
  .simp only [List.length_nil];omega
theorem Zmg {t:List Nd}{tr:Tr}(v:VT t tr){s:List Ys}(hg:Wd s)(hs:s.length<=1000)(hf1:((Zy t).filter (·.fn)).length<=1)(hf2:∀x∈s,∀u∈Zy x.2,u.fn=false)(ks:List Bool)(k:Nat){vs fs:List Use}(e:(Wb t ks++Sg t (s.take k)).foldl Sz ([],[])=(vs,fs)):
  UL vs fs/\vs.length < 2^29/\fs.length<=1/\(∀g∈fs,g.args.length < 2^30)/\∀u,u∈vs++fs↔u∈Wb t ks++Sg t (s.take k):=by
 have W1:∀u∈Wb t ks++Sg t (s.take k),(u.fn=false->u.args=[])/\u.args.length < 2^30:=by
  intro u hu;rcases List.mem_append.1 hu with hu | hu
  .exact ⟨Zfd u (Zig hu),v.args u (Zig hu)⟩
  .obtain ⟨x,hx,hu⟩:=Znj hu;obtain⟨_,_,_,vx⟩:=hg x (List.take_subset _ _ hx);exact⟨Zfd u hu,vx.args u hu⟩
 obtain⟨i1,i2,i3,i4⟩:=Zaba (Wb t ks++Sg t (s.take k)) ([],[]) ⟨by simp,by simp,by simp⟩ (fun u hu=>(W1 u hu).1);rw[e]at i1 i2 i3 i4;simp only[List.nil_append,List.not_mem_nil,false_or,List.length_nil,Nat.zero_add,List.append_nil]at i2 i3 i4
 have hl1:(Wb t ks).length<=20000:=by
  have h1:=Znh (fun _=>true) (t:=t) (ks:=ks);rw[List.filter_eq_self.2 (by simp),List.filter_eq_self.2 (by simp)]at h1;have h2:=Zd8 t;have h3:=v.len;omega
 have hl2:(Sg t (s.take k)).length<=1000*20000:=by
  have h1:=Z71 t (s.take k) fun x hx=>by obtain⟨_,_,_,vx⟩:=hg x (List.take_subset _ _ hx);exact vx.len
  have h2:(s.take k).length<=1000:=by simp;omega
  exact Nat.le_trans h1 (Nat.mul_le_mul_right _ h2)
 have hf:((Wb t ks++Sg t (s.take k)).filter (·.fn)).length<=1:=by
  have h1:=Znh (fun u=>u.fn) (t:=t) (ks:=ks)
  have h2:(Sg t (s.take k)).filter (·.fn)=[]:=by
   rw[List.filter_eq_nil_iff];intro u hu;obtain⟨x,hx,hu⟩:=Znj hu;rw[hf2 x (List.take_subset _ _ hx) u hu];simp
  rw[List.filter_append,List.length_append,h2];simp only[List.length_nil];omega
 refine⟨i1,?_,?_,?_,i2⟩
 .rw [List.length_append]at i3;omega
 .rw [i4];exact hf
 .intro g hgm;exact (W1 g ((i2 g).1 (List.mem_append_right _ hgm))).2
def Yo (t:List Nd)(s:List Ys):List Nd×Int:=
 if ¬(s.map (·.1)).Nodup then ([],5)
 else if ∃n∈t,∃r,Zap s n=some r/\sortL r≠n.sort then ([],3)
 else if Yz (Zd1 t s)=false then ([],3)
 else if 20000 < (Sa s t).length then ([],6)
 else if 0 < sortL (Sa s t) then (Sa s t,0) else ([],6)
theorem Zamg (b:Bool)(t:List Nd)(hs:∀n∈t,n.Short)(hl:t.length < 2^30):Xn vE 67 [L 58 b (t.map Zv)] (Zdl (if 0 < sortL t then (t,0) else ([],6))):=by
 have h59:=Zox b t hs hl;clear hs;by_cases hv:0 < sortL t
 .rw [if_pos hv];rw[decide_eq_true hv]at h59;cases t with
  |nil=>exact absurd hv (by decide)
  |cons n r=>
   simp only[List.map_cons,Xs]at h59 ⊢;clear hv;intro K H;refine Wc Tryz.func67 ?_
   (refine Zm ?_;repeat'(first|(refine Zi fun _=>?_;try simp(disch:=first|exact Zq|fail)[*,Zs,Tryz.f67,Xs])|refine Ye ?_|refine Zx ?_|refine Zn ?_ ?_))
 .rw [if_neg hv];rw[decide_eq_false hv]at h59;clear hv;intro K H;refine Wc Tryz.func67 ?_
  (refine Zm ?_;repeat'(first|(refine Zi fun _=>?_;try simp(disch:=first|exact Zq|fail)[*,Zs,Tryz.f67,Wi])|refine Ye ?_|refine Zx ?_|refine Zn ?_ ?_))
theorem Zaat (t:List Nd)(b:Bool):∀m k,below m (k+1) (L 58 b (t.map Zv))=true:=by
 intro m k;cases b<;>cases t<;>rfl
theorem Zlc (t:List Nd)(e:Int):∀m,below m 4 (Zdl (t,e))=true:=by
 intro m;simp only[below,List.all_cons,List.all_nil,Bool.and_true,Zaat]
theorem Zxl (s:List Ys)(t:List Nd)(i:Nat)(h:i < t.length):Sa s (t.take (i+1))=Sa s (t.take i)++rep s t[i]:=by
 rw[Xb t i h,Sa,List.flatMap_append];simp[Sa, -List.map_take]
theorem Zal6 (s:List Ys)(hg:∀x∈s,x.2.length<=20000)(t:List Nd):(Sa s t).length<=t.length*20000:=by
 induction t with
 |nil=>simp[Sa]
 |cons n r ih=>
  have h1:(rep s n).length<=20000:=by
   rcases Re s n with⟨_,_,_,e⟩ | ⟨k,hk,_,_,_,e,_⟩
   .rw [e];simp
   .rw [e];exact hg _ (List.getElem_mem hk)
  have:Sa s (n::r)=rep s n++Sa s r:=by simp[Sa]
  rw[this,List.length_append,List.length_cons];omega
def Zfv (s:List Ys)(t:List Nd)(i:Nat):List PV:=((t.take i).map fun n=>PV.bool (kbS s n))++List.replicate (t.length - i) (.bool false)
theorem Z6x (s:List Ys)(t:List Nd)(i:Nat)(h:i<=t.length):(Zfv s t i).length=t.length:=by simp[Zfv];omega
theorem Z6w (s:List Ys)(t:List Nd)(i:Nat)(h:i < t.length):(Zfv s t i).set i (.bool (kbS s t[i]))=Zfv s t (i+1):=by
 unfold Zfv;rw[List.set_append_right _ _ (by simp;omega)];have e1:i - ((t.take i).map fun n=>PV.bool (kbS s n)).length=0:=by simp;omega
 have e2:t.length - i=(t.length - (i+1))+1:=by omega
 rw[e1,e2,List.replicate_succ,List.set_cons_zero,Xb t i h,List.map_append,List.append_assoc];rfl
theorem Z6y (s:List Ys)(t:List Nd)(i:Nat)(h:i < t.length)(h2:i < (Zfv s t i).length):(Zfv s t i)[i]=.bool false:=by
 have e:(Zfv s t i)[i]?=some (PV.bool false):=by
  unfold Zfv;rw[List.getElem?_append_right (by simp;omega)];simp[List.getElem?_replicate];omega
 exact (List.getElem?_eq_some_iff.1 e).2
theorem Z3d (s:List Ys)(t:List Nd):Zfv s t t.length=(t.map (kbS s)).map .bool:=by
 unfold Zfv;rw[List.take_length];simp
structure RState (t:List Nd)(s:List Ys)(H:PH)(v6 v28 k:Nat)(h:PH):Prop where
 u:∃vs fs lv lf,UR (H.next+6) v6 vs fs lv lf h/\(Wb t (t.map (kbS s))++Sg t (s.take k)).foldl Sz ([],[])=(vs,fs)/\∀j∈lv++lf,H.next<=j/\j≠H.next+28
 row:∃o,h.get (H.next+28)=some (v28,.row 4 o ((t.map (kbS s)).map .bool))
 next:H.next+138<=h.next
theorem RState.add {t:List Nd}{s:List Ys}{H:PH}{v6 v28 k:Nat}{h h':PH}{us:List Use}{vs fs:List Use}{lv lf:List Nat}(R:RState t s H v6 v28 k h)(U:UR (H.next+6) v6 vs fs lv lf h)(e:(Wb t (t.map (kbS s))++Sg t (s.take k)).foldl Sz ([],[])=(vs,fs))(hj:∀j∈lv++lf,H.next<=j/\j≠H.next+28)
  (A:Added (H.next+6) v6 (us.foldl Sz (vs,fs)).1 (us.foldl Sz (vs,fs)).2 lv lf [] h h') (hn:Sg t (s.take (k+1))=Sg t (s.take k)++us):RState t s H v6 v28 (k+1) h':=by
 obtain⟨lv',lf',U',e1,e2⟩:=A.u;have U7:=R.next;refine⟨⟨_,_,lv',lf',U',?_,?_⟩,?_,by have:=A.next;omega⟩
 .rw [hn,<- List.append_assoc,List.foldl_append,e]
 .intro j hjm;rcases List.mem_append.1 hjm with hm | hm
  .rcases e1 with rfl | ⟨_,i,rfl,hi⟩
   .exact hj j (by simp[hm])
   .simp at hm;omega
  .rcases e2 with rfl | ⟨_,i,rfl,hi⟩
   .exact hj j (by simp[hm])
   .simp at hm;omega
 .obtain ⟨o,ho⟩:=R.row;refine⟨o,?_⟩
  have h28:H.next+28∉(H.next+6)::(lv++lf):=by
   intro hm;simp only[List.mem_cons]at hm;rcases hm with hm | hm
   .omega
   .exact (hj _ hm).2 rfl
  rcases A.old (H.next+28) (by omega) h28 with e' | e'
  .rw [e',ho]
  .rw [e'];exact ho
theorem RState.same {t:List Nd}{s:List Ys}{H:PH}{v6 v28 k:Nat}{h:PH}(R:RState t s H v6 v28 k h)(hn:Sg t (s.take (k+1))=Sg t (s.take k)):RState t s H v6 v28 (k+1) h:=by
 obtain⟨vs,fs,lv,lf,U,e,hj⟩:=R.u;exact⟨⟨vs,fs,lv,lf,U,by rw[hn];exact e,hj⟩,R.row,R.next⟩
theorem RState.start {t:List Nd}{s:List Ys}{H:PH}{v6 v28:Nat}{h h':PH}(A:Added (H.next+6) v6 ((Wb t (t.map (kbS s))).foldl Sz ([],[])).1 ((Wb t (t.map (kbS s))).foldl Sz ([],[])).2 [] [] [H.next+28] h h')(U7:h.next=H.next+138)(g28:h.get (H.next+28)=some (v28,.row 4 true ((t.map (kbS s)).map .bool))):RState t s H v6 v28 0 h':=by
 obtain⟨lv',lf',U',e1,e2⟩:=A.u;refine⟨⟨_,_,lv',lf',U',by simp[Sg],?_⟩,?_,by have:=A.next;omega⟩
 .intro j hjm;rcases List.mem_append.1 hjm with hm | hm
  .rcases e1 with rfl | ⟨_,i,rfl,hi⟩
   .simp at hm
   .simp at hm;omega
  .rcases e2 with rfl | ⟨_,i,rfl,hi⟩
   .simp at hm
   .simp at hm;omega
 .rcases A.old (H.next+28) (by omega) (by simp) with e' | e'
  .exact ⟨true,by rw[e',g28]⟩
  .exact ⟨false,by rw[e'];simp[g28]⟩
set_option maxHeartbeats 4000000 in
theorem Zamq {t:List Nd}{tr:Tr}(v:VT t tr)(b b1:Bool)(s:List Ys)(hg:Wd s)(hs:s.length<=1000)(hf1:((Zy t).filter (·.fn)).length<=1)(hf2:∀x∈s,∀u∈Zy x.2,u.fn=false):Xn vE 17 [L 58 b (t.map Zv),L 47 b1 (s.map V7)] (Zdl (Yo t s)):=by
 have h59:=v.ans59 b;have h60:=Z0b b1 s (by omega) hg;have h61:=Z0a b1 s (by omega);have hl:=v.len;by_cases hN:(s.map (·.1)).Nodup
 .have hV:∃V,Yo t s=V:=⟨_,rfl⟩
  obtain⟨V,hV⟩:=hV;rw[hV];have hV1:=hV;unfold Yo at hV1;rw[if_neg (by simpa using hN)]at hV1;rw[decide_eq_true hN]at h61;replace hV:=Hide.mk hV;replace hV1:=Hide.mk hV1;replace hf1:=Hide.mk hf1;replace hf2:=Hide.mk hf2;replace hg:=Hide.mk hg;have Z1i:Zfv s t 0=List.replicate t.length (.bool false):=by simp[Zfv]
  have Qf:∀i,(Sa s (t.take i)).length<=t.length*20000:=fun i=>by
   have:=Zal6 s (fun x hx=>by obtain⟨_,_,tr',v'⟩:=hg.get x hx;exact v'.len) (t.take i);have h2:(t.take i).length<=t.length:=by simp;omega
   exact Nat.le_trans this (Nat.mul_le_mul_right _ h2)
  have hszt:t.length*20000<=400000000:=by omega
  replace Z1i:=Hide.mk Z1i;replace Qf:=Hide.mk Qf;intro K H;refine Wc Tryz.func17 ?_
  (refine Zm ?_;repeat'(first|(refine Zi fun _=>?_;try simp(disch:=first|exact Zq|fail)[*,Zs,Tryz.f17])|refine Ye ?_|refine Zx ?_|refine Zn ?_ ?_))
  generalize hv28:H.stamp (H.next+28)=v28;generalize hv6:H.stamp (H.next+6)=v6
  refine Zl [0,1,6,8] (fun m sl h=>∃i:Nat,m=t.length - i/\i<=t.length/\sl 9=some (.int .i64 i)/\sl 7=some (.int .i64 ((Sa s (t.take i)).length:Nat))/\h.next=H.next+138/\h.get (H.next+6)=some (v6,.cells [.nils,.nils])/\h.get (H.next+28)=some (v28,.row 4 true (Zfv s t i)) /\
   ∀n∈t.take i,∀r,Zap s n=some r->sortL r=n.sort) t.length rfl ⟨0,by simp,by simp,by simp,by simp[Sa],by simp,by simp[*],by simp[Z1i.get, *],by simp⟩ ?_
  rintro m sl h hfr ⟨i,hm,hi,h9,h7,U7,g6,g28,hok⟩;simp at hfr;replace hok:=Hide.mk hok;by_cases hlt:i < t.length
  .have R5:=Zxl s t i hlt;have Zaz:=Z6w s t i hlt;have hrl:=Z6x s t i hi;have hrg:∀hh,(Zfv s t i)[i]'hh=.bool false:=fun hh=>Z6y s t i hlt hh
   have hz1:=Qf.get i;have hz2:=Qf.get (i+1);rw[R5,List.length_append]at hz2;have htk:=Xb t i hlt;have htm:=List.getElem_mem hlt;generalize htd:t[i]=d at *;generalize hT1:Sa s (t.take i)=T1 at *;generalize hR1:Zfv s t i=R1 at *;replace hrg:=hrg (by omega);replace R5:=Hide.mk R5;replace htk:=Hide.mk htk;rcases Re s d with⟨c1,c2,c3,c4⟩ | ⟨k,hk,c1,c2,c3,c4,c5,c6⟩
   .rw [c2]at Zaz;rw[c4]at hz2
    have Xa:Hide (∀n∈t.take (i+1),∀r,Zap s n=some r->sortL r=n.sort):=Hide.mk (by
     rw[htk.get];intro n hn r hr;rcases List.mem_append.1 hn with hn | hn
     .exact hok.get n hn r hr
     .simp at hn;subst hn;rw[c3]at hr;cases hr)
    replace c3:=Hide.mk c3;have Zwa:Hide ((Sa s (t.take (i+1))).length=T1.length+1):=Hide.mk (by rw[R5.get,c4];simp);replace c4:=Hide.mk c4;clear hok;unfold ixS at c1;have h62:=Zow b1 s d.name (by omega);by_cases h4:d.op=4
    .rw [if_pos h4]at c1;generalize Vv s d.name=q at *;obtain⟨op,sort,name,num,kids⟩:=d;simp only at h4;subst h4
     (refine Zm ?_;repeat'(first|(refine Zi fun _=>?_;try simp(disch:=first|exact Zq|fail)[*,Zs])|refine Ye ?_|refine Zx ?_|refine Zn ?_ ?_))
     exact⟨_,by omega,i+1,rfl,by omega,by omega,by rw[Zwa.get];omega,rfl,Xa.get⟩
    .clear h62 c1;obtain⟨op,sort,name,num,kids⟩:=d;simp only at h4
     (refine Zm ?_;repeat'(first|(refine Zi fun _=>?_;try simp(disch:=first|exact Zq|fail)[*,Zs])|refine Ye ?_|refine Zx ?_|refine Zn ?_ ?_))
     exact⟨_,by omega,i+1,rfl,by omega,by omega,by rw[Zwa.get];omega,rfl,Xa.get⟩
   .rw [c2]at Zaz;rw[c4]at hz2;obtain⟨_,_,trk,vk⟩:=hg.get s[k] (List.getElem_mem hk);have h34:=vk.ans34 true;have hsk:=vk.sortL;have hskl:=vk.len;have hskn:=vk.ne;have Zwa:Hide ((Sa s (t.take (i+1))).length=T1.length+s[k].2.length):=Hide.mk (by rw[R5.get,c4];simp);replace c4:=Hide.mk c4;have h62:=Zow b1 s d.name (by omega);unfold ixS at c1;rw[if_pos c5]at c1;rw[c1]at h62
    have Xa:Hide (Ya trk=d.sort->∀n∈t.take (i+1),∀r,Zap s n=some r->sortL r=n.sort):=Hide.mk (by
     intro Ww;rw[htk.get];intro n hn r hr;rcases List.mem_append.1 hn with hn | hn
     .exact hok.get n hn r hr
     .simp at hn;subst hn;rw[c3]at hr;cases hr;rw[hsk,Ww])
    have hbad:Hide (Ya trk≠d.sort->V=([],3)):=Hide.mk (by
     intro Yi;rw[<- hV1.get,if_pos];exact⟨d,htm,_,c3,by rw[hsk];exact Yi⟩)
    replace c3:=Hide.mk c3;replace c6:=Hide.mk c6;clear hok hsk c1;generalize hskk:s[k]=sk at *;obtain⟨xk,rk⟩:=sk;simp only at hskn hskl hz2;generalize Ya trk=S at *;obtain⟨op,sort,name,num,kids⟩:=d;simp only at c5;subst c5;by_cases hS:S=sort
    .replace Xa:=Hide.mk (Xa.get hS);clear hbad;subst hS
     (refine Zm ?_;repeat'(first|(refine Zi fun _=>?_;try simp(disch:=first|exact Zq|fail)[*,Zs])|refine Ye ?_|refine Zx ?_|refine Zn ?_ ?_))
     refine⟨_,by omega,i+1,rfl,by omega,by omega,?_,?_,Xa.get⟩
     .have e:=Zwa.get;simp only at e;rw[e];omega
     .rw [show (decide ((k:Int) < 0))=false by rw[decide_eq_false_iff_not];omega];exact Zaz
    .have hVV:=hbad.get hS;clear hbad Xa;have hSb:(S==sort)=false:=by simpa using hS
     (refine Zm ?_;repeat'(first|(refine Zi fun _=>?_;try simp(disch:=first|exact Zq|fail)[*,Zs,Wi])|refine Ye ?_|refine Zx ?_|refine Zn ?_ ?_))
  .have hi2:i=t.length:=by omega
   subst hi2;rw[List.take_length]at h7;replace hok:=hok.get;rw[List.take_length]at hok;rw[Z3d]at g28
   have hV2:Hide ((if Yz (Zd1 t s)=false then ([],3) else if 20000 < (Sa s t).length then ([],6) else if 0 < sortL (Sa s t) then (Sa s t,0) else ([],6))=V):=Hide.mk (by
    have hno:¬ ∃n∈t,∃r,Zap s n=some r/\sortL r≠n.sort:=by
     rintro⟨n,hn,r,h1,h2⟩;exact h2 (hok n hn r h1)
    have e:=hV1.get;rw[if_neg hno]at e;exact e)
   clear hok hV1 hV;have hUR0:UR (H.next+6) v6 (([],[]):List Use×List Use).1 (([],[]):List Use×List Use).2 [] [] h:=⟨⟨.nils,.nils,g6,Own.nil,Own.nil⟩,by simp,by simp,by simp,by omega,by simp,by simp⟩
   obtain⟨h1,hc63,A⟩:=Z2b v b (.own (H.next+28) v28 4 0 t.length) (L 4 false ((t.map (kbS s)).map .bool)) (t.map (kbS s)) (by simp) (.inr ⟨false,rfl⟩) (s0:=([],[])) hUR0 (by simp) (by simp) (by simp) {base:=H.next,lo:=H.next,ok:=[]} (by simp) (by simp[g28,L];exact List.take_of_length_le (by simp)) rfl (by simp) (by simp) (by simp[L]);have R0:=RState.start (s:=s) A U7 g28;clear A hUR0 g28 g6 Z1i;replace R0:=Hide.mk R0
   (refine Zm ?_;repeat'(first|(refine Zi fun _=>?_;try simp(disch:=first|exact Zq|fail)[*,Zs])|refine Ye ?_|refine Zx ?_|refine Zn ?_ ?_))
   have hszT:Hide ((Sa s t).length<=t.length*20000):=Hide.mk (by have:=Qf.get t.length;rwa [List.take_length]at this);clear Qf hm hi h9;refine Zl [0,1,6,7,8] (fun m sl h=>∃k:Nat,m=s.length - k/\k<=s.length/\sl 11=some (.int .i64 k)/\RState t s H v6 v28 k h) s.length rfl ⟨0,by simp,by simp,by simp,R0.get⟩ ?_;rintro m sl2 h2 Z9a ⟨k,hm,hk,h11,R⟩;simp[hfr]at Z9a;have Zsh:=R.next;by_cases hkl:k < s.length
   .obtain ⟨g1,g2,trk,vk⟩:=hg.get s[k] (List.getElem_mem hkl);obtain⟨vs,fs,lv,lf,U,e,hj⟩:=R.u;obtain⟨s1,s2,s3,s4,s5⟩:=Zmg v hg.get hs hf1.get hf2.get (t.map (kbS s)) k e;have R5:=Z3u t s k hkl;have h65:=Zamh b t v.short (by omega)
    have hvl:(Zd7 t).length < 2^62:=by
     unfold Zd7;split
     .have:=Z0i t [];simp at this;omega
     .simp
    have h64:=Zaaz true (Zd7 t) s[k].1 hvl
    obtain⟨h3,Zahu,A⟩:=Z2b vk true .nils (L 4 true []) (List.replicate s[k].2.length true) (by simp) (.inl ⟨rfl,rfl⟩) (s0:=(vs,fs)) U s2 (Nat.lt_of_le_of_lt s3 (by decide)) s4 {base:=H.next,lo:=H.next,ok:=[]} (by
     intro i hi;simp only[can,Bool.or_eq_true,Nat.ble_eq];left;rcases List.mem_cons.1 hi with rfl | hi
     .omega
     .exact (hj i hi).1) rfl rfl rfl (by simp) rfl
    rw[Z7u]at A;cases hh:Zbh (Zd7 t) s[k].1 with
    |true=>
     rw[hh]at h64;rw[hh,if_pos rfl]at R5;have R2:=R.add U e hj A R5;clear A R5 s1 s2 s3 s4 s5 U e hj R;replace R2:=Hide.mk R2;generalize hskk:s[k]=sk at *;obtain⟨xk,rk⟩:=sk;simp only at g1 g2 h64 Zahu;clear hh
     (refine Zm ?_;repeat'(first|(refine Zi fun _=>?_;try simp(disch:=first|exact Zw|fail)[*,Zz,Wi])|refine Zx ?_|refine Zn ?_ ?_))
     refine Yd false true [91] [] [] [] false (by decide +kernel) ?_
     (refine Zm ?_;repeat'(first|(refine Zi fun _=>?_;try simp(disch:=first|exact Zw|fail)[*,Zz,Wi])|refine Zx ?_|refine Zn ?_ ?_))
     exact⟨_,by omega,k+1,rfl,by omega,by omega,R2.get⟩
    |false=>
     rw[hh]at h64;rw[hh,if_neg (by simp),List.append_nil]at R5;have R2:=R.same R5;clear A R5 s1 s2 s3 s4 s5 U e hj R Zahu;replace R2:=Hide.mk R2;generalize hskk:s[k]=sk at *;obtain⟨xk,rk⟩:=sk;simp only at g1 g2 h64;clear hh
     (refine Zm ?_;repeat'(first|(refine Zi fun _=>?_;try simp(disch:=first|exact Zw|fail)[*,Zz,Wi])|refine Zx ?_|refine Zn ?_ ?_))
     refine Yd false true [91] [] [] [] false (by decide +kernel) ?_
     (refine Zm ?_;repeat'(first|(refine Zi fun _=>?_;try simp(disch:=first|exact Zw|fail)[*,Zz,Wi])|refine Zx ?_|refine Zn ?_ ?_))
     exact⟨_,by omega,k+1,rfl,by omega,by omega,R2.get⟩
   .have hks:k=s.length:=by omega
    subst hks;obtain⟨vs,fs,lv,lf,U,e,hj⟩:=R.u;obtain⟨s1,s2,s3,s4,s5⟩:=Zmg v hg.get hs hf1.get hf2.get (t.map (kbS s)) s.length e;rw[List.take_length]at s5
    have h66:=Zaew U s1 (by omega) s3 {base:=H.next,lo:=H.next,ok:=[]} (by
     intro i hi;simp only[can,Bool.or_eq_true,Nat.ble_eq];left;rcases List.mem_cons.1 hi with rfl | hi
     .omega
     .exact (hj i hi).1)
    rw[Zkh s5,show Wb t (t.map (kbS s))++Sg t s=Zd1 t s from rfl]at h66;obtain⟨o28,g28⟩:=R.row;clear U e hj R s1 s2 s3 s4 s5 hf1 hf2;cases hcl:Yz (Zd1 t s) with
    |false=>
     rw[hcl]at h66;have hVV:=hV2.get;rw[if_pos hcl]at hVV;subst hVV;clear hV2 hcl
     (refine Zm ?_;repeat'(first|(refine Zi fun _=>?_;try simp(disch:=first|exact Zw|fail)[*,Zz,Wi])|refine Zx ?_|refine Zn ?_ ?_))
    |true=>
     rw[hcl]at h66
     have hV3:Hide ((if 20000 < (Sa s t).length then ([],6) else if 0 < sortL (Sa s t) then (Sa s t,0) else ([],6))=V):=Hide.mk (by
      have:=hV2.get
      rwa [if_neg (by rw[hcl];simp)]at this)
     clear hV2 hcl;have Qu:=hszT.get;by_cases Zez:20000 < (Sa s t).length
     .have hVV:=hV3.get;rw[if_pos Zez]at hVV;subst hVV;clear hV3
      (refine Zm ?_;repeat'(first|(refine Zi fun _=>?_;try simp(disch:=first|exact Zw|fail)[*,Zz,Wi])|refine Zx ?_|refine Zn ?_ ?_))
     .have hV4:Hide ((if 0 < sortL (Sa s t) then (Sa s t,0) else ([],6))=V):=Hide.mk (by
       have:=hV3.get
       rwa [if_neg Zez]at this)
      clear hV3
      have hpa:∀i,(Sa s (t.take i)).length<=(Sa s t).length:=fun i=>by
       conv=>rhs;rw[<- List.take_append_drop i t]
       rw[Sa,Sa,List.flatMap_append,List.length_append];omega
      replace hpa:=Hide.mk hpa;have hkr:∀i (hi:i < t.length),((t.map (kbS s)).map PV.bool)[i]?=some (.bool (kbS s t[i])):=fun i hi=>by simp[List.getElem?_eq_getElem hi]
      generalize hKR:(t.map (kbS s)).map PV.bool=KR at *;have hKRl:KR.length=t.length:=by rw[<- hKR];simp
      replace hKR:=Hide.mk hKR
      (refine Zm ?_;repeat'(first|(refine Zi fun _=>?_;try simp(disch:=first|exact Zw|fail)[*,Zz,Wi])|refine Zx ?_|refine Zn ?_ ?_))
      clear h66 h61 h60 h59;refine Zl [0,1,8] (fun m sl h=>∃(i:Nat) (w:PV),m=t.length - i/\i<=t.length/\sl 13=some (.int .i64 i)/\sl 12=some w/\h.get (H.next+28)=some (v28,.row 4 o28 KR)/\Acc [120,133] ⟨H.next,H.next,[]⟩ h 58 w ((Sa s (t.take i)).map Zv)) t.length rfl ⟨0,.nils,by simp,by simp,by simp,by simp,by simp[*],Pure.Acc.nil⟩ ?_;clear hm hk h11 Zsh hkl;rintro m sl3 h4 hfr3 ⟨i,w,hm,hi,h13,h12,g28',hA⟩;simp[Z9a]at hfr3;clear Z9a;by_cases hlt:i < t.length
      .have R5:=Zxl s t i hlt;have hz2:=hpa.get (i+1);rw[R5,List.length_append]at hz2;have hkri:=hkr i hlt;obtain⟨hki1,hki2⟩:=List.getElem?_eq_some_iff.1 hkri;generalize htd:t[i]=d at *;generalize hT1:Sa s (t.take i)=T1 at *;replace R5:=Hide.mk R5;clear hkr hkri;rcases Re s d with⟨c1,c2,c3,c4⟩ | ⟨k,hk,c1,c2,c3,c4,c5,c6⟩
       .rw [c2]at hki2;obtain⟨w',h5,Te,Xj,Tw,Zk⟩:=hA.app (dd:=120) (ys:=[Zv d]) (T:={k:=.struct [(0,3),(1,3),(2,9),(3,9),(4,3)],size:=5,bytes:=56,zero:=[.int .i64 0,.int .i64 0,.string ⟨#[]⟩,.string ⟨#[]⟩,.int .i64 0]}) (by simp) rfl (by simp;omega) (by decide) (by decide) (by simp);simp only[List.length_cons,List.length_nil]at Te;have Ww:=hA.same (n:=3);have Zc9:=Xj.same (n:=3);have hg28:=Zk (H.next+28) (by simp)
        have Xa:Hide (Acc [120,133] ⟨H.next,H.next,[]⟩ h5 58 w' ((Sa s (t.take (i+1))).map Zv)):=Hide.mk (by
         rw[R5.get,c4,List.map_append];exact Xj)
        clear Xj Zk c1 c2 c3 c4 hA;obtain⟨op,sort,name,num,kids⟩:=d
        (refine Zm ?_;repeat'(first|(refine Zi fun _=>?_;try simp(disch:=first|exact Zw|fail)[*,Zz])|refine Zx ?_|refine Zn ?_ ?_))
        exact⟨_,by omega,i+1,rfl,by omega,by omega,Xa.get⟩
       .rw [c2]at hki2;obtain⟨_,_,trk,vk⟩:=hg.get s[k] (List.getElem_mem hk);have hskl:=vk.len;have h62:=Zow b1 s d.name (by omega);unfold ixS at c1;rw[if_pos c5]at c1;rw[c1]at h62;rw[c4]at hz2;obtain⟨w',h5,Te,Xj,Tw,Zk⟩:=hA.app' (dd:=133) (ys:=s[k].2.map Zv) (T:={k:=.struct [(0,3),(1,3),(2,9),(3,9),(4,3)],size:=5,bytes:=56,zero:=[.int .i64 0,.int .i64 0,.string ⟨#[]⟩,.string ⟨#[]⟩,.int .i64 0]}) (by simp) rfl (by simp;omega) (by decide) (by decide);rw[List.length_map]at Te;have Ww:=hA.same (n:=3);have Zc9:=Xj.same (n:=3);have hg28:=Zk (H.next+28) (by simp)
        have Xa:Hide (Acc [120,133] ⟨H.next,H.next,[]⟩ h5 58 w' ((Sa s (t.take (i+1))).map Zv)):=Hide.mk (by
         rw[R5.get,c4,List.map_append];exact Xj)
        clear Xj Zk c1 c2 c3 c4 hA vk;generalize hskk:s[k]=sk at *;obtain⟨xk,rk⟩:=sk;simp only at Te hskl;obtain⟨op,sort,name,num,kids⟩:=d;simp only at c5;subst c5
        (refine Zm ?_;repeat'(first|(refine Zi fun _=>?_;try simp(disch:=first|exact Zw|fail)[*,Zz,-PH.elems])|refine Zx ?_|refine Zn ?_ ?_))
        exact⟨_,by omega,i+1,rfl,by omega,by omega,Xa.get⟩
      .have hit:i=t.length:=by omega
       subst hit;rw[List.take_length]at hA
       have hsh:∀n∈Sa s t,n.Short:=by
        intro n hn;unfold Sa at hn;rw[List.mem_flatMap]at hn;obtain⟨n0,hn0,hn⟩:=hn;rcases Re s n0 with⟨_,_,_,e⟩ | ⟨k,hk,_,_,_,e,_⟩
        .rw [e]at hn;simp at hn;subst hn;exact v.short n hn0
        .rw [e]at hn;obtain⟨_,_,trk,vk⟩:=hg.get s[k] (List.getElem_mem hk);exact vk.short n hn
       have h67:=Zamg true (Sa s t) hsh (by omega);rw[hV4.get]at h67;obtain⟨x,e⟩:=V;obtain⟨h5,hc67,hnx5,Zart⟩:=hA.callF (C:=vE) (f:=67) rfl rfl [] [] h67 (Zlc x e) rfl rfl;simp only[List.nil_append]at hc67;clear hsh hkr hA hpa Zart hV4
       (refine Zm ?_;repeat'(first|(refine Zi fun _=>?_;try simp(disch:=first|exact Zw|fail)[*,Zz,Zdl])|refine Zx ?_|refine Zn ?_ ?_))
 .rw [decide_eq_false hN]at h61;unfold Yo;rw[if_pos hN];clear hN hf1 hf2 hg;intro K H;refine Wc Tryz.func17 ?_
  (refine Zm ?_;repeat'(first|(refine Zi fun _=>?_;try simp(disch:=first|exact Zq|fail)[*,Zs,Tryz.f17,Wi])|refine Ye ?_|refine Zx ?_|refine Zn ?_ ?_))
theorem Zamj {t:List Nd}{tr:Tr}(v:VT t tr)(b:Bool):Xn vE 54 [L 58 b (t.map Zv)] (.int .i64 (Ya tr)):=by
 intro K H;obtain⟨p,vp,q,vq,ps,h1,hc,hV,R8,Ry,ha3,ha4,Xc⟩:=Zi5 v b {base:=H.next,lo:=H.next,ok:=[]} {H with next:=H.next+19};simp only at hc R8 Ry Xc;have hv:=hV.view;have hr:=hV.row;have hlen:=hV.len;have h0:=hV.done 0 v.ne
 have hpa:partAt 257 t 0=(Ya tr,Xd tr,t.length):=by
  unfold partAt;rw[List.drop_zero,v.parse];simp
 rw[hpa]at h0;obtain⟨h01,h02⟩:=List.getElem?_eq_some_iff.1 h0;have Yi:=v.ne;have hl:=v.len;clear hV Xc h0 hpa;refine Vc (ok:=[]) (fn:=Tryz.f54) Tryz.func54 rfl rfl rfl (by simp) (by simp[reach]) (by simp) (by simp) (by simp) ?_ (by simp)
 (refine Zm ?_;repeat'(first|(refine Zi fun _=>?_;try simp(disch:=first|exact Zw|fail)[*,Zz,Tryz.f54])|refine Zx ?_|refine Zn ?_ ?_))
theorem Zal7 {t:List Nd}{tr:Tr}(v:VT t tr)(b:Bool):Xn vE 99 [L 58 b (t.map Zv)] (L 69 true ((Vf (Zy t)).1.map Xx)):=by
 intro K H;obtain⟨p,vp,q,vq,ps,h1,hc,hV,R8,Ry,ha3,ha4,Xc⟩:=Zi5 v b {base:=H.next,lo:=H.next,ok:=[]} {H with next:=H.next+22};simp only at hc R8 Ry Xc;have h109:=Zop (by omega) v.parse v.pos v.clean hV v.len {base:=H.next,lo:=H.next,ok:=[]} (by simp;omega) (by simp;omega) ha3 ha4;clear hV Xc;refine Vc (ok:=[]) (fn:=Tryz.f99) Tryz.func99 rfl rfl rfl (by simp) (by simp[reach]) (by simp) (by simp) (by simp) ?_ (by simp)
 (refine Zm ?_;repeat'(first|(refine Zi fun _=>?_;try simp(disch:=first|exact Zw|fail)[*,Zz,Tryz.f99])|refine Zx ?_|refine Zn ?_ ?_))
theorem Zagf {s:Ys}(h1:Uv s.1=true)(h2:s.1.length<=2^19){tr:Tr}(v:VT s.2 tr):Xn vE 104 [V7 s] (.bool false):=by
 have h85:=Zaay s.1 (by omega);rw[h1]at h85;have h49:=Zaa1 v true;clear h1 v;obtain⟨x,t⟩:=s;simp only at h85 h49;intro K H;refine Wc Tryz.func104 ?_
 (refine Zm ?_;repeat'(first|(refine Zi fun _=>?_;try simp(disch:=first|exact Zq|fail)[*,Zs,Tryz.f104])|refine Ye ?_|refine Zx ?_|refine Zn ?_ ?_))
theorem Zal8 (b:Bool)(s:List Ys)(hl:s.length < 2^30)(hg:Wd s):Xn vE 96 [L 47 b (s.map V7),.fn 104 [] []] (.int .i64 (-1)):=by
 replace hg:=Hide.mk hg;intro K H;refine Wc Tryz.func96 ?_
 (refine Zm ?_;repeat'(first|(refine Zi fun _=>?_;try simp(disch:=first|exact Zq|fail)[*,Zs,Tryz.f96])|refine Ye ?_|refine Zx ?_|refine Zn ?_ ?_))
 refine Zl [0,1,7] (fun n sl h=>∃i:Nat,n=s.length - i/\i<=s.length/\sl 8=some (.int .i64 i)) s.length rfl ⟨0,by simp,by simp,by simp⟩ ?_;rintro n sl h hfr ⟨i,hn,hi,h8⟩;simp at hfr;by_cases hlt:i < s.length
 .obtain ⟨g1,g2,tr,g3⟩:=hg.get s[i] (List.getElem_mem hlt);have hc:=Zagf g1 g2 g3;clear g1 g2 g3
  (refine Zm ?_;repeat'(first|(refine Zi fun _=>?_;try simp(disch:=first|exact Zq|fail)[*,Zs])|refine Ye ?_|refine Zx ?_|refine Zn ?_ ?_))
  exact⟨_,by omega,i+1,rfl,by omega,by omega⟩
 . (refine Zm ?_;repeat'(first|(refine Zi fun _=>?_;try simp(disch:=first|exact Zq|fail)[*,Zs])|refine Ye ?_|refine Zx ?_|refine Zn ?_ ?_))
theorem Zagg (b:Bool)(s:List Ys)(hl:s.length < 2^30)(hg:Wd s):Xn vE 103 [L 47 b (s.map V7),.fn 104 [] []] (.bool false):=by
 have hc:=Zal8 b s hl hg;clear hg;intro K H;refine Wc Tryz.func103 ?_
 (refine Zm ?_;repeat'(first|(refine Zi fun _=>?_;try simp(disch:=first|exact Zq|fail)[*,Zs,Tryz.f103])|refine Ye ?_|refine Zx ?_|refine Zn ?_ ?_))
theorem Z0e (b:Bool)(s:List Ys)(hl:s.length < 2^30)(hg:Wd s):Xn vE 50 [L 47 b (s.map V7)] (.bool true):=by
 have hc:=Zagg b s hl hg;clear hg;intro K H;refine Wc Tryz.func50 ?_
 (refine Zm ?_;repeat'(first|(refine Zi fun _=>?_;try simp(disch:=first|exact Zq|fail)[*,Zs,Tryz.f50])|refine Ye ?_|refine Zx ?_|refine Zn ?_ ?_))
theorem Z0c (b:Bool)(s:List Ys)(hl:s.length < 2^29):Xn vE 52 [L 47 b (s.map V7)] (L 9 true ((s.map (·.1)).map .str)):=by
 intro K H;refine Wc Tryz.func52 ?_
 (refine Zm ?_;repeat'(first|(refine Zi fun _=>?_;try simp(disch:=first|exact Zq|fail)[*,Zs,Tryz.f52])|refine Ye ?_|refine Zx ?_|refine Zn ?_ ?_))
 refine Zl [6,7] (fun n sl h=>∃(i:Nat) (w:PV),n=s.length - i/\i<=s.length/\sl 8=some (.int .i64 i)/\sl 3=some w/\Acc [16] ⟨H.next,H.next,[]⟩ h 9 w (((s.take i).map (·.1)).map .str)) s.length rfl ⟨0,.nils,by simp,by simp,by simp,by simp,Pure.Acc.nil⟩ ?_;rintro n sl h hfr ⟨i,w,hn,hi,h8,h3,hA⟩;simp at hfr;by_cases hlt:i < s.length
 .have htk:=Xb s i hlt;generalize hy:s[i]=y at *;obtain⟨x,t⟩:=y;obtain⟨w',h',Te,Xj,Tw,Zk⟩:=(hA.frame (h':=(h.put (H.next+5) (h.stamp (H.next+5)) (.cells [.str [],.nils])).put (H.next+5) (h.stamp (H.next+5)) (.cells [.str x,L 58 true (t.map Zv)])) (fun d hd=>by simp at hd;subst hd;simp)).app (dd:=16) (ys:=[.str x]) (T:={k:=TK.str,size:=1,bytes:=16,zero:=[Value.string {data:=#[]}]}) (by simp) rfl (by simp;omega) (by decide) (by decide) (by simp);simp only[List.length_cons,List.length_nil]at Te;have Ww:=hA.same (n:=3);have Zc9:=Xj.same (n:=3)
  have Xa:Hide (Acc [16] ⟨H.next,H.next,[]⟩ h' 9 w' (((s.take (i+1)).map (·.1)).map .str)):=Hide.mk (by
   rw[htk,List.map_append,List.map_append];exact Xj)
  clear Xj Zk htk hA
  (refine Zm ?_;repeat'(first|(refine Zi fun _=>?_;try simp(disch:=first|exact Zq|fail)[*,Zs])|refine Ye ?_|refine Zx ?_|refine Zn ?_ ?_))
  exact⟨_,by omega,i+1,rfl,by omega,by omega,by simpa using Xa.get⟩
 .have hit:i=s.length:=by omega
  subst hit;rw[List.take_length]at hA;have W1:=hA.inl;have Za1:=hA.inlT;rw[W1]at Za1;have hot:=hA.ownT;clear hA W1
  (refine Zm ?_;repeat'(first|(refine Zi fun _=>?_;try simp(disch:=first|exact Zq|fail)[*,Zs])|refine Ye ?_|refine Zx ?_|refine Zn ?_ ?_))
  exact hot
def Zrr (l:List Use)(n:Nd):List Use:=if n.op=4 then [⟨false,n.name,[],n.sort⟩] else if n.op=5 then (l.find? (fun u=>u.name==n.name)).toList else []
def Rq (l:List Use)(out:List Nd):List Use:=out.flatMap (Zrr l)
theorem Zx9 {l:List Use}{t:List Nd}{i:Nat}(h:i < t.length):Rq l (t.drop i)=Zrr l t[i]++Rq l (t.drop (i+1)):=by
 rw[List.drop_eq_getElem_cons h];rfl
def Ztr (out:List Nd)(l:List Use):Prop:=∀i (h:i < out.length),out[i].op=5->∃k,∃hk:k < l.length,l.findIdx? (fun u=>u.name==out[i].name)=some k/\Zrr l out[i]=[l[k]]/\l[k].fn=true
set_option maxHeartbeats 4000000 in
theorem Zxg (out:List Nd)(bo:Bool)(l:List Use)(hkn:Ztr out l)(hol:out.length < 2^29)(Rg:l.length < 2^29)(hla:∀g∈l,g.args.length < 2^30){p Zc a va b vb:Nat}{vs0 fs0:List Use}{h:PH}(hf0:∀g∈fs0,g.args.length < 2^30)(U:UM p Zc a va b vb vs0 fs0 h)(c:Code)(hc:Tryz.f56.body=some c):
  wp (Vl vE {base:=h.next,lo:=h.next,ok:=[p,a,b]} true c (Sb 0 [.ptr p Zc 0,L 58 bo (out.map Zv),L 155 true (l.map Y7)]) {h with next:=h.next+Tryz.f56.ntmps}) fun r=>(r.1=.normal\/r.1=.ret)/\wp (Us vE r.2.1 r.2.2 Tryz.f56.results.toList) fun vs=>
   inlT r.2.2 (Wr vs)=some (.bool (W4 vs0 fs0 (Rq l out)).1)/\ownT (Wr vs)=[]/\r.2.2.get p=h.get p/\r.2.2.get a=some (va,Zpe (W4 vs0 fs0 (Rq l out)).2.1)/\r.2.2.get b=some (vb,Zpf (W4 vs0 fs0 (Rq l out)).2.2):=by
 have W0:=Yh U.lp;have had:=Yh U.la;have hbd:=Yh U.lb;have Zsl:(p=a)=False:=by simp[U.pa]
 have Zns:(p=b)=False:=by simp[U.pb]
 injection hc with hc
 subst hc
 (refine Zm ?_;repeat'(first|(refine Zi fun _=>?_;try simp(disch:=first|exact Zw|fail)[*,Zz,Tryz.f56,Ze U.lp,Ze U.la,Ze U.lb])|refine Zx ?_|refine Zn ?_ ?_))
 refine Zl [0,2,10,11] (fun n sl h'=>∃(i:Nat) (vs fs:List Use),n=out.length - i/\i<=out.length/\sl 12=some (.int .i64 i)/\W4 vs0 fs0 (Rq l out)=W4 vs fs (Rq l (out.drop i))/\UM p Zc a va b vb vs fs h'/\(∀g∈fs,g.args.length < 2^30)/\h.next+40<=h'.next/\h'.get p=h.get p) out.length rfl ⟨0,vs0,fs0,by simp,by simp,by simp,by simp,⟨U.o,U.v,U.f,U.pa,U.pb,U.ab,by simp;have:=U.lp;omega,by simp;have:=U.la;omega,by simp;have:=U.lb;omega⟩,hf0,by simp,rfl⟩ ?_;rintro n sl h' hf ⟨i,vs,fs,hn,hi,h12,Y6,U',Uq,U7,hgp⟩;simp at hf;by_cases hlt:i < out.length
 .rw [Zx9 hlt]at Y6;have Z4a:=hkn i hlt;generalize hti:out[i]=nn at *;obtain⟨op,sort,name,num,kids⟩:=nn;by_cases h4:op=4
  .subst h4;have hu:Zrr l (⟨4,sort,name,num,kids⟩:Nd)=[⟨false,name,[],sort⟩]:=by simp[Zrr]
   rw[hu]at Y6;simp only[List.singleton_append,W4,Bool.false_eq_true,if_false]at Y6;have Zsu:=fun (h2:PH) (U2:UM p Zc a va b vb vs fs h2) (K:Pure.Loc) (a1:can K p=true) (a2:can K a=true) (a3:can K b=true)=>Zxb U2 name sort K a1 a2 a3
   generalize X2:Q4 vs fs name sort=st at *;obtain⟨okk,vs2⟩:=st;simp only at Y6 Zsu
   (refine Zm ?_;repeat'(first|(refine Zi fun _=>?_;try simp(disch:=first|exact Zw|fail)[*,Zz,Ze U.lp,Ze U.la,Ze U.lb])|refine Zx ?_|refine Zn ?_ ?_))
   rw[Zsu _ (U'.frame (by simp[W0]) (by simp[had]) (by simp[hbd]) (by simp)) _ (by simp) (by simp) (by simp)];have U2:=(U'.frame (h2:=(h'.put (h.next+8) (h'.stamp (h.next+8)) (.cells [.int .i64 4,.int .i64 sort,.str name,.str num,.int .i64 kids]))) (by simp[W0]) (by simp[had]) (by simp[hbd]) (by simp)).put vs2 fs;cases okk with
   |true=>
    simp only[if_true]at Y6;clear Zsu Z4a hkn U2
    (refine Zm ?_;repeat'(first|(refine Zi fun _=>?_;try simp(disch:=first|exact Zw|fail)[*,Zz,Ze U.lp,Ze U.la,Ze U.lb])|refine Zx ?_|refine Zn ?_ ?_))
    exact⟨_,by omega,i+1,rfl,by omega,by omega,vs2,fs,rfl,(U'.frame (by simp[W0]) (by simp[had]) (by simp[hbd]) (by simp)).put vs2 fs,Uq⟩
   |false=>
    simp only[Bool.false_eq_true,if_false]at Y6;rw[Y6];clear Zsu Z4a hkn U2
    (refine Zm ?_;repeat'(first|(refine Zi fun _=>?_;try simp(disch:=first|exact Zw|fail)[*,Zz,Ze U.lp,Ze U.la,Ze U.lb])|refine Zx ?_|refine Zn ?_ ?_))
    simp[Zsl,Zns,U.ab]
  .by_cases h5:op=5
   .subst h5;obtain⟨k,hkl,hfi,hus,Rn⟩:=Z4a rfl;simp only at hfi;rw[hus]at Y6;have hlk:=hla l[k] (List.getElem_mem hkl);have Zst:=fun (h2:PH) (U2:UM p Zc a va b vb vs fs h2) (K:Pure.Loc) (a1:can K p=true) (a2:can K a=true) (a3:can K b=true)=>Zxa U2 l[k] hlk Uq K a1 a2 a3
    have h107:=fun (K:Pure.Loc) (H:PH) (Zt:can K (h.next+8)=true) (hlt:h.next+8 < H.next) (Zc:Nat) (hp:H.get (h.next+8)=some (Zc,.cells [.int .i64 5,.int .i64 sort,.str name,.str num,.int .i64 kids]))=>Zaao l k 5 sort kids name num hfi (by omega) K H (h.next+8) Zc Zt hlt hp
    generalize hlk':l[k]=u at *;simp only[List.singleton_append,W4,Rn,if_true]at Y6
    have hfl2:∀g∈(R9 vs fs u).2,g.args.length < 2^30:=by
     unfold R9;split
     .exact Uq
     .split
      .exact Uq
      .intro g hg;rcases List.mem_append.1 hg with hg | hg
       .exact Uq g hg
       .simp at hg;subst hg;exact hlk
    generalize X2:R9 vs fs u=st at *;obtain⟨okk,fs2⟩:=st;simp only at Y6 Zst hfl2
    (refine Zm ?_;repeat'(first|(refine Zi fun _=>?_;try simp(disch:=first|exact Zw|fail)[*,Zz,Ze U.lp,Ze U.la,Ze U.lb])|refine Zx ?_|refine Zn ?_ ?_))
    clear h107;rw[Zst _ (U'.frame (by simp[W0]) (by simp[had]) (by simp[hbd]) (by simp)) _ (by simp) (by simp) (by simp)];cases okk with
    |true=>
     simp only[if_true]at Y6;clear Zst Z4a hkn
     (refine Zm ?_;repeat'(first|(refine Zi fun _=>?_;try simp(disch:=first|exact Zw|fail)[*,Zz,Ze U.lp,Ze U.la,Ze U.lb])|refine Zx ?_|refine Zn ?_ ?_))
     exact⟨_,by omega,i+1,rfl,by omega,by omega,vs,fs2,rfl,(U'.frame (by simp[W0]) (by simp[had]) (by simp[hbd]) (by simp)).put vs fs2,hfl2⟩
    |false=>
     simp only[Bool.false_eq_true,if_false]at Y6;rw[Y6];clear Zst Z4a hkn
     (refine Zm ?_;repeat'(first|(refine Zi fun _=>?_;try simp(disch:=first|exact Zw|fail)[*,Zz,Ze U.lp,Ze U.la,Ze U.lb])|refine Zx ?_|refine Zn ?_ ?_))
     simp[Zsl,Zns,U.ab]
   .have hu:Zrr l (⟨op,sort,name,num,kids⟩:Nd)=[]:=by simp[Zrr,h4,h5]
    rw[hu,List.nil_append]at Y6;clear Z4a hkn
    (refine Zm ?_;repeat'(first|(refine Zi fun _=>?_;try simp(disch:=first|exact Zw|fail)[*,Zz,Ze U.lp,Ze U.la,Ze U.lb])|refine Zx ?_|refine Zn ?_ ?_))
    exact⟨_,by omega,i+1,rfl,by omega,by omega,vs,fs,rfl,U'.frame (by simp[W0]) (by simp[had]) (by simp[hbd]) (by simp),Uq⟩
 .have e:i=out.length:=by omega
  subst e;rw[List.drop_length]at Y6;rw[Y6];have e0:Rq l []=[]:=rfl;rw[e0];simp only[W4];have g1:=hgp;have g2:=U'.v;have g3:=U'.f;clear hkn Y6 Uq e0
  (refine Zm ?_;repeat'(first|(refine Zi fun _=>?_;try simp(disch:=first|exact Zw|fail)[*,Zz])|refine Zx ?_|refine Zn ?_ ?_))
theorem Zm5 (us:List Use):∀s:List Use×List Use,∀u,u∈(us.foldl Zb8 s).1↔u∈s.1\/(u∈us/\u.fn=false):=by
 induction us with
 |nil=>simp
 |cons x us ih=>
  intro s u;rw[List.foldl_cons,ih];unfold Zb8;cases hx:x.fn with
  |false=>
   simp only[Bool.false_eq_true,if_false,List.mem_cons];split
   .rename_i hm;constructor
    .rintro (h | h)
     .exact .inl h
     .exact .inr ⟨.inr h.1,h.2⟩
    .rintro (h | ⟨rfl | h,h'⟩)
     .exact .inl h
     .exact .inl hm
     .exact .inr ⟨h,h'⟩
   .simp only [List.mem_append,List.mem_singleton];constructor
    .rintro ((h | rfl) | h)
     .exact .inl h
     .exact .inr ⟨.inl rfl,hx⟩
     .exact .inr ⟨.inr h.1,h.2⟩
    .rintro (h | ⟨rfl | h,h'⟩)
     .exact .inl (.inl h)
     .exact .inl (.inr rfl)
     .exact .inr ⟨h,h'⟩
  |true=>
   simp only[if_true,List.mem_cons];constructor
   .rintro (h | h)
    .exact .inl h
    .exact .inr ⟨.inr h.1,h.2⟩
   .rintro (h | ⟨rfl | h,h'⟩)
    .exact .inl h
    .rw [hx]at h';cases h'
    .exact .inr ⟨h,h'⟩
theorem Zyt (us:List Use):∀s:List Use×List Use,(us.foldl Zb8 s).1.length<=s.1.length+us.length:=by
 induction us with
 |nil=>simp
 |cons x us ih=>
  intro s;have h1:=ih (Zb8 s x)
  have h2:(Zb8 s x).1.length<=s.1.length+1:=by
   unfold Zb8;split
   .simp
   .simp only;split<;>simp
  simp only[List.foldl_cons,List.length_cons];omega
def Zal (r:List Nd):List Use:=(Vf (Zy r)).1++(Vf (Zy r)).2
theorem Zjj {r:List Nd}{u:Use}:u∈Zal r↔u∈Zy r:=by
 unfold Zal Vf;rw[List.mem_append,Zm5,Zjw];simp only[List.not_mem_nil,false_or];constructor
 .rintro (h | h)<;>exact h.1
 .intro h;cases hf:u.fn with
  |true=>exact .inr ⟨h,rfl⟩
  |false=>exact .inl ⟨h,rfl⟩
theorem Qi (b:List Use):∀(a vs fs:List Use),W4 vs fs (a++b)=if (W4 vs fs a).1 then W4 (W4 vs fs a).2.1 (W4 vs fs a).2.2 b else W4 vs fs a
 | [],vs,fs=>by simp[W4]
 |u::a,vs,fs=>by
  simp only[List.cons_append,W4];split
  .split
   .rw [Qi b a]
   .simp
  .split
   .rw [Qi b a]
   .simp
theorem Z14 {vs fs:List Use}{u:Use}(hf:∀g∈fs,g.args.length < 2^30)(hu:u.args.length < 2^30):∀g∈(R9 vs fs u).2,g.args.length < 2^30:=by
 unfold R9;split
 .exact hf
 .split
  .exact hf
  .intro g hg;rcases List.mem_append.1 hg with hg | hg
   .exact hf g hg
   .simp at hg;subst hg;exact hu
theorem Zjl:∀(us vs fs:List Use),(∀g∈fs,g.args.length < 2^30)->(∀u∈us,u.args.length < 2^30)->∀g∈(W4 vs fs us).2.2,g.args.length < 2^30
 | [],vs,fs,hf,hu=>hf
 |u::us,vs,fs,hf,hu=>by
  have hu':∀w∈us,w.args.length < 2^30:=fun w hw=>hu w (by simp[hw])
  have h1:=Z14 (vs:=vs) hf (hu u (by simp));simp only[W4];split
  .split
   .exact Zjl us _ _ h1 hu'
   .exact h1
  .split
   .exact Zjl us _ _ hf hu'
   .exact hf
set_option maxHeartbeats 4000000 in
theorem Zaex {r:List Nd}{tr:Tr}(vr:VT r tr)(bb:Bool){p Zc a va b vb:Nat}{vs0 fs0:List Use}{h:PH}(hf0:∀g∈fs0,g.args.length < 2^30)(U:UM p Zc a va b vb vs0 fs0 h)(K:Pure.Loc)(hp:can K p=true)(ha:can K a=true)(hb:can K b=true):
  Yv vE K 55 [.ptr p Zc 0,L 58 bb (r.map Zv)] h=some (.bool (W4 vs0 fs0 (Zal r)).1,(h.put a va (Zpe (W4 vs0 fs0 (Zal r)).2.1)).put b vb (Zpf (W4 vs0 fs0 (Zal r)).2.2)):=by
 refine Zhi (fn:=Tryz.f55) Tryz.func55 rfl rfl rfl (by simp) (by simpa using U.reach) (U.can hp ha hb) U.belowP ?_ (by simp) (Za9 _ _) (Zba _ _);have h99:=Zal7 vr bb;have h57:=Zaa0 vr bb
 have hvl:∀u∈(Vf (Zy r)).1,u.fn=false:=fun u hu=>by
  unfold Vf at hu;rw[Zm5]at hu;simp at hu;exact hu.2
 have Uq:∀u∈(Vf (Zy r)).2,u.fn=true/\u.args.length < 2^30:=fun u hu=>by
  unfold Vf at hu;rw[Zjw]at hu;simp at hu;exact⟨hu.2,vr.args u hu.1⟩
 have hl1:(Vf (Zy r)).1.length<=20000:=by
  have h1:=Zyt (Zy r) ([],[]);have h2:=Zd8 r;have h3:=vr.len;unfold Vf;simp at h1;omega
 have hl2:(Vf (Zy r)).2.length<=20000:=by
  have h1:=Zqh (Zy r) ([],[]);have h2:=Zd8 r;have h3:=vr.len;unfold Vf;simp at h1;omega
 unfold Zal;generalize (Vf (Zy r)).1=vl at *;generalize (Vf (Zy r)).2=fl at *;have W0:=Yh U.lp;have had:=Yh U.la;have hbd:=Yh U.lb;have Zsl:(p=a)=False:=by simp[U.pa]
 have Zns:(p=b)=False:=by simp[U.pb]
 clear vr;replace hvl:=Hide.mk hvl;replace Uq:=Hide.mk Uq;replace hf0:=Hide.mk hf0
 (refine Zm ?_;repeat'(first|(refine Zi fun _=>?_;try simp(disch:=first|exact Zw|fail)[*,Zz,Tryz.f55,Ze U.lp,Ze U.la,Ze U.lb])|refine Zx ?_|refine Zn ?_ ?_))
 refine Zl [0,1,10,11] (fun n sl h'=>∃(i:Nat) (vs fs:List Use),n=vl.length - i/\i<=vl.length/\sl 12=some (.int .i64 i)/\W4 vs0 fs0 (vl++fl)=W4 vs fs (vl.drop i++fl)/\UM p Zc a va b vb vs fs h'/\(∀g∈fs,g.args.length < 2^30)/\h.next+36<=h'.next/\h'.get p=h.get p) vl.length rfl ⟨0,vs0,fs0,by simp,by simp,by simp,by simp,⟨U.o,U.v,U.f,U.pa,U.pb,U.ab,by simp;have:=U.lp;omega,by simp;have:=U.la;omega,by simp;have:=U.lb;omega⟩,hf0.get,by simp,rfl⟩ ?_;rintro n sl h' hf ⟨i,vs,fs,hn,hi,h12,Y6,U',hfa,U7,hgp⟩;simp at hf;by_cases hlt:i < vl.length
 .rw [List.drop_eq_getElem_cons hlt]at Y6;have hufn:=hvl.get vl[i] (List.getElem_mem hlt);generalize hui:vl[i]=u at *;simp only[List.cons_append,W4,hufn,Bool.false_eq_true,if_false]at Y6;have Zsu:=fun (h2:PH) (U2:UM p Zc a va b vb vs fs h2) (K:Pure.Loc) (a1:can K p=true) (a2:can K a=true) (a3:can K b=true)=>Zxb U2 u.name u.sort K a1 a2 a3
  generalize X2:Q4 vs fs u.name u.sort=st at *;obtain⟨okk,vs2⟩:=st;simp only at Y6 Zsu;clear h99 h57
  (refine Zm ?_;repeat'(first|(refine Zi fun _=>?_;try simp(disch:=first|exact Zw|fail)[*,Zz,Ze U.lp,Ze U.la,Ze U.lb])|refine Zx ?_|refine Zn ?_ ?_))
  rw[Zsu _ (U'.frame (by simp[W0]) (by simp[had]) (by simp[hbd]) (by simp)) _ (by simp) (by simp) (by simp)];cases okk with
  |true=>
   simp only[if_true]at Y6;clear Zsu
   (refine Zm ?_;repeat'(first|(refine Zi fun _=>?_;try simp(disch:=first|exact Zw|fail)[*,Zz,Ze U.lp,Ze U.la,Ze U.lb])|refine Zx ?_|refine Zn ?_ ?_))
   exact⟨_,by omega,i+1,rfl,by omega,by omega,vs2,fs,rfl,(U'.frame (by simp[W0]) (by simp[had]) (by simp[hbd]) (by simp)).put vs2 fs,hfa⟩
  |false=>
   simp only[Bool.false_eq_true,if_false]at Y6;rw[Y6];clear Zsu
   (refine Zm ?_;repeat'(first|(refine Zi fun _=>?_;try simp(disch:=first|exact Zw|fail)[*,Zz,Ze U.lp,Ze U.la,Ze U.lb])|refine Zx ?_|refine Zn ?_ ?_))
   simp[Zsl,Zns,U.ab]
 .have e:i=vl.length:=by omega
  subst e;rw[List.drop_length,List.nil_append]at Y6;clear h99
  (refine Zm ?_;repeat'(first|(refine Zi fun _=>?_;try simp(disch:=first|exact Zw|fail)[*,Zz,Ze U.lp,Ze U.la,Ze U.lb])|refine Zx ?_|refine Zn ?_ ?_))
  refine Zl [0,25,26] (fun n sl h2=>∃(i:Nat) (vs2 fs2:List Use),n=fl.length - i/\i<=fl.length/\sl 27=some (.int .i64 i)/\W4 vs0 fs0 (vl++fl)=W4 vs2 fs2 (fl.drop i)/\UM p Zc a va b vb vs2 fs2 h2/\(∀g∈fs2,g.args.length < 2^30)/\h.next+36<=h2.next/\h2.get p=h.get p) fl.length rfl ⟨0,vs,fs,by simp,by simp,by simp,by simpa using Y6,U',hfa,U7,hgp⟩ ?_;clear Y6 U' hfa U7 hgp hlt hi hn h12;rintro n sl2 h' hf2 ⟨i,vs,fs,hn,hi,h27,Y6,U',hfa,U7,hgp⟩;simp[hf]at hf2;clear hf;by_cases hlt:i < fl.length
  .rw [List.drop_eq_getElem_cons hlt]at Y6;obtain⟨hufn,hua⟩:=Uq.get fl[i] (List.getElem_mem hlt);generalize hui:fl[i]=u at *;simp only[W4,hufn,if_true]at Y6;have Zwh:=Z14 (vs:=vs) hfa hua;have Zst:=fun (h2:PH) (U2:UM p Zc a va b vb vs fs h2) (K:Pure.Loc) (a1:can K p=true) (a2:can K a=true) (a3:can K b=true)=>Zxa U2 u hua hfa K a1 a2 a3
   generalize X2:R9 vs fs u=st at *;obtain⟨okk,fs2⟩:=st;simp only at Y6 Zst Zwh;clear h57;replace Zwh:=Hide.mk Zwh;replace hfa:=Hide.mk hfa
   (refine Zm ?_;repeat'(first|(refine Zi fun _=>?_;try simp(disch:=first|exact Zw|fail)[*,Zz,Ze U.lp,Ze U.la,Ze U.lb])|refine Zx ?_|refine Zn ?_ ?_))
   rw[Zst _ (U'.frame (by simp[W0]) (by simp[had]) (by simp[hbd]) (by simp)) _ (by simp) (by simp) (by simp)];cases okk with
   |true=>
    simp only[if_true]at Y6;clear Zst
    (refine Zm ?_;repeat'(first|(refine Zi fun _=>?_;try simp(disch:=first|exact Zw|fail)[*,Zz,Ze U.lp,Ze U.la,Ze U.lb])|refine Zx ?_|refine Zn ?_ ?_))
    exact⟨_,by omega,i+1,rfl,by omega,by omega,vs,fs2,rfl,(U'.frame (by simp[W0]) (by simp[had]) (by simp[hbd]) (by simp)).put vs fs2,Zwh.get⟩
   |false=>
    simp only[Bool.false_eq_true,if_false]at Y6;rw[Y6];clear Zst
    (refine Zm ?_;repeat'(first|(refine Zi fun _=>?_;try simp(disch:=first|exact Zw|fail)[*,Zz,Ze U.lp,Ze U.la,Ze U.lb])|refine Zx ?_|refine Zn ?_ ?_))
    simp[Zsl,Zns,U.ab]
  .have e:i=fl.length:=by omega
   subst e;rw[List.drop_length]at Y6;rw[Y6];simp only[W4];have g1:=hgp;have g2:=U'.v;have g3:=U'.f;clear Y6 hfa
   (refine Zm ?_;repeat'(first|(refine Zi fun _=>?_;try simp(disch:=first|exact Zw|fail)[*,Zz])|refine Zx ?_|refine Zn ?_ ?_))
def fT (s:List Ys)(x:Yn):Option Tr:=(s.find? (fun p=>p.1==x)).bind fun p=>(Zg 257 p.2).map (·.1)
theorem Zdc {s:List Ys}(hg:Wd s){x:Yn}{p:Ys}(h:s.find? (fun p=>p.1==x)=some p):∃tr,fT s x=some tr/\VT p.2 tr/\flat tr=p.2/\WF tr/\p∈s/\p.1=x:=by
 have hm:=List.mem_of_find?_eq_some h;have hn:p.1=x:=by simpa using List.find?_some h
 obtain⟨_,_,tr,v⟩:=hg p hm;obtain⟨e,w⟩:=Zgx v.parse;refine⟨tr,?_,v,by rw[e,List.append_nil],w,hm,hn⟩;simp only[fT,h,Option.bind_some,v.parse,Option.map_some]
theorem Ziy {s:List Ys}(hg:Wd s){x:Yn}:fT s x=none↔s.find? (fun p=>p.1==x)=none:=by
 constructor
 .intro h;cases hf:s.find? (fun p=>p.1==x) with
  |none=>rfl
  |some p=>
   obtain⟨tr,h1,_⟩:=Zdc hg hf;rw[h]at h1;cases h1
 .intro h;simp[fT,h]
theorem Zzu {s:List Ys}(hg:Wd s){x:Yn}{tr:Tr}(h:fT s x=some tr):∃p,s.find? (fun p=>p.1==x)=some p/\VT p.2 tr/\flat tr=p.2/\WF tr/\p∈s/\p.1=x:=by
 cases hf:s.find? (fun p=>p.1==x) with
 |none=>rw[(Ziy hg).2 hf]at h;cases h
 |some p=>
  obtain⟨tr',h1,h2⟩:=Zdc hg hf;rw[h]at h1;cases h1;exact⟨p,rfl,h2⟩
theorem Z6z {s:List Ys}(hg:Wd s)(n:Nd):rep s n=Z3f (fT s) n:=by
 unfold rep Zap Z3f;by_cases h4:n.op=4
 .simp only [h4,if_true];cases hf:s.find? (fun p=>p.1==n.name) with
  |none=>rw[(Ziy hg).2 hf];rfl
  |some p=>
   obtain⟨tr,h1,h2,h3,_⟩:=Zdc hg hf;rw[h1];simp only[Option.map_some,Option.getD_some,h3]
 .simp [h4]
theorem VT.flatE {t:List Nd}{tr:Tr}(v:VT t tr):t=flat tr/\WF tr:=by
 obtain⟨e,w⟩:=Zgx v.parse;exact⟨by rw[e,List.append_nil],w⟩
theorem VT.depth {t:List Nd}{tr:Tr}(v:VT t tr):Xd tr<=257:=Qn v.parse
theorem VT.usesE {t:List Nd}{tr:Tr}(v:VT t tr):Zy t=Uu tr:=by
 obtain⟨e,w⟩:=v.flatE;have:=Zmi w (by have:=v.depth;omega);rw[<- e]at this;exact this
theorem Zaaw {t:List Nd}{tr:Tr}(v:VT t tr){s:List Ys}(hg:Wd s):Sa s t=flat (Zcc (fT s) tr):=by
 obtain⟨e,w⟩:=v.flatE;rw[Zwu _ _ w,<- e];unfold Sa;congr 1;funext n;exact Z6z hg n
theorem Zaio {t:List Nd}{tr:Tr}(v:VT t tr){s:List Ys}(hg:Wd s):WF (Zcc (fT s) tr):=Z0v _ (fun x r h=>by
 obtain⟨p,_,_,_,w,_⟩:=Zzu hg h;exact w) _ v.flatE.2
theorem Zmj {t:List Nd}{u:Use}(h:u∈Zy t)(hf:u.fn=false):∃n∈t,n.op=4/\n.name=u.name/\n.sort=u.sort:=by
 obtain⟨i,hi,hu⟩:=Zum h;refine⟨t[i],List.getElem_mem hi,?_⟩;unfold Xf at hu;split at hu
 .rename_i h4;simp at hu;rw[hu];exact⟨h4,rfl,rfl⟩
 .split at hu
  .split at hu
   .simp at hu;rw[hu]at hf;cases hf
   .cases hu
  .cases hu
theorem Zej {t:List Nd}{n:Nd}(h:n∈t)(h4:n.op=4):(⟨false,n.name,[],n.sort⟩:Use)∈Zy t:=by
 induction t with
 |nil=>cases h
 |cons m r ih=>
  simp only[Zy,List.mem_append];rcases List.mem_cons.1 h with rfl | h
  .left;simp[Xf,h4]
  .exact .inr (ih h)
def Zdj (t:List Nd)(s:List Ys):Prop:=¬∃n∈t,∃r,Zap s n=some r/\sortL r≠n.sort
theorem Zp8 {t:List Nd}{tr:Tr}(v:VT t tr){s:List Ys}(hg:Wd s)(hs:Zdj t s):∀u∈Uu tr,u.fn=false->∀r,fT s u.name=some r->Ya r=u.sort:=by
 intro u hu hf r hr;rw[<- v.usesE]at hu;obtain⟨n,hn,h4,e1,e2⟩:=Zmj hu hf;obtain⟨p,hp,vp,_⟩:=Zzu hg hr;by_cases h:Ya r=u.sort
 .exact h
 .exfalso;apply hs;refine⟨n,hn,p.2,?_,?_⟩
  .simp only [Zap,h4,if_true,e1,hp,Option.map_some]
  .rw [vp.sortL,e2];exact h
theorem Z7t {t:List Nd}{s:List Ys}(hg:Wd s){u:Use}:u∈Wb t (t.map (kbS s))↔u∈Zy t/\(u.fn=true\/fT s u.name=none):=by
 induction t with
 |nil=>simp[Wb,Zy]
 |cons n r ih=>
  simp only[List.map_cons,Wb,Zy,List.mem_append,ih]
  have key:u∈(if kbS s n=true then Xf n r else [])↔u∈Xf n r/\(u.fn=true\/fT s u.name=none):=by
   by_cases h4:n.op=4
   .have hu:Xf n r=[⟨false,n.name,[],n.sort⟩]:=by simp[Xf,h4]
    rw[hu];unfold kbS ixS;rw[if_pos h4];rcases Zgp (s:=s) (x:=n.name) with⟨h1,h2⟩ | ⟨k,hk,h1,h2,h3⟩
    .have:=(Ziy hg).2 h2;simp only[h1,decide_true,if_true,List.mem_singleton];constructor
     .rintro rfl;exact⟨rfl,.inr this⟩
     .exact fun h=>h.1
    .have:¬ Vv s n.name < 0:=by omega
     simp only[this,decide_false,Bool.false_eq_true,if_false,List.mem_singleton,List.not_mem_nil,false_iff];rintro⟨rfl,h | h⟩
     .cases h
     .rw [(Ziy hg)]at h;simp only at h;rw[h2]at h;cases h
   .have hk:kbS s n=true:=by simp[kbS,ixS,h4]
    rw[hk,if_pos rfl];constructor
    .intro h;refine⟨h,.inl ?_⟩;unfold Xf at h;rw[if_neg h4]at h;split at h
     .split at h
      .simp at h;rw[h]
      .cases h
     .cases h
    .exact fun h=>h.1
  rw[key];constructor
  .rintro (h | h)
   .exact ⟨.inl h.1,h.2⟩
   .exact ⟨.inr h.1,h.2⟩
  .rintro ⟨h | h,h'⟩
   .exact .inl ⟨h,h'⟩
   .exact .inr ⟨h,h'⟩
theorem Z0j (t:List Nd)(x:Yn):∀o,Zbh (t.foldl Tt o) x=true↔Zbh o x=true\/∃n∈t,n.op=4/\n.name=x:=by
 induction t with
 |nil=>simp
 |cons n t ih=>
  intro o;rw[List.foldl_cons,ih]
  have key:Zbh (Tt o n) x=true↔Zbh o x=true\/n.op=4/\n.name=x:=by
   unfold Tt;split
   .rename_i hc;simp only[Zbh,List.any_append,List.any_cons,List.any_nil,Bool.or_false,Bool.or_eq_true,beq_iff_eq,hc.1,true_and]
   .rename_i hc;constructor
    .exact .inl
    .rintro (h | ⟨h4,rfl⟩)
     .exact h
     .cases hh:Zbh o n.name with
      |true=>rfl
      |false=>exact absurd ⟨h4,hh⟩ hc
  rw[key];simp only[List.mem_cons];constructor
  .rintro ((h | h) | ⟨m,h1,h2⟩)
   .exact .inl h
   .exact .inr ⟨n,.inl rfl,h⟩
   .exact .inr ⟨m,.inr h1,h2⟩
  .rintro (h | ⟨m,rfl | h1,h2⟩)
   .exact .inl (.inl h)
   .exact .inl (.inr h2)
   .exact .inr ⟨m,h1,h2⟩
theorem Zui {t:List Nd}{tr:Tr}(v:VT t tr)(x:Yn):Zbh (Zd7 t) x=true↔∃n∈t,n.op=4/\n.name=x:=by
 unfold Zd7;rw[if_pos (by rw[v.sortL];exact v.pos),Z0j];simp[Zbh]
theorem Z4x {s:List Ys}(hN:(s.map (·.1)).Nodup){x:Ys}(hx:x∈s):s.find? (fun p=>p.1==x.1)=some x:=by
 obtain⟨i,hi,rfl⟩:=List.getElem_of_mem hx;rw[List.find?_eq_some_iff_getElem];refine⟨by simp,i,hi,rfl,fun j hj=>?_⟩;have:=List.pairwise_iff_getElem.1 hN j i (by simp;omega) (by simpa using hi) hj;simpa using this
theorem Zlx {t:List Nd}{tr:Tr}(v:VT t tr){s:List Ys}(hg:Wd s)(hN:(s.map (·.1)).Nodup){u:Use}:u∈Sg t s↔∃w∈Uu tr,w.fn=false/\∃r,fT s w.name=some r/\u∈Uu r:=by
 unfold Sg;rw[List.mem_flatMap];constructor
 .rintro ⟨x,hx,hu⟩;split at hu
  .rename_i hh;obtain⟨n,hn,h4,e⟩:=(Zui v x.1).1 hh;have hw:=Zej hn h4;rw[v.usesE]at hw;have hf:=Z4x hN hx;obtain⟨r,h1,h2,h3,h5,_⟩:=Zdc hg hf;refine⟨_,hw,rfl,r,by simp only[e];exact h1,?_⟩;rw[<- h2.usesE];exact hu
  .cases hu
 .rintro ⟨w,hw,hwf,r,hr,hu⟩;rw[<- v.usesE]at hw;obtain⟨n,hn,h4,e1,e2⟩:=Zmj hw hwf;obtain⟨p,hp,vp,_,_,hm,hpn⟩:=Zzu hg hr;refine⟨p,hm,?_⟩;rw[if_pos ((Zui v p.1).2 ⟨n,hn,h4,by rw[e1,hpn]⟩),vp.usesE];exact hu
theorem Zaa8 {t:List Nd}{tr:Tr}(v:VT t tr){s:List Ys}(hg:Wd s)(hN:(s.map (·.1)).Nodup)(hs:Zdj t s)(u:Use):u∈Uu (Zcc (fT s) tr)↔u∈Zd1 t s:=by
 rw[Zp3 _ _ v.flatE.2 v.pos (Zp8 v hg hs),Zd1,List.mem_append,Z7t hg,Zlx v hg hN,v.usesE]
theorem Zut {t:List Nd}{tr:Tr}(v:VT t tr){s:List Ys}(hg:Wd s)(hN:(s.map (·.1)).Nodup)(hs:Zdj t s)(hc:Yz (Zd1 t s)=true)(hl:(Sa s t).length<=20000):
  (Tb [] (Sa s t)=true->sortL (Sa s t)=0)/\(Tb [] (Sa s t)=false->VT (Sa s t) (Zcc (fT s) tr)/\Ya (Zcc (fT s) tr)=Ya tr):=by
 have hw:=Zaio v hg;have Znn:=Zp7 _ _ v.flatE.2 v.pos (Zp8 v hg hs);have Sx:0 < Ya (Zcc (fT s) tr):=by rw[Znn];exact v.pos
 have Rx:Good (Sa s t):=by
  have key:∀n∈Sa s t,n.Short/\n.Sm:=by
   intro n hn;unfold Sa at hn;rw[List.mem_flatMap]at hn;obtain⟨m,hm,hn⟩:=hn;rcases Re s m with⟨_,_,_,e⟩ | ⟨k,hk,_,_,_,e,_⟩
   .rw [e]at hn;simp at hn;subst hn;exact⟨v.good.short n hm,v.good.sm n hm⟩
   .rw [e]at hn;obtain⟨_,_,trk,vk⟩:=hg s[k] (List.getElem_mem hk);exact⟨vk.good.short n hn,vk.good.sm n hn⟩
  exact⟨fun n hn=>(key n hn).1,fun n hn=>(key n hn).2⟩
 rw[Zaaw v hg]at hl Rx ⊢;rw[Z49];generalize hT:Zcc (fT s) tr=T at *;constructor
 .intro hd;have hd:257 < Xd T:=by simpa using hd
  unfold sortL;rw[if_neg (by omega)];have hp:=Zg8 T (Xd T) [] hw (Nat.le_refl _);rw[List.append_nil]at hp;cases hq:Zg 257 (flat T) with
  |none=>rfl
  |some x=>
   have h2:=Qm (e:=Xd T) (by omega) hq;rw[hp]at h2;cases h2;have:=Qn hq;omega
 .intro hd;have hd:Xd T<=257:=by simpa using hd
  have hp:=Zg8 T 257 [] hw hd;rw[List.append_nil]at hp;refine⟨⟨hp,Sx,Rx,hl,?_⟩,Znn⟩;rw[Zmi hw (by omega)];have e:Yz (Uu T)=Yz (Zd1 t s):=Zkh fun u=>by rw[<- hT];exact Zaa8 v hg hN hs u
  have:Yz (Uu T)=true:=by rw[e,hc]
  unfold Yz at this;exact of_decide_eq_true this
theorem Zxi {t:List Nd}{tr:Tr}(v:VT t tr){s:List Ys}(hg:Wd s)(hN:(s.map (·.1)).Nodup)(hs:Zdj t s)(hc:Yz (Zd1 t s)=true):Yo t s=if 20000 < (Sa s t).length then ([],6) else if Tb [] (Sa s t) then ([],6) else (Sa s t,0):=by
 unfold Yo;rw[if_neg (by simpa using hN),if_neg hs,if_neg (by rw[hc];simp)];by_cases hl:20000 < (Sa s t).length
 .rw [if_pos hl,if_pos hl]
 .rw [if_neg hl,if_neg hl];have h:=Zut v hg hN hs hc (by omega);cases hd:Tb [] (Sa s t) with
  |true=>rw[if_pos rfl,if_neg (by rw[h.1 hd];omega)]
  |false=>
   obtain⟨v2,e⟩:=h.2 hd;rw[if_pos (by rw[v2.sortL];exact v2.pos),if_neg (by simp)]
theorem Sw {t:List Nd}{tr:Tr}(v:VT t tr){s:List Ys}(hg:Wd s)(h0:(Yo t s).2=0):Yo t s=(Sa s t,0)/\∃tr',VT (Sa s t) tr'/\Ya tr'=Ya tr:=by
 by_cases hN:(s.map (·.1)).Nodup
 .by_cases hs:Zdj t s
  .cases hc:Yz (Zd1 t s) with
   |false=>
    unfold Yo at h0;rw[if_neg (by simpa using hN),if_neg hs,if_pos hc]at h0;cases h0
   |true=>
    have e:=Zxi v hg hN hs hc;by_cases hl:20000 < (Sa s t).length
    .rw [e,if_pos hl]at h0;cases h0
    .cases hd:Tb [] (Sa s t) with
     |true=>rw[e,if_neg hl,hd]at h0;cases h0
     |false=>
      rw[if_neg hl,hd]at e;obtain⟨v2,e2⟩:=(Zut v hg hN hs hc (by omega)).2 hd;exact⟨e,_,v2,e2⟩
  .unfold Yo at h0;rw[if_neg (by simpa using hN),if_pos (Classical.not_not.1 hs)]at h0;cases h0
 .unfold Yo at h0;rw[if_pos hN]at h0;cases h0
theorem Z12 {t:List Nd}{tr:Tr}(v:VT t tr){i:Nat}(hi:i < t.length)(h5:t[i].op=5):∃k,∃hk:k < (W6 t).length,(W6 t).findIdx? (fun u=>u.name==t[i].name)=some k/\(W6 t).find? (fun u=>u.name==t[i].name)=some (W6 t)[k]/\Xf t[i] (t.drop (i+1))=[(W6 t)[k]]/\(W6 t)[k].fn=true:=by
 obtain⟨ks,r,kn,hk,hm,hkl,hu⟩:=v.app hi h5
 have R6:(⟨true,t[i].name,Yr ks,t[i].sort⟩:Use)∈Zy t:=by
  have h1:=Zag hi;exact Zrq hi (by rw[h1,hu];simp)
 have hmf:(⟨true,t[i].name,Yr ks,t[i].sort⟩:Use)∈W6 t:=Zj9.2 ⟨R6,rfl⟩;cases hf:(W6 t).findIdx? (fun u=>u.name==t[i].name) with
 |none=>
  have:=List.findIdx?_eq_none_iff.1 hf _ hmf;simp at this
 |some k=>
  obtain⟨hkl,Yi,hall⟩:=List.findIdx?_eq_some_iff_getElem.1 hf;have hnm:(W6 t)[k].name=t[i].name:=by simpa using Yi
  have hm2:=Zj9.1 (List.getElem_mem hkl);have e:(W6 t)[k]=⟨true,t[i].name,Yr ks,t[i].sort⟩:=v.clean _ hm2.1 _ R6 hnm;refine⟨k,hkl,rfl,?_,by rw[hu,e],hm2.2⟩;rw[List.find?_eq_some_iff_getElem];exact⟨Yi,k,hkl,rfl,fun j hj=>by simpa using hall j hj⟩
theorem Z0r {t:List Nd}{tr:Tr}(v:VT t tr){i:Nat}(hi:i < t.length):Zrr (W6 t) t[i]=Xf t[i] (t.drop (i+1)):=by
 unfold Zrr;by_cases h4:t[i].op=4
 .rw [if_pos h4];simp[Xf,h4]
 .rw [if_neg h4];by_cases h5:t[i].op=5
  .rw [if_pos h5];obtain⟨k,hk,h1,h2,h3,h4⟩:=Z12 v hi h5;rw[h2,h3];rfl
  .rw [if_neg h5];simp[Xf,h4,h5]
theorem Zx8 {t:List Nd}{tr:Tr}(v:VT t tr)(f:Nd->Bool):Rq (W6 t) (t.filter f)=Wb t (t.map f):=by
 have key:∀k i,i+k=t.length->Rq (W6 t) ((t.drop i).filter f)=Wb (t.drop i) ((t.drop i).map f):=by
  intro k
  induction k with
  |zero=>
   intro i hi;rw[List.drop_eq_nil_of_le (by omega)];rfl
  |succ k ih=>
   intro i hi;have hlt:i < t.length:=by omega
   have h1:=ih (i+1) (by omega);rw[List.drop_eq_getElem_cons hlt,List.map_cons,Wb,<- h1,List.filter_cons];cases hf:f t[i]with
   |true=>
    simp only[if_true];rw[Rq,List.flatMap_cons,Z0r v hlt];rfl
   |false=>simp
 have:=key t.length 0 (by omega);simpa using this
theorem Zph {t:List Nd}{tr:Tr}(v:VT t tr)(f:Nd->Bool):Ztr (t.filter f) (W6 t):=by
 intro i hi h5;have hm:(t.filter f)[i]∈t:=(List.mem_filter.1 (List.getElem_mem hi)).1;obtain⟨j,hj,e⟩:=List.getElem_of_mem hm;rw[<- e]at h5 ⊢;obtain⟨k,hk,h1,h2,h3,h4⟩:=Z12 v hj h5;exact⟨k,hk,h1,by rw[Z0r v hj,h3],h4⟩
theorem Z5g {a b:List Use}(h:∀u∈a,u∈b)(hb:Clean b):Clean a:=fun u hu w hw e=>hb u (h u hu) w (h w hw) e
theorem Z0y {us:List Use}(ha:∀u∈us,u.fn=false->u.args=[]):(W4 [] [] us).1=Yz us:=by
 have h:=Zmx us [] [] [] (by simp) (by simp) (by simp[Clean]) (by simpa using ha);rw[List.nil_append]at h;rw[Bool.eq_iff_iff,h];simp[Yz]
theorem Ze9 {t:List Nd}{s:List Ys}(hN:(s.map (·.1)).Nodup)(h:Zdj t s->Yz (Zd1 t s)=false):Yo t s=([],3):=by
 unfold Yo;rw[if_neg (by simpa using hN)];by_cases hs:Zdj t s
 .rw [if_neg hs,if_pos (h hs)]
 .rw [if_pos (Classical.not_not.1 hs)]
structure PSt (t:List Nd)(s:List Ys)(i:Nat)(ins:List Yn)(P vs fs:List Use):Prop where
 nd:ins.Nodup
 inm:∀x,x∈ins↔∃n∈t.take i,n.op=4/\n.name=x/\(fT s x).isSome=true
 mem:∀u,u∈P↔∃x∈ins,∃r,fT s x=some r/\u∈Uu r
 run:W4 [] [] P=(true,vs,fs)
 sort:∀n∈t.take i,∀r,Zap s n=some r->sortL r=n.sort
 len:ins.length<=i
theorem PSt.start (t:List Nd)(s:List Ys):PSt t s 0 [] [] [] []:=⟨by simp,by simp,by simp,rfl,by simp,by simp⟩
theorem PSt.sub {t:List Nd}{tr:Tr}(v:VT t tr){s:List Ys}(hg:Wd s)(hN:(s.map (·.1)).Nodup){i:Nat}{ins:List Yn}{P vs fs:List Use}(A:PSt t s i ins P vs fs):∀u∈P,u∈Sg t s:=by
 intro u hu;obtain⟨x,hx,r,hr,hu⟩:=(A.mem u).1 hu;obtain⟨n,hn,h4,e,_⟩:=(A.inm x).1 hx;have hw:=Zej (List.take_subset _ _ hn) h4;rw[v.usesE]at hw;exact (Zlx v hg hN).2 ⟨_,hw,rfl,r,by simp only[e];exact hr,hu⟩
theorem Zqq {t:List Nd}{s:List Ys}:∀u∈Sg t s,u.fn=false->u.args=[]:=fun u hu=>by
 obtain⟨x,_,hu⟩:=Znj hu;exact Zfd u hu
theorem PSt.keep {t:List Nd}{s:List Ys}(hg:Wd s){i:Nat}{ins:List Yn}{P vs fs:List Use}(A:PSt t s i ins P vs fs)(hi:i < t.length)(hr:Zap s t[i]=none):PSt t s (i+1) ins P vs fs:=by
 refine⟨A.nd,fun x=>?_,A.mem,A.run,?_,by have:=A.len;omega⟩
 .rw [A.inm,Xb t i hi];simp only[List.mem_append,List.mem_singleton];constructor
  .rintro ⟨n,hn,h⟩;exact⟨n,.inl hn,h⟩
  .rintro ⟨n,hn | rfl,h4,e,h⟩
   .exact ⟨n,hn,h4,e,h⟩
   .exfalso;unfold Zap at hr;rw[if_pos h4,Option.map_eq_none_iff,e]at hr;rw[(Ziy hg).2 hr]at h;cases h
 .intro n hn r h;rw[Xb t i hi]at hn;rcases List.mem_append.1 hn with hn | hn
  .exact A.sort n hn r h
  .simp at hn;subst hn;rw[hr]at h;cases h
theorem PSt.again {t:List Nd}{tr:Tr}(v:VT t tr){s:List Ys}(hg:Wd s){i:Nat}{ins:List Yn}{P vs fs:List Use}(A:PSt t s i ins P vs fs)(hi:i < t.length)(h4:t[i].op=4)(hm:t[i].name∈ins):PSt t s (i+1) ins P vs fs:=by
 obtain⟨n0,hn0,h04,e0,hs0⟩:=(A.inm _).1 hm;refine⟨A.nd,fun x=>?_,A.mem,A.run,?_,by have:=A.len;omega⟩
 .rw [A.inm,Xb t i hi];simp only[List.mem_append,List.mem_singleton];constructor
  .rintro ⟨n,hn,h⟩;exact⟨n,.inl hn,h⟩
  .rintro ⟨n,hn | rfl,h4,e,h⟩
   .exact ⟨n,hn,h4,e,h⟩
   .exact ⟨n0,hn0,h04,by rw[e0,e],h⟩
 .intro n hn r h;rw[Xb t i hi]at hn;rcases List.mem_append.1 hn with hn | hn
  .exact A.sort n hn r h
  .simp at hn;subst hn
   have h1:=A.sort n0 hn0 r (by
    unfold Zap at h ⊢;rw[if_pos h4]at h;rw[if_pos h04,e0];exact h)
   rw[h1];have u1:=Zej (List.take_subset _ _ hn0) h04;have u2:=Zej (List.getElem_mem hi) h4;have:=v.clean _ u1 _ u2 e0;exact congrArg Use.sort this
theorem PSt.put {t:List Nd}{tr:Tr}(v:VT t tr){s:List Ys}(hg:Wd s){i:Nat}{ins:List Yn}{P vs fs:List Use}(A:PSt t s i ins P vs fs)(hi:i < t.length)(h4:t[i].op=4)(hm:t[i].name∉ins){p:Ys}(hp:s.find? (fun p=>p.1==t[i].name)=some p)(hs:sortL p.2=t[i].sort){vs2 fs2:List Use}(hr:W4 vs fs (Zal p.2)=(true,vs2,fs2)):
  PSt t s (i+1) (ins++[t[i].name]) (P++Zal p.2) vs2 fs2:=by
 obtain⟨trp,h1,vp,_⟩:=Zdc hg hp;refine⟨?_,fun x=>?_,fun u=>?_,?_,?_,by have:=A.len;simp;omega⟩
 .rw [List.nodup_append];exact⟨A.nd,by simp,fun a ha b hb e=>by simp at hb;subst hb;exact hm (e ▸ ha)⟩
 .simp only [List.mem_append,List.mem_singleton];rw[A.inm,Xb t i hi];simp only[List.mem_append,List.mem_singleton];constructor
  .rintro (⟨n,hn,h⟩ | rfl)
   .exact ⟨n,.inl hn,h⟩
   .exact ⟨t[i],.inr rfl,h4,rfl,by rw[h1];rfl⟩
  .rintro ⟨n,hn | rfl,h4',e,h⟩
   .exact .inl ⟨n,hn,h4',e,h⟩
   .exact .inr e.symm
 .simp only [List.mem_append,A.mem,Zjj,List.mem_singleton];constructor
  .rintro (⟨x,hx,r,hr⟩ | hu)
   .exact ⟨x,.inl hx,r,hr⟩
   .exact ⟨t[i].name,.inr rfl,trp,h1,by rw[<- vp.usesE];exact hu⟩
  .rintro ⟨x,hx | rfl,r,hr,hu⟩
   .exact .inl ⟨x,hx,r,hr,hu⟩
   .rw [h1]at hr;cases hr;exact .inr (by rw[vp.usesE];exact hu)
 .rw [Qi,A.run];simp only[if_true];exact hr
 .intro n hn r h;rw[Xb t i hi]at hn;rcases List.mem_append.1 hn with hn | hn
  .exact A.sort n hn r h
  .simp at hn;subst hn;unfold Zap at h;rw[if_pos h4,hp]at h;cases h;exact hs
theorem PSt.badSort {t:List Nd}{s:List Ys}{i:Nat}(hi:i < t.length)(h4:t[i].op=4){p:Ys}(hp:s.find? (fun p=>p.1==t[i].name)=some p)(hs:sortL p.2≠t[i].sort):¬ Zdj t s:=by
 intro h;exact h ⟨t[i],List.getElem_mem hi,p.2,by simp only[Zap,h4,if_true,hp,Option.map_some],hs⟩
theorem PSt.badUse {t:List Nd}{tr:Tr}(v:VT t tr){s:List Ys}(hg:Wd s)(hN:(s.map (·.1)).Nodup){i:Nat}{ins:List Yn}{P vs fs:List Use}(A:PSt t s i ins P vs fs)(hi:i < t.length)(h4:t[i].op=4){p:Ys}(hp:s.find? (fun p=>p.1==t[i].name)=some p)(hr:(W4 vs fs (Zal p.2)).1=false):Yz (Zd1 t s)=false:=by
 obtain⟨trp,h1,vp,_⟩:=Zdc hg hp
 have Zik:∀u∈P++Zal p.2,u∈Sg t s:=by
  intro u hu;rcases List.mem_append.1 hu with hu | hu
  .exact A.sub v hg hN u hu
  .have hw:=Zej (List.getElem_mem hi) h4;rw[v.usesE]at hw;exact (Zlx v hg hN).2 ⟨_,hw,rfl,trp,h1,by rw[<- vp.usesE];exact Zjj.1 hu⟩
 have h2:(W4 [] [] (P++Zal p.2)).1=false:=by
  rw[Qi,A.run];simpa using hr
 rw[Z0y (fun u hu=>Zqq u (Zik u hu))]at h2;rw[<- Bool.not_eq_true]at h2 ⊢;unfold Yz at h2 ⊢;rw[decide_eq_true_eq]at h2 ⊢;exact fun hc=>h2 (Z5g (fun u hu=>List.mem_append_right _ (Zik u hu)) hc)
theorem PSt.sortOk {t:List Nd}{s:List Ys}{ins:List Yn}{P vs fs:List Use}(A:PSt t s t.length ins P vs fs):Zdj t s:=by
 rintro⟨n,hn,r,h1,h2⟩;exact h2 (A.sort n (by rw[List.take_length];exact hn) r h1)
theorem PSt.done {t:List Nd}{tr:Tr}(v:VT t tr){s:List Ys}(hg:Wd s)(hN:(s.map (·.1)).Nodup){ins:List Yn}{P vs fs:List Use}(A:PSt t s t.length ins P vs fs):(W4 vs fs (Rq (W6 t) (t.filter (kbS s)))).1=Yz (Zd1 t s):=by
 have h1:(W4 vs fs (Rq (W6 t) (t.filter (kbS s)))).1=(W4 [] [] (P++Rq (W6 t) (t.filter (kbS s)))).1:=by
  rw[Qi,A.run];rfl
 rw[h1,Zx8 v]
 have R6:∀u,u∈P++Wb t (t.map (kbS s))↔u∈Zd1 t s:=by
  intro u;unfold Zd1;simp only[List.mem_append];constructor
  .rintro (h | h)
   .exact .inr (A.sub v hg hN u h)
   .exact .inl h
  .rintro (h | h)
   .exact .inr h
   .left;obtain⟨w,hw,hwf,r,hr,hu⟩:=(Zlx v hg hN).1 h;rw[<- v.usesE]at hw;obtain⟨n,hn,h4,e1,e2⟩:=Zmj hw hwf;refine (A.mem u).2 ⟨w.name,(A.inm _).2 ⟨n,by rw[List.take_length];exact hn,h4,e1,by rw[hr];rfl⟩,r,hr,hu⟩
 rw[Z0y]
 .exact Zkh R6
 .intro u hu;rcases List.mem_append.1 ((R6 u).1 hu) with h | h
  .exact Zfd u (Zig h)
  .exact Zqq u h
theorem VT.kids {t:List Nd}{tr:Tr}(v:VT t tr):∀n∈t,0<=n.kids/\n.kids < 2^60:=by
 intro n hn;obtain⟨i,hi,rfl⟩:=List.getElem_of_mem hn;obtain⟨t1,t2,hF,hk,_⟩:=Zju (d:=256) v.parse v.pos hi;have h1:=hF.le;have h2:=v.len;rw[List.length_append,List.length_drop]at h1;omega
theorem Zaaf (out:List Nd)(bo:Bool)(l:List Use)(hkn:Ztr out l)(hol:out.length < 2^29)(Rg:l.length < 2^29)(hla:∀g∈l,g.args.length < 2^30){p Zc a va b vb:Nat}{vs0 fs0:List Use}{h:PH}(hf0:∀g∈fs0,g.args.length < 2^30)(U:UM p Zc a va b vb vs0 fs0 h)(K:Pure.Loc)(hp:can K p=true)(ha:can K a=true)(hb:can K b=true):
  ∃h',Yv vE K 56 [.ptr p Zc 0,L 58 bo (out.map Zv),L 155 true (l.map Y7)] h=some (.bool (W4 vs0 fs0 (Rq l out)).1,h')/\∀j,j≠p->j≠a->j≠b->h'.get j=h.get j:=by
 refine⟨_,Zhi (va:=va) (vb:=vb) (fn:=Tryz.f56) Tryz.func56 rfl rfl rfl (by simp) (by simpa using U.reach) (U.can hp ha hb) U.belowP ?_ (by simp) (Za9 (W4 vs0 fs0 (Rq l out)).2.1 _) (Zba (W4 vs0 fs0 (Rq l out)).2.2 _),fun j _ ha hb=>by simp[ha,hb]⟩;exact Zxg out bo l hkn hol Rg hla hf0 U _ rfl
theorem Zaag (out:List Nd)(l:List Use)(hkn:Ztr out l)(hol:out.length < 2^29)(Rg:l.length < 2^29)(hla:∀g∈l,g.args.length < 2^30){p Zc a va b vb q vq:Nat}{h:PH}{vs0 fs0:List Use}(hf0:∀g∈fs0,g.args.length < 2^30)(U:UM p Zc a va b vb vs0 fs0 h)(hq:h.get q=some (vq,.row 58 true (out.map Zv)))(hqp:q≠p)(hqa:q≠a)(hqb:q≠b)(K:Pure.Loc)(hp:can K p=true)(ha:can K a=true)(hb:can K b=true)(hcq:can K q=true):
  ∃h',Yv vE K 56 [.ptr p Zc 0,.own q vq 58 0 out.length,L 155 true (l.map Y7)] h=some (.bool (W4 vs0 fs0 (Rq l out)).1,h')/\∀j,j≠p->j≠a->j≠b->j≠q->h'.get j=h.get j:=by
 refine Zue (fn:=Tryz.f56) (ok:=[p,a,b]) (args':=[.ptr p Zc 0,.lst 58 (out.map Zv),L 155 true (l.map Y7)]) Tryz.func56 rfl rfl rfl (by simp[hq];exact List.take_of_length_le (by simp)) (by simpa using U.reach) (U.can hp ha hb) (by simp only[List.flatMap_cons,List.flatMap_nil];simpa using hcq) ?_;have hids:[PV.ptr p Zc 0,.own q vq 58 0 out.length,L 155 true (l.map Y7)].flatMap ownV=[q]:=by simp
 rw[hids];have hfz:h.freeze [q]=h.put q vq (.row 58 false (out.map Zv)):=by simp[hq]
 have U2:UM p Zc a va b vb vs0 fs0 (h.freeze [q]):=by
  rw[hfz];exact U.frame (by simp[Ne.symm hqp]) (by simp[Ne.symm hqa]) (by simp[Ne.symm hqb]) (Nat.le_refl _)
 have hb56:=Zxg out false l hkn hol Rg hla hf0 U2 _ rfl;have U7:(h.freeze [q]).next=h.next:=by rw[hfz];rfl
 rw[U7]at hb56;refine Pure.wp_mono hb56 ?_;rintro r ⟨h1,h2⟩;refine⟨h1,Pure.wp_mono h2 ?_⟩;rintro vs ⟨e1,e2,e3,e4,e5⟩;refine⟨e1,e2,rfl,.inl ⟨?_,?_,?_⟩⟩
 .have hbp:=U2.belowP;rw[U7]at hbp;simp only[List.all_cons,List.all_nil,Bool.and_true,PH.belowAt,e4,e5,Za9,Zba];unfold PH.belowAt at hbp;rw[e3];exact hbp
 .intro j hj1 hj2 hj3 hj4;exact U8 (by simp[hj1,hj2,hj3])
 .intro j hj1 hj2 hj3 hj4;rw[U8 (by simp[hj1,hj2,hj3]),hfz];simp[hj4]
abbrev zN:PV:=.agg [.int .i64 0,.int .i64 0,.str [],.str [],.int .i64 0]
theorem Zz9 (K:Pure.Loc)(h:PH)(n:Nat)(h0:0 < n)(hl:n<=20000):Zxj vE K h 22 (.slice 58) (.int .i64) .nils (.int .i64 n)=some (.own (K.base+22) (h.stamp (K.base+22)) 58 0 n,h.put (K.base+22) (h.stamp (K.base+22)) (.row 58 true (List.replicate n zN))):=by
 have h1:(0:Int)<=n/\(n:Int)<=(Virt.maxLenV:Nat):=by rw[R4];omega
 have h2:(n:Int)≠0:=by omega
 simp[Zxj,h1,h2];omega
theorem Zaak (n:Nat)(hn:0 < n)(hl:n<=20000)(K:Pure.Loc)(h:PH)(hK:K.lo<=h.next):∃Zc h',Yv vE K 140 [.nils,.int .i64 n] h=some (.own (h.next+22) Zc 58 0 0,h')/\h'.get (h.next+22)=some (Zc,.row 58 true (List.replicate n zN))/\h'.next=h.next+27/\∀j,j < h.next->h'.get j=h.get j:=by
 have key:wp (Yv vE K 140 [.nils,.int .i64 n] h) fun r=>∃Zc h',r=(.own (h.next+22) Zc 58 0 0,h')/\h'.get (h.next+22)=some (Zc,.row 58 true (List.replicate n zN))/\h'.next=h.next+27/\∀j,j < h.next->h'.get j=h.get j:=by
  refine Zrp (fn:=Tryz.f140) (by rfl) Tryz.func140 rfl rfl ?_;have hz:=fun K h=>Zz9 K h n hn hl
  (refine Zm ?_;repeat'(first|(refine Zi fun _=>?_;try simp(disch:=first|exact Zw|fail)[*,Zz,Tryz.f140])|refine Zx ?_|refine Zn ?_ ?_))
  refine⟨_,_,⟨rfl,rfl⟩,?_⟩;rw[if_neg]
  .exact ⟨by simp,rfl,fun j hj=>by simp;omega⟩
  .rw [Bool.not_eq_true];unfold Zis;rw[List.all_eq_false];exact⟨22,by simp,by simp⟩
 obtain⟨r,h1,Zc,h',rfl,h2⟩:=Y9.1 key;exact⟨Zc,h',h1,h2⟩
abbrev Su (p:List Nd):PV:=L 58 true (p.map Zv)
theorem flat_take {ps:List (List Nd)}{i:Nat}(h:i < ps.length):(ps.take (i+1)).flatten=(ps.take i).flatten++ps[i]:=by
 rw[Xb ps i h,List.flatten_append,List.flatten_cons,List.flatten_nil,List.append_nil]
theorem Z15 (ps:List (List Nd))(i:Nat):(ps.take i).flatten.length<=ps.flatten.length:=by
 conv=>rhs;rw[<- List.take_append_drop i ps]
 rw[List.flatten_append,List.length_append];omega
set_option maxHeartbeats 2000000 in
theorem Zage (b:Bool)(ps:List (List Nd))(Yi:ps.flatten≠[])(hl:ps.flatten.length<=20000)(hk:ps.length<=2^20):Xn vE 110 [L 23 b (ps.map Su)] (.lst 58 (ps.flatten.map Zv)):=by
 have Sx:0 < ps.flatten.length:=List.length_pos_iff.2 Yi;obtain⟨F,hF⟩:∃F:Nat->List PV,∀i,(ps.take i).flatten.map Zv=F i:=⟨_,fun _=>rfl⟩
 have hF0:F 0=[]:=by rw[<- hF];rfl
 have hFe:F ps.length=ps.flatten.map Zv:=by rw[<- hF,List.take_length]
 have hFs:∀i (hi:i < ps.length),F (i+1)=F i++ps[i].map Zv:=fun i hi=>by rw[<- hF,<- hF,flat_take hi,List.map_append]
 have hFl:∀i,(F i).length<=20000:=fun i=>by rw[<- hF,List.length_map];exact Nat.le_trans (Z15 ps i) hl
 have hlen:ps.flatten.length=(F ps.length).length:=by rw[hFe,List.length_map]
 rw[<- hFe];rw[hlen]at Sx hl;clear hF hFe hlen Yi;replace hFs:=Hide.mk hFs;replace hFl:=Hide.mk hFl;intro K H;refine Wc Tryz.func110 ?_
 (refine Zm ?_;repeat'(first|(refine Zi fun _=>?_;try simp(disch:=first|exact Zw|fail)[*,Zz,Tryz.f110])|refine Zx ?_|refine Zn ?_ ?_))
 refine Zl [0,9,10] (fun n sl h=>∃i:Nat,n=ps.length - i/\i<=ps.length/\sl 11=some (.int .i64 i)/\sl 3=some (.int .i64 ((F i).length:Nat))/\h={H with next:=H.next+36}) ps.length rfl ⟨0,by simp,by simp,by simp,by simp[hF0],rfl⟩ ?_;rintro n sl h hf ⟨i,hn,hi,h11,h3,rfl⟩;simp at hf;by_cases hlt:i < ps.length
 .have h1:=hFl.get (i+1);have h2:=hFs.get i hlt;rw[h2,List.length_append,List.length_map]at h1;generalize hpi:ps[i]=p at *;have h2l:Hide ((F (i+1)).length=(F i).length+p.length):=Hide.mk (by rw[h2,List.length_append,List.length_map]);clear h2;generalize (F i).length=q at *
  (refine Zm ?_;repeat'(first|(refine Zi fun _=>?_;try simp(disch:=first|exact Zw|fail)[*,Zz])|refine Zx ?_|refine Zn ?_ ?_))
  exact⟨_,by omega,i+1,rfl,by omega,by omega,by rw[h2l.get];omega⟩
 .have e:i=ps.length:=by omega
  subst e;obtain⟨Zc,h',hc,hg,U7,Xc⟩:=Zaak (F ps.length).length Sx hl {base:=H.next,lo:=H.next,ok:=[]} {H with next:=H.next+36} (by simp);simp only at hc hg U7;clear Xc
  (refine Zm ?_;repeat'(first|(refine Zi fun _=>?_;try simp(disch:=first|exact Zw|fail)[*,Zz])|refine Zx ?_|refine Zn ?_ ?_))
  refine Zl [25,26] (fun n sl h=>∃(i v2:Nat) (rest:List PV),n=ps.length - i/\i<=ps.length/\sl 27=some (.int .i64 i)/\sl 6=some (.own (H.next+36+22) v2 58 0 (F i).length)/\h.get (H.next+36+22)=some (v2,.row 58 true (F i++rest))) ps.length rfl ⟨0,Zc,_,by simp,by simp,by simp,by simp[hF0],by rw[hF0];simpa using hg⟩ ?_;clear hc hg U7 h11 h3 hf hlt hi hn;rintro n sl h hf ⟨i,v2,rest,hn,hi,h27,h6,hg⟩;simp at hf;by_cases hlt:i < ps.length
  .have h1:=hFl.get (i+1);have h2:=hFs.get i hlt;rw[h2,List.length_append,List.length_map]at h1;generalize hpi:ps[i]=p at *;replace h2:=Hide.mk h2;generalize hQ:F i=Q at *
   (refine Zm ?_;repeat'(first|(refine Zi fun _=>?_;try simp(disch:=first|exact Zw|fail)[*,Zz,-PH.elems])|refine Zx ?_|refine Zn ?_ ?_))
   exact⟨_,by omega,i+1,rfl,by omega,by omega,_,⟨rfl,by rw[h2.get];simp⟩,rfl,[],by rw[h2.get];simp⟩
  .have e:i=ps.length:=by omega
   subst e
   (refine Zm ?_;repeat'(first|(refine Zi fun _=>?_;try simp(disch:=first|exact Zw|fail)[*,Zz])|refine Zx ?_|refine Zn ?_ ?_))
   omega
abbrev nI (k:Nat):PV:=.int .i64 (k:Int)
def Stk (id:Nat)(h:PH)(v:PV)(st:List Nat):Prop:=(st=[]/\v=.nils)\/∃Zc rest,v=.own id Zc 3 0 st.length/\h.get id=some (Zc,.row 3 true (st.reverse.map nI++rest))
theorem Stk.lenK {id:Nat}{h:PH}{v:PV}{st:List Nat}(S:Stk id h v st):Pure.lenK (.slice 3) v=some (.int .i64 st.length):=by
 rcases S with⟨rfl,rfl⟩ | ⟨Zc,rest,rfl,_⟩<;>rfl
theorem Stk.frame {id:Nat}{h h':PH}{v:PV}{st:List Nat}(S:Stk id h v st)(hg:h'.get id=h.get id):Stk id h' v st:=by
 rcases S with h1 | ⟨Zc,rest,e,h2⟩
 .exact .inl h1
 .exact .inr ⟨Zc,rest,e,by rw[hg,h2]⟩
theorem Stk.same {id n:Nat}{h:PH}{v:PV}{st:List Nat}(S:Stk id h v st):W8 n v=true:=by
 rcases S with⟨rfl,rfl⟩ | ⟨Zc,rest,rfl,_⟩<;>cases n<;>rfl
theorem Stk.app {id d:Nat}{h:PH}{v:PV}{st:List Nat}{K:Pure.Loc}{T:Ty}(S:Stk id h v st)(hid:id=K.base+d)(hK:can K id=true)(h1:st.length+1<=1073741824)(h2:T.bytes<=65536)(h3:0 < T.size)(k:Nat):
  ∃v' h',Xq K h d 3 T 1 [nI k] v=some (v',h')/\Stk id h' v' (k::st)/\h'.next=h.next/\∀j,j≠id->h'.get j=h.get j:=by
 subst hid;rcases S with⟨rfl,rfl⟩ | ⟨Zc,rest,rfl,hg⟩
 .refine ⟨_,_,Zaf (by omega) h2 h3 (by decide),.inr ⟨h.stamp (K.base+d),[],by simp,by simp⟩,rfl,fun j hj=>by simp[hj]⟩
 .have hr:h.row (K.base+d) Zc 3=some (true,st.reverse.map nI++rest):=by simp[PH.row,hg]
  refine⟨_,_,((by rw[Qt,hr];rfl:Xq K h d 3 T 1 [nI k] (.own (K.base+d) Zc 3 0 st.length)=Zxk K h T 3 (K.base+d) Zc 0 st.length 1 [nI k] (true,st.reverse.map nI++rest)).trans (Zl8 h1 h2 h3 hK rfl (by simp))),.inr ⟨Zc+1,[],by simp,?_⟩,rfl,fun j hj=>by simp[hj]⟩;simp
set_option maxHeartbeats 4000000 in
theorem Zagd (b:Bool)(t:List Nd)(hl:t.length<=20000)(hk:∀n∈t,0<=n.kids/\n.kids < 2^60):Xn vE 111 [L 58 b (t.map Zv)] (.bool (Tb [] t)):=by
 have hV:∃V,Tb [] t=V:=⟨_,rfl⟩
 obtain⟨V,hV⟩:=hV;rw[hV];replace hk:=Hide.mk hk;intro K H;refine Wc Tryz.func111 ?_
 (refine Zm ?_;repeat'(first|(refine Zi fun _=>?_;try simp(disch:=first|exact Zw|fail)[*,Zz,Tryz.f111])|refine Zx ?_|refine Zn ?_ ?_))
 refine Zl [6,7] (fun n sl h=>∃(i:Nat) (st:List Nat) (w:PV),n=t.length - i/\i<=t.length/\sl 8=some (.int .i64 i)/\sl 3=some w/\Stk (H.next+47) h w st/\st.length<=i/\(∀x∈st,x < 2^60)/\Tb st (t.drop i)=V) t.length rfl ⟨0,[],.nils,by simp,by simp,by simp,by simp,.inl ⟨rfl,rfl⟩,by simp,by simp,by simpa using hV⟩ ?_;rintro n sl h hf ⟨i,st,w,hn,hi,h8,h3,S,hsl,hbd,hd⟩;simp at hf;by_cases hlt:i < t.length
 .rw [List.drop_eq_getElem_cons hlt]at hd;have hkk:=hk.get t[i] (List.getElem_mem hlt);generalize htd:t[i]=d at *;obtain⟨op,sort,name,num,kids⟩:=d;simp only at hkk;obtain⟨k,rfl⟩:∃k:Nat,kids=(k:Int):=⟨kids.toNat,by omega⟩
  simp only[Tb,Int.toNat_natCast]at hd;replace hd:=Hide.mk hd;have hlk:=S.lenK;replace hbd:=Hide.mk hbd
  (refine Zm ?_;repeat'(first|(refine Zi fun _=>?_;try simp(disch:=first|exact Zw|fail)[*,Zz])|refine Zx ?_|refine Zn ?_ ?_))
  refine Zl [5,6,7,8] (fun m sl2 h2=>∃(st2:List Nat) (w2:PV),m=st2.length/\st2.length<=i/\(∀x∈st2,x < 2^60)/\Zhy st2=Zhy st/\sl2 3=some w2/\Stk (H.next+47) h2 w2 st2/\h2.get (H.next+5)=some (h.stamp (H.next+5),.cells [.int .i64 op,.int .i64 sort,.str name,.str num,.int .i64 (k:Int)])) st.length rfl ⟨st,w,rfl,hsl,hbd.get,rfl,by simp[*],S.frame (by simp),by simp⟩ ?_;rintro m sl2 h2 hf2 ⟨st2,w2,hm,hs2,Z9m,hpop,h32,S2,hg5⟩;simp[hf]at hf2;have hlk2:=S2.lenK;replace Z9m:=Hide.mk Z9m;cases st2 with
  |nil=>
   have hp0:Zhy st=[]:=by rw[<- hpop];rfl
   have hd2:=hd.get;rw[hp0]at hd2;simp[Zz3]at hd2;obtain⟨w3,h3',Te,S3,U7,Zk⟩:=S2.app (d:=47) (K:={base:=H.next,lo:=H.next,ok:=[]}) (T:={k:=.int .i64,size:=1,bytes:=8,zero:=[.int .i64 0]}) rfl (by simp) (by simp) (by decide) (by decide) k;simp only[List.length_nil,List.length_cons]at hlk2;clear hlk S
   (refine Zm ?_;repeat'(first|(refine Zi fun _=>?_;try simp(disch:=first|exact Zw|fail)[*,Zz])|refine Zx ?_|refine Zn ?_ ?_))
   exact⟨_,by omega,i+1,rfl,by omega,by omega,[k],S3,by simp,by simp;omega,hd2⟩
  |cons q st2=>
   rcases S2 with⟨e0,_⟩ | ⟨Zc,rest,rfl,hgs⟩
   .cases e0
   simp only[List.length_cons,List.reverse_cons,List.map_append,List.map_cons,List.map_nil,List.append_assoc,List.singleton_append]at hgs hlk2 hs2 hm ⊢;have hrl:(st2.reverse.map nI).length=st2.length:=by simp
   generalize hRV:st2.reverse.map nI=RV at *;by_cases hq:q=0
   .subst hq;have Zaq3:Zhy st2=Zhy st:=by rw[<- hpop];simp[Zhy]
    clear hlk S hd
    (refine Zm ?_;repeat'(first|(refine Zi fun _=>?_;try simp(disch:=first|exact Zw|fail)[*,Zz])|refine Zx ?_|refine Zn ?_ ?_))
    exact⟨_,by omega,st2,rfl,by omega,fun x hx=>Z9m.get x (by simp[hx]),Zaq3,.inr ⟨Zc,nI 0::rest,rfl,by rw[hRV];exact hgs⟩⟩
   .have hqb:=Z9m.get q (by simp);have hp1:Zhy st=q::st2:=by rw[<- hpop];exact Zqb (by simp[hq])
    have hd2:=hd.get;rw[hp1]at hd2;simp only[List.length_cons,Zz3]at hd2;clear hlk S hd;by_cases Zez:256 < st2.length+1
    .rw [if_pos Zez]at hd2;subst hd2
     (refine Zm ?_;repeat'(first|(refine Zi fun _=>?_;try simp(disch:=first|exact Zw|fail)[*,Zz])|refine Zx ?_|refine Zn ?_ ?_))
    .rw [if_neg Zez]at hd2;have hq1:(q:Int) - 1=((q - 1:Nat):Int):=by omega
     have htk:(RV++[nI (q - 1)]++rest).take (st2.length+1)=RV++[nI (q - 1)]:=List.take_left' (by simp[hrl]);rw[List.append_assoc,List.singleton_append]at htk
     (refine Zm ?_;repeat'(first|(refine Zi fun _=>?_;try simp(disch:=first|exact Zw|fail)[*,Zz])|refine Zx ?_|refine Zn ?_ ?_))
     refine⟨_,by omega,i+1,rfl,by omega,by omega,k::(q - 1)::st2,.inr ⟨Zc+1,[],by simp,?_⟩,by simp;omega,?_,hd2⟩
     .simp [hRV]
     .intro x hx;simp only[List.mem_cons]at hx;rcases hx with rfl | rfl | hx
      .omega
      .omega
      .exact Z9m.get x (by simp[hx])
 .have e:t.drop i=[]:=by simp;omega
  rw[e]at hd;subst hd;simp only[Tb]
  (refine Zm ?_;repeat'(first|(refine Zi fun _=>?_;try simp(disch:=first|exact Zw|fail)[*,Zz])|refine Zx ?_|refine Zn ?_ ?_))
def Zvw (ps:List (List Nd)):List Nd×Int:=if 20000 < ps.flatten.length then ([],6) else if Tb [] ps.flatten then ([],6) else (ps.flatten,0)
set_option maxHeartbeats 2000000 in
theorem Zami (b:Bool)(ps:List (List Nd))(Yi:ps.flatten≠[])(hk:ps.length<=2^20)(hp:∀p∈ps,p.length<=20000)(hkid:∀n∈ps.flatten,0<=n.kids/\n.kids < 2^60):Xn vE 58 [L 23 b (ps.map Su)] (Zdl (Zvw ps)):=by
 have hV:∃V,Zvw ps=V:=⟨_,rfl⟩
 obtain⟨V,hV⟩:=hV;rw[hV];unfold Zvw at hV;obtain⟨F,hF⟩:∃F:Nat->Nat,∀i,(ps.take i).flatten.length=F i:=⟨_,fun _=>rfl⟩
 have hF0:F 0=0:=by rw[<- hF];rfl
 have hFe:F ps.length=ps.flatten.length:=by rw[<- hF,List.take_length]
 have hFs:∀i (hi:i < ps.length),F (i+1)=F i+ps[i].length:=fun i hi=>by rw[<- hF,<- hF,flat_take hi,List.length_append]
 have hFl:∀i,F i<=ps.flatten.length:=fun i=>by rw[<- hF];exact Z15 ps i
 clear hF;replace hFs:=Hide.mk hFs;replace hFl:=Hide.mk hFl;by_cases Zez:20000 < ps.flatten.length
 .rw [if_pos Zez]at hV;subst hV;intro K H;refine Wc Tryz.func58 ?_
  (refine Zm ?_;repeat'(first|(refine Zi fun _=>?_;try simp(disch:=first|exact Zw|fail)[*,Zz,Tryz.f58])|refine Zx ?_|refine Zn ?_ ?_))
  rw[<- hFe]at Zez;refine Zl [0,8,9] (fun n sl h=>∃i:Nat,n=ps.length - i/\i<=ps.length/\sl 10=some (.int .i64 i)/\sl 4=some (.int .i64 (F i:Nat))/\F i<=20000) ps.length rfl ⟨0,by simp,by simp,by simp,by simp[hF0],by rw[hF0];omega⟩ ?_;rintro n sl h hf ⟨i,hn,hi,h10,h4,hle⟩;simp at hf;by_cases hlt:i < ps.length
  .have h2:=hFs.get i hlt;have hpl:=hp ps[i] (List.getElem_mem hlt);generalize hpi:ps[i]=p at *;replace h2:=Hide.mk h2;generalize hq0:F i=q at *;clear hFe hp hkid;by_cases hq:20000 < q+p.length
   . (refine Zm ?_;repeat'(first|(refine Zi fun _=>?_;try simp(disch:=first|exact Zw|fail)[*,Zz,Wi])|refine Zx ?_|refine Zn ?_ ?_))
   . (refine Zm ?_;repeat'(first|(refine Zi fun _=>?_;try simp(disch:=first|exact Zw|fail)[*,Zz,Wi])|refine Zx ?_|refine Zn ?_ ?_))
     exact⟨_,by omega,i+1,rfl,by omega,by omega,by rw[h2.get];omega,by rw[h2.get];omega⟩
  .exfalso;have e:i=ps.length:=by omega
   subst e;omega
 .rw [if_neg Zez]at hV;have h110:=Zage b ps Yi (by omega) hk;have h111:=Zagd true ps.flatten (by omega) hkid;intro K H;refine Wc Tryz.func58 ?_
  (refine Zm ?_;repeat'(first|(refine Zi fun _=>?_;try simp(disch:=first|exact Zw|fail)[*,Zz,Tryz.f58])|refine Zx ?_|refine Zn ?_ ?_))
  refine Zl [0,8,9] (fun n sl h=>∃i:Nat,n=ps.length - i/\i<=ps.length/\sl 10=some (.int .i64 i)/\sl 4=some (.int .i64 (F i:Nat))) ps.length rfl ⟨0,by simp,by simp,by simp,by simp[hF0]⟩ ?_;rintro n sl h hf ⟨i,hn,hi,h10,h4⟩;simp at hf;by_cases hlt:i < ps.length
  .have h2:=hFs.get i hlt;have h1:=hFl.get (i+1);rw[h2]at h1;generalize hpi:ps[i]=p at *;replace h2:=Hide.mk h2;generalize hq0:F i=q at *;clear h110 h111 hFe hp hkid
   (refine Zm ?_;repeat'(first|(refine Zi fun _=>?_;try simp(disch:=first|exact Zw|fail)[*,Zz,Wi])|refine Zx ?_|refine Zn ?_ ?_))
   exact⟨_,by omega,i+1,rfl,by omega,by omega,by rw[h2.get];omega⟩
  .obtain ⟨n0,r0,e0⟩:∃n r,ps.flatten=n::r:=by
    cases e:ps.flatten with
    |nil=>exact absurd e Yi
    |cons n r=>exact⟨n,r,rfl⟩
   clear h4 hFe hFl hkid;generalize ps.flatten=F at *;subst e0;simp only[List.map_cons,Xs]at h110 h111;cases hd:Tb [] (n0::r0) with
   |true=>
    rw[hd]at h111;rw[hd,if_pos rfl]at hV;subst hV
    (refine Zm ?_;repeat'(first|(refine Zi fun _=>?_;try simp(disch:=first|exact Zw|fail)[*,Zz,Wi])|refine Zx ?_|refine Zn ?_ ?_))
   |false=>
    rw[hd]at h111;rw[hd,if_neg (by simp)]at hV;subst hV
    (refine Zm ?_;repeat'(first|(refine Zi fun _=>?_;try simp(disch:=first|exact Zw|fail)[*,Zz,Xs])|refine Zx ?_|refine Zn ?_ ?_))
theorem Zww:∀(s:List Ys) (x:Yn),V5 (s.map fun p=>(PV.str p.1,Su p.2)) (.str x)=some ((s.find? fun p=>p.1==x).map fun p=>Su p.2)
 | [],x=>rfl
 |p::s,x=>by
  simp only[List.map_cons,V5,Uk,List.find?_cons];by_cases h:x=p.1
  .subst h;simp
  .have h1:(x==p.1)=false:=by simpa using h
   have h2:(p.1==x)=false:=by simpa using Ne.symm h
   simp only[h1,h2];exact Zww s x
theorem Zacz (s:List Ys)(x:Yn)(r:List Nd)(h:x∉s.map (·.1)):Uw (s.map fun p=>(PV.str p.1,Su p.2)) (.str x) (Su r)=some ((s++[(x,r)]).map fun p=>(PV.str p.1,Su p.2)):=by
 induction s with
 |nil=>rfl
 |cons p s ih=>
  simp only[List.map_cons,List.mem_cons,not_or]at h;have h1:(x==p.1)=false:=by simpa using h.1
  simp only[List.map_cons,Uw,Uk,h1,ih h.2,Option.map_some,List.cons_append]
theorem Zac6 (t:List Nd)(e:Int):Yy 23 14 (Zdl (t,e))=true:=by
 simp only[Zdl,Yy,List.all_cons,List.all_nil,Bool.and_true];rcases Zxq 58 true (t.map Zv) with⟨h,_⟩ | ⟨h,_⟩
 .rw [h];rfl
 .rw [h];simp only[Yy,Bool.and_eq_true,List.all_eq_true];refine⟨by decide,fun x hx=>?_⟩;obtain⟨n,_,rfl⟩:=List.mem_map.1 hx;simp[Yy,Zv]
theorem Zwz (s:List Ys)(t:List Nd)(i:Nat)(h:i < t.length):(t.take (i+1)).filter (kbS s)=(t.take i).filter (kbS s)++(if kbS s t[i] then [t[i]] else []):=by
 rw[Xb t i h,List.filter_append];congr 1;cases hk:kbS s t[i]<;>simp[hk]
set_option maxHeartbeats 8000000 in
theorem Ztk {t:List Nd}{tr:Tr}(v:VT t tr)(b b1:Bool)(s:List Ys)(hg:Wd s)(hs:s.length<=1000):Xn vE 16 [L 58 b (t.map Zv),L 47 b1 (s.map V7)] (Zdl (Yo t s)):=by
 have h49:=Zaa1 v b;have h50:=Z0e b1 s (by omega) hg;have h52:=Z0c b1 s (by omega);have h51:=Z0d true (s.map (·.1)) (by simp;omega);have hnml:(s.map (·.1)).length=s.length:=by simp
 generalize hnm:s.map (·.1)=nm at h51 h52 hnml;have hl:=v.len;have hV:∃V,Yo t s=V:=⟨_,rfl⟩
 obtain⟨V,hV⟩:=hV;rw[hV];by_cases hN:(s.map (·.1)).Nodup
 .rw [decide_eq_true (hnm ▸ hN)]at h51;clear hnm;replace hV:=Hide.mk hV;replace hg:=Hide.mk hg;have hN0:=hN;replace hN:=Hide.mk hN
  have hnd:∀i (hi:i < s.length),s[i].1∉(s.take i).map (·.1):=by
   intro i hi hm;have h1:=hN0.sublist (List.take_sublist (i+1) _);rw[Xb _ i (by simpa using hi),List.nodup_append]at h1;exact h1.2.2 _ (by simpa using hm) _ (by simp) rfl
  clear hN0;replace hnd:=Hide.mk hnd;intro K H;refine Wc Tryz.func16 ?_
  (refine Zm ?_;repeat'(first|(refine Zi fun _=>?_;try simp(disch:=first|exact Zw|fail)[*,Zz,Tryz.f16])|refine Zx ?_|refine Zn ?_ ?_))
  generalize hv30:H.stamp (H.next+30)=v30;refine Zl [0,6,31,32] (fun m sl h=>∃i:Nat,m=s.length - i/\i<=s.length/\sl 33=some (.int .i64 i)/\h.get (H.next+30)=some (v30,.map ((s.take i).map fun p=>(PV.str p.1,Su p.2)))/\h.next=H.next+111) s.length rfl ⟨0,by simp,by simp,by simp,by simp[*],by simp⟩ ?_;rintro m sl h hfr ⟨i,hm,hi,h33,g30,U7⟩;simp at hfr;by_cases hlt:i < s.length
  .have hps:=Zacz (s.take i) s[i].1 s[i].2 (hnd.get i hlt);have htk:=Xb s i hlt;have e2:s.take i++[(s[i].1,s[i].2)]=s.take (i+1):=by rw[htk]
   rw[e2]at hps;generalize hT2:s.take (i+1)=T2 at *;replace hT2:=Hide.mk hT2;clear htk e2;generalize s.take i=T1 at *;generalize hsi:s[i]=y at *;obtain⟨x,r⟩:=y;simp only at hps
   (refine Zm ?_;repeat'(first|(refine Zi fun _=>?_;try simp(disch:=first|exact Zw|fail)[*,Zz])|refine Zx ?_|refine Zn ?_ ?_))
   exact⟨_,by omega,i+1,rfl,by omega,by omega,by rw[<- List.map_take,hT2.get]⟩
  .have hi2:i=s.length:=by omega
   subst hi2;rw[List.take_length]at g30;obtain⟨Zc,va,vb,h1,h53,U,Xc⟩:=Zac5 {base:=H.next,lo:=H.next,ok:=[]} h;have g30':=(Xc (H.next+30) (by omega)).trans g30;rw[U7]at h53 U;have hnx1:=U.lp;clear h49 h50 h51 h52 hnd Xc
   (refine Zm ?_;repeat'(first|(refine Zi fun _=>?_;try simp(disch:=first|exact Zw|fail)[*,Zz])|refine Zx ?_|refine Zn ?_ ?_))
   generalize hv44:h1.stamp (H.next+44)=v44
   have Te:∀n∈(t.map (rep s)).flatten,0<=n.kids/\n.kids < 2^60:=by
    intro n hn;rw[List.mem_flatten]at hn;obtain⟨p,hp,hn⟩:=hn;obtain⟨m,hm,rfl⟩:=List.mem_map.1 hp;rcases Re s m with⟨_,_,_,e⟩ | ⟨k,hk,_,_,_,e,_⟩
    .rw [e]at hn;simp at hn;subst hn;exact v.kids n hm
    .rw [e]at hn;obtain⟨_,_,trk,vk⟩:=hg.get s[k] (List.getElem_mem hk);exact vk.kids n hn
   replace Te:=Hide.mk Te
   refine Zl [0,6,9,12,45,46] (fun m sl h=>∃(i:Nat) (wp' wk:PV) (ins:List Yn) (P vs fs:List Use),m=t.length - i/\i<=t.length/\sl 47=some (.int .i64 i)/\sl 10=some wp'/\sl 11=some wk/\Pure.Acc [73,81] ⟨H.next,H.next,[]⟩ h 23 wp' (((t.take i).map (rep s)).map Su)/\Pure.Acc [77] ⟨H.next,H.next,[]⟩ h 58 wk (((t.take i).filter (kbS s)).map Zv) /\
    UM (H.next+111+4) Zc (H.next+111+1) va (H.next+111+2) vb vs fs h/\h.get (H.next+30)=some (v30,.map (s.map fun p=>(PV.str p.1,Su p.2)))/\h.get (H.next+44)=some (v44,.map (ins.map fun x=>(PV.str x,PV.bool true)))/\PSt t s i ins P vs fs/\(∀g∈fs,g.args.length < 2^30)) t.length rfl
    ⟨0,.nils,.nils,[],[],[],[],by simp,by simp,by simp,by simp,by simp,Pure.Acc.nil,Pure.Acc.nil,?_,by simp[*],by simp[*],PSt.start t s,by simp⟩ ?_
   .exact U.frame (by simp) (by simp) (by simp) (by simp)
   clear U g30' g30 h53 hv44;rintro m sl2 h2 Z9a ⟨i,wp',wk,ins,P,vs,fs,hm,hi,h47,h10,h11,hAp,hAk,U,g30,g44,A,hfa⟩;simp[hfr]at Z9a;have hpn:=U.lp;by_cases hlt:i < t.length
   .have hfs:=Zww s t[i].name
    have hsl:((t.map Zv).drop i).take 1=[Zv t[i]]:=by
     rw[List.drop_eq_getElem_cons (by simpa using hlt)];simp
    have htk:=Xb t i hlt;have Uq:=Zwz s t i hlt;have hkl:((t.take i).filter (kbS s)).length<=i:=Nat.le_trans (List.length_filter_le _ _) (by simp;omega);generalize htd:t[i]=d at *;rcases Re s d with⟨c1,c2,c3,c4⟩ | ⟨k,hk,c1,c2,c3,c4,c5,c6⟩
    .have A2:=A.keep hg.get hlt (by rw[htd];exact c3);have Zwg:Hide (((t.take (i+1)).map (rep s)).map Su=((t.take i).map (rep s)).map Su++[Su [d]]):=Hide.mk (by rw[htk,List.map_append,List.map_append,List.map_cons,List.map_nil,c4];rfl);have Zwf:Hide (((t.take (i+1)).filter (kbS s)).map Zv=((t.take i).filter (kbS s)).map Zv++[Zv d]):=Hide.mk (by rw[Uq,c2,if_pos rfl,List.map_append];rfl);replace A2:=Hide.mk A2;clear A c1 c2 c4 htk Uq;replace c3:=Hide.mk c3;replace hfa:=Hide.mk hfa;obtain⟨op,sort,name,num,kids⟩:=d;simp only at hfs;have hpl:((t.take i).map (rep s)).length<=20000:=by simp;omega
     obtain⟨wp2,h3,hap1,Zzk,Z8v,Zk0⟩:=(hAp.frame (h':=(h2.put (H.next+14) (h2.stamp (H.next+14)) (PO.cells [PV.int IntKind.i64 0,PV.int IntKind.i64 0,PV.str [],PV.str [],PV.int IntKind.i64 0])).put (H.next+14) (h2.stamp (H.next+14)) (PO.cells [PV.int IntKind.i64 op,PV.int IntKind.i64 sort,PV.str name,PV.str num,PV.int IntKind.i64 kids])) (fun d hd=>by simp at hd;rcases hd with rfl | rfl<;>simp)).app (dd:=73) (ys:=[PV.lst 58 [Zv ⟨op,sort,name,num,kids⟩]]) (T:={k:=.slice 58,size:=1,bytes:=24,zero:=[.slice none 0 0]}) (by simp) rfl (by simp only[List.length_map,List.length_cons,List.length_nil]at hpl ⊢;omega) (by decide) (by decide) (by simp);obtain⟨wk2,h4,hap2,hAk2,hnx4,Z86⟩:=(hAk.frame (h':=h3) (fun d hd=>by simp at hd;subst hd;rw[Zk0 _ (by intro e he;simp at he;rcases he with rfl | rfl<;>simp)];simp)).app (dd:=77) (ys:=[Zv ⟨op,sort,name,num,kids⟩]) (T:={k:=.struct [(0,3),(1,3),(2,9),(3,9),(4,3)],size:=5,bytes:=56,zero:=[.int .i64 0,.int .i64 0,.string ⟨#[]⟩,.string ⟨#[]⟩,.int .i64 0]}) (by simp) rfl (by simp only[List.length_map,List.length_cons,List.length_nil];omega) (by decide) (by decide) (by simp);simp only[List.length_cons,List.length_nil]at hap1 hap2
     have hwf:wp'=.nils\/(∃v0 n0,wp'=.own (H.next+73) v0 23 0 n0)\/∃v0 n0,wp'=.own (H.next+81) v0 23 0 n0:=by
      rcases hAp with⟨_,e⟩ | ⟨d0,v0,_,hd0,e,_⟩
      .exact .inl e
      .simp at hd0;rcases hd0 with rfl | rfl
       .exact .inr (.inl ⟨_,_,e⟩)
       .exact .inr (.inr ⟨_,_,e⟩)
     have hs1:=hAp.same (n:=3);have hs2:=hAk.same (n:=3);have hs3:=Zzk.same (n:=3);have hs4:=hAk2.same (n:=3)
     have e14:h3.get (H.next+14)=some (h2.stamp (H.next+14),.cells [.int .i64 op,.int .i64 sort,.str name,.str num,.int .i64 kids]):=by
      rw[Zk0 _ (by intro e he;simp at he;rcases he with rfl | rfl<;>simp)];simp
     have Zqs:∀j,j≠H.next+14->j≠H.next+73->j≠H.next+81->j≠H.next+77->h4.get j=h2.get j:=fun j a1 a2 a3 a4=>by
      rw[Z86 j (by intro e he;simp at he;subst he;exact a4),Zk0 j (by intro e he;simp at he;rcases he with rfl | rfl;exact a2;exact a3)];simp[a1]
     have hUf:UM (H.next+111+4) Zc (H.next+111+1) va (H.next+111+2) vb vs fs h4:=U.frame (Zqs _ (by omega) (by omega) (by omega) (by omega)) (Zqs _ (by omega) (by omega) (by omega) (by omega)) (Zqs _ (by omega) (by omega) (by omega) (by omega)) (by rw[hnx4,Z8v];simp);have Zpv:=(Zqs (H.next+30) (by omega) (by omega) (by omega) (by omega)).trans g30;have Z4t:=(Zqs (H.next+44) (by omega) (by omega) (by omega) (by omega)).trans g44
     have Zps:Pure.Acc [73,81] ⟨H.next,H.next,[]⟩ h4 23 wp2 (((t.take (i+1)).map (rep s)).map Su):=by
      rw[Zwg.get];exact Zzk.frame fun d hd=>Z86 _ (by intro e he;simp at he hd;subst he;rcases hd with rfl | rfl<;>simp)
     have Zpt:Pure.Acc [77] ⟨H.next,H.next,[]⟩ h4 58 wk2 (((t.take (i+1)).filter (kbS s)).map Zv):=by rw[Zwf.get];exact hAk2
     replace Zps:=Hide.mk Zps;replace Zpt:=Hide.mk Zpt;replace hUf:=Hide.mk hUf;replace Zpv:=Hide.mk Zpv;replace Z4t:=Hide.mk Z4t;clear Zzk hAk2 Zk0 Z86 Zqs hAp hAk U Zwg Zwf;cases hfd:s.find? (fun p=>p.1==name) with
     |none=>
      rw[hfd,Option.map_none]at hfs;have hb73:Nat.blt (H.next+14) (H.next+73)=true:=by rw[Nat.blt_eq];omega
      have he59:(H.next==H.next+59)=false:=by simp
      have he67:(H.next==H.next+67)=false:=by simp
      by_cases h4':op=4
      .subst h4'
       (refine Zm ?_;repeat'(first|(refine Zi fun _=>?_;try simp(disch:=first|exact Zw|fail)[*,Zz])|refine Zx ?_|refine Zn ?_ ?_))
       refine Yd false false [71] [75] [H.next+14] [73] false (by decide +kernel) ?_;rcases hwf with rfl | ⟨v0,n0,rfl⟩ | ⟨v0,n0,rfl⟩
       all_goals (refine Zm ?_;repeat'(first|(refine Zi fun _=>?_;try simp(disch:=first|exact Zw|fail)[*,Zz])|refine Zx ?_|refine Zn ?_ ?_))
       all_goals exact⟨_,by omega,i+1,rfl,by omega,by omega,by simpa using Zps.get,by simpa using Zpt.get,ins,P,vs,fs,hUf.get,Zpv.get,Z4t.get,A2.get,hfa.get⟩
      . (refine Zm ?_;repeat'(first|(refine Zi fun _=>?_;try simp(disch:=first|exact Zw|fail)[*,Zz])|refine Zx ?_|refine Zn ?_ ?_))
        refine Yd false false [71] [75] [H.next+14] [73] false (by decide +kernel) ?_;rcases hwf with rfl | ⟨v0,n0,rfl⟩ | ⟨v0,n0,rfl⟩
        all_goals (refine Zm ?_;repeat'(first|(refine Zi fun _=>?_;try simp(disch:=first|exact Zw|fail)[*,Zz])|refine Zx ?_|refine Zn ?_ ?_))
        all_goals exact⟨_,by omega,i+1,rfl,by omega,by omega,by simpa using Zps.get,by simpa using Zpt.get,ins,P,vs,fs,hUf.get,Zpv.get,Z4t.get,A2.get,hfa.get⟩
     |some p=>
      rw[hfd,Option.map_some]at hfs;have hb73:Nat.blt (H.next+14) (H.next+73)=true:=by rw[Nat.blt_eq];omega
      have he59:(H.next==H.next+59)=false:=by simp
      have he67:(H.next==H.next+67)=false:=by simp
      have h4':op≠4:=by
       rintro rfl;have:=c3.get;unfold Zap at this;rw[if_pos rfl,hfd]at this;cases this
      (refine Zm ?_;repeat'(first|(refine Zi fun _=>?_;try simp(disch:=first|exact Zw|fail)[*,Zz])|refine Zx ?_|refine Zn ?_ ?_))
      refine Yd false false [71] [75] [H.next+14] [73] false (by decide +kernel) ?_;rcases hwf with rfl | ⟨v0,n0,rfl⟩ | ⟨v0,n0,rfl⟩
      all_goals (refine Zm ?_;repeat'(first|(refine Zi fun _=>?_;try simp(disch:=first|exact Zw|fail)[*,Zz])|refine Zx ?_|refine Zn ?_ ?_))
      all_goals exact⟨_,by omega,i+1,rfl,by omega,by omega,by simpa using Zps.get,by simpa using Zpt.get,ins,P,vs,fs,hUf.get,Zpv.get,Z4t.get,A2.get,hfa.get⟩
    .obtain ⟨op,sort,name,num,kids⟩:=d;simp only at hfs c5 c6;subst c5
     have hfd:∃p,s.find? (fun p=>p.1==name)=some p/\p.2=s[k].2:=by
      unfold Zap at c3;rw[if_pos rfl,Option.map_eq_some_iff]at c3;exact c3
     obtain⟨p,hfd,hpk⟩:=hfd;rw[<- hpk]at c4;clear hpk c3 c6 c1 hk k;rw[hfd,Option.map_some]at hfs;obtain⟨trp,hT1,vp,_,_,_,_⟩:=Zdc hg.get hfd;have h54:=Zamj vp true;have hsr:=vp.sortL;have Zwg:Hide (((t.take (i+1)).map (rep s)).map Su=((t.take i).map (rep s)).map Su++[Su p.2]):=Hide.mk (by rw[htk,List.map_append,List.map_append,List.map_cons,List.map_nil,c4];rfl);have Zwf:Hide (((t.take (i+1)).filter (kbS s)).map Zv=((t.take i).filter (kbS s)).map Zv):=Hide.mk (by rw[Uq,c2];simp);have hfi:=Zwx ins name;have hnm:t[i].name=name:=by rw[htd]
     have X7:t[i].op=4:=by rw[htd]
     have hso:t[i].sort=sort:=by rw[htd]
     have hpl:((t.take i).map (rep s)).length<=20000:=by simp;omega
     obtain⟨wp2,h3,hap1,Zzk,Z8v,Zk0⟩:=(hAp.frame (h':=(h2.put (H.next+14) (h2.stamp (H.next+14)) (PO.cells [PV.int IntKind.i64 0,PV.int IntKind.i64 0,PV.str [],PV.str [],PV.int IntKind.i64 0])).put (H.next+14) (h2.stamp (H.next+14)) (PO.cells [PV.int IntKind.i64 4,PV.int IntKind.i64 sort,PV.str name,PV.str num,PV.int IntKind.i64 kids])) (fun d hd=>by simp at hd;rcases hd with rfl | rfl<;>simp)).app (dd:=81) (ys:=[Su p.2]) (T:={k:=.slice 58,size:=1,bytes:=24,zero:=[.slice none 0 0]}) (by simp) rfl (by simp only[List.length_map,List.length_cons,List.length_nil]at hpl ⊢;omega) (by decide) (by decide) (by simp);simp only[List.length_cons,List.length_nil]at hap1;have hs1:=hAp.same (n:=3);have hs3:=Zzk.same (n:=3)
     have e14:h3.get (H.next+14)=some (h2.stamp (H.next+14),.cells [.int .i64 4,.int .i64 sort,.str name,.str num,.int .i64 kids]):=by
      rw[Zk0 _ (by intro e he;simp at he;rcases he with rfl | rfl<;>simp)];simp
     have Znq:∀j,j≠H.next+14->j≠H.next+73->j≠H.next+81->h3.get j=h2.get j:=fun j a1 a2 a3=>by
      rw[Zk0 j (by intro e he;simp at he;rcases he with rfl | rfl;exact a2;exact a3)];simp[a1]
     have hUf:UM (H.next+111+4) Zc (H.next+111+1) va (H.next+111+2) vb vs fs h3:=U.frame (Znq _ (by omega) (by omega) (by omega)) (Znq _ (by omega) (by omega) (by omega)) (Znq _ (by omega) (by omega) (by omega)) (by rw[Z8v];simp);have Zpv:=(Znq (H.next+30) (by omega) (by omega) (by omega)).trans g30;have Z4t:=(Znq (H.next+44) (by omega) (by omega) (by omega)).trans g44
     have Zps:Pure.Acc [73,81] ⟨H.next,H.next,[]⟩ h3 23 wp2 (((t.take (i+1)).map (rep s)).map Su):=by
      rw[Zwg.get];exact Zzk
     have Zpt:Pure.Acc [77] ⟨H.next,H.next,[]⟩ h3 58 wk (((t.take (i+1)).filter (kbS s)).map Zv):=by
      rw[Zwf.get];exact hAk.frame fun d hd=>by simp at hd;subst hd;exact Znq _ (by show H.next+77≠_;omega) (by show H.next+77≠_;omega) (by show H.next+77≠_;omega)
     have hs2:=hAk.same (n:=3);replace Zps:=Hide.mk Zps;replace Zpt:=Hide.mk Zpt;replace hUf:=Hide.mk hUf;replace Zpv:=Hide.mk Zpv;clear Zzk Zk0 Znq hAp hAk U Zwg Zwf;by_cases W1:name∈ins
     .rw [if_pos W1]at hfi;have A2:=A.again v hg.get hlt X7 (by rw[hnm];exact W1);replace A2:=Hide.mk A2;replace hfa:=Hide.mk hfa;clear A c2 c4 htk Uq vp h54 hsr hfd W1
      (refine Zm ?_;repeat'(first|(refine Zi fun _=>?_;try simp(disch:=first|exact Zw|fail)[*,Zz])|refine Zx ?_|refine Zn ?_ ?_))
      exact⟨_,by omega,i+1,rfl,by omega,by omega,by simpa using Zps.get,by simpa using Zpt.get,ins,P,vs,fs,hUf.get,Zpv.get,rfl,A2.get,hfa.get⟩
     .rw [if_neg W1]at hfi;have hpi:=Z00 ins name W1;by_cases Znn:Ya trp=sort
      .have A2:=fun vs2 fs2 hr=>A.put (vs2:=vs2) (fs2:=fs2) v hg.get hlt X7 (by rw[hnm];exact W1) (by rw[hnm];exact hfd) (by rw[hsr,hso];exact Znn) hr
       have hbad:(W4 vs fs (Zal p.2)).1=false->V=([],3):=fun hr=>by
        rw[<- hV.get];exact Ze9 hN.get fun _=>A.badUse v hg.get hN.get hlt X7 (by rw[hnm];exact hfd) hr
       have Zwh:=Zjl (Zal p.2) vs fs hfa (fun u hu=>vp.args u (Zjj.1 hu));have h55:=fun (h2:PH) (U2:UM (H.next+111+4) Zc (H.next+111+1) va (H.next+111+2) vb vs fs h2) (K:Pure.Loc) a1 a2 a3=>Zaex vp true hfa U2 K a1 a2 a3
       rw[hnm]at A2;replace A2:=Hide.mk A2;replace hfa:=Hide.mk hfa;replace Zwh:=Hide.mk Zwh;replace hbad:=Hide.mk hbad;clear A c2 c4 htk Uq vp hsr hfd W1;generalize W4 vs fs (Zal p.2)=st at *;obtain⟨okk,vs2,fs2⟩:=st;subst Znn;have hb14:Nat.blt (H.next+14) h2.next=true:=by rw[Nat.blt_eq];omega
       have hU3:∀m,UM (H.next+111+4) Zc (H.next+111+1) va (H.next+111+2) vb vs fs (h3.put (H.next+44) v44 m):=fun m=>hUf.get.frame (by simp) (by simp) (by simp) (by simp)
       (refine Zm ?_;repeat'(first|(refine Zi fun _=>?_;try simp(disch:=first|exact Zw|fail)[*,Zz])|refine Zx ?_|refine Zn ?_ ?_))
       refine Yd false false [] [92] [H.next+14] [90] false (by decide +kernel) ?_
       (refine Zm ?_;repeat'(first|(refine Zi fun _=>?_;try simp(disch:=first|exact Zw|fail)[*,Zz,Pure.reach])|refine Zx ?_|refine Zn ?_ ?_))
       .rename_i ho
        have hAp4:∀m1 m2 m3,Pure.Acc [73,81] ⟨H.next,H.next,[]⟩ (((h3.put (H.next+44) v44 m1).put (H.next+111+1) va m2).put (H.next+111+2) vb m3) 23 wp2 (((t.take (i+1)).map (rep s)).map Su):=fun m1 m2 m3=>Zps.get.frame fun d hd=>by
         simp at hd;rcases hd with rfl | rfl<;>simp
        have hAk4:∀m1 m2 m3,Pure.Acc [77] ⟨H.next,H.next,[]⟩ (((h3.put (H.next+44) v44 m1).put (H.next+111+1) va m2).put (H.next+111+2) vb m3) 58 wk (((t.take (i+1)).filter (kbS s)).map Zv):=fun m1 m2 m3=>Zpt.get.frame fun d hd=>by
         simp at hd;subst hd;simp
        refine⟨_,by omega,i+1,rfl,by omega,by omega,by simpa using hAp4 _ _ _,by simpa using hAk4 _ _ _,ins++[name],P++Zal p.2,vs2,fs2,(hU3 _).put vs2 fs2,Zpv.get,by simp,A2.get vs2 fs2 (by rw[ho]),Zwh.get⟩
       .rename_i ho;have hVV:=hbad.get ho;subst hVV;simp[Wi]
      .have hVV:V=([],3):=by
        rw[<- hV.get];refine Ze9 hN.get fun hs=>absurd hs (PSt.badSort hlt X7 (by rw[hnm];exact hfd) ?_)
        rw[hsr,hso];exact Znn
       subst hVV;have hsb:(Ya trp==sort)=false:=by simpa using Znn
       clear A c2 c4 htk Uq vp hsr hfd W1;have hb14:Nat.blt (H.next+14) h2.next=true:=by rw[Nat.blt_eq];omega
       (refine Zm ?_;repeat'(first|(refine Zi fun _=>?_;try simp(disch:=first|exact Zw|fail)[*,Zz])|refine Zx ?_|refine Zn ?_ ?_))
       refine Yd false false [] [92] [H.next+14] [90] false (by decide +kernel) ?_
       (refine Zm ?_;repeat'(first|(refine Zi fun _=>?_;try simp(disch:=first|exact Zw|fail)[*,Zz,Wi,Pure.reach])|refine Zx ?_|refine Zn ?_ ?_))
   .have hit:i=t.length:=by omega
    subst hit;rw[List.take_length]at hAp hAk;have Za4:=A.done v hg.get hN.get;have hsok:=A.sortOk;have h57:=Zaa0 v b;have hKK:=Zph v (kbS s);have hkl:(t.filter (kbS s)).length<=t.length:=List.length_filter_le _ _
    have Uq:(W6 t).length < 2^29:=by
     have h1:=Zqh (Zy t) ([],[]);have h2:=Zd8 t;unfold W6 Vf;simp at h1;omega
    have hfar:∀g∈W6 t,g.args.length < 2^30:=fun g hgm=>v.args g (Zj9.1 hgm).1
    have hapE:(t.map (rep s)).flatten=Sa s t:=by unfold Sa;rw[List.flatMap_def]
    have hVV:∀c,Yz (Zd1 t s)=c->V=if c then Zvw (t.map (rep s)) else ([],3):=fun c hc=>by
     rw[<- hV.get];cases c with
     |false=>exact Ze9 hN.get fun _=>hc
     |true=>rw[Zxi v hg.get hN.get hsok hc];simp only[Zvw,hapE,if_true]
    have Yi:(t.map (rep s)).flatten≠[]:=by
     intro e;rw[List.flatten_eq_nil_iff]at e;have hn:=v.ne;have h1:=e (rep s t[0]) (List.mem_map.2 ⟨t[0],List.getElem_mem hn,rfl⟩);rcases Re s t[0]with⟨_,_,_,e2⟩ | ⟨k,hk,_,_,_,e2,_⟩
     .rw [e2]at h1;cases h1
     .rw [e2]at h1;obtain⟨_,_,trk,vk⟩:=hg.get s[k] (List.getElem_mem hk);have:=vk.ne;rw[h1]at this;simp at this
    have hpp:∀p∈t.map (rep s),p.length<=20000:=by
     intro p hp;obtain⟨n,_,rfl⟩:=List.mem_map.1 hp;rcases Re s n with⟨_,_,_,e2⟩ | ⟨k,hk,_,_,_,e2,_⟩
     .rw [e2];simp
     .rw [e2];obtain⟨_,_,trk,vk⟩:=hg.get s[k] (List.getElem_mem hk);exact vk.len
    have h58:=Zami true (t.map (rep s)) Yi (by simp;omega) hpp Te.get
    have hc56:∃h5,Yv vE {base:=H.next,lo:=H.next,ok:=[]} 56 [.ptr (H.next+111+4) Zc 0,wk,L 155 true ((Vf (Zy t)).2.map Y7)] h2=some (.bool (Yz (Zd1 t s)),h5)/\∀j,j≠H.next+111+4->j≠H.next+111+1->j≠H.next+111+2->j≠H.next+77->h5.get j=h2.get j:=by
     rcases hAk with⟨e0,rfl⟩ | ⟨d,Zb1,Zns,hd,rfl,hgk⟩
     .obtain ⟨h5,hc,ho⟩:=Zaaf (t.filter (kbS s)) true (W6 t) hKK (by omega) Uq hfar hfa U {base:=H.next,lo:=H.next,ok:=[]} (by simp;omega) (by simp;omega) (by simp;omega);rw[Za4,e0]at hc;exact⟨h5,hc,fun j a1 a2 a3 _=>ho j a1 a2 a3⟩
     .simp only [List.mem_singleton]at hd;subst hd;rw[List.length_map];obtain⟨h5,hc,ho⟩:=Zaag (t.filter (kbS s)) (W6 t) hKK (by omega) Uq hfar hfa U hgk (by show H.next+77≠_;omega) (by show H.next+77≠_;omega) (by show H.next+77≠_;omega) {base:=H.next,lo:=H.next,ok:=[]} (by simp;omega) (by simp;omega) (by simp;omega) (by simp);rw[Za4]at hc;exact⟨h5,hc,fun j a1 a2 a3 a4=>ho j a1 a2 a3 a4⟩
    obtain⟨h5,hc56,Z8t⟩:=hc56;have hAp5:=hAp.frame (h':=h5) (fun d hd=>Z8t _ (by simp at hd;rcases hd with rfl | rfl<;>show H.next+_≠_<;>omega) (by simp at hd;rcases hd with rfl | rfl<;>show H.next+_≠_<;>omega) (by simp at hd;rcases hd with rfl | rfl<;>show H.next+_≠_<;>omega) (by simp at hd;rcases hd with rfl | rfl<;>show H.next+_≠_<;>omega));cases hcl:Yz (Zd1 t s) with
    |false=>
     rw[hcl]at hc56;have hv:=hVV false hcl;simp only[Bool.false_eq_true,if_false]at hv;subst hv;clear hVV Za4 hsok hKK hfar Yi hpp h58 Z8t hAp5 hAp hAk A U hcl Te hfa
     (refine Zm ?_;repeat'(first|(refine Zi fun _=>?_;try simp(disch:=first|exact Zw|fail)[*,Zz,Wi])|refine Zx ?_|refine Zn ?_ ?_))
    |true=>
     rw[hcl]at hc56;have hv:=hVV true hcl;simp only[if_true]at hv;rw[<- hv]at h58;obtain⟨x,e⟩:=V;have hc58:=hAp5.callT (C:=vE) (f:=58) rfl rfl [] [] h58 (Zlc x e) (Zac6 x e) rfl rfl;simp only[List.nil_append]at hc58;clear hVV Za4 hsok hKK hfar Yi hpp h58 Z8t hAp5 hAp hAk A U hcl Te hfa hv
     (refine Zm ?_;repeat'(first|(refine Zi fun _=>?_;try simp(disch:=first|exact Zw|fail)[*,Zz])|refine Zx ?_|refine Zn ?_ ?_))
 .rw [decide_eq_false (hnm ▸ hN)]at h51;clear hnm;unfold Yo at hV;rw[if_pos hN]at hV;subst hV;clear hN hg;intro K H;refine Wc Tryz.func16 ?_
  (refine Zm ?_;repeat'(first|(refine Zi fun _=>?_;try simp(disch:=first|exact Zw|fail)[*,Zz,Tryz.f16,Wi])|refine Zx ?_|refine Zn ?_ ?_))
end Go.Proofs.YtabcdhcpilpojaaGreatDoor
end
