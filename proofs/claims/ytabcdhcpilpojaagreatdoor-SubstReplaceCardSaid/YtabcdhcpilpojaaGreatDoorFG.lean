/- Terms as trees: well-formed trees, their uses, substitution. -/
import Derived.Test.YtabcdhcpilpojaaGreatDoorFF
import Derived.Test.YtabcdhcpilpojaaGreatDoorPD
import Derived.Test.YtabcdhcpilpojaaGreatDoorFC
set_option linter.unusedSimpArgs false
set_option linter.unusedVariables false
section
set_option maxRecDepth 20000
namespace Go.Proofs.YtabcdhcpilpojaaGreatDoor
open Go Go.Pure
open Go.Virt (Ex Ctx Ty TK)
mutual
def WF:Tr->Prop
 | .mk op sort name num ks=>Wa op sort name num=true/\Yz op (ks.length:Int)=true/\WFs ks
def WFs:List Tr->Prop
 | []=>True
 |k::r=>WF k/\WFs r
end
theorem Zlw:∀ {ks:List Tr},WFs ks↔∀k∈ks,WF k
 | []=>by simp[WFs]
 |k::r=>by simp[WFs,Zlw (ks:=r)]
theorem Zpy {p:List Nd->Option (Tr×List Nd)}(hp:∀r t r',p r=some (t,r')->r=flat t++r'/\WF t):∀ {k:Nat} {r r':List Nd} {ts:List Tr},many p k r=some (ts,r')->r=Yl ts++r'/\WFs ts/\ts.length=k
 | 0,r,r',ts,h=>by
   simp only[many,Option.some.injEq,Prod.mk.injEq]at h;obtain⟨rfl,rfl⟩:=h;exact⟨rfl,trivial,rfl⟩
 |k+1,r,r',ts,h=>by
  simp only[many]at h;split at h
  .cases h
  .rename_i t1 r1 h1;split at h
   .cases h
   .rename_i us r2 h2;cases h;obtain⟨e1,w1⟩:=hp _ _ _ h1;obtain⟨e2,w2,l2⟩:=Zpy hp h2;refine⟨?_,⟨w1,w2⟩,by simp[l2]⟩;rw[e1,e2];simp[Yl]
theorem Zsq {op n:Int}(h:Yz op n=true):0<=n:=by
 unfold Yz at h;split at h
 .simp at h;omega
 .split at h
  .simp at h;omega
  .split at h
   .simp at h;omega
   .split at h
    .simpa using h
    .split at h
     .simp at h;omega
     .split at h
      .simp at h;omega
      .simp at h;omega
theorem Zmn:∀ {d:Nat} {r r':List Nd} {t:Tr},Zg d r=some (t,r')->r=flat t++r'/\WF t
 | 0,r,r',t,h=>by simp[Zg]at h
 |d+1,[],r',t,h=>by simp[Zg]at h
 |d+1,n::r,r',t,h=>by
  simp only[Zg]at h;split at h
  .rename_i hc;rw[Bool.and_eq_true]at hc;split at h
   .cases h
   .rename_i ks r1 h1;cases h;obtain⟨e,w,l⟩:=Zpy (fun _ _ _ hh=>Zmn hh) h1
    have hk:(ks.length:Int)=n.kids:=by
     have:=Zsq hc.2;rw[l];omega
    obtain⟨op,sort,name,num,kids⟩:=n;simp only at hk hc;subst hk;refine⟨?_,hc.1,hc.2,w⟩;rw[e];simp[flat]
  .cases h
mutual
theorem Ug:∀(t:Tr) (d:Nat) (r:List Nd),WF t->Yq t<=d->Zg d (flat t++r)=some (t,r)
 | .mk op sort name num ks,d,r,hw,hd=>by
   cases d with
   |zero=>rw[Yq]at hd;omega
   |succ d=>
    rw[Yq]at hd;rw[WF]at hw;have h1:=Zbj ks d r hw.2.2 (by omega);simp only[flat,List.cons_append,Zg,hw.1,hw.2.1,Bool.and_self,if_true,Int.toNat_natCast,h1]
theorem Zbj:∀(ks:List Tr) (d:Nat) (r:List Nd),WFs ks->Ys ks<=d->many (Zg d) ks.length (Yl ks++r)=some (ks,r)
 | [],d,r,hw,hd=>by simp[many,Yl]
 |k::ks,d,r,hw,hd=>by
  rw[Ys]at hd;rw[WFs]at hw;have h1:=Ug k d (Yl ks++r) hw.1 (by omega);have h2:=Zbj ks d r hw.2 (by omega);simp only[Yl,List.length_cons,many,List.append_assoc,h1,h2]
end
def Zt0 (op sort:Int)(name:Y9)(ks:List Tr):List Use:=if op=4 then [⟨false,name,[],sort⟩] else if op=5 then [⟨true,name,Ym ks,sort⟩] else []
mutual
def R2:Tr->List Use
 | .mk op sort name num ks=>Zt0 op sort name ks++Q9 ks
def Q9:List Tr->List Use
 | []=>[]
 |k::r=>R2 k++Q9 r
end
mutual
theorem Zpi:∀(t:Tr) (r:List Nd),WF t->Yq t<=258->Ya (flat t++r)=R2 t++Ya r
 | .mk op sort name num ks,r,hw,hd=>by
   rw[Yq]at hd;rw[WF]at hw;have h1:=Zl0 ks r hw.2.2 (by omega);have h2:=Zbj ks 257 r hw.2.2 (by omega);simp only[flat,List.cons_append,Ya,Xl,Int.toNat_natCast,h2,h1,R2,Zt0,List.append_assoc]
theorem Zl0:∀(ks:List Tr) (r:List Nd),WFs ks->Ys ks<=257->Ya (Yl ks++r)=Q9 ks++Ya r
 | [],r,hw,hd=>by simp[Yl,Q9]
 |k::ks,r,hw,hd=>by
  rw[Ys]at hd;rw[WFs]at hw;have h1:=Zpi k (Yl ks++r) hw.1 (by omega);have h2:=Zl0 ks r hw.2 (by omega);simp only[Yl,Q9,List.append_assoc,h1,h2]
end
theorem Zf7 {t:Tr}(hw:WF t)(hd:Yq t<=258):Ya (flat t)=R2 t:=by
 have:=Zpi t [] hw hd;simpa[Ya]using this
theorem Z62 {sort:Int}{name num:Y9}{ks:List Tr}(h:WF (.mk 3 sort name num ks)):ks=[]:=by
 rw[WF]at h;have:=h.2.1;simp[Yz]at this;exact this
theorem Z2u {op sort a b:Int}{l:List Int}(h:op≠15\/a=b):Wz op sort a l=Wz op sort b l:=by
 rcases h with h | h
 .simp only [Wz,h,if_false]
 .rw [h]
theorem Zach {sort a:Int}{l:List Int}(h:0 < Wz 15 sort a l):a=3:=by
 by_cases h3:a=3
 .exact h3
 .simp [Wz,h3]at h
def Zzp:List Nat->List Nat
 | []=>[]
 |k::r=>(k - 1)::r
def Zhj (st:List Nat):List Nat:=st.dropWhile (fun k=>k==0)
def Tk:List Nat->List Nd->Bool
 | _,[]=>false
 |st,n::r=>if 256 < (Zhj st).length then true else Tk (n.kids.toNat::Zzp (Zhj st)) r
theorem Z4s (st:List Nat)(r:List Nd):Tk (0::st) r=Tk st r:=by
 cases r with
 |nil=>rfl
 |cons n r=>
  have:Zhj (0::st)=Zhj st:=by simp[Zhj]
  simp only[Tk,this]
theorem Zpp {st:List Nat}(h:st.head?≠some 0):Zhj st=st:=by
 cases st with
 |nil=>rfl
 |cons k r=>
  have:k≠0:=by simpa using h
  simp[Zhj,List.dropWhile_cons,this]
mutual
theorem Zqr:∀(t:Tr) (st:List Nat) (r:List Nd),st.head?≠some 0->Tk st (flat t++r)=(decide (256 < st.length+(Yq t - 1))||Tk (Zzp st) r)
 | .mk op sort name num ks,st,r,hn=>by
   simp only[flat,List.cons_append,Tk,Zpp hn,Yq,Nat.add_sub_cancel,Int.toNat_natCast];have h1:=Zn4 ks (Zzp st) r;by_cases hl:256 < st.length
   .rw [if_pos hl,decide_eq_true (by omega)];rfl
   .rw [if_neg hl,h1];have hd:(Zzp st).length=st.length:=by cases st<;>rfl
    rw[hd];cases ks with
    |nil=>
     have:decide (256 < st.length+Ys [])=false:=by rw[Ys,decide_eq_false_iff_not];omega
     rw[this];simp
    |cons k ks=>simp
theorem Zn4:∀(ks:List Tr) (st:List Nat) (r:List Nd),Tk (ks.length::st) (Yl ks++r)=((!ks.isEmpty&&decide (256 < st.length+Ys ks))||Tk st r)
 | [],st,r=>by simp[Yl,Z4s]
 |k::ks,st,r=>by
  have h1:=Zqr k ((ks.length+1)::st) (Yl ks++r) (by simp);have h2:=Zn4 ks st r;have hk:0 < Yq k:=by cases k;rw[Yq];omega
  have hd:Ys (k::ks)=max (Yq k) (Ys ks):=by rw[Ys]
  rw[hd];simp only[Yl,List.append_assoc,List.length_cons,h1,Zzp,Nat.add_sub_cancel,h2,List.isEmpty_cons,Bool.not_false,Bool.true_and];rw[<- Bool.or_assoc];congr 1;cases ks with
  |nil=>
   have h0:Ys []=0:=by rw[Ys]
   rw[h0];simp only[List.isEmpty_nil,Bool.not_true,Bool.false_and,Bool.or_false];exact decide_eq_decide.2 (by omega)
  |cons a b=>
   simp only[List.isEmpty_cons,Bool.not_false,Bool.true_and];rw[Bool.eq_iff_iff];simp only[Bool.or_eq_true,decide_eq_true_eq];omega
end
theorem Z4t (t:Tr):Tk [] (flat t)=decide (257 < Yq t):=by
 have h:=Zqr t [] [] (by simp);have hk:0 < Yq t:=by cases t;rw[Yq];omega
 rw[List.append_nil]at h;rw[h];simp only[Tk,List.length_nil,Bool.or_false,decide_eq_decide];omega
theorem VT.short {t:List Nd}{tr:Tr}(v:VT t tr):∀n∈t,n.Short:=v.good.short
theorem VT.sortL {t:List Nd}{tr:Tr}(v:VT t tr):Go.Proofs.YtabcdhcpilpojaaGreatDoor.sortL t=Zl tr:=by
 unfold Go.Proofs.YtabcdhcpilpojaaGreatDoor.sortL;rw[if_neg (by have:=v.len;omega),v.parse];have:Yv (Ya t)=true:=by unfold Yv;rw[decide_eq_true_eq];exact v.clean
 simp only[this,if_true]
theorem VT.ans59 {t:List Nd}{tr:Tr}(v:VT t tr)(b:Bool):Xq vE 59 [L 58 b (t.map Zo)] (.bool true):=by
 have h:=Zsu b t v.short (by have:=v.len;omega);have hp:=v.pos;rw[v.sortL,decide_eq_true hp]at h;exact h
theorem VT.ans34 {t:List Nd}{tr:Tr}(v:VT t tr)(b:Bool):Xq vE 34 [L 58 b (t.map Zo)] (.int .i64 (Zl tr)):=by
 have h:=Zzw b t v.short (by have:=v.len;omega);rw[v.sortL]at h;exact h
def Zbt (vs:List Use)(x:Y9)(s:Int):Bool:=vs.any fun u=>u.name==x&&u.sort==s
theorem Zafx (b:Bool)(l:List Use)(n:Nd)(hl:l.length < 2^62):Xq vE 112 [L 69 b (l.map Wi),Zo n] (.bool (Zbt l n.name n.sort)):=by
 intro K H;refine Wc Tryz.func112 ?_
 (refine Zm ?_;repeat'(first|(refine Zi fun _=>?_;try simp(disch:=first|exact Zq|fail)[*,Yb,Tryz.f112])|refine Ye ?_|refine Zx ?_|refine Zn ?_ ?_))
 generalize hv3:H.stamp (H.next+3)=v3;refine Zv [0,3] (fun m sl h=>∃i:Nat,m=l.length - i/\i<=l.length/\sl 5=some (.int .i64 i)/\h.get (H.next+3)=some (v3,.cells [.int .i64 n.op,.int .i64 n.sort,.str n.name,.str n.num,.int .i64 n.kids])/\Zbt l n.name n.sort=Zbt (l.drop i) n.name n.sort) l.length rfl ⟨0,by simp[*]⟩ ?_;rintro m sl h hf ⟨i,hm,hi,h5,hg,hd⟩;simp at hf;by_cases hlt:i < l.length
 .rw [List.drop_eq_getElem_cons hlt]at hd;generalize hli:l[i]=u at *;obtain⟨fn,nm,ars,so⟩:=u;have Sk:nm≠n.name->(nm==n.name)=false:=fun h=>by simpa using h
  have hb2:so≠n.sort->(so==n.sort)=false:=fun h=>by simpa using h
  by_cases h1:nm=n.name
  .by_cases h2:so=n.sort
   .have e:Zbt l n.name n.sort=true:=by rw[hd];simp[Zbt,h1,h2]
    rw[e];clear hd e Sk hb2
    (simp(disch:=first|exact Zw|fail)[*,Yd])
    refine Yw false false [] [16,25] [H.next+3] [] false (by decide +kernel) ?_
    (refine Zm ?_;repeat'(first|(refine Zi fun _=>?_;try simp(disch:=first|exact Zw|fail)[*,Yd])|refine Zx ?_|refine Zn ?_ ?_))
   .have e:Zbt l n.name n.sort=Zbt (l.drop (i+1)) n.name n.sort:=by rw[hd];simp[Zbt,h1,h2]
    clear hd Sk;replace hb2:=hb2 h2;replace e:=Hide.mk e
    (simp(disch:=first|exact Zw|fail)[*,Yd])
    refine Yw false false [] [16,25] [H.next+3] [] false (by decide +kernel) ?_
    (refine Zm ?_;repeat'(first|(refine Zi fun _=>?_;try simp(disch:=first|exact Zw|fail)[*,Yd])|refine Zx ?_|refine Zn ?_ ?_))
    exact⟨_,by omega,i+1,rfl,by omega,by omega,e.get⟩
  .have e:Zbt l n.name n.sort=Zbt (l.drop (i+1)) n.name n.sort:=by rw[hd];simp[Zbt,h1]
   clear hd hb2;replace Sk:=Sk h1;replace e:=Hide.mk e
   (simp(disch:=first|exact Zw|fail)[*,Yd])
   refine Yw false false [] [16,25] [H.next+3] [] false (by decide +kernel) ?_
   (refine Zm ?_;repeat'(first|(refine Zi fun _=>?_;try simp(disch:=first|exact Zw|fail)[*,Yd])|refine Zx ?_|refine Zn ?_ ?_))
   exact⟨_,by omega,i+1,rfl,by omega,by omega,e.get⟩
 .have e:l.drop i=[]:=by simp;omega
  rw[e]at hd;replace hd:Zbt l n.name n.sort=false:=hd;rw[hd];clear e hd
  (refine Zm ?_;repeat'(first|(refine Zi fun _=>?_;try simp(disch:=first|exact Zw|fail)[*,Yd])|refine Zx ?_|refine Zn ?_ ?_))
structure UR (p Zc:Nat)(vs fs:List Use)(lv lf:List Nat)(h:PH):Prop where
 ex:∃v f,h.get p=some (Zc,.cells [v,f])/\Own h 69 v (vs.map Wi) lv/\Own h 155 f (fs.map Y8) lf
 pv:p∉lv
 pf:p∉lf
 vf:∀i∈lv,i∉lf
 lp:p < h.next
 ltv:∀i∈lv,i < h.next
 ltf:∀i∈lf,i < h.next
theorem _root_.Go.Pure.Own.refsO {h:PH}{g:Nat}{v:PV}{xs:List PV}{l:List Nat}(hA:Own h g v xs l):∀i∈l,∀Zc o,h.get i=some (Zc,o)->Pure.refsO o=[]:=by
 rcases hA with⟨rfl,rfl,rfl⟩ | ⟨i,Zc,Yp,rfl,hg,rfl⟩
 .simp
 .intro j hj ver' o e;simp only[List.mem_singleton]at hj;subst hj;rw[hg]at e;cases e;rfl
theorem Zx6 {h:PH}{l:List Nat}(h0:∀i∈l,∀Zc o,h.get i=some (Zc,o)->Pure.refsO o=[])(n:Nat):Pure.reach h (n+2) l=l:=by
 cases l with
 |nil=>rfl
 |cons a l=>
  rw[Pure.reach]
  .rw [List.flatMap_eq_nil_iff.2]
   .simp [Pure.reach]
   .intro i hi;cases e:h.get i with
    |none=>rfl
    |some x=>
     obtain⟨Zc,o⟩:=x;exact h0 i hi Zc o e
  .simp
theorem UR.reach {p Zc:Nat}{vs fs:List Use}{lv lf:List Nat}{h:PH}(U:UR p Zc vs fs lv lf h):Pure.reach h 4 [p]=p::(lv++lf):=by
 obtain⟨v,f,h1,h2,h3⟩:=U.ex
 have e1:Pure.refsO (.cells [v,f])=lv++lf:=by
  simp only[Pure.refsO,List.flatMap_cons,List.flatMap_nil,List.append_nil,h2.refs,h3.refs]
 have e2:Pure.reach h 3 (lv++lf)=lv++lf:=Zx6 (fun i hi=>(List.mem_append.1 hi).elim (h2.refsO i) (h3.refsO i)) 1;simp only[Pure.reach,List.flatMap_cons,List.flatMap_nil,h1,List.append_nil,e1];rw[show Pure.reach h 3 (lv++lf)=lv++lf from e2];rfl
theorem _root_.Go.Pure.Own.some {h:PH}{g:Nat}{v:PV}{xs:List PV}{l:List Nat}(hA:Own h g v xs l):∀i∈l,(h.get i).isSome=true:=by
 rcases hA with⟨rfl,rfl,rfl⟩ | ⟨i,Zc,Yp,rfl,hg,rfl⟩
 .simp
 .simp [hg]
theorem UR.some {p Zc:Nat}{vs fs:List Use}{lv lf:List Nat}{h:PH}(U:UR p Zc vs fs lv lf h):∀i∈p::(lv++lf),(h.get i).isSome=true:=by
 obtain⟨v,f,h1,h2,h3⟩:=U.ex;intro i hi;simp only[List.mem_cons,List.mem_append]at hi;rcases hi with rfl | hi | hi
 .rw [h1];rfl
 .exact h2.some i hi
 .exact h3.some i hi
theorem UR.frame {p Zc:Nat}{vs fs:List Use}{lv lf:List Nat}{h h':PH}(U:UR p Zc vs fs lv lf h)(hg:∀i∈p::(lv++lf),h'.get i=h.get i)(hn:h.next<=h'.next):UR p Zc vs fs lv lf h':=by
 obtain⟨v,f,h1,h2,h3⟩:=U.ex;exact⟨⟨v,f,by rw[hg p (by simp),h1],h2.frame fun i hi=>hg i (by simp[hi]),h3.frame fun i hi=>hg i (by simp[hi])⟩,U.pv,U.pf,U.vf,by have:=U.lp;omega,fun i hi=>by have:=U.ltv i hi;omega,fun i hi=>by have:=U.ltf i hi;omega⟩
theorem _root_.Go.Pure.Own.belowC {h:PH}{g m:Nat}{v:PV}{xs:List PV}{l:List Nat}(hA:Own h g v xs l):Pure.below m 3 v=l.all fun i=>Nat.blt i m:=by
 rcases hA with⟨rfl,rfl,rfl⟩ | ⟨i,Zc,Yp,rfl,hg,rfl⟩
 .rfl
 .simp [Pure.below]
theorem _root_.Go.Pure.Own.belowAt {h:PH}{g m:Nat}{v:PV}{xs:List PV}{l:List Nat}(hA:Own h g v xs l):∀i∈l,h.belowAt m i=true:=by
 rcases hA with⟨rfl,rfl,rfl⟩ | ⟨i,Zc,Yp,rfl,hg,rfl⟩
 .simp
 .simp [PH.belowAt,hg,Wj]
theorem UR.settle {p Zc:Nat}{vs fs:List Use}{lv lf Rg Rh:List Nat}{h h2:PH}(U:UR p Zc vs fs lv lf h2)(hp:p < h.next)(h0v:∀i∈Rg,i < h.next)(h0f:∀i∈Rh,i < h.next)(hb:h.belowAt h.next p=true)(hv:lv=Rg\/Rg=[]/\∃i,lv=[i]/\h.next<=i)(hf:lf=Rh\/Rh=[]/\∃i,lf=[i]/\h.next<=i):
  ((p::(Rg++Rh)).all (fun i=>h2.belowAt h.next i)=true/\lv=Rg/\lf=Rh)\/(p::(Rg++Rh)).any (fun i=>!(h2.belowAt h.next i)&&h.belowAt h.next i)=true:=by
 obtain⟨v,f,h1,h2',h3⟩:=U.ex
 have hbp:h2.belowAt h.next p=(lv.all (fun i=>Nat.blt i h.next)&&lf.all fun i=>Nat.blt i h.next):=by
  simp only[PH.belowAt,h1,Wj,List.all_cons,List.all_nil,Bool.and_true,h2'.belowC,h3.belowC]
 have Zar:(lv.all (fun i=>Nat.blt i h.next)&&lf.all fun i=>Nat.blt i h.next)=false->(p::(Rg++Rh)).any (fun i=>!(h2.belowAt h.next i)&&h.belowAt h.next i)=true:=fun e=>by
  rw[List.any_eq_true];exact⟨p,by simp,by rw[hbp,e,hb];rfl⟩
 rcases hv with rfl | ⟨_,i,rfl,hi⟩
 .rcases hf with rfl | ⟨_,i,rfl,hi⟩
  .refine .inl ⟨?_,rfl,rfl⟩;rw[List.all_eq_true];intro i hi;simp only[List.mem_cons,List.mem_append]at hi;rcases hi with rfl | hi | hi
   .rw [hbp,Bool.and_eq_true,List.all_eq_true,List.all_eq_true];exact⟨fun i hi=>by rw[Nat.blt_eq];exact h0v i hi,fun i hi=>by rw[Nat.blt_eq];exact h0f i hi⟩
   .exact h2'.belowAt i hi
   .exact h3.belowAt i hi
  .right;apply Zar;have:Nat.blt i h.next=false:=by rw[<- Bool.not_eq_true,Nat.blt_eq];omega
   simp[this]
 .right;apply Zar;have:Nat.blt i h.next=false:=by rw[<- Bool.not_eq_true,Nat.blt_eq];omega
  simp[this]
def Rc (s:List Use×List Use)(u:Use):List Use×List Use:=if u.fn then (s.1,s.2++[u]) else (if Zbt s.1 u.name u.sort then s.1 else s.1++[u],s.2)
def X2:List Nd->List Bool->List Use
 |n::r,k::ks=>(if k then Xl n r else [])++X2 r ks
 | _,_=>[]
theorem Zb9 {t:List Nd}{ks:List Bool}{i:Nat}(hl:ks.length=t.length)(hi:i < t.length):X2 (t.drop i) (ks.drop i)=(if ks[i]'(by omega) then Xl t[i] (t.drop (i+1)) else [])++X2 (t.drop (i+1)) (ks.drop (i+1)):=by
 rw[List.drop_eq_getElem_cons hi,List.drop_eq_getElem_cons (by omega:i < ks.length)];rfl
theorem Z7h (t:List Nd):X2 t (List.replicate t.length true)=Ya t:=by
 induction t with
 |nil=>rfl
 |cons n r ih=>simp[X2,Ya,List.replicate_succ,ih]
structure AddI (t:List Nd)(ks:List Bool)(p Zc:Nat)(s0:List Use×List Use)(Rg Rh:List Nat)(hb h0:PH)(i:Nat)(vs fs:List Use)(lv lf:List Nat)(h:PH):Prop where
 u:UR p Zc vs fs lv lf h
 run:(X2 (t.drop i) (ks.drop i)).foldl Rc (vs,fs)=(X2 t ks).foldl Rc s0
 v:lv=Rg\/Rg=[]/\lv=[hb.next+57]
 f:lf=Rh\/Rh=[]/\lf=[hb.next+71]
 old:∀j,j < hb.next->j∉p::(Rg++Rh)->h.get j=h0.get j
 next:hb.next+74<=h.next
 nv:vs.length<=s0.1.length+i
 nf:fs.length<=s0.2.length+i
 fa:∀g∈fs,g.args.length < 2^30
theorem AddI.var {t:List Nd}{ks:List Bool}{p Zc:Nat}{s0:List Use×List Use}{Rg Rh:List Nat}{hb h0:PH}{i:Nat}{vs fs:List Use}{lv lf l':List Nat}{h h':PH}{u:Use}{wv wf v':PV}(I:AddI t ks p Zc s0 Rg Rh hb h0 i vs fs lv lf h)(hks:ks.length=t.length)(hi:i < t.length)(hk:ks[i]'(by omega)=true)
  (hu:Xl t[i] (t.drop (i+1))=[u]) (Qi:u.fn=false) (hh:Zbt vs u.name u.sort=false) (hp:p < hb.next) (hv0:∀i∈Rg,i < hb.next) (hf0:∀i∈Rh,i < hb.next) (hF:Own h 155 wf (fs.map Y8) lf) (hA:Own h' 69 v' (vs.map Wi++[Wi u]) l') (hl:l'=lv\/lv=[]/\l'=[hb.next+57]) (hn:h'.next=h.next)
  (Zk:∀j,j∉l'->h'.get j=h.get j):AddI t ks p Zc s0 Rg Rh hb h0 (i+1) (vs++[u]) fs l' lf (h'.put p Zc (.cells [v',wf])):=by
 have hv:l'=Rg\/Rg=[]/\l'=[hb.next+57]:=by
  rcases hl with rfl | ⟨rfl,rfl⟩
  .exact I.v
  .rcases I.v with e | ⟨_,e⟩
   .exact .inr ⟨e.symm,rfl⟩
   .cases e
 have hpl:p∉l':=by
  rcases hv with rfl | ⟨_,rfl⟩
  .rcases I.v with e | ⟨e,_⟩
   .rw [<- e];exact I.u.pv
   .rw [e];simp
  .simp only [List.mem_singleton];omega
 have Zy3:∀j∈l',j∉lf:=by
  intro j hj hjf
  have hjf':j∈Rh\/j=hb.next+71:=by
   rcases I.f with e | ⟨_,e⟩
   .rw [e]at hjf;exact .inl hjf
   .rw [e]at hjf;simp at hjf;exact .inr hjf
  rcases hl with rfl | ⟨rfl,rfl⟩
  .exact I.u.vf j hj hjf
  .simp only [List.mem_singleton]at hj;subst hj;rcases hjf' with h1 | h1
   .have:=hf0 _ h1;omega
   .omega
 refine⟨⟨⟨v',wf,by simp,?_,?_⟩,hpl,I.u.pf,Zy3,?_,?_,?_⟩,?_,hv,I.f,?_,?_,?_,?_,I.fa⟩
 .rw [List.map_append,List.map_cons,List.map_nil]
  exact hA.frame fun j hj=>by
   have:j≠p:=fun e=>hpl (e ▸ hj)
   simp[this]
 .exact hF.frame fun j hj=>by
   have h1:j≠p:=fun e=>I.u.pf (e ▸ hj)
   have h2:j∉l':=fun e=>Zy3 j e hj
   simp[h1,Zk j h2]
 .have:=I.u.lp;simp[hn];omega
 .intro j hj;have Sj:=I.next
  have:j < hb.next+74:=by
   rcases hv with rfl | ⟨_,rfl⟩
   .have:=hv0 j hj;omega
   .simp at hj;omega
  simp[hn];omega
 .intro j hj;have:=I.u.ltf j hj;simp[hn];omega
 .have hr:=I.run;rw[Zb9 hks hi,hk,if_pos rfl,hu,List.singleton_append,List.foldl_cons]at hr;rw[<- hr];congr 1;simp[Rc,Qi,hh]
 .intro j hj hjn;have h1:j≠p:=fun e=>hjn (by simp[e])
  have h2:j∉l':=by
   rcases hv with rfl | ⟨_,rfl⟩
   .exact fun e=>hjn (by simp[e])
   .simp;omega
  simp only[Zgd,if_neg h1];rw[Zk j h2];exact I.old j hj hjn
 .have:=I.next;simp[hn];omega
 .have:=I.nv;simp;omega
 .have:=I.nf;omega
theorem AddI.fn {t:List Nd}{ks:List Bool}{p Zc:Nat}{s0:List Use×List Use}{Rg Rh:List Nat}{hb h0:PH}{i:Nat}{vs fs:List Use}{lv lf l':List Nat}{h h':PH}{u:Use}{wv wf v':PV}(I:AddI t ks p Zc s0 Rg Rh hb h0 i vs fs lv lf h)(hks:ks.length=t.length)(hi:i < t.length)(hk:ks[i]'(by omega)=true)
  (hu:Xl t[i] (t.drop (i+1))=[u]) (Qi:u.fn=true) (hua:u.args.length < 2^30) (hp:p < hb.next) (hv0:∀i∈Rg,i < hb.next) (hf0:∀i∈Rh,i < hb.next) (hV:Own h 69 wv (vs.map Wi) lv) (hA:Own h' 155 v' (fs.map Y8++[Y8 u]) l') (hl:l'=lf\/lf=[]/\l'=[hb.next+71]) (hn:h'.next=h.next)
  (Zk:∀j,j∉l'->h'.get j=h.get j):AddI t ks p Zc s0 Rg Rh hb h0 (i+1) vs (fs++[u]) lv l' (h'.put p Zc (.cells [wv,v'])):=by
 have hv:l'=Rh\/Rh=[]/\l'=[hb.next+71]:=by
  rcases hl with rfl | ⟨rfl,rfl⟩
  .exact I.f
  .rcases I.f with e | ⟨_,e⟩
   .exact .inr ⟨e.symm,rfl⟩
   .cases e
 have hpl:p∉l':=by
  rcases hv with rfl | ⟨_,rfl⟩
  .rcases I.f with e | ⟨e,_⟩
   .rw [<- e];exact I.u.pf
   .rw [e];simp
  .simp only [List.mem_singleton];omega
 have Zy3:∀j∈lv,j∉l':=by
  intro j hjf hj
  have hjf':j∈Rg\/j=hb.next+57:=by
   rcases I.v with e | ⟨_,e⟩
   .rw [e]at hjf;exact .inl hjf
   .rw [e]at hjf;simp at hjf;exact .inr hjf
  rcases hl with rfl | ⟨rfl,rfl⟩
  .exact I.u.vf j hjf hj
  .simp only [List.mem_singleton]at hj;subst hj;rcases hjf' with h1 | h1
   .have:=hv0 _ h1;omega
   .omega
 refine⟨⟨⟨wv,v',by simp,?_,?_⟩,I.u.pv,hpl,Zy3,?_,?_,?_⟩,?_,I.v,hv,?_,?_,?_,?_,?_⟩
 .exact hV.frame fun j hj=>by
   have h1:j≠p:=fun e=>I.u.pv (e ▸ hj)
   have h2:j∉l':=fun e=>Zy3 j hj e
   simp[h1,Zk j h2]
 .rw [List.map_append,List.map_cons,List.map_nil]
  exact hA.frame fun j hj=>by
   have:j≠p:=fun e=>hpl (e ▸ hj)
   simp[this]
 .have:=I.u.lp;simp[hn];omega
 .intro j hj;have:=I.u.ltv j hj;simp[hn];omega
 .intro j hj;have Sj:=I.next
  have:j < hb.next+74:=by
   rcases hv with rfl | ⟨_,rfl⟩
   .have:=hf0 j hj;omega
   .simp at hj;omega
  simp[hn];omega
 .have hr:=I.run;rw[Zb9 hks hi,hk,if_pos rfl,hu,List.singleton_append,List.foldl_cons]at hr;rw[<- hr];congr 1;simp[Rc,Qi]
 .intro j hj hjn;have h1:j≠p:=fun e=>hjn (by simp[e])
  have h2:j∉l':=by
   rcases hv with rfl | ⟨_,rfl⟩
   .exact fun e=>hjn (by simp[e])
   .simp;omega
  simp only[Zgd,if_neg h1];rw[Zk j h2];exact I.old j hj hjn
 .have:=I.next;simp[hn];omega
 .have:=I.nv;omega
 .have:=I.nf;simp;omega
 .intro g hg;rcases List.mem_append.1 hg with hg | hg
  .exact I.fa g hg
  .simp at hg;subst hg;exact hua
theorem AddI.have {t:List Nd}{ks:List Bool}{p Zc:Nat}{s0:List Use×List Use}{Rg Rh:List Nat}{hb h0:PH}{i:Nat}{vs fs:List Use}{lv lf:List Nat}{h:PH}{u:Use}(I:AddI t ks p Zc s0 Rg Rh hb h0 i vs fs lv lf h)(hks:ks.length=t.length)(hi:i < t.length)(hk:ks[i]'(by omega)=true)
  (hu:Xl t[i] (t.drop (i+1))=[u]) (Qi:u.fn=false) (hh:Zbt vs u.name u.sort=true):AddI t ks p Zc s0 Rg Rh hb h0 (i+1) vs fs lv lf h:=by
 refine⟨I.u,?_,I.v,I.f,I.old,I.next,by have:=I.nv;omega,by have:=I.nf;omega,I.fa⟩;have hr:=I.run;rw[Zb9 hks hi,hk,if_pos rfl,hu,List.singleton_append,List.foldl_cons]at hr;rw[<- hr];congr 1;simp[Rc,Qi,hh]
set_option maxHeartbeats 4000000 in
theorem Zaei {t:List Nd}{tr:Tr}(v:VT t tr)(b:Bool)(kb:PV)(ks:List Bool)(hks:ks.length=t.length)(hkb:kb=L 4 true []/\ks=List.replicate t.length true\/∃bk,kb=L 4 bk (ks.map .bool)){p Zc:Nat}{s0:List Use×List Use}{Rg Rh:List Nat}{hb h0:PH}
  (hn0:h0.next=hb.next) (hg0:∀i∈p::(Rg++Rh),h0.get i=hb.get i) (U:UR p Zc s0.1 s0.2 Rg Rh hb) (hl1:s0.1.length < 2^29) (hl2:s0.2.length < 2^29) (hfa:∀g∈s0.2,g.args.length < 2^30) (c:Code) (hc:Tryz.f63.body=some c):
  wp (Vt vE {base:=hb.next,lo:=hb.next,ok:=p::(Rg++Rh)} true c (R1 0 [.ptr p Zc 0,L 58 b (t.map Zo),kb]) {h0 with next:=hb.next+Tryz.f63.ntmps}) fun r=>(r.1=.normal\/r.1=.ret)/\wp (Ut vE r.2.1 r.2.2 Tryz.f63.results.toList) fun vs=>
   inlT r.2.2 (Vh vs)=some (.tuple [])/\ownT (Vh vs)=[]/\∃vs fs lv lf,AddI t ks p Zc s0 Rg Rh hb h0 t.length vs fs lv lf r.2.2:=by
 have W5:=Yg U.lp;have hsh:=v.short;have htl:=v.len;injection hc with hc
 subst hc
 (refine Zm ?_;repeat'(first|(refine Zi fun _=>?_;try simp(disch:=first|exact Zw|fail)[*,Yd,Tryz.f63,Ze U.lp])|refine Zx ?_|refine Zn ?_ ?_))
 refine Zv [0,1,2] (fun n sl h=>∃(i:Nat) (vs fs:List Use) (lv lf:List Nat),n=t.length - i/\i<=t.length/\sl 6=some (.int .i64 i)/\AddI t ks p Zc s0 Rg Rh hb h0 i vs fs lv lf h) t.length rfl ⟨0,s0.1,s0.2,Rg,Rh,by simp,by simp,by simp,?_⟩ ?_
 .exact ⟨U.frame hg0 (by simp),rfl,.inl rfl,.inl rfl,fun j _ _=>rfl,by simp,by simp,by simp,hfa⟩
 rintro n sl h hf ⟨i,vs,fs,lv,lf,hn,hi,h6,I⟩;simp at hf
 have hca:∀j∈p::(lv++lf),can {base:=hb.next,lo:=hb.next,ok:=p::(Rg++Rh)} j=true:=by
  intro j hj;simp only[List.mem_cons,List.mem_append]at hj;simp only[can,Bool.or_eq_true,Nat.ble_eq,List.any_eq_true];rcases hj with rfl | hj | hj
  .exact .inr ⟨_,List.mem_cons_self,by simp⟩
  .rcases I.v with e | ⟨_,e⟩
   .exact .inr ⟨j,by rw[e]at hj;simp[hj],by simp⟩
   .rw [e]at hj;simp at hj;left;omega
  .rcases I.f with e | ⟨_,e⟩
   .exact .inr ⟨j,by rw[e]at hj;simp[hj],by simp⟩
   .rw [e]at hj;simp at hj;left;omega
 by_cases hlt:i < t.length
 .have Y5:=I.run;rw[Zb9 hks hlt]at Y5;obtain⟨wv,wf,g1,g2,g3⟩:=I.u.ex;have Sj:=I.next;have hnv:=I.nv;have hnf:=I.nf;have Z9h:=g2.call (C:=vE) (K:={base:=hb.next,lo:=hb.next,ok:=p::(Rg++Rh)}) (fun j hj=>hca j (by simp[hj])) (f:=112) rfl [] [Zo t[i]] (Zafx true vs t[i] (by omega)) rfl rfl rfl;simp only[List.nil_append]at Z9h;have hcp:=hca p (by simp);have hcv:∀j∈lv,can {base:=hb.next,lo:=hb.next,ok:=p::(Rg++Rh)} j=true:=fun j hj=>hca j (by simp[hj])
  have hcf:∀j∈lf,can {base:=hb.next,lo:=hb.next,ok:=p::(Rg++Rh)} j=true:=fun j hj=>hca j (by simp[hj])
  have hsv:=g2.same (n:=3);have hsf:=g3.same (n:=3)
  have stay:X2 (t.drop i) (ks.drop i)=X2 (t.drop (i+1)) (ks.drop (i+1))->AddI t ks p Zc s0 Rg Rh hb h0 (i+1) vs fs lv lf h:=fun e=>
   ⟨I.u,by rw[<- e];exact I.run,I.v,I.f,I.old,I.next,by omega,by omega,I.fa⟩
  have skip:Xl t[i] (t.drop (i+1))=[]\/ks[i]'(by omega)=false->AddI t ks p Zc s0 Rg Rh hb h0 (i+1) vs fs lv lf h:=fun e=>
   stay (by rw[Zb9 hks hlt];rcases e with e | e<;>simp[e])
  have Z0d:∀u,Xl t[i] (t.drop (i+1))=[u]->u.fn=false->ks[i]'(by omega)=true->Zbt vs u.name u.sort=true->AddI t ks p Zc s0 Rg Rh hb h0 (i+1) vs fs lv lf h:=fun u a1 a2 a3 a4=>I.have hks hlt a3 a1 a2 a4
  have addv:∀u v' h' l',Xl t[i] (t.drop (i+1))=[u]->u.fn=false->ks[i]'(by omega)=true->Zbt vs u.name u.sort=false->Own h' 69 v' (vs.map Wi++[Wi u]) l'->(l'=lv\/lv=[]/\l'=[hb.next+57])->h'.next=h.next->(∀j,j∉l'->h'.get j=h.get j)->AddI t ks p Zc s0 Rg Rh hb h0 (i+1) (vs++[u]) fs l' lf (h'.put p Zc (.cells [v',wf])):=fun u v' h' l' a1 a2 a3 a4 a5 a6 a7 a8=>I.var (wv:=wv) hks hlt a3 a1 a2 a4 U.lp U.ltv U.ltf g3 a5 a6 a7 a8
  have addf:∀u v' h' l',Xl t[i] (t.drop (i+1))=[u]->u.fn=true->ks[i]'(by omega)=true->u.args.length < 2^30->Own h' 155 v' (fs.map Y8++[Y8 u]) l'->(l'=lf\/lf=[]/\l'=[hb.next+71])->h'.next=h.next->(∀j,j∉l'->h'.get j=h.get j)->AddI t ks p Zc s0 Rg Rh hb h0 (i+1) vs (fs++[u]) lv l' (h'.put p Zc (.cells [wv,v'])):=fun u v' h' l' a1 a2 a3 a4 a5 a6 a7 a8=>I.fn (wf:=wf) hks hlt a3 a1 a2 a4 U.lp U.ltv U.ltf g2 a5 a6 a7 a8
  have hap:=fun f5=>v.app hlt f5
  have Xt:=v.args;have hpn:p < h.next:=I.u.lp;have hpv:=I.u.pv;have hpf:=I.u.pf;replace stay:=Hide.mk stay;replace skip:=Hide.mk skip;replace Z0d:=Hide.mk Z0d;replace addv:=Hide.mk addv;replace addf:=Hide.mk addf;replace Xt:=Hide.mk Xt;replace hcv:=Hide.mk hcv;replace hcf:=Hide.mk hcf;clear hca hfa I Y5;generalize hki:ks[i]'(by omega)=kk at *;have Za0l:(0 < t.length)=True:=by simp;omega
  generalize htd:t[i]=d at *;obtain⟨op,sort,name,num,kids⟩:=d;by_cases h4:op=4
  .subst h4;have hu:Xl (⟨4,sort,name,num,kids⟩:Nd) (t.drop (i+1))=[⟨false,name,[],sort⟩]:=by simp[Xl]
   replace hu:=Hide.mk hu;clear hap;obtain⟨wv',h1,l',hapv,Vb,hl',hn1,Zeh⟩:=g2.app (K:={base:=hb.next,lo:=hb.next,ok:=p::(Rg++Rh)}) (dd:=57) hcv.get (ys:=[Wi ⟨false,name,[],sort⟩]) (T:={k:=.struct [(0,9),(1,3)],size:=2,bytes:=24,zero:=[.string ⟨#[]⟩,.int .i64 0]}) (by simp;omega) (by decide) (by decide) (by simp);simp only[List.length_cons,List.length_nil]at hapv;have hsv':=Vb.same (n:=3)
   have hpl:h1.get p=some (Zc,.cells [wv,wf]):=by
    rw[Zeh p,g1];rcases hl' with rfl | ⟨_,rfl⟩
    .exact hpv
    .simp only [List.mem_singleton];have:=U.lp;omega
   obtain⟨hcw1,hcw2⟩:=Vb.cells;replace Vb:=Hide.mk Vb;replace Zeh:=Hide.mk Zeh;replace hl':=Hide.mk hl';cases hh:Zbt vs name sort with
   |true=>
    rw[hh]at Z9h;rcases hkb with⟨rfl,hk0⟩ | ⟨bk,rfl⟩
    .have hkk:kk=true:=by subst hk0;simpa using hki.symm
     clear hk0
     (simp(disch:=first|exact Zw|fail)[*,Yd,Ze U.lp])
     refine Yw false false [] [] [] [] false (by decide +kernel) ?_
     (refine Zm ?_;repeat'(first|(refine Zi fun _=>?_;try simp(disch:=first|exact Zw|fail)[*,Yd,Ze U.lp])|refine Zx ?_|refine Zn ?_ ?_))
     exact⟨_,by omega,i+1,rfl,by omega,by omega,vs,fs,lv,lf,Z0d.get _ hu.get rfl hkk hh⟩
    .cases kk with
     |true=>
      (simp(disch:=first|exact Zw|fail)[*,Yd,Ze U.lp])
      refine Yw false false [] [] [] [] false (by decide +kernel) ?_
      (refine Zm ?_;repeat'(first|(refine Zi fun _=>?_;try simp(disch:=first|exact Zw|fail)[*,Yd,Ze U.lp])|refine Zx ?_|refine Zn ?_ ?_))
      exact⟨_,by omega,i+1,rfl,by omega,by omega,vs,fs,lv,lf,Z0d.get _ hu.get rfl rfl hh⟩
     |false=>
      (refine Zm ?_;repeat'(first|(refine Zi fun _=>?_;try simp(disch:=first|exact Zw|fail)[*,Yd,Ze U.lp])|refine Zx ?_|refine Zn ?_ ?_))
      exact⟨_,by omega,i+1,rfl,by omega,by omega,vs,fs,lv,lf,skip.get (.inr rfl)⟩
   |false=>
    rw[hh]at Z9h;rcases hkb with⟨rfl,hk0⟩ | ⟨bk,rfl⟩
    .have hkk:kk=true:=by subst hk0;simpa using hki.symm
     clear hk0
     (simp(disch:=first|exact Zw|fail)[*,Yd,Ze U.lp])
     refine Yw false false [] [] [] [] false (by decide +kernel) ?_
     (simp(disch:=first|exact Zw|fail)[*,Yd,Ze U.lp])
     refine Yw false false [] [] [] [] false (by decide +kernel) ?_
     (simp(disch:=first|exact Zw|fail)[*,Yd,Ze U.lp])
     exact⟨_,by omega,i+1,rfl,by omega,by omega,_,fs,l',lf,addv.get _ wv' h1 l' hu.get rfl hkk hh Vb.get hl'.get hn1 Zeh.get⟩
    .cases kk with
     |true=>
      (simp(disch:=first|exact Zw|fail)[*,Yd,Ze U.lp])
      refine Yw false false [] [] [] [] false (by decide +kernel) ?_
      (simp(disch:=first|exact Zw|fail)[*,Yd,Ze U.lp])
      refine Yw false false [] [] [] [] false (by decide +kernel) ?_
      (simp(disch:=first|exact Zw|fail)[*,Yd,Ze U.lp])
      exact⟨_,by omega,i+1,rfl,by omega,by omega,_,fs,l',lf,addv.get _ wv' h1 l' hu.get rfl rfl hh Vb.get hl'.get hn1 Zeh.get⟩
     |false=>
      (refine Zm ?_;repeat'(first|(refine Zi fun _=>?_;try simp(disch:=first|exact Zw|fail)[*,Yd,Ze U.lp])|refine Zx ?_|refine Zn ?_ ?_))
      exact⟨_,by omega,i+1,rfl,by omega,by omega,vs,fs,lv,lf,skip.get (.inr rfl)⟩
  .by_cases h5:op=5
   .subst h5;obtain⟨kt,rt,kn,hkn,hmn,Q1,hu⟩:=hap rfl;simp only at hkn hu
    have hua:=Xt.get ⟨true,name,Ym kt,sort⟩ (by
     have h1:=Q4 hlt;rw[htd,hu]at h1;exact Zq4 hlt (by rw[h1];simp))
    have Z9g:=Z2c b t hsh (by omega) i hlt kt rt kn (by rw[htd];exact hkn) hmn;rw[htd]at Z9g;simp only at Z9g;obtain⟨wf',h1,l',hapf,Vb,hl',hn1,Zeh⟩:=g3.app (K:={base:=hb.next,lo:=hb.next,ok:=p::(Rg++Rh)}) (dd:=71) hcf.get (ys:=[Y8 ⟨true,name,Ym kt,sort⟩]) (T:={k:=.struct [(0,9),(1,22),(2,3)],size:=3,bytes:=48,zero:=[.string ⟨#[]⟩,.slice none 0 0,.int .i64 0]}) (by simp;omega) (by decide) (by decide) (by simp);simp only[List.length_cons,List.length_nil]at hapf;have hsf':=Vb.same (n:=3)
    have hpl:h1.get p=some (Zc,.cells [wv,wf]):=by
     rw[Zeh p,g1];rcases hl' with rfl | ⟨_,rfl⟩
     .exact hpf
     .simp only [List.mem_singleton];have:=U.lp;omega
    obtain⟨hcw1,hcw2⟩:=Vb.cells;have hpb:Nat.blt p h.next=true:=by rw[Nat.blt_eq];exact hpn
    replace hu:=Hide.mk hu;replace Vb:=Hide.mk Vb;replace Zeh:=Hide.mk Zeh;replace hl':=Hide.mk hl';replace hua:=Hide.mk hua;clear hap Z9h hmn Q1;rcases hkb with⟨rfl,hk0⟩ | ⟨bk,rfl⟩
    .have hkk:kk=true:=by subst hk0;simpa using hki.symm
     clear hk0
     (simp(disch:=first|exact Zw|fail)[*,Yd,Ze U.lp])
     refine Yw false false [] [66] [p] [69] true (by decide +kernel) ?_
     (simp(disch:=first|exact Zw|fail)[*,Yd,Ze U.lp,Pure.reach])
     exact⟨_,by omega,i+1,rfl,by omega,by omega,vs,_,lv,l',addf.get _ wf' h1 l' hu.get rfl hkk hua.get Vb.get hl'.get hn1 Zeh.get⟩
    .cases kk with
     |true=>
      (simp(disch:=first|exact Zw|fail)[*,Yd,Ze U.lp])
      refine Yw false false [] [66] [p] [69] true (by decide +kernel) ?_
      (simp(disch:=first|exact Zw|fail)[*,Yd,Ze U.lp,Pure.reach])
      exact⟨_,by omega,i+1,rfl,by omega,by omega,vs,_,lv,l',addf.get _ wf' h1 l' hu.get rfl rfl hua.get Vb.get hl'.get hn1 Zeh.get⟩
     |false=>
      (refine Zm ?_;repeat'(first|(refine Zi fun _=>?_;try simp(disch:=first|exact Zw|fail)[*,Yd,Ze U.lp])|refine Zx ?_|refine Zn ?_ ?_))
      exact⟨_,by omega,i+1,rfl,by omega,by omega,vs,fs,lv,lf,skip.get (.inr rfl)⟩
   .have hu:Xl (⟨op,sort,name,num,kids⟩:Nd) (t.drop (i+1))=[]:=by simp[Xl,h4,h5]
    replace hu:=Hide.mk hu;clear hap Z9h;rcases hkb with⟨rfl,hk0⟩ | ⟨bk,rfl⟩
    .have hkk:kk=true:=by subst hk0;simpa using hki.symm
     clear hk0
     (refine Zm ?_;repeat'(first|(refine Zi fun _=>?_;try simp(disch:=first|exact Zw|fail)[*,Yd,Ze U.lp])|refine Zx ?_|refine Zn ?_ ?_))
     exact⟨_,by omega,i+1,rfl,by omega,by omega,vs,fs,lv,lf,skip.get (.inl hu.get)⟩
    .cases kk with
     |true=>
      (refine Zm ?_;repeat'(first|(refine Zi fun _=>?_;try simp(disch:=first|exact Zw|fail)[*,Yd,Ze U.lp])|refine Zx ?_|refine Zn ?_ ?_))
      exact⟨_,by omega,i+1,rfl,by omega,by omega,vs,fs,lv,lf,skip.get (.inl hu.get)⟩
     |false=>
      (refine Zm ?_;repeat'(first|(refine Zi fun _=>?_;try simp(disch:=first|exact Zw|fail)[*,Yd,Ze U.lp])|refine Zx ?_|refine Zn ?_ ?_))
      exact⟨_,by omega,i+1,rfl,by omega,by omega,vs,fs,lv,lf,skip.get (.inr rfl)⟩
 .have e:i=t.length:=by omega
  subst e;replace I:=Hide.mk I
  (refine Zm ?_;repeat'(first|(refine Zi fun _=>?_;try simp(disch:=first|exact Zw|fail)[*,Yd])|refine Zx ?_|refine Zn ?_ ?_))
  exact⟨vs,fs,lv,lf,I.get⟩
theorem UR.move {p Zc:Nat}{vs fs:List Use}{lv lf:List Nat}{h h':PH}(U:UR p Zc vs fs lv lf h)(hg:∀i∈p::(lv++lf),h'.get i=h.get i)(hp:p < h'.next)(hv:∀i∈lv,i < h'.next)(hf:∀i∈lf,i < h'.next):UR p Zc vs fs lv lf h':=by
 obtain⟨v,f,h1,h2,h3⟩:=U.ex;exact⟨⟨v,f,by rw[hg p (by simp),h1],h2.frame fun i hi=>hg i (by simp[hi]),h3.frame fun i hi=>hg i (by simp[hi])⟩,U.pv,U.pf,U.vf,hp,hv,hf⟩
theorem UR.can {K:Pure.Loc}{p Zc:Nat}{vs fs:List Use}{lv lf:List Nat}{h:PH}(U:UR p Zc vs fs lv lf h)(hK:∀i∈p::(lv++lf),can K i=true):(p::(lv++lf)).all (fun i=>Pure.can K i&&(h.get i).isSome)=true:=by
 rw[List.all_eq_true];intro i hi;rw[hK i hi,U.some i hi];rfl
theorem UR.belowP {p Zc:Nat}{vs fs:List Use}{lv lf:List Nat}{h:PH}(U:UR p Zc vs fs lv lf h):h.belowAt h.next p=true:=by
 obtain⟨v,f,h1,h2,h3⟩:=U.ex;simp only[PH.belowAt,h1,Wj,List.all_cons,List.all_nil,Bool.and_true,h2.belowC,h3.belowC,Bool.and_eq_true,List.all_eq_true];exact⟨fun i hi=>by rw[Nat.blt_eq];exact U.ltv i hi,fun i hi=>by rw[Nat.blt_eq];exact U.ltf i hi⟩
structure Added (p Zc:Nat)(vs fs:List Use)(Rg Rh ids:List Nat)(h h':PH):Prop where
 u:∃lv lf,UR p Zc vs fs lv lf h'/\(lv=Rg\/Rg=[]/\∃i,lv=[i]/\h.next<=i)/\(lf=Rh\/Rh=[]/\∃i,lf=[i]/\h.next<=i)
 old:∀j,j < h.next->j∉p::(Rg++Rh)->h'.get j=h.get j\/h'.get j=(h.freeze ids).get j
 next:h.next<=h'.next
theorem Z1t {t:List Nd}{tr:Tr}(v:VT t tr)(b:Bool)(kb kb':PV)(ks:List Bool)(hks:ks.length=t.length)(hkb:kb'=L 4 true []/\ks=List.replicate t.length true\/∃bk,kb'=L 4 bk (ks.map .bool)){p Zc:Nat}{s0:List Use×List Use}{Rg Rh ids:List Nat}{h:PH}
  (U:UR p Zc s0.1 s0.2 Rg Rh h) (hl1:s0.1.length < 2^29) (hl2:s0.2.length < 2^29) (hfa:∀g∈s0.2,g.args.length < 2^30) (K:Pure.Loc) (hK:∀i∈p::(Rg++Rh),can K i=true)
  (Uv:inlV h kb=some kb') (hid:ownV kb=ids) (hidc:ids.all (can K)=true) (Zy3:∀i∈ids,i∉p::(Rg++Rh)) (hr:refs 3 kb'=[]):
  ∃h',Yh vE K 63 [.ptr p Zc 0,L 58 b (t.map Zo),kb] h=some (.tuple [],h')/\Added p Zc ((X2 t ks).foldl Rc s0).1 ((X2 t ks).foldl Rc s0).2 Rg Rh ids h h':=by
 refine Ztr (fn:=Tryz.f63) (ok:=p::(Rg++Rh)) Tryz.func63 rfl rfl rfl (args':=[.ptr p Zc 0,L 58 b (t.map Zo),kb']) (by simp[Uv]) ?_ (U.can hK) (by simpa[hid]using hidc) ?_
 .simpa [hr]using U.reach
 have hg0:∀i∈p::(Rg++Rh),(h.freeze ([PV.ptr p Zc 0,L 58 b (t.map Zo),kb].flatMap ownV)).get i=h.get i:=by
  intro i hi;refine S6 fun j hj=>?_
  simp[hid]at hj;rintro rfl;exact Zy3 j hj hi
 have hids:[PV.ptr p Zc 0,L 58 b (t.map Zo),kb].flatMap ownV=ids:=by simp[hid]
 rw[hids]at hg0 ⊢;refine Pure.wp_mono (Zaei v b kb' ks hks hkb (h0:=h.freeze ids) (X4 _ _) hg0 U hl1 hl2 hfa _ rfl) ?_;rintro r ⟨h1,h2⟩;refine⟨h1,Pure.wp_mono h2 ?_⟩;rintro vs ⟨e1,e2,Qk,fs',lv,lf,I⟩;have Y5:=I.run;rw[List.drop_length,<- hks,List.drop_length]at Y5;simp only[X2,List.foldl_nil]at Y5;have hv':lv=Rg\/Rg=[]/\∃i,lv=[i]/\h.next<=i:=I.v.imp_right fun⟨a,e⟩=>⟨a,_,e,by omega⟩
 have hf':lf=Rh\/Rh=[]/\∃i,lf=[i]/\h.next<=i:=I.f.imp_right fun⟨a,e⟩=>⟨a,_,e,by omega⟩
 refine⟨e1,e2,rfl,?_⟩;rw[<- Y5];rcases I.u.settle U.lp U.ltv U.ltf U.belowP hv' hf' with⟨hall,rfl,rfl⟩ | hany
 .refine .inl ⟨hall,?_,?_⟩
  all_goals refine⟨⟨lv,lf,I.u.move (fun i hi=>Znr (I.u.some i hi) hi) ?_ ?_ ?_,.inl rfl,.inl rfl⟩,?_,?_⟩
  .rw [W3];exact U.lp
  .rw [W3];exact U.ltv
  .rw [W3];exact U.ltf
  .exact fun j hj hjn=>.inl (U3 hjn)
  .rw [W3];omega
  .rw [W3,X4];exact U.lp
  .rw [W3,X4];exact U.ltv
  .rw [W3,X4];exact U.ltf
  .exact fun j hj hjn=>.inr (U3 hjn)
  .rw [W3,X4];omega
 .refine .inr ⟨hany,⟨lv,lf,I.u,hv',hf'⟩,fun j hj hjn=>.inr (I.old j hj hjn),by have:=I.next;omega⟩
structure UL (vs fs:List Use):Prop where
 v:∀u∈vs,u.fn=false/\u.args=[]
 f:∀u∈fs,u.fn=true
 nd:vs.Nodup
theorem UL.bad_vv {vs fs:List Use}(U:UL vs fs){a b:Nat}(ha:a < vs.length)(hb:b < a)(e:vs[a].name=(vs[b]'(by omega)).name):Yv (vs++fs)=false:=by
 unfold Yv;rw[decide_eq_false_iff_not];intro hC;have hb':b < vs.length:=by omega
 have:=hC vs[a] (by simp) vs[b] (by simp) e;exact List.pairwise_iff_getElem.1 U.nd b a hb' ha hb this.symm
theorem UL.bad_vf {vs fs:List Use}(U:UL vs fs){a b:Nat}(ha:a < vs.length)(hb:b < fs.length)(e:vs[a].name=fs[b].name):Yv (vs++fs)=false:=by
 unfold Yv;rw[decide_eq_false_iff_not];intro hC;have h1:=hC vs[a] (by simp) fs[b] (by simp) e;have h2:=(U.v vs[a] (List.getElem_mem ha)).1;have h3:=U.f fs[b] (List.getElem_mem hb);rw[h1,h3]at h2;cases h2
theorem UL.good {vs fs:List Use}(U:UL vs fs)(h1:∀a (ha:a < vs.length),∀b (hb:b < a),vs[a].name≠(vs[b]'(by omega)).name)(h2:∀a (ha:a < vs.length),∀b (hb:b < fs.length),vs[a].name≠fs[b].name)
  (h3:∀a (ha:a < fs.length),∀b (hb:b < a),fs[a].name=(fs[b]'(by omega)).name->fs[a].sort=(fs[b]'(by omega)).sort/\fs[a].args=(fs[b]'(by omega)).args):Yv (vs++fs)=true:=by
 unfold Yv;rw[decide_eq_true_iff];intro x hx y hy e
 have eqf:∀u∈fs,∀w∈fs,u.name=w.name->u.sort=w.sort->u.args=w.args->u=w:=fun u hu w hw a b c=>by
  have e1:=U.f u hu;have e2:=U.f w hw;obtain⟨u1,u2,u3,u4⟩:=u;obtain⟨w1,w2,w3,w4⟩:=w;simp only at *;rw[e1,e2,a,b,c]
 rcases List.mem_append.1 hx with hx | hx<;>rcases List.mem_append.1 hy with hy | hy
 .obtain ⟨a,ha,rfl⟩:=List.getElem_of_mem hx;obtain⟨b,hb,rfl⟩:=List.getElem_of_mem hy;rcases Nat.lt_trichotomy a b with h | h | h
  .exact absurd e.symm (h1 b hb a h)
  .subst h;rfl
  .exact absurd e (h1 a ha b h)
 .obtain ⟨a,ha,rfl⟩:=List.getElem_of_mem hx;obtain⟨b,hb,rfl⟩:=List.getElem_of_mem hy;exact absurd e (h2 a ha b hb)
 .obtain ⟨a,ha,rfl⟩:=List.getElem_of_mem hx;obtain⟨b,hb,rfl⟩:=List.getElem_of_mem hy;exact absurd e.symm (h2 b hb a ha)
 .obtain ⟨a,ha,rfl⟩:=List.getElem_of_mem hx;obtain⟨b,hb,rfl⟩:=List.getElem_of_mem hy;rcases Nat.lt_trichotomy a b with h | h | h
  .obtain ⟨e1,e2⟩:=h3 b hb a h e.symm;exact eqf _ hx _ hy e e1.symm e2.symm
  .subst h;rfl
  .obtain ⟨e1,e2⟩:=h3 a ha b h e;exact eqf _ hx _ hy e e1 e2
structure CL (p Zc:Nat)(wv wf:PV)(hb h:PH):Prop where
 g:h.get p=some (Zc,.cells [wv,wf])
 next:hb.next<=h.next
 old:∀j,j < hb.next->h.get j=hb.get j
set_option maxHeartbeats 4000000 in
theorem Zaeg {p Zc:Nat}{vs fs:List Use}{lv lf:List Nat}{h:PH}(U:UR p Zc vs fs lv lf h)(W:UL vs fs)(hl1:vs.length < 2^30)(hl2:fs.length<=1)(K:Pure.Loc)(hK:∀i∈p::(lv++lf),can K i=true):Yh vE K 66 [.ptr p Zc 0] h=some (.bool (!(Yv (vs++fs))),h):=by
 obtain⟨wv,wf,g1,g2,g3⟩:=U.ex;have W5:=Yg U.lp
 have hbl:∀i∈p::(lv++lf),i < h.next:=by
  intro i hi;simp only[List.mem_cons,List.mem_append]at hi;rcases hi with rfl | hi | hi
  .exact U.lp
  .exact U.ltv i hi
  .exact U.ltf i hi
 refine W6 (ok:=p::(lv++lf)) (fn:=Tryz.f66) Tryz.func66 rfl rfl rfl (by simp) (by simpa using U.reach) (U.can hK) hbl ?_ ?_ (by simp)
 .intro i hi;simp only[List.mem_cons,List.mem_append]at hi;rcases hi with rfl | hi | hi
  .exact U.belowP
  .exact g2.belowAt i hi
  .exact g3.belowAt i hi
 have hlv:=g2.lenK (e:=69);have hlf:=g3.lenK (e:=155);rw[List.length_map]at hlv hlf;have hsv:=g2.same (n:=3);have hsf:=g3.same (n:=3);replace hbl:=Hide.mk hbl;have hpn:=U.lp;have Zvx:∀b,Yv (vs++fs)=b->(PV.bool (!(Yv (vs++fs))))=.bool (!b):=fun b e=>by rw[e]
 replace Zvx:=Hide.mk Zvx
 (refine Zm ?_;repeat'(first|(refine Zi fun _=>?_;try simp(disch:=first|exact Zw|fail)[*,Yd,Tryz.f66])|refine Zx ?_|refine Zn ?_ ?_))
 refine Zv [0] (fun m sl h'=>∃i:Nat,m=vs.length - i/\i<=vs.length/\sl 3=some (.int .i64 i)/\h'={h with next:=h.next+115}/\(∀a (ha:a < vs.length),a < i->∀b (hb:b < a),vs[a].name≠(vs[b]'(by omega)).name)/\(∀a (ha:a < vs.length),a < i->∀b (hb:b < fs.length),vs[a].name≠fs[b].name)) vs.length rfl ⟨0,by simp⟩ ?_;rintro m sl h' hf ⟨i,hm,hi,h3,rfl,hv1,hv2⟩;simp at hf;replace hv1:=Hide.mk hv1;replace hv2:=Hide.mk hv2;by_cases hlt:i < vs.length
 .obtain ⟨iv,vv,rfl,hgv,rfl⟩:=g2.pos hlt;generalize hvi:vs[i]=x;obtain⟨xf,xn,xa,xs⟩:=x
  (refine Zm ?_;repeat'(first|(refine Zi fun _=>?_;try simp(disch:=first|exact Zw|fail)[*,Yd])|refine Zx ?_|refine Zn ?_ ?_))
  refine Zv [0,3] (fun m2 sl2 h2=>∃k:Nat,m2=i - k/\k<=i/\sl2 4=some (.int .i64 k)/\h2={h with next:=h.next+115}/\∀b (hb:b < k) (hb2:b < vs.length),xn≠vs[b].name) i rfl ⟨0,by simp⟩ ?_;rintro m2 sl2 h2 hf2 ⟨k,hm2,hk,h4,rfl,hno⟩;simp at hf2;replace hno:=Hide.mk hno;by_cases Q1:k < i
  .have hkv:k < vs.length:=by omega
   generalize hvk:vs[k]=y;obtain⟨yf,yn,ya,ys⟩:=y;by_cases hxy:xn=yn
   .have Zar:=Zvx.get _ (W.bad_vv hlt Q1 (by rw[hvi,hvk];exact hxy));rw[Zar];clear Zar
    (simp(disch:=first|exact Zw|fail)[*,Yd])
    refine Yw false false [] [] [] [] false (by decide +kernel) ?_
    (simp(disch:=first|exact Zw|fail)[*,Yd])
   .have hxb:(xn==yn)=false:=by simpa using hxy
    (simp(disch:=first|exact Zw|fail)[*,Yd])
    refine Yw false false [] [] [] [] false (by decide +kernel) ?_
    (simp(disch:=first|exact Zw|fail)[*,Yd])
    refine⟨_,by omega,k+1,rfl,by omega,by omega,fun b hb hb2 e=>?_⟩;by_cases hbk:b=k
    .subst hbk;rw[hvk]at e;exact hxy e
    .exact hno.get b (by omega) hb2 e
  .have e:k=i:=by omega
   subst e
   (simp(disch:=first|exact Zw|fail)[*,Yd])
   refine Zv [0,3] (fun m2 sl2 h2=>∃q:Nat,m2=fs.length - q/\q<=fs.length/\sl2 5=some (.int .i64 q)/\h2={h with next:=h.next+115}/\∀b (hb:b < q) (hb2:b < fs.length),xn≠fs[b].name) fs.length rfl ⟨0,by simp[*]⟩ ?_;rintro m3 sl3 h3' hf3 ⟨q,hm3,hq,h5,rfl,Zrx⟩;simp at hf3;replace Zrx:=Hide.mk Zrx;by_cases hql:q < fs.length
   .obtain ⟨jf,vf,rfl,hgf,rfl⟩:=g3.pos hql;generalize hfq:fs[q]=y;obtain⟨yf,yn,ya,ys⟩:=y;by_cases hxy:xn=yn
    .have Zar:=Zvx.get _ (W.bad_vf hlt hql (by rw[hvi,hfq];exact hxy));rw[Zar];clear Zar
     (simp(disch:=first|exact Zw|fail)[*,Yd])
     refine Yw false false [] [] [] [] false (by decide +kernel) ?_
     (simp(disch:=first|exact Zw|fail)[*,Yd])
    .have hxb:(xn==yn)=false:=by simpa using hxy
     (simp(disch:=first|exact Zw|fail)[*,Yd])
     refine Yw false false [] [] [] [] false (by decide +kernel) ?_
     (simp(disch:=first|exact Zw|fail)[*,Yd])
     refine⟨_,by omega,q+1,rfl,by omega,by omega,fun b hb hb2 e=>?_⟩;by_cases hbk:b=q
     .subst hbk;rw[hfq]at e;exact hxy e
     .exact Zrx.get b (by omega) hb2 e
   .have e:q=fs.length:=by omega
    subst e
    (simp(disch:=first|exact Zw|fail)[*,Yd])
    refine⟨_,by omega,k+1,rfl,by omega,by omega,fun a ha hai b hb=>?_,fun a ha hai b hb=>?_⟩
    .by_cases hak:a=k
     .subst hak;rw[hvi];exact hno.get b hb (by omega)
     .exact hv1.get a ha (by omega) b hb
    .by_cases hak:a=k
     .subst hak;rw[hvi];exact Zrx.get b hb hb
     .exact hv2.get a ha (by omega) b hb
 .have e:i=vs.length:=by omega
  subst e
  (simp(disch:=first|exact Zw|fail)[*,Yd])
  refine Zv [0] (fun m2 sl2 h2=>∃q:Nat,m2=fs.length - q/\q<=fs.length/\sl2 6=some (.int .i64 q)/\CL p Zc wv wf h h2/\(∀a (ha:a < fs.length),a < q->∀b (hb:b < a),fs[a].name=(fs[b]'(by omega)).name->fs[a].sort=(fs[b]'(by omega)).sort/\fs[a].args=(fs[b]'(by omega)).args)) fs.length rfl ⟨0,by simp,by simp,by simp,⟨g1,by simp,fun j _=>rfl⟩,by simp⟩ ?_;rintro m2 sl2 h2 hf2 ⟨q,hm2,hq,h6,I,hff⟩;simp at hf2;have c1:=I.g;have c2:=I.next;replace hff:=Hide.mk hff;replace I:=Hide.mk I;by_cases hql:q < fs.length
  .obtain ⟨jf,vf,rfl,hgf,rfl⟩:=g3.pos hql;generalize hfq:fs[q]=x;obtain⟨xf,xn,xa,xs⟩:=x
   (simp(disch:=first|exact Zw|fail)[*,Yd])
   refine Zv [0,6] (fun m3 sl3 h3=>∃k:Nat,m3=q - k/\k<=q/\sl3 7=some (.int .i64 k)/\CL p Zc wv (.own jf vf 155 0 fs.length) h h3) q rfl ⟨0,by simp,by simp,by simp,I.get⟩ ?_;rintro m3 sl3 h3' hf3 ⟨k,hm3,hk,h7,I3⟩;simp at hf3;have hq0:q=0:=by omega
   have hk0:k=0:=by omega
   subst hq0;subst hk0;replace I3:=Hide.mk I3
   (simp(disch:=first|exact Zw|fail)[*,Yd])
   exact⟨_,by omega,1,rfl,by omega,by omega,I3.get,fun a ha hai b hb=>by omega⟩
  .have Ri:Yv (vs++fs)=true:=W.good (fun a ha b hb=>hv1.get a ha ha b hb) (fun a ha b hb=>hv2.get a ha ha b hb) (fun a ha b hb=>hff.get a ha (by omega) b hb);have hgd:=Zvx.get _ Ri;rw[hgd];have Xa:=fun i hi=>I.get.old i (hbl.get i hi)
   clear hgd Ri;replace Xa:=Hide.mk Xa
   (simp(disch:=first|exact Zw|fail)[*,Yd])
   exact fun a ha=>Xa.get a (by simp[ha])
theorem Zaap (us:List Use):∀(s0:List Use×List Use),UL s0.1 s0.2->(∀u∈us,u.fn=false->u.args=[])->UL (us.foldl Rc s0).1 (us.foldl Rc s0).2/\(∀u,u∈(us.foldl Rc s0).1++(us.foldl Rc s0).2↔u∈s0.1++s0.2\/u∈us)/\(us.foldl Rc s0).1.length<=s0.1.length+us.length /\
  (us.foldl Rc s0).2.length=s0.2.length+(us.filter (·.fn)).length:=by
 induction us with
 |nil=>intro s0 h _;simp[h]
 |cons x us ih=>
  intro s0 hU ha;have ha':∀u∈us,u.fn=false->u.args=[]:=fun u hu=>ha u (by simp[hu])
  cases hx:x.fn with
  |true=>
   have e:Rc s0 x=(s0.1,s0.2++[x]):=by simp[Rc,hx]
   have hU':UL (Rc s0 x).1 (Rc s0 x).2:=by
    rw[e];refine⟨hU.v,fun u hu=>?_,hU.nd⟩;rcases List.mem_append.1 hu with hu | hu
    .exact hU.f u hu
    .simp at hu;rw[hu];exact hx
   obtain⟨i1,i2,i3,i4⟩:=ih _ hU' ha';rw[List.foldl_cons];refine⟨i1,fun u=>?_,?_,?_⟩
   .rw [i2,e];simp only[List.mem_append,List.mem_cons,List.not_mem_nil,or_false];constructor
    .rintro ((h | h | h) | h)<;>simp[h]
    .rintro ((h | h) | h | h)<;>simp[h]
   .rw [e]at i3 ⊢;simp at i3 ⊢;omega
   .rw [e]at i4 ⊢;simp[hx]at i4 ⊢;omega
  |false=>
   have hxa:=ha x (by simp) hx;cases hh:Zbt s0.1 x.name x.sort with
   |true=>
    have e:Rc s0 x=s0:=by simp[Rc,hx,hh]
    have Sg:x∈s0.1:=by
     unfold Zbt at hh;rw[List.any_eq_true]at hh;obtain⟨u,hu,h2⟩:=hh;simp only[Bool.and_eq_true,beq_iff_eq]at h2;obtain⟨q1,q2⟩:=hU.v u hu
     have:u=x:=by
      obtain⟨a,b,c,d⟩:=u;obtain⟨a',b',c',d'⟩:=x;simp only at *;rw[q1,hx,h2.1,h2.2,q2,hxa]
     rw[<- this];exact hu
    obtain⟨i1,i2,i3,i4⟩:=ih s0 hU ha';rw[List.foldl_cons,e];refine⟨i1,fun u=>?_,by simp;omega,by simp[hx];omega⟩;rw[i2];simp only[List.mem_cons];constructor
    .rintro (h | h)
     .exact .inl h
     .exact .inr (.inr h)
    .rintro (h | rfl | h)
     .exact .inl h
     .exact .inl (List.mem_append_left _ Sg)
     .exact .inr h
   |false=>
    have e:Rc s0 x=(s0.1++[x],s0.2):=by simp[Rc,hx,hh]
    have hnm:x∉s0.1:=fun hm=>by
     unfold Zbt at hh;rw[List.any_eq_false]at hh;exact hh x hm (by simp)
    have hU':UL (Rc s0 x).1 (Rc s0 x).2:=by
     rw[e];refine⟨fun u hu=>?_,hU.f,?_⟩
     .rcases List.mem_append.1 hu with hu | hu
      .exact hU.v u hu
      .simp at hu;rw[hu];exact⟨hx,hxa⟩
     .rw [List.nodup_append];exact⟨hU.nd,by simp,fun a Qg b hb e'=>by simp at hb;subst hb;exact hnm (e' ▸ Qg)⟩
    obtain⟨i1,i2,i3,i4⟩:=ih _ hU' ha';rw[List.foldl_cons];refine⟨i1,fun u=>?_,?_,?_⟩
    .rw [i2,e];simp only[List.mem_append,List.mem_cons,List.not_mem_nil,or_false];constructor
     .rintro (((h | h) | h) | h)<;>simp[h]
     .rintro ((h | h) | h | h)<;>simp[h]
    .rw [e]at i3 ⊢;simp at i3 ⊢;omega
    .rw [e]at i4 ⊢;simp[hx]at i4 ⊢;omega
theorem Zfa {a b:List Use}(h:∀u,u∈a↔u∈b):Yv a=Yv b:=by
 unfold Yv;rw[decide_eq_decide];unfold Clean;constructor
 .intro H u hu v hv;exact H u ((h u).2 hu) v ((h v).2 hv)
 .intro H u hu v hv;exact H u ((h u).1 hu) v ((h v).1 hv)
theorem Zb8:∀ {t:List Nd} {ks:List Bool} {u:Use},u∈X2 t ks->u∈Ya t
 | [],ks,u,h=>by simp[X2]at h
 |n::r,[],u,h=>by simp[X2]at h
 |n::r,k::ks,u,h=>by
  simp only[X2,List.mem_append]at h;simp only[Ya,List.mem_append];rcases h with h | h
  .split at h
   .exact .inl h
   .cases h
  .exact .inr (Zb8 h)
theorem Zh2 (p:Use->Bool):∀ {t:List Nd} {ks:List Bool},((X2 t ks).filter p).length<=((Ya t).filter p).length
 | [],ks=>by simp[X2]
 |n::r,[]=>by simp[X2]
 |n::r,k::ks=>by
  have:=Zh2 p (t:=r) (ks:=ks);simp only[X2,Ya,List.filter_append,List.length_append];split<;>simp<;>omega
theorem Zal0 (b:Bool)(t:List Nd)(hs:∀n∈t,n.Short)(hl:t.length < 2^30):Xq vE 67 [L 58 b (t.map Zo)] (Zbz (if 0 < sortL t then (t,0) else ([],6))):=by
 have h59:=Zsu b t hs hl;clear hs;by_cases hv:0 < sortL t
 .rw [if_pos hv];rw[decide_eq_true hv]at h59;cases t with
  |nil=>exact absurd hv (by decide)
  |cons n r=>
   simp only[List.map_cons,Xe]at h59 ⊢;clear hv;intro K H;refine Wc Tryz.func67 ?_
   (refine Zm ?_;repeat'(first|(refine Zi fun _=>?_;try simp(disch:=first|exact Zq|fail)[*,Yb,Tryz.f67,Xe])|refine Ye ?_|refine Zx ?_|refine Zn ?_ ?_))
 .rw [if_neg hv];rw[decide_eq_false hv]at h59;clear hv;intro K H;refine Wc Tryz.func67 ?_
  (refine Zm ?_;repeat'(first|(refine Zi fun _=>?_;try simp(disch:=first|exact Zq|fail)[*,Yb,Tryz.f67,Wn])|refine Ye ?_|refine Zx ?_|refine Zn ?_ ?_))
theorem Zaac (t:List Nd)(b:Bool):∀m k,below m (k+1) (L 58 b (t.map Zo))=true:=by
 intro m k;cases b<;>cases t<;>rfl
theorem Zkx (t:List Nd)(e:Int):∀m,below m 4 (Zbz (t,e))=true:=by
 intro m;simp only[below,List.all_cons,List.all_nil,Bool.and_true,Zaac]
theorem Zaai {t:List Nd}{tr:Tr}(v:VT t tr)(b:Bool):Xq vE 54 [L 58 b (t.map Zo)] (.int .i64 (Zl tr)):=by
 intro K H;obtain⟨p,vp,q,vq,ps,h1,hc,hV,Ro,Qg,ha3,ha4,Xa⟩:=Zir v b {base:=H.next,lo:=H.next,ok:=[]} {H with next:=H.next+19};simp only at hc Ro Qg Xa;have hv:=hV.view;have hr:=hV.row;have hlen:=hV.len;have h0:=hV.done 0 v.ne
 have hpa:partAt 257 t 0=(Zl tr,Yq tr,t.length):=by
  unfold partAt;rw[List.drop_zero,v.parse];simp
 rw[hpa]at h0;obtain⟨h01,h02⟩:=List.getElem?_eq_some_iff.1 h0;have Yp:=v.ne;have hl:=v.len;clear hV Xa h0 hpa;refine W6 (ok:=[]) (fn:=Tryz.f54) Tryz.func54 rfl rfl rfl (by simp) (by simp[reach]) (by simp) (by simp) (by simp) ?_ (by simp)
 (refine Zm ?_;repeat'(first|(refine Zi fun _=>?_;try simp(disch:=first|exact Zw|fail)[*,Yd,Tryz.f54])|refine Zx ?_|refine Zn ?_ ?_))
theorem Zals {t:List Nd}{tr:Tr}(v:VT t tr)(b:Bool):Xq vE 99 [L 58 b (t.map Zo)] (L 69 true ((Va (Ya t)).1.map Wi)):=by
 intro K H;obtain⟨p,vp,q,vq,ps,h1,hc,hV,Ro,Qg,ha3,ha4,Xa⟩:=Zir v b {base:=H.next,lo:=H.next,ok:=[]} {H with next:=H.next+22};simp only at hc Ro Qg Xa;have h109:=Zob (by omega) v.parse v.pos v.clean hV v.len {base:=H.next,lo:=H.next,ok:=[]} (by simp;omega) (by simp;omega) ha3 ha4;clear hV Xa;refine W6 (ok:=[]) (fn:=Tryz.f99) Tryz.func99 rfl rfl rfl (by simp) (by simp[reach]) (by simp) (by simp) (by simp) ?_ (by simp)
 (refine Zm ?_;repeat'(first|(refine Zi fun _=>?_;try simp(disch:=first|exact Zw|fail)[*,Yd,Tryz.f99])|refine Zx ?_|refine Zn ?_ ?_))
def Zq5 (l:List Use)(n:Nd):List Use:=if n.op=4 then [⟨false,n.name,[],n.sort⟩] else if n.op=5 then (l.find? (fun u=>u.name==n.name)).toList else []
def Sn (l:List Use)(out:List Nd):List Use:=out.flatMap (Zq5 l)
theorem Zxu {l:List Use}{t:List Nd}{i:Nat}(h:i < t.length):Sn l (t.drop i)=Zq5 l t[i]++Sn l (t.drop (i+1)):=by
 rw[List.drop_eq_getElem_cons h];rfl
def Zs5 (out:List Nd)(l:List Use):Prop:=∀i (h:i < out.length),out[i].op=5->∃k,∃hk:k < l.length,l.findIdx? (fun u=>u.name==out[i].name)=some k/\Zq5 l out[i]=[l[k]]/\l[k].fn=true
set_option maxHeartbeats 4000000 in
theorem Zwz (out:List Nd)(bo:Bool)(l:List Use)(hkn:Zs5 out l)(hol:out.length < 2^29)(S5:l.length < 2^29)(hla:∀g∈l,g.args.length < 2^30){p Zc a va b vb:Nat}{vs0 fs0:List Use}{h:PH}(hf0:∀g∈fs0,g.args.length < 2^30)(U:UM p Zc a va b vb vs0 fs0 h)(c:Code)(hc:Tryz.f56.body=some c):
  wp (Vt vE {base:=h.next,lo:=h.next,ok:=[p,a,b]} true c (R1 0 [.ptr p Zc 0,L 58 bo (out.map Zo),L 155 true (l.map Y8)]) {h with next:=h.next+Tryz.f56.ntmps}) fun r=>(r.1=.normal\/r.1=.ret)/\wp (Ut vE r.2.1 r.2.2 Tryz.f56.results.toList) fun vs=>
   inlT r.2.2 (Vh vs)=some (.bool (Wy vs0 fs0 (Sn l out)).1)/\ownT (Vh vs)=[]/\r.2.2.get p=h.get p/\r.2.2.get a=some (va,Zo1 (Wy vs0 fs0 (Sn l out)).2.1)/\r.2.2.get b=some (vb,Zo2 (Wy vs0 fs0 (Sn l out)).2.2):=by
 have W5:=Yg U.lp;have had:=Yg U.la;have hbd:=Yg U.lb;have Zry:(p=a)=False:=by simp[U.pa]
 have Zne:(p=b)=False:=by simp[U.pb]
 injection hc with hc
 subst hc
 (refine Zm ?_;repeat'(first|(refine Zi fun _=>?_;try simp(disch:=first|exact Zw|fail)[*,Yd,Tryz.f56,Ze U.lp,Ze U.la,Ze U.lb])|refine Zx ?_|refine Zn ?_ ?_))
 refine Zv [0,2,10,11] (fun n sl h'=>∃(i:Nat) (vs fs:List Use),n=out.length - i/\i<=out.length/\sl 12=some (.int .i64 i)/\Wy vs0 fs0 (Sn l out)=Wy vs fs (Sn l (out.drop i))/\UM p Zc a va b vb vs fs h'/\(∀g∈fs,g.args.length < 2^30)/\h.next+40<=h'.next/\h'.get p=h.get p) out.length rfl ⟨0,vs0,fs0,by simp,by simp,by simp,by simp,⟨U.o,U.v,U.f,U.pa,U.pb,U.ab,by simp;have:=U.lp;omega,by simp;have:=U.la;omega,by simp;have:=U.lb;omega⟩,hf0,by simp,rfl⟩ ?_;rintro n sl h' hf ⟨i,vs,fs,hn,hi,h12,Y5,U',Uq,Sj,hgp⟩;simp at hf;by_cases hlt:i < out.length
 .rw [Zxu hlt]at Y5;have Z3q:=hkn i hlt;generalize hti:out[i]=nn at *;obtain⟨op,sort,name,num,kids⟩:=nn;by_cases h4:op=4
  .subst h4;have hu:Zq5 l (⟨4,sort,name,num,kids⟩:Nd)=[⟨false,name,[],sort⟩]:=by simp[Zq5]
   rw[hu]at Y5;simp only[List.singleton_append,Wy,Bool.false_eq_true,if_false]at Y5;have Zsa:=fun (h2:PH) (U2:UM p Zc a va b vb vs fs h2) (K:Pure.Loc) (a1:can K p=true) (a2:can K a=true) (a3:can K b=true)=>Zwu U2 name sort K a1 a2 a3
   generalize Xr:Qq vs fs name sort=st at *;obtain⟨okk,vs2⟩:=st;simp only at Y5 Zsa
   (refine Zm ?_;repeat'(first|(refine Zi fun _=>?_;try simp(disch:=first|exact Zw|fail)[*,Yd,Ze U.lp,Ze U.la,Ze U.lb])|refine Zx ?_|refine Zn ?_ ?_))
   rw[Zsa _ (U'.frame (by simp[W5]) (by simp[had]) (by simp[hbd]) (by simp)) _ (by simp) (by simp) (by simp)];have U2:=(U'.frame (h2:=(h'.put (h.next+8) (h'.stamp (h.next+8)) (.cells [.int .i64 4,.int .i64 sort,.str name,.str num,.int .i64 kids]))) (by simp[W5]) (by simp[had]) (by simp[hbd]) (by simp)).put vs2 fs;cases okk with
   |true=>
    simp only[if_true]at Y5;clear Zsa Z3q hkn U2
    (refine Zm ?_;repeat'(first|(refine Zi fun _=>?_;try simp(disch:=first|exact Zw|fail)[*,Yd,Ze U.lp,Ze U.la,Ze U.lb])|refine Zx ?_|refine Zn ?_ ?_))
    exact⟨_,by omega,i+1,rfl,by omega,by omega,vs2,fs,rfl,(U'.frame (by simp[W5]) (by simp[had]) (by simp[hbd]) (by simp)).put vs2 fs,Uq⟩
   |false=>
    simp only[Bool.false_eq_true,if_false]at Y5;rw[Y5];clear Zsa Z3q hkn U2
    (refine Zm ?_;repeat'(first|(refine Zi fun _=>?_;try simp(disch:=first|exact Zw|fail)[*,Yd,Ze U.lp,Ze U.la,Ze U.lb])|refine Zx ?_|refine Zn ?_ ?_))
    simp[Zry,Zne,U.ab]
  .by_cases h5:op=5
   .subst h5;obtain⟨k,Q1,hfi,hus,Qi⟩:=Z3q rfl;simp only at hfi;rw[hus]at Y5;have hlk:=hla l[k] (List.getElem_mem Q1);have Zr9:=fun (h2:PH) (U2:UM p Zc a va b vb vs fs h2) (K:Pure.Loc) (a1:can K p=true) (a2:can K a=true) (a3:can K b=true)=>Zwt U2 l[k] hlk Uq K a1 a2 a3
    have h107:=fun (K:Pure.Loc) (H:PH) (Zu:can K (h.next+8)=true) (hlt:h.next+8 < H.next) (Zc:Nat) (hp:H.get (h.next+8)=some (Zc,.cells [.int .i64 5,.int .i64 sort,.str name,.str num,.int .i64 kids]))=>Z97 l k 5 sort kids name num hfi (by omega) K H (h.next+8) Zc Zu hlt hp
    generalize hlk':l[k]=u at *;simp only[List.singleton_append,Wy,Qi,if_true]at Y5
    have hfl2:∀g∈(Rp vs fs u).2,g.args.length < 2^30:=by
     unfold Rp;split
     .exact Uq
     .split
      .exact Uq
      .intro g hg;rcases List.mem_append.1 hg with hg | hg
       .exact Uq g hg
       .simp at hg;subst hg;exact hlk
    generalize Xr:Rp vs fs u=st at *;obtain⟨okk,fs2⟩:=st;simp only at Y5 Zr9 hfl2
    (refine Zm ?_;repeat'(first|(refine Zi fun _=>?_;try simp(disch:=first|exact Zw|fail)[*,Yd,Ze U.lp,Ze U.la,Ze U.lb])|refine Zx ?_|refine Zn ?_ ?_))
    clear h107;rw[Zr9 _ (U'.frame (by simp[W5]) (by simp[had]) (by simp[hbd]) (by simp)) _ (by simp) (by simp) (by simp)];cases okk with
    |true=>
     simp only[if_true]at Y5;clear Zr9 Z3q hkn
     (refine Zm ?_;repeat'(first|(refine Zi fun _=>?_;try simp(disch:=first|exact Zw|fail)[*,Yd,Ze U.lp,Ze U.la,Ze U.lb])|refine Zx ?_|refine Zn ?_ ?_))
     exact⟨_,by omega,i+1,rfl,by omega,by omega,vs,fs2,rfl,(U'.frame (by simp[W5]) (by simp[had]) (by simp[hbd]) (by simp)).put vs fs2,hfl2⟩
    |false=>
     simp only[Bool.false_eq_true,if_false]at Y5;rw[Y5];clear Zr9 Z3q hkn
     (refine Zm ?_;repeat'(first|(refine Zi fun _=>?_;try simp(disch:=first|exact Zw|fail)[*,Yd,Ze U.lp,Ze U.la,Ze U.lb])|refine Zx ?_|refine Zn ?_ ?_))
     simp[Zry,Zne,U.ab]
   .have hu:Zq5 l (⟨op,sort,name,num,kids⟩:Nd)=[]:=by simp[Zq5,h4,h5]
    rw[hu,List.nil_append]at Y5;clear Z3q hkn
    (refine Zm ?_;repeat'(first|(refine Zi fun _=>?_;try simp(disch:=first|exact Zw|fail)[*,Yd,Ze U.lp,Ze U.la,Ze U.lb])|refine Zx ?_|refine Zn ?_ ?_))
    exact⟨_,by omega,i+1,rfl,by omega,by omega,vs,fs,rfl,U'.frame (by simp[W5]) (by simp[had]) (by simp[hbd]) (by simp),Uq⟩
 .have e:i=out.length:=by omega
  subst e;rw[List.drop_length]at Y5;rw[Y5];have e0:Sn l []=[]:=rfl;rw[e0];simp only[Wy];have g1:=hgp;have g2:=U'.v;have g3:=U'.f;clear hkn Y5 Uq e0
  (refine Zm ?_;repeat'(first|(refine Zi fun _=>?_;try simp(disch:=first|exact Zw|fail)[*,Yd])|refine Zx ?_|refine Zn ?_ ?_))
theorem Zmr (us:List Use):∀s:List Use×List Use,∀u,u∈(us.foldl Zbu s).1↔u∈s.1\/(u∈us/\u.fn=false):=by
 induction us with
 |nil=>simp
 |cons x us ih=>
  intro s u;rw[List.foldl_cons,ih];unfold Zbu;cases hx:x.fn with
  |false=>
   simp only[Bool.false_eq_true,if_false,List.mem_cons];split
   .rename_i hm;constructor
    .rintro (h | h)
     .exact .inl h
     .exact .inr ⟨.inr h.1,h.2⟩
    .rintro (h | ⟨rfl | h,h'⟩)
     .exact .inl h
     .exact .inl hm
     .exact .inr ⟨h,h'⟩
   .simp only [List.mem_append,List.mem_singleton];constructor
    .rintro ((h | rfl) | h)
     .exact .inl h
     .exact .inr ⟨.inl rfl,hx⟩
     .exact .inr ⟨.inr h.1,h.2⟩
    .rintro (h | ⟨rfl | h,h'⟩)
     .exact .inl (.inl h)
     .exact .inl (.inr rfl)
     .exact .inr ⟨h,h'⟩
  |true=>
   simp only[if_true,List.mem_cons];constructor
   .rintro (h | h)
    .exact .inl h
    .exact .inr ⟨.inr h.1,h.2⟩
   .rintro (h | ⟨rfl | h,h'⟩)
    .exact .inl h
    .rw [hx]at h';cases h'
    .exact .inr ⟨h,h'⟩
theorem Zyf (us:List Use):∀s:List Use×List Use,(us.foldl Zbu s).1.length<=s.1.length+us.length:=by
 induction us with
 |nil=>simp
 |cons x us ih=>
  intro s;have h1:=ih (Zbu s x)
  have h2:(Zbu s x).1.length<=s.1.length+1:=by
   unfold Zbu;split
   .simp
   .simp only;split<;>simp
  simp only[List.foldl_cons,List.length_cons];omega
def Ql (r:List Nd):List Use:=(Va (Ya r)).1++(Va (Ya r)).2
theorem Ze0 {r:List Nd}{u:Use}:u∈Ql r↔u∈Ya r:=by
 unfold Ql Va;rw[List.mem_append,Zmr,Zjm];simp only[List.not_mem_nil,false_or];constructor
 .rintro (h | h)<;>exact h.1
 .intro h;cases hf:u.fn with
  |true=>exact .inr ⟨h,rfl⟩
  |false=>exact .inl ⟨h,rfl⟩
theorem Zdz (b:List Use):∀(a vs fs:List Use),Wy vs fs (a++b)=if (Wy vs fs a).1 then Wy (Wy vs fs a).2.1 (Wy vs fs a).2.2 b else Wy vs fs a
 | [],vs,fs=>by simp[Wy]
 |u::a,vs,fs=>by
  simp only[List.cons_append,Wy];split
  .split
   .rw [Zdz b a]
   .simp
  .split
   .rw [Zdz b a]
   .simp
theorem Z1l {vs fs:List Use}{u:Use}(hf:∀g∈fs,g.args.length < 2^30)(hu:u.args.length < 2^30):∀g∈(Rp vs fs u).2,g.args.length < 2^30:=by
 unfold Rp;split
 .exact hf
 .split
  .exact hf
  .intro g hg;rcases List.mem_append.1 hg with hg | hg
   .exact hf g hg
   .simp at hg;subst hg;exact hu
theorem Zja:∀(us vs fs:List Use),(∀g∈fs,g.args.length < 2^30)->(∀u∈us,u.args.length < 2^30)->∀g∈(Wy vs fs us).2.2,g.args.length < 2^30
 | [],vs,fs,hf,hu=>hf
 |u::us,vs,fs,hf,hu=>by
  have hu':∀w∈us,w.args.length < 2^30:=fun w hw=>hu w (by simp[hw])
  have h1:=Z1l (vs:=vs) hf (hu u (by simp));simp only[Wy];split
  .split
   .exact Zja us _ _ h1 hu'
   .exact h1
  .split
   .exact Zja us _ _ hf hu'
   .exact hf
set_option maxHeartbeats 4000000 in
theorem Zaeh {r:List Nd}{tr:Tr}(vr:VT r tr)(bb:Bool){p Zc a va b vb:Nat}{vs0 fs0:List Use}{h:PH}(hf0:∀g∈fs0,g.args.length < 2^30)(U:UM p Zc a va b vb vs0 fs0 h)(K:Pure.Loc)(hp:can K p=true)(ha:can K a=true)(hb:can K b=true):
  Yh vE K 55 [.ptr p Zc 0,L 58 bb (r.map Zo)] h=some (.bool (Wy vs0 fs0 (Ql r)).1,(h.put a va (Zo1 (Wy vs0 fs0 (Ql r)).2.1)).put b vb (Zo2 (Wy vs0 fs0 (Ql r)).2.2)):=by
 refine Zg3 (fn:=Tryz.f55) Tryz.func55 rfl rfl rfl (by simp) (by simpa using U.reach) (U.can hp ha hb) U.belowP ?_ (by simp) (Zay _ _) (Zaz _ _);have h99:=Zals vr bb;have h57:=Zaah vr bb
 have hvl:∀u∈(Va (Ya r)).1,u.fn=false:=fun u hu=>by
  unfold Va at hu;rw[Zmr]at hu;simp at hu;exact hu.2
 have Uq:∀u∈(Va (Ya r)).2,u.fn=true/\u.args.length < 2^30:=fun u hu=>by
  unfold Va at hu;rw[Zjm]at hu;simp at hu;exact⟨hu.2,vr.args u hu.1⟩
 have hl1:(Va (Ya r)).1.length<=20000:=by
  have h1:=Zyf (Ya r) ([],[]);have h2:=Zdu r;have h3:=vr.len;unfold Va;simp at h1;omega
 have hl2:(Va (Ya r)).2.length<=20000:=by
  have h1:=Zpw (Ya r) ([],[]);have h2:=Zdu r;have h3:=vr.len;unfold Va;simp at h1;omega
 unfold Ql;generalize (Va (Ya r)).1=vl at *;generalize (Va (Ya r)).2=fl at *;have W5:=Yg U.lp;have had:=Yg U.la;have hbd:=Yg U.lb;have Zry:(p=a)=False:=by simp[U.pa]
 have Zne:(p=b)=False:=by simp[U.pb]
 clear vr;replace hvl:=Hide.mk hvl;replace Uq:=Hide.mk Uq;replace hf0:=Hide.mk hf0
 (refine Zm ?_;repeat'(first|(refine Zi fun _=>?_;try simp(disch:=first|exact Zw|fail)[*,Yd,Tryz.f55,Ze U.lp,Ze U.la,Ze U.lb])|refine Zx ?_|refine Zn ?_ ?_))
 refine Zv [0,1,10,11] (fun n sl h'=>∃(i:Nat) (vs fs:List Use),n=vl.length - i/\i<=vl.length/\sl 12=some (.int .i64 i)/\Wy vs0 fs0 (vl++fl)=Wy vs fs (vl.drop i++fl)/\UM p Zc a va b vb vs fs h'/\(∀g∈fs,g.args.length < 2^30)/\h.next+36<=h'.next/\h'.get p=h.get p) vl.length rfl ⟨0,vs0,fs0,by simp,by simp,by simp,by simp,⟨U.o,U.v,U.f,U.pa,U.pb,U.ab,by simp;have:=U.lp;omega,by simp;have:=U.la;omega,by simp;have:=U.lb;omega⟩,hf0.get,by simp,rfl⟩ ?_;rintro n sl h' hf ⟨i,vs,fs,hn,hi,h12,Y5,U',hfa,Sj,hgp⟩;simp at hf;by_cases hlt:i < vl.length
 .rw [List.drop_eq_getElem_cons hlt]at Y5;have hufn:=hvl.get vl[i] (List.getElem_mem hlt);generalize hui:vl[i]=u at *;simp only[List.cons_append,Wy,hufn,Bool.false_eq_true,if_false]at Y5;have Zsa:=fun (h2:PH) (U2:UM p Zc a va b vb vs fs h2) (K:Pure.Loc) (a1:can K p=true) (a2:can K a=true) (a3:can K b=true)=>Zwu U2 u.name u.sort K a1 a2 a3
  generalize Xr:Qq vs fs u.name u.sort=st at *;obtain⟨okk,vs2⟩:=st;simp only at Y5 Zsa;clear h99 h57
  (refine Zm ?_;repeat'(first|(refine Zi fun _=>?_;try simp(disch:=first|exact Zw|fail)[*,Yd,Ze U.lp,Ze U.la,Ze U.lb])|refine Zx ?_|refine Zn ?_ ?_))
  rw[Zsa _ (U'.frame (by simp[W5]) (by simp[had]) (by simp[hbd]) (by simp)) _ (by simp) (by simp) (by simp)];cases okk with
  |true=>
   simp only[if_true]at Y5;clear Zsa
   (refine Zm ?_;repeat'(first|(refine Zi fun _=>?_;try simp(disch:=first|exact Zw|fail)[*,Yd,Ze U.lp,Ze U.la,Ze U.lb])|refine Zx ?_|refine Zn ?_ ?_))
   exact⟨_,by omega,i+1,rfl,by omega,by omega,vs2,fs,rfl,(U'.frame (by simp[W5]) (by simp[had]) (by simp[hbd]) (by simp)).put vs2 fs,hfa⟩
  |false=>
   simp only[Bool.false_eq_true,if_false]at Y5;rw[Y5];clear Zsa
   (refine Zm ?_;repeat'(first|(refine Zi fun _=>?_;try simp(disch:=first|exact Zw|fail)[*,Yd,Ze U.lp,Ze U.la,Ze U.lb])|refine Zx ?_|refine Zn ?_ ?_))
   simp[Zry,Zne,U.ab]
 .have e:i=vl.length:=by omega
  subst e;rw[List.drop_length,List.nil_append]at Y5;clear h99
  (refine Zm ?_;repeat'(first|(refine Zi fun _=>?_;try simp(disch:=first|exact Zw|fail)[*,Yd,Ze U.lp,Ze U.la,Ze U.lb])|refine Zx ?_|refine Zn ?_ ?_))
  refine Zv [0,25,26] (fun n sl h2=>∃(i:Nat) (vs2 fs2:List Use),n=fl.length - i/\i<=fl.length/\sl 27=some (.int .i64 i)/\Wy vs0 fs0 (vl++fl)=Wy vs2 fs2 (fl.drop i)/\UM p Zc a va b vb vs2 fs2 h2/\(∀g∈fs2,g.args.length < 2^30)/\h.next+36<=h2.next/\h2.get p=h.get p) fl.length rfl ⟨0,vs,fs,by simp,by simp,by simp,by simpa using Y5,U',hfa,Sj,hgp⟩ ?_;clear Y5 U' hfa Sj hgp hlt hi hn h12;rintro n sl2 h' hf2 ⟨i,vs,fs,hn,hi,h27,Y5,U',hfa,Sj,hgp⟩;simp[hf]at hf2;clear hf;by_cases hlt:i < fl.length
  .rw [List.drop_eq_getElem_cons hlt]at Y5;obtain⟨hufn,hua⟩:=Uq.get fl[i] (List.getElem_mem hlt);generalize hui:fl[i]=u at *;simp only[Wy,hufn,if_true]at Y5;have Zv0:=Z1l (vs:=vs) hfa hua;have Zr9:=fun (h2:PH) (U2:UM p Zc a va b vb vs fs h2) (K:Pure.Loc) (a1:can K p=true) (a2:can K a=true) (a3:can K b=true)=>Zwt U2 u hua hfa K a1 a2 a3
   generalize Xr:Rp vs fs u=st at *;obtain⟨okk,fs2⟩:=st;simp only at Y5 Zr9 Zv0;clear h57;replace Zv0:=Hide.mk Zv0;replace hfa:=Hide.mk hfa
   (refine Zm ?_;repeat'(first|(refine Zi fun _=>?_;try simp(disch:=first|exact Zw|fail)[*,Yd,Ze U.lp,Ze U.la,Ze U.lb])|refine Zx ?_|refine Zn ?_ ?_))
   rw[Zr9 _ (U'.frame (by simp[W5]) (by simp[had]) (by simp[hbd]) (by simp)) _ (by simp) (by simp) (by simp)];cases okk with
   |true=>
    simp only[if_true]at Y5;clear Zr9
    (refine Zm ?_;repeat'(first|(refine Zi fun _=>?_;try simp(disch:=first|exact Zw|fail)[*,Yd,Ze U.lp,Ze U.la,Ze U.lb])|refine Zx ?_|refine Zn ?_ ?_))
    exact⟨_,by omega,i+1,rfl,by omega,by omega,vs,fs2,rfl,(U'.frame (by simp[W5]) (by simp[had]) (by simp[hbd]) (by simp)).put vs fs2,Zv0.get⟩
   |false=>
    simp only[Bool.false_eq_true,if_false]at Y5;rw[Y5];clear Zr9
    (refine Zm ?_;repeat'(first|(refine Zi fun _=>?_;try simp(disch:=first|exact Zw|fail)[*,Yd,Ze U.lp,Ze U.la,Ze U.lb])|refine Zx ?_|refine Zn ?_ ?_))
    simp[Zry,Zne,U.ab]
  .have e:i=fl.length:=by omega
   subst e;rw[List.drop_length]at Y5;rw[Y5];simp only[Wy];have g1:=hgp;have g2:=U'.v;have g3:=U'.f;clear Y5 hfa
   (refine Zm ?_;repeat'(first|(refine Zi fun _=>?_;try simp(disch:=first|exact Zw|fail)[*,Yd])|refine Zx ?_|refine Zn ?_ ?_))
theorem VT.flatE {t:List Nd}{tr:Tr}(v:VT t tr):t=flat tr/\WF tr:=by
 obtain⟨e,w⟩:=Zmn v.parse;exact⟨by rw[e,List.append_nil],w⟩
theorem VT.depth {t:List Nd}{tr:Tr}(v:VT t tr):Yq tr<=257:=R7 v.parse
theorem VT.usesE {t:List Nd}{tr:Tr}(v:VT t tr):Ya t=R2 tr:=by
 obtain⟨e,w⟩:=v.flatE;have:=Zf7 w (by have:=v.depth;omega);rw[<- e]at this;exact this
theorem Z1j {t:List Nd}{tr:Tr}(v:VT t tr){i:Nat}(hi:i < t.length)(h5:t[i].op=5):∃k,∃hk:k < (Ww t).length,(Ww t).findIdx? (fun u=>u.name==t[i].name)=some k/\(Ww t).find? (fun u=>u.name==t[i].name)=some (Ww t)[k]/\Xl t[i] (t.drop (i+1))=[(Ww t)[k]]/\(Ww t)[k].fn=true:=by
 obtain⟨ks,r,kn,hk,hm,Q1,hu⟩:=v.app hi h5
 have Sg:(⟨true,t[i].name,Ym ks,t[i].sort⟩:Use)∈Ya t:=by
  have h1:=Q4 hi;exact Zq4 hi (by rw[h1,hu];simp)
 have hmf:(⟨true,t[i].name,Ym ks,t[i].sort⟩:Use)∈Ww t:=Zjz.2 ⟨Sg,rfl⟩;cases hf:(Ww t).findIdx? (fun u=>u.name==t[i].name) with
 |none=>
  have:=List.findIdx?_eq_none_iff.1 hf _ hmf;simp at this
 |some k=>
  obtain⟨Q1,Yp,hall⟩:=List.findIdx?_eq_some_iff_getElem.1 hf;have hnm:(Ww t)[k].name=t[i].name:=by simpa using Yp
  have hm2:=Zjz.1 (List.getElem_mem Q1);have e:(Ww t)[k]=⟨true,t[i].name,Ym ks,t[i].sort⟩:=v.clean _ hm2.1 _ Sg hnm;refine⟨k,Q1,rfl,?_,by rw[hu,e],hm2.2⟩;rw[List.find?_eq_some_iff_getElem];exact⟨Yp,k,Q1,rfl,fun j hj=>by simpa using hall j hj⟩
theorem Zz8 {t:List Nd}{tr:Tr}(v:VT t tr){i:Nat}(hi:i < t.length):Zq5 (Ww t) t[i]=Xl t[i] (t.drop (i+1)):=by
 unfold Zq5;by_cases h4:t[i].op=4
 .rw [if_pos h4];simp[Xl,h4]
 .rw [if_neg h4];by_cases h5:t[i].op=5
  .rw [if_pos h5];obtain⟨k,hk,h1,h2,h3,h4⟩:=Z1j v hi h5;rw[h2,h3];rfl
  .rw [if_neg h5];simp[Xl,h4,h5]
theorem Zqu {a b:List Use}(h:∀u∈a,u∈b)(hb:Clean b):Clean a:=fun u hu w hw e=>hb u (h u hu) w (h w hw) e
theorem Zrf {us:List Use}(ha:∀u∈us,u.fn=false->u.args=[]):(Wy [] [] us).1=Yv us:=by
 have h:=Zme us [] [] [] (by simp) (by simp) (by simp[Clean]) (by simpa using ha);rw[List.nil_append]at h;rw[Bool.eq_iff_iff,h];simp[Yv]
theorem VT.kids {t:List Nd}{tr:Tr}(v:VT t tr):∀n∈t,0<=n.kids/\n.kids < 2^60:=by
 intro n hn;obtain⟨i,hi,rfl⟩:=List.getElem_of_mem hn;obtain⟨t1,t2,hF,hk,_⟩:=Zjk (d:=256) v.parse v.pos hi;have h1:=hF.le;have h2:=v.len;rw[List.length_append,List.length_drop]at h1;omega
theorem Z9y (out:List Nd)(bo:Bool)(l:List Use)(hkn:Zs5 out l)(hol:out.length < 2^29)(S5:l.length < 2^29)(hla:∀g∈l,g.args.length < 2^30){p Zc a va b vb:Nat}{vs0 fs0:List Use}{h:PH}(hf0:∀g∈fs0,g.args.length < 2^30)(U:UM p Zc a va b vb vs0 fs0 h)(K:Pure.Loc)(hp:can K p=true)(ha:can K a=true)(hb:can K b=true):
  ∃h',Yh vE K 56 [.ptr p Zc 0,L 58 bo (out.map Zo),L 155 true (l.map Y8)] h=some (.bool (Wy vs0 fs0 (Sn l out)).1,h')/\∀j,j≠p->j≠a->j≠b->h'.get j=h.get j:=by
 refine⟨_,Zg3 (va:=va) (vb:=vb) (fn:=Tryz.f56) Tryz.func56 rfl rfl rfl (by simp) (by simpa using U.reach) (U.can hp ha hb) U.belowP ?_ (by simp) (Zay (Wy vs0 fs0 (Sn l out)).2.1 _) (Zaz (Wy vs0 fs0 (Sn l out)).2.2 _),fun j _ ha hb=>by simp[ha,hb]⟩;exact Zwz out bo l hkn hol S5 hla hf0 U _ rfl
theorem Z9z (out:List Nd)(l:List Use)(hkn:Zs5 out l)(hol:out.length < 2^29)(S5:l.length < 2^29)(hla:∀g∈l,g.args.length < 2^30){p Zc a va b vb q vq:Nat}{h:PH}{vs0 fs0:List Use}(hf0:∀g∈fs0,g.args.length < 2^30)(U:UM p Zc a va b vb vs0 fs0 h)(hq:h.get q=some (vq,.row 58 true (out.map Zo)))(hqp:q≠p)(hqa:q≠a)(hqb:q≠b)(K:Pure.Loc)(hp:can K p=true)(ha:can K a=true)(hb:can K b=true)(hcq:can K q=true):
  ∃h',Yh vE K 56 [.ptr p Zc 0,.own q vq 58 0 out.length,L 155 true (l.map Y8)] h=some (.bool (Wy vs0 fs0 (Sn l out)).1,h')/\∀j,j≠p->j≠a->j≠b->j≠q->h'.get j=h.get j:=by
 refine Ztr (fn:=Tryz.f56) (ok:=[p,a,b]) (args':=[.ptr p Zc 0,.lst 58 (out.map Zo),L 155 true (l.map Y8)]) Tryz.func56 rfl rfl rfl (by simp[hq];exact List.take_of_length_le (by simp)) (by simpa using U.reach) (U.can hp ha hb) (by simp only[List.flatMap_cons,List.flatMap_nil];simpa using hcq) ?_;have hids:[PV.ptr p Zc 0,.own q vq 58 0 out.length,L 155 true (l.map Y8)].flatMap ownV=[q]:=by simp
 rw[hids];have hfz:h.freeze [q]=h.put q vq (.row 58 false (out.map Zo)):=by simp[hq]
 have U2:UM p Zc a va b vb vs0 fs0 (h.freeze [q]):=by
  rw[hfz];exact U.frame (by simp[Ne.symm hqp]) (by simp[Ne.symm hqa]) (by simp[Ne.symm hqb]) (Nat.le_refl _)
 have hb56:=Zwz out false l hkn hol S5 hla hf0 U2 _ rfl;have Sj:(h.freeze [q]).next=h.next:=by rw[hfz];rfl
 rw[Sj]at hb56;refine Pure.wp_mono hb56 ?_;rintro r ⟨h1,h2⟩;refine⟨h1,Pure.wp_mono h2 ?_⟩;rintro vs ⟨e1,e2,e3,e4,e5⟩;refine⟨e1,e2,rfl,.inl ⟨?_,?_,?_⟩⟩
 .have hbp:=U2.belowP;rw[Sj]at hbp;simp only[List.all_cons,List.all_nil,Bool.and_true,PH.belowAt,e4,e5,Zay,Zaz];unfold PH.belowAt at hbp;rw[e3];exact hbp
 .intro j hj1 hj2 hj3 hj4;exact U3 (by simp[hj1,hj2,hj3])
 .intro j hj1 hj2 hj3 hj4;rw[U3 (by simp[hj1,hj2,hj3]),hfz];simp[hj4]
abbrev zN:PV:=.agg [.int .i64 0,.int .i64 0,.str [],.str [],.int .i64 0]
theorem Zzu (K:Pure.Loc)(h:PH)(n:Nat)(h0:0 < n)(hl:n<=20000):Zw2 vE K h 22 (.slice 58) (.int .i64) .nils (.int .i64 n)=some (.own (K.base+22) (h.stamp (K.base+22)) 58 0 n,h.put (K.base+22) (h.stamp (K.base+22)) (.row 58 true (List.replicate n zN))):=by
 have h1:(0:Int)<=n/\(n:Int)<=(Virt.maxLenV:Nat):=by rw[Rm];omega
 have h2:(n:Int)≠0:=by omega
 simp[Zw2,h1,h2];omega
theorem Z93 (n:Nat)(hn:0 < n)(hl:n<=20000)(K:Pure.Loc)(h:PH)(hK:K.lo<=h.next):∃Zc h',Yh vE K 140 [.nils,.int .i64 n] h=some (.own (h.next+22) Zc 58 0 0,h')/\h'.get (h.next+22)=some (Zc,.row 58 true (List.replicate n zN))/\h'.next=h.next+27/\∀j,j < h.next->h'.get j=h.get j:=by
 have key:wp (Yh vE K 140 [.nils,.int .i64 n] h) fun r=>∃Zc h',r=(.own (h.next+22) Zc 58 0 0,h')/\h'.get (h.next+22)=some (Zc,.row 58 true (List.replicate n zN))/\h'.next=h.next+27/\∀j,j < h.next->h'.get j=h.get j:=by
  refine Zlz (fn:=Tryz.f140) (by rfl) Tryz.func140 rfl rfl ?_;have hz:=fun K h=>Zzu K h n hn hl
  (refine Zm ?_;repeat'(first|(refine Zi fun _=>?_;try simp(disch:=first|exact Zw|fail)[*,Yd,Tryz.f140])|refine Zx ?_|refine Zn ?_ ?_))
  refine⟨_,_,⟨rfl,rfl⟩,?_⟩;rw[if_neg]
  .exact ⟨by simp,rfl,fun j hj=>by simp;omega⟩
  .rw [Bool.not_eq_true];unfold Zid;rw[List.all_eq_false];exact⟨22,by simp,by simp⟩
 obtain⟨r,h1,Zc,h',rfl,h2⟩:=X5.1 key;exact⟨Zc,h',h1,h2⟩
abbrev Rj (p:List Nd):PV:=L 58 true (p.map Zo)
theorem flat_take {ps:List (List Nd)}{i:Nat}(h:i < ps.length):(ps.take (i+1)).flatten=(ps.take i).flatten++ps[i]:=by
 rw[Q5 ps i h,List.flatten_append,List.flatten_cons,List.flatten_nil,List.append_nil]
theorem Z1m (ps:List (List Nd))(i:Nat):(ps.take i).flatten.length<=ps.flatten.length:=by
 conv=>rhs;rw[<- List.take_append_drop i ps]
 rw[List.flatten_append,List.length_append];omega
set_option maxHeartbeats 2000000 in
theorem Zafz (b:Bool)(ps:List (List Nd))(Yp:ps.flatten≠[])(hl:ps.flatten.length<=20000)(hk:ps.length<=2^20):Xq vE 110 [L 23 b (ps.map Rj)] (.lst 58 (ps.flatten.map Zo)):=by
 have Tz:0 < ps.flatten.length:=List.length_pos_iff.2 Yp;obtain⟨F,hF⟩:∃F:Nat->List PV,∀i,(ps.take i).flatten.map Zo=F i:=⟨_,fun _=>rfl⟩
 have hF0:F 0=[]:=by rw[<- hF];rfl
 have hFe:F ps.length=ps.flatten.map Zo:=by rw[<- hF,List.take_length]
 have hFs:∀i (hi:i < ps.length),F (i+1)=F i++ps[i].map Zo:=fun i hi=>by rw[<- hF,<- hF,flat_take hi,List.map_append]
 have hFl:∀i,(F i).length<=20000:=fun i=>by rw[<- hF,List.length_map];exact Nat.le_trans (Z1m ps i) hl
 have hlen:ps.flatten.length=(F ps.length).length:=by rw[hFe,List.length_map]
 rw[<- hFe];rw[hlen]at Tz hl;clear hF hFe hlen Yp;replace hFs:=Hide.mk hFs;replace hFl:=Hide.mk hFl;intro K H;refine Wc Tryz.func110 ?_
 (refine Zm ?_;repeat'(first|(refine Zi fun _=>?_;try simp(disch:=first|exact Zw|fail)[*,Yd,Tryz.f110])|refine Zx ?_|refine Zn ?_ ?_))
 refine Zv [0,9,10] (fun n sl h=>∃i:Nat,n=ps.length - i/\i<=ps.length/\sl 11=some (.int .i64 i)/\sl 3=some (.int .i64 ((F i).length:Nat))/\h={H with next:=H.next+36}) ps.length rfl ⟨0,by simp,by simp,by simp,by simp[hF0],rfl⟩ ?_;rintro n sl h hf ⟨i,hn,hi,h11,h3,rfl⟩;simp at hf;by_cases hlt:i < ps.length
 .have h1:=hFl.get (i+1);have h2:=hFs.get i hlt;rw[h2,List.length_append,List.length_map]at h1;generalize hpi:ps[i]=p at *;have h2l:Hide ((F (i+1)).length=(F i).length+p.length):=Hide.mk (by rw[h2,List.length_append,List.length_map]);clear h2;generalize (F i).length=q at *
  (refine Zm ?_;repeat'(first|(refine Zi fun _=>?_;try simp(disch:=first|exact Zw|fail)[*,Yd])|refine Zx ?_|refine Zn ?_ ?_))
  exact⟨_,by omega,i+1,rfl,by omega,by omega,by rw[h2l.get];omega⟩
 .have e:i=ps.length:=by omega
  subst e;obtain⟨Zc,h',hc,hg,Sj,Xa⟩:=Z93 (F ps.length).length Tz hl {base:=H.next,lo:=H.next,ok:=[]} {H with next:=H.next+36} (by simp);simp only at hc hg Sj;clear Xa
  (refine Zm ?_;repeat'(first|(refine Zi fun _=>?_;try simp(disch:=first|exact Zw|fail)[*,Yd])|refine Zx ?_|refine Zn ?_ ?_))
  refine Zv [25,26] (fun n sl h=>∃(i v2:Nat) (rest:List PV),n=ps.length - i/\i<=ps.length/\sl 27=some (.int .i64 i)/\sl 6=some (.own (H.next+36+22) v2 58 0 (F i).length)/\h.get (H.next+36+22)=some (v2,.row 58 true (F i++rest))) ps.length rfl ⟨0,Zc,_,by simp,by simp,by simp,by simp[hF0],by rw[hF0];simpa using hg⟩ ?_;clear hc hg Sj h11 h3 hf hlt hi hn;rintro n sl h hf ⟨i,v2,rest,hn,hi,h27,h6,hg⟩;simp at hf;by_cases hlt:i < ps.length
  .have h1:=hFl.get (i+1);have h2:=hFs.get i hlt;rw[h2,List.length_append,List.length_map]at h1;generalize hpi:ps[i]=p at *;replace h2:=Hide.mk h2;generalize hQ:F i=Q at *
   (refine Zm ?_;repeat'(first|(refine Zi fun _=>?_;try simp(disch:=first|exact Zw|fail)[*,Yd,-PH.elems])|refine Zx ?_|refine Zn ?_ ?_))
   exact⟨_,by omega,i+1,rfl,by omega,by omega,_,⟨rfl,by rw[h2.get];simp⟩,rfl,[],by rw[h2.get];simp⟩
  .have e:i=ps.length:=by omega
   subst e
   (refine Zm ?_;repeat'(first|(refine Zi fun _=>?_;try simp(disch:=first|exact Zw|fail)[*,Yd])|refine Zx ?_|refine Zn ?_ ?_))
   omega
abbrev nI (k:Nat):PV:=.int .i64 (k:Int)
def Stk (id:Nat)(h:PH)(v:PV)(st:List Nat):Prop:=(st=[]/\v=.nils)\/∃Zc rest,v=.own id Zc 3 0 st.length/\h.get id=some (Zc,.row 3 true (st.reverse.map nI++rest))
theorem Stk.lenK {id:Nat}{h:PH}{v:PV}{st:List Nat}(S:Stk id h v st):Pure.lenK (.slice 3) v=some (.int .i64 st.length):=by
 rcases S with⟨rfl,rfl⟩ | ⟨Zc,rest,rfl,_⟩<;>rfl
theorem Stk.frame {id:Nat}{h h':PH}{v:PV}{st:List Nat}(S:Stk id h v st)(hg:h'.get id=h.get id):Stk id h' v st:=by
 rcases S with h1 | ⟨Zc,rest,e,h2⟩
 .exact .inl h1
 .exact .inr ⟨Zc,rest,e,by rw[hg,h2]⟩
theorem Stk.same {id n:Nat}{h:PH}{v:PV}{st:List Nat}(S:Stk id h v st):W2 n v=true:=by
 rcases S with⟨rfl,rfl⟩ | ⟨Zc,rest,rfl,_⟩<;>cases n<;>rfl
theorem Stk.app {id d:Nat}{h:PH}{v:PV}{st:List Nat}{K:Pure.Loc}{T:Ty}(S:Stk id h v st)(hid:id=K.base+d)(hK:can K id=true)(h1:st.length+1<=1073741824)(h2:T.bytes<=65536)(h3:0 < T.size)(k:Nat):
  ∃v' h',Xk K h d 3 T 1 [nI k] v=some (v',h')/\Stk id h' v' (k::st)/\h'.next=h.next/\∀j,j≠id->h'.get j=h.get j:=by
 subst hid;rcases S with⟨rfl,rfl⟩ | ⟨Zc,rest,rfl,hg⟩
 .refine ⟨_,_,Q2 (by omega) h2 h3 (by decide),.inr ⟨h.stamp (K.base+d),[],by simp,by simp⟩,rfl,fun j hj=>by simp[hj]⟩
 .have hr:h.row (K.base+d) Zc 3=some (true,st.reverse.map nI++rest):=by simp[PH.row,hg]
  refine⟨_,_,((by rw[Qf,hr];rfl:Xk K h d 3 T 1 [nI k] (.own (K.base+d) Zc 3 0 st.length)=Zw3 K h T 3 (K.base+d) Zc 0 st.length 1 [nI k] (true,st.reverse.map nI++rest)).trans (Zlt h1 h2 h3 hK rfl (by simp))),.inr ⟨Zc+1,[],by simp,?_⟩,rfl,fun j hj=>by simp[hj]⟩;simp
set_option maxHeartbeats 4000000 in
theorem Zafy (b:Bool)(t:List Nd)(hl:t.length<=20000)(hk:∀n∈t,0<=n.kids/\n.kids < 2^60):Xq vE 111 [L 58 b (t.map Zo)] (.bool (Tk [] t)):=by
 have hV:∃V,Tk [] t=V:=⟨_,rfl⟩
 obtain⟨V,hV⟩:=hV;rw[hV];replace hk:=Hide.mk hk;intro K H;refine Wc Tryz.func111 ?_
 (refine Zm ?_;repeat'(first|(refine Zi fun _=>?_;try simp(disch:=first|exact Zw|fail)[*,Yd,Tryz.f111])|refine Zx ?_|refine Zn ?_ ?_))
 refine Zv [6,7] (fun n sl h=>∃(i:Nat) (st:List Nat) (w:PV),n=t.length - i/\i<=t.length/\sl 8=some (.int .i64 i)/\sl 3=some w/\Stk (H.next+47) h w st/\st.length<=i/\(∀x∈st,x < 2^60)/\Tk st (t.drop i)=V) t.length rfl ⟨0,[],.nils,by simp,by simp,by simp,by simp,.inl ⟨rfl,rfl⟩,by simp,by simp,by simpa using hV⟩ ?_;rintro n sl h hf ⟨i,st,w,hn,hi,h8,h3,S,hsl,hbd,hd⟩;simp at hf;by_cases hlt:i < t.length
 .rw [List.drop_eq_getElem_cons hlt]at hd;have hkk:=hk.get t[i] (List.getElem_mem hlt);generalize htd:t[i]=d at *;obtain⟨op,sort,name,num,kids⟩:=d;simp only at hkk;obtain⟨k,rfl⟩:∃k:Nat,kids=(k:Int):=⟨kids.toNat,by omega⟩
  simp only[Tk,Int.toNat_natCast]at hd;replace hd:=Hide.mk hd;have hlk:=S.lenK;replace hbd:=Hide.mk hbd
  (refine Zm ?_;repeat'(first|(refine Zi fun _=>?_;try simp(disch:=first|exact Zw|fail)[*,Yd])|refine Zx ?_|refine Zn ?_ ?_))
  refine Zv [5,6,7,8] (fun m sl2 h2=>∃(st2:List Nat) (w2:PV),m=st2.length/\st2.length<=i/\(∀x∈st2,x < 2^60)/\Zhj st2=Zhj st/\sl2 3=some w2/\Stk (H.next+47) h2 w2 st2/\h2.get (H.next+5)=some (h.stamp (H.next+5),.cells [.int .i64 op,.int .i64 sort,.str name,.str num,.int .i64 (k:Int)])) st.length rfl ⟨st,w,rfl,hsl,hbd.get,rfl,by simp[*],S.frame (by simp),by simp⟩ ?_;rintro m sl2 h2 hf2 ⟨st2,w2,hm,hs2,Z84,hpop,h32,S2,hg5⟩;simp[hf]at hf2;have hlk2:=S2.lenK;replace Z84:=Hide.mk Z84;cases st2 with
  |nil=>
   have hp0:Zhj st=[]:=by rw[<- hpop];rfl
   have hd2:=hd.get;rw[hp0]at hd2;simp[Zzp]at hd2;obtain⟨w3,h3',hap,S3,Sj,Zk⟩:=S2.app (d:=47) (K:={base:=H.next,lo:=H.next,ok:=[]}) (T:={k:=.int .i64,size:=1,bytes:=8,zero:=[.int .i64 0]}) rfl (by simp) (by simp) (by decide) (by decide) k;simp only[List.length_nil,List.length_cons]at hlk2;clear hlk S
   (refine Zm ?_;repeat'(first|(refine Zi fun _=>?_;try simp(disch:=first|exact Zw|fail)[*,Yd])|refine Zx ?_|refine Zn ?_ ?_))
   exact⟨_,by omega,i+1,rfl,by omega,by omega,[k],S3,by simp,by simp;omega,hd2⟩
  |cons q st2=>
   rcases S2 with⟨e0,_⟩ | ⟨Zc,rest,rfl,hgs⟩
   .cases e0
   simp only[List.length_cons,List.reverse_cons,List.map_append,List.map_cons,List.map_nil,List.append_assoc,List.singleton_append]at hgs hlk2 hs2 hm ⊢;have hrl:(st2.reverse.map nI).length=st2.length:=by simp
   generalize hRV:st2.reverse.map nI=RV at *;by_cases hq:q=0
   .subst hq;have Zaqo:Zhj st2=Zhj st:=by rw[<- hpop];simp[Zhj]
    clear hlk S hd
    (refine Zm ?_;repeat'(first|(refine Zi fun _=>?_;try simp(disch:=first|exact Zw|fail)[*,Yd])|refine Zx ?_|refine Zn ?_ ?_))
    exact⟨_,by omega,st2,rfl,by omega,fun x hx=>Z84.get x (by simp[hx]),Zaqo,.inr ⟨Zc,nI 0::rest,rfl,by rw[hRV];exact hgs⟩⟩
   .have hqb:=Z84.get q (by simp);have hp1:Zhj st=q::st2:=by rw[<- hpop];exact Zpp (by simp[hq])
    have hd2:=hd.get;rw[hp1]at hd2;simp only[List.length_cons,Zzp]at hd2;clear hlk S hd;by_cases Zc0:256 < st2.length+1
    .rw [if_pos Zc0]at hd2;subst hd2
     (refine Zm ?_;repeat'(first|(refine Zi fun _=>?_;try simp(disch:=first|exact Zw|fail)[*,Yd])|refine Zx ?_|refine Zn ?_ ?_))
    .rw [if_neg Zc0]at hd2;have hq1:(q:Int) - 1=((q - 1:Nat):Int):=by omega
     have htk:(RV++[nI (q - 1)]++rest).take (st2.length+1)=RV++[nI (q - 1)]:=List.take_left' (by simp[hrl]);rw[List.append_assoc,List.singleton_append]at htk
     (refine Zm ?_;repeat'(first|(refine Zi fun _=>?_;try simp(disch:=first|exact Zw|fail)[*,Yd])|refine Zx ?_|refine Zn ?_ ?_))
     refine⟨_,by omega,i+1,rfl,by omega,by omega,k::(q - 1)::st2,.inr ⟨Zc+1,[],by simp,?_⟩,by simp;omega,?_,hd2⟩
     .simp [hRV]
     .intro x hx;simp only[List.mem_cons]at hx;rcases hx with rfl | rfl | hx
      .omega
      .omega
      .exact Z84.get x (by simp[hx])
 .have e:t.drop i=[]:=by simp;omega
  rw[e]at hd;subst hd;simp only[Tk]
  (refine Zm ?_;repeat'(first|(refine Zi fun _=>?_;try simp(disch:=first|exact Zw|fail)[*,Yd])|refine Zx ?_|refine Zn ?_ ?_))
def Zfv (ps:List (List Nd)):List Nd×Int:=if 20000 < ps.flatten.length then ([],6) else if Tk [] ps.flatten then ([],6) else (ps.flatten,0)
set_option maxHeartbeats 2000000 in
theorem Zal1 (b:Bool)(ps:List (List Nd))(Yp:ps.flatten≠[])(hk:ps.length<=2^20)(hp:∀p∈ps,p.length<=20000)(Zyw:∀n∈ps.flatten,0<=n.kids/\n.kids < 2^60):Xq vE 58 [L 23 b (ps.map Rj)] (Zbz (Zfv ps)):=by
 have hV:∃V,Zfv ps=V:=⟨_,rfl⟩
 obtain⟨V,hV⟩:=hV;rw[hV];unfold Zfv at hV;obtain⟨F,hF⟩:∃F:Nat->Nat,∀i,(ps.take i).flatten.length=F i:=⟨_,fun _=>rfl⟩
 have hF0:F 0=0:=by rw[<- hF];rfl
 have hFe:F ps.length=ps.flatten.length:=by rw[<- hF,List.take_length]
 have hFs:∀i (hi:i < ps.length),F (i+1)=F i+ps[i].length:=fun i hi=>by rw[<- hF,<- hF,flat_take hi,List.length_append]
 have hFl:∀i,F i<=ps.flatten.length:=fun i=>by rw[<- hF];exact Z1m ps i
 clear hF;replace hFs:=Hide.mk hFs;replace hFl:=Hide.mk hFl;by_cases Zc0:20000 < ps.flatten.length
 .rw [if_pos Zc0]at hV;subst hV;intro K H;refine Wc Tryz.func58 ?_
  (refine Zm ?_;repeat'(first|(refine Zi fun _=>?_;try simp(disch:=first|exact Zw|fail)[*,Yd,Tryz.f58])|refine Zx ?_|refine Zn ?_ ?_))
  rw[<- hFe]at Zc0;refine Zv [0,8,9] (fun n sl h=>∃i:Nat,n=ps.length - i/\i<=ps.length/\sl 10=some (.int .i64 i)/\sl 4=some (.int .i64 (F i:Nat))/\F i<=20000) ps.length rfl ⟨0,by simp,by simp,by simp,by simp[hF0],by rw[hF0];omega⟩ ?_;rintro n sl h hf ⟨i,hn,hi,h10,h4,hle⟩;simp at hf;by_cases hlt:i < ps.length
  .have h2:=hFs.get i hlt;have hpl:=hp ps[i] (List.getElem_mem hlt);generalize hpi:ps[i]=p at *;replace h2:=Hide.mk h2;generalize hq0:F i=q at *;clear hFe hp Zyw;by_cases hq:20000 < q+p.length
   . (refine Zm ?_;repeat'(first|(refine Zi fun _=>?_;try simp(disch:=first|exact Zw|fail)[*,Yd,Wn])|refine Zx ?_|refine Zn ?_ ?_))
   . (refine Zm ?_;repeat'(first|(refine Zi fun _=>?_;try simp(disch:=first|exact Zw|fail)[*,Yd,Wn])|refine Zx ?_|refine Zn ?_ ?_))
     exact⟨_,by omega,i+1,rfl,by omega,by omega,by rw[h2.get];omega,by rw[h2.get];omega⟩
  .exfalso;have e:i=ps.length:=by omega
   subst e;omega
 .rw [if_neg Zc0]at hV;have h110:=Zafz b ps Yp (by omega) hk;have h111:=Zafy true ps.flatten (by omega) Zyw;intro K H;refine Wc Tryz.func58 ?_
  (refine Zm ?_;repeat'(first|(refine Zi fun _=>?_;try simp(disch:=first|exact Zw|fail)[*,Yd,Tryz.f58])|refine Zx ?_|refine Zn ?_ ?_))
  refine Zv [0,8,9] (fun n sl h=>∃i:Nat,n=ps.length - i/\i<=ps.length/\sl 10=some (.int .i64 i)/\sl 4=some (.int .i64 (F i:Nat))) ps.length rfl ⟨0,by simp,by simp,by simp,by simp[hF0]⟩ ?_;rintro n sl h hf ⟨i,hn,hi,h10,h4⟩;simp at hf;by_cases hlt:i < ps.length
  .have h2:=hFs.get i hlt;have h1:=hFl.get (i+1);rw[h2]at h1;generalize hpi:ps[i]=p at *;replace h2:=Hide.mk h2;generalize hq0:F i=q at *;clear h110 h111 hFe hp Zyw
   (refine Zm ?_;repeat'(first|(refine Zi fun _=>?_;try simp(disch:=first|exact Zw|fail)[*,Yd,Wn])|refine Zx ?_|refine Zn ?_ ?_))
   exact⟨_,by omega,i+1,rfl,by omega,by omega,by rw[h2.get];omega⟩
  .obtain ⟨n0,r0,e0⟩:∃n r,ps.flatten=n::r:=by
    cases e:ps.flatten with
    |nil=>exact absurd e Yp
    |cons n r=>exact⟨n,r,rfl⟩
   clear h4 hFe hFl Zyw;generalize ps.flatten=F at *;subst e0;simp only[List.map_cons,Xe]at h110 h111;cases hd:Tk [] (n0::r0) with
   |true=>
    rw[hd]at h111;rw[hd,if_pos rfl]at hV;subst hV
    (refine Zm ?_;repeat'(first|(refine Zi fun _=>?_;try simp(disch:=first|exact Zw|fail)[*,Yd,Wn])|refine Zx ?_|refine Zn ?_ ?_))
   |false=>
    rw[hd]at h111;rw[hd,if_neg (by simp)]at hV;subst hV
    (refine Zm ?_;repeat'(first|(refine Zi fun _=>?_;try simp(disch:=first|exact Zw|fail)[*,Yd,Xe])|refine Zx ?_|refine Zn ?_ ?_))
theorem Zacr (t:List Nd)(e:Int):Yu 23 14 (Zbz (t,e))=true:=by
 simp only[Zbz,Yu,List.all_cons,List.all_nil,Bool.and_true];rcases Zw7 58 true (t.map Zo) with⟨h,_⟩ | ⟨h,_⟩
 .rw [h];rfl
 .rw [h];simp only[Yu,Bool.and_eq_true,List.all_eq_true];refine⟨by decide,fun x hx=>?_⟩;obtain⟨n,_,rfl⟩:=List.mem_map.1 hx;simp[Yu,Zo]
end Go.Proofs.YtabcdhcpilpojaaGreatDoor
end
