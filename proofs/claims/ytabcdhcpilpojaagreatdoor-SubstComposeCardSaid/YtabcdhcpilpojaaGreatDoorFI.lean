/- Is a name in a list; equal substitutions. -/
import Derived.Test.YtabcdhcpilpojaaGreatDoorFG
import Derived.Test.YtabcdhcpilpojaaGreatDoorPD
import Derived.Test.YtabcdhcpilpojaaGreatDoorFH
import Derived.Test.YtabcdhcpilpojaaGreatDoorFF
set_option linter.unusedSimpArgs false
set_option linter.unusedVariables false
section
set_option maxRecDepth 20000
namespace Go.Proofs.YtabcdhcpilpojaaGreatDoor
open Go Go.Pure
open Go.Virt (Ex Ctx Ty TK)
def ixL (l:List Yn)(x:Yn):Int:=match l.findIdx? (fun p=>p==x) with
 |some k=>k
 |none=> -1
theorem Z22 (s:List Ys)(x:Yn):Vv s x=ixL (s.map (·.1)) x:=by
 unfold Vv ixL;rw[List.findIdx?_map];rfl
theorem Zaf6 (b:Bool)(s:List Yn)(x:Yn)(hl:s.length < 2^30):Xn vE 134 [L 9 b (s.map .str),.str x] (.int .i64 (ixL s x)):=by
 unfold ixL;cases hf:s.findIdx? (fun p=>p==x) with
 |none=>
  have hall:∀i (h:i < s.length),s[i]≠x:=fun i h=>by
   have:=List.findIdx?_eq_none_iff.1 hf s[i] (List.getElem_mem h);simpa using this
  replace hall:=Hide.mk hall;clear hf;intro K H;refine Wc Tryz.func134 ?_
  (refine Zm ?_;repeat'(first|(refine Zi fun _=>?_;try simp(disch:=first|exact Zq|fail)[*,Zs,Tryz.f134])|refine Ye ?_|refine Zx ?_|refine Zn ?_ ?_))
  refine Zl [0,1,7] (fun n sl h=>∃i:Nat,n=s.length - i/\i<=s.length/\sl 8=some (.int .i64 i)) s.length rfl ⟨0,by simp,by simp,by simp⟩ ?_;rintro n sl h hfr ⟨i,hn,hi,h5⟩;simp at hfr;by_cases hlt:i < s.length
  .have hx:=hall.get i hlt;generalize hy:s[i]=y at *
   (refine Zm ?_;repeat'(first|(refine Zi fun _=>?_;try simp(disch:=first|exact Zq|fail)[*,Zs])|refine Ye ?_|refine Zx ?_|refine Zn ?_ ?_))
   .rename_i e;exact absurd e.symm hx
   .exact ⟨_,by omega,i+1,rfl,by omega,by omega⟩
  . (refine Zm ?_;repeat'(first|(refine Zi fun _=>?_;try simp(disch:=first|exact Zq|fail)[*,Zs])|refine Ye ?_|refine Zx ?_|refine Zn ?_ ?_))
 |some k=>
  obtain⟨hk,Yi,hall⟩:=List.findIdx?_eq_some_iff_getElem.1 hf;have Zim:s[k]=x:=by simpa using Yi
  have Zn1:∀i (h:i < s.length),i < k->s[i]≠x:=fun i h hi=>by simpa using hall i hi
  clear Yi hall hf;replace Zn1:=Hide.mk Zn1;intro K H;refine Wc Tryz.func134 ?_
  (refine Zm ?_;repeat'(first|(refine Zi fun _=>?_;try simp(disch:=first|exact Zq|fail)[*,Zs,Tryz.f134])|refine Ye ?_|refine Zx ?_|refine Zn ?_ ?_))
  refine Zl [0,1,7] (fun n sl h=>∃i:Nat,n=s.length - i/\i<=k/\sl 8=some (.int .i64 i)) s.length rfl ⟨0,by simp,by simp,by simp⟩ ?_;rintro n sl h hfr ⟨i,hn,hi,h5⟩;simp at hfr;by_cases hik:i < k
  .have hx:=Zn1.get i (by omega) hik;have hlt:i < s.length:=by omega
   clear Zim;generalize hy:s[i]=y at *
   (refine Zm ?_;repeat'(first|(refine Zi fun _=>?_;try simp(disch:=first|exact Zq|fail)[*,Zs])|refine Ye ?_|refine Zx ?_|refine Zn ?_ ?_))
   .rename_i e;exact absurd e.symm hx
   .exact ⟨_,by omega,i+1,rfl,by omega,by omega⟩
  .have e:i=k:=by omega
   subst e;generalize hy:s[i]=y at *
   (refine Zm ?_;repeat'(first|(refine Zi fun _=>?_;try simp(disch:=first|exact Zq|fail)[*,Zs])|refine Ye ?_|refine Zx ?_|refine Zn ?_ ?_))
theorem Zagh (b:Bool)(s:List Yn)(x:Yn)(hl:s.length < 2^30):Xn vE 101 [L 9 b (s.map .str),.str x] (.bool (decide (0<=ixL s x))):=by
 have h134:=Zaf6 b s x hl;generalize ixL s x=q at *;intro K H;refine Wc Tryz.func101 ?_
 (refine Zm ?_;repeat'(first|(refine Zi fun _=>?_;try simp(disch:=first|exact Zw|fail)[*,Zz,Tryz.f101])|refine Zx ?_|refine Zn ?_ ?_))
theorem Zamn (b1 b2:Bool)(s:List Ys)(hl:s.length < 2^30)(ht:∀x∈s,x.2.length < 2^30):Xn vE 44 [L 47 b1 (s.map V7),L 47 b2 (s.map V7)] (.bool true):=by
 replace ht:=Hide.mk ht;intro K H;refine Wc Tryz.func44 ?_
 (refine Zm ?_;repeat'(first|(refine Zi fun _=>?_;try simp(disch:=first|exact Zq|fail)[*,Zs,Tryz.f44])|refine Ye ?_|refine Zx ?_|refine Zn ?_ ?_))
 refine Zl [0,1] (fun n sl h=>∃i:Nat,n=s.length - i/\i<=s.length/\sl 5=some (.int .i64 i)) s.length rfl ⟨0,by simp,by simp,by simp⟩ ?_;rintro n sl h hfr ⟨i,hn,hi,h5⟩;simp at hfr;by_cases hlt:i < s.length
 .have h18:=Zaa7 true true s[i].2 s[i].2 (ht.get _ (List.getElem_mem hlt)) (ht.get _ (List.getElem_mem hlt));rw[decide_eq_true rfl]at h18;generalize hy:s[i]=y at *;obtain⟨x,r⟩:=y;simp only at h18
  (refine Zm ?_;repeat'(first|(refine Zi fun _=>?_;try simp(disch:=first|exact Zq|fail)[*,Zs])|refine Ye ?_|refine Zx ?_|refine Zn ?_ ?_))
  exact⟨_,by omega,i+1,rfl,by omega,by omega⟩
 . (refine Zm ?_;repeat'(first|(refine Zi fun _=>?_;try simp(disch:=first|exact Zq|fail)[*,Zs])|refine Ye ?_|refine Zx ?_|refine Zn ?_ ?_))
def Zb5 (s t:List Ys):List Ys:=t.filter fun y=>decide (Vv s y.1 < 0)
def Un (s t:List Ys):List Ys:=s.map fun x=>(x.1,(Yo x.2 t).1)
def Va (s t:List Ys):List Ys×Int:=
 if ¬(s.map (·.1)).Nodup\/¬(t.map (·.1)).Nodup then ([],5)
 else match s.find? fun x=>(Yo x.2 t).2 !=0 with
  |some x=>([],(Yo x.2 t).2)
  |none=>(Un s t++Zb5 s t,0)
theorem Zoi (s t:List Ys)(i:Nat)(h:i < s.length):Un (s.take (i+1)) t=Un (s.take i) t++[(s[i].1,(Yo s[i].2 t).1)]:=by
 rw[Xb _ i h,Un,List.map_append];rfl
theorem Zqg (s t:List Ys)(i:Nat)(h:i < t.length):Zb5 s (t.take (i+1))=Zb5 s (t.take i)++(if Vv s t[i].1 < 0 then [t[i]] else []):=by
 rw[Xb _ i h,Zb5,List.filter_append];congr 1;by_cases hk:Vv s t[i].1 < 0<;>simp[hk]
theorem Zre {s t:List Ys}(hN:(s.map (·.1)).Nodup)(hM:(t.map (·.1)).Nodup)(i:Nat)(h:i < s.length)(hb:∀j (hj:j < i),(Yo (s[j]'(by omega)).2 t).2=0)(he:(Yo s[i].2 t).2≠0):Va s t=([],(Yo s[i].2 t).2):=by
 have hf:s.find? (fun x=>(Yo x.2 t).2 !=0)=some s[i]:=by
  rw[List.find?_eq_some_iff_getElem];refine⟨by simpa using he,i,h,rfl,fun j hj=>?_⟩;have:=hb j hj;simp[this]
 unfold Va;rw[if_neg (by simp[hN,hM]),hf]
theorem Zoj {s t:List Ys}(hN:(s.map (·.1)).Nodup)(hM:(t.map (·.1)).Nodup)(hb:∀j (hj:j < s.length),(Yo s[j].2 t).2=0):Va s t=(Un s t++Zb5 s t,0):=by
 have hf:s.find? (fun x=>(Yo x.2 t).2 !=0)=none:=by
  rw[List.find?_eq_none];intro x hx;obtain⟨j,hj,rfl⟩:=List.getElem_of_mem hx;simp[hb j hj]
 unfold Va;rw[if_neg (by simp[hN,hM]),hf]
theorem Zw3 {s t:List Ys}(h:(Va s t).2=0):(∀x∈s,(Yo x.2 t).2=0)/\(Va s t).1=Un s t++Zb5 s t:=by
 unfold Va at h ⊢;by_cases hN:¬(s.map (·.1)).Nodup\/¬(t.map (·.1)).Nodup
 .rw [if_pos hN]at h;cases h
 .rw [if_neg hN]at h ⊢;cases hf:s.find? fun x=>(Yo x.2 t).2 !=0 with
  |some x=>
   rw[hf]at h;have:=List.find?_some hf;simp only at h;rw[h]at this;cases this
  |none=>
   rw[List.find?_eq_none]at hf;exact⟨fun x hx=>by simpa using hf x hx,rfl⟩
theorem Z23 (s:List Ys)(x:Yn):(Vv s x < 0)=(∀p∈s,p.1≠x):=by
 rw[eq_iff_iff];rcases Zgp (s:=s) (x:=x) with⟨h1,h2⟩ | ⟨k,hk,h1,h2,h3⟩
 .rw [List.find?_eq_none]at h2;exact⟨fun _ p hp=>by simpa using h2 p hp,fun _=>h1⟩
 .exact ⟨fun h=>by omega,fun h=>absurd h3 (h _ (List.getElem_mem hk))⟩
theorem Zrd {s t:List Ys}(hs:Wd s)(ht:Wd t)(h:(Va s t).2=0):Wd (Va s t).1:=by
 obtain⟨h1,h2⟩:=Zw3 h;rw[h2];intro y hy;rcases List.mem_append.1 hy with hy | hy
 .obtain ⟨x,hx,rfl⟩:=List.mem_map.1 hy;obtain⟨q1,q2,tr,v⟩:=hs x hx;obtain⟨e,tr',v',_⟩:=Sw v ht (h1 x hx);exact⟨q1,q2,tr',by simp only[e];exact v'⟩
 .exact ht y ((List.mem_filter.1 hy).1)
theorem Z60 {s t:List Ys}(hs:Wd s)(ht:Wd t)(h:(Va s t).2=0)(n:Nd):rep (Va s t).1 n=Sa t (rep s n):=by
 obtain⟨h1,h2⟩:=Zw3 h;rw[h2];have one:∀m,Sa t [m]=rep t m:=fun m=>by simp[Sa]
 unfold rep Zap;by_cases h4:n.op=4
 .simp only [h4,if_true];rw[List.find?_append]
  have hf:(Un s t).find? (fun p=>p.1==n.name)=(s.find? fun p=>p.1==n.name).map fun x=>(x.1,(Yo x.2 t).1):=by
   unfold Un;rw[List.find?_map];rfl
  rw[hf];cases hg:s.find? fun p=>p.1==n.name with
  |some x=>
   have hx:=List.mem_of_find?_eq_some hg;obtain⟨q1,q2,tr,v⟩:=hs x hx;obtain⟨e,_⟩:=Sw v ht (h1 x hx);simp[e]
  |none=>
   have hn:(Zb5 s t).find? (fun p=>p.1==n.name)=t.find? fun p=>p.1==n.name:=by
    unfold Zb5;rw[List.find?_filter];congr 1;funext p;by_cases hp:p.1=n.name
    .have:Vv s p.1 < 0:=by
      rw[Z23];rw[List.find?_eq_none]at hg;intro q hq e;exact hg q hq (by simp[e,hp])
     simp[this];rw[Bool.eq_iff_iff];simp
    .simp [hp]
   simp only[Option.map_none,Option.none_or,hn,Option.getD_none];rw[one];unfold rep Zap;simp[h4]
 .simp only [h4,if_false,Option.getD_none];rw[one];unfold rep Zap;simp[h4]
theorem Zz5 {s t:List Ys}{x:List Nd}{tr:Tr}(v:VT x tr)(hs:Wd s)(ht:Wd t)(h:(Va s t).2=0)(hx:(Yo x s).2=0)(hy:(Yo x (Va s t).1).2=0)(hz:(Yo (Yo x s).1 t).2=0):(Yo x (Va s t).1).1=(Yo (Yo x s).1 t).1:=by
 obtain⟨e1,tr1,v1,_⟩:=Sw v hs hx;obtain⟨e2,_⟩:=Sw v (Zrd hs ht h) hy;rw[e1]at hz;obtain⟨e3,_⟩:=Sw v1 ht hz;rw[e1,e2];simp only;rw[e3];simp only[Sa];rw[List.flatMap_assoc];congr 1;funext n;exact Z60 hs ht h n
theorem Zxo {S:List Nat}{K:Pure.Loc}{h:PH}{g:Nat}{v:PV}{xs:List PV}(hA:Pure.Acc S K h g v xs):∀x,x∈ownV v->K.base<=x:=by
 rcases hA with⟨rfl,rfl⟩ | ⟨d,Zc,Yi,_,rfl,hg⟩
 .intro x hx;simp[Pure.ownV]at hx
 .intro x hx;simp[Pure.ownV]at hx;omega
abbrev Zagw (x:List Ys×Int):PV:=.tuple [L 47 true (x.1.map V7),.int .i64 x.2]
set_option maxHeartbeats 4000000 in
theorem Zaml (b1 b2:Bool)(s t:List Ys)(hs:Wd s)(ht:Wd t)(hsl:s.length<=20)(htl:t.length<=20)(hf1:∀x∈s,∀u∈Zy x.2,u.fn=false)(hf2:∀x∈t,∀u∈Zy x.2,u.fn=false):Xn vE 46 [L 47 b1 (s.map V7),L 47 b2 (t.map V7)] (Zagw (Va s t)):=by
 have h60s:=Z0b b1 s (by omega) hs;have h60t:=Z0b b2 t (by omega) ht;have h61s:=Z0a b1 s (by omega);have h61t:=Z0a b2 t (by omega);have hV:∃V,Va s t=V:=⟨_,rfl⟩
 obtain⟨V,hV⟩:=hV;rw[hV];by_cases hN:(s.map (·.1)).Nodup
 .by_cases hM:(t.map (·.1)).Nodup
  .have h17:∀i (h:i < s.length),Xn vE 17 [L 58 true (s[i].2.map Zv),L 47 b2 (t.map V7)] (Zdl (Yo s[i].2 t)):=by
    intro i h;have hm:=List.getElem_mem h;obtain⟨_,_,tr,v⟩:=hs _ hm;refine Zamq v true b2 t ht (by omega) ?_ hf2;rw[List.filter_eq_nil_iff.2]
    .simp
    .intro u hu;rw[hf1 _ hm u hu];simp
   have Z8m:∀i (h:i < t.length),t[i].2.length<=20000:=by
    intro i h;obtain⟨_,_,tr,v⟩:=ht _ (List.getElem_mem h);exact v.len
   have hbad:=fun i h hb he=>hV.symm.trans (Zre (t:=t) hN hM i h hb he)
   have Rx:=fun hb=>hV.symm.trans (Zoj (t:=t) hN hM hb)
   rw[decide_eq_true hN]at h61s;rw[decide_eq_true hM]at h61t;clear hV hf1 hf2 hs ht hN hM;replace h17:=Hide.mk h17;replace Z8m:=Hide.mk Z8m;replace hbad:=Hide.mk hbad;replace Rx:=Hide.mk Rx;intro K H;refine Wc Tryz.func46 ?_
   (refine Zm ?_;repeat'(first|(refine Zi fun _=>?_;try simp(disch:=first|exact Zw|fail)[*,Zz,Tryz.f46])|refine Zx ?_|refine Zn ?_ ?_))
   refine Zl [0,1] (fun n sl h=>∃(i:Nat) (w:PV),n=s.length - i/\i<=s.length/\sl 7=some (.int .i64 i)/\sl 6=some w/\Pure.Acc [55,84] ⟨H.next,H.next,[]⟩ h 47 w ((Un (s.take i) t).map V7)/\h.next=H.next+86/\∀j (hj:j < s.length),j < i->(Yo s[j].2 t).2=0) s.length rfl ⟨0,.nils,by simp,by simp,by simp,by simp,by simpa[Un]using Pure.Acc.nil,by simp,by simp⟩ ?_;rintro n sl h hfr ⟨i,w,hn,hi,h7,h6,hA,U7,hz⟩;simp at hfr;replace hz:=Hide.mk hz;have hml:(Un (s.take i) t).length<=20:=by simp[Un];omega
   by_cases hlt:i < s.length
   .have h17i:=h17.get i hlt;have R7:=Zoi s t i hlt;have hb:=hbad.get i hlt (fun j hj=>hz.get j (by omega) hj)
    have hzi:∀e,(Yo s[i].2 t).2=e->Hide (e=0->∀j (hj:j < s.length),j < i+1->(Yo s[j].2 t).2=0):=by
     rintro e he;refine Hide.mk fun h0 j hj hji=>?_
     by_cases hj2:j < i
     .exact hz.get j hj hj2
     .have:j=i:=by omega
      subst this;rw[he,h0]
    replace hzi:=hzi _ rfl;generalize hy:s[i]=y at *;obtain⟨x,r⟩:=y;simp only at h17i hb R7 hzi;generalize hAp:Yo r t=A at *;obtain⟨y,e⟩:=A;simp only at hb R7 hzi;clear hz hAp;by_cases he:e=0
    .subst he;clear hb;obtain⟨w',h',Te,Xj,Tw,hgt⟩:=hA.app (dd:=55) (ys:=[PV.agg [.str x,L 58 true (y.map Zv)]]) (T:={k:=.struct [(0,9),(1,23)],size:=2,bytes:=40,zero:=[.string ⟨#[]⟩,.slice none 0 0]}) (by simp) rfl (by simp only[List.length_map,List.length_cons,List.length_nil];omega) (by decide) (by decide) (by simp);simp only[List.length_cons,List.length_nil]at Te;have hs1:=hA.same (n:=3);have hs2:=Xj.same (n:=3)
     have Xa:Hide (Pure.Acc [55,84] ⟨H.next,H.next,[]⟩ h' 47 w' ((Un (s.take (i+1)) t).map V7)):=Hide.mk (by
      rw[R7,List.map_append];exact Xj)
     clear Xj hgt hA R7
     (refine Zm ?_;repeat'(first|(refine Zi fun _=>?_;try simp(disch:=first|exact Zw|fail)[*,Zz])|refine Zx ?_|refine Zn ?_ ?_))
     exact⟨_,by omega,i+1,rfl,by omega,by omega,Xa.get,fun j hj hji=>hzi.get rfl j hj (by omega)⟩
    .have hV2:=hb he;subst hV2;have heb:(e==0)=false:=by simpa using he
     clear hA R7 hzi hb
     (refine Zm ?_;repeat'(first|(refine Zi fun _=>?_;try simp(disch:=first|exact Zw|fail)[*,Zz])|refine Zx ?_|refine Zn ?_ ?_))
   .have hii:i=s.length:=by omega
    subst hii;have hV2:=Rx.get (fun j hj=>hz.get j hj hj);rw[List.take_length]at hA hml;subst hV2;clear hz hbad Rx h17
    (refine Zm ?_;repeat'(first|(refine Zi fun _=>?_;try simp(disch:=first|exact Zw|fail)[*,Zz])|refine Zx ?_|refine Zn ?_ ?_))
    refine Zl [0,1] (fun n sl h=>∃(i:Nat) (w:PV),n=t.length - i/\i<=t.length/\sl 10=some (.int .i64 i)/\sl 6=some w/\Pure.Acc [55,84] ⟨H.next,H.next,[]⟩ h 47 w ((Un s t++Zb5 s (t.take i)).map V7)/\h.next=H.next+86) t.length rfl ⟨0,w,by simp,by simp,by simp,by simp[*],by simpa[Zb5]using hA,by simp[*]⟩ ?_;clear hA h6;rintro n sl h hfr ⟨i,w,hn,hi,h10,h6,hA,U7⟩;simp at hfr
    have hnl:(Zb5 s (t.take i)).length<=20:=by
     unfold Zb5;have h1:=List.length_filter_le (fun y=>decide (Vv s y.1 < 0)) (t.take i);have h2:(t.take i).length<=t.length:=by simp;omega
     omega
    by_cases hlt:i < t.length
    .have hns:=Zqg s t i hlt;have h62:=Zow b1 s t[i].1 (by omega);have hrl:=Z8m.get i hlt;generalize hy:t[i]=y at *;obtain⟨x,r⟩:=y;simp only at h62 hns hrl;generalize Vv s x=q at *;by_cases hq:q < 0
     .rw [if_pos hq]at hns;obtain⟨w',h',Te,Xj,Tw,hgt⟩:=hA.app (dd:=84) (ys:=[PV.agg [.str x,L 58 true (r.map Zv)]]) (T:={k:=.struct [(0,9),(1,23)],size:=2,bytes:=40,zero:=[.string ⟨#[]⟩,.slice none 0 0]}) (by simp) rfl (by simp only[List.length_map,List.length_cons,List.length_nil,List.length_append];omega) (by decide) (by decide) (by simp);simp only[List.length_cons,List.length_nil]at Te;have hs1:=hA.same (n:=3);have hs2:=Xj.same (n:=3)
      have Xa:Hide (Pure.Acc [55,84] ⟨H.next,H.next,[]⟩ h' 47 w' ((Un s t++Zb5 s (t.take (i+1))).map V7)):=Hide.mk (by
       rw[hns,<- List.append_assoc,List.map_append];exact Xj)
      clear Xj hgt hA hns
      (refine Zm ?_;repeat'(first|(refine Zi fun _=>?_;try simp(disch:=first|exact Zw|fail)[*,Zz])|refine Zx ?_|refine Zn ?_ ?_))
      refine Yd false true [] [] [] [] false (by decide +kernel) ?_
      (refine Zm ?_;repeat'(first|(refine Zi fun _=>?_;try simp(disch:=first|exact Zw|fail)[*,Zz,-PH.elems])|refine Zx ?_|refine Zn ?_ ?_))
      (refine Zm ?_;repeat'(first|(refine Zi fun _=>?_;try simp(disch:=first|exact Zw|fail)[*,Zz])|refine Zx ?_|refine Zn ?_ ?_))
      exact⟨_,by omega,i+1,rfl,by omega,by omega,by simpa using Xa.get⟩
     .rw [if_neg hq,List.append_nil]at hns;have Xa:Hide (Pure.Acc [55,84] ⟨H.next,H.next,[]⟩ h 47 w ((Un s t++Zb5 s (t.take (i+1))).map V7)):=Hide.mk (by rw[hns];exact hA);clear hA hns
      (refine Zm ?_;repeat'(first|(refine Zi fun _=>?_;try simp(disch:=first|exact Zw|fail)[*,Zz])|refine Zx ?_|refine Zn ?_ ?_))
      exact⟨_,by omega,i+1,rfl,by omega,by omega,by simpa using Xa.get⟩
    .have hii:i=t.length:=by omega
     subst hii;rw[List.take_length,List.map_append]at hA;have W1:=hA.inl;have hot:=Zxo hA;clear hA
     (refine Zm ?_;repeat'(first|(refine Zi fun _=>?_;try simp(disch:=first|exact Zw|fail)[*,Zz])|refine Zx ?_|refine Zn ?_ ?_))
     exact hot
  .have hV2:V=([],5):=by rw[<- hV];unfold Va;rw[if_pos (by simp[hM])]
   subst hV2;rw[decide_eq_true hN]at h61s;rw[decide_eq_false hM]at h61t;clear hV hs ht hf1 hf2;intro K H;refine Wc Tryz.func46 ?_
   (refine Zm ?_;repeat'(first|(refine Zi fun _=>?_;try simp(disch:=first|exact Zw|fail)[*,Zz,Tryz.f46])|refine Zx ?_|refine Zn ?_ ?_))
 .have hV2:V=([],5):=by rw[<- hV];unfold Va;rw[if_pos (by simp[hN])]
  subst hV2;rw[decide_eq_false hN]at h61s;clear hV hs ht hf1 hf2;intro K H;refine Wc Tryz.func46 ?_
  (refine Zm ?_;repeat'(first|(refine Zi fun _=>?_;try simp(disch:=first|exact Zw|fail)[*,Zz,Tryz.f46])|refine Zx ?_|refine Zn ?_ ?_))
set_option maxHeartbeats 4000000 in
theorem Zamm (b1 b2:Bool)(s t:List Ys)(hs:Wd s)(ht:Wd t)(hsl:s.length<=20)(htl:t.length<=20):Xn vE 45 [L 47 b1 (s.map V7),L 47 b2 (t.map V7)] (Zagw (Va s t)):=by
 have h50s:=Z0e b1 s (by omega) hs;have h50t:=Z0e b2 t (by omega) ht;have h52s:=Z0c b1 s (by omega);have h52t:=Z0c b2 t (by omega);have h51s:=Z0d true (s.map (·.1)) (by simp;omega);have h51t:=Z0d true (t.map (·.1)) (by simp;omega);have hV:∃V,Va s t=V:=⟨_,rfl⟩
 obtain⟨V,hV⟩:=hV;rw[hV];by_cases hN:(s.map (·.1)).Nodup
 .by_cases hM:(t.map (·.1)).Nodup
  .have h16:∀i (h:i < s.length),Xn vE 16 [L 58 true (s[i].2.map Zv),L 47 b2 (t.map V7)] (Zdl (Yo s[i].2 t)):=by
    intro i h;obtain⟨_,_,tr,v⟩:=hs _ (List.getElem_mem h);exact Ztk v true b2 t ht (by omega)
   have h95:∀i (h:i < t.length),t[i].2≠[]/\Xn vE 95 [L 58 true (t[i].2.map Zv)] (.lst 58 (t[i].2.map Zv)):=by
    intro i h;obtain⟨_,_,tr,v⟩:=ht _ (List.getElem_mem h);have Yi:t[i].2≠[]:=List.length_pos_iff.1 v.ne;exact⟨Yi,Zal9 true _ (by simpa using Yi) (by simp;have:=v.len;omega)⟩
   have hbad:=fun i h hb he=>hV.symm.trans (Zre (t:=t) hN hM i h hb he)
   have Rx:=fun hb=>hV.symm.trans (Zoj (t:=t) hN hM hb)
   have h101:∀x,Xn vE 101 [L 9 true ((s.map (·.1)).map .str),.str x] (.bool (decide (0<=Vv s x))):=fun x=>by
    rw[Z22];exact Zagh true (s.map (·.1)) x (by simp;omega)
   have hnms:(s.map (·.1)).length=s.length:=by simp
   have hnmt:(t.map (·.1)).length=t.length:=by simp
   rw[decide_eq_true hN]at h51s;rw[decide_eq_true hM]at h51t;clear hV hs ht hN hM;generalize s.map (·.1)=ns at *;generalize t.map (·.1)=nt at *;replace h16:=Hide.mk h16;replace h95:=Hide.mk h95;replace h101:=Hide.mk h101;replace hbad:=Hide.mk hbad;replace Rx:=Hide.mk Rx;intro K H;refine Wc Tryz.func45 ?_
   (refine Zm ?_;repeat'(first|(refine Zi fun _=>?_;try simp(disch:=first|exact Zw|fail)[*,Zz,Tryz.f45])|refine Zx ?_|refine Zn ?_ ?_))
   refine Zl [0,1,31,32] (fun n sl h=>∃(i:Nat) (w:PV),n=s.length - i/\i<=s.length/\sl 33=some (.int .i64 i)/\sl 6=some w/\Pure.Acc [53,75] ⟨H.next,H.next,[]⟩ h 47 w ((Un (s.take i) t).map V7)/\h.next=H.next+78/\∀j (hj:j < s.length),j < i->(Yo s[j].2 t).2=0) s.length rfl ⟨0,.nils,by simp,by simp,by simp,by simp,by simpa[Un]using Pure.Acc.nil,by simp,by simp⟩ ?_;rintro n sl h hfr ⟨i,w,hn,hi,h33,h6,hA,U7,hz⟩;simp at hfr;replace hz:=Hide.mk hz;have hml:(Un (s.take i) t).length<=20:=by simp[Un];omega
   by_cases hlt:i < s.length
   .have h16i:=h16.get i hlt;have R7:=Zoi s t i hlt;have hb:=hbad.get i hlt (fun j hj=>hz.get j (by omega) hj)
    have hzi:∀e,(Yo s[i].2 t).2=e->Hide (e=0->∀j (hj:j < s.length),j < i+1->(Yo s[j].2 t).2=0):=by
     rintro e he;refine Hide.mk fun h0 j hj hji=>?_
     by_cases hj2:j < i
     .exact hz.get j hj hj2
     .have:j=i:=by omega
      subst this;rw[he,h0]
    replace hzi:=hzi _ rfl;generalize hy:s[i]=y at *;obtain⟨x,r⟩:=y;simp only at h16i hb R7 hzi;generalize hAp:Yo r t=A at *;obtain⟨y,e⟩:=A;simp only at hb R7 hzi;clear hz hAp;by_cases he:e=0
    .subst he;clear hb;obtain⟨w',h',Te,Xj,Tw,hgt⟩:=(hA.frame (h':=(h.put (H.next+8) (h.stamp (H.next+8)) (.cells [.str [],.nils])).put (H.next+8) (h.stamp (H.next+8)) (.cells [.str x,L 58 true (r.map Zv)])) (fun d hd=>by simp at hd;rcases hd with rfl | rfl<;>simp)).app (dd:=53) (ys:=[PV.agg [.str x,L 58 true (y.map Zv)]]) (T:={k:=.struct [(0,9),(1,23)],size:=2,bytes:=40,zero:=[.string ⟨#[]⟩,.slice none 0 0]}) (by simp) rfl (by simp only[List.length_map,List.length_cons,List.length_nil];omega) (by decide) (by decide) (by simp);simp only[List.length_cons,List.length_nil]at Te;have hs1:=hA.same (n:=3);have hs2:=Xj.same (n:=3);have Zsh:h'.next=H.next+78:=by rw[Tw];exact U7
     have Xa:Hide (Pure.Acc [53,75] ⟨H.next,H.next,[]⟩ h' 47 w' ((Un (s.take (i+1)) t).map V7)):=Hide.mk (by
      rw[R7,List.map_append];exact Xj)
     clear Xj hgt hA R7 Tw
     (refine Zm ?_;repeat'(first|(refine Zi fun _=>?_;try simp(disch:=first|exact Zw|fail)[*,Zz])|refine Zx ?_|refine Zn ?_ ?_))
     exact⟨_,by omega,i+1,rfl,by omega,by omega,Xa.get,fun j hj hji=>hzi.get rfl j hj (by omega)⟩
    .have hV2:=hb he;subst hV2;have heb:(e==0)=false:=by simpa using he
     clear hA R7 hzi hb
     (refine Zm ?_;repeat'(first|(refine Zi fun _=>?_;try simp(disch:=first|exact Zw|fail)[*,Zz])|refine Zx ?_|refine Zn ?_ ?_))
   .have hii:i=s.length:=by omega
    subst hii;have hV2:=Rx.get (fun j hj=>hz.get j hj hj);rw[List.take_length]at hA hml;subst hV2;clear hz hbad Rx h16
    (refine Zm ?_;repeat'(first|(refine Zi fun _=>?_;try simp(disch:=first|exact Zw|fail)[*,Zz])|refine Zx ?_|refine Zn ?_ ?_))
    refine Zl [0,55,56] (fun n sl h=>∃(i:Nat) (w:PV),n=t.length - i/\i<=t.length/\sl 57=some (.int .i64 i)/\sl 6=some w/\Pure.Acc [53,75] ⟨H.next,H.next,[]⟩ h 47 w ((Un s t++Zb5 s (t.take i)).map V7)/\h.next=H.next+78) t.length rfl ⟨0,w,by simp,by simp,by simp,by simp[*],by simpa[Zb5]using hA,by simp[*]⟩ ?_;clear hA h6;rintro n sl h hfr ⟨i,w,hn,hi,h57,h6,hA,U7⟩;simp at hfr
    have hnl:(Zb5 s (t.take i)).length<=20:=by
     unfold Zb5;have h1:=List.length_filter_le (fun y=>decide (Vv s y.1 < 0)) (t.take i);have h2:(t.take i).length<=t.length:=by simp;omega
     omega
    by_cases hlt:i < t.length
    .have hns:=Zqg s t i hlt;have Z9x:=h101.get t[i].1;obtain⟨Yi,h95i⟩:=h95.get i hlt;generalize hy:t[i]=y at *;obtain⟨x,r⟩:=y;simp only at Z9x hns h95i Yi;generalize Vv s x=q at *;have hAf:=hA.frame (h':=(h.put (H.next+12) (h.stamp (H.next+12)) (.cells [.str [],.nils])).put (H.next+12) (h.stamp (H.next+12)) (.cells [.str x,L 58 true (r.map Zv)])) (fun d hd=>by simp at hd;rcases hd with rfl | rfl<;>simp);by_cases hq:q < 0
     .rw [if_pos hq]at hns;have hq2:decide (0<=q)=false:=by simp;omega
      rw[hq2]at Z9x;obtain⟨w',h',Te,Xj,Tw,hgt⟩:=hAf.app (dd:=75) (ys:=[PV.agg [.str x,.lst 58 (r.map Zv)]]) (T:={k:=.struct [(0,9),(1,23)],size:=2,bytes:=40,zero:=[.string ⟨#[]⟩,.slice none 0 0]}) (by simp) rfl (by simp only[List.length_map,List.length_cons,List.length_nil,List.length_append];omega) (by decide) (by decide) (by simp);simp only[List.length_cons,List.length_nil]at Te;have hs1:=hA.same (n:=3);have hs2:=Xj.same (n:=3);have Zsh:h'.next=H.next+78:=by rw[Tw];exact U7
      have Xa:Hide (Pure.Acc [53,75] ⟨H.next,H.next,[]⟩ h' 47 w' ((Un s t++Zb5 s (t.take (i+1))).map V7)):=Hide.mk (by
       rw[hns,<- List.append_assoc,List.map_append,List.map_cons,List.map_nil];have:L 58 true (r.map Zv)=.lst 58 (r.map Zv):=Zkm Yi;show Pure.Acc _ _ _ _ _ (_++[PV.agg [.str x,L 58 true (r.map Zv)]]);rw[this];exact Xj)
      clear Xj hgt hA hns hAf Tw
      (refine Zm ?_;repeat'(first|(refine Zi fun _=>?_;try simp(disch:=first|exact Zw|fail)[*,Zz])|refine Zx ?_|refine Zn ?_ ?_))
      refine Yd false false [] [64] [H.next+12] [62] false (by decide +kernel) ?_
      (refine Zm ?_;repeat'(first|(refine Zi fun _=>?_;try simp(disch:=first|exact Zw|fail)[*,Zz])|refine Zx ?_|refine Zn ?_ ?_))
      refine Yd false false [] [69] [H.next+12] [72] false (by decide +kernel) ?_
      (refine Zm ?_;repeat'(first|(refine Zi fun _=>?_;try simp(disch:=first|exact Zw|fail)[*,Zz])|refine Zx ?_|refine Zn ?_ ?_))
      .exact ⟨_,by omega,i+1,rfl,by omega,by omega,by simpa using Xa.get⟩
      .rename_i hx;simp[reach,Zby]at hx;exact absurd hx (by decide)
     .rw [if_neg hq,List.append_nil]at hns;have hq2:decide (0<=q)=true:=by simp;omega
      rw[hq2]at Z9x;have Xa:Hide (Pure.Acc [53,75] ⟨H.next,H.next,[]⟩ ((h.put (H.next+12) (h.stamp (H.next+12)) (.cells [.str [],.nils])).put (H.next+12) (h.stamp (H.next+12)) (.cells [.str x,L 58 true (r.map Zv)])) 47 w ((Un s t++Zb5 s (t.take (i+1))).map V7)):=Hide.mk (by rw[hns];exact hAf);have hs1:=hA.same (n:=3);clear hA hns hAf
      (refine Zm ?_;repeat'(first|(refine Zi fun _=>?_;try simp(disch:=first|exact Zw|fail)[*,Zz])|refine Zx ?_|refine Zn ?_ ?_))
      refine Yd false false [] [64] [H.next+12] [62] false (by decide +kernel) ?_
      (refine Zm ?_;repeat'(first|(refine Zi fun _=>?_;try simp(disch:=first|exact Zw|fail)[*,Zz])|refine Zx ?_|refine Zn ?_ ?_))
      .exact ⟨_,by omega,i+1,rfl,by omega,by omega,by simpa using Xa.get⟩
      .rename_i hx;simp[reach,Zby]at hx;exact absurd hx (by decide)
    .have hii:i=t.length:=by omega
     subst hii;rw[List.take_length,List.map_append]at hA;have W1:=hA.inl;have hot:=Zxo hA;clear hA
     (refine Zm ?_;repeat'(first|(refine Zi fun _=>?_;try simp(disch:=first|exact Zw|fail)[*,Zz])|refine Zx ?_|refine Zn ?_ ?_))
     exact hot
  .have hV2:V=([],5):=by rw[<- hV];unfold Va;rw[if_pos (by simp[hM])]
   subst hV2;rw[decide_eq_true hN]at h51s;rw[decide_eq_false hM]at h51t;have hnms:(s.map (·.1)).length=s.length:=by simp
   have hnmt:(t.map (·.1)).length=t.length:=by simp
   clear hV hs ht;generalize s.map (·.1)=ns at *;generalize t.map (·.1)=nt at *;intro K H;refine Wc Tryz.func45 ?_
   (refine Zm ?_;repeat'(first|(refine Zi fun _=>?_;try simp(disch:=first|exact Zw|fail)[*,Zz,Tryz.f45])|refine Zx ?_|refine Zn ?_ ?_))
 .have hV2:V=([],5):=by rw[<- hV];unfold Va;rw[if_pos (by simp[hN])]
  subst hV2;rw[decide_eq_false hN]at h51s;have hnms:(s.map (·.1)).length=s.length:=by simp
  clear hV hs ht;generalize s.map (·.1)=ns at *;intro K H;refine Wc Tryz.func45 ?_
  (refine Zm ?_;repeat'(first|(refine Zi fun _=>?_;try simp(disch:=first|exact Zw|fail)[*,Zz,Tryz.f45])|refine Zx ?_|refine Zn ?_ ?_))
theorem Zaac {s u:List Ys}(hs:s.length<=10)(hu:u.length<=10):(Va s u).1.length<=20:=by
 unfold Va;split
 .simp
 .split
  .simp
  .have:=List.length_filter_le (fun y=>decide (Vv s y.1 < 0)) u;simp only[List.length_append,Zb5,Un,List.length_map];omega
theorem Z5e {s u:List Ys}(hu:Wd u):∀x∈(Va s u).1,x.2.length < 2^30:=by
 unfold Va;split
 .simp
 .split
  .simp
  .intro x hx;rcases List.mem_append.1 hx with hx | hx
   .obtain ⟨y,_,rfl⟩:=List.mem_map.1 hx;have:=Zri y.2 u;simp only;omega
   .obtain ⟨_,_,tr,v⟩:=hu x ((List.mem_filter.1 hx).1);have:=v.len;omega
set_option maxHeartbeats 8000000 in
theorem Zajk (b3 b4 b5:Bool)(l m n:List Int)(hl:l.length < 2^63)(hm:m.length < 2^63)(hn:n.length < 2^63):Xn vE 12 [L 3 b3 (l.map (.int .i64)),L 3 b4 (m.map (.int .i64)),L 3 b5 (n.map (.int .i64))] (.bool true):=by
 have h19:=Zamp;obtain⟨t,i',_,_,hT,g13⟩:=Zalo (b:=b3) (xs:=l.take 400) (i:=0) (by simp;omega) (by simp);obtain⟨s,j',hS,hsl,_,g15⟩:=Z1z (b:=b4) (xs:=m.take 400) (i:=0) (by simp;omega) (by simp);obtain⟨u,k',hU,hul,_,g15u⟩:=Z1z (b:=b5) (xs:=n.take 400) (i:=0) (by simp;omega) (by simp);obtain⟨tr,hv⟩:=hT.vt;have a45:=Zamm true true s u hS.good hU.good (by omega) (by omega);have a46:=Zaml true true s u hS.good hU.good (by omega) (by omega) (fun x hx=>(hS x hx).2.2.2) (fun x hx=>(hU x hx).2.2.2);have hcl:=Zaac hsl hul;have a44:=Zamn true true (Va s u).1 (by omega) (Z5e hU.good);have a16:=Ztk hv false true s hS.good (by omega);have Zlp:(Va s u).2=0->Xn vE 16 [L 58 false (t.map Zv),L 47 true ((Va s u).1.map V7)] (Zdl (Yo t (Va s u).1)):=fun h=>Ztk hv false true _ (Zrd hS.good hU.good h) (by omega)
 have Zpy:(Yo t s).2=0->Xn vE 16 [L 58 true ((Yo t s).1.map Zv),L 47 true (u.map V7)] (Zdl (Yo (Yo t s).1 u)):=fun h=>by
  obtain⟨e,tr',v',_⟩:=Sw hv hS.good h;rw[e];exact Ztk v' true true u hU.good (by omega)
 have hca:=fun h hx hy hz=>Zz5 hv hS.good hU.good h hx hy hz
 have a18:∀y z:List Nd,y=z->y.length<=20000->Xn vE 18 [L 58 true (y.map Zv),L 58 true (z.map Zv)] (.bool true):=by
  rintro y _ rfl h1;have:=Zaa7 true true y y (by omega) (by omega);simpa using this
 have hyl:=Zri t (Va s u).1;generalize Va s u=C at *;obtain⟨a,e⟩:=C;simp only at a45 a46 a44 Zlp hca hcl hyl;generalize Yo t s=X at *;obtain⟨x,g⟩:=X;simp only at a16 Zpy hca;generalize Yo t a=Y at *;obtain⟨y,h⟩:=Y;simp only at Zlp hca hyl;generalize Yo x u=Z at *;obtain⟨z,i⟩:=Z;simp only at Zpy hca;simp only[Zbz]at a16 Zlp;clear hS hT hU;replace hv:=Hide.mk hv
 have Zgf:(e==0)=false\/(e=0/\((g==0)=false\/(g=0/\((h==0)=false\/(h=0/\((i==0)=false\/i=0)))))):=by
  simp only[beq_eq_false_iff_ne];omega
 rcases Zgf with he | ⟨rfl,hg | ⟨rfl,hh | ⟨rfl,hi | rfl⟩⟩⟩
 case' inl=>clear Zlp Zpy a18 hca
 case' inr.inl=>
  replace Zlp:=Zlp rfl;clear Zpy a18 hca
 case' inr.inr.inl=>
  replace Zlp:=Zlp rfl;replace Zpy:=Zpy rfl;clear a18 hca
 case' inr.inr.inr.inl=>
  replace Zlp:=Zlp rfl;replace Zpy:=Zpy rfl;clear a18 hca
 case' inr.inr.inr.inr=>
  replace Zlp:=Zlp rfl;replace Zpy:=Zpy rfl;have a18':=a18 y z (hca rfl rfl rfl rfl) hyl;clear a18 hca
 all_goals
  intro K H;refine Wc Tryz.func12 ?_
  (refine Zm ?_;repeat'(first|(refine Zi fun _=>?_;try simp(disch:=first|exact Zw|fail)[*,Zz,Tryz.f12])|refine Zx ?_|refine Zn ?_ ?_))
  obtain⟨Zft,k1,hc1,Rm,hn1,ho1⟩:=Sf b3 l (by omega) {base:=H.next,lo:=H.next,ok:=[]} {next:=H.next+88,get:=H.get};refine Y9.2 ⟨_,hc1,?_⟩;clear hc1 ho1;simp only at Rm hn1
  (refine Zm ?_;repeat'(first|(refine Zi fun _=>?_;try simp(disch:=first|exact Zw|fail)[*,Zz])|refine Zx ?_|refine Zn ?_ ?_))
  clear g13 Rm;have hkn:(k1.put (H.next+88+9) Zft (Qa b3 (l.take 400) i')).next=k1.next:=rfl;generalize k1.put (H.next+88+9) Zft (Qa b3 (l.take 400) i')=k2 at *;obtain⟨Zb1,k3,hc2,hg2,hn2,ho2⟩:=Sf b4 m (by omega) {base:=H.next,lo:=H.next,ok:=[]} k2;refine Y9.2 ⟨_,hc2,?_⟩;clear hc2 ho2;have Sr:H.next+88 < k2.next:=by rw[hkn];omega
  generalize hQ:k2.next+9=Q at *
  (refine Zm ?_;repeat'(first|(refine Zi fun _=>?_;try simp(disch:=first|exact Zw|fail)[*,Zz])|refine Zx ?_|refine Zn ?_ ?_))
  clear hg2;have Zsp:(k3.put Q Zb1 (Qa b4 (m.take 400) j')).next=k3.next:=rfl;generalize k3.put Q Zb1 (Qa b4 (m.take 400) j')=k4 at *;obtain⟨ver3,k5,hc3,hg3,hn3,ho3⟩:=Sf b5 n (by omega) {base:=H.next,lo:=H.next,ok:=[]} k4;refine Y9.2 ⟨_,hc3,?_⟩;clear hc3 ho3;have hlo3:H.next+88 < k4.next:=by rw[Zsp];omega
  generalize hQ3:k4.next+9=Q3 at *
  (refine Zm ?_;repeat'(first|(refine Zi fun _=>?_;try simp(disch:=first|exact Zw|fail)[*,Zz])|refine Zx ?_|refine Zn ?_ ?_))
end Go.Proofs.YtabcdhcpilpojaaGreatDoor
end
