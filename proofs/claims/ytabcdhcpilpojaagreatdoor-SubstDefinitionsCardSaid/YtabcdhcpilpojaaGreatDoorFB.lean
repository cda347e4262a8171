/- Nodes of terms, as the reference looks at them. -/
import Derived.Test.YtabcdhcpilpojaaGreatDoorFA
import Derived.Test.YtabcdhcpilpojaaGreatDoorPD
set_option linter.unusedSimpArgs false
set_option linter.unusedVariables false
section
set_option maxRecDepth 20000
namespace Go.Proofs.YtabcdhcpilpojaaGreatDoor
open Go Go.Pure
open Go.Virt (Ex Ctx Ty TK)
structure Nd where
 op:Int
 sort:Int
 name:Yi
 num:Yi
 kids:Int
 deriving DecidableEq
abbrev Yb (n:Nd):PV:=.agg [.int .i64 n.op,.int .i64 n.sort,.str n.name,.str n.num,.int .i64 n.kids]
def Nd.Short (n:Nd):Prop:=n.name.length<=2^19/\n.num.length<=2^19
def Zfd (s:Int):Bool:=decide (1<=s)&&decide (s<=4)
def Vr (s:Int):Bool:=s==2||s==3
def Wq (op sort:Int)(name num:Yi):Bool:=
 if op=3 then name==[]&&((sort==2&&Ul num)||(sort==3&&Zan num))
 else if op=4\/op=5 then num==[]&&Tm name&&Zfd sort
 else if op=16\/op=17 then sort==0&&name==[]&&Ul num&&decide (0 < Zd7 num)
 else decide (1<=op)&&decide (op<=20)&&sort==0&&name==[]&&num==[]
def Yy (op n:Int):Bool:=
 if op=1\/op=2\/op=3\/op=4 then n==0
 else if op=5 then decide (1<=n)&&decide (n<=40)
 else if op=6\/op=16\/op=17\/op=20 then n==1
 else if op=7\/op=8 then decide (0<=n)
 else if op=10\/op=19 then n==3
 else if op=14 then decide (1<=n)
 else n==2
def Vo (s:List Int)(x out:Int):Int:=if s.all (·==x) then out else 0
def atI (s:List Int)(i:Nat):Int:=s.getD i 0
theorem Zaf6 {s:List Int}{i:Nat}(h:i < s.length):s[i]=atI s i:=by simp[atI,List.getElem?_eq_getElem h]
def W7 (op sort first:Int)(s:List Int):Int:=
 if op=1\/op=2 then 1
 else if op=3\/op=4\/op=5 then sort
 else if op=6\/op=7\/op=8\/op=9 then Vo s 1 1
 else if op=10 then (if atI s 0=1/\atI s 1=atI s 2 then atI s 1 else 0)
 else if op=11 then Vo s (atI s 0) 1
 else if op=12\/op=13 then (if Vr (atI s 0) then Vo s (atI s 0) 1 else 0)
 else if op=14 then (if Vr (atI s 0) then Vo s (atI s 0) (atI s 0) else 0)
 else if op=15 then (if first=3 then Vo s (atI s 0) (atI s 0) else 0)
 else if op=16\/op=17 then Vo s 2 2
 else if op=20 then Vo s 2 4
 else if op=18 then (if atI s 0=4/\atI s 1=2 then 2 else 0)
 else if op=19 then (if atI s 0=4/\atI s 1=2/\atI s 2=2 then 4 else 0)
 else 0
theorem Zagx (s:Int):Xn vE 158 [.int .i64 s] (.bool (Vr s)):=by
 intro K H;refine Wc Tryz.func158 ?_
 (refine Zm ?_;repeat'(first|(refine Zi fun _=>?_;try simp(disch:=first|exact Zq|fail)[*,Zs,Tryz.f158])|refine Ye ?_|refine Zx ?_|refine Zn ?_ ?_))
 all_goals simp[Vr, *]
theorem Zagz (s:Int):Xn vE 156 [.int .i64 s] (.bool (Zfd s)):=by
 intro K H;refine Wc Tryz.func156 ?_
 (refine Zm ?_;repeat'(first|(refine Zi fun _=>?_;try simp(disch:=first|exact Zq|fail)[*,Zs,Tryz.f156])|refine Ye ?_|refine Zx ?_|refine Zn ?_ ?_))
 all_goals simp[Zfd, *]
theorem Z2w (op sort kids:Int)(name num:Yi)(h1:name.length<=2^19)(h2:num.length<=2^19):Xn vE 129 [.agg [.int .i64 op,.int .i64 sort,.str name,.str num,.int .i64 kids]] (.bool (Wq op sort name num)):=by
 have a1:=Zdi num h2;have a2:=Z2y num h2;have a3:=Zag1 num h2;have a4:=Zabu name (by omega);have a5:=Zagz sort;intro K H;refine Wc Tryz.func129 ?_
 (refine Zm ?_;repeat'(first|(refine Zi fun _=>?_;try simp(disch:=first|exact Zq|fail)[*,Zs,Tryz.f129])|refine Ye ?_|refine Zx ?_|refine Zn ?_ ?_))
 all_goals simp_all[Wq]
 all_goals omega
theorem Z2v (op n:Int):Xn vE 130 [.int .i64 op,.int .i64 n] (.bool (Yy op n)):=by
 intro K H;refine Wc Tryz.func130 ?_
 (refine Zm ?_;repeat'(first|(refine Zi fun _=>?_;try simp(disch:=first|exact Zq|fail)[*,Zs,Tryz.f130])|refine Ye ?_|refine Zx ?_|refine Zn ?_ ?_))
 all_goals simp_all[Yy]
 all_goals omega
theorem Zagy (b:Bool)(s:List Int)(x out:Int)(hn:s.length < 2^62):Xn vE 157 [L 3 b (s.map (.int .i64)),.int .i64 x,.int .i64 out] (.int .i64 (Vo s x out)):=by
 intro K H;refine Wc Tryz.func157 ?_
 (refine Zm ?_;repeat'(first|(refine Zi fun _=>?_;try simp(disch:=first|exact Zq|fail)[*,Zs,Tryz.f157])|refine Ye ?_|refine Zx ?_|refine Zn ?_ ?_))
 refine Zh [0,1,2] (fun n sl h=>∃i:Nat,n=s.length - i/\i<=s.length/\sl 7=some (.int .i64 i)/\∀j (hj:j < s.length),j < i->s[j]=x) s.length rfl ⟨0,by simp⟩ ?_;rintro n sl h hf ⟨i,hn',hi,h7,hd⟩;simp at hf;replace hd:=Hide.mk hd;by_cases hlt:i < s.length
 . (refine Zm ?_;repeat'(first|(refine Zi fun _=>?_;try simp(disch:=first|exact Zq|fail)[*,Zs])|refine Ye ?_|refine Zx ?_|refine Zn ?_ ?_))
   .rename_i e;refine⟨_,by omega,i+1,rfl,by omega,rfl,fun j hj hji=>?_⟩;by_cases e':j=i
    .subst e';exact e
    .exact hd.get j hj (by omega)
   .rename_i _ e
    have:s.all (·==x)=false:=by
     rw[<- Bool.not_eq_true,List.all_eq_true];intro hh;exact e (by simpa using hh s[i] (List.getElem_mem hlt))
    simp[Vo,this]
 . (refine Zm ?_;repeat'(first|(refine Zi fun _=>?_;try simp(disch:=first|exact Zq|fail)[*,Zs])|refine Ye ?_|refine Zx ?_|refine Zn ?_ ?_))
   have:s.all (·==x)=true:=by
    rw[List.all_eq_true];intro c hc;obtain⟨j,hj,rfl⟩:=List.getElem_of_mem hc;simpa using hd.get j hj (by omega)
   simp[Vo,this]
set_option maxHeartbeats 2000000 in
theorem Zag4 (b:Bool)(op sort kids first:Int)(name num:Yi)(s:List Int)(hs:Yy op s.length=true)(hn:s.length < 2^62):
  Xn vE 131 [.agg [.int .i64 op,.int .i64 sort,.str name,.str num,.int .i64 kids],.int .i64 first,L 3 b (s.map (.int .i64))] (.int .i64 (W7 op sort first s)):=by
 have h157:=fun x out=>Zagy b s x out hn
 have f3:op=10\/op=19->s.length=3:=by
  rintro (rfl | rfl)<;>simp[Yy]at hs<;>omega
 have f2:op=11\/op=12\/op=13\/op=15\/op=18->s.length=2:=by
  rintro (rfl | rfl | rfl | rfl | rfl)<;>simp[Yy]at hs<;>omega
 have f1:op=14->1<=s.length:=by
  rintro rfl;simp[Yy]at hs;omega
 have hg:∀i (h:i < s.length),s[i]=atI s i:=fun i h=>Zaf6 h
 clear hs;intro K H;refine Wc Tryz.func131 ?_
 (refine Zm ?_;repeat'(first|(refine Zi fun _=>?_;try simp(disch:=first|exact Zq|fail)[*,Zs,Tryz.f131,Zagx])|refine Ye ?_|refine Zx ?_|refine Zn ?_ ?_))
 all_goals simp[W7, *]
inductive Tr where
 |mk (op sort:Int) (name num:Yi) (ks:List Tr)
def Tr.op:Tr->Int | .mk op _ _ _ _=>op
def Ve:List Tr->Int
 | []=>0
 |t::_=>t.op
mutual
def Ya:Tr->Int
 | .mk op sort _ _ ks=>if (Ys ks).all (fun s=>decide (0 < s)) then W7 op sort (Ve ks) (Ys ks) else 0
def Ys:List Tr->List Int
 | []=>[]
 |k::r=>Ya k::Ys r
end
mutual
def flat:Tr->List Nd
 | .mk op sort name num ks=>⟨op,sort,name,num,(ks.length:Int)⟩::Tz ks
def Tz:List Tr->List Nd
 | []=>[]
 |k::r=>flat k++Tz r
end
theorem Tv (ks:List Tr):(Ys ks).length=ks.length:=by
 induction ks with
 |nil=>rfl
 |cons k r ih=>simp[Ys,ih]
theorem R8 (a b:List Tr):Ys (a++b)=Ys a++Ys b:=by
 induction a with
 |nil=>rfl
 |cons k r ih=>simp[Ys,ih]
def many (p:List Nd->Option (Tr×List Nd)):Nat->List Nd->Option (List Tr×List Nd)
 | 0,r=>some ([],r)
 |k+1,r=>match p r with
  |none=>none
  |some (t,r')=>match many p k r' with
   |none=>none
   |some (ts,r'')=>some (t::ts,r'')
def Zg:Nat->List Nd->Option (Tr×List Nd)
 | 0,_=>none
 | _+1,[]=>none
 |d+1,n::r=>if Wq n.op n.sort n.name n.num&&Yy n.op n.kids then (match many (Zg d) n.kids.toNat r with
  |none=>none
  |some (ks,r')=>some (.mk n.op n.sort n.name n.num ks,r')) else none
theorem Zej {p:List Nd->Option (Tr×List Nd)}:∀ {k:Nat} {r r':List Nd} {ts:List Tr},many p k r=some (ts,r')->ts.length=k
 | 0,r,r',ts,h=>by simp only[many,Option.some.injEq,Prod.mk.injEq]at h;rw[<- h.1];rfl
 |k+1,r,r',ts,h=>by
  simp only[many]at h;split at h
  .cases h
  .split at h
   .cases h
   .rename_i t1 r1 _ ts2 r2 h2;cases h;simp[Zej h2]
theorem Qh {p:List Nd->Option (Tr×List Nd)}(hp:∀r t r',p r=some (t,r')->∃a,a≠[]/\r=a++r'):∀ {k:Nat} {r r':List Nd} {ts:List Tr},many p k r=some (ts,r')->∃a,r=a++r'/\k<=a.length
 | 0,r,r',ts,h=>by simp only[many,Option.some.injEq,Prod.mk.injEq]at h;exact⟨[],by rw[h.2];rfl,Nat.zero_le _⟩
 |k+1,r,r',ts,h=>by
  simp only[many]at h;split at h
  .cases h
  .split at h
   .cases h
   .rename_i t1 r1 h1 _ ts2 r2 h2;cases h;obtain⟨a,ha,rfl⟩:=hp _ _ _ h1;obtain⟨b,rfl,hb⟩:=Qh hp h2;refine⟨a++b,by simp,?_⟩;have:1<=a.length:=List.length_pos_iff.2 ha;simp;omega
theorem X1:∀ {d:Nat} {r r':List Nd} {t:Tr},Zg d r=some (t,r')->∃a,a≠[]/\r=a++r'
 | 0,r,r',t,h=>by simp[Zg]at h
 |d+1,[],r',t,h=>by simp[Zg]at h
 |d+1,n::r,r',t,h=>by
  simp only[Zg]at h;split at h
  .split at h
   .cases h
   .rename_i ks r1 h1;cases h;obtain⟨a,rfl,_⟩:=Qh (fun _ _ _ hh=>X1 hh) h1;exact⟨n::a,by simp,rfl⟩
  .cases h
def Sy (t:List Nd)(d i:Nat):PV:=match Zg d (t.drop i) with
 |none=>.tuple [.int .i64 (-1),.int .i64 0]
 |some (tr,r)=>.tuple [.int .i64 ((t.length - r.length:Nat):Int),.int .i64 (Ya tr)]
theorem Z7b {d:Nat}{n:Nd}{r r':List Nd}{tr:Tr}(h:Zg d (n::r)=some (tr,r')):tr.op=n.op:=by
 cases d with
 |zero=>simp[Zg]at h
 |succ d=>
  simp only[Zg]at h;split at h
  .split at h
   .cases h
   .cases h;rfl
  .cases h
theorem Znc {d k:Nat}{r r':List Nd}{ks:List Tr}(h:many (Zg d) k r=some (ks,r'))(hk:ks≠[]):∃n r0,r=n::r0/\Ve ks=n.op:=by
 cases k with
 |zero=>simp only[many,Option.some.injEq,Prod.mk.injEq]at h;exact absurd h.1.symm hk
 |succ k=>
  cases r with
  |nil=>cases d<;>simp[many,Zg]at h
  |cons n r=>
   simp only[many]at h;split at h
   .cases h
   .rename_i t1 r1 h1;split at h
    .cases h
    .cases h;exact⟨n,r,rfl,Z7b h1⟩
theorem Zm6 {t:List Nd}{d e:Nat}{tr:Tr}{r:List Nd}(he:e<=t.length)(h:Zg d (t.drop e)=some (tr,r)):∃e',e < e'/\e'<=t.length/\r=t.drop e'/\Sy t d e=.tuple [.int .i64 (e':Nat),.int .i64 (Ya tr)]:=by
 obtain⟨a,ha,e1⟩:=X1 h;have h1:=congrArg List.length e1;have h2:1<=a.length:=List.length_pos_iff.2 ha;simp at h1;refine⟨e+a.length,by omega,by omega,?_,?_⟩
 .rw [<- List.drop_drop,e1,List.drop_left]
 .simp only [Sy,h];congr 4;omega
set_option maxHeartbeats 2000000 in
theorem Zabf (b:Bool)(t:List Nd)(hs:∀n∈t,n.Short)(hl:t.length < 2^30):∀(d i:Nat),d<=257->i<=t.length->Xn vE 91 [L 58 b (t.map Yb),.int .i64 i,.int .i64 (257 - d:Int)] (Sy t d i):=by
 have hbl:∀d i m,below m 4 (Sy t d i)=true:=fun d i m=>by unfold Sy;split<;>simp
 intro d
 induction d with
 |zero=>
  intro i _ hi;have e:Sy t 0 i=.tuple [.int .i64 (-1),.int .i64 0]:=rfl;rw[e];intro K H;refine Wc Tryz.func91 ?_;by_cases hlt:i < t.length
  .have hm:=hs _ (List.getElem_mem hlt);generalize hn:t[i]=n at hm;have h129:=Z2w n.op n.sort n.kids n.name n.num hm.1 hm.2;have h130:=Z2v n.op n.kids
   (refine Zm ?_;repeat'(first|(refine Zi fun _=>?_;try simp(disch:=first|exact Zq|fail)[*,Zs,Tryz.f91,Yb])|refine Ye ?_|refine Zx ?_|refine Zn ?_ ?_))
  . (refine Zm ?_;repeat'(first|(refine Zi fun _=>?_;try simp(disch:=first|exact Zq|fail)[*,Zs,Tryz.f91])|refine Ye ?_|refine Zx ?_|refine Zn ?_ ?_))
 |succ d ih=>
  intro i hd hi;replace hbl:=hbl (d+1) i;by_cases hlt:i < t.length
  .have hm:=hs _ (List.getElem_mem hlt);have hdr:t.drop i=t[i]::t.drop (i+1):=List.drop_eq_getElem_cons hlt;generalize hn:t[i]=n at hm hdr;have h129:=Z2w n.op n.sort n.kids n.name n.num hm.1 hm.2;have h130:=Z2v n.op n.kids;by_cases hok:(Wq n.op n.sort n.name n.num&&Yy n.op n.kids)=true
   .obtain ⟨hfo,hao⟩:=by simpa using hok
    have hkn:0<=n.kids:=by
     unfold Yy at hao
     revert hao
     repeat' split
     all_goals simp
     all_goals omega
    obtain⟨N,hK⟩:=Int.eq_ofNat_of_zero_le hkn;rw[hK]at hao h129 h130
    have e:Sy t (d+1) i=match many (Zg d) N (t.drop (i+1)) with
     |none=>.tuple [.int .i64 (-1),.int .i64 0]
     |some (ks,r')=>.tuple [.int .i64 ((t.length - r'.length:Nat):Int),.int .i64 (Ya (.mk n.op n.sort n.name n.num ks))]:=by
     simp only[Sy,hdr,Zg,hK,hfo,hao];simp;cases many (Zg d) N (List.drop (i+1) t)<;>rfl
    clear hkn hok;by_cases Qb:t.length < N
    .have e2:Sy t (d+1) i=.tuple [.int .i64 (-1),.int .i64 0]:=by
      rw[e];cases hmm:many (Zg d) N (t.drop (i+1)) with
      |none=>rfl
      |some q=>
       obtain⟨ks,r'⟩:=q;obtain⟨a,ha,hka⟩:=Qh (fun _ _ _ hh=>X1 hh) hmm;have:=congrArg List.length ha;simp at this;omega
     rw[e2];clear e e2;intro K H;refine Wc Tryz.func91 ?_
     (refine Zm ?_;repeat'(first|(refine Zi fun _=>?_;try simp(disch:=first|exact Zq|fail)[*,Zs,Tryz.f91,Yb])|refine Ye ?_|refine Zx ?_|refine Zn ?_ ?_))
    .generalize hV:Sy t (d+1) i=V at *
     have ih':∀e,e<=t.length->Xn vE 91 [L 58 b (t.map Yb),.int .i64 e,.int .i64 (257 - ((d+1:Nat):Int)+1)] (Sy t d e):=fun e he=>by
      have:=ih e (by omega) he
      rwa [show (257 - (d:Int))=257 - ((d+1:Nat):Int)+1 by omega]at this
     have hD0:0<=257 - ((d+1:Nat):Int)/\257 - ((d+1:Nat):Int)<=256:=by omega
     generalize 257 - ((d+1:Nat):Int)=D at ih' hD0 ⊢;obtain⟨hD0,hD1⟩:=hD0;replace ih:=Hide.mk ih';replace e:=Hide.mk e;replace hs:=Hide.mk hs;clear hV ih';intro K H;refine Wc Tryz.func91 ?_
     (refine Zm ?_;repeat'(first|(refine Zi fun _=>?_;try simp(disch:=first|exact Zq|fail)[*,Zs,Tryz.f91,Yb])|refine Ye ?_|refine Zx ?_|refine Zn ?_ ?_))
     refine Zh [0,1,2] (fun m sl h=>∃(k e:Nat) (ks:List Tr) (w:PV),m=N - k/\k<=N/\e<=t.length/\ks.length=k/\sl 11=some (.int .i64 k)/\sl 9=some (.int .i64 e)/\sl 10=some (.bool ((Ys ks).all fun s=>decide (0 < s)))/\sl 8=some w /\
      Acc [83] ⟨H.next,H.next,[]⟩ h 3 w ((Ys ks).map (.int .i64))/\h.next=H.next+104/\many (Zg d) N (t.drop (i+1))=(match many (Zg d) (N - k) (t.drop e) with
       |none=>none
       |some (us,r'')=>some (ks++us,r''))) N rfl ⟨0,i+1,[],.nils,by simp,by simp,by omega,rfl,rfl,by simp,by simp[Ys],by simp,Acc.nil,by simp,by
        simp only[Nat.sub_zero,List.nil_append];cases many (Zg d) N (t.drop (i+1))<;>rfl⟩ ?_
     rintro m sl h hf ⟨k,q,ks,w,hm',hk,hq,Zzp,h11,h9,h10,h8,hA,Uf,hmy⟩;simp at hf;by_cases hkK:k < N
     .have R3:many (Zg d) (N - k) (t.drop q)=match Zg d (t.drop q) with
       |none=>none
       |some (t1,r')=>match many (Zg d) (N - (k+1)) r' with
        |none=>none
        |some (ts,r'')=>some (t1::ts,r''):=by
       rw[show N - k=(N - (k+1))+1 by omega];rfl
      have ihq:=ih.get q hq;have hka:k < 1073741824:=by omega
      cases hp:Zg d (t.drop q) with
      |none=>
       have hVV:V=.tuple [.int .i64 (-1),.int .i64 0]:=by rw[e.get,hmy,R3,hp]
       have hv:Sy t d q=.tuple [.int .i64 (-1),.int .i64 0]:=by simp only[Sy,hp]
       rw[hv]at ihq;clear R3 hmy hp hv
       (refine Zm ?_;repeat'(first|(refine Zi fun _=>?_;try simp(disch:=first|exact Zq|fail)[*,Zs])|refine Ye ?_|refine Zx ?_|refine Zn ?_ ?_))
      |some x=>
       obtain⟨tr,r⟩:=x;obtain⟨q',hq1,hq2,rfl,hv⟩:=Zm6 hq hp;rw[hv]at ihq;simp only[hp]at R3;replace hmy:=Hide.mk hmy;replace R3:=Hide.mk R3;clear hp hv;obtain⟨w',h',Sv,X4,Ts,Zk⟩:=hA.app (dd:=83) (ys:=[.int .i64 (Ya tr)]) (T:={k:=.int .i64,size:=1,bytes:=8,zero:=[.int .i64 0]}) (by simp) rfl (by simp[Tv];omega) (by decide) (by decide) (by simp);replace Zk:=Hide.mk Zk;replace X4:=Hide.mk X4;simp only[List.length_cons,List.length_nil]at Sv;clear hA
       have hfm:many (Zg d) N (List.drop (i+1) t)=match many (Zg d) (N - (k+1)) (List.drop q' t) with
         |none=>none
         |some (us,r'')=>some (ks++[tr]++us,r''):=by
        rw[hmy.get,R3.get];cases many (Zg d) (N - (k+1)) (List.drop q' t)<;>simp
       have hfA:Acc [83] ⟨H.next,H.next,[]⟩ h' 3 w' ((Ys (ks++[tr])).map (.int .i64)):=by
        simpa[R8,Ys]using X4.get
       replace hfm:=Hide.mk hfm;replace hfA:=Hide.mk hfA;clear hmy R3 X4
       (refine Zm ?_;repeat'(first|(refine Zi fun _=>?_;try simp(disch:=first|exact Zq|fail)[*,Zs])|refine Ye ?_|refine Zx ?_|refine Zn ?_ ?_))
       .rename_i hall;refine⟨N - (k+1),by omega,k+1,rfl,by omega,q',hq2,ks++[tr],by simp;omega,by omega,rfl,?_,hfA.get,hfm.get⟩;rw[R8,List.all_append,hall];simp[Ys]
       .rename_i hall;refine⟨N - (k+1),by omega,k+1,rfl,by omega,q',hq2,ks++[tr],by simp;omega,by omega,rfl,?_,hfA.get,hfm.get⟩
        have:(Ys (ks++[tr])).all (fun s=>decide (0 < s))=false:=by
         rw[R8,List.all_append,hall];rfl
        simpa using this
     .have hkN:k=N:=by omega
      subst hkN;simp only[Nat.sub_self,many,List.append_nil]at hmy;have hVV:=e.get;rw[hmy]at hVV;simp only[List.length_drop,show t.length - (t.length - q)=q by omega]at hVV;rcases Bool.eq_false_or_eq_true ((Ys ks).all fun s=>decide (0 < s)) with hall | hall
      .replace hVV:V=.tuple [.int .i64 q,.int .i64 (W7 n.op n.sort (Ve ks) (Ys ks))]:=by
        rw[hVV,Ya,if_pos hall]
       have hl1:=Tv ks;have h131:=Zag4 true n.op n.sort k (Ve ks) n.name n.num (Ys ks) (by rw[hl1,Zzp];exact hao) (by omega);have hc:=hA.call rfl (f:=131) rfl [.agg [.int .i64 n.op,.int .i64 n.sort,.str n.name,.str n.num,.int .i64 k],.int .i64 (Ve ks)] [] h131 rfl rfl rfl;simp only[List.cons_append,List.nil_append]at hc
       have hlw:lenK (.slice 3) w=some (.int .i64 k):=by
        have:=hA.lenK (e:=3)
        rwa [List.length_map,hl1,Zzp]at this
       have Zzn:ks≠[]->i+1 < t.length:=fun hk0=>by
        obtain⟨n1,r0,e1,e2⟩:=Znc hmy hk0;have:=congrArg List.length e1;simp at this;omega
       have hf1:∀(hk0:i+1 < t.length),ks≠[]->t[i+1].op=Ve ks:=fun hk1 hk0=>by
        obtain⟨n1,r0,e1,e2⟩:=Znc hmy hk0;rw[List.drop_eq_getElem_cons hk1]at e1;rw[e2,List.head_eq_of_cons_eq e1]
       have hf0:ks=[]->Ve ks=0:=fun hk0=>by rw[hk0];rfl
       by_cases hk0:ks=[]
       .have hf0:=hf0 hk0;have hk00:k=0:=by rw[<- Zzp,hk0];rfl
        rw[hf0]at hc hVV;simp only[hk00,Int.natCast_zero]at hc;clear hmy e hf1 Zzn h131 hf0;clear hk0
        (refine Zm ?_;repeat'(first|(refine Zi fun _=>?_;try simp(disch:=first|exact Zq|fail)[*,Zs])|refine Ye ?_|refine Zx ?_|refine Zn ?_ ?_))
       .have hf1:=hf1 (Zzn hk0) hk0;have Zzn:=Zzn hk0;have hk00:0 < k:=by rw[<- Zzp];exact List.length_pos_iff.2 hk0
        clear hmy e hf0 h131
        (refine Zm ?_;repeat'(first|(refine Zi fun _=>?_;try simp(disch:=first|exact Zq|fail)[*,Zs])|refine Ye ?_|refine Zx ?_|refine Zn ?_ ?_))
      .replace hVV:V=.tuple [.int .i64 q,.int .i64 0]:=by
        rw[hVV,Ya,if_neg (by rw[hall];simp)]
       clear hmy e
       (refine Zm ?_;repeat'(first|(refine Zi fun _=>?_;try simp(disch:=first|exact Zq|fail)[*,Zs])|refine Ye ?_|refine Zx ?_|refine Zn ?_ ?_))
   .have e:Sy t (d+1) i=.tuple [.int .i64 (-1),.int .i64 0]:=by
     simp only[Sy,hdr,Zg,hok];rfl
    rw[e];clear e hdr;rcases Bool.eq_false_or_eq_true (Wq n.op n.sort n.name n.num) with hfo | hfo
    .have hao:Yy n.op n.kids=false:=by simpa[hfo]using hok
     clear hok;intro K H;refine Wc Tryz.func91 ?_
     (refine Zm ?_;repeat'(first|(refine Zi fun _=>?_;try simp(disch:=first|exact Zq|fail)[*,Zs,Tryz.f91,Yb])|refine Ye ?_|refine Zx ?_|refine Zn ?_ ?_))
    .clear hok;intro K H;refine Wc Tryz.func91 ?_
     (refine Zm ?_;repeat'(first|(refine Zi fun _=>?_;try simp(disch:=first|exact Zq|fail)[*,Zs,Tryz.f91,Yb])|refine Ye ?_|refine Zx ?_|refine Zn ?_ ?_))
  .have e:Sy t (d+1) i=.tuple [.int .i64 (-1),.int .i64 0]:=by
    have:t.drop i=[]:=by simp;omega
    simp[Sy,this,Zg]
   rw[e];intro K H;refine Wc Tryz.func91 ?_
   (refine Zm ?_;repeat'(first|(refine Zi fun _=>?_;try simp(disch:=first|exact Zq|fail)[*,Zs,Tryz.f91])|refine Ye ?_|refine Zx ?_|refine Zn ?_ ?_))
theorem Zag8 (b1 b2:Bool)(x y:List Int)(hx:x.length < 2^62)(hy:y.length < 2^62):Xn vE 114 [L 3 b1 (x.map (.int .i64)),L 3 b2 (y.map (.int .i64))] (.bool (x==y)):=by
 by_cases hl:x.length=y.length
 .intro K H;refine Wc Tryz.func114 ?_
  (refine Zm ?_;repeat'(first|(refine Zi fun _=>?_;try simp(disch:=first|exact Zq|fail)[*,Zs,Tryz.f114])|refine Ye ?_|refine Zx ?_|refine Zn ?_ ?_))
  refine Zh [0,1] (fun n sl h=>∃i:Nat,n=x.length - i/\i<=x.length/\sl 5=some (.int .i64 i)/\∀j (hj:j < x.length) (hk:j < y.length),j < i->x[j]=y[j]) x.length rfl ⟨0,by simp⟩ ?_;rintro n sl h hf ⟨i,hn',hi,h5,hd⟩;simp at hf;replace hd:=Hide.mk hd;by_cases hlt:i < x.length
  .have Zps:i < y.length:=by omega
   clear hl
   (refine Zm ?_;repeat'(first|(refine Zi fun _=>?_;try simp(disch:=first|exact Zq|fail)[*,Zs])|refine Ye ?_|refine Zx ?_|refine Zn ?_ ?_))
   .rename_i e;refine⟨_,by omega,i+1,rfl,by omega,rfl,fun j hj hk hji=>?_⟩;by_cases e':j=i
    .subst e';exact e
    .exact hd.get j hj hk (by omega)
   .rename_i e;rintro rfl;simp at e
  . (refine Zm ?_;repeat'(first|(refine Zi fun _=>?_;try simp(disch:=first|exact Zq|fail)[*,Zs])|refine Ye ?_|refine Zx ?_|refine Zn ?_ ?_))
    have:x=y:=List.ext_getElem hl fun j hj hk=>hd.get j hj hk (by omega)
    simp[this]
 .have:x≠y:=by rintro rfl;exact hl rfl
  have hq:(x==y)=false:=by simp[this]
  intro K H;refine Wc Tryz.func114 ?_
  (refine Zm ?_;repeat'(first|(refine Zi fun _=>?_;try simp(disch:=first|exact Zq|fail)[*,Zs,Tryz.f114])|refine Ye ?_|refine Zx ?_|refine Zn ?_ ?_))
theorem Zag2 (b:Bool)(t:List Nd)(hs:∀n∈t,n.Short)(hl:t.length < 2^30)(i:Nat)(hi:i < t.length)(ks:List Tr)(r:List Nd)(N:Nat)(hN:t[i].kids=N)(hm:many (Zg 257) N (t.drop (i+1))=some (ks,r)):
  Xn vE 141 [L 58 b (t.map Yb),.int .i64 i] (L 3 true ((Ys ks).map (.int .i64))):=by
 have hlen:=Zej hm;generalize hn:t[i]=n at hN
 have hNl:N < t.length:=by
  obtain⟨a,ha,hka⟩:=Qh (fun _ _ _ hh=>X1 hh) hm;have:=congrArg List.length ha;simp at this;omega
 have h91:∀q,q<=t.length->Xn vE 91 [L 58 b (t.map Yb),.int .i64 q,.int .i64 0] (Sy t 257 q):=fun q hq=>Zabf b t hs hl 257 q (by omega) hq
 replace h91:=Hide.mk h91;clear hs;intro K H;refine Wc Tryz.func141 ?_
 (refine Zm ?_;repeat'(first|(refine Zi fun _=>?_;try simp(disch:=first|exact Zq|fail)[*,Zs,Tryz.f141,Yb])|refine Ye ?_|refine Zx ?_|refine Zn ?_ ?_))
 refine Zh [0,1] (fun m sl h=>∃(k e:Nat) (k1 k2:List Tr) (w:PV),m=N - k/\k<=N/\e<=t.length/\k1.length=k/\ks=k1++k2/\sl 7=some (.int .i64 k)/\sl 6=some (.int .i64 e)/\sl 5=some w /\
      Acc [30] ⟨H.next,H.next,[]⟩ h 3 w ((Ys k1).map (.int .i64))/\h.next=H.next+33/\many (Zg 257) (N - k) (t.drop e)=some (k2,r)) N rfl ⟨0,i+1,[],ks,.nils,by simp,by simp,by omega,rfl,rfl,by simp,by simp[Ys],by simp,Acc.nil,by simp,hm⟩ ?_
 rintro m sl h hf ⟨k,q,k1,k2,w,hm',hk,hq,Zzp,hks,h7,h6,h5,hA,Uf,hmy⟩;simp at hf;by_cases hkN:k < N
 .have R3:many (Zg 257) (N - k) (t.drop q)=match Zg 257 (t.drop q) with
   |none=>none
   |some (t1,r')=>match many (Zg 257) (N - (k+1)) r' with
    |none=>none
    |some (ts,r'')=>some (t1::ts,r''):=by
   rw[show N - k=(N - (k+1))+1 by omega];rfl
  rw[hmy]at R3;have h91q:=h91.get q hq;cases hp:Zg 257 (t.drop q) with
  |none=>rw[hp]at R3;cases R3
  |some x=>
   obtain⟨tr,rr⟩:=x;obtain⟨q',hq1,hq2,rfl,hv⟩:=Zm6 hq hp;rw[hv]at h91q;simp only[hp]at R3;cases hmm:many (Zg 257) (N - (k+1)) (t.drop q') with
   |none=>rw[hmm]at R3;cases R3
   |some z=>
    obtain⟨k3,r3⟩:=z;rw[hmm]at R3;cases R3;obtain⟨w',h',Sv,X4,Ts,Zk⟩:=hA.app (dd:=30) (ys:=[.int .i64 (Ya tr)]) (T:={k:=.int .i64,size:=1,bytes:=8,zero:=[.int .i64 0]}) (by simp) rfl (by simp[Tv];omega) (by decide) (by decide) (by simp);simp only[List.length_cons,List.length_nil]at Sv
    have Xg:∃m,m < N - k/\∃x,m=N - x/\x<=N/\∃x_1:Nat,x_1<=t.length/\∃x_2:List Tr,x_2.length=x/\∃x_3,ks=x_2++x_3/\(k:Int)+1=x/\(q':Int)=x_1/\Acc [30] ⟨H.next,H.next,[]⟩ h' 3 w' ((Ys x_2).map (.int .i64))/\many (Zg 257) (N - x) (t.drop x_1)=some (x_3,r):=
     ⟨N - (k+1),by omega,k+1,rfl,by omega,q',hq2,k1++[tr],by simp;omega,k3,by rw[hks];simp,by omega,rfl,by simpa[R8,Ys]using X4,hmm⟩
    replace Xg:=Hide.mk Xg;clear Zk X4 hA hp hv hmm hmy hm hks hlen hq1
    (refine Zm ?_;repeat'(first|(refine Zi fun _=>?_;try simp(disch:=first|exact Zq|fail)[*,Zs])|refine Ye ?_|refine Zx ?_|refine Zn ?_ ?_))
    exact Xg.get
 .have hkN:k=N:=by omega
  subst hkN;simp only[Nat.sub_self,many,Option.some.injEq,Prod.mk.injEq]at hmy;rw[<- hmy.1,List.append_nil]at hks;have Vi:=hA.inl;have Znz:=hA.inlT;rw[<- hks]at Vi;rw[Vi]at Znz;clear hmy hm hks;have hot:=hA.ownT
  (refine Zm ?_;repeat'(first|(refine Zi fun _=>?_;try simp(disch:=first|exact Zq|fail)[*,Zs])|refine Ye ?_|refine Zx ?_|refine Zn ?_ ?_))
  exact hot
theorem Z20 (b:Bool)(t:List Nd)(hs:∀n∈t,n.Short)(hl:t.length < 2^30)(i:Nat)(hi:i < t.length)(ks:List Tr)(r:List Nd)(N:Nat)(hN:t[i].kids=N)(hm:many (Zg 257) N (t.drop (i+1))=some (ks,r)):
  Xn vE 113 [L 58 b (t.map Yb),.int .i64 i] (.agg [.str t[i].name,L 3 true ((Ys ks).map (.int .i64)),.int .i64 t[i].sort]):=by
 have h:=Zag2 b t hs hl i hi ks r N hN hm;clear hm hs;intro K H;refine Wc Tryz.func113 ?_
 (simp(disch:=first|exact Zq|fail)[*,Zs,Tryz.f113,Yb])
 refine Z0 ?_
 (refine Zm ?_;repeat'(first|(refine Zi fun _=>?_;try simp(disch:=first|exact Zq|fail)[*,Zs])|refine Ye ?_|refine Zx ?_|refine Zn ?_ ?_))
structure Use where
 fn:Bool
 name:Yi
 args:List Int
 sort:Int
 deriving DecidableEq
abbrev Xh (u:Use):PV:=.agg [.str u.name,.int .i64 u.sort]
abbrev Y5 (u:Use):PV:=.agg [.str u.name,L 3 true (u.args.map (.int .i64)),.int .i64 u.sort]
def Xf (n:Nd)(r:List Nd):List Use:=
 if n.op=4 then [⟨false,n.name,[],n.sort⟩]
 else if n.op=5 then (match many (Zg 257) n.kids.toNat r with
  |some (ks,_)=>[⟨true,n.name,Ys ks,n.sort⟩]
  |none=>[]) else []
def Zt:List Nd->List Use
 | []=>[]
 |n::r=>Xf n r++Zt r
def Clean (l:List Use):Prop:=∀u∈l,∀v∈l,u.name=v.name->u=v
instance (l:List Use):Decidable (Clean l):=by unfold Clean;infer_instance
def Yx (l:List Use):Bool:=decide (Clean l)
theorem Zgn {n:Nd}{r:List Nd}{u:Use}(h:u∈Xf n r)(hf:u.fn=false):u.args=[]:=by
 unfold Xf at h;split at h
 .simp at h;rw[h]
 .split at h
  .split at h
   .simp at h;rw[h]at hf;cases hf
   .cases h
  .cases h
structure UInv (t:List Nd)(i:Nat)(P vs fs:List Use):Prop where
 split:Zt t=P++Zt (t.drop i)
 hv:∀u,u∈vs↔u∈P/\u.fn=false
 hf:∀u,u∈fs↔u∈P/\u.fn=true
 sep:∀u∈P,∀v∈P,u.fn=v.fn->u.name=v.name->u=v
 args:∀u∈P,u.fn=false->u.args=[]
 lv:vs.length<=i
 lf:fs.length<=i
theorem UInv.start (t:List Nd):UInv t 0 [] [] []:=⟨by simp,by simp,by simp,by simp,by simp,by simp,by simp⟩
theorem UInv.next {t:List Nd}{i:Nat}{P vs fs:List Use}(I:UInv t i P vs fs)(hi:i < t.length):Zt t=P++Xf t[i] (t.drop (i+1))++Zt (t.drop (i+1)):=by
 rw[I.split,List.drop_eq_getElem_cons hi,Zt,List.append_assoc]
theorem UInv.other {t:List Nd}{i:Nat}{P vs fs:List Use}(I:UInv t i P vs fs)(hi:i < t.length)(h4:t[i].op≠4)(h5:t[i].op≠5):UInv t (i+1) P vs fs:=by
 refine⟨?_,I.hv,I.hf,I.sep,I.args,by have:=I.lv;omega,by have:=I.lf;omega⟩;rw[I.next hi];simp[Xf,h4,h5]
theorem UInv.known {t:List Nd}{i:Nat}{P vs fs:List Use}{u:Use}(I:UInv t i P vs fs)(hi:i < t.length)(hu:Xf t[i] (t.drop (i+1))=[u])(hm:u∈P):UInv t (i+1) (P++[u]) vs fs:=by
 have hP:∀v,v∈P++[u]↔v∈P:=fun v=>by
  simp only[List.mem_append,List.mem_singleton];exact⟨fun h=>h.elim id fun e=>e ▸ hm,Or.inl⟩
 refine⟨by rw[I.next hi,hu],fun v=>by rw[hP];exact I.hv v,fun v=>by rw[hP];exact I.hf v,fun a ha b hb=>I.sep a ((hP a).1 ha) b ((hP b).1 hb),fun a ha=>I.args a ((hP a).1 ha),by have:=I.lv;omega,by have:=I.lf;omega⟩
theorem UInv.fresh {t:List Nd}{i:Nat}{P vs fs:List Use}{u:Use}(I:UInv t i P vs fs)(hi:i < t.length)(hu:Xf t[i] (t.drop (i+1))=[u])(hn:∀v∈P,v.fn=u.fn->v.name≠u.name):UInv t (i+1) (P++[u]) (if u.fn then vs else vs++[u]) (if u.fn then fs++[u] else fs):=by
 refine⟨by rw[I.next hi,hu],fun v=>?_,fun v=>?_,fun a ha b hb hab Yn=>?_,fun a ha hfa=>?_,?_,?_⟩
 .cases hf:u.fn with
  |true=>
   simp only[if_true,List.mem_append,List.mem_singleton,I.hv];constructor
   .rintro ⟨h1,h2⟩;exact⟨Or.inl h1,h2⟩
   .rintro ⟨h1 | rfl,h2⟩
    .exact ⟨h1,h2⟩
    .rw [hf]at h2;cases h2
  |false=>
   simp only[Bool.false_eq_true,if_false,List.mem_append,List.mem_singleton,I.hv];constructor
   .rintro (⟨h1,h2⟩ | rfl)
    .exact ⟨Or.inl h1,h2⟩
    .exact ⟨Or.inr rfl,hf⟩
   .rintro ⟨h1 | h1,h2⟩
    .exact Or.inl ⟨h1,h2⟩
    .exact Or.inr h1
 .cases hf:u.fn with
  |false=>
   simp only[Bool.false_eq_true,if_false,List.mem_append,List.mem_singleton,I.hf];constructor
   .rintro ⟨h1,h2⟩;exact⟨Or.inl h1,h2⟩
   .rintro ⟨h1 | rfl,h2⟩
    .exact ⟨h1,h2⟩
    .rw [hf]at h2;cases h2
  |true=>
   simp only[if_true,List.mem_append,List.mem_singleton,I.hf];constructor
   .rintro (⟨h1,h2⟩ | rfl)
    .exact ⟨Or.inl h1,h2⟩
    .exact ⟨Or.inr rfl,hf⟩
   .rintro ⟨h1 | h1,h2⟩
    .exact Or.inl ⟨h1,h2⟩
    .exact Or.inr h1
 .simp only [List.mem_append,List.mem_singleton]at ha hb;rcases ha with ha | rfl
  .rcases hb with hb | rfl
   .exact I.sep a ha b hb hab Yn
   .exact absurd Yn (hn a ha hab)
  .rcases hb with hb | rfl
   .exact absurd Yn.symm (hn b hb hab.symm)
   .rfl
 .simp only [List.mem_append,List.mem_singleton]at ha;rcases ha with ha | rfl
  .exact I.args a ha hfa
  .exact Zgn (n:=t[i]) (r:=t.drop (i+1)) (by rw[hu];simp) hfa
 .have:=I.lv;split<;>simp<;>omega
 .have:=I.lf;split<;>simp<;>omega
theorem UInv.bad {t:List Nd}{i:Nat}{P vs fs:List Use}{u v:Use}(I:UInv t i P vs fs)(hi:i < t.length)(hu:Xf t[i] (t.drop (i+1))=[u])(hm:v∈P)(hn:v.name=u.name)(Yn:v≠u):Yx (Zt t)=false:=by
 unfold Yx;rw[decide_eq_false_iff_not];intro hc;refine Yn (hc v ?_ u ?_ hn)
 .rw [I.split];exact List.mem_append_left _ hm
 .rw [I.next hi,hu];simp
theorem UInv.done {t:List Nd}{P vs fs:List Use}(I:UInv t t.length P vs fs)(h:∀v∈vs,∀f∈fs,v.name≠f.name):Yx (Zt t)=true:=by
 unfold Yx;rw[decide_eq_true_iff];have e:Zt t=P:=by rw[I.split];simp[Zt]
 rw[e];intro u hu v hv hn;cases h1:u.fn with
 |true=>
  cases h2:v.fn with
  |true=>exact I.sep u hu v hv (by rw[h1,h2]) hn
  |false=>exact absurd hn.symm (h v ((I.hv v).2 ⟨hv,h2⟩) u ((I.hf u).2 ⟨hu,h1⟩))
 |false=>
  cases h2:v.fn with
  |true=>exact absurd hn (h u ((I.hv u).2 ⟨hu,h1⟩) v ((I.hf v).2 ⟨hv,h2⟩))
  |false=>exact I.sep u hu v hv (by rw[h1,h2]) hn
theorem UInv.cross {t:List Nd}{P vs fs:List Use}{v f:Use}(I:UInv t t.length P vs fs)(hv:v∈vs)(hf:f∈fs)(h:v.name=f.name):Yx (Zt t)=false:=by
 unfold Yx;rw[decide_eq_false_iff_not];intro hc;have e:Zt t=P:=by rw[I.split];simp[Zt]
 rw[e]at hc;have h1:=(I.hv v).1 hv;have h2:=(I.hf f).1 hf;have:=hc v h1.1 f h2.1 h;rw[this,h2.2]at h1;cases h1.2
def Zaji (t:List Nd):Prop:=∀i (h:i < t.length),t[i].op=5->∃N ks r,t[i].kids=((N:Nat):Int)/\many (Zg 257) N (t.drop (i+1))=some (ks,r)
set_option maxHeartbeats 4000000 in
theorem Zanf (b:Bool)(t:List Nd)(hs:∀n∈t,n.Short)(hl:t.length < 2^30)(hw:Zaji t):Xn vE 92 [L 58 b (t.map Yb)] (.bool (Yx (Zt t))):=by
 intro K H;refine Wc Tryz.func92 ?_
 ((try simp(disch:=first|exact Zq|fail)[*,Zs,Tryz.f92]);repeat'(first|refine Z8 ?_|refine Z9 ?_|refine Z0 ?_|refine Z1 fun _=>?_|refine Z2 fun _ _=>?_|refine Z3 (fun _=>?_) fun _ _=>?_|refine Z4 fun _=>?_|refine Z5 fun _=>?_|refine Z6 (fun _=>?_) fun _=>?_|refine Z7 (fun _=>?_) fun _=>?_)<;>(try simp(disch:=first|exact Zq|fail)[*,Zs,Tryz.f92]))
 refine Zh [0] (fun m sl h=>∃(i:Nat) (P vs fs:List Use) (wv wf:PV),m=t.length - i/\i<=t.length/\UInv t i P vs fs/\(∀f∈fs,f.args.length < 2^30)/\sl 5=some (.int .i64 i)/\sl 3=some wv/\sl 4=some wf /\
  Acc [69] ⟨H.next,H.next,[]⟩ h 69 wv (vs.map Xh)/\Acc [113] ⟨H.next,H.next,[]⟩ h 155 wf (fs.map Y5)/\h.next=H.next+137) t.length rfl ⟨0,[],[],[],.nils,.nils,by simp,by simp,UInv.start t,by simp,rfl,rfl,rfl,Acc.nil,Acc.nil,by simp⟩ ?_
 rintro m sl h hf ⟨i,P,vs,fs,wv,wf,hm',hi,I,Un,h5,h3,h4,hAv,hAf,Uf⟩;simp at hf;have hlv:=I.lv;have hlf:=I.lf;replace I:=Hide.mk I;replace Un:=Hide.mk Un
 have lkv:lenK (.slice 69) wv=some (.int .i64 vs.length):=by
  have:=hAv.lenK (e:=69)
  rwa [List.length_map]at this
 have lkf:lenK (.slice 155) wf=some (.int .i64 fs.length):=by
  have:=hAf.lenK (e:=155)
  rwa [List.length_map]at this
 by_cases hlt:i < t.length
 .generalize hn:t[i]=n;by_cases h4':n.op=4
  ·
   have hu:Xf t[i] (t.drop (i+1))=[⟨false,n.name,[],n.sort⟩]:=by rw[hn];simp[Xf,h4']
   replace hu:=Hide.mk hu
   ((try simp(disch:=first|exact Zq|fail)[*,Zs,Yb]);repeat'(first|refine Z8 ?_|refine Z9 ?_|refine Z0 ?_|refine Z1 fun _=>?_|refine Z2 fun _ _=>?_|refine Z3 (fun _=>?_) fun _ _=>?_|refine Z4 fun _=>?_|refine Z5 fun _=>?_|refine Z6 (fun _=>?_) fun _=>?_|refine Z7 (fun _=>?_) fun _=>?_)<;>(try simp(disch:=first|exact Zq|fail)[*,Zs,Yb]))
   refine Zh [0,3,4,5] (fun m2 sl2 h2=>∃(k:Nat) (kn:Bool),m2=vs.length - k/\k<=vs.length/\h2=h/\sl2 7=some (.int .i64 k)/\sl2 6=some (.bool kn)/\(kn=true->∃u∈vs,u.name=n.name/\u.sort=n.sort) /\
    (kn=false->∀j (hj:j < vs.length),j < k->vs[j].name≠n.name)) vs.length rfl ⟨0,false,by simp,by simp,rfl,by simp,by simp,by simp,by simp⟩ ?_
   rintro m2 sl2 h2 hf2 ⟨k,kn,hm2,hk,rfl,h7,h6,hkt,hkf⟩;simp at hf2;replace hkt:=Hide.mk hkt;replace hkf:=Hide.mk hkf;by_cases Qb:k < vs.length
   .obtain ⟨d,ver,hd,rfl,hg⟩:=hAv.pos Qb;simp at hd;subst hd;generalize hvk:vs[k]=v;have hvm:v∈vs:=by rw[<- hvk];exact List.getElem_mem Qb
    have hvP:=(I.get.hv v).1 hvm
    ((try simp(disch:=first|exact Zq|fail)[*,Zs,Yb,Xh]);repeat'(first|refine Z8 ?_|refine Z9 ?_|refine Z0 ?_|refine Z1 fun _=>?_|refine Z2 fun _ _=>?_|refine Z3 (fun _=>?_) fun _ _=>?_|refine Z4 fun _=>?_|refine Z5 fun _=>?_|refine Z6 (fun _=>?_) fun _=>?_|refine Z7 (fun _=>?_) fun _=>?_)<;>(try simp(disch:=first|exact Zq|fail)[*,Zs,Yb,Xh]))
    .rename_i e1 e2;exact⟨_,by omega,k+1,rfl,by omega,by omega,v,hvm,e1,e2⟩
    .rename_i e1 _ e2;exact I.get.bad hlt hu.get hvP.1 e1 (by rintro rfl;exact e2 rfl)
    .rename_i e1 e2;refine⟨_,by omega,k+1,rfl,by omega,by omega,hkt.get,fun hk0 j hj hjk=>?_⟩;by_cases e:j=k
     .subst e;rw[hvk];exact e2
     .exact hkf.get hk0 j hj (by omega)
   .cases kn
    .have hno:=hkf.get rfl
     have Ra:=I.get.fresh hlt hu.get (fun v hv hfn hnm=>by
      obtain⟨j,hj,rfl⟩:=List.getElem_of_mem ((I.get.hv v).2 ⟨hv,hfn⟩);exact hno j hj (by omega) hnm)
     simp only[Bool.false_eq_true,if_false]at Ra;obtain⟨w',h',Sv,X4,Ts,Zk⟩:=hAv.app (dd:=69) (ys:=[Xh ⟨false,n.name,[],n.sort⟩]) (T:={k:=.struct [(0,9),(1,3)],size:=2,bytes:=24,zero:=[.string {data:=#[]},.int .i64 0]}) (by simp) rfl (by simp;omega) (by decide) (by decide) (by simp);simp only[List.length_cons,List.length_nil]at Sv;have Ws:=hAv.same (n:=3);have Zda:=X4.same (n:=3);have Z4q:=hAf.frame (h':=h') fun d hd=>Zk _ fun d' hd'=>by simp at hd hd';subst hd;subst hd';simp
     have Xg:∃m,m < t.length - i/\∃i_1:Nat,m=t.length - i_1/\i_1<=t.length/\∃x x_1 x_2,UInv t i_1 x x_1 x_2/\(∀f∈x_2,f.args.length < 2^30)/\(i:Int)+1=i_1/\Acc [69] ⟨H.next,H.next,[]⟩ h' 69 w' (List.map Xh x_1)/\Acc [113] ⟨H.next,H.next,[]⟩ h' 155 wf (List.map Y5 x_2):=
      ⟨_,by omega,i+1,rfl,by omega,_,_,_,Ra,Un.get,by omega,by simpa using X4,Z4q⟩
     replace Xg:=Hide.mk Xg;clear hno Ra X4 Zk Z4q
     ((try simp(disch:=first|exact Zq|fail)[*,Zs,Yb]);repeat'(first|refine Z8 ?_|refine Z9 ?_|refine Z0 ?_|refine Z1 fun _=>?_|refine Z2 fun _ _=>?_|refine Z3 (fun _=>?_) fun _ _=>?_|refine Z4 fun _=>?_|refine Z5 fun _=>?_|refine Z6 (fun _=>?_) fun _=>?_|refine Z7 (fun _=>?_) fun _=>?_)<;>(try simp(disch:=first|exact Zq|fail)[*,Zs,Yb]))
     exact Xg.get
    .obtain ⟨v,hv,e1,e2⟩:=hkt.get rfl;have hvP:=(I.get.hv v).1 hv;have e3:=I.get.args v hvP.1 hvP.2
     have Ra:=I.get.known hlt hu.get (by
      have:v=⟨false,n.name,[],n.sort⟩:=by
       obtain⟨vf,vn,va,Qs⟩:=v;simp at hvP e1 e2 e3;rw[hvP.2,e1,e2,e3]
      rw[<- this];exact hvP.1)
     replace Ra:=Hide.mk Ra;clear hvP e1 e2 e3 hv
     ((try simp(disch:=first|exact Zq|fail)[*,Zs,Yb,Xh]);repeat'(first|refine Z8 ?_|refine Z9 ?_|refine Z0 ?_|refine Z1 fun _=>?_|refine Z2 fun _ _=>?_|refine Z3 (fun _=>?_) fun _ _=>?_|refine Z4 fun _=>?_|refine Z5 fun _=>?_|refine Z6 (fun _=>?_) fun _=>?_|refine Z7 (fun _=>?_) fun _=>?_)<;>(try simp(disch:=first|exact Zq|fail)[*,Zs,Yb,Xh]))
     exact⟨_,by omega,i+1,rfl,by omega,_,_,_,Ra.get,Un.get,by omega,hAv,hAf⟩
  .by_cases h5':n.op=5
   ·
    obtain⟨N,ks,r,hk,hm⟩:=hw i hlt (by rw[hn];exact h5');have Z99:=Z20 b t hs hl i hlt ks r N hk hm;rw[hn]at Z99 hk;have hu:Xf t[i] (t.drop (i+1))=[⟨true,n.name,Ys ks,n.sort⟩]:=by rw[hn];simp[Xf,h5',hk,hm]
    replace hu:=Hide.mk hu
    have Zzp:(Ys ks).length < 2^30:=by
     rw[Tv];have h1:=Zej hm;obtain⟨a,ha,hka⟩:=Qh (fun _ _ _ hh=>X1 hh) hm;have:=congrArg List.length ha;simp at this;omega
    generalize Ys ks=xs at *;clear hm hk
    ((try simp(disch:=first|exact Zq|fail)[*,Zs,Yb]);repeat'(first|refine Z8 ?_|refine Z9 ?_|refine Z0 ?_|refine Z1 fun _=>?_|refine Z2 fun _ _=>?_|refine Z3 (fun _=>?_) fun _ _=>?_|refine Z4 fun _=>?_|refine Z5 fun _=>?_|refine Z6 (fun _=>?_) fun _=>?_|refine Z7 (fun _=>?_) fun _=>?_)<;>(try simp(disch:=first|exact Zq|fail)[*,Zs,Yb]))
    generalize hv8:h.stamp (H.next+8)=v8
    refine Zh [0,3,4,5,8] (fun m2 sl2 h2=>∃(k:Nat) (kn:Bool),m2=fs.length - k/\k<=fs.length/\Acc [69] ⟨H.next,H.next,[]⟩ h2 69 wv (vs.map Xh)/\Acc [113] ⟨H.next,H.next,[]⟩ h2 155 wf (fs.map Y5)/\h2.next=H.next+137 /\
     h2.get (H.next+8)=some (v8,.cells [.str n.name,L 3 true (xs.map (.int .i64)),.int .i64 n.sort])/\sl2 10=some (.int .i64 k)/\sl2 9=some (.bool kn)/\(kn=true->(⟨true,n.name,xs,n.sort⟩:Use)∈fs) /\
     (kn=false->∀j (hj:j < fs.length),j < k->fs[j].name≠n.name)) fs.length rfl ⟨0,false,by simp,by simp,hAv.frame fun d hd=>by simp at hd;subst hd;simp,hAf.frame fun d hd=>by simp at hd;subst hd;simp,by simp[Uf],by simp,by simp,by simp,by simp,by simp⟩ ?_
    rintro m2 sl2 h2 hf2 ⟨k,kn,hm2,hk,Z91,Zz2,Zsr,hc8,h10,h9,hkt,hkf⟩;simp at hf2;replace hkt:=Hide.mk hkt;replace hkf:=Hide.mk hkf;clear hAv hAf Uf Z99;by_cases Qb:k < fs.length
    .obtain ⟨d,ver,hd,rfl,hg⟩:=Zz2.pos Qb;simp at hd;subst hd;generalize hvk:fs[k]=v;have hvm:v∈fs:=by rw[<- hvk];exact List.getElem_mem Qb
     have hvP:=(I.get.hf v).1 hvm;have h114:=Zag8 true true v.args xs (Nat.lt_trans (Un.get v hvm) (by decide)) (by omega);generalize hq:(v.args==xs)=q at h114
     ((try simp(disch:=first|exact Zq|fail)[*,Zs,Yb,Y5]);repeat'(first|refine Z8 ?_|refine Z9 ?_|refine Z0 ?_|refine Z1 fun _=>?_|refine Z2 fun _ _=>?_|refine Z3 (fun _=>?_) fun _ _=>?_|refine Z4 fun _=>?_|refine Z5 fun _=>?_|refine Z6 (fun _=>?_) fun _=>?_|refine Z7 (fun _=>?_) fun _=>?_)<;>(try simp(disch:=first|exact Zq|fail)[*,Zs,Yb,Y5]))
     .rename_i e1 e2 e3;refine⟨_,by omega,k+1,rfl,by omega,by omega,?_⟩;obtain⟨vf,vn,va,Qs⟩:=v;rw[e3]at hq;simp at hvP e1 e2 e3 hq;rw[<- e1,<- e2,<- hq,<- hvP.2];exact hvm
     .rename_i e1 e2 e3;refine I.get.bad hlt hu.get hvP.1 e1 ?_;rintro rfl;rw[e3]at hq;simp at hq
     .rename_i e1 _ e2;exact I.get.bad hlt hu.get hvP.1 e1 (by rintro rfl;exact e2 rfl)
     .rename_i e1 e2;refine⟨_,by omega,k+1,rfl,by omega,by omega,hkt.get,fun hk0 j hj hjk=>?_⟩;by_cases e:j=k
      .subst e;rw[hvk];exact e2
      .exact hkf.get hk0 j hj (by omega)
    .cases kn
     .have hno:=hkf.get rfl
      have Ra:=I.get.fresh hlt hu.get (fun v hv hfn hnm=>by
       obtain⟨j,hj,rfl⟩:=List.getElem_of_mem ((I.get.hf v).2 ⟨hv,hfn⟩);exact hno j hj (by omega) hnm)
      simp only[if_true]at Ra;obtain⟨w',h',Sv,X4,Ts,Zk⟩:=Zz2.app (dd:=113) (ys:=[Y5 ⟨true,n.name,xs,n.sort⟩]) (T:={k:=.struct [(0,9),(1,22),(2,3)],size:=3,bytes:=48,zero:=[.string {data:=#[]},.slice none 0 0,.int .i64 0]}) (by simp) rfl (by simp;omega) (by decide) (by decide) (by simp);simp only[List.length_cons,List.length_nil]at Sv;have Ws:=Zz2.same (n:=3);have Zda:=X4.same (n:=3);have Z4p:=Z91.frame (h':=h') fun d hd=>Zk _ fun d' hd'=>by simp at hd hd';subst hd;subst hd';simp
      have Xg:∃m,m < t.length - i/\∃i_1:Nat,m=t.length - i_1/\i_1<=t.length/\∃x x_1 x_2,UInv t i_1 x x_1 x_2/\(∀f∈x_2,f.args.length < 2^30)/\(i:Int)+1=i_1/\Acc [69] ⟨H.next,H.next,[]⟩ h' 69 wv (List.map Xh x_1)/\Acc [113] ⟨H.next,H.next,[]⟩ h' 155 w' (List.map Y5 x_2):=
       ⟨_,by omega,i+1,rfl,by omega,_,_,_,Ra,(by
        intro f hf;rcases List.mem_append.1 hf with hf | hf
        .exact Un.get f hf
        .simp at hf;rw[hf];exact Zzp),by omega,Z4p,by simpa using X4⟩
      replace Xg:=Hide.mk Xg;clear hno Ra X4 Zk Z4p
      ((try simp(disch:=first|exact Zq|fail)[*,Zs,Yb,Y5]);repeat'(first|refine Z8 ?_|refine Z9 ?_|refine Z0 ?_|refine Z1 fun _=>?_|refine Z2 fun _ _=>?_|refine Z3 (fun _=>?_) fun _ _=>?_|refine Z4 fun _=>?_|refine Z5 fun _=>?_|refine Z6 (fun _=>?_) fun _=>?_|refine Z7 (fun _=>?_) fun _=>?_)<;>(try simp(disch:=first|exact Zq|fail)[*,Zs,Yb,Y5]))
      exact Xg.get
     .have Ra:=I.get.known hlt hu.get ((I.get.hf _).1 (hkt.get rfl)).1;replace Ra:=Hide.mk Ra
      ((try simp(disch:=first|exact Zq|fail)[*,Zs,Yb,Y5]);repeat'(first|refine Z8 ?_|refine Z9 ?_|refine Z0 ?_|refine Z1 fun _=>?_|refine Z2 fun _ _=>?_|refine Z3 (fun _=>?_) fun _ _=>?_|refine Z4 fun _=>?_|refine Z5 fun _=>?_|refine Z6 (fun _=>?_) fun _=>?_|refine Z7 (fun _=>?_) fun _=>?_)<;>(try simp(disch:=first|exact Zq|fail)[*,Zs,Yb,Y5]))
      exact⟨_,by omega,i+1,rfl,by omega,_,_,_,Ra.get,Un.get,by omega,Z91,Zz2⟩
   .replace I:=I.get.other hlt (by rw[hn];exact h4') (by rw[hn];exact h5')
    ((try simp(disch:=first|exact Zq|fail)[*,Zs,Yb]);repeat'(first|refine Z8 ?_|refine Z9 ?_|refine Z0 ?_|refine Z1 fun _=>?_|refine Z2 fun _ _=>?_|refine Z3 (fun _=>?_) fun _ _=>?_|refine Z4 fun _=>?_|refine Z5 fun _=>?_|refine Z6 (fun _=>?_) fun _=>?_|refine Z7 (fun _=>?_) fun _=>?_)<;>(try simp(disch:=first|exact Zq|fail)[*,Zs,Yb]))
    exact⟨_,by omega,i+1,rfl,by omega,P,vs,fs,I,Un.get,by omega,hAv,hAf⟩
 .have hil:i=t.length:=by omega
  subst hil;replace hs:=Hide.mk hs
  ((try simp(disch:=first|exact Zq|fail)[*,Zs]);repeat'(first|refine Z8 ?_|refine Z9 ?_|refine Z0 ?_|refine Z1 fun _=>?_|refine Z2 fun _ _=>?_|refine Z3 (fun _=>?_) fun _ _=>?_|refine Z4 fun _=>?_|refine Z5 fun _=>?_|refine Z6 (fun _=>?_) fun _=>?_|refine Z7 (fun _=>?_) fun _=>?_)<;>(try simp(disch:=first|exact Zq|fail)[*,Zs]))
  refine Zh [3,4] (fun m2 sl2 h2=>∃k:Nat,m2=vs.length - k/\k<=vs.length/\Acc [69] ⟨H.next,H.next,[]⟩ h2 69 wv (vs.map Xh)/\Acc [113] ⟨H.next,H.next,[]⟩ h2 155 wf (fs.map Y5)/\h2.next=H.next+137/\sl2 11=some (.int .i64 k) /\
   ∀j (hj:j < vs.length),j < k->∀f∈fs,vs[j].name≠f.name) vs.length rfl ⟨0,by simp,by simp,hAv,hAf,Uf,by simp,by simp⟩ ?_
  rintro m2 sl2 h2 hf2 ⟨k,hm2,hk,Z91,Zz2,Zsr,h11,hno⟩;simp at hf2;clear hAv hAf Uf;replace hno:=Hide.mk hno;by_cases Qb:k < vs.length
  .generalize hvk:vs[k]=v;have hvm:v∈vs:=by rw[<- hvk];exact List.getElem_mem Qb
   ((try simp(disch:=first|exact Zq|fail)[*,Zs]);repeat'(first|refine Z8 ?_|refine Z9 ?_|refine Z0 ?_|refine Z1 fun _=>?_|refine Z2 fun _ _=>?_|refine Z3 (fun _=>?_) fun _ _=>?_|refine Z4 fun _=>?_|refine Z5 fun _=>?_|refine Z6 (fun _=>?_) fun _=>?_|refine Z7 (fun _=>?_) fun _=>?_)<;>(try simp(disch:=first|exact Zq|fail)[*,Zs]))
   refine Zh [3,4,11] (fun m3 sl3 h3=>∃l:Nat,m3=fs.length - l/\l<=fs.length/\Acc [69] ⟨H.next,H.next,[]⟩ h3 69 wv (vs.map Xh)/\Acc [113] ⟨H.next,H.next,[]⟩ h3 155 wf (fs.map Y5)/\h3.next=H.next+137/\sl3 12=some (.int .i64 l) /\
    ∀j (hj:j < fs.length),j < l->v.name≠fs[j].name) fs.length rfl ⟨0,by simp,by simp,Z91,Zz2,Zsr,by simp,by simp⟩ ?_
   rintro m3 sl3 h3 hf3 ⟨l,hm3,hl3,hAv3,hAf3,hnx3,h12,Zst⟩;simp at hf3;clear Z91 Zz2 Zsr;replace Zst:=Hide.mk Zst;by_cases Rc:l < fs.length
   .obtain ⟨d,ver,hd,rfl,hg⟩:=hAv3.pos Qb;obtain⟨d2,Zyk,hd2,rfl,hg2⟩:=hAf3.pos Rc;simp at hd hd2;subst hd;subst hd2;generalize hfk:fs[l]=f;have hfm:f∈fs:=by rw[<- hfk];exact List.getElem_mem Rc
    ((try simp(disch:=first|exact Zq|fail)[*,Zs,Xh,Y5]);repeat'(first|refine Z8 ?_|refine Z9 ?_|refine Z0 ?_|refine Z1 fun _=>?_|refine Z2 fun _ _=>?_|refine Z3 (fun _=>?_) fun _ _=>?_|refine Z4 fun _=>?_|refine Z5 fun _=>?_|refine Z6 (fun _=>?_) fun _=>?_|refine Z7 (fun _=>?_) fun _=>?_)<;>(try simp(disch:=first|exact Zq|fail)[*,Zs,Xh,Y5]))
    .rename_i e;exact I.get.cross hvm hfm e
    .rename_i e1 e2;refine⟨_,by omega,l+1,rfl,by omega,by omega,fun j hj hjk=>?_⟩;by_cases e:j=l
     .subst e;rw[hfk];exact e2
     .exact Zst.get j hj (by omega)
   . ((try simp(disch:=first|exact Zq|fail)[*,Zs]);repeat'(first|refine Z8 ?_|refine Z9 ?_|refine Z0 ?_|refine Z1 fun _=>?_|refine Z2 fun _ _=>?_|refine Z3 (fun _=>?_) fun _ _=>?_|refine Z4 fun _=>?_|refine Z5 fun _=>?_|refine Z6 (fun _=>?_) fun _=>?_|refine Z7 (fun _=>?_) fun _=>?_)<;>(try simp(disch:=first|exact Zq|fail)[*,Zs]))
     refine⟨_,by omega,k+1,rfl,by omega,by omega,fun j hj hjk f hf=>?_⟩;by_cases e:j=k
     .subst e;rw[hvk];obtain⟨l',hl',rfl⟩:=List.getElem_of_mem hf;exact Zst.get l' hl' (by omega)
     .exact hno.get j hj (by omega) f hf
  . ((try simp(disch:=first|exact Zq|fail)[*,Zs]);repeat'(first|refine Z8 ?_|refine Z9 ?_|refine Z0 ?_|refine Z1 fun _=>?_|refine Z2 fun _ _=>?_|refine Z3 (fun _=>?_) fun _ _=>?_|refine Z4 fun _=>?_|refine Z5 fun _=>?_|refine Z6 (fun _=>?_) fun _=>?_|refine Z7 (fun _=>?_) fun _=>?_)<;>(try simp(disch:=first|exact Zq|fail)[*,Zs]))
    exact I.get.done fun v hv f hf=>by
     obtain⟨j,hj,rfl⟩:=List.getElem_of_mem hv;exact hno.get j hj (by omega) f hf
theorem Zcd {p q:List Nd->Option (Tr×List Nd)}(hpq:∀r x,p r=some x->q r=some x):∀ {k:Nat} {r:List Nd} {x:List Tr×List Nd},many p k r=some x->many q k r=some x
 | 0,r,x,h=>h
 |k+1,r,x,h=>by
  simp only[many]at h ⊢;split at h
  .cases h
  .rename_i t1 r1 h1;rw[hpq _ _ h1];simp only;split at h
   .cases h
   .rename_i ts r2 h2;rw[Zcd hpq h2];exact h
theorem Zap:∀ {d:Nat} {r:List Nd} {x:Tr×List Nd},Zg d r=some x->Zg (d+1) r=some x
 | 0,r,x,h=>by simp[Zg]at h
 |d+1,[],x,h=>by simp[Zg]at h
 |d+1,n::r,x,h=>by
  simp only[Zg]at h;rw[Zg];split at h
  .rename_i hc;rw[if_pos hc];split at h
   .cases h
   .rename_i ks r' h1;rw[Zcd (fun _ _=>Zap) h1];exact h
  .cases h
theorem Zca {d e:Nat}{r:List Nd}{x:Tr×List Nd}(hde:d<=e)(h:Zg d r=some x):Zg e r=some x:=by
 induction e with
 |zero=>have:d=0:=by omega
        rw[<- this];exact h
 |succ e ih=>
  rcases Nat.lt_or_ge e d with h1 | h1
  .have:d=e+1:=by omega
   rw[<- this];exact h
  .exact Zap (ih h1)
theorem Z1k {p q:List Nd->Option (Tr×List Nd)}(hp:∀r t r',p r=some (t,r')->∀i,i < r.length - r'.length->∃t2 r2,q (r.drop i)=some (t2,r2))(hs:∀r t r',p r=some (t,r')->∃a,a≠[]/\r=a++r'):
  ∀ {k:Nat} {r r':List Nd} {ts:List Tr},many p k r=some (ts,r')->∀i,i < r.length - r'.length->∃t2 r2,q (r.drop i)=some (t2,r2)
 | 0,r,r',ts,h=>by
   simp only[many,Option.some.injEq,Prod.mk.injEq]at h;intro i hi;rw[h.2]at hi;omega
 |k+1,r,r',ts,h=>by
  simp only[many]at h;split at h
  .cases h
  .rename_i t1 r1 h1;split at h
   .cases h
   .rename_i ts2 r2 h2;cases h;intro i hi;rcases Nat.lt_or_ge i (r.length - r1.length) with h3 | h3
    .exact hp _ _ _ h1 i h3
    .obtain ⟨a,_,e⟩:=hs _ _ _ h1;have hl:=congrArg List.length e;simp at hl;obtain⟨t2,r2',h4⟩:=Z1k hp hs h2 (i - a.length) (by omega);refine⟨t2,r2',?_⟩;rw[e,List.drop_append];have:List.drop i a=[]:=by rw[List.drop_eq_nil_iff];omega
     rw[this,List.nil_append];exact h4
theorem Zvk:∀ {d:Nat} {t r:List Nd} {tr:Tr},Zg d t=some (tr,r)->∀i,i < t.length - r.length->∃t2 r2,Zg d (t.drop i)=some (t2,r2)
 | 0,t,r,tr,h=>by simp[Zg]at h
 |d+1,[],r,tr,h=>by simp[Zg]at h
 |d+1,n::t,r,tr,h=>by
  intro i hi;cases i with
  |zero=>exact⟨_,_,h⟩
  |succ i=>
   simp only[Zg]at h;split at h
   .split at h
    .cases h
    .rename_i ks r' h1;cases h;simp only[List.drop_succ_cons]
     obtain⟨t2,r2,h2⟩:=Z1k (fun _ _ _ hh=>Zvk hh) (fun _ _ _ hh=>X1 hh) h1 i (by
      simp only[List.length_cons]at hi;omega)
     exact⟨t2,r2,Zap h2⟩
   .cases h
theorem Zabb {t:List Nd}{tr:Tr}(h:Zg 257 t=some (tr,[])):Zaji t:=by
 intro i hi h5;obtain⟨t2,r2,h2⟩:=Zvk h i (by simpa using hi);rw[List.drop_eq_getElem_cons hi]at h2;have h2':=h2;rw[Zg]at h2';split at h2'
 .rename_i hc;split at h2'
  .cases h2'
  .rename_i ks r3 h3;refine⟨t[i].kids.toNat,ks,r3,?_,Zcd (fun _ _=>Zca (by omega)) h3⟩;have:=hc;rw[Bool.and_eq_true]at this;have:=this.2;simp[Yy,h5]at this;omega
 .cases h2'
def sortL (t:List Nd):Int:=if 20000 < t.length then 0 else match Zg 257 t with
 |some (tr,[])=>if Yx (Zt t) then Ya tr else 0
 | _=>0
theorem Zabt (b:Bool)(t:List Nd)(hs:∀n∈t,n.Short)(hl:t.length < 2^30):Xn vE 34 [L 58 b (t.map Yb)] (.int .i64 (sortL t)):=by
 have h91:=Zabf b t hs hl 257 0 (by omega) (by omega);have h92:=Zanf b t hs hl;unfold Sy at h91;unfold sortL;by_cases h2:20000 < t.length
 .rw [if_pos h2];clear h91 h92;intro K H;refine Wc Tryz.func34 ?_
  (refine Zm ?_;repeat'(first|(refine Zi fun _=>?_;try simp(disch:=first|exact Zq|fail)[*,Zs,Tryz.f34])|refine Ye ?_|refine Zx ?_|refine Zn ?_ ?_))
 .rw [if_neg h2];replace h91:Xn vE 91 [L 58 b (t.map Yb),.int .i64 0,.int .i64 0] _:=h91;simp only[List.drop_zero]at h91;cases hp:Zg 257 t with
  |none=>
   rw[hp]at h91;clear h92 hp;intro K H;refine Wc Tryz.func34 ?_
   (refine Zm ?_;repeat'(first|(refine Zi fun _=>?_;try simp(disch:=first|exact Zq|fail)[*,Zs,Tryz.f34])|refine Ye ?_|refine Zx ?_|refine Zn ?_ ?_))
  |some x=>
   obtain⟨tr,r⟩:=x;rw[hp]at h91;simp only at h91;cases r with
   |nil=>
    replace h92:=h92 (Zabb hp);generalize Yx (Zt t)=c at *;simp only;clear hp hs;by_cases h0:Ya tr=0
    .have e:(if c=true then Ya tr else 0)=0:=by rw[h0];simp
     rw[e];clear e;intro K H;refine Wc Tryz.func34 ?_
     (refine Zm ?_;repeat'(first|(refine Zi fun _=>?_;try simp(disch:=first|exact Zq|fail)[*,Zs,Tryz.f34])|refine Ye ?_|refine Zx ?_|refine Zn ?_ ?_))
    .cases c
     .intro K H;refine Wc Tryz.func34 ?_
      (refine Zm ?_;repeat'(first|(refine Zi fun _=>?_;try simp(disch:=first|exact Zq|fail)[*,Zs,Tryz.f34])|refine Ye ?_|refine Zx ?_|refine Zn ?_ ?_))
     .intro K H;refine Wc Tryz.func34 ?_
      (refine Zm ?_;repeat'(first|(refine Zi fun _=>?_;try simp(disch:=first|exact Zq|fail)[*,Zs,Tryz.f34])|refine Ye ?_|refine Zx ?_|refine Zn ?_ ?_))
   |cons n r=>
    obtain⟨a,ha,e⟩:=X1 hp;have Rc:=congrArg List.length e;simp at Rc;have h1:1<=a.length:=List.length_pos_iff.2 ha;clear h92 hp e;simp only;intro K H;refine Wc Tryz.func34 ?_
    (refine Zm ?_;repeat'(first|(refine Zi fun _=>?_;try simp(disch:=first|exact Zq|fail)[*,Zs,Tryz.f34])|refine Ye ?_|refine Zx ?_|refine Zn ?_ ?_))
theorem Zo0 (b:Bool)(t:List Nd)(hs:∀n∈t,n.Short)(hl:t.length < 2^30):Xn vE 59 [L 58 b (t.map Yb)] (.bool (decide (0 < sortL t))):=by
 have h:=Zabt b t hs hl;intro K H;refine Wc Tryz.func59 ?_
 (refine Zm ?_;repeat'(first|(refine Zi fun _=>?_;try simp(disch:=first|exact Zq|fail)[*,Zs,Tryz.f59])|refine Ye ?_|refine Zx ?_|refine Zn ?_ ?_))
def Zfz (a b:Int):Int:=if a < b then -1 else if b < a then 1 else 0
def Zxc (a b:Yi):Int:=if ltL a b then -1 else if a==b then 0 else 1
theorem Zcv {a b:Int}:Zfz a b=0↔a=b:=by
 unfold Zfz;split
 .omega
 .split<;>omega
theorem Zrn {a b:Yi}:Zxc a b=0->a=b:=by
 unfold Zxc;split
 .simp
 .split
  .rename_i h;intro _;simpa using h
  .simp
theorem Zad1 (a:Yi):ltL a a=false:=by
 induction a with
 |nil=>rfl
 |cons c a ih=>
  have:c.blt c=false:=by rw[<- Bool.not_eq_true];simp
  simp[ltL,ih,this]
theorem Z5l (a:Yi):Zxc a a=0:=by simp[Zxc,Zad1]
theorem Ztt (a b:Int):Xn vE 115 [.int .i64 a,.int .i64 b] (.int .i64 (Zfz a b)):=by
 intro K H;refine Wc Tryz.func115 ?_
 (refine Zm ?_;repeat'(first|(refine Zi fun _=>?_;try simp(disch:=first|exact Zq|fail)[*,Zs,Tryz.f115])|refine Ye ?_|refine Zx ?_|refine Zn ?_ ?_))
 all_goals simp[Zfz, *]
 all_goals omega
theorem Zag7 (a b:Yi):Xn vE 116 [.str a,.str b] (.int .i64 (Zxc a b)):=by
 intro K H;refine Wc Tryz.func116 ?_
 (refine Zm ?_;repeat'(first|(refine Zi fun _=>?_;try simp(disch:=first|exact Zq|fail)[*,Zs,Tryz.f116])|refine Ye ?_|refine Zx ?_|refine Zn ?_ ?_))
 all_goals simp_all[Zxc]
def Re:List Int->Int
 | []=>0
 |c::r=>if c=0 then Re r else c
def Zoo (x y:Nd):List Int:=[Zfz x.op y.op,Zfz x.sort y.sort,Zxc x.name y.name,Zxc x.num y.num,Zfz x.kids y.kids]
def Zhb:List Nd->List Nd->Int
 |x::a,y::b=>if Re (Zoo x y)=0 then Zhb a b else Re (Zoo x y)
 |a,b=>Zfz a.length b.length
theorem Ziw {l:List Int}:Re l=0↔∀c∈l,c=0:=by
 induction l with
 |nil=>simp[Re]
 |cons c r ih=>
  simp only[Re,List.mem_cons,forall_eq_or_imp];split
  .rw [ih];simp[*]
  .simp [*]
theorem Zon {x y:Nd}:Re (Zoo x y)=0↔x=y:=by
 rw[Ziw];constructor
 .intro h;simp[Zoo]at h;obtain⟨h1,h2,h3,h4,h5⟩:=h;cases x;cases y;simp at *;exact⟨Zcv.1 h1,Zcv.1 h2,Zrn h3,Zrn h4,Zcv.1 h5⟩
 .rintro rfl;simp[Zoo,Zfz,Z5l]
theorem Zro:∀ {a b:List Nd},Zhb a b=0↔a=b
 | [],[]=>by simp[Zhb,Zfz]
 | [],y::b=>by
   simp only[Zhb];rw[Zcv];simp;omega
 |x::a,[]=>by
  simp only[Zhb];rw[Zcv];simp;omega
 |x::a,y::b=>by
  simp only[Zhb];split
  .rename_i h;rw[Zro,Zon.1 h];simp
  .rename_i h;constructor
   .intro e;exact absurd e h
   .intro e;cases e;exact absurd (Zon.2 rfl) h
theorem Zz8 {l:List Int}{k:Nat}(hk:k < l.length)(h0:∀j (hj:j < l.length),j < k->l[j]=0)(h1:l[k]≠0):Re l=l[k]:=by
 induction l generalizing k with
 |nil=>simp at hk
 |cons c r ih=>
  cases k with
  |zero=>simp at h1;simp[Re,h1]
  |succ k=>
   have hc:=h0 0 (by simp) (by omega);simp at hc;simp only[Re,hc,if_true];simp only[List.getElem_cons_succ]at h1 ⊢;exact ih (by simpa using hk) (fun j hj hjk=>by have:=h0 (j+1) (by simpa using hj) (by omega);simpa using this) h1
set_option maxHeartbeats 2000000 in
theorem Zank (b1 b2:Bool)(x y:List Nd)(hx:x.length < 2^30)(hy:y.length < 2^30):Xn vE 68 [L 58 b1 (x.map Yb),L 58 b2 (y.map Yb)] (.int .i64 (Zhb x y)):=by
 intro K H;refine Wc Tryz.func68 ?_
 (refine Zm ?_;repeat'(first|(refine Zi fun _=>?_;try simp(disch:=first|exact Zq|fail)[*,Zs,Tryz.f68])|refine Ye ?_|refine Zx ?_|refine Zn ?_ ?_))
 refine Zh [0,1] (fun n sl h=>∃i:Nat,n=x.length - i/\i<=x.length/\i<=y.length/\sl 5=some (.int .i64 i)/\Zhb x y=Zhb (x.drop i) (y.drop i)) x.length rfl ⟨0,by simp⟩ ?_;rintro n sl h hf ⟨i,hn',hi,hi2,h5,hd⟩;simp at hf;by_cases hlt:i < x.length
 .by_cases Zps:i < y.length
  .rw [List.drop_eq_getElem_cons hlt,List.drop_eq_getElem_cons Zps]at hd;generalize hxi:x[i]=p at *;generalize hyi:y[i]=q at *;simp only[Zhb]at hd;replace hd:=Hide.mk hd;generalize hcs:Zoo p q=cs at hd;have hcl:cs.length=5:=by rw[<- hcs];rfl
   unfold Zoo at hcs
   (refine Zm ?_;repeat'(first|(refine Zi fun _=>?_;try simp(disch:=first|exact Zq|fail)[*,Zs,Yb,Ztt,Zag7])|refine Ye ?_|refine Zx ?_|refine Zn ?_ ?_))
   generalize hv8:h.stamp (H.next+8)=v8;refine Zh [0,1,5,8] (fun m2 sl2 h2=>∃k:Nat,m2=5 - k/\k<=5/\sl2 9=some (.int .i64 k)/\h2.get (H.next+8)=some (v8,.cells (cs.map (.int .i64)))/\∀j (hj:j < cs.length),j < k->cs[j]=0) 5 rfl ⟨0,by simp,by simp,by simp,by simp[<- hcs],by simp⟩ ?_;rintro m2 sl2 h2 hf2 ⟨k,hm2,hk,h9,hg,hz⟩;simp at hf2;clear hcs;replace hz:=Hide.mk hz;by_cases hk5:k < 5
   .have hkc:k < cs.length:=by omega
    generalize hck:cs[k]=c
    have hta:List.take 1 (List.drop k (cs.map (PV.int .i64)))=[PV.int .i64 c]:=by
     rw[List.drop_eq_getElem_cons (by simpa using hkc),List.getElem_map,hck];rfl
    have hk4:k<=4:=by omega
    (refine Zm ?_;repeat'(first|(refine Zi fun _=>?_;try simp(disch:=first|exact Zq|fail)[*,Zs])|refine Ye ?_|refine Zx ?_|refine Zn ?_ ?_))
    .rename_i e;refine⟨_,by omega,k+1,rfl,by omega,by omega,fun j hj hjk=>?_⟩;by_cases e':j=k
     .subst e';rw[hck];exact e
     .exact hz.get j (by omega) (by omega)
    .rename_i e;have:=Zz8 hkc (fun j hj hjk=>hz.get j hj hjk) (by rw[hck];exact e);rw[hck]at this;rw[hd.get,this,if_neg e]
   .have hz0:Re cs=0:=Ziw.2 fun c hc=>by
     obtain⟨j,hj,rfl⟩:=List.getElem_of_mem hc;exact hz.get j hj (by omega)
    (refine Zm ?_;repeat'(first|(refine Zi fun _=>?_;try simp(disch:=first|exact Zq|fail)[*,Zs])|refine Ye ?_|refine Zx ?_|refine Zn ?_ ?_))
    exact⟨_,by omega,i+1,rfl,by omega,by omega,by omega,by rw[hd.get,if_pos hz0]⟩
  .have e:y.drop i=[]:=by simp;omega
   rw[e]at hd;have hlen:=Ztt x.length y.length
   have e2:Zhb x y=Zfz x.length y.length:=by
    rw[hd];have:Zhb (x.drop i) []=Zfz (x.drop i).length 0:=by cases x.drop i<;>rfl
    rw[this];simp only[List.length_drop,Zfz]
    repeat' split
    all_goals omega
   rw[e2]at *;clear hd e
   (refine Zm ?_;repeat'(first|(refine Zi fun _=>?_;try simp(disch:=first|exact Zq|fail)[*,Zs])|refine Ye ?_|refine Zx ?_|refine Zn ?_ ?_))
 .have e:x.drop i=[]:=by simp;omega
  rw[e]at hd;have hlen:=Ztt x.length y.length
  have e2:Zhb x y=Zfz x.length y.length:=by
   rw[hd];have:Zhb [] (y.drop i)=Zfz 0 (y.drop i).length:=by cases y.drop i<;>rfl
   rw[this];simp only[List.length_drop,Zfz]
   repeat' split
   all_goals omega
  rw[e2]at *;clear hd e
  (refine Zm ?_;repeat'(first|(refine Zi fun _=>?_;try simp(disch:=first|exact Zq|fail)[*,Zs])|refine Ye ?_|refine Zx ?_|refine Zn ?_ ?_))
theorem Zant (b1 b2:Bool)(x y:List Nd)(hx:x.length < 2^30)(hy:y.length < 2^30):Xn vE 18 [L 58 b1 (x.map Yb),L 58 b2 (y.map Yb)] (.bool (decide (x=y))):=by
 have h:=Zank b1 b2 x y hx hy
 have e:(Zhb x y==0)=decide (x=y):=by
  rw[Bool.eq_iff_iff];simp[Zro]
 rw[<- e];clear e;intro K H;refine Wc Tryz.func18 ?_
 (refine Zm ?_;repeat'(first|(refine Zi fun _=>?_;try simp(disch:=first|exact Zq|fail)[*,Zs,Tryz.f18])|refine Ye ?_|refine Zx ?_|refine Zn ?_ ?_))
def Qk (l:List Use)(s:Yi):Bool:=l.any fun u=>u.name==s
theorem Zabi (b:Bool)(l:List Use)(s:Yi)(hl:l.length < 2^62):Xn vE 64 [L 69 b (l.map Xh),.str s] (.bool (Qk l s)):=by
 intro K H;refine Wc Tryz.func64 ?_
 (refine Zm ?_;repeat'(first|(refine Zi fun _=>?_;try simp(disch:=first|exact Zq|fail)[*,Zs,Tryz.f64])|refine Ye ?_|refine Zx ?_|refine Zn ?_ ?_))
 refine Zh [0,1] (fun n sl h=>∃i:Nat,n=l.length - i/\i<=l.length/\sl 5=some (.int .i64 i)/\Qk l s=Qk (l.drop i) s) l.length rfl ⟨0,by simp⟩ ?_;rintro n sl h hf ⟨i,hn',hi,h5,hd⟩;simp at hf;by_cases hlt:i < l.length
 .rw [List.drop_eq_getElem_cons hlt]at hd;generalize hli:l[i]=u at *;simp only[Qk,List.any_cons]at hd;replace hd:=Hide.mk hd
  (refine Zm ?_;repeat'(first|(refine Zi fun _=>?_;try simp(disch:=first|exact Zq|fail)[*,Zs,Xh])|refine Ye ?_|refine Zx ?_|refine Zn ?_ ?_))
  .rename_i e;have:=hd.get;rw[e]at this;simpa[Qk]using this
  .rename_i e _;refine⟨_,by omega,i+1,rfl,by omega,by omega,?_⟩;have:=hd.get;rw[e]at this;simpa[Qk]using this
 .have e:l.drop i=[]:=by simp;omega
  rw[e]at hd;replace hd:Qk l s=false:=hd
  (refine Zm ?_;repeat'(first|(refine Zi fun _=>?_;try simp(disch:=first|exact Zq|fail)[*,Zs])|refine Ye ?_|refine Zx ?_|refine Zn ?_ ?_))
def Tt (out:List Use)(n:Nd):List Use:=if n.op=4/\Qk out n.name=false then out++[⟨false,n.name,[],n.sort⟩] else out
def Rn (t:List Nd):List Use:=if 0 < sortL t then t.foldl Tt [] else []
theorem Zo3 (t:List Nd)(o:List Use):(t.foldl Tt o).length<=o.length+t.length:=by
 induction t generalizing o with
 |nil=>simp
 |cons n t ih=>
  have:=ih (Tt o n);have h2:(Tt o n).length<=o.length+1:=by unfold Tt;split<;>simp
  simp only[List.foldl_cons,List.length_cons];omega
set_option maxHeartbeats 1000000 in
theorem Zabh (b:Bool)(t:List Nd)(hs:∀n∈t,n.Short)(hl:t.length < 2^30):Xn vE 65 [L 58 b (t.map Yb)] (L 69 true ((Rn t).map Xh)):=by
 have h59:=Zo0 b t hs hl;clear hs;unfold Rn;by_cases hv:0 < sortL t
 .rw [if_pos hv];rw[decide_eq_true hv]at h59;clear hv;intro K H;refine Wc Tryz.func65 ?_
  (refine Zm ?_;repeat'(first|(refine Zi fun _=>?_;try simp(disch:=first|exact Zq|fail)[*,Zs,Tryz.f65])|refine Ye ?_|refine Zx ?_|refine Zn ?_ ?_))
  refine Zh [0] (fun n sl h=>∃(i:Nat) (vs:List Use) (w:PV),n=t.length - i/\i<=t.length/\sl 4=some (.int .i64 i)/\sl 3=some w/\Acc [44] ⟨H.next,H.next,[]⟩ h 69 w (vs.map Xh)/\vs.length<=i/\t.foldl Tt []=(t.drop i).foldl Tt vs) t.length rfl ⟨0,[],.nils,by simp,by simp,by simp,rfl,Acc.nil,by simp,rfl⟩ ?_;rintro n sl h hf ⟨i,vs,w,hn',hi,h4,h3,hA,hvl,hd⟩;simp at hf;by_cases hlt:i < t.length
  .rw [List.drop_eq_getElem_cons hlt,List.foldl_cons]at hd;generalize hti:t[i]=n1 at *;have h64:Xn vE 64 [L 69 true (vs.map Xh),.str n1.name] (.bool (Qk vs n1.name)):=Zabi true vs n1.name (by omega);have hc:=hA.call (C:=vE) (f:=64) rfl rfl [] [.str n1.name] h64 rfl rfl rfl;simp only[List.nil_append]at hc;replace hd:=Hide.mk hd;by_cases h4':n1.op=4
   .cases hh:Qk vs n1.name with
    |true=>
     rw[hh]at hc;have hav:Tt vs n1=vs:=by unfold Tt;rw[if_neg (by simp[hh])]
     (refine Zm ?_;repeat'(first|(refine Zi fun _=>?_;try simp(disch:=first|exact Zq|fail)[*,Zs,Yb])|refine Ye ?_|refine Zx ?_|refine Zn ?_ ?_))
     exact⟨_,by omega,i+1,rfl,by omega,by omega,vs,hA,by omega,by rw[hd.get,hav]⟩
    |false=>
     rw[hh]at hc;have hav:Tt vs n1=vs++[⟨false,n1.name,[],n1.sort⟩]:=by unfold Tt;rw[if_pos ⟨h4',hh⟩]
     obtain⟨w',h',Sv,X4,Ts,Zk⟩:=hA.app (dd:=44) (ys:=[Xh ⟨false,n1.name,[],n1.sort⟩]) (T:={k:=.struct [(0,9),(1,3)],size:=2,bytes:=24,zero:=[.string {data:=#[]},.int .i64 0]}) (by simp) rfl (by simp;omega) (by decide) (by decide) (by simp);simp only[List.length_cons,List.length_nil]at Sv;have Ws:=hA.same (n:=3);have Zda:=X4.same (n:=3);replace X4:=Hide.mk X4;clear Zk
     (refine Zm ?_;repeat'(first|(refine Zi fun _=>?_;try simp(disch:=first|exact Zq|fail)[*,Zs,Yb])|refine Ye ?_|refine Zx ?_|refine Zn ?_ ?_))
     exact⟨_,by omega,i+1,rfl,by omega,by omega,vs++[⟨false,n1.name,[],n1.sort⟩],by simpa using X4.get,by simp;omega,by rw[hd.get,hav]⟩
   .have hav:Tt vs n1=vs:=by unfold Tt;rw[if_neg (by simp[h4'])]
    (refine Zm ?_;repeat'(first|(refine Zi fun _=>?_;try simp(disch:=first|exact Zq|fail)[*,Zs,Yb])|refine Ye ?_|refine Zx ?_|refine Zn ?_ ?_))
    exact⟨_,by omega,i+1,rfl,by omega,by omega,vs,hA,by omega,by rw[hd.get,hav]⟩
  .have e:t.drop i=[]:=by simp;omega
   rw[e,List.foldl_nil]at hd;rw[hd];have Vi:=hA.inl;have Znz:=hA.inlT;rw[Vi]at Znz;have hot:=hA.ownT;clear hd e
   (refine Zm ?_;repeat'(first|(refine Zi fun _=>?_;try simp(disch:=first|exact Zq|fail)[*,Zs])|refine Ye ?_|refine Zx ?_|refine Zn ?_ ?_))
   exact hot
 .rw [if_neg hv];rw[decide_eq_false hv]at h59;intro K H;refine Wc Tryz.func65 ?_
  (refine Zm ?_;repeat'(first|(refine Zi fun _=>?_;try simp(disch:=first|exact Zq|fail)[*,Zs,Tryz.f65])|refine Ye ?_|refine Zx ?_|refine Zn ?_ ?_))
  refine Zh [0] (fun n sl h=>n=0/\sl 4=some (.int .i64 0)/\sl 3=some .nils) 0 rfl ⟨rfl,by simp,by simp⟩ ?_;rintro n sl h hf ⟨rfl,h4,h3⟩;simp at hf;by_cases h0:t.length=0
  . (refine Zm ?_;repeat'(first|(refine Zi fun _=>?_;try simp(disch:=first|exact Zq|fail)[*,Zs])|refine Ye ?_|refine Zx ?_|refine Zn ?_ ?_));rfl
  . (refine Zm ?_;repeat'(first|(refine Zi fun _=>?_;try simp(disch:=first|exact Zq|fail)[*,Zs])|refine Ye ?_|refine Zx ?_|refine Zn ?_ ?_));rfl
abbrev encK (k:Bool×List Nd):PV:=L 58 k.1 (k.2.map Yb)
def X7 (n:Nd)(ks:List (List Nd)):List Nd:={n with kids:=(ks.length:Int)}::ks.flatten
theorem Zs9 (l:List (List Nd))(i:Nat)(h:i < l.length):(l.take (i+1)).flatten=(l.take i).flatten++l[i]:=by
 rw[List.take_add_one,List.flatten_append,List.getElem?_eq_getElem h];simp
set_option maxHeartbeats 1000000 in
theorem Zano (b:Bool)(n:Nd)(ks:List (Bool×List Nd))(hk:ks.length < 2^20)(hl:((ks.map (·.2)).flatten).length < 2^29):Xn vE 47 [Yb n,L 23 b (ks.map encK)] (L 58 true ((X7 n (ks.map (·.2))).map Yb)):=by
 unfold X7;rw[List.length_map];generalize hn0:({n with kids:=(ks.length:Int)}:Nd)=n0;have hnn:n0.op=n.op/\n0.sort=n.sort/\n0.name=n.name/\n0.num=n.num/\n0.kids=(ks.length:Int):=by rw[<- hn0];simp
 obtain⟨e1,e2,e3,e4,e5⟩:=hnn;intro K H;refine Wc Tryz.func47 ?_
 (refine Zm ?_;repeat'(first|(refine Zi fun _=>?_;try simp(disch:=first|exact Zq|fail)[*,Zs,Tryz.f47,Yb])|refine Ye ?_|refine Zx ?_|refine Zn ?_ ?_))
 generalize hM:ks.map (·.2)=M at *;have hMl:M.length=ks.length:=by rw[<- hM];simp
 have hMi:∀i (h:i < ks.length) (h2:i < M.length),ks[i].2=M[i]:=fun i h h2=>by subst hM;simp
 refine Zh [1] (fun m sl h=>∃(i:Nat) (w:PV),m=ks.length - i/\i<=ks.length/\sl 6=some (.int .i64 i)/\sl 5=some w/\Acc [11,23] ⟨H.next,H.next,[]⟩ h 58 w ((n0::(M.take i).flatten).map Yb)) ks.length rfl ⟨0,.own (H.next+11) (H.stamp (H.next+11)) 58 0 1,by simp,by simp,by simp,by simp,Or.inr ⟨11,_,by simp,by simp,rfl,by simp[Yb, *]⟩⟩ ?_;rintro m sl h hf ⟨i,w,hm',hi,h6,h5,hA⟩;simp at hf
 have hle:(M.take i).flatten.length<=M.flatten.length:=by
  conv=>rhs;rw[<- List.take_append_drop i M]
  rw[List.flatten_append,List.length_append];omega
 by_cases hlt:i < ks.length
 .have hlM:i < M.length:=by omega
  have Zzo:(M.take (i+1)).flatten.length<=M.flatten.length:=by
   conv=>rhs;rw[<- List.take_append_drop (i+1) M]
   rw[List.flatten_append,List.length_append];omega
  have Un:=Zs9 M i hlM;rw[Un,List.length_append]at Zzo;have hki:=hMi i hlt hlM;generalize hkk:ks[i]=kk at *;obtain⟨kb,kl⟩:=kk;simp only at hki;subst hki;obtain⟨w',h',Sv,X4,Ts,Zk⟩:=hA.app' (dd:=23) (ys:=M[i].map Yb) (T:={k:=.struct [(0,3),(1,3),(2,9),(3,9),(4,3)],size:=5,bytes:=56,zero:=[.int .i64 0,.int .i64 0,.string {data:=#[]},.string {data:=#[]},.int .i64 0]}) (by simp) rfl (by simp only[List.length_map,List.length_cons];omega) (by decide) (by decide);rw[List.length_map]at Sv
  have Xg:Acc [11,23] ⟨H.next,H.next,[]⟩ h' 58 w' ((n0::(M.take (i+1)).flatten).map Yb):=by
   rw[Un,<- List.cons_append,List.map_append];exact X4
  replace Xg:=Hide.mk Xg;clear Un X4 Zk
  (refine Zm ?_;repeat'(first|(refine Zi fun _=>?_;try simp(disch:=first|exact Zq|fail)[*,Zs,-PH.elems])|refine Ye ?_|refine Zx ?_|refine Zn ?_ ?_))
  exact⟨_,by omega,i+1,rfl,by omega,by omega,by simpa using Xg.get⟩
 .have e:M.take i=M:=List.take_of_length_le (by omega);rw[e]at hA;have Vi:=hA.inl;have Znz:=hA.inlT;rw[Vi]at Znz;have hot:=hA.ownT;clear e hA Vi hM hMi hle
  (refine Zm ?_;repeat'(first|(refine Zi fun _=>?_;try simp(disch:=first|exact Zq|fail)[*,Zs])|refine Ye ?_|refine Zx ?_|refine Zn ?_ ?_))
  exact hot
abbrev Zf3 (x:List Nd×Int):PV:=.tuple [L 58 true (x.1.map Yb),.int .i64 x.2]
end Go.Proofs.YtabcdhcpilpojaaGreatDoor
end
