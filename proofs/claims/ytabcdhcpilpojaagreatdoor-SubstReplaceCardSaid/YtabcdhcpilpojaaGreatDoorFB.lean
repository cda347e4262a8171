/- Nodes of terms, as the reference looks at them. -/
import Derived.Test.YtabcdhcpilpojaaGreatDoorFA
import Derived.Test.YtabcdhcpilpojaaGreatDoorPD
set_option linter.unusedSimpArgs false
set_option linter.unusedVariables false
section
set_option maxRecDepth 20000
namespace Go.Proofs.YtabcdhcpilpojaaGreatDoor
open Go Go.Pure
open Go.Virt (Ex Ctx Ty TK)
structure Nd where
 op:Int
 sort:Int
 name:Y9
 num:Y9
 kids:Int
 deriving DecidableEq
abbrev Zo (n:Nd):PV:=.agg [.int .i64 n.op,.int .i64 n.sort,.str n.name,.str n.num,.int .i64 n.kids]
def Nd.Short (n:Nd):Prop:=n.name.length<=2^19/\n.num.length<=2^19
def Zcr (s:Int):Bool:=decide (1<=s)&&decide (s<=4)
def Vp (s:Int):Bool:=s==2||s==3
def Wa (op sort:Int)(name num:Y9):Bool:=
 if op=3 then name==[]&&((sort==2&&Ul num)||(sort==3&&Zae num))
 else if op=4\/op=5 then num==[]&&R8 name&&Zcr sort
 else if op=16\/op=17 then sort==0&&name==[]&&Ul num&&decide (0 < Zdx num)
 else decide (1<=op)&&decide (op<=20)&&sort==0&&name==[]&&num==[]
def Yz (op n:Int):Bool:=
 if op=1\/op=2\/op=3\/op=4 then n==0
 else if op=5 then decide (1<=n)&&decide (n<=40)
 else if op=6\/op=16\/op=17\/op=20 then n==1
 else if op=7\/op=8 then decide (0<=n)
 else if op=10\/op=19 then n==3
 else if op=14 then decide (1<=n)
 else n==2
def W7 (s:List Int)(x out:Int):Int:=if s.all (·==x) then out else 0
def atI (s:List Int)(i:Nat):Int:=s.getD i 0
theorem Zaeu {s:List Int}{i:Nat}(h:i < s.length):s[i]=atI s i:=by simp[atI,List.getElem?_eq_getElem h]
def Wz (op sort first:Int)(s:List Int):Int:=
 if op=1\/op=2 then 1
 else if op=3\/op=4\/op=5 then sort
 else if op=6\/op=7\/op=8\/op=9 then W7 s 1 1
 else if op=10 then (if atI s 0=1/\atI s 1=atI s 2 then atI s 1 else 0)
 else if op=11 then W7 s (atI s 0) 1
 else if op=12\/op=13 then (if Vp (atI s 0) then W7 s (atI s 0) 1 else 0)
 else if op=14 then (if Vp (atI s 0) then W7 s (atI s 0) (atI s 0) else 0)
 else if op=15 then (if first=3 then W7 s (atI s 0) (atI s 0) else 0)
 else if op=16\/op=17 then W7 s 2 2
 else if op=20 then W7 s 2 4
 else if op=18 then (if atI s 0=4/\atI s 1=2 then 2 else 0)
 else if op=19 then (if atI s 0=4/\atI s 1=2/\atI s 2=2 then 4 else 0)
 else 0
theorem Zafl (s:Int):Xq vE 158 [.int .i64 s] (.bool (Vp s)):=by
 intro K H;refine Wc Tryz.func158 ?_
 (refine Zm ?_;repeat'(first|(refine Zi fun _=>?_;try simp(disch:=first|exact Zq|fail)[*,Yb,Tryz.f158])|refine Ye ?_|refine Zx ?_|refine Zn ?_ ?_))
 all_goals simp[Vp, *]
theorem Zafn (s:Int):Xq vE 156 [.int .i64 s] (.bool (Zcr s)):=by
 intro K H;refine Wc Tryz.func156 ?_
 (refine Zm ?_;repeat'(first|(refine Zi fun _=>?_;try simp(disch:=first|exact Zq|fail)[*,Yb,Tryz.f156])|refine Ye ?_|refine Zx ?_|refine Zn ?_ ?_))
 all_goals simp[Zcr, *]
theorem Z18 (op sort kids:Int)(name num:Y9)(h1:name.length<=2^19)(h2:num.length<=2^19):Xq vE 129 [.agg [.int .i64 op,.int .i64 sort,.str name,.str num,.int .i64 kids]] (.bool (Wa op sort name num)):=by
 have a1:=Zc7 num h2;have a2:=Z2a num h2;have a3:=Zafp num h2;have a4:=Zal7 name (by omega);have a5:=Zafn sort;intro K H;refine Wc Tryz.func129 ?_
 (refine Zm ?_;repeat'(first|(refine Zi fun _=>?_;try simp(disch:=first|exact Zq|fail)[*,Yb,Tryz.f129])|refine Ye ?_|refine Zx ?_|refine Zn ?_ ?_))
 all_goals simp_all[Wa]
 all_goals omega
theorem Z17 (op n:Int):Xq vE 130 [.int .i64 op,.int .i64 n] (.bool (Yz op n)):=by
 intro K H;refine Wc Tryz.func130 ?_
 (refine Zm ?_;repeat'(first|(refine Zi fun _=>?_;try simp(disch:=first|exact Zq|fail)[*,Yb,Tryz.f130])|refine Ye ?_|refine Zx ?_|refine Zn ?_ ?_))
 all_goals simp_all[Yz]
 all_goals omega
theorem Zafm (b:Bool)(s:List Int)(x out:Int)(hn:s.length < 2^62):Xq vE 157 [L 3 b (s.map (.int .i64)),.int .i64 x,.int .i64 out] (.int .i64 (W7 s x out)):=by
 intro K H;refine Wc Tryz.func157 ?_
 (refine Zm ?_;repeat'(first|(refine Zi fun _=>?_;try simp(disch:=first|exact Zq|fail)[*,Yb,Tryz.f157])|refine Ye ?_|refine Zx ?_|refine Zn ?_ ?_))
 refine Zv [0,1,2] (fun n sl h=>∃i:Nat,n=s.length - i/\i<=s.length/\sl 7=some (.int .i64 i)/\∀j (hj:j < s.length),j < i->s[j]=x) s.length rfl ⟨0,by simp⟩ ?_;rintro n sl h hf ⟨i,hn',hi,h7,hd⟩;simp at hf;replace hd:=Hide.mk hd;by_cases hlt:i < s.length
 . (refine Zm ?_;repeat'(first|(refine Zi fun _=>?_;try simp(disch:=first|exact Zq|fail)[*,Yb])|refine Ye ?_|refine Zx ?_|refine Zn ?_ ?_))
   .rename_i e;refine⟨_,by omega,i+1,rfl,by omega,rfl,fun j hj hji=>?_⟩;by_cases e':j=i
    .subst e';exact e
    .exact hd.get j hj (by omega)
   .rename_i _ e
    have:s.all (·==x)=false:=by
     rw[<- Bool.not_eq_true,List.all_eq_true];intro hh;exact e (by simpa using hh s[i] (List.getElem_mem hlt))
    simp[W7,this]
 . (refine Zm ?_;repeat'(first|(refine Zi fun _=>?_;try simp(disch:=first|exact Zq|fail)[*,Yb])|refine Ye ?_|refine Zx ?_|refine Zn ?_ ?_))
   have:s.all (·==x)=true:=by
    rw[List.all_eq_true];intro c hc;obtain⟨j,hj,rfl⟩:=List.getElem_of_mem hc;simpa using hd.get j hj (by omega)
   simp[W7,this]
set_option maxHeartbeats 2000000 in
theorem Zafs (b:Bool)(op sort kids first:Int)(name num:Y9)(s:List Int)(hs:Yz op s.length=true)(hn:s.length < 2^62):
  Xq vE 131 [.agg [.int .i64 op,.int .i64 sort,.str name,.str num,.int .i64 kids],.int .i64 first,L 3 b (s.map (.int .i64))] (.int .i64 (Wz op sort first s)):=by
 have h157:=fun x out=>Zafm b s x out hn
 have f3:op=10\/op=19->s.length=3:=by
  rintro (rfl | rfl)<;>simp[Yz]at hs<;>omega
 have f2:op=11\/op=12\/op=13\/op=15\/op=18->s.length=2:=by
  rintro (rfl | rfl | rfl | rfl | rfl)<;>simp[Yz]at hs<;>omega
 have f1:op=14->1<=s.length:=by
  rintro rfl;simp[Yz]at hs;omega
 have hg:∀i (h:i < s.length),s[i]=atI s i:=fun i h=>Zaeu h
 clear hs;intro K H;refine Wc Tryz.func131 ?_
 (refine Zm ?_;repeat'(first|(refine Zi fun _=>?_;try simp(disch:=first|exact Zq|fail)[*,Yb,Tryz.f131,Zafl])|refine Ye ?_|refine Zx ?_|refine Zn ?_ ?_))
 all_goals simp[Wz, *]
inductive Tr where
 |mk (op sort:Int) (name num:Y9) (ks:List Tr)
def Tr.op:Tr->Int | .mk op _ _ _ _=>op
def Tr.kids:Tr->List Tr | .mk _ _ _ _ ks=>ks
def Vd:List Tr->Int
 | []=>0
 |t::_=>t.op
mutual
def Zl:Tr->Int
 | .mk op sort _ _ ks=>if (Ym ks).all (fun s=>decide (0 < s)) then Wz op sort (Vd ks) (Ym ks) else 0
def Ym:List Tr->List Int
 | []=>[]
 |k::r=>Zl k::Ym r
end
mutual
def flat:Tr->List Nd
 | .mk op sort name num ks=>⟨op,sort,name,num,(ks.length:Int)⟩::Yl ks
def Yl:List Tr->List Nd
 | []=>[]
 |k::r=>flat k++Yl r
end
theorem Tp (ks:List Tr):(Ym ks).length=ks.length:=by
 induction ks with
 |nil=>rfl
 |cons k r ih=>simp[Ym,ih]
theorem Rv (a b:List Tr):Ym (a++b)=Ym a++Ym b:=by
 induction a with
 |nil=>rfl
 |cons k r ih=>simp[Ym,ih]
def many (p:List Nd->Option (Tr×List Nd)):Nat->List Nd->Option (List Tr×List Nd)
 | 0,r=>some ([],r)
 |k+1,r=>match p r with
  |none=>none
  |some (t,r')=>match many p k r' with
   |none=>none
   |some (ts,r'')=>some (t::ts,r'')
def Zg:Nat->List Nd->Option (Tr×List Nd)
 | 0,_=>none
 | _+1,[]=>none
 |d+1,n::r=>if Wa n.op n.sort n.name n.num&&Yz n.op n.kids then (match many (Zg d) n.kids.toNat r with
  |none=>none
  |some (ks,r')=>some (.mk n.op n.sort n.name n.num ks,r')) else none
theorem Zd8 {p:List Nd->Option (Tr×List Nd)}:∀ {k:Nat} {r r':List Nd} {ts:List Tr},many p k r=some (ts,r')->ts.length=k
 | 0,r,r',ts,h=>by simp only[many,Option.some.injEq,Prod.mk.injEq]at h;rw[<- h.1];rfl
 |k+1,r,r',ts,h=>by
  simp only[many]at h;split at h
  .cases h
  .split at h
   .cases h
   .rename_i t1 r1 _ ts2 r2 h2;cases h;simp[Zd8 h2]
theorem R9 {p:List Nd->Option (Tr×List Nd)}(hp:∀r t r',p r=some (t,r')->∃a,a≠[]/\r=a++r'):∀ {k:Nat} {r r':List Nd} {ts:List Tr},many p k r=some (ts,r')->∃a,r=a++r'/\k<=a.length
 | 0,r,r',ts,h=>by simp only[many,Option.some.injEq,Prod.mk.injEq]at h;exact⟨[],by rw[h.2];rfl,Nat.zero_le _⟩
 |k+1,r,r',ts,h=>by
  simp only[many]at h;split at h
  .cases h
  .split at h
   .cases h
   .rename_i t1 r1 h1 _ ts2 r2 h2;cases h;obtain⟨a,ha,rfl⟩:=hp _ _ _ h1;obtain⟨b,rfl,hb⟩:=R9 hp h2;refine⟨a++b,by simp,?_⟩;have:1<=a.length:=List.length_pos_iff.2 ha;simp;omega
theorem Xz:∀ {d:Nat} {r r':List Nd} {t:Tr},Zg d r=some (t,r')->∃a,a≠[]/\r=a++r'
 | 0,r,r',t,h=>by simp[Zg]at h
 |d+1,[],r',t,h=>by simp[Zg]at h
 |d+1,n::r,r',t,h=>by
  simp only[Zg]at h;split at h
  .split at h
   .cases h
   .rename_i ks r1 h1;cases h;obtain⟨a,rfl,_⟩:=R9 (fun _ _ _ hh=>Xz hh) h1;exact⟨n::a,by simp,rfl⟩
  .cases h
def To (t:List Nd)(d i:Nat):PV:=match Zg d (t.drop i) with
 |none=>.tuple [.int .i64 (-1),.int .i64 0]
 |some (tr,r)=>.tuple [.int .i64 ((t.length - r.length:Nat):Int),.int .i64 (Zl tr)]
theorem Z6r {d:Nat}{n:Nd}{r r':List Nd}{tr:Tr}(h:Zg d (n::r)=some (tr,r')):tr.op=n.op:=by
 cases d with
 |zero=>simp[Zg]at h
 |succ d=>
  simp only[Zg]at h;split at h
  .split at h
   .cases h
   .cases h;rfl
  .cases h
theorem Zms {d k:Nat}{r r':List Nd}{ks:List Tr}(h:many (Zg d) k r=some (ks,r'))(hk:ks≠[]):∃n r0,r=n::r0/\Vd ks=n.op:=by
 cases k with
 |zero=>simp only[many,Option.some.injEq,Prod.mk.injEq]at h;exact absurd h.1.symm hk
 |succ k=>
  cases r with
  |nil=>cases d<;>simp[many,Zg]at h
  |cons n r=>
   simp only[many]at h;split at h
   .cases h
   .rename_i t1 r1 h1;split at h
    .cases h
    .cases h;exact⟨n,r,rfl,Z6r h1⟩
theorem Zmo {t:List Nd}{d e:Nat}{tr:Tr}{r:List Nd}(he:e<=t.length)(h:Zg d (t.drop e)=some (tr,r)):∃e',e < e'/\e'<=t.length/\r=t.drop e'/\To t d e=.tuple [.int .i64 (e':Nat),.int .i64 (Zl tr)]:=by
 obtain⟨a,ha,e1⟩:=Xz h;have h1:=congrArg List.length e1;have h2:1<=a.length:=List.length_pos_iff.2 ha;simp at h1;refine⟨e+a.length,by omega,by omega,?_,?_⟩
 .rw [<- List.drop_drop,e1,List.drop_left]
 .simp only [To,h];congr 4;omega
set_option maxHeartbeats 2000000 in
theorem Zss (b:Bool)(t:List Nd)(hs:∀n∈t,n.Short)(hl:t.length < 2^30):∀(d i:Nat),d<=257->i<=t.length->Xq vE 91 [L 58 b (t.map Zo),.int .i64 i,.int .i64 (257 - d:Int)] (To t d i):=by
 have hbl:∀d i m,below m 4 (To t d i)=true:=fun d i m=>by unfold To;split<;>simp
 intro d
 induction d with
 |zero=>
  intro i _ hi;have e:To t 0 i=.tuple [.int .i64 (-1),.int .i64 0]:=rfl;rw[e];intro K H;refine Wc Tryz.func91 ?_;by_cases hlt:i < t.length
  .have hm:=hs _ (List.getElem_mem hlt);generalize hn:t[i]=n at hm;have h129:=Z18 n.op n.sort n.kids n.name n.num hm.1 hm.2;have h130:=Z17 n.op n.kids
   (refine Zm ?_;repeat'(first|(refine Zi fun _=>?_;try simp(disch:=first|exact Zq|fail)[*,Yb,Tryz.f91,Zo])|refine Ye ?_|refine Zx ?_|refine Zn ?_ ?_))
  . (refine Zm ?_;repeat'(first|(refine Zi fun _=>?_;try simp(disch:=first|exact Zq|fail)[*,Yb,Tryz.f91])|refine Ye ?_|refine Zx ?_|refine Zn ?_ ?_))
 |succ d ih=>
  intro i hd hi;replace hbl:=hbl (d+1) i;by_cases hlt:i < t.length
  .have hm:=hs _ (List.getElem_mem hlt);have hdr:t.drop i=t[i]::t.drop (i+1):=List.drop_eq_getElem_cons hlt;generalize hn:t[i]=n at hm hdr;have h129:=Z18 n.op n.sort n.kids n.name n.num hm.1 hm.2;have h130:=Z17 n.op n.kids;by_cases hok:(Wa n.op n.sort n.name n.num&&Yz n.op n.kids)=true
   .obtain ⟨hfo,hao⟩:=by simpa using hok
    have hkn:0<=n.kids:=by
     unfold Yz at hao
     revert hao
     repeat' split
     all_goals simp
     all_goals omega
    obtain⟨N,hK⟩:=Int.eq_ofNat_of_zero_le hkn;rw[hK]at hao h129 h130
    have e:To t (d+1) i=match many (Zg d) N (t.drop (i+1)) with
     |none=>.tuple [.int .i64 (-1),.int .i64 0]
     |some (ks,r')=>.tuple [.int .i64 ((t.length - r'.length:Nat):Int),.int .i64 (Zl (.mk n.op n.sort n.name n.num ks))]:=by
     simp only[To,hdr,Zg,hK,hfo,hao];simp;cases many (Zg d) N (List.drop (i+1) t)<;>rfl
    clear hkn hok;by_cases Q1:t.length < N
    .have e2:To t (d+1) i=.tuple [.int .i64 (-1),.int .i64 0]:=by
      rw[e];cases hmm:many (Zg d) N (t.drop (i+1)) with
      |none=>rfl
      |some q=>
       obtain⟨ks,r'⟩:=q;obtain⟨a,ha,hka⟩:=R9 (fun _ _ _ hh=>Xz hh) hmm;have:=congrArg List.length ha;simp at this;omega
     rw[e2];clear e e2;intro K H;refine Wc Tryz.func91 ?_
     (refine Zm ?_;repeat'(first|(refine Zi fun _=>?_;try simp(disch:=first|exact Zq|fail)[*,Yb,Tryz.f91,Zo])|refine Ye ?_|refine Zx ?_|refine Zn ?_ ?_))
    .generalize hV:To t (d+1) i=V at *
     have ih':∀e,e<=t.length->Xq vE 91 [L 58 b (t.map Zo),.int .i64 e,.int .i64 (257 - ((d+1:Nat):Int)+1)] (To t d e):=fun e he=>by
      have:=ih e (by omega) he
      rwa [show (257 - (d:Int))=257 - ((d+1:Nat):Int)+1 by omega]at this
     have hD0:0<=257 - ((d+1:Nat):Int)/\257 - ((d+1:Nat):Int)<=256:=by omega
     generalize 257 - ((d+1:Nat):Int)=D at ih' hD0 ⊢;obtain⟨hD0,hD1⟩:=hD0;replace ih:=Hide.mk ih';replace e:=Hide.mk e;replace hs:=Hide.mk hs;clear hV ih';intro K H;refine Wc Tryz.func91 ?_
     (refine Zm ?_;repeat'(first|(refine Zi fun _=>?_;try simp(disch:=first|exact Zq|fail)[*,Yb,Tryz.f91,Zo])|refine Ye ?_|refine Zx ?_|refine Zn ?_ ?_))
     refine Zv [0,1,2] (fun m sl h=>∃(k e:Nat) (ks:List Tr) (w:PV),m=N - k/\k<=N/\e<=t.length/\ks.length=k/\sl 11=some (.int .i64 k)/\sl 9=some (.int .i64 e)/\sl 10=some (.bool ((Ym ks).all fun s=>decide (0 < s)))/\sl 8=some w /\
      Acc [83] ⟨H.next,H.next,[]⟩ h 3 w ((Ym ks).map (.int .i64))/\h.next=H.next+104/\many (Zg d) N (t.drop (i+1))=(match many (Zg d) (N - k) (t.drop e) with
       |none=>none
       |some (us,r'')=>some (ks++us,r''))) N rfl ⟨0,i+1,[],.nils,by simp,by simp,by omega,rfl,rfl,by simp,by simp[Ym],by simp,Acc.nil,by simp,by
        simp only[Nat.sub_zero,List.nil_append];cases many (Zg d) N (t.drop (i+1))<;>rfl⟩ ?_
     rintro m sl h hf ⟨k,q,ks,w,hm',hk,hq,Zyv,h11,h9,h10,h8,hA,Sj,hmy⟩;simp at hf;by_cases hkK:k < N
     .have hsn:many (Zg d) (N - k) (t.drop q)=match Zg d (t.drop q) with
       |none=>none
       |some (t1,r')=>match many (Zg d) (N - (k+1)) r' with
        |none=>none
        |some (ts,r'')=>some (t1::ts,r''):=by
       rw[show N - k=(N - (k+1))+1 by omega];rfl
      have ihq:=ih.get q hq;have hka:k < 1073741824:=by omega
      cases hp:Zg d (t.drop q) with
      |none=>
       have hVV:V=.tuple [.int .i64 (-1),.int .i64 0]:=by rw[e.get,hmy,hsn,hp]
       have hv:To t d q=.tuple [.int .i64 (-1),.int .i64 0]:=by simp only[To,hp]
       rw[hv]at ihq;clear hsn hmy hp hv
       (refine Zm ?_;repeat'(first|(refine Zi fun _=>?_;try simp(disch:=first|exact Zq|fail)[*,Yb])|refine Ye ?_|refine Zx ?_|refine Zn ?_ ?_))
      |some x=>
       obtain⟨tr,r⟩:=x;obtain⟨q',hq1,hq2,rfl,hv⟩:=Zmo hq hp;rw[hv]at ihq;simp only[hp]at hsn;replace hmy:=Hide.mk hmy;replace hsn:=Hide.mk hsn;clear hp hv;obtain⟨w',h',hap,Vb,Zgn,Zk⟩:=hA.app (dd:=83) (ys:=[.int .i64 (Zl tr)]) (T:={k:=.int .i64,size:=1,bytes:=8,zero:=[.int .i64 0]}) (by simp) rfl (by simp[Tp];omega) (by decide) (by decide) (by simp);replace Zk:=Hide.mk Zk;replace Vb:=Hide.mk Vb;simp only[List.length_cons,List.length_nil]at hap;clear hA
       have hfm:many (Zg d) N (List.drop (i+1) t)=match many (Zg d) (N - (k+1)) (List.drop q' t) with
         |none=>none
         |some (us,r'')=>some (ks++[tr]++us,r''):=by
        rw[hmy.get,hsn.get];cases many (Zg d) (N - (k+1)) (List.drop q' t)<;>simp
       have hfA:Acc [83] ⟨H.next,H.next,[]⟩ h' 3 w' ((Ym (ks++[tr])).map (.int .i64)):=by
        simpa[Rv,Ym]using Vb.get
       replace hfm:=Hide.mk hfm;replace hfA:=Hide.mk hfA;clear hmy hsn Vb
       (refine Zm ?_;repeat'(first|(refine Zi fun _=>?_;try simp(disch:=first|exact Zq|fail)[*,Yb])|refine Ye ?_|refine Zx ?_|refine Zn ?_ ?_))
       .rename_i hall;refine⟨N - (k+1),by omega,k+1,rfl,by omega,q',hq2,ks++[tr],by simp;omega,by omega,rfl,?_,hfA.get,hfm.get⟩;rw[Rv,List.all_append,hall];simp[Ym]
       .rename_i hall;refine⟨N - (k+1),by omega,k+1,rfl,by omega,q',hq2,ks++[tr],by simp;omega,by omega,rfl,?_,hfA.get,hfm.get⟩
        have:(Ym (ks++[tr])).all (fun s=>decide (0 < s))=false:=by
         rw[Rv,List.all_append,hall];rfl
        simpa using this
     .have hkN:k=N:=by omega
      subst hkN;simp only[Nat.sub_self,many,List.append_nil]at hmy;have hVV:=e.get;rw[hmy]at hVV;simp only[List.length_drop,show t.length - (t.length - q)=q by omega]at hVV;rcases Bool.eq_false_or_eq_true ((Ym ks).all fun s=>decide (0 < s)) with hall | hall
      .replace hVV:V=.tuple [.int .i64 q,.int .i64 (Wz n.op n.sort (Vd ks) (Ym ks))]:=by
        rw[hVV,Zl,if_pos hall]
       have hl1:=Tp ks;have h131:=Zafs true n.op n.sort k (Vd ks) n.name n.num (Ym ks) (by rw[hl1,Zyv];exact hao) (by omega);have hc:=hA.call rfl (f:=131) rfl [.agg [.int .i64 n.op,.int .i64 n.sort,.str n.name,.str n.num,.int .i64 k],.int .i64 (Vd ks)] [] h131 rfl rfl rfl;simp only[List.cons_append,List.nil_append]at hc
       have hlw:lenK (.slice 3) w=some (.int .i64 k):=by
        have:=hA.lenK (e:=3)
        rwa [List.length_map,hl1,Zyv]at this
       have Zr1:ks≠[]->i+1 < t.length:=fun hk0=>by
        obtain⟨n1,r0,e1,e2⟩:=Zms hmy hk0;have:=congrArg List.length e1;simp at this;omega
       have hf1:∀(hk0:i+1 < t.length),ks≠[]->t[i+1].op=Vd ks:=fun hk1 hk0=>by
        obtain⟨n1,r0,e1,e2⟩:=Zms hmy hk0;rw[List.drop_eq_getElem_cons hk1]at e1;rw[e2,List.head_eq_of_cons_eq e1]
       have hf0:ks=[]->Vd ks=0:=fun hk0=>by rw[hk0];rfl
       by_cases hk0:ks=[]
       .have hf0:=hf0 hk0;have hk00:k=0:=by rw[<- Zyv,hk0];rfl
        rw[hf0]at hc hVV;simp only[hk00,Int.natCast_zero]at hc;clear hmy e hf1 Zr1 h131 hf0;clear hk0
        (refine Zm ?_;repeat'(first|(refine Zi fun _=>?_;try simp(disch:=first|exact Zq|fail)[*,Yb])|refine Ye ?_|refine Zx ?_|refine Zn ?_ ?_))
       .have hf1:=hf1 (Zr1 hk0) hk0;have Zr1:=Zr1 hk0;have hk00:0 < k:=by rw[<- Zyv];exact List.length_pos_iff.2 hk0
        clear hmy e hf0 h131
        (refine Zm ?_;repeat'(first|(refine Zi fun _=>?_;try simp(disch:=first|exact Zq|fail)[*,Yb])|refine Ye ?_|refine Zx ?_|refine Zn ?_ ?_))
      .replace hVV:V=.tuple [.int .i64 q,.int .i64 0]:=by
        rw[hVV,Zl,if_neg (by rw[hall];simp)]
       clear hmy e
       (refine Zm ?_;repeat'(first|(refine Zi fun _=>?_;try simp(disch:=first|exact Zq|fail)[*,Yb])|refine Ye ?_|refine Zx ?_|refine Zn ?_ ?_))
   .have e:To t (d+1) i=.tuple [.int .i64 (-1),.int .i64 0]:=by
     simp only[To,hdr,Zg,hok];rfl
    rw[e];clear e hdr;rcases Bool.eq_false_or_eq_true (Wa n.op n.sort n.name n.num) with hfo | hfo
    .have hao:Yz n.op n.kids=false:=by simpa[hfo]using hok
     clear hok;intro K H;refine Wc Tryz.func91 ?_
     (refine Zm ?_;repeat'(first|(refine Zi fun _=>?_;try simp(disch:=first|exact Zq|fail)[*,Yb,Tryz.f91,Zo])|refine Ye ?_|refine Zx ?_|refine Zn ?_ ?_))
    .clear hok;intro K H;refine Wc Tryz.func91 ?_
     (refine Zm ?_;repeat'(first|(refine Zi fun _=>?_;try simp(disch:=first|exact Zq|fail)[*,Yb,Tryz.f91,Zo])|refine Ye ?_|refine Zx ?_|refine Zn ?_ ?_))
  .have e:To t (d+1) i=.tuple [.int .i64 (-1),.int .i64 0]:=by
    have:t.drop i=[]:=by simp;omega
    simp[To,this,Zg]
   rw[e];intro K H;refine Wc Tryz.func91 ?_
   (refine Zm ?_;repeat'(first|(refine Zi fun _=>?_;try simp(disch:=first|exact Zq|fail)[*,Yb,Tryz.f91])|refine Ye ?_|refine Zx ?_|refine Zn ?_ ?_))
theorem Zafw (b1 b2:Bool)(x y:List Int)(hx:x.length < 2^62)(hy:y.length < 2^62):Xq vE 114 [L 3 b1 (x.map (.int .i64)),L 3 b2 (y.map (.int .i64))] (.bool (x==y)):=by
 by_cases hl:x.length=y.length
 .intro K H;refine Wc Tryz.func114 ?_
  (refine Zm ?_;repeat'(first|(refine Zi fun _=>?_;try simp(disch:=first|exact Zq|fail)[*,Yb,Tryz.f114])|refine Ye ?_|refine Zx ?_|refine Zn ?_ ?_))
  refine Zv [0,1] (fun n sl h=>∃i:Nat,n=x.length - i/\i<=x.length/\sl 5=some (.int .i64 i)/\∀j (hj:j < x.length) (hk:j < y.length),j < i->x[j]=y[j]) x.length rfl ⟨0,by simp⟩ ?_;rintro n sl h hf ⟨i,hn',hi,h5,hd⟩;simp at hf;replace hd:=Hide.mk hd;by_cases hlt:i < x.length
  .have Zng:i < y.length:=by omega
   clear hl
   (refine Zm ?_;repeat'(first|(refine Zi fun _=>?_;try simp(disch:=first|exact Zq|fail)[*,Yb])|refine Ye ?_|refine Zx ?_|refine Zn ?_ ?_))
   .rename_i e;refine⟨_,by omega,i+1,rfl,by omega,rfl,fun j hj hk hji=>?_⟩;by_cases e':j=i
    .subst e';exact e
    .exact hd.get j hj hk (by omega)
   .rename_i e;rintro rfl;simp at e
  . (refine Zm ?_;repeat'(first|(refine Zi fun _=>?_;try simp(disch:=first|exact Zq|fail)[*,Yb])|refine Ye ?_|refine Zx ?_|refine Zn ?_ ?_))
    have:x=y:=List.ext_getElem hl fun j hj hk=>hd.get j hj hk (by omega)
    simp[this]
 .have:x≠y:=by rintro rfl;exact hl rfl
  have hq:(x==y)=false:=by simp[this]
  intro K H;refine Wc Tryz.func114 ?_
  (refine Zm ?_;repeat'(first|(refine Zi fun _=>?_;try simp(disch:=first|exact Zq|fail)[*,Yb,Tryz.f114])|refine Ye ?_|refine Zx ?_|refine Zn ?_ ?_))
theorem Zafq (b:Bool)(t:List Nd)(hs:∀n∈t,n.Short)(hl:t.length < 2^30)(i:Nat)(hi:i < t.length)(ks:List Tr)(r:List Nd)(N:Nat)(hN:t[i].kids=N)(hm:many (Zg 257) N (t.drop (i+1))=some (ks,r)):
  Xq vE 141 [L 58 b (t.map Zo),.int .i64 i] (L 3 true ((Ym ks).map (.int .i64))):=by
 have hlen:=Zd8 hm;generalize hn:t[i]=n at hN
 have hNl:N < t.length:=by
  obtain⟨a,ha,hka⟩:=R9 (fun _ _ _ hh=>Xz hh) hm;have:=congrArg List.length ha;simp at this;omega
 have h91:∀q,q<=t.length->Xq vE 91 [L 58 b (t.map Zo),.int .i64 q,.int .i64 0] (To t 257 q):=fun q hq=>Zss b t hs hl 257 q (by omega) hq
 replace h91:=Hide.mk h91;clear hs;intro K H;refine Wc Tryz.func141 ?_
 (refine Zm ?_;repeat'(first|(refine Zi fun _=>?_;try simp(disch:=first|exact Zq|fail)[*,Yb,Tryz.f141,Zo])|refine Ye ?_|refine Zx ?_|refine Zn ?_ ?_))
 refine Zv [0,1] (fun m sl h=>∃(k e:Nat) (k1 k2:List Tr) (w:PV),m=N - k/\k<=N/\e<=t.length/\k1.length=k/\ks=k1++k2/\sl 7=some (.int .i64 k)/\sl 6=some (.int .i64 e)/\sl 5=some w /\
      Acc [30] ⟨H.next,H.next,[]⟩ h 3 w ((Ym k1).map (.int .i64))/\h.next=H.next+33/\many (Zg 257) (N - k) (t.drop e)=some (k2,r)) N rfl ⟨0,i+1,[],ks,.nils,by simp,by simp,by omega,rfl,rfl,by simp,by simp[Ym],by simp,Acc.nil,by simp,hm⟩ ?_
 rintro m sl h hf ⟨k,q,k1,k2,w,hm',hk,hq,Zyv,hks,h7,h6,h5,hA,Sj,hmy⟩;simp at hf;by_cases hkN:k < N
 .have hsn:many (Zg 257) (N - k) (t.drop q)=match Zg 257 (t.drop q) with
   |none=>none
   |some (t1,r')=>match many (Zg 257) (N - (k+1)) r' with
    |none=>none
    |some (ts,r'')=>some (t1::ts,r''):=by
   rw[show N - k=(N - (k+1))+1 by omega];rfl
  rw[hmy]at hsn;have h91q:=h91.get q hq;cases hp:Zg 257 (t.drop q) with
  |none=>rw[hp]at hsn;cases hsn
  |some x=>
   obtain⟨tr,rr⟩:=x;obtain⟨q',hq1,hq2,rfl,hv⟩:=Zmo hq hp;rw[hv]at h91q;simp only[hp]at hsn;cases hmm:many (Zg 257) (N - (k+1)) (t.drop q') with
   |none=>rw[hmm]at hsn;cases hsn
   |some z=>
    obtain⟨k3,r3⟩:=z;rw[hmm]at hsn;cases hsn;obtain⟨w',h',hap,Vb,Zgn,Zk⟩:=hA.app (dd:=30) (ys:=[.int .i64 (Zl tr)]) (T:={k:=.int .i64,size:=1,bytes:=8,zero:=[.int .i64 0]}) (by simp) rfl (by simp[Tp];omega) (by decide) (by decide) (by simp);simp only[List.length_cons,List.length_nil]at hap
    have Xx:∃m,m < N - k/\∃x,m=N - x/\x<=N/\∃x_1:Nat,x_1<=t.length/\∃x_2:List Tr,x_2.length=x/\∃x_3,ks=x_2++x_3/\(k:Int)+1=x/\(q':Int)=x_1/\Acc [30] ⟨H.next,H.next,[]⟩ h' 3 w' ((Ym x_2).map (.int .i64))/\many (Zg 257) (N - x) (t.drop x_1)=some (x_3,r):=
     ⟨N - (k+1),by omega,k+1,rfl,by omega,q',hq2,k1++[tr],by simp;omega,k3,by rw[hks];simp,by omega,rfl,by simpa[Rv,Ym]using Vb,hmm⟩
    replace Xx:=Hide.mk Xx;clear Zk Vb hA hp hv hmm hmy hm hks hlen hq1
    (refine Zm ?_;repeat'(first|(refine Zi fun _=>?_;try simp(disch:=first|exact Zq|fail)[*,Yb])|refine Ye ?_|refine Zx ?_|refine Zn ?_ ?_))
    exact Xx.get
 .have hkN:k=N:=by omega
  subst hkN;simp only[Nat.sub_self,many,Option.some.injEq,Prod.mk.injEq]at hmy;rw[<- hmy.1,List.append_nil]at hks;have Uv:=hA.inl;have Zyy:=hA.inlT;rw[<- hks]at Uv;rw[Uv]at Zyy;clear hmy hm hks;have hot:=hA.ownT
  (refine Zm ?_;repeat'(first|(refine Zi fun _=>?_;try simp(disch:=first|exact Zq|fail)[*,Yb])|refine Ye ?_|refine Zx ?_|refine Zn ?_ ?_))
  exact hot
theorem Z2c (b:Bool)(t:List Nd)(hs:∀n∈t,n.Short)(hl:t.length < 2^30)(i:Nat)(hi:i < t.length)(ks:List Tr)(r:List Nd)(N:Nat)(hN:t[i].kids=N)(hm:many (Zg 257) N (t.drop (i+1))=some (ks,r)):
  Xq vE 113 [L 58 b (t.map Zo),.int .i64 i] (.agg [.str t[i].name,L 3 true ((Ym ks).map (.int .i64)),.int .i64 t[i].sort]):=by
 have h:=Zafq b t hs hl i hi ks r N hN hm;clear hm hs;intro K H;refine Wc Tryz.func113 ?_
 (simp(disch:=first|exact Zq|fail)[*,Yb,Tryz.f113,Zo])
 refine Z0 ?_
 (refine Zm ?_;repeat'(first|(refine Zi fun _=>?_;try simp(disch:=first|exact Zq|fail)[*,Yb])|refine Ye ?_|refine Zx ?_|refine Zn ?_ ?_))
structure Use where
 fn:Bool
 name:Y9
 args:List Int
 sort:Int
 deriving DecidableEq
abbrev Wi (u:Use):PV:=.agg [.str u.name,.int .i64 u.sort]
abbrev Y8 (u:Use):PV:=.agg [.str u.name,L 3 true (u.args.map (.int .i64)),.int .i64 u.sort]
def Xl (n:Nd)(r:List Nd):List Use:=
 if n.op=4 then [⟨false,n.name,[],n.sort⟩]
 else if n.op=5 then (match many (Zg 257) n.kids.toNat r with
  |some (ks,_)=>[⟨true,n.name,Ym ks,n.sort⟩]
  |none=>[]) else []
def Ya:List Nd->List Use
 | []=>[]
 |n::r=>Xl n r++Ya r
def Clean (l:List Use):Prop:=∀u∈l,∀v∈l,u.name=v.name->u=v
instance (l:List Use):Decidable (Clean l):=by unfold Clean;infer_instance
def Yv (l:List Use):Bool:=decide (Clean l)
theorem Zf8 {n:Nd}{r:List Nd}{u:Use}(h:u∈Xl n r)(hf:u.fn=false):u.args=[]:=by
 unfold Xl at h;split at h
 .simp at h;rw[h]
 .split at h
  .split at h
   .simp at h;rw[h]at hf;cases hf
   .cases h
  .cases h
structure UInv (t:List Nd)(i:Nat)(P vs fs:List Use):Prop where
 split:Ya t=P++Ya (t.drop i)
 hv:∀u,u∈vs↔u∈P/\u.fn=false
 hf:∀u,u∈fs↔u∈P/\u.fn=true
 sep:∀u∈P,∀v∈P,u.fn=v.fn->u.name=v.name->u=v
 args:∀u∈P,u.fn=false->u.args=[]
 lv:vs.length<=i
 lf:fs.length<=i
theorem UInv.start (t:List Nd):UInv t 0 [] [] []:=⟨by simp,by simp,by simp,by simp,by simp,by simp,by simp⟩
theorem UInv.next {t:List Nd}{i:Nat}{P vs fs:List Use}(I:UInv t i P vs fs)(hi:i < t.length):Ya t=P++Xl t[i] (t.drop (i+1))++Ya (t.drop (i+1)):=by
 rw[I.split,List.drop_eq_getElem_cons hi,Ya,List.append_assoc]
theorem UInv.other {t:List Nd}{i:Nat}{P vs fs:List Use}(I:UInv t i P vs fs)(hi:i < t.length)(h4:t[i].op≠4)(h5:t[i].op≠5):UInv t (i+1) P vs fs:=by
 refine⟨?_,I.hv,I.hf,I.sep,I.args,by have:=I.lv;omega,by have:=I.lf;omega⟩;rw[I.next hi];simp[Xl,h4,h5]
theorem UInv.known {t:List Nd}{i:Nat}{P vs fs:List Use}{u:Use}(I:UInv t i P vs fs)(hi:i < t.length)(hu:Xl t[i] (t.drop (i+1))=[u])(hm:u∈P):UInv t (i+1) (P++[u]) vs fs:=by
 have hP:∀v,v∈P++[u]↔v∈P:=fun v=>by
  simp only[List.mem_append,List.mem_singleton];exact⟨fun h=>h.elim id fun e=>e ▸ hm,Or.inl⟩
 refine⟨by rw[I.next hi,hu],fun v=>by rw[hP];exact I.hv v,fun v=>by rw[hP];exact I.hf v,fun a ha b hb=>I.sep a ((hP a).1 ha) b ((hP b).1 hb),fun a ha=>I.args a ((hP a).1 ha),by have:=I.lv;omega,by have:=I.lf;omega⟩
theorem UInv.fresh {t:List Nd}{i:Nat}{P vs fs:List Use}{u:Use}(I:UInv t i P vs fs)(hi:i < t.length)(hu:Xl t[i] (t.drop (i+1))=[u])(hn:∀v∈P,v.fn=u.fn->v.name≠u.name):UInv t (i+1) (P++[u]) (if u.fn then vs else vs++[u]) (if u.fn then fs++[u] else fs):=by
 refine⟨by rw[I.next hi,hu],fun v=>?_,fun v=>?_,fun a ha b hb hab Yp=>?_,fun a ha hfa=>?_,?_,?_⟩
 .cases hf:u.fn with
  |true=>
   simp only[if_true,List.mem_append,List.mem_singleton,I.hv];constructor
   .rintro ⟨h1,h2⟩;exact⟨Or.inl h1,h2⟩
   .rintro ⟨h1 | rfl,h2⟩
    .exact ⟨h1,h2⟩
    .rw [hf]at h2;cases h2
  |false=>
   simp only[Bool.false_eq_true,if_false,List.mem_append,List.mem_singleton,I.hv];constructor
   .rintro (⟨h1,h2⟩ | rfl)
    .exact ⟨Or.inl h1,h2⟩
    .exact ⟨Or.inr rfl,hf⟩
   .rintro ⟨h1 | h1,h2⟩
    .exact Or.inl ⟨h1,h2⟩
    .exact Or.inr h1
 .cases hf:u.fn with
  |false=>
   simp only[Bool.false_eq_true,if_false,List.mem_append,List.mem_singleton,I.hf];constructor
   .rintro ⟨h1,h2⟩;exact⟨Or.inl h1,h2⟩
   .rintro ⟨h1 | rfl,h2⟩
    .exact ⟨h1,h2⟩
    .rw [hf]at h2;cases h2
  |true=>
   simp only[if_true,List.mem_append,List.mem_singleton,I.hf];constructor
   .rintro (⟨h1,h2⟩ | rfl)
    .exact ⟨Or.inl h1,h2⟩
    .exact ⟨Or.inr rfl,hf⟩
   .rintro ⟨h1 | h1,h2⟩
    .exact Or.inl ⟨h1,h2⟩
    .exact Or.inr h1
 .simp only [List.mem_append,List.mem_singleton]at ha hb;rcases ha with ha | rfl
  .rcases hb with hb | rfl
   .exact I.sep a ha b hb hab Yp
   .exact absurd Yp (hn a ha hab)
  .rcases hb with hb | rfl
   .exact absurd Yp.symm (hn b hb hab.symm)
   .rfl
 .simp only [List.mem_append,List.mem_singleton]at ha;rcases ha with ha | rfl
  .exact I.args a ha hfa
  .exact Zf8 (n:=t[i]) (r:=t.drop (i+1)) (by rw[hu];simp) hfa
 .have:=I.lv;split<;>simp<;>omega
 .have:=I.lf;split<;>simp<;>omega
theorem UInv.bad {t:List Nd}{i:Nat}{P vs fs:List Use}{u v:Use}(I:UInv t i P vs fs)(hi:i < t.length)(hu:Xl t[i] (t.drop (i+1))=[u])(hm:v∈P)(hn:v.name=u.name)(Yp:v≠u):Yv (Ya t)=false:=by
 unfold Yv;rw[decide_eq_false_iff_not];intro hc;refine Yp (hc v ?_ u ?_ hn)
 .rw [I.split];exact List.mem_append_left _ hm
 .rw [I.next hi,hu];simp
theorem UInv.done {t:List Nd}{P vs fs:List Use}(I:UInv t t.length P vs fs)(h:∀v∈vs,∀f∈fs,v.name≠f.name):Yv (Ya t)=true:=by
 unfold Yv;rw[decide_eq_true_iff];have e:Ya t=P:=by rw[I.split];simp[Ya]
 rw[e];intro u hu v hv hn;cases h1:u.fn with
 |true=>
  cases h2:v.fn with
  |true=>exact I.sep u hu v hv (by rw[h1,h2]) hn
  |false=>exact absurd hn.symm (h v ((I.hv v).2 ⟨hv,h2⟩) u ((I.hf u).2 ⟨hu,h1⟩))
 |false=>
  cases h2:v.fn with
  |true=>exact absurd hn (h u ((I.hv u).2 ⟨hu,h1⟩) v ((I.hf v).2 ⟨hv,h2⟩))
  |false=>exact I.sep u hu v hv (by rw[h1,h2]) hn
theorem UInv.cross {t:List Nd}{P vs fs:List Use}{v f:Use}(I:UInv t t.length P vs fs)(hv:v∈vs)(hf:f∈fs)(h:v.name=f.name):Yv (Ya t)=false:=by
 unfold Yv;rw[decide_eq_false_iff_not];intro hc;have e:Ya t=P:=by rw[I.split];simp[Ya]
 rw[e]at hc;have h1:=(I.hv v).1 hv;have h2:=(I.hf f).1 hf;have:=hc v h1.1 f h2.1 h;rw[this,h2.2]at h1;cases h1.2
def Zahx (t:List Nd):Prop:=∀i (h:i < t.length),t[i].op=5->∃N ks r,t[i].kids=((N:Nat):Int)/\many (Zg 257) N (t.drop (i+1))=some (ks,r)
set_option maxHeartbeats 4000000 in
theorem Zalt (b:Bool)(t:List Nd)(hs:∀n∈t,n.Short)(hl:t.length < 2^30)(hw:Zahx t):Xq vE 92 [L 58 b (t.map Zo)] (.bool (Yv (Ya t))):=by
 intro K H;refine Wc Tryz.func92 ?_
 ((try simp(disch:=first|exact Zq|fail)[*,Yb,Tryz.f92]);repeat'(first|refine Z8 ?_|refine Z9 ?_|refine Z0 ?_|refine Z1 fun _=>?_|refine Z2 fun _ _=>?_|refine Z3 (fun _=>?_) fun _ _=>?_|refine Z4 fun _=>?_|refine Z5 fun _=>?_|refine Z6 (fun _=>?_) fun _=>?_|refine Z7 (fun _=>?_) fun _=>?_)<;>(try simp(disch:=first|exact Zq|fail)[*,Yb,Tryz.f92]))
 refine Zv [0] (fun m sl h=>∃(i:Nat) (P vs fs:List Use) (wv wf:PV),m=t.length - i/\i<=t.length/\UInv t i P vs fs/\(∀f∈fs,f.args.length < 2^30)/\sl 5=some (.int .i64 i)/\sl 3=some wv/\sl 4=some wf /\
  Acc [69] ⟨H.next,H.next,[]⟩ h 69 wv (vs.map Wi)/\Acc [113] ⟨H.next,H.next,[]⟩ h 155 wf (fs.map Y8)/\h.next=H.next+137) t.length rfl ⟨0,[],[],[],.nils,.nils,by simp,by simp,UInv.start t,by simp,rfl,rfl,rfl,Acc.nil,Acc.nil,by simp⟩ ?_
 rintro m sl h hf ⟨i,P,vs,fs,wv,wf,hm',hi,I,Uq,h5,h3,h4,hAv,hAf,Sj⟩;simp at hf;have hlv:=I.lv;have hlf:=I.lf;replace I:=Hide.mk I;replace Uq:=Hide.mk Uq
 have lkv:lenK (.slice 69) wv=some (.int .i64 vs.length):=by
  have:=hAv.lenK (e:=69)
  rwa [List.length_map]at this
 have lkf:lenK (.slice 155) wf=some (.int .i64 fs.length):=by
  have:=hAf.lenK (e:=155)
  rwa [List.length_map]at this
 by_cases hlt:i < t.length
 .generalize hn:t[i]=n;by_cases h4':n.op=4
  ·
   have hu:Xl t[i] (t.drop (i+1))=[⟨false,n.name,[],n.sort⟩]:=by rw[hn];simp[Xl,h4']
   replace hu:=Hide.mk hu
   ((try simp(disch:=first|exact Zq|fail)[*,Yb,Zo]);repeat'(first|refine Z8 ?_|refine Z9 ?_|refine Z0 ?_|refine Z1 fun _=>?_|refine Z2 fun _ _=>?_|refine Z3 (fun _=>?_) fun _ _=>?_|refine Z4 fun _=>?_|refine Z5 fun _=>?_|refine Z6 (fun _=>?_) fun _=>?_|refine Z7 (fun _=>?_) fun _=>?_)<;>(try simp(disch:=first|exact Zq|fail)[*,Yb,Zo]))
   refine Zv [0,3,4,5] (fun m2 sl2 h2=>∃(k:Nat) (kn:Bool),m2=vs.length - k/\k<=vs.length/\h2=h/\sl2 7=some (.int .i64 k)/\sl2 6=some (.bool kn)/\(kn=true->∃u∈vs,u.name=n.name/\u.sort=n.sort) /\
    (kn=false->∀j (hj:j < vs.length),j < k->vs[j].name≠n.name)) vs.length rfl ⟨0,false,by simp,by simp,rfl,by simp,by simp,by simp,by simp⟩ ?_
   rintro m2 sl2 h2 hf2 ⟨k,kn,hm2,hk,rfl,h7,h6,hkt,hkf⟩;simp at hf2;replace hkt:=Hide.mk hkt;replace hkf:=Hide.mk hkf;by_cases Q1:k < vs.length
   .obtain ⟨d,Zc,hd,rfl,hg⟩:=hAv.pos Q1;simp at hd;subst hd;generalize hvk:vs[k]=v;have hvm:v∈vs:=by rw[<- hvk];exact List.getElem_mem Q1
    have hvP:=(I.get.hv v).1 hvm
    ((try simp(disch:=first|exact Zq|fail)[*,Yb,Zo,Wi]);repeat'(first|refine Z8 ?_|refine Z9 ?_|refine Z0 ?_|refine Z1 fun _=>?_|refine Z2 fun _ _=>?_|refine Z3 (fun _=>?_) fun _ _=>?_|refine Z4 fun _=>?_|refine Z5 fun _=>?_|refine Z6 (fun _=>?_) fun _=>?_|refine Z7 (fun _=>?_) fun _=>?_)<;>(try simp(disch:=first|exact Zq|fail)[*,Yb,Zo,Wi]))
    .rename_i e1 e2;exact⟨_,by omega,k+1,rfl,by omega,by omega,v,hvm,e1,e2⟩
    .rename_i e1 _ e2;exact I.get.bad hlt hu.get hvP.1 e1 (by rintro rfl;exact e2 rfl)
    .rename_i e1 e2;refine⟨_,by omega,k+1,rfl,by omega,by omega,hkt.get,fun hk0 j hj hjk=>?_⟩;by_cases e:j=k
     .subst e;rw[hvk];exact e2
     .exact hkf.get hk0 j hj (by omega)
   .cases kn
    .have hno:=hkf.get rfl
     have S4:=I.get.fresh hlt hu.get (fun v hv Qi hnm=>by
      obtain⟨j,hj,rfl⟩:=List.getElem_of_mem ((I.get.hv v).2 ⟨hv,Qi⟩);exact hno j hj (by omega) hnm)
     simp only[Bool.false_eq_true,if_false]at S4;obtain⟨w',h',hap,Vb,Zgn,Zk⟩:=hAv.app (dd:=69) (ys:=[Wi ⟨false,n.name,[],n.sort⟩]) (T:={k:=.struct [(0,9),(1,3)],size:=2,bytes:=24,zero:=[.string {data:=#[]},.int .i64 0]}) (by simp) rfl (by simp;omega) (by decide) (by decide) (by simp);simp only[List.length_cons,List.length_nil]at hap;have Vu:=hAv.same (n:=3);have Zm9:=Vb.same (n:=3);have Z35:=hAf.frame (h':=h') fun d hd=>Zk _ fun d' hd'=>by simp at hd hd';subst hd;subst hd';simp
     have Xx:∃m,m < t.length - i/\∃i_1:Nat,m=t.length - i_1/\i_1<=t.length/\∃x x_1 x_2,UInv t i_1 x x_1 x_2/\(∀f∈x_2,f.args.length < 2^30)/\(i:Int)+1=i_1/\Acc [69] ⟨H.next,H.next,[]⟩ h' 69 w' (List.map Wi x_1)/\Acc [113] ⟨H.next,H.next,[]⟩ h' 155 wf (List.map Y8 x_2):=
      ⟨_,by omega,i+1,rfl,by omega,_,_,_,S4,Uq.get,by omega,by simpa using Vb,Z35⟩
     replace Xx:=Hide.mk Xx;clear hno S4 Vb Zk Z35
     ((try simp(disch:=first|exact Zq|fail)[*,Yb,Zo]);repeat'(first|refine Z8 ?_|refine Z9 ?_|refine Z0 ?_|refine Z1 fun _=>?_|refine Z2 fun _ _=>?_|refine Z3 (fun _=>?_) fun _ _=>?_|refine Z4 fun _=>?_|refine Z5 fun _=>?_|refine Z6 (fun _=>?_) fun _=>?_|refine Z7 (fun _=>?_) fun _=>?_)<;>(try simp(disch:=first|exact Zq|fail)[*,Yb,Zo]))
     exact Xx.get
    .obtain ⟨v,hv,e1,e2⟩:=hkt.get rfl;have hvP:=(I.get.hv v).1 hv;have e3:=I.get.args v hvP.1 hvP.2
     have S4:=I.get.known hlt hu.get (by
      have:v=⟨false,n.name,[],n.sort⟩:=by
       obtain⟨vf,vn,va,Qk⟩:=v;simp at hvP e1 e2 e3;rw[hvP.2,e1,e2,e3]
      rw[<- this];exact hvP.1)
     replace S4:=Hide.mk S4;clear hvP e1 e2 e3 hv
     ((try simp(disch:=first|exact Zq|fail)[*,Yb,Zo,Wi]);repeat'(first|refine Z8 ?_|refine Z9 ?_|refine Z0 ?_|refine Z1 fun _=>?_|refine Z2 fun _ _=>?_|refine Z3 (fun _=>?_) fun _ _=>?_|refine Z4 fun _=>?_|refine Z5 fun _=>?_|refine Z6 (fun _=>?_) fun _=>?_|refine Z7 (fun _=>?_) fun _=>?_)<;>(try simp(disch:=first|exact Zq|fail)[*,Yb,Zo,Wi]))
     exact⟨_,by omega,i+1,rfl,by omega,_,_,_,S4.get,Uq.get,by omega,hAv,hAf⟩
  .by_cases h5':n.op=5
   ·
    obtain⟨N,ks,r,hk,hm⟩:=hw i hlt (by rw[hn];exact h5');have Z9g:=Z2c b t hs hl i hlt ks r N hk hm;rw[hn]at Z9g hk;have hu:Xl t[i] (t.drop (i+1))=[⟨true,n.name,Ym ks,n.sort⟩]:=by rw[hn];simp[Xl,h5',hk,hm]
    replace hu:=Hide.mk hu
    have Zyv:(Ym ks).length < 2^30:=by
     rw[Tp];have h1:=Zd8 hm;obtain⟨a,ha,hka⟩:=R9 (fun _ _ _ hh=>Xz hh) hm;have:=congrArg List.length ha;simp at this;omega
    generalize Ym ks=xs at *;clear hm hk
    ((try simp(disch:=first|exact Zq|fail)[*,Yb,Zo]);repeat'(first|refine Z8 ?_|refine Z9 ?_|refine Z0 ?_|refine Z1 fun _=>?_|refine Z2 fun _ _=>?_|refine Z3 (fun _=>?_) fun _ _=>?_|refine Z4 fun _=>?_|refine Z5 fun _=>?_|refine Z6 (fun _=>?_) fun _=>?_|refine Z7 (fun _=>?_) fun _=>?_)<;>(try simp(disch:=first|exact Zq|fail)[*,Yb,Zo]))
    generalize hv8:h.stamp (H.next+8)=v8
    refine Zv [0,3,4,5,8] (fun m2 sl2 h2=>∃(k:Nat) (kn:Bool),m2=fs.length - k/\k<=fs.length/\Acc [69] ⟨H.next,H.next,[]⟩ h2 69 wv (vs.map Wi)/\Acc [113] ⟨H.next,H.next,[]⟩ h2 155 wf (fs.map Y8)/\h2.next=H.next+137 /\
     h2.get (H.next+8)=some (v8,.cells [.str n.name,L 3 true (xs.map (.int .i64)),.int .i64 n.sort])/\sl2 10=some (.int .i64 k)/\sl2 9=some (.bool kn)/\(kn=true->(⟨true,n.name,xs,n.sort⟩:Use)∈fs) /\
     (kn=false->∀j (hj:j < fs.length),j < k->fs[j].name≠n.name)) fs.length rfl ⟨0,false,by simp,by simp,hAv.frame fun d hd=>by simp at hd;subst hd;simp,hAf.frame fun d hd=>by simp at hd;subst hd;simp,by simp[Sj],by simp,by simp,by simp,by simp,by simp⟩ ?_
    rintro m2 sl2 h2 hf2 ⟨k,kn,hm2,hk,Z89,Zzb,Z8a,hc8,h10,h9,hkt,hkf⟩;simp at hf2;replace hkt:=Hide.mk hkt;replace hkf:=Hide.mk hkf;clear hAv hAf Sj Z9g;by_cases Q1:k < fs.length
    .obtain ⟨d,Zc,hd,rfl,hg⟩:=Zzb.pos Q1;simp at hd;subst hd;generalize hvk:fs[k]=v;have hvm:v∈fs:=by rw[<- hvk];exact List.getElem_mem Q1
     have hvP:=(I.get.hf v).1 hvm;have h114:=Zafw true true v.args xs (Nat.lt_trans (Uq.get v hvm) (by decide)) (by omega);generalize hq:(v.args==xs)=q at h114
     ((try simp(disch:=first|exact Zq|fail)[*,Yb,Zo,Y8]);repeat'(first|refine Z8 ?_|refine Z9 ?_|refine Z0 ?_|refine Z1 fun _=>?_|refine Z2 fun _ _=>?_|refine Z3 (fun _=>?_) fun _ _=>?_|refine Z4 fun _=>?_|refine Z5 fun _=>?_|refine Z6 (fun _=>?_) fun _=>?_|refine Z7 (fun _=>?_) fun _=>?_)<;>(try simp(disch:=first|exact Zq|fail)[*,Yb,Zo,Y8]))
     .rename_i e1 e2 e3;refine⟨_,by omega,k+1,rfl,by omega,by omega,?_⟩;obtain⟨vf,vn,va,Qk⟩:=v;rw[e3]at hq;simp at hvP e1 e2 e3 hq;rw[<- e1,<- e2,<- hq,<- hvP.2];exact hvm
     .rename_i e1 e2 e3;refine I.get.bad hlt hu.get hvP.1 e1 ?_;rintro rfl;rw[e3]at hq;simp at hq
     .rename_i e1 _ e2;exact I.get.bad hlt hu.get hvP.1 e1 (by rintro rfl;exact e2 rfl)
     .rename_i e1 e2;refine⟨_,by omega,k+1,rfl,by omega,by omega,hkt.get,fun hk0 j hj hjk=>?_⟩;by_cases e:j=k
      .subst e;rw[hvk];exact e2
      .exact hkf.get hk0 j hj (by omega)
    .cases kn
     .have hno:=hkf.get rfl
      have S4:=I.get.fresh hlt hu.get (fun v hv Qi hnm=>by
       obtain⟨j,hj,rfl⟩:=List.getElem_of_mem ((I.get.hf v).2 ⟨hv,Qi⟩);exact hno j hj (by omega) hnm)
      simp only[if_true]at S4;obtain⟨w',h',hap,Vb,Zgn,Zk⟩:=Zzb.app (dd:=113) (ys:=[Y8 ⟨true,n.name,xs,n.sort⟩]) (T:={k:=.struct [(0,9),(1,22),(2,3)],size:=3,bytes:=48,zero:=[.string {data:=#[]},.slice none 0 0,.int .i64 0]}) (by simp) rfl (by simp;omega) (by decide) (by decide) (by simp);simp only[List.length_cons,List.length_nil]at hap;have Vu:=Zzb.same (n:=3);have Zm9:=Vb.same (n:=3);have Z33:=Z89.frame (h':=h') fun d hd=>Zk _ fun d' hd'=>by simp at hd hd';subst hd;subst hd';simp
      have Xx:∃m,m < t.length - i/\∃i_1:Nat,m=t.length - i_1/\i_1<=t.length/\∃x x_1 x_2,UInv t i_1 x x_1 x_2/\(∀f∈x_2,f.args.length < 2^30)/\(i:Int)+1=i_1/\Acc [69] ⟨H.next,H.next,[]⟩ h' 69 wv (List.map Wi x_1)/\Acc [113] ⟨H.next,H.next,[]⟩ h' 155 w' (List.map Y8 x_2):=
       ⟨_,by omega,i+1,rfl,by omega,_,_,_,S4,(by
        intro f hf;rcases List.mem_append.1 hf with hf | hf
        .exact Uq.get f hf
        .simp at hf;rw[hf];exact Zyv),by omega,Z33,by simpa using Vb⟩
      replace Xx:=Hide.mk Xx;clear hno S4 Vb Zk Z33
      ((try simp(disch:=first|exact Zq|fail)[*,Yb,Zo,Y8]);repeat'(first|refine Z8 ?_|refine Z9 ?_|refine Z0 ?_|refine Z1 fun _=>?_|refine Z2 fun _ _=>?_|refine Z3 (fun _=>?_) fun _ _=>?_|refine Z4 fun _=>?_|refine Z5 fun _=>?_|refine Z6 (fun _=>?_) fun _=>?_|refine Z7 (fun _=>?_) fun _=>?_)<;>(try simp(disch:=first|exact Zq|fail)[*,Yb,Zo,Y8]))
      exact Xx.get
     .have S4:=I.get.known hlt hu.get ((I.get.hf _).1 (hkt.get rfl)).1;replace S4:=Hide.mk S4
      ((try simp(disch:=first|exact Zq|fail)[*,Yb,Zo,Y8]);repeat'(first|refine Z8 ?_|refine Z9 ?_|refine Z0 ?_|refine Z1 fun _=>?_|refine Z2 fun _ _=>?_|refine Z3 (fun _=>?_) fun _ _=>?_|refine Z4 fun _=>?_|refine Z5 fun _=>?_|refine Z6 (fun _=>?_) fun _=>?_|refine Z7 (fun _=>?_) fun _=>?_)<;>(try simp(disch:=first|exact Zq|fail)[*,Yb,Zo,Y8]))
      exact⟨_,by omega,i+1,rfl,by omega,_,_,_,S4.get,Uq.get,by omega,Z89,Zzb⟩
   .replace I:=I.get.other hlt (by rw[hn];exact h4') (by rw[hn];exact h5')
    ((try simp(disch:=first|exact Zq|fail)[*,Yb,Zo]);repeat'(first|refine Z8 ?_|refine Z9 ?_|refine Z0 ?_|refine Z1 fun _=>?_|refine Z2 fun _ _=>?_|refine Z3 (fun _=>?_) fun _ _=>?_|refine Z4 fun _=>?_|refine Z5 fun _=>?_|refine Z6 (fun _=>?_) fun _=>?_|refine Z7 (fun _=>?_) fun _=>?_)<;>(try simp(disch:=first|exact Zq|fail)[*,Yb,Zo]))
    exact⟨_,by omega,i+1,rfl,by omega,P,vs,fs,I,Uq.get,by omega,hAv,hAf⟩
 .have hil:i=t.length:=by omega
  subst hil;replace hs:=Hide.mk hs
  ((try simp(disch:=first|exact Zq|fail)[*,Yb]);repeat'(first|refine Z8 ?_|refine Z9 ?_|refine Z0 ?_|refine Z1 fun _=>?_|refine Z2 fun _ _=>?_|refine Z3 (fun _=>?_) fun _ _=>?_|refine Z4 fun _=>?_|refine Z5 fun _=>?_|refine Z6 (fun _=>?_) fun _=>?_|refine Z7 (fun _=>?_) fun _=>?_)<;>(try simp(disch:=first|exact Zq|fail)[*,Yb]))
  refine Zv [3,4] (fun m2 sl2 h2=>∃k:Nat,m2=vs.length - k/\k<=vs.length/\Acc [69] ⟨H.next,H.next,[]⟩ h2 69 wv (vs.map Wi)/\Acc [113] ⟨H.next,H.next,[]⟩ h2 155 wf (fs.map Y8)/\h2.next=H.next+137/\sl2 11=some (.int .i64 k) /\
   ∀j (hj:j < vs.length),j < k->∀f∈fs,vs[j].name≠f.name) vs.length rfl ⟨0,by simp,by simp,hAv,hAf,Sj,by simp,by simp⟩ ?_
  rintro m2 sl2 h2 hf2 ⟨k,hm2,hk,Z89,Zzb,Z8a,h11,hno⟩;simp at hf2;clear hAv hAf Sj;replace hno:=Hide.mk hno;by_cases Q1:k < vs.length
  .generalize hvk:vs[k]=v;have hvm:v∈vs:=by rw[<- hvk];exact List.getElem_mem Q1
   ((try simp(disch:=first|exact Zq|fail)[*,Yb]);repeat'(first|refine Z8 ?_|refine Z9 ?_|refine Z0 ?_|refine Z1 fun _=>?_|refine Z2 fun _ _=>?_|refine Z3 (fun _=>?_) fun _ _=>?_|refine Z4 fun _=>?_|refine Z5 fun _=>?_|refine Z6 (fun _=>?_) fun _=>?_|refine Z7 (fun _=>?_) fun _=>?_)<;>(try simp(disch:=first|exact Zq|fail)[*,Yb]))
   refine Zv [3,4,11] (fun m3 sl3 h3=>∃l:Nat,m3=fs.length - l/\l<=fs.length/\Acc [69] ⟨H.next,H.next,[]⟩ h3 69 wv (vs.map Wi)/\Acc [113] ⟨H.next,H.next,[]⟩ h3 155 wf (fs.map Y8)/\h3.next=H.next+137/\sl3 12=some (.int .i64 l) /\
    ∀j (hj:j < fs.length),j < l->v.name≠fs[j].name) fs.length rfl ⟨0,by simp,by simp,Z89,Zzb,Z8a,by simp,by simp⟩ ?_
   rintro m3 sl3 h3 hf3 ⟨l,hm3,hl3,hAv3,hAf3,Z79,h12,Zrx⟩;simp at hf3;clear Z89 Zzb Z8a;replace Zrx:=Hide.mk Zrx;by_cases S5:l < fs.length
   .obtain ⟨d,Zc,hd,rfl,hg⟩:=hAv3.pos Q1;obtain⟨d2,Zov,hd2,rfl,hg2⟩:=hAf3.pos S5;simp at hd hd2;subst hd;subst hd2;generalize hfk:fs[l]=f;have hfm:f∈fs:=by rw[<- hfk];exact List.getElem_mem S5
    ((try simp(disch:=first|exact Zq|fail)[*,Yb,Wi,Y8]);repeat'(first|refine Z8 ?_|refine Z9 ?_|refine Z0 ?_|refine Z1 fun _=>?_|refine Z2 fun _ _=>?_|refine Z3 (fun _=>?_) fun _ _=>?_|refine Z4 fun _=>?_|refine Z5 fun _=>?_|refine Z6 (fun _=>?_) fun _=>?_|refine Z7 (fun _=>?_) fun _=>?_)<;>(try simp(disch:=first|exact Zq|fail)[*,Yb,Wi,Y8]))
    .rename_i e;exact I.get.cross hvm hfm e
    .rename_i e1 e2;refine⟨_,by omega,l+1,rfl,by omega,by omega,fun j hj hjk=>?_⟩;by_cases e:j=l
     .subst e;rw[hfk];exact e2
     .exact Zrx.get j hj (by omega)
   . ((try simp(disch:=first|exact Zq|fail)[*,Yb]);repeat'(first|refine Z8 ?_|refine Z9 ?_|refine Z0 ?_|refine Z1 fun _=>?_|refine Z2 fun _ _=>?_|refine Z3 (fun _=>?_) fun _ _=>?_|refine Z4 fun _=>?_|refine Z5 fun _=>?_|refine Z6 (fun _=>?_) fun _=>?_|refine Z7 (fun _=>?_) fun _=>?_)<;>(try simp(disch:=first|exact Zq|fail)[*,Yb]))
     refine⟨_,by omega,k+1,rfl,by omega,by omega,fun j hj hjk f hf=>?_⟩;by_cases e:j=k
     .subst e;rw[hvk];obtain⟨l',hl',rfl⟩:=List.getElem_of_mem hf;exact Zrx.get l' hl' (by omega)
     .exact hno.get j hj (by omega) f hf
  . ((try simp(disch:=first|exact Zq|fail)[*,Yb]);repeat'(first|refine Z8 ?_|refine Z9 ?_|refine Z0 ?_|refine Z1 fun _=>?_|refine Z2 fun _ _=>?_|refine Z3 (fun _=>?_) fun _ _=>?_|refine Z4 fun _=>?_|refine Z5 fun _=>?_|refine Z6 (fun _=>?_) fun _=>?_|refine Z7 (fun _=>?_) fun _=>?_)<;>(try simp(disch:=first|exact Zq|fail)[*,Yb]))
    exact I.get.done fun v hv f hf=>by
     obtain⟨j,hj,rfl⟩:=List.getElem_of_mem hv;exact hno.get j hj (by omega) f hf
theorem Zb5 {p q:List Nd->Option (Tr×List Nd)}(hpq:∀r x,p r=some x->q r=some x):∀ {k:Nat} {r:List Nd} {x:List Tr×List Nd},many p k r=some x->many q k r=some x
 | 0,r,x,h=>h
 |k+1,r,x,h=>by
  simp only[many]at h ⊢;split at h
  .cases h
  .rename_i t1 r1 h1;rw[hpq _ _ h1];simp only;split at h
   .cases h
   .rename_i ts r2 h2;rw[Zb5 hpq h2];exact h
theorem Zag:∀ {d:Nat} {r:List Nd} {x:Tr×List Nd},Zg d r=some x->Zg (d+1) r=some x
 | 0,r,x,h=>by simp[Zg]at h
 |d+1,[],x,h=>by simp[Zg]at h
 |d+1,n::r,x,h=>by
  simp only[Zg]at h;rw[Zg];split at h
  .rename_i hc;rw[if_pos hc];split at h
   .cases h
   .rename_i ks r' h1;rw[Zb5 (fun _ _=>Zag) h1];exact h
  .cases h
theorem Sw {d e:Nat}{r:List Nd}{x:Tr×List Nd}(hde:d<=e)(h:Zg d r=some x):Zg e r=some x:=by
 induction e with
 |zero=>have:d=0:=by omega
        rw[<- this];exact h
 |succ e ih=>
  rcases Nat.lt_or_ge e d with h1 | h1
  .have:d=e+1:=by omega
   rw[<- this];exact h
  .exact Zag (ih h1)
theorem Z0s {p q:List Nd->Option (Tr×List Nd)}(hp:∀r t r',p r=some (t,r')->∀i,i < r.length - r'.length->∃t2 r2,q (r.drop i)=some (t2,r2))(hs:∀r t r',p r=some (t,r')->∃a,a≠[]/\r=a++r'):
  ∀ {k:Nat} {r r':List Nd} {ts:List Tr},many p k r=some (ts,r')->∀i,i < r.length - r'.length->∃t2 r2,q (r.drop i)=some (t2,r2)
 | 0,r,r',ts,h=>by
   simp only[many,Option.some.injEq,Prod.mk.injEq]at h;intro i hi;rw[h.2]at hi;omega
 |k+1,r,r',ts,h=>by
  simp only[many]at h;split at h
  .cases h
  .rename_i t1 r1 h1;split at h
   .cases h
   .rename_i ts2 r2 h2;cases h;intro i hi;rcases Nat.lt_or_ge i (r.length - r1.length) with h3 | h3
    .exact hp _ _ _ h1 i h3
    .obtain ⟨a,_,e⟩:=hs _ _ _ h1;have hl:=congrArg List.length e;simp at hl;obtain⟨t2,r2',h4⟩:=Z0s hp hs h2 (i - a.length) (by omega);refine⟨t2,r2',?_⟩;rw[e,List.drop_append];have:List.drop i a=[]:=by rw[List.drop_eq_nil_iff];omega
     rw[this,List.nil_append];exact h4
theorem Zuw:∀ {d:Nat} {t r:List Nd} {tr:Tr},Zg d t=some (tr,r)->∀i,i < t.length - r.length->∃t2 r2,Zg d (t.drop i)=some (t2,r2)
 | 0,t,r,tr,h=>by simp[Zg]at h
 |d+1,[],r,tr,h=>by simp[Zg]at h
 |d+1,n::t,r,tr,h=>by
  intro i hi;cases i with
  |zero=>exact⟨_,_,h⟩
  |succ i=>
   simp only[Zg]at h;split at h
   .split at h
    .cases h
    .rename_i ks r' h1;cases h;simp only[List.drop_succ_cons]
     obtain⟨t2,r2,h2⟩:=Z0s (fun _ _ _ hh=>Zuw hh) (fun _ _ _ hh=>Xz hh) h1 i (by
      simp only[List.length_cons]at hi;omega)
     exact⟨t2,r2,Zag h2⟩
   .cases h
theorem Zaae {t:List Nd}{tr:Tr}(h:Zg 257 t=some (tr,[])):Zahx t:=by
 intro i hi h5;obtain⟨t2,r2,h2⟩:=Zuw h i (by simpa using hi);rw[List.drop_eq_getElem_cons hi]at h2;have h2':=h2;rw[Zg]at h2';split at h2'
 .rename_i hc;split at h2'
  .cases h2'
  .rename_i ks r3 h3;refine⟨t[i].kids.toNat,ks,r3,?_,Zb5 (fun _ _=>Sw (by omega)) h3⟩;have:=hc;rw[Bool.and_eq_true]at this;have:=this.2;simp[Yz,h5]at this;omega
 .cases h2'
def sortL (t:List Nd):Int:=if 20000 < t.length then 0 else match Zg 257 t with
 |some (tr,[])=>if Yv (Ya t) then Zl tr else 0
 | _=>0
theorem Zzw (b:Bool)(t:List Nd)(hs:∀n∈t,n.Short)(hl:t.length < 2^30):Xq vE 34 [L 58 b (t.map Zo)] (.int .i64 (sortL t)):=by
 have h91:=Zss b t hs hl 257 0 (by omega) (by omega);have h92:=Zalt b t hs hl;unfold To at h91;unfold sortL;by_cases h2:20000 < t.length
 .rw [if_pos h2];clear h91 h92;intro K H;refine Wc Tryz.func34 ?_
  (refine Zm ?_;repeat'(first|(refine Zi fun _=>?_;try simp(disch:=first|exact Zq|fail)[*,Yb,Tryz.f34])|refine Ye ?_|refine Zx ?_|refine Zn ?_ ?_))
 .rw [if_neg h2];replace h91:Xq vE 91 [L 58 b (t.map Zo),.int .i64 0,.int .i64 0] _:=h91;simp only[List.drop_zero]at h91;cases hp:Zg 257 t with
  |none=>
   rw[hp]at h91;clear h92 hp;intro K H;refine Wc Tryz.func34 ?_
   (refine Zm ?_;repeat'(first|(refine Zi fun _=>?_;try simp(disch:=first|exact Zq|fail)[*,Yb,Tryz.f34])|refine Ye ?_|refine Zx ?_|refine Zn ?_ ?_))
  |some x=>
   obtain⟨tr,r⟩:=x;rw[hp]at h91;simp only at h91;cases r with
   |nil=>
    replace h92:=h92 (Zaae hp);generalize Yv (Ya t)=c at *;simp only;clear hp hs;by_cases h0:Zl tr=0
    .have e:(if c=true then Zl tr else 0)=0:=by rw[h0];simp
     rw[e];clear e;intro K H;refine Wc Tryz.func34 ?_
     (refine Zm ?_;repeat'(first|(refine Zi fun _=>?_;try simp(disch:=first|exact Zq|fail)[*,Yb,Tryz.f34])|refine Ye ?_|refine Zx ?_|refine Zn ?_ ?_))
    .cases c
     .intro K H;refine Wc Tryz.func34 ?_
      (refine Zm ?_;repeat'(first|(refine Zi fun _=>?_;try simp(disch:=first|exact Zq|fail)[*,Yb,Tryz.f34])|refine Ye ?_|refine Zx ?_|refine Zn ?_ ?_))
     .intro K H;refine Wc Tryz.func34 ?_
      (refine Zm ?_;repeat'(first|(refine Zi fun _=>?_;try simp(disch:=first|exact Zq|fail)[*,Yb,Tryz.f34])|refine Ye ?_|refine Zx ?_|refine Zn ?_ ?_))
   |cons n r=>
    obtain⟨a,ha,e⟩:=Xz hp;have S5:=congrArg List.length e;simp at S5;have h1:1<=a.length:=List.length_pos_iff.2 ha;clear h92 hp e;simp only;intro K H;refine Wc Tryz.func34 ?_
    (refine Zm ?_;repeat'(first|(refine Zi fun _=>?_;try simp(disch:=first|exact Zq|fail)[*,Yb,Tryz.f34])|refine Ye ?_|refine Zx ?_|refine Zn ?_ ?_))
theorem Zsu (b:Bool)(t:List Nd)(hs:∀n∈t,n.Short)(hl:t.length < 2^30):Xq vE 59 [L 58 b (t.map Zo)] (.bool (decide (0 < sortL t))):=by
 have h:=Zzw b t hs hl;intro K H;refine Wc Tryz.func59 ?_
 (refine Zm ?_;repeat'(first|(refine Zi fun _=>?_;try simp(disch:=first|exact Zq|fail)[*,Yb,Tryz.f59])|refine Ye ?_|refine Zx ?_|refine Zn ?_ ?_))
def Zfl (a b:Int):Int:=if a < b then -1 else if b < a then 1 else 0
def Zwm (a b:Y9):Int:=if ltL a b then -1 else if a==b then 0 else 1
theorem Zcl {a b:Int}:Zfl a b=0↔a=b:=by
 unfold Zfl;split
 .omega
 .split<;>omega
theorem Zqs {a b:Y9}:Zwm a b=0->a=b:=by
 unfold Zwm;split
 .simp
 .split
  .rename_i h;intro _;simpa using h
  .simp
theorem Zacv (a:Y9):ltL a a=false:=by
 induction a with
 |nil=>rfl
 |cons c a ih=>
  have:c.blt c=false:=by rw[<- Bool.not_eq_true];simp
  simp[ltL,ih,this]
theorem Z4y (a:Y9):Zwm a a=0:=by simp[Zwm,Zacv]
theorem Zs0 (a b:Int):Xq vE 115 [.int .i64 a,.int .i64 b] (.int .i64 (Zfl a b)):=by
 intro K H;refine Wc Tryz.func115 ?_
 (refine Zm ?_;repeat'(first|(refine Zi fun _=>?_;try simp(disch:=first|exact Zq|fail)[*,Yb,Tryz.f115])|refine Ye ?_|refine Zx ?_|refine Zn ?_ ?_))
 all_goals simp[Zfl, *]
 all_goals omega
theorem Zafv (a b:Y9):Xq vE 116 [.str a,.str b] (.int .i64 (Zwm a b)):=by
 intro K H;refine Wc Tryz.func116 ?_
 (refine Zm ?_;repeat'(first|(refine Zi fun _=>?_;try simp(disch:=first|exact Zq|fail)[*,Yb,Tryz.f116])|refine Ye ?_|refine Zx ?_|refine Zn ?_ ?_))
 all_goals simp_all[Zwm]
def S7:List Int->Int
 | []=>0
 |c::r=>if c=0 then S7 r else c
def Zn8 (x y:Nd):List Int:=[Zfl x.op y.op,Zfl x.sort y.sort,Zwm x.name y.name,Zwm x.num y.num,Zfl x.kids y.kids]
def Zgt:List Nd->List Nd->Int
 |x::a,y::b=>if S7 (Zn8 x y)=0 then Zgt a b else S7 (Zn8 x y)
 |a,b=>Zfl a.length b.length
theorem Zih {l:List Int}:S7 l=0↔∀c∈l,c=0:=by
 induction l with
 |nil=>simp[S7]
 |cons c r ih=>
  simp only[S7,List.mem_cons,forall_eq_or_imp];split
  .rw [ih];simp[*]
  .simp [*]
theorem Zn7 {x y:Nd}:S7 (Zn8 x y)=0↔x=y:=by
 rw[Zih];constructor
 .intro h;simp[Zn8]at h;obtain⟨h1,h2,h3,h4,h5⟩:=h;cases x;cases y;simp at *;exact⟨Zcl.1 h1,Zcl.1 h2,Zqs h3,Zqs h4,Zcl.1 h5⟩
 .rintro rfl;simp[Zn8,Zfl,Z4y]
theorem Zqt:∀ {a b:List Nd},Zgt a b=0↔a=b
 | [],[]=>by simp[Zgt,Zfl]
 | [],y::b=>by
   simp only[Zgt];rw[Zcl];simp;omega
 |x::a,[]=>by
  simp only[Zgt];rw[Zcl];simp;omega
 |x::a,y::b=>by
  simp only[Zgt];split
  .rename_i h;rw[Zqt,Zn7.1 h];simp
  .rename_i h;constructor
   .intro e;exact absurd e h
   .intro e;cases e;exact absurd (Zn7.2 rfl) h
theorem Zzh {l:List Int}{k:Nat}(hk:k < l.length)(h0:∀j (hj:j < l.length),j < k->l[j]=0)(h1:l[k]≠0):S7 l=l[k]:=by
 induction l generalizing k with
 |nil=>simp at hk
 |cons c r ih=>
  cases k with
  |zero=>simp at h1;simp[S7,h1]
  |succ k=>
   have hc:=h0 0 (by simp) (by omega);simp at hc;simp only[S7,hc,if_true];simp only[List.getElem_cons_succ]at h1 ⊢;exact ih (by simpa using hk) (fun j hj hjk=>by have:=h0 (j+1) (by simpa using hj) (by omega);simpa using this) h1
set_option maxHeartbeats 2000000 in
theorem Zalz (b1 b2:Bool)(x y:List Nd)(hx:x.length < 2^30)(hy:y.length < 2^30):Xq vE 68 [L 58 b1 (x.map Zo),L 58 b2 (y.map Zo)] (.int .i64 (Zgt x y)):=by
 intro K H;refine Wc Tryz.func68 ?_
 (refine Zm ?_;repeat'(first|(refine Zi fun _=>?_;try simp(disch:=first|exact Zq|fail)[*,Yb,Tryz.f68])|refine Ye ?_|refine Zx ?_|refine Zn ?_ ?_))
 refine Zv [0,1] (fun n sl h=>∃i:Nat,n=x.length - i/\i<=x.length/\i<=y.length/\sl 5=some (.int .i64 i)/\Zgt x y=Zgt (x.drop i) (y.drop i)) x.length rfl ⟨0,by simp⟩ ?_;rintro n sl h hf ⟨i,hn',hi,hi2,h5,hd⟩;simp at hf;by_cases hlt:i < x.length
 .by_cases Zng:i < y.length
  .rw [List.drop_eq_getElem_cons hlt,List.drop_eq_getElem_cons Zng]at hd;generalize hxi:x[i]=p at *;generalize hyi:y[i]=q at *;simp only[Zgt]at hd;replace hd:=Hide.mk hd;generalize hcs:Zn8 p q=cs at hd;have hcl:cs.length=5:=by rw[<- hcs];rfl
   unfold Zn8 at hcs
   (refine Zm ?_;repeat'(first|(refine Zi fun _=>?_;try simp(disch:=first|exact Zq|fail)[*,Yb,Zo,Zs0,Zafv])|refine Ye ?_|refine Zx ?_|refine Zn ?_ ?_))
   generalize hv8:h.stamp (H.next+8)=v8;refine Zv [0,1,5,8] (fun m2 sl2 h2=>∃k:Nat,m2=5 - k/\k<=5/\sl2 9=some (.int .i64 k)/\h2.get (H.next+8)=some (v8,.cells (cs.map (.int .i64)))/\∀j (hj:j < cs.length),j < k->cs[j]=0) 5 rfl ⟨0,by simp,by simp,by simp,by simp[<- hcs],by simp⟩ ?_;rintro m2 sl2 h2 hf2 ⟨k,hm2,hk,h9,hg,hz⟩;simp at hf2;clear hcs;replace hz:=Hide.mk hz;by_cases hk5:k < 5
   .have hkc:k < cs.length:=by omega
    generalize hck:cs[k]=c
    have hta:List.take 1 (List.drop k (cs.map (PV.int .i64)))=[PV.int .i64 c]:=by
     rw[List.drop_eq_getElem_cons (by simpa using hkc),List.getElem_map,hck];rfl
    have hk4:k<=4:=by omega
    (refine Zm ?_;repeat'(first|(refine Zi fun _=>?_;try simp(disch:=first|exact Zq|fail)[*,Yb])|refine Ye ?_|refine Zx ?_|refine Zn ?_ ?_))
    .rename_i e;refine⟨_,by omega,k+1,rfl,by omega,by omega,fun j hj hjk=>?_⟩;by_cases e':j=k
     .subst e';rw[hck];exact e
     .exact hz.get j (by omega) (by omega)
    .rename_i e;have:=Zzh hkc (fun j hj hjk=>hz.get j hj hjk) (by rw[hck];exact e);rw[hck]at this;rw[hd.get,this,if_neg e]
   .have hz0:S7 cs=0:=Zih.2 fun c hc=>by
     obtain⟨j,hj,rfl⟩:=List.getElem_of_mem hc;exact hz.get j hj (by omega)
    (refine Zm ?_;repeat'(first|(refine Zi fun _=>?_;try simp(disch:=first|exact Zq|fail)[*,Yb])|refine Ye ?_|refine Zx ?_|refine Zn ?_ ?_))
    exact⟨_,by omega,i+1,rfl,by omega,by omega,by omega,by rw[hd.get,if_pos hz0]⟩
  .have e:y.drop i=[]:=by simp;omega
   rw[e]at hd;have hlen:=Zs0 x.length y.length
   have e2:Zgt x y=Zfl x.length y.length:=by
    rw[hd];have:Zgt (x.drop i) []=Zfl (x.drop i).length 0:=by cases x.drop i<;>rfl
    rw[this];simp only[List.length_drop,Zfl]
    repeat' split
    all_goals omega
   rw[e2]at *;clear hd e
   (refine Zm ?_;repeat'(first|(refine Zi fun _=>?_;try simp(disch:=first|exact Zq|fail)[*,Yb])|refine Ye ?_|refine Zx ?_|refine Zn ?_ ?_))
 .have e:x.drop i=[]:=by simp;omega
  rw[e]at hd;have hlen:=Zs0 x.length y.length
  have e2:Zgt x y=Zfl x.length y.length:=by
   rw[hd];have:Zgt [] (y.drop i)=Zfl 0 (y.drop i).length:=by cases y.drop i<;>rfl
   rw[this];simp only[List.length_drop,Zfl]
   repeat' split
   all_goals omega
  rw[e2]at *;clear hd e
  (refine Zm ?_;repeat'(first|(refine Zi fun _=>?_;try simp(disch:=first|exact Zq|fail)[*,Yb])|refine Ye ?_|refine Zx ?_|refine Zn ?_ ?_))
theorem Zzx (b1 b2:Bool)(x y:List Nd)(hx:x.length < 2^30)(hy:y.length < 2^30):Xq vE 18 [L 58 b1 (x.map Zo),L 58 b2 (y.map Zo)] (.bool (decide (x=y))):=by
 have h:=Zalz b1 b2 x y hx hy
 have e:(Zgt x y==0)=decide (x=y):=by
  rw[Bool.eq_iff_iff];simp[Zqt]
 rw[<- e];clear e;intro K H;refine Wc Tryz.func18 ?_
 (refine Zm ?_;repeat'(first|(refine Zi fun _=>?_;try simp(disch:=first|exact Zq|fail)[*,Yb,Tryz.f18])|refine Ye ?_|refine Zx ?_|refine Zn ?_ ?_))
abbrev encK (k:Bool×List Nd):PV:=L 58 k.1 (k.2.map Zo)
def Xh (n:Nd)(ks:List (List Nd)):List Nd:={n with kids:=(ks.length:Int)}::ks.flatten
theorem Zsf (l:List (List Nd))(i:Nat)(h:i < l.length):(l.take (i+1)).flatten=(l.take i).flatten++l[i]:=by
 rw[List.take_add_one,List.flatten_append,List.getElem?_eq_getElem h];simp
set_option maxHeartbeats 1000000 in
theorem Zal3 (b:Bool)(n:Nd)(ks:List (Bool×List Nd))(hk:ks.length < 2^20)(hl:((ks.map (·.2)).flatten).length < 2^29):Xq vE 47 [Zo n,L 23 b (ks.map encK)] (L 58 true ((Xh n (ks.map (·.2))).map Zo)):=by
 unfold Xh;rw[List.length_map];generalize hn0:({n with kids:=(ks.length:Int)}:Nd)=n0;have hnn:n0.op=n.op/\n0.sort=n.sort/\n0.name=n.name/\n0.num=n.num/\n0.kids=(ks.length:Int):=by rw[<- hn0];simp
 obtain⟨e1,e2,e3,e4,e5⟩:=hnn;intro K H;refine Wc Tryz.func47 ?_
 (refine Zm ?_;repeat'(first|(refine Zi fun _=>?_;try simp(disch:=first|exact Zq|fail)[*,Yb,Tryz.f47,Zo])|refine Ye ?_|refine Zx ?_|refine Zn ?_ ?_))
 generalize hM:ks.map (·.2)=M at *;have hMl:M.length=ks.length:=by rw[<- hM];simp
 have hMi:∀i (h:i < ks.length) (h2:i < M.length),ks[i].2=M[i]:=fun i h h2=>by subst hM;simp
 refine Zv [1] (fun m sl h=>∃(i:Nat) (w:PV),m=ks.length - i/\i<=ks.length/\sl 6=some (.int .i64 i)/\sl 5=some w/\Acc [11,23] ⟨H.next,H.next,[]⟩ h 58 w ((n0::(M.take i).flatten).map Zo)) ks.length rfl ⟨0,.own (H.next+11) (H.stamp (H.next+11)) 58 0 1,by simp,by simp,by simp,by simp,Or.inr ⟨11,_,by simp,by simp,rfl,by simp[Zo, *]⟩⟩ ?_;rintro m sl h hf ⟨i,w,hm',hi,h6,h5,hA⟩;simp at hf
 have hle:(M.take i).flatten.length<=M.flatten.length:=by
  conv=>rhs;rw[<- List.take_append_drop i M]
  rw[List.flatten_append,List.length_append];omega
 by_cases hlt:i < ks.length
 .have hlM:i < M.length:=by omega
  have Zyu:(M.take (i+1)).flatten.length<=M.flatten.length:=by
   conv=>rhs;rw[<- List.take_append_drop (i+1) M]
   rw[List.flatten_append,List.length_append];omega
  have Uq:=Zsf M i hlM;rw[Uq,List.length_append]at Zyu;have hki:=hMi i hlt hlM;generalize hkk:ks[i]=kk at *;obtain⟨kb,kl⟩:=kk;simp only at hki;subst hki;obtain⟨w',h',hap,Vb,Zgn,Zk⟩:=hA.app' (dd:=23) (ys:=M[i].map Zo) (T:={k:=.struct [(0,3),(1,3),(2,9),(3,9),(4,3)],size:=5,bytes:=56,zero:=[.int .i64 0,.int .i64 0,.string {data:=#[]},.string {data:=#[]},.int .i64 0]}) (by simp) rfl (by simp only[List.length_map,List.length_cons];omega) (by decide) (by decide);rw[List.length_map]at hap
  have Xx:Acc [11,23] ⟨H.next,H.next,[]⟩ h' 58 w' ((n0::(M.take (i+1)).flatten).map Zo):=by
   rw[Uq,<- List.cons_append,List.map_append];exact Vb
  replace Xx:=Hide.mk Xx;clear Uq Vb Zk
  (refine Zm ?_;repeat'(first|(refine Zi fun _=>?_;try simp(disch:=first|exact Zq|fail)[*,Yb,-PH.elems])|refine Ye ?_|refine Zx ?_|refine Zn ?_ ?_))
  exact⟨_,by omega,i+1,rfl,by omega,by omega,by simpa using Xx.get⟩
 .have e:M.take i=M:=List.take_of_length_le (by omega);rw[e]at hA;have Uv:=hA.inl;have Zyy:=hA.inlT;rw[Uv]at Zyy;have hot:=hA.ownT;clear e hA Uv hM hMi hle
  (refine Zm ?_;repeat'(first|(refine Zi fun _=>?_;try simp(disch:=first|exact Zq|fail)[*,Yb])|refine Ye ?_|refine Zx ?_|refine Zn ?_ ?_))
  exact hot
abbrev Zbz (x:List Nd×Int):PV:=.tuple [L 58 true (x.1.map Zo),.int .i64 x.2]
end Go.Proofs.YtabcdhcpilpojaaGreatDoor
end
