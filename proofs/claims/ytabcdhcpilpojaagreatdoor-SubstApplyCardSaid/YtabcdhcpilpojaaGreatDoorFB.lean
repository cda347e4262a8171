/- Nodes of terms, as the reference looks at them. -/
import Derived.Test.YtabcdhcpilpojaaGreatDoorFA
import Derived.Test.YtabcdhcpilpojaaGreatDoorPD
set_option linter.unusedSimpArgs false
set_option linter.unusedVariables false
section
set_option maxRecDepth 20000
namespace Go.Proofs.YtabcdhcpilpojaaGreatDoor
open Go Go.Pure
open Go.Virt (Ex Ctx Ty TK)
structure Nd where
 op:Int
 sort:Int
 name:Yt
 num:Yt
 kids:Int
 deriving DecidableEq
abbrev Yg (n:Nd):PV:=.agg [.int .i64 n.op,.int .i64 n.sort,.str n.name,.str n.num,.int .i64 n.kids]
def Nd.Short (n:Nd):Prop:=n.name.length<=2^19/\n.num.length<=2^19
def Ze1 (s:Int):Bool:=decide (1<=s)&&decide (s<=4)
def Vp (s:Int):Bool:=s==2||s==3
def Wh (op sort:Int)(name num:Yt):Bool:=
 if op=3 then name==[]&&((sort==2&&Ui num)||(sort==3&&Zae num))
 else if op=4\/op=5 then num==[]&&Uq name&&Ze1 sort
 else if op=16\/op=17 then sort==0&&name==[]&&Ui num&&decide (0 < Zdv num)
 else decide (1<=op)&&decide (op<=20)&&sort==0&&name==[]&&num==[]
def Y7 (op n:Int):Bool:=
 if op=1\/op=2\/op=3\/op=4 then n==0
 else if op=5 then decide (1<=n)&&decide (n<=40)
 else if op=6\/op=16\/op=17\/op=20 then n==1
 else if op=7\/op=8 then decide (0<=n)
 else if op=10\/op=19 then n==3
 else if op=14 then decide (1<=n)
 else n==2
def Vo (s:List Int)(x out:Int):Int:=if s.all (·==x) then out else 0
def atI (s:List Int)(i:Nat):Int:=s.getD i 0
theorem Zadd {s:List Int}{i:Nat}(h:i < s.length):s[i]=atI s i:=by simp[atI,List.getElem?_eq_getElem h]
def W2 (op sort first:Int)(s:List Int):Int:=
 if op=1\/op=2 then 1
 else if op=3\/op=4\/op=5 then sort
 else if op=6\/op=7\/op=8\/op=9 then Vo s 1 1
 else if op=10 then (if atI s 0=1/\atI s 1=atI s 2 then atI s 1 else 0)
 else if op=11 then Vo s (atI s 0) 1
 else if op=12\/op=13 then (if Vp (atI s 0) then Vo s (atI s 0) 1 else 0)
 else if op=14 then (if Vp (atI s 0) then Vo s (atI s 0) (atI s 0) else 0)
 else if op=15 then (if first=3 then Vo s (atI s 0) (atI s 0) else 0)
 else if op=16\/op=17 then Vo s 2 2
 else if op=20 then Vo s 2 4
 else if op=18 then (if atI s 0=4/\atI s 1=2 then 2 else 0)
 else if op=19 then (if atI s 0=4/\atI s 1=2/\atI s 2=2 then 4 else 0)
 else 0
theorem Zad4 (s:Int):Xw vE 158 [.int .i64 s] (.bool (Vp s)):=by
 intro K H;refine Zd (fn:=Tryz.f158) rfl Tryz.func158 rfl rfl (by simp) (by simp) ?_ (by simp[*])
 (refine Zm ?_;repeat'(first|(refine Zi fun _=>?_;try simp(disch:=first|exact Zq|fail)[*,Zz,Tryz.f158])|refine Yb ?_|refine Yc ?_|refine Yd ?_|refine Zt ?_|refine Zf ?_|refine Zb ?_ ?_))
 all_goals simp[Vp, *]
theorem Zad6 (s:Int):Xw vE 156 [.int .i64 s] (.bool (Ze1 s)):=by
 intro K H;refine Zd (fn:=Tryz.f156) rfl Tryz.func156 rfl rfl (by simp) (by simp) ?_ (by simp[*])
 (refine Zm ?_;repeat'(first|(refine Zi fun _=>?_;try simp(disch:=first|exact Zq|fail)[*,Zz,Tryz.f156])|refine Yb ?_|refine Yc ?_|refine Yd ?_|refine Zt ?_|refine Zf ?_|refine Zb ?_ ?_))
 all_goals simp[Ze1, *]
theorem Z04 (op sort kids:Int)(name num:Yt)(h1:name.length<=2^19)(h2:num.length<=2^19):Xw vE 129 [.agg [.int .i64 op,.int .i64 sort,.str name,.str num,.int .i64 kids]] (.bool (Wh op sort name num)):=by
 have a1:=Zc5 num h2;have a2:=Z06 num h2;have a3:=Zad8 num h2;have a4:=Z9e name (by omega);have a5:=Zad6 sort;intro K H;refine Zd (fn:=Tryz.f129) rfl Tryz.func129 rfl rfl (by simp) (by simp) ?_ (by simp[*])
 (refine Zm ?_;repeat'(first|(refine Zi fun _=>?_;try simp(disch:=first|exact Zq|fail)[*,Zz,Tryz.f129])|refine Yb ?_|refine Yc ?_|refine Yd ?_|refine Zt ?_|refine Zf ?_|refine Zb ?_ ?_))
 all_goals simp_all[Wh]
 all_goals omega
theorem Z03 (op n:Int):Xw vE 130 [.int .i64 op,.int .i64 n] (.bool (Y7 op n)):=by
 intro K H;refine Zd (fn:=Tryz.f130) rfl Tryz.func130 rfl rfl (by simp) (by simp) ?_ (by simp[*])
 (refine Zm ?_;repeat'(first|(refine Zi fun _=>?_;try simp(disch:=first|exact Zq|fail)[*,Zz,Tryz.f130])|refine Yb ?_|refine Yc ?_|refine Yd ?_|refine Zt ?_|refine Zf ?_|refine Zb ?_ ?_))
 all_goals simp_all[Y7]
 all_goals omega
theorem Zad5 (b:Bool)(s:List Int)(x out:Int)(hn:s.length < 2^62):Xw vE 157 [L 3 b (s.map (.int .i64)),.int .i64 x,.int .i64 out] (.int .i64 (Vo s x out)):=by
 intro K H;refine Zd (fn:=Tryz.f157) rfl Tryz.func157 rfl rfl (by simp) (by simp) ?_ (by simp[*])
 (refine Zm ?_;repeat'(first|(refine Zi fun _=>?_;try simp(disch:=first|exact Zq|fail)[*,Zz,Tryz.f157])|refine Yb ?_|refine Yc ?_|refine Yd ?_|refine Zt ?_|refine Zf ?_|refine Zb ?_ ?_))
 refine Zn [0,1,2] (fun n sl h=>∃i:Nat,n=s.length - i/\i<=s.length/\sl 7=some (.int .i64 i)/\∀j (hj:j < s.length),j < i->s[j]=x) s.length rfl ⟨0,by simp⟩ ?_;rintro n sl h hf ⟨i,hn',hi,h7,hd⟩;simp at hf;replace hd:=Hide.mk hd;by_cases hlt:i < s.length
 . (refine Zm ?_;repeat'(first|(refine Zi fun _=>?_;try simp(disch:=first|exact Zq|fail)[*,Zz])|refine Yb ?_|refine Yc ?_|refine Yd ?_|refine Zt ?_|refine Zf ?_|refine Zb ?_ ?_))
   .rename_i e;refine⟨_,by omega,i+1,rfl,by omega,rfl,fun j hj hji=>?_⟩;by_cases e':j=i
    .subst e';exact e
    .exact hd.get j hj (by omega)
   .rename_i _ e
    have:s.all (·==x)=false:=by
     rw[<- Bool.not_eq_true,List.all_eq_true];intro hh;exact e (by simpa using hh s[i] (List.getElem_mem hlt))
    simp[Vo,this]
 . (refine Zm ?_;repeat'(first|(refine Zi fun _=>?_;try simp(disch:=first|exact Zq|fail)[*,Zz])|refine Yb ?_|refine Yc ?_|refine Yd ?_|refine Zt ?_|refine Zf ?_|refine Zb ?_ ?_))
   have:s.all (·==x)=true:=by
    rw[List.all_eq_true];intro c hc;obtain⟨j,hj,rfl⟩:=List.getElem_of_mem hc;simpa using hd.get j hj (by omega)
   simp[Vo,this]
set_option maxHeartbeats 2000000 in
theorem Zaeb (b:Bool)(op sort kids first:Int)(name num:Yt)(s:List Int)(hs:Y7 op s.length=true)(hn:s.length < 2^62):
  Xw vE 131 [.agg [.int .i64 op,.int .i64 sort,.str name,.str num,.int .i64 kids],.int .i64 first,L 3 b (s.map (.int .i64))] (.int .i64 (W2 op sort first s)):=by
 have h157:=fun x out=>Zad5 b s x out hn
 have f3:op=10\/op=19->s.length=3:=by
  rintro (rfl | rfl)<;>simp[Y7]at hs<;>omega
 have f2:op=11\/op=12\/op=13\/op=15\/op=18->s.length=2:=by
  rintro (rfl | rfl | rfl | rfl | rfl)<;>simp[Y7]at hs<;>omega
 have f1:op=14->1<=s.length:=by
  rintro rfl;simp[Y7]at hs;omega
 have hg:∀i (h:i < s.length),s[i]=atI s i:=fun i h=>Zadd h
 clear hs;intro K H;refine Zd (fn:=Tryz.f131) rfl Tryz.func131 rfl rfl (by simp) (by simp) ?_ (by simp[*])
 (refine Zm ?_;repeat'(first|(refine Zi fun _=>?_;try simp(disch:=first|exact Zq|fail)[*,Zz,Tryz.f131,Zad4])|refine Yb ?_|refine Yc ?_|refine Yd ?_|refine Zt ?_|refine Zf ?_|refine Zb ?_ ?_))
 all_goals simp[W2, *]
inductive Tr where
 |mk (op sort:Int) (name num:Yt) (ks:List Tr)
def Tr.op:Tr->Int | .mk op _ _ _ _=>op
def Vd:List Tr->Int
 | []=>0
 |t::_=>t.op
mutual
def Ye:Tr->Int
 | .mk op sort _ _ ks=>if (Yu ks).all (fun s=>decide (0 < s)) then W2 op sort (Vd ks) (Yu ks) else 0
def Yu:List Tr->List Int
 | []=>[]
 |k::r=>Ye k::Yu r
end
mutual
def flat:Tr->List Nd
 | .mk op sort name num ks=>⟨op,sort,name,num,(ks.length:Int)⟩::Tp ks
def Tp:List Tr->List Nd
 | []=>[]
 |k::r=>flat k++Tp r
end
theorem Tm (ks:List Tr):(Yu ks).length=ks.length:=by
 induction ks with
 |nil=>rfl
 |cons k r ih=>simp[Yu,ih]
theorem Rv (a b:List Tr):Yu (a++b)=Yu a++Yu b:=by
 induction a with
 |nil=>rfl
 |cons k r ih=>simp[Yu,ih]
def many (p:List Nd->Option (Tr×List Nd)):Nat->List Nd->Option (List Tr×List Nd)
 | 0,r=>some ([],r)
 |k+1,r=>match p r with
  |none=>none
  |some (t,r')=>match many p k r' with
   |none=>none
   |some (ts,r'')=>some (t::ts,r'')
def Zh:Nat->List Nd->Option (Tr×List Nd)
 | 0,_=>none
 | _+1,[]=>none
 |d+1,n::r=>if Wh n.op n.sort n.name n.num&&Y7 n.op n.kids then (match many (Zh d) n.kids.toNat r with
  |none=>none
  |some (ks,r')=>some (.mk n.op n.sort n.name n.num ks,r')) else none
theorem Zd6 {p:List Nd->Option (Tr×List Nd)}:∀ {k:Nat} {r r':List Nd} {ts:List Tr},many p k r=some (ts,r')->ts.length=k
 | 0,r,r',ts,h=>by simp only[many,Option.some.injEq,Prod.mk.injEq]at h;rw[<- h.1];rfl
 |k+1,r,r',ts,h=>by
  simp only[many]at h;split at h
  .cases h
  .split at h
   .cases h
   .rename_i t1 r1 _ ts2 r2 h2;cases h;simp[Zd6 h2]
theorem Qa {p:List Nd->Option (Tr×List Nd)}(hp:∀r t r',p r=some (t,r')->∃a,a≠[]/\r=a++r'):∀ {k:Nat} {r r':List Nd} {ts:List Tr},many p k r=some (ts,r')->∃a,r=a++r'/\k<=a.length
 | 0,r,r',ts,h=>by simp only[many,Option.some.injEq,Prod.mk.injEq]at h;exact⟨[],by rw[h.2];rfl,Nat.zero_le _⟩
 |k+1,r,r',ts,h=>by
  simp only[many]at h;split at h
  .cases h
  .split at h
   .cases h
   .rename_i t1 r1 h1 _ ts2 r2 h2;cases h;obtain⟨a,ha,rfl⟩:=hp _ _ _ h1;obtain⟨b,rfl,hb⟩:=Qa hp h2;refine⟨a++b,by simp,?_⟩;have:1<=a.length:=List.length_pos_iff.2 ha;simp;omega
theorem X5:∀ {d:Nat} {r r':List Nd} {t:Tr},Zh d r=some (t,r')->∃a,a≠[]/\r=a++r'
 | 0,r,r',t,h=>by simp[Zh]at h
 |d+1,[],r',t,h=>by simp[Zh]at h
 |d+1,n::r,r',t,h=>by
  simp only[Zh]at h;split at h
  .split at h
   .cases h
   .rename_i ks r1 h1;cases h;obtain⟨a,rfl,_⟩:=Qa (fun _ _ _ hh=>X5 hh) h1;exact⟨n::a,by simp,rfl⟩
  .cases h
def Sq (t:List Nd)(d i:Nat):PV:=match Zh d (t.drop i) with
 |none=>.tuple [.int .i64 (-1),.int .i64 0]
 |some (tr,r)=>.tuple [.int .i64 ((t.length - r.length:Nat):Int),.int .i64 (Ye tr)]
theorem Z5e {d:Nat}{n:Nd}{r r':List Nd}{tr:Tr}(h:Zh d (n::r)=some (tr,r')):tr.op=n.op:=by
 cases d with
 |zero=>simp[Zh]at h
 |succ d=>
  simp only[Zh]at h;split at h
  .split at h
   .cases h
   .cases h;rfl
  .cases h
theorem Zmd {d k:Nat}{r r':List Nd}{ks:List Tr}(h:many (Zh d) k r=some (ks,r'))(hk:ks≠[]):∃n r0,r=n::r0/\Vd ks=n.op:=by
 cases k with
 |zero=>simp only[many,Option.some.injEq,Prod.mk.injEq]at h;exact absurd h.1.symm hk
 |succ k=>
  cases r with
  |nil=>cases d<;>simp[many,Zh]at h
  |cons n r=>
   simp only[many]at h;split at h
   .cases h
   .rename_i t1 r1 h1;split at h
    .cases h
    .cases h;exact⟨n,r,rfl,Z5e h1⟩
theorem Zl9 {t:List Nd}{d e:Nat}{tr:Tr}{r:List Nd}(he:e<=t.length)(h:Zh d (t.drop e)=some (tr,r)):∃e',e < e'/\e'<=t.length/\r=t.drop e'/\Sq t d e=.tuple [.int .i64 (e':Nat),.int .i64 (Ye tr)]:=by
 obtain⟨a,ha,e1⟩:=X5 h;have h1:=congrArg List.length e1;have h2:1<=a.length:=List.length_pos_iff.2 ha;simp at h1;refine⟨e+a.length,by omega,by omega,?_,?_⟩
 .rw [<- List.drop_drop,e1,List.drop_left]
 .simp only [Sq,h];congr 4;omega
set_option maxHeartbeats 2000000 in
theorem Z89 (b:Bool)(t:List Nd)(hs:∀n∈t,n.Short)(hl:t.length < 2^30):∀(d i:Nat),d<=257->i<=t.length->Xw vE 91 [L 58 b (t.map Yg),.int .i64 i,.int .i64 (257 - d:Int)] (Sq t d i):=by
 have hbl:∀d i m,below m 4 (Sq t d i)=true:=fun d i m=>by unfold Sq;split<;>simp
 intro d
 induction d with
 |zero=>
  intro i _ hi;have e:Sq t 0 i=.tuple [.int .i64 (-1),.int .i64 0]:=rfl;rw[e];intro K H;refine Zd (fn:=Tryz.f91) rfl Tryz.func91 rfl rfl (by simp) (by simp) ?_ (by simp[*]);by_cases hlt:i < t.length
  .have hm:=hs _ (List.getElem_mem hlt);generalize hn:t[i]=n at hm;have h129:=Z04 n.op n.sort n.kids n.name n.num hm.1 hm.2;have h130:=Z03 n.op n.kids
   (refine Zm ?_;repeat'(first|(refine Zi fun _=>?_;try simp(disch:=first|exact Zq|fail)[*,Zz,Tryz.f91,Yg])|refine Yb ?_|refine Yc ?_|refine Yd ?_|refine Zt ?_|refine Zf ?_|refine Zb ?_ ?_))
  . (refine Zm ?_;repeat'(first|(refine Zi fun _=>?_;try simp(disch:=first|exact Zq|fail)[*,Zz,Tryz.f91])|refine Yb ?_|refine Yc ?_|refine Yd ?_|refine Zt ?_|refine Zf ?_|refine Zb ?_ ?_))
 |succ d ih=>
  intro i hd hi;replace hbl:=hbl (d+1) i;by_cases hlt:i < t.length
  .have hm:=hs _ (List.getElem_mem hlt);have hdr:t.drop i=t[i]::t.drop (i+1):=List.drop_eq_getElem_cons hlt;generalize hn:t[i]=n at hm hdr;have h129:=Z04 n.op n.sort n.kids n.name n.num hm.1 hm.2;have h130:=Z03 n.op n.kids;by_cases hok:(Wh n.op n.sort n.name n.num&&Y7 n.op n.kids)=true
   .obtain ⟨hfo,hao⟩:=by simpa using hok
    have hkn:0<=n.kids:=by
     unfold Y7 at hao
     revert hao
     repeat' split
     all_goals simp
     all_goals omega
    obtain⟨N,hK⟩:=Int.eq_ofNat_of_zero_le hkn;rw[hK]at hao h129 h130
    have e:Sq t (d+1) i=match many (Zh d) N (t.drop (i+1)) with
     |none=>.tuple [.int .i64 (-1),.int .i64 0]
     |some (ks,r')=>.tuple [.int .i64 ((t.length - r'.length:Nat):Int),.int .i64 (Ye (.mk n.op n.sort n.name n.num ks))]:=by
     simp only[Sq,hdr,Zh,hK,hfo,hao];simp;cases many (Zh d) N (List.drop (i+1) t)<;>rfl
    clear hkn hok;by_cases hkl:t.length < N
    .have e2:Sq t (d+1) i=.tuple [.int .i64 (-1),.int .i64 0]:=by
      rw[e];cases hmm:many (Zh d) N (t.drop (i+1)) with
      |none=>rfl
      |some q=>
       obtain⟨ks,r'⟩:=q;obtain⟨a,ha,hka⟩:=Qa (fun _ _ _ hh=>X5 hh) hmm;have:=congrArg List.length ha;simp at this;omega
     rw[e2];clear e e2;intro K H;refine Zd (fn:=Tryz.f91) rfl Tryz.func91 rfl rfl (by simp) (by simp) ?_ (by simp[*])
     (refine Zm ?_;repeat'(first|(refine Zi fun _=>?_;try simp(disch:=first|exact Zq|fail)[*,Zz,Tryz.f91,Yg])|refine Yb ?_|refine Yc ?_|refine Yd ?_|refine Zt ?_|refine Zf ?_|refine Zb ?_ ?_))
    .generalize hV:Sq t (d+1) i=V at *
     have ih':∀e,e<=t.length->Xw vE 91 [L 58 b (t.map Yg),.int .i64 e,.int .i64 (257 - ((d+1:Nat):Int)+1)] (Sq t d e):=fun e he=>by
      have:=ih e (by omega) he
      rwa [show (257 - (d:Int))=257 - ((d+1:Nat):Int)+1 by omega]at this
     have hD0:0<=257 - ((d+1:Nat):Int)/\257 - ((d+1:Nat):Int)<=256:=by omega
     generalize 257 - ((d+1:Nat):Int)=D at ih' hD0 ⊢;obtain⟨hD0,hD1⟩:=hD0;replace ih:=Hide.mk ih';replace e:=Hide.mk e;replace hs:=Hide.mk hs;clear hV ih';intro K H;refine Zd (fn:=Tryz.f91) rfl Tryz.func91 rfl rfl (by simp) (by simp) ?_ (by simp[*])
     (refine Zm ?_;repeat'(first|(refine Zi fun _=>?_;try simp(disch:=first|exact Zq|fail)[*,Zz,Tryz.f91,Yg])|refine Yb ?_|refine Yc ?_|refine Yd ?_|refine Zt ?_|refine Zf ?_|refine Zb ?_ ?_))
     refine Zn [0,1,2] (fun m sl h=>∃(k e:Nat) (ks:List Tr) (w:PV),m=N - k/\k<=N/\e<=t.length/\ks.length=k/\sl 11=some (.int .i64 k)/\sl 9=some (.int .i64 e)/\sl 10=some (.bool ((Yu ks).all fun s=>decide (0 < s)))/\sl 8=some w /\
      Acc [83] ⟨H.next,H.next,[]⟩ h 3 w ((Yu ks).map (.int .i64))/\h.next=H.next+104/\many (Zh d) N (t.drop (i+1))=(match many (Zh d) (N - k) (t.drop e) with
       |none=>none
       |some (us,r'')=>some (ks++us,r''))) N rfl ⟨0,i+1,[],.nils,by simp,by simp,by omega,rfl,rfl,by simp,by simp[Yu],by simp,Acc.nil,by simp,by
        simp only[Nat.sub_zero,List.nil_append];cases many (Zh d) N (t.drop (i+1))<;>rfl⟩ ?_
     rintro m sl h hf ⟨k,q,ks,w,hm',hk,hq,Zx3,h11,h9,h10,h8,hA,To,hmy⟩;simp at hf;by_cases hkK:k < N
     .have Rn:many (Zh d) (N - k) (t.drop q)=match Zh d (t.drop q) with
       |none=>none
       |some (t1,r')=>match many (Zh d) (N - (k+1)) r' with
        |none=>none
        |some (ts,r'')=>some (t1::ts,r''):=by
       rw[show N - k=(N - (k+1))+1 by omega];rfl
      have ihq:=ih.get q hq;have hka:k < 1073741824:=by omega
      cases hp:Zh d (t.drop q) with
      |none=>
       have hVV:V=.tuple [.int .i64 (-1),.int .i64 0]:=by rw[e.get,hmy,Rn,hp]
       have hv:Sq t d q=.tuple [.int .i64 (-1),.int .i64 0]:=by simp only[Sq,hp]
       rw[hv]at ihq;clear Rn hmy hp hv
       (refine Zm ?_;repeat'(first|(refine Zi fun _=>?_;try simp(disch:=first|exact Zq|fail)[*,Zz])|refine Yb ?_|refine Yc ?_|refine Yd ?_|refine Zt ?_|refine Zf ?_|refine Zb ?_ ?_))
      |some x=>
       obtain⟨tr,r⟩:=x;obtain⟨q',hq1,hq2,rfl,hv⟩:=Zl9 hq hp;rw[hv]at ihq;simp only[hp]at Rn;replace hmy:=Hide.mk hmy;replace Rn:=Hide.mk Rn;clear hp hv;obtain⟨w',h',Sf,Xv,Q0,Zl⟩:=hA.app (dd:=83) (ys:=[.int .i64 (Ye tr)]) (T:={k:=.int .i64,size:=1,bytes:=8,zero:=[.int .i64 0]}) (by simp) rfl (by simp[Tm];omega) (by decide) (by decide) (by simp);replace Zl:=Hide.mk Zl;replace Xv:=Hide.mk Xv;simp only[List.length_cons,List.length_nil]at Sf;clear hA
       have hfm:many (Zh d) N (List.drop (i+1) t)=match many (Zh d) (N - (k+1)) (List.drop q' t) with
         |none=>none
         |some (us,r'')=>some (ks++[tr]++us,r''):=by
        rw[hmy.get,Rn.get];cases many (Zh d) (N - (k+1)) (List.drop q' t)<;>simp
       have hfA:Acc [83] ⟨H.next,H.next,[]⟩ h' 3 w' ((Yu (ks++[tr])).map (.int .i64)):=by
        simpa[Rv,Yu]using Xv.get
       replace hfm:=Hide.mk hfm;replace hfA:=Hide.mk hfA;clear hmy Rn Xv
       (refine Zm ?_;repeat'(first|(refine Zi fun _=>?_;try simp(disch:=first|exact Zq|fail)[*,Zz])|refine Yb ?_|refine Yc ?_|refine Yd ?_|refine Zt ?_|refine Zf ?_|refine Zb ?_ ?_))
       .rename_i hall;refine⟨N - (k+1),by omega,k+1,rfl,by omega,q',hq2,ks++[tr],by simp;omega,by omega,rfl,?_,hfA.get,hfm.get⟩;rw[Rv,List.all_append,hall];simp[Yu]
       .rename_i hall;refine⟨N - (k+1),by omega,k+1,rfl,by omega,q',hq2,ks++[tr],by simp;omega,by omega,rfl,?_,hfA.get,hfm.get⟩
        have:(Yu (ks++[tr])).all (fun s=>decide (0 < s))=false:=by
         rw[Rv,List.all_append,hall];rfl
        simpa using this
     .have hkN:k=N:=by omega
      subst hkN;simp only[Nat.sub_self,many,List.append_nil]at hmy;have hVV:=e.get;rw[hmy]at hVV;simp only[List.length_drop,show t.length - (t.length - q)=q by omega]at hVV;rcases Bool.eq_false_or_eq_true ((Yu ks).all fun s=>decide (0 < s)) with hall | hall
      .replace hVV:V=.tuple [.int .i64 q,.int .i64 (W2 n.op n.sort (Vd ks) (Yu ks))]:=by
        rw[hVV,Ye,if_pos hall]
       have hl1:=Tm ks;have h131:=Zaeb true n.op n.sort k (Vd ks) n.name n.num (Yu ks) (by rw[hl1,Zx3];exact hao) (by omega);have hc:=hA.call rfl (f:=131) rfl [.agg [.int .i64 n.op,.int .i64 n.sort,.str n.name,.str n.num,.int .i64 k],.int .i64 (Vd ks)] [] h131 rfl rfl rfl;simp only[List.cons_append,List.nil_append]at hc
       have hlw:lenK (.slice 3) w=some (.int .i64 k):=by
        have:=hA.lenK (e:=3)
        rwa [List.length_map,hl1,Zx3]at this
       have Zx1:ks≠[]->i+1 < t.length:=fun hk0=>by
        obtain⟨n1,r0,e1,e2⟩:=Zmd hmy hk0;have:=congrArg List.length e1;simp at this;omega
       have hf1:∀(hk0:i+1 < t.length),ks≠[]->t[i+1].op=Vd ks:=fun hk1 hk0=>by
        obtain⟨n1,r0,e1,e2⟩:=Zmd hmy hk0;rw[List.drop_eq_getElem_cons hk1]at e1;rw[e2,List.head_eq_of_cons_eq e1]
       have hf0:ks=[]->Vd ks=0:=fun hk0=>by rw[hk0];rfl
       by_cases hk0:ks=[]
       .have hf0:=hf0 hk0;have hk00:k=0:=by rw[<- Zx3,hk0];rfl
        rw[hf0]at hc hVV;simp only[hk00,Int.natCast_zero]at hc;clear hmy e hf1 Zx1 h131 hf0;clear hk0
        (refine Zm ?_;repeat'(first|(refine Zi fun _=>?_;try simp(disch:=first|exact Zq|fail)[*,Zz])|refine Yb ?_|refine Yc ?_|refine Yd ?_|refine Zt ?_|refine Zf ?_|refine Zb ?_ ?_))
       .have hf1:=hf1 (Zx1 hk0) hk0;have Zx1:=Zx1 hk0;have hk00:0 < k:=by rw[<- Zx3];exact List.length_pos_iff.2 hk0
        clear hmy e hf0 h131
        (refine Zm ?_;repeat'(first|(refine Zi fun _=>?_;try simp(disch:=first|exact Zq|fail)[*,Zz])|refine Yb ?_|refine Yc ?_|refine Yd ?_|refine Zt ?_|refine Zf ?_|refine Zb ?_ ?_))
      .replace hVV:V=.tuple [.int .i64 q,.int .i64 0]:=by
        rw[hVV,Ye,if_neg (by rw[hall];simp)]
       clear hmy e
       (refine Zm ?_;repeat'(first|(refine Zi fun _=>?_;try simp(disch:=first|exact Zq|fail)[*,Zz])|refine Yb ?_|refine Yc ?_|refine Yd ?_|refine Zt ?_|refine Zf ?_|refine Zb ?_ ?_))
   .have e:Sq t (d+1) i=.tuple [.int .i64 (-1),.int .i64 0]:=by
     simp only[Sq,hdr,Zh,hok];rfl
    rw[e];clear e hdr;rcases Bool.eq_false_or_eq_true (Wh n.op n.sort n.name n.num) with hfo | hfo
    .have hao:Y7 n.op n.kids=false:=by simpa[hfo]using hok
     clear hok;intro K H;refine Zd (fn:=Tryz.f91) rfl Tryz.func91 rfl rfl (by simp) (by simp) ?_ (by simp[*])
     (refine Zm ?_;repeat'(first|(refine Zi fun _=>?_;try simp(disch:=first|exact Zq|fail)[*,Zz,Tryz.f91,Yg])|refine Yb ?_|refine Yc ?_|refine Yd ?_|refine Zt ?_|refine Zf ?_|refine Zb ?_ ?_))
    .clear hok;intro K H;refine Zd (fn:=Tryz.f91) rfl Tryz.func91 rfl rfl (by simp) (by simp) ?_ (by simp[*])
     (refine Zm ?_;repeat'(first|(refine Zi fun _=>?_;try simp(disch:=first|exact Zq|fail)[*,Zz,Tryz.f91,Yg])|refine Yb ?_|refine Yc ?_|refine Yd ?_|refine Zt ?_|refine Zf ?_|refine Zb ?_ ?_))
  .have e:Sq t (d+1) i=.tuple [.int .i64 (-1),.int .i64 0]:=by
    have:t.drop i=[]:=by simp;omega
    simp[Sq,this,Zh]
   rw[e];intro K H;refine Zd (fn:=Tryz.f91) rfl Tryz.func91 rfl rfl (by simp) (by simp) ?_ (by simp[*])
   (refine Zm ?_;repeat'(first|(refine Zi fun _=>?_;try simp(disch:=first|exact Zq|fail)[*,Zz,Tryz.f91])|refine Yb ?_|refine Yc ?_|refine Yd ?_|refine Zt ?_|refine Zf ?_|refine Zb ?_ ?_))
theorem Zaef (b1 b2:Bool)(x y:List Int)(hx:x.length < 2^62)(hy:y.length < 2^62):Xw vE 114 [L 3 b1 (x.map (.int .i64)),L 3 b2 (y.map (.int .i64))] (.bool (x==y)):=by
 by_cases hl:x.length=y.length
 .intro K H;refine Zd (fn:=Tryz.f114) rfl Tryz.func114 rfl rfl (by simp) (by simp) ?_ (by simp[*])
  (refine Zm ?_;repeat'(first|(refine Zi fun _=>?_;try simp(disch:=first|exact Zq|fail)[*,Zz,Tryz.f114])|refine Yb ?_|refine Yc ?_|refine Yd ?_|refine Zt ?_|refine Zf ?_|refine Zb ?_ ?_))
  refine Zn [0,1] (fun n sl h=>∃i:Nat,n=x.length - i/\i<=x.length/\sl 5=some (.int .i64 i)/\∀j (hj:j < x.length) (hk:j < y.length),j < i->x[j]=y[j]) x.length rfl ⟨0,by simp⟩ ?_;rintro n sl h hf ⟨i,hn',hi,h5,hd⟩;simp at hf;replace hd:=Hide.mk hd;by_cases hlt:i < x.length
  .have Zor:i < y.length:=by omega
   clear hl
   (refine Zm ?_;repeat'(first|(refine Zi fun _=>?_;try simp(disch:=first|exact Zq|fail)[*,Zz])|refine Yb ?_|refine Yc ?_|refine Yd ?_|refine Zt ?_|refine Zf ?_|refine Zb ?_ ?_))
   .rename_i e;refine⟨_,by omega,i+1,rfl,by omega,rfl,fun j hj hk hji=>?_⟩;by_cases e':j=i
    .subst e';exact e
    .exact hd.get j hj hk (by omega)
   .rename_i e;rintro rfl;simp at e
  . (refine Zm ?_;repeat'(first|(refine Zi fun _=>?_;try simp(disch:=first|exact Zq|fail)[*,Zz])|refine Yb ?_|refine Yc ?_|refine Yd ?_|refine Zt ?_|refine Zf ?_|refine Zb ?_ ?_))
    have:x=y:=List.ext_getElem hl fun j hj hk=>hd.get j hj hk (by omega)
    simp[this]
 .have:x≠y:=by rintro rfl;exact hl rfl
  have hq:(x==y)=false:=by simp[this]
  intro K H;refine Zd (fn:=Tryz.f114) rfl Tryz.func114 rfl rfl (by simp) (by simp) ?_ (by simp[*])
  (refine Zm ?_;repeat'(first|(refine Zi fun _=>?_;try simp(disch:=first|exact Zq|fail)[*,Zz,Tryz.f114])|refine Yb ?_|refine Yc ?_|refine Yd ?_|refine Zt ?_|refine Zf ?_|refine Zb ?_ ?_))
theorem Zad9 (b:Bool)(t:List Nd)(hs:∀n∈t,n.Short)(hl:t.length < 2^30)(i:Nat)(hi:i < t.length)(ks:List Tr)(r:List Nd)(N:Nat)(hN:t[i].kids=N)(hm:many (Zh 257) N (t.drop (i+1))=some (ks,r)):
  Xw vE 141 [L 58 b (t.map Yg),.int .i64 i] (L 3 true ((Yu ks).map (.int .i64))):=by
 have hlen:=Zd6 hm;generalize hn:t[i]=n at hN
 have hNl:N < t.length:=by
  obtain⟨a,ha,hka⟩:=Qa (fun _ _ _ hh=>X5 hh) hm;have:=congrArg List.length ha;simp at this;omega
 have h91:∀q,q<=t.length->Xw vE 91 [L 58 b (t.map Yg),.int .i64 q,.int .i64 0] (Sq t 257 q):=fun q hq=>Z89 b t hs hl 257 q (by omega) hq
 replace h91:=Hide.mk h91;clear hs;intro K H;refine Zd (fn:=Tryz.f141) rfl Tryz.func141 rfl rfl (by simp) (by simp) ?_ (by simp[*])
 (refine Zm ?_;repeat'(first|(refine Zi fun _=>?_;try simp(disch:=first|exact Zq|fail)[*,Zz,Tryz.f141,Yg])|refine Yb ?_|refine Yc ?_|refine Yd ?_|refine Zt ?_|refine Zf ?_|refine Zb ?_ ?_))
 refine Zn [0,1] (fun m sl h=>∃(k e:Nat) (k1 k2:List Tr) (w:PV),m=N - k/\k<=N/\e<=t.length/\k1.length=k/\ks=k1++k2/\sl 7=some (.int .i64 k)/\sl 6=some (.int .i64 e)/\sl 5=some w /\
      Acc [30] ⟨H.next,H.next,[]⟩ h 3 w ((Yu k1).map (.int .i64))/\h.next=H.next+33/\many (Zh 257) (N - k) (t.drop e)=some (k2,r)) N rfl ⟨0,i+1,[],ks,.nils,by simp,by simp,by omega,rfl,rfl,by simp,by simp[Yu],by simp,Acc.nil,by simp,hm⟩ ?_
 rintro m sl h hf ⟨k,q,k1,k2,w,hm',hk,hq,Zx3,hks,h7,h6,h5,hA,To,hmy⟩;simp at hf;by_cases hkN:k < N
 .have Rn:many (Zh 257) (N - k) (t.drop q)=match Zh 257 (t.drop q) with
   |none=>none
   |some (t1,r')=>match many (Zh 257) (N - (k+1)) r' with
    |none=>none
    |some (ts,r'')=>some (t1::ts,r''):=by
   rw[show N - k=(N - (k+1))+1 by omega];rfl
  rw[hmy]at Rn;have h91q:=h91.get q hq;cases hp:Zh 257 (t.drop q) with
  |none=>rw[hp]at Rn;cases Rn
  |some x=>
   obtain⟨tr,rr⟩:=x;obtain⟨q',hq1,hq2,rfl,hv⟩:=Zl9 hq hp;rw[hv]at h91q;simp only[hp]at Rn;cases hmm:many (Zh 257) (N - (k+1)) (t.drop q') with
   |none=>rw[hmm]at Rn;cases Rn
   |some z=>
    obtain⟨k3,r3⟩:=z;rw[hmm]at Rn;cases Rn;obtain⟨w',h',Sf,Xv,Q0,Zl⟩:=hA.app (dd:=30) (ys:=[.int .i64 (Ye tr)]) (T:={k:=.int .i64,size:=1,bytes:=8,zero:=[.int .i64 0]}) (by simp) rfl (by simp[Tm];omega) (by decide) (by decide) (by simp);simp only[List.length_cons,List.length_nil]at Sf
    have Xn:∃m,m < N - k/\∃x,m=N - x/\x<=N/\∃x_1:Nat,x_1<=t.length/\∃x_2:List Tr,x_2.length=x/\∃x_3,ks=x_2++x_3/\(k:Int)+1=x/\(q':Int)=x_1/\Acc [30] ⟨H.next,H.next,[]⟩ h' 3 w' ((Yu x_2).map (.int .i64))/\many (Zh 257) (N - x) (t.drop x_1)=some (x_3,r):=
     ⟨N - (k+1),by omega,k+1,rfl,by omega,q',hq2,k1++[tr],by simp;omega,k3,by rw[hks];simp,by omega,rfl,by simpa[Rv,Yu]using Xv,hmm⟩
    replace Xn:=Hide.mk Xn;clear Zl Xv hA hp hv hmm hmy hm hks hlen hq1
    (refine Zm ?_;repeat'(first|(refine Zi fun _=>?_;try simp(disch:=first|exact Zq|fail)[*,Zz])|refine Yb ?_|refine Yc ?_|refine Yd ?_|refine Zt ?_|refine Zf ?_|refine Zb ?_ ?_))
    exact Xn.get
 .have hkN:k=N:=by omega
  subst hkN;simp only[Nat.sub_self,many,Option.some.injEq,Prod.mk.injEq]at hmy;rw[<- hmy.1,List.append_nil]at hks;have Wz:=hA.inl;have Zao:=hA.inlT;rw[<- hks]at Wz;rw[Wz]at Zao;clear hmy hm hks;have hot:=hA.ownT
  (refine Zm ?_;repeat'(first|(refine Zi fun _=>?_;try simp(disch:=first|exact Zq|fail)[*,Zz])|refine Yb ?_|refine Yc ?_|refine Yd ?_|refine Zt ?_|refine Zf ?_|refine Zb ?_ ?_))
  exact hot
theorem Z08 (b:Bool)(t:List Nd)(hs:∀n∈t,n.Short)(hl:t.length < 2^30)(i:Nat)(hi:i < t.length)(ks:List Tr)(r:List Nd)(N:Nat)(hN:t[i].kids=N)(hm:many (Zh 257) N (t.drop (i+1))=some (ks,r)):
  Xw vE 113 [L 58 b (t.map Yg),.int .i64 i] (.agg [.str t[i].name,L 3 true ((Yu ks).map (.int .i64)),.int .i64 t[i].sort]):=by
 have h:=Zad9 b t hs hl i hi ks r N hN hm;clear hm hs;intro K H;refine Zd (fn:=Tryz.f113) rfl Tryz.func113 rfl rfl (by simp) (by simp) ?_ (by simp[*])
 (simp(disch:=first|exact Zq|fail)[*,Zz,Tryz.f113,Yg])
 refine Z0 ?_
 (refine Zm ?_;repeat'(first|(refine Zi fun _=>?_;try simp(disch:=first|exact Zq|fail)[*,Zz])|refine Yb ?_|refine Yc ?_|refine Yd ?_|refine Zt ?_|refine Zf ?_|refine Zb ?_ ?_))
structure Use where
 fn:Bool
 name:Yt
 args:List Int
 sort:Int
 deriving DecidableEq
abbrev Xy (u:Use):PV:=.agg [.str u.name,.int .i64 u.sort]
abbrev Y9 (u:Use):PV:=.agg [.str u.name,L 3 true (u.args.map (.int .i64)),.int .i64 u.sort]
def Xe (n:Nd)(r:List Nd):List Use:=
 if n.op=4 then [⟨false,n.name,[],n.sort⟩]
 else if n.op=5 then (match many (Zh 257) n.kids.toNat r with
  |some (ks,_)=>[⟨true,n.name,Yu ks,n.sort⟩]
  |none=>[]) else []
def Zy:List Nd->List Use
 | []=>[]
 |n::r=>Xe n r++Zy r
def Clean (l:List Use):Prop:=∀u∈l,∀v∈l,u.name=v.name->u=v
instance (l:List Use):Decidable (Clean l):=by unfold Clean;infer_instance
def Y6 (l:List Use):Bool:=decide (Clean l)
theorem Zf7 {n:Nd}{r:List Nd}{u:Use}(h:u∈Xe n r)(hf:u.fn=false):u.args=[]:=by
 unfold Xe at h;split at h
 .simp at h;rw[h]
 .split at h
  .split at h
   .simp at h;rw[h]at hf;cases hf
   .cases h
  .cases h
structure UInv (t:List Nd)(i:Nat)(P vs fs:List Use):Prop where
 split:Zy t=P++Zy (t.drop i)
 hv:∀u,u∈vs↔u∈P/\u.fn=false
 hf:∀u,u∈fs↔u∈P/\u.fn=true
 sep:∀u∈P,∀v∈P,u.fn=v.fn->u.name=v.name->u=v
 args:∀u∈P,u.fn=false->u.args=[]
 lv:vs.length<=i
 lf:fs.length<=i
theorem UInv.start (t:List Nd):UInv t 0 [] [] []:=⟨by simp,by simp,by simp,by simp,by simp,by simp,by simp⟩
theorem UInv.next {t:List Nd}{i:Nat}{P vs fs:List Use}(I:UInv t i P vs fs)(hi:i < t.length):Zy t=P++Xe t[i] (t.drop (i+1))++Zy (t.drop (i+1)):=by
 rw[I.split,List.drop_eq_getElem_cons hi,Zy,List.append_assoc]
theorem UInv.other {t:List Nd}{i:Nat}{P vs fs:List Use}(I:UInv t i P vs fs)(hi:i < t.length)(h4:t[i].op≠4)(h5:t[i].op≠5):UInv t (i+1) P vs fs:=by
 refine⟨?_,I.hv,I.hf,I.sep,I.args,by have:=I.lv;omega,by have:=I.lf;omega⟩;rw[I.next hi];simp[Xe,h4,h5]
theorem UInv.known {t:List Nd}{i:Nat}{P vs fs:List Use}{u:Use}(I:UInv t i P vs fs)(hi:i < t.length)(hu:Xe t[i] (t.drop (i+1))=[u])(hm:u∈P):UInv t (i+1) (P++[u]) vs fs:=by
 have hP:∀v,v∈P++[u]↔v∈P:=fun v=>by
  simp only[List.mem_append,List.mem_singleton];exact⟨fun h=>h.elim id fun e=>e ▸ hm,Or.inl⟩
 refine⟨by rw[I.next hi,hu],fun v=>by rw[hP];exact I.hv v,fun v=>by rw[hP];exact I.hf v,fun a ha b hb=>I.sep a ((hP a).1 ha) b ((hP b).1 hb),fun a ha=>I.args a ((hP a).1 ha),by have:=I.lv;omega,by have:=I.lf;omega⟩
theorem UInv.fresh {t:List Nd}{i:Nat}{P vs fs:List Use}{u:Use}(I:UInv t i P vs fs)(hi:i < t.length)(hu:Xe t[i] (t.drop (i+1))=[u])(hn:∀v∈P,v.fn=u.fn->v.name≠u.name):UInv t (i+1) (P++[u]) (if u.fn then vs else vs++[u]) (if u.fn then fs++[u] else fs):=by
 refine⟨by rw[I.next hi,hu],fun v=>?_,fun v=>?_,fun a ha b hb hab Yq=>?_,fun a ha hfa=>?_,?_,?_⟩
 .cases hf:u.fn with
  |true=>
   simp only[if_true,List.mem_append,List.mem_singleton,I.hv];constructor
   .rintro ⟨h1,h2⟩;exact⟨Or.inl h1,h2⟩
   .rintro ⟨h1 | rfl,h2⟩
    .exact ⟨h1,h2⟩
    .rw [hf]at h2;cases h2
  |false=>
   simp only[Bool.false_eq_true,if_false,List.mem_append,List.mem_singleton,I.hv];constructor
   .rintro (⟨h1,h2⟩ | rfl)
    .exact ⟨Or.inl h1,h2⟩
    .exact ⟨Or.inr rfl,hf⟩
   .rintro ⟨h1 | h1,h2⟩
    .exact Or.inl ⟨h1,h2⟩
    .exact Or.inr h1
 .cases hf:u.fn with
  |false=>
   simp only[Bool.false_eq_true,if_false,List.mem_append,List.mem_singleton,I.hf];constructor
   .rintro ⟨h1,h2⟩;exact⟨Or.inl h1,h2⟩
   .rintro ⟨h1 | rfl,h2⟩
    .exact ⟨h1,h2⟩
    .rw [hf]at h2;cases h2
  |true=>
   simp only[if_true,List.mem_append,List.mem_singleton,I.hf];constructor
   .rintro (⟨h1,h2⟩ | rfl)
    .exact ⟨Or.inl h1,h2⟩
    .exact ⟨Or.inr rfl,hf⟩
   .rintro ⟨h1 | h1,h2⟩
    .exact Or.inl ⟨h1,h2⟩
    .exact Or.inr h1
 .simp only [List.mem_append,List.mem_singleton]at ha hb;rcases ha with ha | rfl
  .rcases hb with hb | rfl
   .exact I.sep a ha b hb hab Yq
   .exact absurd Yq (hn a ha hab)
  .rcases hb with hb | rfl
   .exact absurd Yq.symm (hn b hb hab.symm)
   .rfl
 .simp only [List.mem_append,List.mem_singleton]at ha;rcases ha with ha | rfl
  .exact I.args a ha hfa
  .exact Zf7 (n:=t[i]) (r:=t.drop (i+1)) (by rw[hu];simp) hfa
 .have:=I.lv;split<;>simp<;>omega
 .have:=I.lf;split<;>simp<;>omega
theorem UInv.bad {t:List Nd}{i:Nat}{P vs fs:List Use}{u v:Use}(I:UInv t i P vs fs)(hi:i < t.length)(hu:Xe t[i] (t.drop (i+1))=[u])(hm:v∈P)(hn:v.name=u.name)(Yq:v≠u):Y6 (Zy t)=false:=by
 unfold Y6;rw[decide_eq_false_iff_not];intro hc;refine Yq (hc v ?_ u ?_ hn)
 .rw [I.split];exact List.mem_append_left _ hm
 .rw [I.next hi,hu];simp
theorem UInv.done {t:List Nd}{P vs fs:List Use}(I:UInv t t.length P vs fs)(h:∀v∈vs,∀f∈fs,v.name≠f.name):Y6 (Zy t)=true:=by
 unfold Y6;rw[decide_eq_true_iff];have e:Zy t=P:=by rw[I.split];simp[Zy]
 rw[e];intro u hu v hv hn;cases h1:u.fn with
 |true=>
  cases h2:v.fn with
  |true=>exact I.sep u hu v hv (by rw[h1,h2]) hn
  |false=>exact absurd hn.symm (h v ((I.hv v).2 ⟨hv,h2⟩) u ((I.hf u).2 ⟨hu,h1⟩))
 |false=>
  cases h2:v.fn with
  |true=>exact absurd hn (h u ((I.hv u).2 ⟨hu,h1⟩) v ((I.hf v).2 ⟨hv,h2⟩))
  |false=>exact I.sep u hu v hv (by rw[h1,h2]) hn
theorem UInv.cross {t:List Nd}{P vs fs:List Use}{v f:Use}(I:UInv t t.length P vs fs)(hv:v∈vs)(hf:f∈fs)(h:v.name=f.name):Y6 (Zy t)=false:=by
 unfold Y6;rw[decide_eq_false_iff_not];intro hc;have e:Zy t=P:=by rw[I.split];simp[Zy]
 rw[e]at hc;have h1:=(I.hv v).1 hv;have h2:=(I.hf f).1 hf;have:=hc v h1.1 f h2.1 h;rw[this,h2.2]at h1;cases h1.2
def Zagf (t:List Nd):Prop:=∀i (h:i < t.length),t[i].op=5->∃N ks r,t[i].kids=((N:Nat):Int)/\many (Zh 257) N (t.drop (i+1))=some (ks,r)
set_option maxHeartbeats 4000000 in
theorem Zaj4 (b:Bool)(t:List Nd)(hs:∀n∈t,n.Short)(hl:t.length < 2^30)(hw:Zagf t):Xw vE 92 [L 58 b (t.map Yg)] (.bool (Y6 (Zy t))):=by
 intro K H;refine Zd (fn:=Tryz.f92) rfl Tryz.func92 rfl rfl (by simp) (by simp) ?_ (by simp[*])
 ((try simp(disch:=first|exact Zq|fail)[*,Zz,Tryz.f92]);repeat'(first|refine Z8 ?_|refine Z9 ?_|refine Z0 ?_|refine Z1 fun _=>?_|refine Z2 fun _ _=>?_|refine Z3 (fun _=>?_) fun _ _=>?_|refine Z4 fun _=>?_|refine Z5 fun _=>?_|refine Z6 (fun _=>?_) fun _=>?_|refine Z7 (fun _=>?_) fun _=>?_)<;>(try simp(disch:=first|exact Zq|fail)[*,Zz,Tryz.f92]))
 refine Zn [0] (fun m sl h=>∃(i:Nat) (P vs fs:List Use) (wv wf:PV),m=t.length - i/\i<=t.length/\UInv t i P vs fs/\(∀f∈fs,f.args.length < 2^30)/\sl 5=some (.int .i64 i)/\sl 3=some wv/\sl 4=some wf /\
  Acc [69] ⟨H.next,H.next,[]⟩ h 69 wv (vs.map Xy)/\Acc [113] ⟨H.next,H.next,[]⟩ h 155 wf (fs.map Y9)/\h.next=H.next+137) t.length rfl ⟨0,[],[],[],.nils,.nils,by simp,by simp,UInv.start t,by simp,rfl,rfl,rfl,Acc.nil,Acc.nil,by simp⟩ ?_
 rintro m sl h hf ⟨i,P,vs,fs,wv,wf,hm',hi,I,Ul,h5,h3,h4,hAv,hAf,To⟩;simp at hf;have hlv:=I.lv;have hlf:=I.lf;replace I:=Hide.mk I;replace Ul:=Hide.mk Ul
 have lkv:lenK (.slice 69) wv=some (.int .i64 vs.length):=by
  have:=hAv.lenK (e:=69)
  rwa [List.length_map]at this
 have lkf:lenK (.slice 155) wf=some (.int .i64 fs.length):=by
  have:=hAf.lenK (e:=155)
  rwa [List.length_map]at this
 by_cases hlt:i < t.length
 .generalize hn:t[i]=n;by_cases h4':n.op=4
  ·
   have hu:Xe t[i] (t.drop (i+1))=[⟨false,n.name,[],n.sort⟩]:=by rw[hn];simp[Xe,h4']
   replace hu:=Hide.mk hu
   ((try simp(disch:=first|exact Zq|fail)[*,Zz,Yg]);repeat'(first|refine Z8 ?_|refine Z9 ?_|refine Z0 ?_|refine Z1 fun _=>?_|refine Z2 fun _ _=>?_|refine Z3 (fun _=>?_) fun _ _=>?_|refine Z4 fun _=>?_|refine Z5 fun _=>?_|refine Z6 (fun _=>?_) fun _=>?_|refine Z7 (fun _=>?_) fun _=>?_)<;>(try simp(disch:=first|exact Zq|fail)[*,Zz,Yg]))
   refine Zn [0,3,4,5] (fun m2 sl2 h2=>∃(k:Nat) (kn:Bool),m2=vs.length - k/\k<=vs.length/\h2=h/\sl2 7=some (.int .i64 k)/\sl2 6=some (.bool kn)/\(kn=true->∃u∈vs,u.name=n.name/\u.sort=n.sort) /\
    (kn=false->∀j (hj:j < vs.length),j < k->vs[j].name≠n.name)) vs.length rfl ⟨0,false,by simp,by simp,rfl,by simp,by simp,by simp,by simp⟩ ?_
   rintro m2 sl2 h2 hf2 ⟨k,kn,hm2,hk,rfl,h7,h6,hkt,hkf⟩;simp at hf2;replace hkt:=Hide.mk hkt;replace hkf:=Hide.mk hkf;by_cases hkl:k < vs.length
   .obtain ⟨d,Zc,hd,rfl,hg⟩:=hAv.pos hkl;simp at hd;subst hd;generalize hvk:vs[k]=v;have hvm:v∈vs:=by rw[<- hvk];exact List.getElem_mem hkl
    have hvP:=(I.get.hv v).1 hvm
    ((try simp(disch:=first|exact Zq|fail)[*,Zz,Yg,Xy]);repeat'(first|refine Z8 ?_|refine Z9 ?_|refine Z0 ?_|refine Z1 fun _=>?_|refine Z2 fun _ _=>?_|refine Z3 (fun _=>?_) fun _ _=>?_|refine Z4 fun _=>?_|refine Z5 fun _=>?_|refine Z6 (fun _=>?_) fun _=>?_|refine Z7 (fun _=>?_) fun _=>?_)<;>(try simp(disch:=first|exact Zq|fail)[*,Zz,Yg,Xy]))
    .rename_i e1 e2;exact⟨_,by omega,k+1,rfl,by omega,by omega,v,hvm,e1,e2⟩
    .rename_i e1 _ e2;exact I.get.bad hlt hu.get hvP.1 e1 (by rintro rfl;exact e2 rfl)
    .rename_i e1 e2;refine⟨_,by omega,k+1,rfl,by omega,by omega,hkt.get,fun hk0 j hj hjk=>?_⟩;by_cases e:j=k
     .subst e;rw[hvk];exact e2
     .exact hkf.get hk0 j hj (by omega)
   .cases kn
    .have hno:=hkf.get rfl
     have Sz:=I.get.fresh hlt hu.get (fun v hv Rc hnm=>by
      obtain⟨j,hj,rfl⟩:=List.getElem_of_mem ((I.get.hv v).2 ⟨hv,Rc⟩);exact hno j hj (by omega) hnm)
     simp only[Bool.false_eq_true,if_false]at Sz;obtain⟨w',h',Sf,Xv,Q0,Zl⟩:=hAv.app (dd:=69) (ys:=[Xy ⟨false,n.name,[],n.sort⟩]) (T:={k:=.struct [(0,9),(1,3)],size:=2,bytes:=24,zero:=[.string {data:=#[]},.int .i64 0]}) (by simp) rfl (by simp;omega) (by decide) (by decide) (by simp);simp only[List.length_cons,List.length_nil]at Sf;have Ws:=hAv.same (n:=3);have Zcw:=Xv.same (n:=3);have Z2v:=hAf.frame (h':=h') fun d hd=>Zl _ fun d' hd'=>by simp at hd hd';subst hd;subst hd';simp
     have Xn:∃m,m < t.length - i/\∃i_1:Nat,m=t.length - i_1/\i_1<=t.length/\∃x x_1 x_2,UInv t i_1 x x_1 x_2/\(∀f∈x_2,f.args.length < 2^30)/\(i:Int)+1=i_1/\Acc [69] ⟨H.next,H.next,[]⟩ h' 69 w' (List.map Xy x_1)/\Acc [113] ⟨H.next,H.next,[]⟩ h' 155 wf (List.map Y9 x_2):=
      ⟨_,by omega,i+1,rfl,by omega,_,_,_,Sz,Ul.get,by omega,by simpa using Xv,Z2v⟩
     replace Xn:=Hide.mk Xn;clear hno Sz Xv Zl Z2v
     ((try simp(disch:=first|exact Zq|fail)[*,Zz,Yg]);repeat'(first|refine Z8 ?_|refine Z9 ?_|refine Z0 ?_|refine Z1 fun _=>?_|refine Z2 fun _ _=>?_|refine Z3 (fun _=>?_) fun _ _=>?_|refine Z4 fun _=>?_|refine Z5 fun _=>?_|refine Z6 (fun _=>?_) fun _=>?_|refine Z7 (fun _=>?_) fun _=>?_)<;>(try simp(disch:=first|exact Zq|fail)[*,Zz,Yg]))
     exact Xn.get
    .obtain ⟨v,hv,e1,e2⟩:=hkt.get rfl;have hvP:=(I.get.hv v).1 hv;have e3:=I.get.args v hvP.1 hvP.2
     have Sz:=I.get.known hlt hu.get (by
      have:v=⟨false,n.name,[],n.sort⟩:=by
       obtain⟨vf,vn,va,Ql⟩:=v;simp at hvP e1 e2 e3;rw[hvP.2,e1,e2,e3]
      rw[<- this];exact hvP.1)
     replace Sz:=Hide.mk Sz;clear hvP e1 e2 e3 hv
     ((try simp(disch:=first|exact Zq|fail)[*,Zz,Yg,Xy]);repeat'(first|refine Z8 ?_|refine Z9 ?_|refine Z0 ?_|refine Z1 fun _=>?_|refine Z2 fun _ _=>?_|refine Z3 (fun _=>?_) fun _ _=>?_|refine Z4 fun _=>?_|refine Z5 fun _=>?_|refine Z6 (fun _=>?_) fun _=>?_|refine Z7 (fun _=>?_) fun _=>?_)<;>(try simp(disch:=first|exact Zq|fail)[*,Zz,Yg,Xy]))
     exact⟨_,by omega,i+1,rfl,by omega,_,_,_,Sz.get,Ul.get,by omega,hAv,hAf⟩
  .by_cases h5':n.op=5
   ·
    obtain⟨N,ks,r,hk,hm⟩:=hw i hlt (by rw[hn];exact h5');have Z78:=Z08 b t hs hl i hlt ks r N hk hm;rw[hn]at Z78 hk;have hu:Xe t[i] (t.drop (i+1))=[⟨true,n.name,Yu ks,n.sort⟩]:=by rw[hn];simp[Xe,h5',hk,hm]
    replace hu:=Hide.mk hu
    have Zx3:(Yu ks).length < 2^30:=by
     rw[Tm];have h1:=Zd6 hm;obtain⟨a,ha,hka⟩:=Qa (fun _ _ _ hh=>X5 hh) hm;have:=congrArg List.length ha;simp at this;omega
    generalize Yu ks=xs at *;clear hm hk
    ((try simp(disch:=first|exact Zq|fail)[*,Zz,Yg]);repeat'(first|refine Z8 ?_|refine Z9 ?_|refine Z0 ?_|refine Z1 fun _=>?_|refine Z2 fun _ _=>?_|refine Z3 (fun _=>?_) fun _ _=>?_|refine Z4 fun _=>?_|refine Z5 fun _=>?_|refine Z6 (fun _=>?_) fun _=>?_|refine Z7 (fun _=>?_) fun _=>?_)<;>(try simp(disch:=first|exact Zq|fail)[*,Zz,Yg]))
    generalize hv8:h.stamp (H.next+8)=v8
    refine Zn [0,3,4,5,8] (fun m2 sl2 h2=>∃(k:Nat) (kn:Bool),m2=fs.length - k/\k<=fs.length/\Acc [69] ⟨H.next,H.next,[]⟩ h2 69 wv (vs.map Xy)/\Acc [113] ⟨H.next,H.next,[]⟩ h2 155 wf (fs.map Y9)/\h2.next=H.next+137 /\
     h2.get (H.next+8)=some (v8,.cells [.str n.name,L 3 true (xs.map (.int .i64)),.int .i64 n.sort])/\sl2 10=some (.int .i64 k)/\sl2 9=some (.bool kn)/\(kn=true->(⟨true,n.name,xs,n.sort⟩:Use)∈fs) /\
     (kn=false->∀j (hj:j < fs.length),j < k->fs[j].name≠n.name)) fs.length rfl ⟨0,false,by simp,by simp,hAv.frame fun d hd=>by simp at hd;subst hd;simp,hAf.frame fun d hd=>by simp at hd;subst hd;simp,by simp[To],by simp,by simp,by simp,by simp,by simp⟩ ?_
    rintro m2 sl2 h2 hf2 ⟨k,kn,hm2,hk,Z71,Zyc,Zxy,hc8,h10,h9,hkt,hkf⟩;simp at hf2;replace hkt:=Hide.mk hkt;replace hkf:=Hide.mk hkf;clear hAv hAf To Z78;by_cases hkl:k < fs.length
    .obtain ⟨d,Zc,hd,rfl,hg⟩:=Zyc.pos hkl;simp at hd;subst hd;generalize hvk:fs[k]=v;have hvm:v∈fs:=by rw[<- hvk];exact List.getElem_mem hkl
     have hvP:=(I.get.hf v).1 hvm;have h114:=Zaef true true v.args xs (Nat.lt_trans (Ul.get v hvm) (by decide)) (by omega);generalize hq:(v.args==xs)=q at h114
     ((try simp(disch:=first|exact Zq|fail)[*,Zz,Yg,Y9]);repeat'(first|refine Z8 ?_|refine Z9 ?_|refine Z0 ?_|refine Z1 fun _=>?_|refine Z2 fun _ _=>?_|refine Z3 (fun _=>?_) fun _ _=>?_|refine Z4 fun _=>?_|refine Z5 fun _=>?_|refine Z6 (fun _=>?_) fun _=>?_|refine Z7 (fun _=>?_) fun _=>?_)<;>(try simp(disch:=first|exact Zq|fail)[*,Zz,Yg,Y9]))
     .rename_i e1 e2 e3;refine⟨_,by omega,k+1,rfl,by omega,by omega,?_⟩;obtain⟨vf,vn,va,Ql⟩:=v;rw[e3]at hq;simp at hvP e1 e2 e3 hq;rw[<- e1,<- e2,<- hq,<- hvP.2];exact hvm
     .rename_i e1 e2 e3;refine I.get.bad hlt hu.get hvP.1 e1 ?_;rintro rfl;rw[e3]at hq;simp at hq
     .rename_i e1 _ e2;exact I.get.bad hlt hu.get hvP.1 e1 (by rintro rfl;exact e2 rfl)
     .rename_i e1 e2;refine⟨_,by omega,k+1,rfl,by omega,by omega,hkt.get,fun hk0 j hj hjk=>?_⟩;by_cases e:j=k
      .subst e;rw[hvk];exact e2
      .exact hkf.get hk0 j hj (by omega)
    .cases kn
     .have hno:=hkf.get rfl
      have Sz:=I.get.fresh hlt hu.get (fun v hv Rc hnm=>by
       obtain⟨j,hj,rfl⟩:=List.getElem_of_mem ((I.get.hf v).2 ⟨hv,Rc⟩);exact hno j hj (by omega) hnm)
      simp only[if_true]at Sz;obtain⟨w',h',Sf,Xv,Q0,Zl⟩:=Zyc.app (dd:=113) (ys:=[Y9 ⟨true,n.name,xs,n.sort⟩]) (T:={k:=.struct [(0,9),(1,22),(2,3)],size:=3,bytes:=48,zero:=[.string {data:=#[]},.slice none 0 0,.int .i64 0]}) (by simp) rfl (by simp;omega) (by decide) (by decide) (by simp);simp only[List.length_cons,List.length_nil]at Sf;have Ws:=Zyc.same (n:=3);have Zcw:=Xv.same (n:=3);have Z2u:=Z71.frame (h':=h') fun d hd=>Zl _ fun d' hd'=>by simp at hd hd';subst hd;subst hd';simp
      have Xn:∃m,m < t.length - i/\∃i_1:Nat,m=t.length - i_1/\i_1<=t.length/\∃x x_1 x_2,UInv t i_1 x x_1 x_2/\(∀f∈x_2,f.args.length < 2^30)/\(i:Int)+1=i_1/\Acc [69] ⟨H.next,H.next,[]⟩ h' 69 wv (List.map Xy x_1)/\Acc [113] ⟨H.next,H.next,[]⟩ h' 155 w' (List.map Y9 x_2):=
       ⟨_,by omega,i+1,rfl,by omega,_,_,_,Sz,(by
        intro f hf;rcases List.mem_append.1 hf with hf | hf
        .exact Ul.get f hf
        .simp at hf;rw[hf];exact Zx3),by omega,Z2u,by simpa using Xv⟩
      replace Xn:=Hide.mk Xn;clear hno Sz Xv Zl Z2u
      ((try simp(disch:=first|exact Zq|fail)[*,Zz,Yg,Y9]);repeat'(first|refine Z8 ?_|refine Z9 ?_|refine Z0 ?_|refine Z1 fun _=>?_|refine Z2 fun _ _=>?_|refine Z3 (fun _=>?_) fun _ _=>?_|refine Z4 fun _=>?_|refine Z5 fun _=>?_|refine Z6 (fun _=>?_) fun _=>?_|refine Z7 (fun _=>?_) fun _=>?_)<;>(try simp(disch:=first|exact Zq|fail)[*,Zz,Yg,Y9]))
      exact Xn.get
     .have Sz:=I.get.known hlt hu.get ((I.get.hf _).1 (hkt.get rfl)).1;replace Sz:=Hide.mk Sz
      ((try simp(disch:=first|exact Zq|fail)[*,Zz,Yg,Y9]);repeat'(first|refine Z8 ?_|refine Z9 ?_|refine Z0 ?_|refine Z1 fun _=>?_|refine Z2 fun _ _=>?_|refine Z3 (fun _=>?_) fun _ _=>?_|refine Z4 fun _=>?_|refine Z5 fun _=>?_|refine Z6 (fun _=>?_) fun _=>?_|refine Z7 (fun _=>?_) fun _=>?_)<;>(try simp(disch:=first|exact Zq|fail)[*,Zz,Yg,Y9]))
      exact⟨_,by omega,i+1,rfl,by omega,_,_,_,Sz.get,Ul.get,by omega,Z71,Zyc⟩
   .replace I:=I.get.other hlt (by rw[hn];exact h4') (by rw[hn];exact h5')
    ((try simp(disch:=first|exact Zq|fail)[*,Zz,Yg]);repeat'(first|refine Z8 ?_|refine Z9 ?_|refine Z0 ?_|refine Z1 fun _=>?_|refine Z2 fun _ _=>?_|refine Z3 (fun _=>?_) fun _ _=>?_|refine Z4 fun _=>?_|refine Z5 fun _=>?_|refine Z6 (fun _=>?_) fun _=>?_|refine Z7 (fun _=>?_) fun _=>?_)<;>(try simp(disch:=first|exact Zq|fail)[*,Zz,Yg]))
    exact⟨_,by omega,i+1,rfl,by omega,P,vs,fs,I,Ul.get,by omega,hAv,hAf⟩
 .have hil:i=t.length:=by omega
  subst hil;replace hs:=Hide.mk hs
  ((try simp(disch:=first|exact Zq|fail)[*,Zz]);repeat'(first|refine Z8 ?_|refine Z9 ?_|refine Z0 ?_|refine Z1 fun _=>?_|refine Z2 fun _ _=>?_|refine Z3 (fun _=>?_) fun _ _=>?_|refine Z4 fun _=>?_|refine Z5 fun _=>?_|refine Z6 (fun _=>?_) fun _=>?_|refine Z7 (fun _=>?_) fun _=>?_)<;>(try simp(disch:=first|exact Zq|fail)[*,Zz]))
  refine Zn [3,4] (fun m2 sl2 h2=>∃k:Nat,m2=vs.length - k/\k<=vs.length/\Acc [69] ⟨H.next,H.next,[]⟩ h2 69 wv (vs.map Xy)/\Acc [113] ⟨H.next,H.next,[]⟩ h2 155 wf (fs.map Y9)/\h2.next=H.next+137/\sl2 11=some (.int .i64 k) /\
   ∀j (hj:j < vs.length),j < k->∀f∈fs,vs[j].name≠f.name) vs.length rfl ⟨0,by simp,by simp,hAv,hAf,To,by simp,by simp⟩ ?_
  rintro m2 sl2 h2 hf2 ⟨k,hm2,hk,Z71,Zyc,Zxy,h11,hno⟩;simp at hf2;clear hAv hAf To;replace hno:=Hide.mk hno;by_cases hkl:k < vs.length
  .generalize hvk:vs[k]=v;have hvm:v∈vs:=by rw[<- hvk];exact List.getElem_mem hkl
   ((try simp(disch:=first|exact Zq|fail)[*,Zz]);repeat'(first|refine Z8 ?_|refine Z9 ?_|refine Z0 ?_|refine Z1 fun _=>?_|refine Z2 fun _ _=>?_|refine Z3 (fun _=>?_) fun _ _=>?_|refine Z4 fun _=>?_|refine Z5 fun _=>?_|refine Z6 (fun _=>?_) fun _=>?_|refine Z7 (fun _=>?_) fun _=>?_)<;>(try simp(disch:=first|exact Zq|fail)[*,Zz]))
   refine Zn [3,4,11] (fun m3 sl3 h3=>∃l:Nat,m3=fs.length - l/\l<=fs.length/\Acc [69] ⟨H.next,H.next,[]⟩ h3 69 wv (vs.map Xy)/\Acc [113] ⟨H.next,H.next,[]⟩ h3 155 wf (fs.map Y9)/\h3.next=H.next+137/\sl3 12=some (.int .i64 l) /\
    ∀j (hj:j < fs.length),j < l->v.name≠fs[j].name) fs.length rfl ⟨0,by simp,by simp,Z71,Zyc,Zxy,by simp,by simp⟩ ?_
   rintro m3 sl3 h3 hf3 ⟨l,hm3,hl3,hAv3,hAf3,Z64,h12,Zrf⟩;simp at hf3;clear Z71 Zyc Zxy;replace Zrf:=Hide.mk Zrf;by_cases S4:l < fs.length
   .obtain ⟨d,Zc,hd,rfl,hg⟩:=hAv3.pos hkl;obtain⟨d2,Zwx,hd2,rfl,hg2⟩:=hAf3.pos S4;simp at hd hd2;subst hd;subst hd2;generalize hfk:fs[l]=f;have hfm:f∈fs:=by rw[<- hfk];exact List.getElem_mem S4
    ((try simp(disch:=first|exact Zq|fail)[*,Zz,Xy,Y9]);repeat'(first|refine Z8 ?_|refine Z9 ?_|refine Z0 ?_|refine Z1 fun _=>?_|refine Z2 fun _ _=>?_|refine Z3 (fun _=>?_) fun _ _=>?_|refine Z4 fun _=>?_|refine Z5 fun _=>?_|refine Z6 (fun _=>?_) fun _=>?_|refine Z7 (fun _=>?_) fun _=>?_)<;>(try simp(disch:=first|exact Zq|fail)[*,Zz,Xy,Y9]))
    .rename_i e;exact I.get.cross hvm hfm e
    .rename_i e1 e2;refine⟨_,by omega,l+1,rfl,by omega,by omega,fun j hj hjk=>?_⟩;by_cases e:j=l
     .subst e;rw[hfk];exact e2
     .exact Zrf.get j hj (by omega)
   . ((try simp(disch:=first|exact Zq|fail)[*,Zz]);repeat'(first|refine Z8 ?_|refine Z9 ?_|refine Z0 ?_|refine Z1 fun _=>?_|refine Z2 fun _ _=>?_|refine Z3 (fun _=>?_) fun _ _=>?_|refine Z4 fun _=>?_|refine Z5 fun _=>?_|refine Z6 (fun _=>?_) fun _=>?_|refine Z7 (fun _=>?_) fun _=>?_)<;>(try simp(disch:=first|exact Zq|fail)[*,Zz]))
     refine⟨_,by omega,k+1,rfl,by omega,by omega,fun j hj hjk f hf=>?_⟩;by_cases e:j=k
     .subst e;rw[hvk];obtain⟨l',hl',rfl⟩:=List.getElem_of_mem hf;exact Zrf.get l' hl' (by omega)
     .exact hno.get j hj (by omega) f hf
  . ((try simp(disch:=first|exact Zq|fail)[*,Zz]);repeat'(first|refine Z8 ?_|refine Z9 ?_|refine Z0 ?_|refine Z1 fun _=>?_|refine Z2 fun _ _=>?_|refine Z3 (fun _=>?_) fun _ _=>?_|refine Z4 fun _=>?_|refine Z5 fun _=>?_|refine Z6 (fun _=>?_) fun _=>?_|refine Z7 (fun _=>?_) fun _=>?_)<;>(try simp(disch:=first|exact Zq|fail)[*,Zz]))
    exact I.get.done fun v hv f hf=>by
     obtain⟨j,hj,rfl⟩:=List.getElem_of_mem hv;exact hno.get j hj (by omega) f hf
theorem Zb4 {p q:List Nd->Option (Tr×List Nd)}(hpq:∀r x,p r=some x->q r=some x):∀ {k:Nat} {r:List Nd} {x:List Tr×List Nd},many p k r=some x->many q k r=some x
 | 0,r,x,h=>h
 |k+1,r,x,h=>by
  simp only[many]at h ⊢;split at h
  .cases h
  .rename_i t1 r1 h1;rw[hpq _ _ h1];simp only;split at h
   .cases h
   .rename_i ts r2 h2;rw[Zb4 hpq h2];exact h
theorem Zag:∀ {d:Nat} {r:List Nd} {x:Tr×List Nd},Zh d r=some x->Zh (d+1) r=some x
 | 0,r,x,h=>by simp[Zh]at h
 |d+1,[],x,h=>by simp[Zh]at h
 |d+1,n::r,x,h=>by
  simp only[Zh]at h;rw[Zh];split at h
  .rename_i hc;rw[if_pos hc];split at h
   .cases h
   .rename_i ks r' h1;rw[Zb4 (fun _ _=>Zag) h1];exact h
  .cases h
theorem R8 {d e:Nat}{r:List Nd}{x:Tr×List Nd}(hde:d<=e)(h:Zh d r=some x):Zh e r=some x:=by
 induction e with
 |zero=>have:d=0:=by omega
        rw[<- this];exact h
 |succ e ih=>
  rcases Nat.lt_or_ge e d with h1 | h1
  .have:d=e+1:=by omega
   rw[<- this];exact h
  .exact Zag (ih h1)
theorem Zzt {p q:List Nd->Option (Tr×List Nd)}(hp:∀r t r',p r=some (t,r')->∀i,i < r.length - r'.length->∃t2 r2,q (r.drop i)=some (t2,r2))(hs:∀r t r',p r=some (t,r')->∃a,a≠[]/\r=a++r'):
  ∀ {k:Nat} {r r':List Nd} {ts:List Tr},many p k r=some (ts,r')->∀i,i < r.length - r'.length->∃t2 r2,q (r.drop i)=some (t2,r2)
 | 0,r,r',ts,h=>by
   simp only[many,Option.some.injEq,Prod.mk.injEq]at h;intro i hi;rw[h.2]at hi;omega
 |k+1,r,r',ts,h=>by
  simp only[many]at h;split at h
  .cases h
  .rename_i t1 r1 h1;split at h
   .cases h
   .rename_i ts2 r2 h2;cases h;intro i hi;rcases Nat.lt_or_ge i (r.length - r1.length) with h3 | h3
    .exact hp _ _ _ h1 i h3
    .obtain ⟨a,_,e⟩:=hs _ _ _ h1;have hl:=congrArg List.length e;simp at hl;obtain⟨t2,r2',h4⟩:=Zzt hp hs h2 (i - a.length) (by omega);refine⟨t2,r2',?_⟩;rw[e,List.drop_append];have:List.drop i a=[]:=by rw[List.drop_eq_nil_iff];omega
     rw[this,List.nil_append];exact h4
theorem Zt3:∀ {d:Nat} {t r:List Nd} {tr:Tr},Zh d t=some (tr,r)->∀i,i < t.length - r.length->∃t2 r2,Zh d (t.drop i)=some (t2,r2)
 | 0,t,r,tr,h=>by simp[Zh]at h
 |d+1,[],r,tr,h=>by simp[Zh]at h
 |d+1,n::t,r,tr,h=>by
  intro i hi;cases i with
  |zero=>exact⟨_,_,h⟩
  |succ i=>
   simp only[Zh]at h;split at h
   .split at h
    .cases h
    .rename_i ks r' h1;cases h;simp only[List.drop_succ_cons]
     obtain⟨t2,r2,h2⟩:=Zzt (fun _ _ _ hh=>Zt3 hh) (fun _ _ _ hh=>X5 hh) h1 i (by
      simp only[List.length_cons]at hi;omega)
     exact⟨t2,r2,Zag h2⟩
   .cases h
theorem Z87 {t:List Nd}{tr:Tr}(h:Zh 257 t=some (tr,[])):Zagf t:=by
 intro i hi h5;obtain⟨t2,r2,h2⟩:=Zt3 h i (by simpa using hi);rw[List.drop_eq_getElem_cons hi]at h2;have h2':=h2;rw[Zh]at h2';split at h2'
 .rename_i hc;split at h2'
  .cases h2'
  .rename_i ks r3 h3;refine⟨t[i].kids.toNat,ks,r3,?_,Zb4 (fun _ _=>R8 (by omega)) h3⟩;have:=hc;rw[Bool.and_eq_true]at this;have:=this.2;simp[Y7,h5]at this;omega
 .cases h2'
def sortL (t:List Nd):Int:=if 20000 < t.length then 0 else match Zh 257 t with
 |some (tr,[])=>if Y6 (Zy t) then Ye tr else 0
 | _=>0
theorem Zyy (b:Bool)(t:List Nd)(hs:∀n∈t,n.Short)(hl:t.length < 2^30):Xw vE 34 [L 58 b (t.map Yg)] (.int .i64 (sortL t)):=by
 have h91:=Z89 b t hs hl 257 0 (by omega) (by omega);have h92:=Zaj4 b t hs hl;unfold Sq at h91;unfold sortL;by_cases h2:20000 < t.length
 .rw [if_pos h2];clear h91 h92;intro K H;refine Zd (fn:=Tryz.f34) rfl Tryz.func34 rfl rfl (by simp) (by simp) ?_ (by simp[*])
  (refine Zm ?_;repeat'(first|(refine Zi fun _=>?_;try simp(disch:=first|exact Zq|fail)[*,Zz,Tryz.f34])|refine Yb ?_|refine Yc ?_|refine Yd ?_|refine Zt ?_|refine Zf ?_|refine Zb ?_ ?_))
 .rw [if_neg h2];replace h91:Xw vE 91 [L 58 b (t.map Yg),.int .i64 0,.int .i64 0] _:=h91;simp only[List.drop_zero]at h91;cases hp:Zh 257 t with
  |none=>
   rw[hp]at h91;clear h92 hp;intro K H;refine Zd (fn:=Tryz.f34) rfl Tryz.func34 rfl rfl (by simp) (by simp) ?_ (by simp[*])
   (refine Zm ?_;repeat'(first|(refine Zi fun _=>?_;try simp(disch:=first|exact Zq|fail)[*,Zz,Tryz.f34])|refine Yb ?_|refine Yc ?_|refine Yd ?_|refine Zt ?_|refine Zf ?_|refine Zb ?_ ?_))
  |some x=>
   obtain⟨tr,r⟩:=x;rw[hp]at h91;simp only at h91;cases r with
   |nil=>
    replace h92:=h92 (Z87 hp);generalize Y6 (Zy t)=c at *;simp only;clear hp hs;by_cases h0:Ye tr=0
    .have e:(if c=true then Ye tr else 0)=0:=by rw[h0];simp
     rw[e];clear e;intro K H;refine Zd (fn:=Tryz.f34) rfl Tryz.func34 rfl rfl (by simp) (by simp) ?_ (by simp[*])
     (refine Zm ?_;repeat'(first|(refine Zi fun _=>?_;try simp(disch:=first|exact Zq|fail)[*,Zz,Tryz.f34])|refine Yb ?_|refine Yc ?_|refine Yd ?_|refine Zt ?_|refine Zf ?_|refine Zb ?_ ?_))
    .cases c
     .intro K H;refine Zd (fn:=Tryz.f34) rfl Tryz.func34 rfl rfl (by simp) (by simp) ?_ (by simp[*])
      (refine Zm ?_;repeat'(first|(refine Zi fun _=>?_;try simp(disch:=first|exact Zq|fail)[*,Zz,Tryz.f34])|refine Yb ?_|refine Yc ?_|refine Yd ?_|refine Zt ?_|refine Zf ?_|refine Zb ?_ ?_))
     .intro K H;refine Zd (fn:=Tryz.f34) rfl Tryz.func34 rfl rfl (by simp) (by simp) ?_ (by simp[*])
      (refine Zm ?_;repeat'(first|(refine Zi fun _=>?_;try simp(disch:=first|exact Zq|fail)[*,Zz,Tryz.f34])|refine Yb ?_|refine Yc ?_|refine Yd ?_|refine Zt ?_|refine Zf ?_|refine Zb ?_ ?_))
   |cons n r=>
    obtain⟨a,ha,e⟩:=X5 hp;have S4:=congrArg List.length e;simp at S4;have h1:1<=a.length:=List.length_pos_iff.2 ha;clear h92 hp e;simp only;intro K H;refine Zd (fn:=Tryz.f34) rfl Tryz.func34 rfl rfl (by simp) (by simp) ?_ (by simp[*])
    (refine Zm ?_;repeat'(first|(refine Zi fun _=>?_;try simp(disch:=first|exact Zq|fail)[*,Zz,Tryz.f34])|refine Yb ?_|refine Yc ?_|refine Yd ?_|refine Zt ?_|refine Zf ?_|refine Zb ?_ ?_))
theorem Znx (b:Bool)(t:List Nd)(hs:∀n∈t,n.Short)(hl:t.length < 2^30):Xw vE 59 [L 58 b (t.map Yg)] (.bool (decide (0 < sortL t))):=by
 have h:=Zyy b t hs hl;intro K H;refine Zd (fn:=Tryz.f59) rfl Tryz.func59 rfl rfl (by simp) (by simp) ?_ (by simp[*])
 (refine Zm ?_;repeat'(first|(refine Zi fun _=>?_;try simp(disch:=first|exact Zq|fail)[*,Zz,Tryz.f59])|refine Yb ?_|refine Yc ?_|refine Yd ?_|refine Zt ?_|refine Zf ?_|refine Zb ?_ ?_))
def Zfn (a b:Int):Int:=if a < b then -1 else if b < a then 1 else 0
def Zvu (a b:Yt):Int:=if ltL a b then -1 else if a==b then 0 else 1
theorem Zcl {a b:Int}:Zfn a b=0↔a=b:=by
 unfold Zfn;split
 .omega
 .split<;>omega
theorem Zqi {a b:Yt}:Zvu a b=0->a=b:=by
 unfold Zvu;split
 .simp
 .split
  .rename_i h;intro _;simpa using h
  .simp
theorem Zabj (a:Yt):ltL a a=false:=by
 induction a with
 |nil=>rfl
 |cons c a ih=>
  have:c.blt c=false:=by rw[<- Bool.not_eq_true];simp
  simp[ltL,ih,this]
theorem Z3p (a:Yt):Zvu a a=0:=by simp[Zvu,Zabj]
theorem Zsh (a b:Int):Xw vE 115 [.int .i64 a,.int .i64 b] (.int .i64 (Zfn a b)):=by
 intro K H;refine Zd (fn:=Tryz.f115) rfl Tryz.func115 rfl rfl (by simp) (by simp) ?_ (by simp[*])
 (refine Zm ?_;repeat'(first|(refine Zi fun _=>?_;try simp(disch:=first|exact Zq|fail)[*,Zz,Tryz.f115])|refine Yb ?_|refine Yc ?_|refine Yd ?_|refine Zt ?_|refine Zf ?_|refine Zb ?_ ?_))
 all_goals simp[Zfn, *]
 all_goals omega
theorem Zaee (a b:Yt):Xw vE 116 [.str a,.str b] (.int .i64 (Zvu a b)):=by
 intro K H;refine Zd (fn:=Tryz.f116) rfl Tryz.func116 rfl rfl (by simp) (by simp) ?_ (by simp[*])
 (refine Zm ?_;repeat'(first|(refine Zi fun _=>?_;try simp(disch:=first|exact Zq|fail)[*,Zz,Tryz.f116])|refine Yb ?_|refine Yc ?_|refine Yd ?_|refine Zt ?_|refine Zf ?_|refine Zb ?_ ?_))
 all_goals simp_all[Zvu]
def S6:List Int->Int
 | []=>0
 |c::r=>if c=0 then S6 r else c
def Zno (x y:Nd):List Int:=[Zfn x.op y.op,Zfn x.sort y.sort,Zvu x.name y.name,Zvu x.num y.num,Zfn x.kids y.kids]
def cmpL:List Nd->List Nd->Int
 |x::a,y::b=>if S6 (Zno x y)=0 then cmpL a b else S6 (Zno x y)
 |a,b=>Zfn a.length b.length
theorem Zh8 {l:List Int}:S6 l=0↔∀c∈l,c=0:=by
 induction l with
 |nil=>simp[S6]
 |cons c r ih=>
  simp only[S6,List.mem_cons,forall_eq_or_imp];split
  .rw [ih];simp[*]
  .simp [*]
theorem Znn {x y:Nd}:S6 (Zno x y)=0↔x=y:=by
 rw[Zh8];constructor
 .intro h;simp[Zno]at h;obtain⟨h1,h2,h3,h4,h5⟩:=h;cases x;cases y;simp at *;exact⟨Zcl.1 h1,Zcl.1 h2,Zqi h3,Zqi h4,Zcl.1 h5⟩
 .rintro rfl;simp[Zno,Zfn,Z3p]
theorem Zqj:∀ {a b:List Nd},cmpL a b=0↔a=b
 | [],[]=>by simp[cmpL,Zfn]
 | [],y::b=>by
   simp only[cmpL];rw[Zcl];simp;omega
 |x::a,[]=>by
  simp only[cmpL];rw[Zcl];simp;omega
 |x::a,y::b=>by
  simp only[cmpL];split
  .rename_i h;rw[Zqj,Znn.1 h];simp
  .rename_i h;constructor
   .intro e;exact absurd e h
   .intro e;cases e;exact absurd (Znn.2 rfl) h
theorem Zyi {l:List Int}{k:Nat}(hk:k < l.length)(h0:∀j (hj:j < l.length),j < k->l[j]=0)(h1:l[k]≠0):S6 l=l[k]:=by
 induction l generalizing k with
 |nil=>simp at hk
 |cons c r ih=>
  cases k with
  |zero=>simp at h1;simp[S6,h1]
  |succ k=>
   have hc:=h0 0 (by simp) (by omega);simp at hc;simp only[S6,hc,if_true];simp only[List.getElem_cons_succ]at h1 ⊢;exact ih (by simpa using hk) (fun j hj hjk=>by have:=h0 (j+1) (by simpa using hj) (by omega);simpa using this) h1
set_option maxHeartbeats 2000000 in
theorem Zaj9 (b1 b2:Bool)(x y:List Nd)(hx:x.length < 2^30)(hy:y.length < 2^30):Xw vE 68 [L 58 b1 (x.map Yg),L 58 b2 (y.map Yg)] (.int .i64 (cmpL x y)):=by
 intro K H;refine Zd (fn:=Tryz.f68) rfl Tryz.func68 rfl rfl (by simp) (by simp) ?_ (by simp[*])
 (refine Zm ?_;repeat'(first|(refine Zi fun _=>?_;try simp(disch:=first|exact Zq|fail)[*,Zz,Tryz.f68])|refine Yb ?_|refine Yc ?_|refine Yd ?_|refine Zt ?_|refine Zf ?_|refine Zb ?_ ?_))
 refine Zn [0,1] (fun n sl h=>∃i:Nat,n=x.length - i/\i<=x.length/\i<=y.length/\sl 5=some (.int .i64 i)/\cmpL x y=cmpL (x.drop i) (y.drop i)) x.length rfl ⟨0,by simp⟩ ?_;rintro n sl h hf ⟨i,hn',hi,hi2,h5,hd⟩;simp at hf;by_cases hlt:i < x.length
 .by_cases Zor:i < y.length
  .rw [List.drop_eq_getElem_cons hlt,List.drop_eq_getElem_cons Zor]at hd;generalize hxi:x[i]=p at *;generalize hyi:y[i]=q at *;simp only[cmpL]at hd;replace hd:=Hide.mk hd;generalize hcs:Zno p q=cs at hd;have hcl:cs.length=5:=by rw[<- hcs];rfl
   unfold Zno at hcs
   (refine Zm ?_;repeat'(first|(refine Zi fun _=>?_;try simp(disch:=first|exact Zq|fail)[*,Zz,Yg,Zsh,Zaee])|refine Yb ?_|refine Yc ?_|refine Yd ?_|refine Zt ?_|refine Zf ?_|refine Zb ?_ ?_))
   generalize hv8:h.stamp (H.next+8)=v8;refine Zn [0,1,5,8] (fun m2 sl2 h2=>∃k:Nat,m2=5 - k/\k<=5/\sl2 9=some (.int .i64 k)/\h2.get (H.next+8)=some (v8,.cells (cs.map (.int .i64)))/\∀j (hj:j < cs.length),j < k->cs[j]=0) 5 rfl ⟨0,by simp,by simp,by simp,by simp[<- hcs],by simp⟩ ?_;rintro m2 sl2 h2 hf2 ⟨k,hm2,hk,h9,hg,hz⟩;simp at hf2;clear hcs;replace hz:=Hide.mk hz;by_cases hk5:k < 5
   .have hkc:k < cs.length:=by omega
    generalize hck:cs[k]=c
    have hta:List.take 1 (List.drop k (cs.map (PV.int .i64)))=[PV.int .i64 c]:=by
     rw[List.drop_eq_getElem_cons (by simpa using hkc),List.getElem_map,hck];rfl
    have hk4:k<=4:=by omega
    (refine Zm ?_;repeat'(first|(refine Zi fun _=>?_;try simp(disch:=first|exact Zq|fail)[*,Zz])|refine Yb ?_|refine Yc ?_|refine Yd ?_|refine Zt ?_|refine Zf ?_|refine Zb ?_ ?_))
    .rename_i e;refine⟨_,by omega,k+1,rfl,by omega,by omega,fun j hj hjk=>?_⟩;by_cases e':j=k
     .subst e';rw[hck];exact e
     .exact hz.get j (by omega) (by omega)
    .rename_i e;have:=Zyi hkc (fun j hj hjk=>hz.get j hj hjk) (by rw[hck];exact e);rw[hck]at this;rw[hd.get,this,if_neg e]
   .have hz0:S6 cs=0:=Zh8.2 fun c hc=>by
     obtain⟨j,hj,rfl⟩:=List.getElem_of_mem hc;exact hz.get j hj (by omega)
    (refine Zm ?_;repeat'(first|(refine Zi fun _=>?_;try simp(disch:=first|exact Zq|fail)[*,Zz])|refine Yb ?_|refine Yc ?_|refine Yd ?_|refine Zt ?_|refine Zf ?_|refine Zb ?_ ?_))
    exact⟨_,by omega,i+1,rfl,by omega,by omega,by omega,by rw[hd.get,if_pos hz0]⟩
  .have e:y.drop i=[]:=by simp;omega
   rw[e]at hd;have hlen:=Zsh x.length y.length
   have e2:cmpL x y=Zfn x.length y.length:=by
    rw[hd];have:cmpL (x.drop i) []=Zfn (x.drop i).length 0:=by cases x.drop i<;>rfl
    rw[this];simp only[List.length_drop,Zfn]
    repeat' split
    all_goals omega
   rw[e2]at *;clear hd e
   (refine Zm ?_;repeat'(first|(refine Zi fun _=>?_;try simp(disch:=first|exact Zq|fail)[*,Zz])|refine Yb ?_|refine Yc ?_|refine Yd ?_|refine Zt ?_|refine Zf ?_|refine Zb ?_ ?_))
 .have e:x.drop i=[]:=by simp;omega
  rw[e]at hd;have hlen:=Zsh x.length y.length
  have e2:cmpL x y=Zfn x.length y.length:=by
   rw[hd];have:cmpL [] (y.drop i)=Zfn 0 (y.drop i).length:=by cases y.drop i<;>rfl
   rw[this];simp only[List.length_drop,Zfn]
   repeat' split
   all_goals omega
  rw[e2]at *;clear hd e
  (refine Zm ?_;repeat'(first|(refine Zi fun _=>?_;try simp(disch:=first|exact Zq|fail)[*,Zz])|refine Yb ?_|refine Yc ?_|refine Yd ?_|refine Zt ?_|refine Zf ?_|refine Zb ?_ ?_))
theorem Zakm (b1 b2:Bool)(x y:List Nd)(hx:x.length < 2^30)(hy:y.length < 2^30):Xw vE 18 [L 58 b1 (x.map Yg),L 58 b2 (y.map Yg)] (.bool (decide (x=y))):=by
 have h:=Zaj9 b1 b2 x y hx hy
 have e:(cmpL x y==0)=decide (x=y):=by
  rw[Bool.eq_iff_iff];simp[Zqj]
 rw[<- e];clear e;intro K H;refine Zd (fn:=Tryz.f18) rfl Tryz.func18 rfl rfl (by simp) (by simp) ?_ (by simp[*])
 (refine Zm ?_;repeat'(first|(refine Zi fun _=>?_;try simp(disch:=first|exact Zq|fail)[*,Zz,Tryz.f18])|refine Yb ?_|refine Yc ?_|refine Yd ?_|refine Zt ?_|refine Zf ?_|refine Zb ?_ ?_))
def Za3 (l:List Use)(s:Yt):Bool:=l.any fun u=>u.name==s
theorem Z9b (b:Bool)(l:List Use)(s:Yt)(hl:l.length < 2^62):Xw vE 64 [L 69 b (l.map Xy),.str s] (.bool (Za3 l s)):=by
 intro K H;refine Zd (fn:=Tryz.f64) rfl Tryz.func64 rfl rfl (by simp) (by simp) ?_ (by simp[*])
 (refine Zm ?_;repeat'(first|(refine Zi fun _=>?_;try simp(disch:=first|exact Zq|fail)[*,Zz,Tryz.f64])|refine Yb ?_|refine Yc ?_|refine Yd ?_|refine Zt ?_|refine Zf ?_|refine Zb ?_ ?_))
 refine Zn [0,1] (fun n sl h=>∃i:Nat,n=l.length - i/\i<=l.length/\sl 5=some (.int .i64 i)/\Za3 l s=Za3 (l.drop i) s) l.length rfl ⟨0,by simp⟩ ?_;rintro n sl h hf ⟨i,hn',hi,h5,hd⟩;simp at hf;by_cases hlt:i < l.length
 .rw [List.drop_eq_getElem_cons hlt]at hd;generalize hli:l[i]=u at *;simp only[Za3,List.any_cons]at hd;replace hd:=Hide.mk hd
  (refine Zm ?_;repeat'(first|(refine Zi fun _=>?_;try simp(disch:=first|exact Zq|fail)[*,Zz,Xy])|refine Yb ?_|refine Yc ?_|refine Yd ?_|refine Zt ?_|refine Zf ?_|refine Zb ?_ ?_))
  .rename_i e;have:=hd.get;rw[e]at this;simpa[Za3]using this
  .rename_i e _;refine⟨_,by omega,i+1,rfl,by omega,by omega,?_⟩;have:=hd.get;rw[e]at this;simpa[Za3]using this
 .have e:l.drop i=[]:=by simp;omega
  rw[e]at hd;replace hd:Za3 l s=false:=hd
  (refine Zm ?_;repeat'(first|(refine Zi fun _=>?_;try simp(disch:=first|exact Zq|fail)[*,Zz])|refine Yb ?_|refine Yc ?_|refine Yd ?_|refine Zt ?_|refine Zf ?_|refine Zb ?_ ?_))
def addVar (out:List Use)(n:Nd):List Use:=if n.op=4/\Za3 out n.name=false then out++[⟨false,n.name,[],n.sort⟩] else out
def Zdp (t:List Nd):List Use:=if 0 < sortL t then t.foldl addVar [] else []
theorem Zy0 (t:List Nd)(o:List Use):(t.foldl addVar o).length<=o.length+t.length:=by
 induction t generalizing o with
 |nil=>simp
 |cons n t ih=>
  have:=ih (addVar o n);have h2:(addVar o n).length<=o.length+1:=by unfold addVar;split<;>simp
  simp only[List.foldl_cons,List.length_cons];omega
set_option maxHeartbeats 1000000 in
theorem Zakb (b:Bool)(t:List Nd)(hs:∀n∈t,n.Short)(hl:t.length < 2^30):Xw vE 65 [L 58 b (t.map Yg)] (L 69 true ((Zdp t).map Xy)):=by
 have h59:=Znx b t hs hl;clear hs;unfold Zdp;by_cases hv:0 < sortL t
 .rw [if_pos hv];rw[decide_eq_true hv]at h59;clear hv;intro K H;refine Zd (fn:=Tryz.f65) rfl Tryz.func65 rfl rfl (by simp) (by simp) ?_ (by simp[*])
  (refine Zm ?_;repeat'(first|(refine Zi fun _=>?_;try simp(disch:=first|exact Zq|fail)[*,Zz,Tryz.f65])|refine Yb ?_|refine Yc ?_|refine Yd ?_|refine Zt ?_|refine Zf ?_|refine Zb ?_ ?_))
  refine Zn [0] (fun n sl h=>∃(i:Nat) (vs:List Use) (w:PV),n=t.length - i/\i<=t.length/\sl 4=some (.int .i64 i)/\sl 3=some w/\Acc [44] ⟨H.next,H.next,[]⟩ h 69 w (vs.map Xy)/\vs.length<=i/\t.foldl addVar []=(t.drop i).foldl addVar vs) t.length rfl ⟨0,[],.nils,by simp,by simp,by simp,rfl,Acc.nil,by simp,rfl⟩ ?_;rintro n sl h hf ⟨i,vs,w,hn',hi,h4,h3,hA,hvl,hd⟩;simp at hf;by_cases hlt:i < t.length
  .rw [List.drop_eq_getElem_cons hlt,List.foldl_cons]at hd;generalize hti:t[i]=n1 at *;have h64:Xw vE 64 [L 69 true (vs.map Xy),.str n1.name] (.bool (Za3 vs n1.name)):=Z9b true vs n1.name (by omega);have hc:=hA.call (C:=vE) (f:=64) rfl rfl [] [.str n1.name] h64 rfl rfl rfl;simp only[List.nil_append]at hc;replace hd:=Hide.mk hd;by_cases h4':n1.op=4
   .cases hh:Za3 vs n1.name with
    |true=>
     rw[hh]at hc;have hav:addVar vs n1=vs:=by unfold addVar;rw[if_neg (by simp[hh])]
     (refine Zm ?_;repeat'(first|(refine Zi fun _=>?_;try simp(disch:=first|exact Zq|fail)[*,Zz,Yg])|refine Yb ?_|refine Yc ?_|refine Yd ?_|refine Zt ?_|refine Zf ?_|refine Zb ?_ ?_))
     exact⟨_,by omega,i+1,rfl,by omega,by omega,vs,hA,by omega,by rw[hd.get,hav]⟩
    |false=>
     rw[hh]at hc;have hav:addVar vs n1=vs++[⟨false,n1.name,[],n1.sort⟩]:=by unfold addVar;rw[if_pos ⟨h4',hh⟩]
     obtain⟨w',h',Sf,Xv,Q0,Zl⟩:=hA.app (dd:=44) (ys:=[Xy ⟨false,n1.name,[],n1.sort⟩]) (T:={k:=.struct [(0,9),(1,3)],size:=2,bytes:=24,zero:=[.string {data:=#[]},.int .i64 0]}) (by simp) rfl (by simp;omega) (by decide) (by decide) (by simp);simp only[List.length_cons,List.length_nil]at Sf;have Ws:=hA.same (n:=3);have Zcw:=Xv.same (n:=3);replace Xv:=Hide.mk Xv;clear Zl
     (refine Zm ?_;repeat'(first|(refine Zi fun _=>?_;try simp(disch:=first|exact Zq|fail)[*,Zz,Yg])|refine Yb ?_|refine Yc ?_|refine Yd ?_|refine Zt ?_|refine Zf ?_|refine Zb ?_ ?_))
     exact⟨_,by omega,i+1,rfl,by omega,by omega,vs++[⟨false,n1.name,[],n1.sort⟩],by simpa using Xv.get,by simp;omega,by rw[hd.get,hav]⟩
   .have hav:addVar vs n1=vs:=by unfold addVar;rw[if_neg (by simp[h4'])]
    (refine Zm ?_;repeat'(first|(refine Zi fun _=>?_;try simp(disch:=first|exact Zq|fail)[*,Zz,Yg])|refine Yb ?_|refine Yc ?_|refine Yd ?_|refine Zt ?_|refine Zf ?_|refine Zb ?_ ?_))
    exact⟨_,by omega,i+1,rfl,by omega,by omega,vs,hA,by omega,by rw[hd.get,hav]⟩
  .have e:t.drop i=[]:=by simp;omega
   rw[e,List.foldl_nil]at hd;rw[hd];have Wz:=hA.inl;have Zao:=hA.inlT;rw[Wz]at Zao;have hot:=hA.ownT;clear hd e
   (refine Zm ?_;repeat'(first|(refine Zi fun _=>?_;try simp(disch:=first|exact Zq|fail)[*,Zz])|refine Yb ?_|refine Yc ?_|refine Yd ?_|refine Zt ?_|refine Zf ?_|refine Zb ?_ ?_))
   exact hot
 .rw [if_neg hv];rw[decide_eq_false hv]at h59;intro K H;refine Zd (fn:=Tryz.f65) rfl Tryz.func65 rfl rfl (by simp) (by simp) ?_ (by simp[*])
  (refine Zm ?_;repeat'(first|(refine Zi fun _=>?_;try simp(disch:=first|exact Zq|fail)[*,Zz,Tryz.f65])|refine Yb ?_|refine Yc ?_|refine Yd ?_|refine Zt ?_|refine Zf ?_|refine Zb ?_ ?_))
  refine Zn [0] (fun n sl h=>n=0/\sl 4=some (.int .i64 0)/\sl 3=some .nils) 0 rfl ⟨rfl,by simp,by simp⟩ ?_;rintro n sl h hf ⟨rfl,h4,h3⟩;simp at hf;by_cases h0:t.length=0
  . (refine Zm ?_;repeat'(first|(refine Zi fun _=>?_;try simp(disch:=first|exact Zq|fail)[*,Zz])|refine Yb ?_|refine Yc ?_|refine Yd ?_|refine Zt ?_|refine Zf ?_|refine Zb ?_ ?_));rfl
  . (refine Zm ?_;repeat'(first|(refine Zi fun _=>?_;try simp(disch:=first|exact Zq|fail)[*,Zz])|refine Yb ?_|refine Yc ?_|refine Yd ?_|refine Zt ?_|refine Zf ?_|refine Zb ?_ ?_));rfl
abbrev encK (k:Bool×List Nd):PV:=L 58 k.1 (k.2.map Yg)
def Xh (n:Nd)(ks:List (List Nd)):List Nd:={n with kids:=(ks.length:Int)}::ks.flatten
theorem Zru (l:List (List Nd))(i:Nat)(h:i < l.length):(l.take (i+1)).flatten=(l.take i).flatten++l[i]:=by
 rw[List.take_add_one,List.flatten_append,List.getElem?_eq_getElem h];simp
set_option maxHeartbeats 1000000 in
theorem Zakj (b:Bool)(n:Nd)(ks:List (Bool×List Nd))(hk:ks.length < 2^20)(hl:((ks.map (·.2)).flatten).length < 2^29):Xw vE 47 [Yg n,L 23 b (ks.map encK)] (L 58 true ((Xh n (ks.map (·.2))).map Yg)):=by
 unfold Xh;rw[List.length_map];generalize hn0:({n with kids:=(ks.length:Int)}:Nd)=n0;have hnn:n0.op=n.op/\n0.sort=n.sort/\n0.name=n.name/\n0.num=n.num/\n0.kids=(ks.length:Int):=by rw[<- hn0];simp
 obtain⟨e1,e2,e3,e4,e5⟩:=hnn;intro K H;refine Zd (fn:=Tryz.f47) rfl Tryz.func47 rfl rfl (by simp) (by simp) ?_ (by simp[*])
 (refine Zm ?_;repeat'(first|(refine Zi fun _=>?_;try simp(disch:=first|exact Zq|fail)[*,Zz,Tryz.f47,Yg])|refine Yb ?_|refine Yc ?_|refine Yd ?_|refine Zt ?_|refine Zf ?_|refine Zb ?_ ?_))
 generalize hM:ks.map (·.2)=M at *;have hMl:M.length=ks.length:=by rw[<- hM];simp
 have hMi:∀i (h:i < ks.length) (h2:i < M.length),ks[i].2=M[i]:=fun i h h2=>by subst hM;simp
 refine Zn [1] (fun m sl h=>∃(i:Nat) (w:PV),m=ks.length - i/\i<=ks.length/\sl 6=some (.int .i64 i)/\sl 5=some w/\Acc [11,23] ⟨H.next,H.next,[]⟩ h 58 w ((n0::(M.take i).flatten).map Yg)) ks.length rfl ⟨0,.own (H.next+11) (H.stamp (H.next+11)) 58 0 1,by simp,by simp,by simp,by simp,Or.inr ⟨11,_,by simp,by simp,rfl,by simp[Yg, *]⟩⟩ ?_;rintro m sl h hf ⟨i,w,hm',hi,h6,h5,hA⟩;simp at hf
 have hle:(M.take i).flatten.length<=M.flatten.length:=by
  conv=>rhs;rw[<- List.take_append_drop i M]
  rw[List.flatten_append,List.length_append];omega
 by_cases hlt:i < ks.length
 .have hlM:i < M.length:=by omega
  have Zx2:(M.take (i+1)).flatten.length<=M.flatten.length:=by
   conv=>rhs;rw[<- List.take_append_drop (i+1) M]
   rw[List.flatten_append,List.length_append];omega
  have Ul:=Zru M i hlM;rw[Ul,List.length_append]at Zx2;have hki:=hMi i hlt hlM;generalize hkk:ks[i]=kk at *;obtain⟨kb,kl⟩:=kk;simp only at hki;subst hki;obtain⟨w',h',Sf,Xv,Q0,Zl⟩:=hA.app' (dd:=23) (ys:=M[i].map Yg) (T:={k:=.struct [(0,3),(1,3),(2,9),(3,9),(4,3)],size:=5,bytes:=56,zero:=[.int .i64 0,.int .i64 0,.string {data:=#[]},.string {data:=#[]},.int .i64 0]}) (by simp) rfl (by simp only[List.length_map,List.length_cons];omega) (by decide) (by decide);rw[List.length_map]at Sf
  have Xn:Acc [11,23] ⟨H.next,H.next,[]⟩ h' 58 w' ((n0::(M.take (i+1)).flatten).map Yg):=by
   rw[Ul,<- List.cons_append,List.map_append];exact Xv
  replace Xn:=Hide.mk Xn;clear Ul Xv Zl
  (refine Zm ?_;repeat'(first|(refine Zi fun _=>?_;try simp(disch:=first|exact Zq|fail)[*,Zz,-PH.elems])|refine Yb ?_|refine Yc ?_|refine Yd ?_|refine Zt ?_|refine Zf ?_|refine Zb ?_ ?_))
  exact⟨_,by omega,i+1,rfl,by omega,by omega,by simpa using Xn.get⟩
 .have e:M.take i=M:=List.take_of_length_le (by omega);rw[e]at hA;have Wz:=hA.inl;have Zao:=hA.inlT;rw[Wz]at Zao;have hot:=hA.ownT;clear e hA Wz hM hMi hle
  (refine Zm ?_;repeat'(first|(refine Zi fun _=>?_;try simp(disch:=first|exact Zq|fail)[*,Zz])|refine Yb ?_|refine Yc ?_|refine Yd ?_|refine Zt ?_|refine Zf ?_|refine Zb ?_ ?_))
  exact hot
abbrev Zjx (x:List Nd×Int):PV:=.tuple [L 58 true (x.1.map Yg),.int .i64 x.2]
end Go.Proofs.YtabcdhcpilpojaaGreatDoor
end
