/- Nodes of terms, as the reference looks at them. -/
import Derived.Test.YtabcdhcpilpojaaGreatDoorFA
import Derived.Test.YtabcdhcpilpojaaGreatDoorPD
set_option linter.unusedSimpArgs false
set_option linter.unusedVariables false
section
set_option maxRecDepth 20000
namespace Go.Proofs.YtabcdhcpilpojaaGreatDoor
open Go Go.Pure
open Go.Virt (Ex Ctx Ty TK)
structure Nd where
 op:Int
 sort:Int
 name:Yk
 num:Yk
 kids:Int
 deriving DecidableEq
abbrev Zu (n:Nd):PV:=.agg [.int .i64 n.op,.int .i64 n.sort,.str n.name,.str n.num,.int .i64 n.kids]
def Nd.Short (n:Nd):Prop:=n.name.length<=2^19/\n.num.length<=2^19
def Zdg (s:Int):Bool:=decide (1<=s)&&decide (s<=4)
def W0 (s:Int):Bool:=s==2||s==3
def Xs (op sort:Int)(name num:Yk):Bool:=
 if op=3 then name==[]&&((sort==2&&Vy num)||(sort==3&&Qb num))
 else if op=4\/op=5 then num==[]&&Yx name&&Zdg sort
 else if op=16\/op=17 then sort==0&&name==[]&&Vy num&&decide (0 < Zcc num)
 else decide (1<=op)&&decide (op<=20)&&sort==0&&name==[]&&num==[]
def Yw (op n:Int):Bool:=
 if op=1\/op=2\/op=3\/op=4 then n==0
 else if op=5 then decide (1<=n)&&decide (n<=40)
 else if op=6\/op=16\/op=17\/op=20 then n==1
 else if op=7\/op=8 then decide (0<=n)
 else if op=10\/op=19 then n==3
 else if op=14 then decide (1<=n)
 else n==2
def Wz (s:List Int)(x out:Int):Int:=if s.all (·==x) then out else 0
def atI (s:List Int)(i:Nat):Int:=s.getD i 0
theorem Z9m {s:List Int}{i:Nat}(h:i < s.length):s[i]=atI s i:=by simp [atI,List.getElem?_eq_getElem h]
def W6 (op sort first:Int)(s:List Int):Int:=
 if op=1\/op=2 then 1
 else if op=3\/op=4\/op=5 then sort
 else if op=6\/op=7\/op=8\/op=9 then Wz s 1 1
 else if op=10 then (if atI s 0=1/\atI s 1=atI s 2 then atI s 1 else 0)
 else if op=11 then Wz s (atI s 0) 1
 else if op=12\/op=13 then (if W0 (atI s 0) then Wz s (atI s 0) 1 else 0)
 else if op=14 then (if W0 (atI s 0) then Wz s (atI s 0) (atI s 0) else 0)
 else if op=15 then (if first=3 then Wz s (atI s 0) (atI s 0) else 0)
 else if op=16\/op=17 then Wz s 2 2
 else if op=20 then Wz s 2 4
 else if op=18 then (if atI s 0=4/\atI s 1=2 then 2 else 0)
 else if op=19 then (if atI s 0=4/\atI s 1=2/\atI s 2=2 then 4 else 0)
 else 0
theorem Zxl (s:Int):Xr vE 158 [.int .i64 s] (.bool (W0 s)):=by
 intro K H;refine Zh (fn:=Tryz.f158) rfl Tryz.func158 rfl rfl (by simp) (by simp) ?_ (by simp [*])
 ((try simp (disch:=first|omega|(simp<;>omega)|fail) [*,Ze,Tryz.f158]);repeat'(first|refine Z8 ?_|refine Z9 ?_|refine Z0 ?_|refine Z1 fun _=>?_|refine Z2 fun _ _=>?_|refine Z3 (fun _=>?_) fun _ _=>?_|refine Z4 fun _=>?_|refine Z5 fun _=>?_|refine Z6 (fun _=>?_) fun _=>?_|refine Z7 (fun _=>?_) fun _=>?_)<;>(try simp (disch:=first|omega|(simp<;>omega)|fail) [*,Ze,Tryz.f158]))
 all_goals simp [W0, *]
theorem Zaae (s:Int):Xr vE 156 [.int .i64 s] (.bool (Zdg s)):=by
 intro K H;refine Zh (fn:=Tryz.f156) rfl Tryz.func156 rfl rfl (by simp) (by simp) ?_ (by simp [*])
 ((try simp (disch:=first|omega|(simp<;>omega)|fail) [*,Ze,Tryz.f156]);repeat'(first|refine Z8 ?_|refine Z9 ?_|refine Z0 ?_|refine Z1 fun _=>?_|refine Z2 fun _ _=>?_|refine Z3 (fun _=>?_) fun _ _=>?_|refine Z4 fun _=>?_|refine Z5 fun _=>?_|refine Z6 (fun _=>?_) fun _=>?_|refine Z7 (fun _=>?_) fun _=>?_)<;>(try simp (disch:=first|omega|(simp<;>omega)|fail) [*,Ze,Tryz.f156]))
 all_goals simp [Zdg, *]
theorem Zxo (op sort kids:Int)(name num:Yk)(h1:name.length<=2^19)(h2:num.length<=2^19):Xr vE 129 [.agg [.int .i64 op,.int .i64 sort,.str name,.str num,.int .i64 kids]] (.bool (Xs op sort name num)):=by
 have a1:=Zbo num h2;have a2:=Zxq num h2;have a3:=Zaag num h2;have a4:=Zvo name (by omega);have a5:=Zaae sort;intro K H;refine Zh (fn:=Tryz.f129) rfl Tryz.func129 rfl rfl (by simp) (by simp) ?_ (by simp [*])
 ((try simp (disch:=first|omega|(simp<;>omega)|fail) [*,Ze,Tryz.f129]);repeat'(first|refine Z8 ?_|refine Z9 ?_|refine Z0 ?_|refine Z1 fun _=>?_|refine Z2 fun _ _=>?_|refine Z3 (fun _=>?_) fun _ _=>?_|refine Z4 fun _=>?_|refine Z5 fun _=>?_|refine Z6 (fun _=>?_) fun _=>?_|refine Z7 (fun _=>?_) fun _=>?_)<;>(try simp (disch:=first|omega|(simp<;>omega)|fail) [*,Ze,Tryz.f129]))
 all_goals simp_all [Xs]
 all_goals omega
theorem Zxn (op n:Int):Xr vE 130 [.int .i64 op,.int .i64 n] (.bool (Yw op n)):=by
 intro K H;refine Zh (fn:=Tryz.f130) rfl Tryz.func130 rfl rfl (by simp) (by simp) ?_ (by simp [*])
 ((try simp (disch:=first|omega|(simp<;>omega)|fail) [*,Ze,Tryz.f130]);repeat'(first|refine Z8 ?_|refine Z9 ?_|refine Z0 ?_|refine Z1 fun _=>?_|refine Z2 fun _ _=>?_|refine Z3 (fun _=>?_) fun _ _=>?_|refine Z4 fun _=>?_|refine Z5 fun _=>?_|refine Z6 (fun _=>?_) fun _=>?_|refine Z7 (fun _=>?_) fun _=>?_)<;>(try simp (disch:=first|omega|(simp<;>omega)|fail) [*,Ze,Tryz.f130]))
 all_goals simp_all [Yw]
 all_goals omega
theorem Zaad (b:Bool)(s:List Int)(x out:Int)(hn:s.length < 2^62):Xr vE 157 [L 3 b (s.map (.int .i64)),.int .i64 x,.int .i64 out] (.int .i64 (Wz s x out)):=by
 intro K H;refine Zh (fn:=Tryz.f157) rfl Tryz.func157 rfl rfl (by simp) (by simp) ?_ (by simp [*])
 ((try simp (disch:=first|omega|(simp<;>omega)|fail) [*,Ze,Tryz.f157]);repeat'(first|refine Z8 ?_|refine Z9 ?_|refine Z0 ?_|refine Z1 fun _=>?_|refine Z2 fun _ _=>?_|refine Z3 (fun _=>?_) fun _ _=>?_|refine Z4 fun _=>?_|refine Z5 fun _=>?_|refine Z6 (fun _=>?_) fun _=>?_|refine Z7 (fun _=>?_) fun _=>?_)<;>(try simp (disch:=first|omega|(simp<;>omega)|fail) [*,Ze,Tryz.f157]))
 refine Zz [0,1,2] (fun n sl h=>∃ i:Nat,n=s.length - i/\i<=s.length/\sl 7=some (.int .i64 i)/\∀ j (hj:j < s.length),j < i->s[j]=x) s.length rfl ⟨0,by simp⟩ ?_;rintro n sl h hf ⟨i,hn',hi,h7,hd⟩;simp at hf;replace hd:=Hide.mk hd;by_cases hlt:i < s.length
 . ((try simp (disch:=first|omega|(simp<;>omega)|fail) [*,Ze]);repeat'(first|refine Z8 ?_|refine Z9 ?_|refine Z0 ?_|refine Z1 fun _=>?_|refine Z2 fun _ _=>?_|refine Z3 (fun _=>?_) fun _ _=>?_|refine Z4 fun _=>?_|refine Z5 fun _=>?_|refine Z6 (fun _=>?_) fun _=>?_|refine Z7 (fun _=>?_) fun _=>?_)<;>(try simp (disch:=first|omega|(simp<;>omega)|fail) [*,Ze]))
   .rename_i e;refine ⟨_,by omega,i+1,rfl,by omega,rfl,fun j hj hji=>?_⟩;by_cases e':j=i
    .subst e';exact e
    .exact hd.get j hj (by omega)
   .rename_i _ e
    have:s.all (·==x)=false:=by
     rw [<- Bool.not_eq_true,List.all_eq_true];intro hh;exact e (by simpa using hh s[i] (List.getElem_mem hlt))
    simp [Wz,this]
 . ((try simp (disch:=first|omega|(simp<;>omega)|fail) [*,Ze]);repeat'(first|refine Z8 ?_|refine Z9 ?_|refine Z0 ?_|refine Z1 fun _=>?_|refine Z2 fun _ _=>?_|refine Z3 (fun _=>?_) fun _ _=>?_|refine Z4 fun _=>?_|refine Z5 fun _=>?_|refine Z6 (fun _=>?_) fun _=>?_|refine Z7 (fun _=>?_) fun _=>?_)<;>(try simp (disch:=first|omega|(simp<;>omega)|fail) [*,Ze]))
   have:s.all (·==x)=true:=by
    rw [List.all_eq_true];intro c hc;obtain ⟨j,hj,rfl⟩:=List.getElem_of_mem hc;simpa using hd.get j hj (by omega)
   simp [Wz,this]
set_option maxHeartbeats 2000000 in
theorem Zaak (b:Bool)(op sort kids first:Int)(name num:Yk)(s:List Int)(hs:Yw op s.length=true)(hn:s.length < 2^62):
  Xr vE 131 [.agg [.int .i64 op,.int .i64 sort,.str name,.str num,.int .i64 kids],.int .i64 first,L 3 b (s.map (.int .i64))] (.int .i64 (W6 op sort first s)):=by
 have h157:=fun x out=>Zaad b s x out hn
 have f3:op=10\/op=19->s.length=3:=by
  rintro (rfl | rfl)<;>simp [Yw] at hs<;>omega
 have f2:op=11\/op=12\/op=13\/op=15\/op=18->s.length=2:=by
  rintro (rfl | rfl | rfl | rfl | rfl)<;>simp [Yw] at hs<;>omega
 have f1:op=14->1<=s.length:=by
  rintro rfl;simp [Yw] at hs;omega
 have hg:∀ i (h:i < s.length),s[i]=atI s i:=fun i h=>Z9m h
 clear hs;intro K H;refine Zh (fn:=Tryz.f131) rfl Tryz.func131 rfl rfl (by simp) (by simp) ?_ (by simp [*])
 ((try simp (disch:=first|omega|(simp<;>omega)|fail) [*,Ze,Tryz.f131,Zxl]);repeat'(first|refine Z8 ?_|refine Z9 ?_|refine Z0 ?_|refine Z1 fun _=>?_|refine Z2 fun _ _=>?_|refine Z3 (fun _=>?_) fun _ _=>?_|refine Z4 fun _=>?_|refine Z5 fun _=>?_|refine Z6 (fun _=>?_) fun _=>?_|refine Z7 (fun _=>?_) fun _=>?_)<;>(try simp (disch:=first|omega|(simp<;>omega)|fail) [*,Ze,Tryz.f131,Zxl]))
 all_goals simp [W6, *]
end Go.Proofs.YtabcdhcpilpojaaGreatDoor
end
section
set_option maxRecDepth 20000
namespace Go.Proofs.YtabcdhcpilpojaaGreatDoor
open Go Go.Pure
open Go.Virt (Ex Ctx Ty TK)
inductive Tr where
 | mk (op sort:Int) (name num:Yk) (ks:List Tr)
def Tr.op:Tr->Int | .mk op _ _ _ _=>op
def W2:List Tr->Int
 | []=>0
 | t::_=>t.op
mutual
def Yh:Tr->Int
 | .mk op sort _ _ ks=>if (Yu ks).all (fun s=>decide (0 < s)) then W6 op sort (W2 ks) (Yu ks) else 0
def Yu:List Tr->List Int
 | []=>[]
 | k::r=>Yh k::Yu r
end
theorem Uz (ks:List Tr):(Yu ks).length=ks.length:=by
 induction ks with
 | nil=>rfl
 | cons k r ih=>simp [Yu,ih]
theorem Sv (a b:List Tr):Yu (a++b)=Yu a++Yu b:=by
 induction a with
 | nil=>rfl
 | cons k r ih=>simp [Yu,ih]
def many (p:List Nd->Option (Tr×List Nd)):Nat->List Nd->Option (List Tr×List Nd)
 | 0,r=>some ([],r)
 | k+1,r=>match p r with
   | none=>none
   | some (t,r')=>match many p k r' with
     | none=>none
     | some (ts,r'')=>some (t::ts,r'')
def Zj:Nat->List Nd->Option (Tr×List Nd)
 | 0,_=>none
 | _+1,[]=>none
 | d+1,n::r=>if Xs n.op n.sort n.name n.num&&Yw n.op n.kids then (match many (Zj d) n.kids.toNat r with
   | none=>none
   | some (ks,r')=>some (.mk n.op n.sort n.name n.num ks,r')) else none
theorem Q6 {p:List Nd->Option (Tr×List Nd)}:∀ {k:Nat} {r r':List Nd} {ts:List Tr},many p k r=some (ts,r')->ts.length=k
 | 0,r,r',ts,h=>by simp only [many,Option.some.injEq,Prod.mk.injEq] at h;rw [<- h.1];rfl
 | k+1,r,r',ts,h=>by
   simp only [many] at h;split at h
   .cases h
   .split at h
    .cases h
    .rename_i t1 r1 _ ts2 r2 h2;cases h;simp [Q6 h2]
theorem S4 {p:List Nd->Option (Tr×List Nd)}(hp:∀ r t r',p r=some (t,r')->∃ a,a≠[]/\r=a++r'):∀ {k:Nat} {r r':List Nd} {ts:List Tr},many p k r=some (ts,r')->∃ a,r=a++r'/\k<=a.length
 | 0,r,r',ts,h=>by simp only [many,Option.some.injEq,Prod.mk.injEq] at h;exact ⟨[],by rw [h.2];rfl,Nat.zero_le _⟩
 | k+1,r,r',ts,h=>by
   simp only [many] at h;split at h
   .cases h
   .split at h
    .cases h
    .rename_i t1 r1 h1 _ ts2 r2 h2;cases h;obtain ⟨a,ha,rfl⟩:=hp _ _ _ h1;obtain ⟨b,rfl,hb⟩:=S4 hp h2;refine ⟨a++b,by simp,?_⟩;have:1<=a.length:=List.length_pos_iff.2 ha;simp;omega
theorem Xc:∀ {d:Nat} {r r':List Nd} {t:Tr},Zj d r=some (t,r')->∃ a,a≠[]/\r=a++r'
 | 0,r,r',t,h=>by simp [Zj] at h
 | d+1,[],r',t,h=>by simp [Zj] at h
 | d+1,n::r,r',t,h=>by
   simp only [Zj] at h;split at h
   .split at h
    .cases h
    .rename_i ks r1 h1;cases h;obtain ⟨a,rfl,_⟩:=S4 (fun _ _ _ hh=>Xc hh) h1;exact ⟨n::a,by simp,rfl⟩
   .cases h
end Go.Proofs.YtabcdhcpilpojaaGreatDoor
end
section
set_option maxRecDepth 20000
namespace Go.Proofs.YtabcdhcpilpojaaGreatDoor
open Go Go.Pure
open Go.Virt (Ex Ctx Ty TK)
def Tt (t:List Nd)(d i:Nat):PV:=match Zj d (t.drop i) with
 | none=>.tuple [.int .i64 (-1),.int .i64 0]
 | some (tr,r)=>.tuple [.int .i64 ((t.length - r.length:Nat):Int),.int .i64 (Yh tr)]
theorem Z1z {d:Nat}{n:Nd}{r r':List Nd}{tr:Tr}(h:Zj d (n::r)=some (tr,r')):tr.op=n.op:=by
 cases d with
 | zero=>simp [Zj] at h
 | succ d=>
   simp only [Zj] at h;split at h
   .split at h
    .cases h
    .cases h;rfl
   .cases h
theorem Zkf {d k:Nat}{r r':List Nd}{ks:List Tr}(h:many (Zj d) k r=some (ks,r'))(hk:ks≠[]):∃ n r0,r=n::r0/\W2 ks=n.op:=by
 cases k with
 | zero=>simp only [many,Option.some.injEq,Prod.mk.injEq] at h;exact absurd h.1.symm hk
 | succ k=>
   cases r with
   | nil=>cases d<;>simp [many,Zj] at h
   | cons n r=>
     simp only [many] at h;split at h
     .cases h
     .rename_i t1 r1 h1;split at h
      .cases h
      .cases h;exact ⟨n,r,rfl,Z1z h1⟩
theorem Zka {t:List Nd}{d e:Nat}{tr:Tr}{r:List Nd}(he:e<=t.length)(h:Zj d (t.drop e)=some (tr,r)):∃ e',e < e'/\e'<=t.length/\r=t.drop e'/\Tt t d e=.tuple [.int .i64 (e':Nat),.int .i64 (Yh tr)]:=by
 obtain ⟨a,ha,e1⟩:=Xc h;have h1:=congrArg List.length e1;have h2:1<=a.length:=List.length_pos_iff.2 ha;simp at h1;refine ⟨e+a.length,by omega,by omega,?_,?_⟩
 .rw [<- List.drop_drop,e1,List.drop_left]
 .simp only [Tt,h];congr 4;omega
set_option maxHeartbeats 2000000 in
theorem Z5i (b:Bool)(t:List Nd)(hs:∀ n∈t,n.Short)(hl:t.length < 2^30):∀ (d i:Nat),d<=257->i<=t.length->Xr vE 91 [L 58 b (t.map Zu),.int .i64 i,.int .i64 (257 - d:Int)] (Tt t d i):=by
 have hbl:∀ d i m,below m 4 (Tt t d i)=true:=fun d i m=>by unfold Tt;split<;>simp
 intro d
 induction d with
 | zero=>
   intro i _ hi;have e:Tt t 0 i=.tuple [.int .i64 (-1),.int .i64 0]:=rfl;rw [e];intro K H;refine Zh (fn:=Tryz.f91) rfl Tryz.func91 rfl rfl (by simp) (by simp) ?_ (by simp [*]);by_cases hlt:i < t.length
   .have hm:=hs _ (List.getElem_mem hlt);generalize hn:t[i]=n at hm;have h129:=Zxo n.op n.sort n.kids n.name n.num hm.1 hm.2;have h130:=Zxn n.op n.kids
    ((try simp (disch:=first|omega|(simp<;>omega)|fail) [*,Ze,Tryz.f91,Zu]);repeat'(first|refine Z8 ?_|refine Z9 ?_|refine Z0 ?_|refine Z1 fun _=>?_|refine Z2 fun _ _=>?_|refine Z3 (fun _=>?_) fun _ _=>?_|refine Z4 fun _=>?_|refine Z5 fun _=>?_|refine Z6 (fun _=>?_) fun _=>?_|refine Z7 (fun _=>?_) fun _=>?_)<;>(try simp (disch:=first|omega|(simp<;>omega)|fail) [*,Ze,Tryz.f91,Zu]))
   . ((try simp (disch:=first|omega|(simp<;>omega)|fail) [*,Ze,Tryz.f91]);repeat'(first|refine Z8 ?_|refine Z9 ?_|refine Z0 ?_|refine Z1 fun _=>?_|refine Z2 fun _ _=>?_|refine Z3 (fun _=>?_) fun _ _=>?_|refine Z4 fun _=>?_|refine Z5 fun _=>?_|refine Z6 (fun _=>?_) fun _=>?_|refine Z7 (fun _=>?_) fun _=>?_)<;>(try simp (disch:=first|omega|(simp<;>omega)|fail) [*,Ze,Tryz.f91]))
 | succ d ih=>
   intro i hd hi;replace hbl:=hbl (d+1) i;by_cases hlt:i < t.length
   .have hm:=hs _ (List.getElem_mem hlt);have hdr:t.drop i=t[i]::t.drop (i+1):=List.drop_eq_getElem_cons hlt;generalize hn:t[i]=n at hm hdr;have h129:=Zxo n.op n.sort n.kids n.name n.num hm.1 hm.2;have h130:=Zxn n.op n.kids;by_cases hok:(Xs n.op n.sort n.name n.num&&Yw n.op n.kids)=true
    .obtain ⟨hfo,hao⟩:=by simpa using hok
     have hkn:0<=n.kids:=by
      unfold Yw at hao
      revert hao
      repeat' split
      all_goals simp
      all_goals omega
     obtain ⟨N,hK⟩:=Int.eq_ofNat_of_zero_le hkn;rw [hK] at hao h129 h130
     have e:Tt t (d+1) i=match many (Zj d) N (t.drop (i+1)) with
      | none=>.tuple [.int .i64 (-1),.int .i64 0]
      | some (ks,r')=>.tuple [.int .i64 ((t.length - r'.length:Nat):Int),.int .i64 (Yh (.mk n.op n.sort n.name n.num ks))]:=by
      simp only [Tt,hdr,Zj,hK,hfo,hao];simp;cases many (Zj d) N (List.drop (i+1) t)<;>rfl
     clear hkn hok;by_cases hkl:t.length < N
     .have e2:Tt t (d+1) i=.tuple [.int .i64 (-1),.int .i64 0]:=by
       rw [e];cases hmm:many (Zj d) N (t.drop (i+1)) with
       | none=>rfl
       | some q=>
         obtain ⟨ks,r'⟩:=q;obtain ⟨a,ha,hka⟩:=S4 (fun _ _ _ hh=>Xc hh) hmm;have:=congrArg List.length ha;simp at this;omega
      rw [e2];clear e e2;intro K H;refine Zh (fn:=Tryz.f91) rfl Tryz.func91 rfl rfl (by simp) (by simp) ?_ (by simp [*])
      ((try simp (disch:=first|omega|(simp<;>omega)|fail) [*,Ze,Tryz.f91,Zu]);repeat'(first|refine Z8 ?_|refine Z9 ?_|refine Z0 ?_|refine Z1 fun _=>?_|refine Z2 fun _ _=>?_|refine Z3 (fun _=>?_) fun _ _=>?_|refine Z4 fun _=>?_|refine Z5 fun _=>?_|refine Z6 (fun _=>?_) fun _=>?_|refine Z7 (fun _=>?_) fun _=>?_)<;>(try simp (disch:=first|omega|(simp<;>omega)|fail) [*,Ze,Tryz.f91,Zu]))
     .generalize hV:Tt t (d+1) i=V at *
      have ih':∀ e,e<=t.length->Xr vE 91 [L 58 b (t.map Zu),.int .i64 e,.int .i64 (257 - ((d+1:Nat):Int)+1)] (Tt t d e):=fun e he=>by
       have:=ih e (by omega) he
       rwa [show (257 - (d:Int))=257 - ((d+1:Nat):Int)+1 by omega] at this
      have hD0:0<=257 - ((d+1:Nat):Int)/\257 - ((d+1:Nat):Int)<=256:=by omega
      generalize 257 - ((d+1:Nat):Int)=D at ih' hD0 ⊢;obtain ⟨hD0,hD1⟩:=hD0;replace ih:=Hide.mk ih';replace e:=Hide.mk e;replace hs:=Hide.mk hs;clear hV ih';intro K H;refine Zh (fn:=Tryz.f91) rfl Tryz.func91 rfl rfl (by simp) (by simp) ?_ (by simp [*])
      ((try simp (disch:=first|omega|(simp<;>omega)|fail) [*,Ze,Tryz.f91,Zu]);repeat'(first|refine Z8 ?_|refine Z9 ?_|refine Z0 ?_|refine Z1 fun _=>?_|refine Z2 fun _ _=>?_|refine Z3 (fun _=>?_) fun _ _=>?_|refine Z4 fun _=>?_|refine Z5 fun _=>?_|refine Z6 (fun _=>?_) fun _=>?_|refine Z7 (fun _=>?_) fun _=>?_)<;>(try simp (disch:=first|omega|(simp<;>omega)|fail) [*,Ze,Tryz.f91,Zu]))
      refine Zz [0,1,2] (fun m sl h=>∃ (k e:Nat) (ks:List Tr) (w:PV),m=N - k/\k<=N/\e<=t.length/\ks.length=k/\sl 11=some (.int .i64 k)/\sl 9=some (.int .i64 e)/\sl 10=some (.bool ((Yu ks).all fun s=>decide (0 < s)))/\sl 8=some w /\
       Acc [83] ⟨H.next,H.next,[]⟩ h 3 w ((Yu ks).map (.int .i64))/\h.next=H.next+104/\many (Zj d) N (t.drop (i+1))=(match many (Zj d) (N - k) (t.drop e) with
        | none=>none
        | some (us,r'')=>some (ks++us,r''))) N rfl ⟨0,i+1,[],.nils,by simp,by simp,by omega,rfl,rfl,by simp,by simp [Yu],by simp,Acc.nil,by simp,by
          simp only [Nat.sub_zero,List.nil_append];cases many (Zj d) N (t.drop (i+1))<;>rfl⟩ ?_
      rintro m sl h hf ⟨k,q,ks,w,hm',hk,hq,Zut,h11,h9,h10,h8,hA,Rg,hmy⟩;simp at hf;by_cases hkK:k < N
      .have hsn:many (Zj d) (N - k) (t.drop q)=match Zj d (t.drop q) with
        | none=>none
        | some (t1,r')=>match many (Zj d) (N - (k+1)) r' with
          | none=>none
          | some (ts,r'')=>some (t1::ts,r''):=by
        rw [show N - k=(N - (k+1))+1 by omega];rfl
       have ihq:=ih.get q hq;have hka:k < 1073741824:=by omega
       cases hp:Zj d (t.drop q) with
       | none=>
         have hVV:V=.tuple [.int .i64 (-1),.int .i64 0]:=by rw [e.get,hmy,hsn,hp]
         have hv:Tt t d q=.tuple [.int .i64 (-1),.int .i64 0]:=by simp only [Tt,hp]
         rw [hv] at ihq;clear hsn hmy hp hv
         ((try simp (disch:=first|omega|(simp<;>omega)|fail) [*,Ze]);repeat'(first|refine Z8 ?_|refine Z9 ?_|refine Z0 ?_|refine Z1 fun _=>?_|refine Z2 fun _ _=>?_|refine Z3 (fun _=>?_) fun _ _=>?_|refine Z4 fun _=>?_|refine Z5 fun _=>?_|refine Z6 (fun _=>?_) fun _=>?_|refine Z7 (fun _=>?_) fun _=>?_)<;>(try simp (disch:=first|omega|(simp<;>omega)|fail) [*,Ze]))
       | some x=>
         obtain ⟨tr,r⟩:=x;obtain ⟨q',hq1,hq2,rfl,hv⟩:=Zka hq hp;rw [hv] at ihq;simp only [hp] at hsn;replace hmy:=Hide.mk hmy;replace hsn:=Hide.mk hsn;clear hp hv;obtain ⟨w',h',hap,Vi,Zb1,Zm⟩:=hA.app (dd:=83) (ys:=[.int .i64 (Yh tr)]) (T:={k:=.int .i64,size:=1,bytes:=8,zero:=[.int .i64 0]}) (by simp) rfl (by simp [Uz];omega) (by decide) (by decide) (by simp);replace Zm:=Hide.mk Zm;replace Vi:=Hide.mk Vi;simp only [List.length_cons,List.length_nil] at hap;clear hA
         have hfm:many (Zj d) N (List.drop (i+1) t)=match many (Zj d) (N - (k+1)) (List.drop q' t) with
           | none=>none
           | some (us,r'')=>some (ks++[tr]++us,r''):=by
          rw [hmy.get,hsn.get];cases many (Zj d) (N - (k+1)) (List.drop q' t)<;>simp
         have hfA:Acc [83] ⟨H.next,H.next,[]⟩ h' 3 w' ((Yu (ks++[tr])).map (.int .i64)):=by
          simpa [Sv,Yu] using Vi.get
         replace hfm:=Hide.mk hfm;replace hfA:=Hide.mk hfA;clear hmy hsn Vi
         ((try simp (disch:=first|omega|(simp<;>omega)|fail) [*,Ze]);repeat'(first|refine Z8 ?_|refine Z9 ?_|refine Z0 ?_|refine Z1 fun _=>?_|refine Z2 fun _ _=>?_|refine Z3 (fun _=>?_) fun _ _=>?_|refine Z4 fun _=>?_|refine Z5 fun _=>?_|refine Z6 (fun _=>?_) fun _=>?_|refine Z7 (fun _=>?_) fun _=>?_)<;>(try simp (disch:=first|omega|(simp<;>omega)|fail) [*,Ze]))
         .rename_i hall;refine ⟨N - (k+1),by omega,k+1,rfl,by omega,q',hq2,ks++[tr],by simp;omega,by omega,rfl,?_,hfA.get,hfm.get⟩;rw [Sv,List.all_append,hall];simp [Yu]
         .rename_i hall;refine ⟨N - (k+1),by omega,k+1,rfl,by omega,q',hq2,ks++[tr],by simp;omega,by omega,rfl,?_,hfA.get,hfm.get⟩
          have:(Yu (ks++[tr])).all (fun s=>decide (0 < s))=false:=by
           rw [Sv,List.all_append,hall];rfl
          simpa using this
      .have hkN:k=N:=by omega
       subst hkN;simp only [Nat.sub_self,many,List.append_nil] at hmy;have hVV:=e.get;rw [hmy] at hVV;simp only [List.length_drop,show t.length - (t.length - q)=q by omega] at hVV;rcases Bool.eq_false_or_eq_true ((Yu ks).all fun s=>decide (0 < s)) with hall | hall
       .replace hVV:V=.tuple [.int .i64 q,.int .i64 (W6 n.op n.sort (W2 ks) (Yu ks))]:=by
         rw [hVV,Yh,if_pos hall]
        have hl1:=Uz ks;have h131:=Zaak true n.op n.sort k (W2 ks) n.name n.num (Yu ks) (by rw [hl1,Zut];exact hao) (by omega);have hc:=hA.call rfl (f:=131) rfl [.agg [.int .i64 n.op,.int .i64 n.sort,.str n.name,.str n.num,.int .i64 k],.int .i64 (W2 ks)] [] h131 rfl rfl rfl;simp only [List.cons_append,List.nil_append] at hc
        have hlw:lenK (.slice 3) w=some (.int .i64 k):=by
         have:=hA.lenK (e:=3)
         rwa [List.length_map,hl1,Zut] at this
        have Zi5:ks≠[]->i+1 < t.length:=fun hk0=>by
         obtain ⟨n1,r0,e1,e2⟩:=Zkf hmy hk0;have:=congrArg List.length e1;simp at this;omega
        have hf1:∀ (hk0:i+1 < t.length),ks≠[]->t[i+1].op=W2 ks:=fun hk1 hk0=>by
         obtain ⟨n1,r0,e1,e2⟩:=Zkf hmy hk0;rw [List.drop_eq_getElem_cons hk1] at e1;rw [e2,List.head_eq_of_cons_eq e1]
        have hf0:ks=[]->W2 ks=0:=fun hk0=>by rw [hk0];rfl
        by_cases hk0:ks=[]
        .have hf0:=hf0 hk0;have hk00:k=0:=by rw [<- Zut,hk0];rfl
         rw [hf0] at hc hVV;simp only [hk00,Int.natCast_zero] at hc;clear hmy e hf1 Zi5 h131 hf0;clear hk0
         ((try simp (disch:=first|omega|(simp<;>omega)|fail) [*,Ze]);repeat'(first|refine Z8 ?_|refine Z9 ?_|refine Z0 ?_|refine Z1 fun _=>?_|refine Z2 fun _ _=>?_|refine Z3 (fun _=>?_) fun _ _=>?_|refine Z4 fun _=>?_|refine Z5 fun _=>?_|refine Z6 (fun _=>?_) fun _=>?_|refine Z7 (fun _=>?_) fun _=>?_)<;>(try simp (disch:=first|omega|(simp<;>omega)|fail) [*,Ze]))
        .have hf1:=hf1 (Zi5 hk0) hk0;have Zi5:=Zi5 hk0;have hk00:0 < k:=by rw [<- Zut];exact List.length_pos_iff.2 hk0
         clear hmy e hf0 h131
         ((try simp (disch:=first|omega|(simp<;>omega)|fail) [*,Ze]);repeat'(first|refine Z8 ?_|refine Z9 ?_|refine Z0 ?_|refine Z1 fun _=>?_|refine Z2 fun _ _=>?_|refine Z3 (fun _=>?_) fun _ _=>?_|refine Z4 fun _=>?_|refine Z5 fun _=>?_|refine Z6 (fun _=>?_) fun _=>?_|refine Z7 (fun _=>?_) fun _=>?_)<;>(try simp (disch:=first|omega|(simp<;>omega)|fail) [*,Ze]))
       .replace hVV:V=.tuple [.int .i64 q,.int .i64 0]:=by
         rw [hVV,Yh,if_neg (by rw [hall];simp)]
        clear hmy e
        ((try simp (disch:=first|omega|(simp<;>omega)|fail) [*,Ze]);repeat'(first|refine Z8 ?_|refine Z9 ?_|refine Z0 ?_|refine Z1 fun _=>?_|refine Z2 fun _ _=>?_|refine Z3 (fun _=>?_) fun _ _=>?_|refine Z4 fun _=>?_|refine Z5 fun _=>?_|refine Z6 (fun _=>?_) fun _=>?_|refine Z7 (fun _=>?_) fun _=>?_)<;>(try simp (disch:=first|omega|(simp<;>omega)|fail) [*,Ze]))
    .have e:Tt t (d+1) i=.tuple [.int .i64 (-1),.int .i64 0]:=by
      simp only [Tt,hdr,Zj,hok];rfl
     rw [e];clear e hdr;rcases Bool.eq_false_or_eq_true (Xs n.op n.sort n.name n.num) with hfo | hfo
     .have hao:Yw n.op n.kids=false:=by simpa [hfo] using hok
      clear hok;intro K H;refine Zh (fn:=Tryz.f91) rfl Tryz.func91 rfl rfl (by simp) (by simp) ?_ (by simp [*])
      ((try simp (disch:=first|omega|(simp<;>omega)|fail) [*,Ze,Tryz.f91,Zu]);repeat'(first|refine Z8 ?_|refine Z9 ?_|refine Z0 ?_|refine Z1 fun _=>?_|refine Z2 fun _ _=>?_|refine Z3 (fun _=>?_) fun _ _=>?_|refine Z4 fun _=>?_|refine Z5 fun _=>?_|refine Z6 (fun _=>?_) fun _=>?_|refine Z7 (fun _=>?_) fun _=>?_)<;>(try simp (disch:=first|omega|(simp<;>omega)|fail) [*,Ze,Tryz.f91,Zu]))
     .clear hok;intro K H;refine Zh (fn:=Tryz.f91) rfl Tryz.func91 rfl rfl (by simp) (by simp) ?_ (by simp [*])
      ((try simp (disch:=first|omega|(simp<;>omega)|fail) [*,Ze,Tryz.f91,Zu]);repeat'(first|refine Z8 ?_|refine Z9 ?_|refine Z0 ?_|refine Z1 fun _=>?_|refine Z2 fun _ _=>?_|refine Z3 (fun _=>?_) fun _ _=>?_|refine Z4 fun _=>?_|refine Z5 fun _=>?_|refine Z6 (fun _=>?_) fun _=>?_|refine Z7 (fun _=>?_) fun _=>?_)<;>(try simp (disch:=first|omega|(simp<;>omega)|fail) [*,Ze,Tryz.f91,Zu]))
   .have e:Tt t (d+1) i=.tuple [.int .i64 (-1),.int .i64 0]:=by
     have:t.drop i=[]:=by simp;omega
     simp [Tt,this,Zj]
    rw [e];intro K H;refine Zh (fn:=Tryz.f91) rfl Tryz.func91 rfl rfl (by simp) (by simp) ?_ (by simp [*])
    ((try simp (disch:=first|omega|(simp<;>omega)|fail) [*,Ze,Tryz.f91]);repeat'(first|refine Z8 ?_|refine Z9 ?_|refine Z0 ?_|refine Z1 fun _=>?_|refine Z2 fun _ _=>?_|refine Z3 (fun _=>?_) fun _ _=>?_|refine Z4 fun _=>?_|refine Z5 fun _=>?_|refine Z6 (fun _=>?_) fun _=>?_|refine Z7 (fun _=>?_) fun _=>?_)<;>(try simp (disch:=first|omega|(simp<;>omega)|fail) [*,Ze,Tryz.f91]))
end Go.Proofs.YtabcdhcpilpojaaGreatDoor
end
section
set_option maxRecDepth 20000
namespace Go.Proofs.YtabcdhcpilpojaaGreatDoor
open Go Go.Pure
open Go.Virt (Ex Ctx Ty TK)
theorem Zaam (b1 b2:Bool)(x y:List Int)(hx:x.length < 2^62)(hy:y.length < 2^62):Xr vE 114 [L 3 b1 (x.map (.int .i64)),L 3 b2 (y.map (.int .i64))] (.bool (x==y)):=by
 by_cases hl:x.length=y.length
 .intro K H;refine Zh (fn:=Tryz.f114) rfl Tryz.func114 rfl rfl (by simp) (by simp) ?_ (by simp [*])
  ((try simp (disch:=first|omega|(simp<;>omega)|fail) [*,Ze,Tryz.f114]);repeat'(first|refine Z8 ?_|refine Z9 ?_|refine Z0 ?_|refine Z1 fun _=>?_|refine Z2 fun _ _=>?_|refine Z3 (fun _=>?_) fun _ _=>?_|refine Z4 fun _=>?_|refine Z5 fun _=>?_|refine Z6 (fun _=>?_) fun _=>?_|refine Z7 (fun _=>?_) fun _=>?_)<;>(try simp (disch:=first|omega|(simp<;>omega)|fail) [*,Ze,Tryz.f114]))
  refine Zz [0,1] (fun n sl h=>∃ i:Nat,n=x.length - i/\i<=x.length/\sl 5=some (.int .i64 i)/\∀ j (hj:j < x.length) (hk:j < y.length),j < i->x[j]=y[j]) x.length rfl ⟨0,by simp⟩ ?_;rintro n sl h hf ⟨i,hn',hi,h5,hd⟩;simp at hf;replace hd:=Hide.mk hd;by_cases hlt:i < x.length
  .have Zd4:i < y.length:=by omega
   clear hl
   ((try simp (disch:=first|omega|(simp<;>omega)|fail) [*,Ze]);repeat'(first|refine Z8 ?_|refine Z9 ?_|refine Z0 ?_|refine Z1 fun _=>?_|refine Z2 fun _ _=>?_|refine Z3 (fun _=>?_) fun _ _=>?_|refine Z4 fun _=>?_|refine Z5 fun _=>?_|refine Z6 (fun _=>?_) fun _=>?_|refine Z7 (fun _=>?_) fun _=>?_)<;>(try simp (disch:=first|omega|(simp<;>omega)|fail) [*,Ze]))
   .rename_i e;refine ⟨_,by omega,i+1,rfl,by omega,rfl,fun j hj hk hji=>?_⟩;by_cases e':j=i
    .subst e';exact e
    .exact hd.get j hj hk (by omega)
   .rename_i e;rintro rfl;simp at e
  . ((try simp (disch:=first|omega|(simp<;>omega)|fail) [*,Ze]);repeat'(first|refine Z8 ?_|refine Z9 ?_|refine Z0 ?_|refine Z1 fun _=>?_|refine Z2 fun _ _=>?_|refine Z3 (fun _=>?_) fun _ _=>?_|refine Z4 fun _=>?_|refine Z5 fun _=>?_|refine Z6 (fun _=>?_) fun _=>?_|refine Z7 (fun _=>?_) fun _=>?_)<;>(try simp (disch:=first|omega|(simp<;>omega)|fail) [*,Ze]))
    have:x=y:=List.ext_getElem hl fun j hj hk=>hd.get j hj hk (by omega)
    simp [this]
 .have:x≠y:=by rintro rfl;exact hl rfl
  have hq:(x==y)=false:=by simp [this]
  intro K H;refine Zh (fn:=Tryz.f114) rfl Tryz.func114 rfl rfl (by simp) (by simp) ?_ (by simp [*])
  ((try simp (disch:=first|omega|(simp<;>omega)|fail) [*,Ze,Tryz.f114]);repeat'(first|refine Z8 ?_|refine Z9 ?_|refine Z0 ?_|refine Z1 fun _=>?_|refine Z2 fun _ _=>?_|refine Z3 (fun _=>?_) fun _ _=>?_|refine Z4 fun _=>?_|refine Z5 fun _=>?_|refine Z6 (fun _=>?_) fun _=>?_|refine Z7 (fun _=>?_) fun _=>?_)<;>(try simp (disch:=first|omega|(simp<;>omega)|fail) [*,Ze,Tryz.f114]))
theorem Zaah (b:Bool)(t:List Nd)(hs:∀ n∈t,n.Short)(hl:t.length < 2^30)(i:Nat)(hi:i < t.length)(ks:List Tr)(r:List Nd)(N:Nat)(hN:t[i].kids=N)(hm:many (Zj 257) N (t.drop (i+1))=some (ks,r)):
  Xr vE 141 [L 58 b (t.map Zu),.int .i64 i] (L 3 true ((Yu ks).map (.int .i64))):=by
 have hlen:=Q6 hm;generalize hn:t[i]=n at hN
 have hNl:N < t.length:=by
  obtain ⟨a,ha,hka⟩:=S4 (fun _ _ _ hh=>Xc hh) hm;have:=congrArg List.length ha;simp at this;omega
 have h91:∀ q,q<=t.length->Xr vE 91 [L 58 b (t.map Zu),.int .i64 q,.int .i64 0] (Tt t 257 q):=fun q hq=>Z5i b t hs hl 257 q (by omega) hq
 replace h91:=Hide.mk h91;clear hs;intro K H;refine Zh (fn:=Tryz.f141) rfl Tryz.func141 rfl rfl (by simp) (by simp) ?_ (by simp [*])
 ((try simp (disch:=first|omega|(simp<;>omega)|fail) [*,Ze,Tryz.f141,Zu]);repeat'(first|refine Z8 ?_|refine Z9 ?_|refine Z0 ?_|refine Z1 fun _=>?_|refine Z2 fun _ _=>?_|refine Z3 (fun _=>?_) fun _ _=>?_|refine Z4 fun _=>?_|refine Z5 fun _=>?_|refine Z6 (fun _=>?_) fun _=>?_|refine Z7 (fun _=>?_) fun _=>?_)<;>(try simp (disch:=first|omega|(simp<;>omega)|fail) [*,Ze,Tryz.f141,Zu]))
 refine Zz [0,1] (fun m sl h=>∃ (k e:Nat) (k1 k2:List Tr) (w:PV),m=N - k/\k<=N/\e<=t.length/\k1.length=k/\ks=k1++k2/\sl 7=some (.int .i64 k)/\sl 6=some (.int .i64 e)/\sl 5=some w /\
      Acc [30] ⟨H.next,H.next,[]⟩ h 3 w ((Yu k1).map (.int .i64))/\h.next=H.next+33/\many (Zj 257) (N - k) (t.drop e)=some (k2,r)) N rfl ⟨0,i+1,[],ks,.nils,by simp,by simp,by omega,rfl,rfl,by simp,by simp [Yu],by simp,Acc.nil,by simp,hm⟩ ?_
 rintro m sl h hf ⟨k,q,k1,k2,w,hm',hk,hq,Zut,hks,h7,h6,h5,hA,Rg,hmy⟩;simp at hf;by_cases hkN:k < N
 .have hsn:many (Zj 257) (N - k) (t.drop q)=match Zj 257 (t.drop q) with
   | none=>none
   | some (t1,r')=>match many (Zj 257) (N - (k+1)) r' with
     | none=>none
     | some (ts,r'')=>some (t1::ts,r''):=by
   rw [show N - k=(N - (k+1))+1 by omega];rfl
  rw [hmy] at hsn;have h91q:=h91.get q hq;cases hp:Zj 257 (t.drop q) with
  | none=>rw [hp] at hsn;cases hsn
  | some x=>
    obtain ⟨tr,rr⟩:=x;obtain ⟨q',hq1,hq2,rfl,hv⟩:=Zka hq hp;rw [hv] at h91q;simp only [hp] at hsn;cases hmm:many (Zj 257) (N - (k+1)) (t.drop q') with
    | none=>rw [hmm] at hsn;cases hsn
    | some z=>
      obtain ⟨k3,r3⟩:=z;rw [hmm] at hsn;cases hsn;obtain ⟨w',h',hap,Vi,Zb1,Zm⟩:=hA.app (dd:=30) (ys:=[.int .i64 (Yh tr)]) (T:={k:=.int .i64,size:=1,bytes:=8,zero:=[.int .i64 0]}) (by simp) rfl (by simp [Uz];omega) (by decide) (by decide) (by simp);simp only [List.length_cons,List.length_nil] at hap
      have Wa:∃ m,m < N - k/\∃ x,m=N - x/\x<=N/\∃ x_1:Nat,x_1<=t.length/\∃ x_2:List Tr,x_2.length=x/\∃ x_3,ks=x_2++x_3/\(k:Int)+1=x/\(q':Int)=x_1/\Acc [30] ⟨H.next,H.next,[]⟩ h' 3 w' ((Yu x_2).map (.int .i64))/\many (Zj 257) (N - x) (t.drop x_1)=some (x_3,r):=
       ⟨N - (k+1),by omega,k+1,rfl,by omega,q',hq2,k1++[tr],by simp;omega,k3,by rw [hks];simp,by omega,rfl,by simpa [Sv,Yu] using Vi,hmm⟩
      replace Wa:=Hide.mk Wa;clear Zm Vi hA hp hv hmm hmy hm hks hlen hq1
      ((try simp (disch:=first|omega|(simp<;>omega)|fail) [*,Ze]);repeat'(first|refine Z8 ?_|refine Z9 ?_|refine Z0 ?_|refine Z1 fun _=>?_|refine Z2 fun _ _=>?_|refine Z3 (fun _=>?_) fun _ _=>?_|refine Z4 fun _=>?_|refine Z5 fun _=>?_|refine Z6 (fun _=>?_) fun _=>?_|refine Z7 (fun _=>?_) fun _=>?_)<;>(try simp (disch:=first|omega|(simp<;>omega)|fail) [*,Ze]))
      exact Wa.get
 .have hkN:k=N:=by omega
  subst hkN;simp only [Nat.sub_self,many,Option.some.injEq,Prod.mk.injEq] at hmy;rw [<- hmy.1,List.append_nil] at hks;have V9:=hA.inl;have Zuu:=hA.inlT;rw [<- hks] at V9;rw [V9] at Zuu;clear hmy hm hks;have hot:=hA.ownT
  ((try simp (disch:=first|omega|(simp<;>omega)|fail) [*,Ze]);repeat'(first|refine Z8 ?_|refine Z9 ?_|refine Z0 ?_|refine Z1 fun _=>?_|refine Z2 fun _ _=>?_|refine Z3 (fun _=>?_) fun _ _=>?_|refine Z4 fun _=>?_|refine Z5 fun _=>?_|refine Z6 (fun _=>?_) fun _=>?_|refine Z7 (fun _=>?_) fun _=>?_)<;>(try simp (disch:=first|omega|(simp<;>omega)|fail) [*,Ze]))
  exact hot
end Go.Proofs.YtabcdhcpilpojaaGreatDoor
end
section
set_option maxRecDepth 20000
namespace Go.Proofs.YtabcdhcpilpojaaGreatDoor
open Go Go.Pure
open Go.Virt (Ex Ctx Ty TK)
theorem Zaan (b:Bool)(t:List Nd)(hs:∀ n∈t,n.Short)(hl:t.length < 2^30)(i:Nat)(hi:i < t.length)(ks:List Tr)(r:List Nd)(N:Nat)(hN:t[i].kids=N)(hm:many (Zj 257) N (t.drop (i+1))=some (ks,r)):
  Xr vE 113 [L 58 b (t.map Zu),.int .i64 i] (.agg [.str t[i].name,L 3 true ((Yu ks).map (.int .i64)),.int .i64 t[i].sort]):=by
 have h:=Zaah b t hs hl i hi ks r N hN hm;clear hm hs;intro K H;refine Zh (fn:=Tryz.f113) rfl Tryz.func113 rfl rfl (by simp) (by simp) ?_ (by simp [*])
 (simp (disch:=first|omega|(simp<;>omega)|fail) [*,Ze,Tryz.f113,Zu])
 refine Z0 ?_
 ((try simp (disch:=first|omega|(simp<;>omega)|fail) [*,Ze]);repeat'(first|refine Z8 ?_|refine Z9 ?_|refine Z0 ?_|refine Z1 fun _=>?_|refine Z2 fun _ _=>?_|refine Z3 (fun _=>?_) fun _ _=>?_|refine Z4 fun _=>?_|refine Z5 fun _=>?_|refine Z6 (fun _=>?_) fun _=>?_|refine Z7 (fun _=>?_) fun _=>?_)<;>(try simp (disch:=first|omega|(simp<;>omega)|fail) [*,Ze]))
end Go.Proofs.YtabcdhcpilpojaaGreatDoor
end
section
set_option maxRecDepth 20000
namespace Go.Proofs.YtabcdhcpilpojaaGreatDoor
open Go Go.Pure
open Go.Virt (Ex Ctx Ty TK)
structure Use where
 fn:Bool
 name:Yk
 args:List Int
 sort:Int
 deriving DecidableEq
abbrev V6 (u:Use):PV:=.agg [.str u.name,.int .i64 u.sort]
abbrev Xd (u:Use):PV:=.agg [.str u.name,L 3 true (u.args.map (.int .i64)),.int .i64 u.sort]
def Wh (n:Nd)(r:List Nd):List Use:=
 if n.op=4 then [⟨false,n.name,[],n.sort⟩]
 else if n.op=5 then (match many (Zj 257) n.kids.toNat r with
  | some (ks,_)=>[⟨true,n.name,Yu ks,n.sort⟩]
  | none=>[]) else []
def Yc:List Nd->List Use
 | []=>[]
 | n::r=>Wh n r++Yc r
def Clean (l:List Use):Prop:=∀ u∈l,∀ v∈l,u.name=v.name->u=v
instance (l:List Use):Decidable (Clean l):=by unfold Clean;infer_instance
def X3 (l:List Use):Bool:=decide (Clean l)
theorem Zeq {n:Nd}{r:List Nd}{u:Use}(h:u∈Wh n r)(hf:u.fn=false):u.args=[]:=by
 unfold Wh at h;split at h
 .simp at h;rw [h]
 .split at h
  .split at h
   .simp at h;rw [h] at hf;cases hf
   .cases h
  .cases h
structure UInv (t:List Nd)(i:Nat)(P vs fs:List Use):Prop where
 split:Yc t=P++Yc (t.drop i)
 hv:∀ u,u∈vs↔u∈P/\u.fn=false
 hf:∀ u,u∈fs↔u∈P/\u.fn=true
 sep:∀ u∈P,∀ v∈P,u.fn=v.fn->u.name=v.name->u=v
 args:∀ u∈P,u.fn=false->u.args=[]
 lv:vs.length<=i
 lf:fs.length<=i
theorem UInv.start (t:List Nd):UInv t 0 [] [] []:=⟨by simp,by simp,by simp,by simp,by simp,by simp,by simp⟩
theorem UInv.next {t:List Nd}{i:Nat}{P vs fs:List Use}(I:UInv t i P vs fs)(hi:i < t.length):Yc t=P++Wh t[i] (t.drop (i+1))++Yc (t.drop (i+1)):=by
 rw [I.split,List.drop_eq_getElem_cons hi,Yc,List.append_assoc]
theorem UInv.other {t:List Nd}{i:Nat}{P vs fs:List Use}(I:UInv t i P vs fs)(hi:i < t.length)(h4:t[i].op≠4)(h5:t[i].op≠5):UInv t (i+1) P vs fs:=by
 refine ⟨?_,I.hv,I.hf,I.sep,I.args,by have:=I.lv;omega,by have:=I.lf;omega⟩;rw [I.next hi];simp [Wh,h4,h5]
theorem UInv.known {t:List Nd}{i:Nat}{P vs fs:List Use}{u:Use}(I:UInv t i P vs fs)(hi:i < t.length)(hu:Wh t[i] (t.drop (i+1))=[u])(hm:u∈P):UInv t (i+1) (P++[u]) vs fs:=by
 have hP:∀ v,v∈P++[u]↔v∈P:=fun v=>by
  simp only [List.mem_append,List.mem_singleton];exact ⟨fun h=>h.elim id fun e=>e ▸ hm,Or.inl⟩
 refine ⟨by rw [I.next hi,hu],fun v=>by rw [hP];exact I.hv v,fun v=>by rw [hP];exact I.hf v,fun a ha b hb=>I.sep a ((hP a).1 ha) b ((hP b).1 hb),fun a ha=>I.args a ((hP a).1 ha),by have:=I.lv;omega,by have:=I.lf;omega⟩
theorem UInv.fresh {t:List Nd}{i:Nat}{P vs fs:List Use}{u:Use}(I:UInv t i P vs fs)(hi:i < t.length)(hu:Wh t[i] (t.drop (i+1))=[u])(hn:∀ v∈P,v.fn=u.fn->v.name≠u.name):UInv t (i+1) (P++[u]) (if u.fn then vs else vs++[u]) (if u.fn then fs++[u] else fs):=by
 refine ⟨by rw [I.next hi,hu],fun v=>?_,fun v=>?_,fun a ha b hb hab Ys=>?_,fun a ha hfa=>?_,?_,?_⟩
 .cases hf:u.fn with
  | true=>
    simp only [if_true,List.mem_append,List.mem_singleton,I.hv];constructor
    .rintro ⟨h1,h2⟩;exact ⟨Or.inl h1,h2⟩
    .rintro ⟨h1 | rfl,h2⟩
     .exact ⟨h1,h2⟩
     .rw [hf] at h2;cases h2
  | false=>
    simp only [Bool.false_eq_true,if_false,List.mem_append,List.mem_singleton,I.hv];constructor
    .rintro (⟨h1,h2⟩ | rfl)
     .exact ⟨Or.inl h1,h2⟩
     .exact ⟨Or.inr rfl,hf⟩
    .rintro ⟨h1 | h1,h2⟩
     .exact Or.inl ⟨h1,h2⟩
     .exact Or.inr h1
 .cases hf:u.fn with
  | false=>
    simp only [Bool.false_eq_true,if_false,List.mem_append,List.mem_singleton,I.hf];constructor
    .rintro ⟨h1,h2⟩;exact ⟨Or.inl h1,h2⟩
    .rintro ⟨h1 | rfl,h2⟩
     .exact ⟨h1,h2⟩
     .rw [hf] at h2;cases h2
  | true=>
    simp only [if_true,List.mem_append,List.mem_singleton,I.hf];constructor
    .rintro (⟨h1,h2⟩ | rfl)
     .exact ⟨Or.inl h1,h2⟩
     .exact ⟨Or.inr rfl,hf⟩
    .rintro ⟨h1 | h1,h2⟩
     .exact Or.inl ⟨h1,h2⟩
     .exact Or.inr h1
 .simp only [List.mem_append,List.mem_singleton] at ha hb;rcases ha with ha | rfl
  .rcases hb with hb | rfl
   .exact I.sep a ha b hb hab Ys
   .exact absurd Ys (hn a ha hab)
  .rcases hb with hb | rfl
   .exact absurd Ys.symm (hn b hb hab.symm)
   .rfl
 .simp only [List.mem_append,List.mem_singleton] at ha;rcases ha with ha | rfl
  .exact I.args a ha hfa
  .exact Zeq (n:=t[i]) (r:=t.drop (i+1)) (by rw [hu];simp) hfa
 .have:=I.lv;split<;>simp<;>omega
 .have:=I.lf;split<;>simp<;>omega
theorem UInv.bad {t:List Nd}{i:Nat}{P vs fs:List Use}{u v:Use}(I:UInv t i P vs fs)(hi:i < t.length)(hu:Wh t[i] (t.drop (i+1))=[u])(hm:v∈P)(hn:v.name=u.name)(Ys:v≠u):X3 (Yc t)=false:=by
 unfold X3;rw [decide_eq_false_iff_not];intro hc;refine Ys (hc v ?_ u ?_ hn)
 .rw [I.split];exact List.mem_append_left _ hm
 .rw [I.next hi,hu];simp
theorem UInv.done {t:List Nd}{P vs fs:List Use}(I:UInv t t.length P vs fs)(h:∀ v∈vs,∀ f∈fs,v.name≠f.name):X3 (Yc t)=true:=by
 unfold X3;rw [decide_eq_true_iff];have e:Yc t=P:=by rw [I.split];simp [Yc]
 rw [e];intro u hu v hv hn;cases h1:u.fn with
 | true=>
   cases h2:v.fn with
   | true=>exact I.sep u hu v hv (by rw [h1,h2]) hn
   | false=>exact absurd hn.symm (h v ((I.hv v).2 ⟨hv,h2⟩) u ((I.hf u).2 ⟨hu,h1⟩))
 | false=>
   cases h2:v.fn with
   | true=>exact absurd hn (h u ((I.hv u).2 ⟨hu,h1⟩) v ((I.hf v).2 ⟨hv,h2⟩))
   | false=>exact I.sep u hu v hv (by rw [h1,h2]) hn
theorem UInv.cross {t:List Nd}{P vs fs:List Use}{v f:Use}(I:UInv t t.length P vs fs)(hv:v∈vs)(hf:f∈fs)(h:v.name=f.name):X3 (Yc t)=false:=by
 unfold X3;rw [decide_eq_false_iff_not];intro hc;have e:Yc t=P:=by rw [I.split];simp [Yc]
 rw [e] at hc;have h1:=(I.hv v).1 hv;have h2:=(I.hf f).1 hf;have:=hc v h1.1 f h2.1 h;rw [this,h2.2] at h1;cases h1.2
end Go.Proofs.YtabcdhcpilpojaaGreatDoor
end
section
set_option maxRecDepth 20000
namespace Go.Proofs.YtabcdhcpilpojaaGreatDoor
open Go Go.Pure
open Go.Virt (Ex Ctx Ty TK)
def Z55 (t:List Nd):Prop:=∀ i (h:i < t.length),t[i].op=5->∃ N ks r,t[i].kids=((N:Nat):Int)/\many (Zj 257) N (t.drop (i+1))=some (ks,r)
set_option maxHeartbeats 4000000 in
theorem Z5h (b:Bool)(t:List Nd)(hs:∀ n∈t,n.Short)(hl:t.length < 2^30)(hw:Z55 t):Xr vE 92 [L 58 b (t.map Zu)] (.bool (X3 (Yc t))):=by
 intro K H;refine Zh (fn:=Tryz.f92) rfl Tryz.func92 rfl rfl (by simp) (by simp) ?_ (by simp [*])
 ((try simp (disch:=first|omega|(simp<;>omega)|fail) [*,Ze,Tryz.f92]);repeat'(first|refine Z8 ?_|refine Z9 ?_|refine Z0 ?_|refine Z1 fun _=>?_|refine Z2 fun _ _=>?_|refine Z3 (fun _=>?_) fun _ _=>?_|refine Z4 fun _=>?_|refine Z5 fun _=>?_|refine Z6 (fun _=>?_) fun _=>?_|refine Z7 (fun _=>?_) fun _=>?_)<;>(try simp (disch:=first|omega|(simp<;>omega)|fail) [*,Ze,Tryz.f92]))
 refine Zz [0] (fun m sl h=>∃ (i:Nat) (P vs fs:List Use) (wv wf:PV),m=t.length - i/\i<=t.length/\UInv t i P vs fs/\(∀ f∈fs,f.args.length < 2^30)/\sl 5=some (.int .i64 i)/\sl 3=some wv/\sl 4=some wf /\
  Acc [69] ⟨H.next,H.next,[]⟩ h 69 wv (vs.map V6)/\Acc [113] ⟨H.next,H.next,[]⟩ h 155 wf (fs.map Xd)/\h.next=H.next+137) t.length rfl ⟨0,[],[],[],.nils,.nils,by simp,by simp,UInv.start t,by simp,rfl,rfl,rfl,Acc.nil,Acc.nil,by simp⟩ ?_
 rintro m sl h hf ⟨i,P,vs,fs,wv,wf,hm',hi,I,Tk,h5,h3,h4,hAv,hAf,Rg⟩;simp at hf;have hlv:=I.lv;have hlf:=I.lf;replace I:=Hide.mk I;replace Tk:=Hide.mk Tk
 have lkv:lenK (.slice 69) wv=some (.int .i64 vs.length):=by
  have:=hAv.lenK (e:=69)
  rwa [List.length_map] at this
 have lkf:lenK (.slice 155) wf=some (.int .i64 fs.length):=by
  have:=hAf.lenK (e:=155)
  rwa [List.length_map] at this
 by_cases hlt:i < t.length
 .generalize hn:t[i]=n;by_cases h4':n.op=4
  ·
   have hu:Wh t[i] (t.drop (i+1))=[⟨false,n.name,[],n.sort⟩]:=by rw [hn];simp [Wh,h4']
   replace hu:=Hide.mk hu
   ((try simp (disch:=first|omega|(simp<;>omega)|fail) [*,Ze,Zu]);repeat'(first|refine Z8 ?_|refine Z9 ?_|refine Z0 ?_|refine Z1 fun _=>?_|refine Z2 fun _ _=>?_|refine Z3 (fun _=>?_) fun _ _=>?_|refine Z4 fun _=>?_|refine Z5 fun _=>?_|refine Z6 (fun _=>?_) fun _=>?_|refine Z7 (fun _=>?_) fun _=>?_)<;>(try simp (disch:=first|omega|(simp<;>omega)|fail) [*,Ze,Zu]))
   refine Zz [0,3,4,5] (fun m2 sl2 h2=>∃ (k:Nat) (kn:Bool),m2=vs.length - k/\k<=vs.length/\h2=h/\sl2 7=some (.int .i64 k)/\sl2 6=some (.bool kn)/\(kn=true->∃ u∈vs,u.name=n.name/\u.sort=n.sort) /\
    (kn=false->∀ j (hj:j < vs.length),j < k->vs[j].name≠n.name)) vs.length rfl ⟨0,false,by simp,by simp,rfl,by simp,by simp,by simp,by simp⟩ ?_
   rintro m2 sl2 h2 hf2 ⟨k,kn,hm2,hk,rfl,h7,h6,hkt,hkf⟩;simp at hf2;replace hkt:=Hide.mk hkt;replace hkf:=Hide.mk hkf;by_cases hkl:k < vs.length
   .obtain ⟨d,Zg,hd,rfl,hg⟩:=hAv.pos hkl;simp at hd;subst hd;generalize hvk:vs[k]=v;have hvm:v∈vs:=by rw [<- hvk];exact List.getElem_mem hkl
    have hvP:=(I.get.hv v).1 hvm
    ((try simp (disch:=first|omega|(simp<;>omega)|fail) [*,Ze,Zu,V6]);repeat'(first|refine Z8 ?_|refine Z9 ?_|refine Z0 ?_|refine Z1 fun _=>?_|refine Z2 fun _ _=>?_|refine Z3 (fun _=>?_) fun _ _=>?_|refine Z4 fun _=>?_|refine Z5 fun _=>?_|refine Z6 (fun _=>?_) fun _=>?_|refine Z7 (fun _=>?_) fun _=>?_)<;>(try simp (disch:=first|omega|(simp<;>omega)|fail) [*,Ze,Zu,V6]))
    .rename_i e1 e2;exact ⟨_,by omega,k+1,rfl,by omega,by omega,v,hvm,e1,e2⟩
    .rename_i e1 _ e2;exact I.get.bad hlt hu.get hvP.1 e1 (by rintro rfl;exact e2 rfl)
    .rename_i e1 e2;refine ⟨_,by omega,k+1,rfl,by omega,by omega,hkt.get,fun hk0 j hj hjk=>?_⟩;by_cases e:j=k
     .subst e;rw [hvk];exact e2
     .exact hkf.get hk0 j hj (by omega)
   .cases kn
    .have hno:=hkf.get rfl
     have T7:=I.get.fresh hlt hu.get (fun v hv Rc hnm=>by
      obtain ⟨j,hj,rfl⟩:=List.getElem_of_mem ((I.get.hv v).2 ⟨hv,Rc⟩);exact hno j hj (by omega) hnm)
     simp only [Bool.false_eq_true,if_false] at T7;obtain ⟨w',h',hap,Vi,Zb1,Zm⟩:=hAv.app (dd:=69) (ys:=[V6 ⟨false,n.name,[],n.sort⟩]) (T:={k:=.struct [(0,9),(1,3)],size:=2,bytes:=24,zero:=[.string {data:=#[]},.int .i64 0]}) (by simp) rfl (by simp;omega) (by decide) (by decide) (by simp);simp only [List.length_cons,List.length_nil] at hap;have Wp:=hAv.same (n:=3);have Zkq:=Vi.same (n:=3);have Zzi:=hAf.frame (h':=h') fun d hd=>Zm _ fun d' hd'=>by simp at hd hd';subst hd;subst hd';simp
     have Wa:∃ m,m < t.length - i/\∃ i_1:Nat,m=t.length - i_1/\i_1<=t.length/\∃ x x_1 x_2,UInv t i_1 x x_1 x_2/\(∀ f∈x_2,f.args.length < 2^30)/\(i:Int)+1=i_1/\Acc [69] ⟨H.next,H.next,[]⟩ h' 69 w' (List.map V6 x_1)/\Acc [113] ⟨H.next,H.next,[]⟩ h' 155 wf (List.map Xd x_2):=
      ⟨_,by omega,i+1,rfl,by omega,_,_,_,T7,Tk.get,by omega,by simpa using Vi,Zzi⟩
     replace Wa:=Hide.mk Wa;clear hno T7 Vi Zm Zzi
     ((try simp (disch:=first|omega|(simp<;>omega)|fail) [*,Ze,Zu]);repeat'(first|refine Z8 ?_|refine Z9 ?_|refine Z0 ?_|refine Z1 fun _=>?_|refine Z2 fun _ _=>?_|refine Z3 (fun _=>?_) fun _ _=>?_|refine Z4 fun _=>?_|refine Z5 fun _=>?_|refine Z6 (fun _=>?_) fun _=>?_|refine Z7 (fun _=>?_) fun _=>?_)<;>(try simp (disch:=first|omega|(simp<;>omega)|fail) [*,Ze,Zu]))
     exact Wa.get
    .obtain ⟨v,hv,e1,e2⟩:=hkt.get rfl;have hvP:=(I.get.hv v).1 hv;have e3:=I.get.args v hvP.1 hvP.2
     have T7:=I.get.known hlt hu.get (by
      have:v=⟨false,n.name,[],n.sort⟩:=by
       obtain ⟨vf,vn,va,Rk⟩:=v;simp at hvP e1 e2 e3;rw [hvP.2,e1,e2,e3]
      rw [<- this];exact hvP.1)
     replace T7:=Hide.mk T7;clear hvP e1 e2 e3 hv
     ((try simp (disch:=first|omega|(simp<;>omega)|fail) [*,Ze,Zu,V6]);repeat'(first|refine Z8 ?_|refine Z9 ?_|refine Z0 ?_|refine Z1 fun _=>?_|refine Z2 fun _ _=>?_|refine Z3 (fun _=>?_) fun _ _=>?_|refine Z4 fun _=>?_|refine Z5 fun _=>?_|refine Z6 (fun _=>?_) fun _=>?_|refine Z7 (fun _=>?_) fun _=>?_)<;>(try simp (disch:=first|omega|(simp<;>omega)|fail) [*,Ze,Zu,V6]))
     exact ⟨_,by omega,i+1,rfl,by omega,_,_,_,T7.get,Tk.get,by omega,hAv,hAf⟩
  .by_cases h5':n.op=5
   ·
    obtain ⟨N,ks,r,hk,hm⟩:=hw i hlt (by rw [hn];exact h5');have h113:=Zaan b t hs hl i hlt ks r N hk hm;rw [hn] at h113 hk;have hu:Wh t[i] (t.drop (i+1))=[⟨true,n.name,Yu ks,n.sort⟩]:=by rw [hn];simp [Wh,h5',hk,hm]
    replace hu:=Hide.mk hu
    have Zut:(Yu ks).length < 2^30:=by
     rw [Uz];have h1:=Q6 hm;obtain ⟨a,ha,hka⟩:=S4 (fun _ _ _ hh=>Xc hh) hm;have:=congrArg List.length ha;simp at this;omega
    generalize Yu ks=xs at *;clear hm hk
    ((try simp (disch:=first|omega|(simp<;>omega)|fail) [*,Ze,Zu]);repeat'(first|refine Z8 ?_|refine Z9 ?_|refine Z0 ?_|refine Z1 fun _=>?_|refine Z2 fun _ _=>?_|refine Z3 (fun _=>?_) fun _ _=>?_|refine Z4 fun _=>?_|refine Z5 fun _=>?_|refine Z6 (fun _=>?_) fun _=>?_|refine Z7 (fun _=>?_) fun _=>?_)<;>(try simp (disch:=first|omega|(simp<;>omega)|fail) [*,Ze,Zu]))
    generalize hv8:h.stamp (H.next+8)=v8
    refine Zz [0,3,4,5,8] (fun m2 sl2 h2=>∃ (k:Nat) (kn:Bool),m2=fs.length - k/\k<=fs.length/\Acc [69] ⟨H.next,H.next,[]⟩ h2 69 wv (vs.map V6)/\Acc [113] ⟨H.next,H.next,[]⟩ h2 155 wf (fs.map Xd)/\h2.next=H.next+137 /\
     h2.get (H.next+8)=some (v8,.cells [.str n.name,L 3 true (xs.map (.int .i64)),.int .i64 n.sort])/\sl2 10=some (.int .i64 k)/\sl2 9=some (.bool kn)/\(kn=true->(⟨true,n.name,xs,n.sort⟩:Use)∈fs) /\
     (kn=false->∀ j (hj:j < fs.length),j < k->fs[j].name≠n.name)) fs.length rfl ⟨0,false,by simp,by simp,hAv.frame fun d hd=>by simp at hd;subst hd;simp,hAf.frame fun d hd=>by simp at hd;subst hd;simp,by simp [Rg],by simp,by simp,by simp,by simp,by simp⟩ ?_
    rintro m2 sl2 h2 hf2 ⟨k,kn,hm2,hk,Z4e,Zu5,Z3j,hc8,h10,h9,hkt,hkf⟩;simp at hf2;replace hkt:=Hide.mk hkt;replace hkf:=Hide.mk hkf;clear hAv hAf Rg h113;by_cases hkl:k < fs.length
    .obtain ⟨d,Zg,hd,rfl,hg⟩:=Zu5.pos hkl;simp at hd;subst hd;generalize hvk:fs[k]=v;have hvm:v∈fs:=by rw [<- hvk];exact List.getElem_mem hkl
     have hvP:=(I.get.hf v).1 hvm;have h114:=Zaam true true v.args xs (Nat.lt_trans (Tk.get v hvm) (by decide)) (by omega);generalize hq:(v.args==xs)=q at h114
     ((try simp (disch:=first|omega|(simp<;>omega)|fail) [*,Ze,Zu,Xd]);repeat'(first|refine Z8 ?_|refine Z9 ?_|refine Z0 ?_|refine Z1 fun _=>?_|refine Z2 fun _ _=>?_|refine Z3 (fun _=>?_) fun _ _=>?_|refine Z4 fun _=>?_|refine Z5 fun _=>?_|refine Z6 (fun _=>?_) fun _=>?_|refine Z7 (fun _=>?_) fun _=>?_)<;>(try simp (disch:=first|omega|(simp<;>omega)|fail) [*,Ze,Zu,Xd]))
     .rename_i e1 e2 e3;refine ⟨_,by omega,k+1,rfl,by omega,by omega,?_⟩;obtain ⟨vf,vn,va,Rk⟩:=v;rw [e3] at hq;simp at hvP e1 e2 e3 hq;rw [<- e1,<- e2,<- hq,<- hvP.2];exact hvm
     .rename_i e1 e2 e3;refine I.get.bad hlt hu.get hvP.1 e1 ?_;rintro rfl;rw [e3] at hq;simp at hq
     .rename_i e1 _ e2;exact I.get.bad hlt hu.get hvP.1 e1 (by rintro rfl;exact e2 rfl)
     .rename_i e1 e2;refine ⟨_,by omega,k+1,rfl,by omega,by omega,hkt.get,fun hk0 j hj hjk=>?_⟩;by_cases e:j=k
      .subst e;rw [hvk];exact e2
      .exact hkf.get hk0 j hj (by omega)
    .cases kn
     .have hno:=hkf.get rfl
      have T7:=I.get.fresh hlt hu.get (fun v hv Rc hnm=>by
       obtain ⟨j,hj,rfl⟩:=List.getElem_of_mem ((I.get.hf v).2 ⟨hv,Rc⟩);exact hno j hj (by omega) hnm)
      simp only [if_true] at T7;obtain ⟨w',h',hap,Vi,Zb1,Zm⟩:=Zu5.app (dd:=113) (ys:=[Xd ⟨true,n.name,xs,n.sort⟩]) (T:={k:=.struct [(0,9),(1,22),(2,3)],size:=3,bytes:=48,zero:=[.string {data:=#[]},.slice none 0 0,.int .i64 0]}) (by simp) rfl (by simp;omega) (by decide) (by decide) (by simp);simp only [List.length_cons,List.length_nil] at hap;have Wp:=Zu5.same (n:=3);have Zkq:=Vi.same (n:=3);have Zzh:=Z4e.frame (h':=h') fun d hd=>Zm _ fun d' hd'=>by simp at hd hd';subst hd;subst hd';simp
      have Wa:∃ m,m < t.length - i/\∃ i_1:Nat,m=t.length - i_1/\i_1<=t.length/\∃ x x_1 x_2,UInv t i_1 x x_1 x_2/\(∀ f∈x_2,f.args.length < 2^30)/\(i:Int)+1=i_1/\Acc [69] ⟨H.next,H.next,[]⟩ h' 69 wv (List.map V6 x_1)/\Acc [113] ⟨H.next,H.next,[]⟩ h' 155 w' (List.map Xd x_2):=
       ⟨_,by omega,i+1,rfl,by omega,_,_,_,T7,(by
        intro f hf;rcases List.mem_append.1 hf with hf | hf
        .exact Tk.get f hf
        .simp at hf;rw [hf];exact Zut),by omega,Zzh,by simpa using Vi⟩
      replace Wa:=Hide.mk Wa;clear hno T7 Vi Zm Zzh
      ((try simp (disch:=first|omega|(simp<;>omega)|fail) [*,Ze,Zu,Xd]);repeat'(first|refine Z8 ?_|refine Z9 ?_|refine Z0 ?_|refine Z1 fun _=>?_|refine Z2 fun _ _=>?_|refine Z3 (fun _=>?_) fun _ _=>?_|refine Z4 fun _=>?_|refine Z5 fun _=>?_|refine Z6 (fun _=>?_) fun _=>?_|refine Z7 (fun _=>?_) fun _=>?_)<;>(try simp (disch:=first|omega|(simp<;>omega)|fail) [*,Ze,Zu,Xd]))
      exact Wa.get
     .have T7:=I.get.known hlt hu.get ((I.get.hf _).1 (hkt.get rfl)).1;replace T7:=Hide.mk T7
      ((try simp (disch:=first|omega|(simp<;>omega)|fail) [*,Ze,Zu,Xd]);repeat'(first|refine Z8 ?_|refine Z9 ?_|refine Z0 ?_|refine Z1 fun _=>?_|refine Z2 fun _ _=>?_|refine Z3 (fun _=>?_) fun _ _=>?_|refine Z4 fun _=>?_|refine Z5 fun _=>?_|refine Z6 (fun _=>?_) fun _=>?_|refine Z7 (fun _=>?_) fun _=>?_)<;>(try simp (disch:=first|omega|(simp<;>omega)|fail) [*,Ze,Zu,Xd]))
      exact ⟨_,by omega,i+1,rfl,by omega,_,_,_,T7.get,Tk.get,by omega,Z4e,Zu5⟩
   .replace I:=I.get.other hlt (by rw [hn];exact h4') (by rw [hn];exact h5')
    ((try simp (disch:=first|omega|(simp<;>omega)|fail) [*,Ze,Zu]);repeat'(first|refine Z8 ?_|refine Z9 ?_|refine Z0 ?_|refine Z1 fun _=>?_|refine Z2 fun _ _=>?_|refine Z3 (fun _=>?_) fun _ _=>?_|refine Z4 fun _=>?_|refine Z5 fun _=>?_|refine Z6 (fun _=>?_) fun _=>?_|refine Z7 (fun _=>?_) fun _=>?_)<;>(try simp (disch:=first|omega|(simp<;>omega)|fail) [*,Ze,Zu]))
    exact ⟨_,by omega,i+1,rfl,by omega,P,vs,fs,I,Tk.get,by omega,hAv,hAf⟩
 .have hil:i=t.length:=by omega
  subst hil;replace hs:=Hide.mk hs
  ((try simp (disch:=first|omega|(simp<;>omega)|fail) [*,Ze]);repeat'(first|refine Z8 ?_|refine Z9 ?_|refine Z0 ?_|refine Z1 fun _=>?_|refine Z2 fun _ _=>?_|refine Z3 (fun _=>?_) fun _ _=>?_|refine Z4 fun _=>?_|refine Z5 fun _=>?_|refine Z6 (fun _=>?_) fun _=>?_|refine Z7 (fun _=>?_) fun _=>?_)<;>(try simp (disch:=first|omega|(simp<;>omega)|fail) [*,Ze]))
  refine Zz [3,4] (fun m2 sl2 h2=>∃ k:Nat,m2=vs.length - k/\k<=vs.length/\Acc [69] ⟨H.next,H.next,[]⟩ h2 69 wv (vs.map V6)/\Acc [113] ⟨H.next,H.next,[]⟩ h2 155 wf (fs.map Xd)/\h2.next=H.next+137/\sl2 11=some (.int .i64 k) /\
   ∀ j (hj:j < vs.length),j < k->∀ f∈fs,vs[j].name≠f.name) vs.length rfl ⟨0,by simp,by simp,hAv,hAf,Rg,by simp,by simp⟩ ?_
  rintro m2 sl2 h2 hf2 ⟨k,hm2,hk,Z4e,Zu5,Z3j,h11,hno⟩;simp at hf2;clear hAv hAf Rg;replace hno:=Hide.mk hno;by_cases hkl:k < vs.length
  .generalize hvk:vs[k]=v;have hvm:v∈vs:=by rw [<- hvk];exact List.getElem_mem hkl
   ((try simp (disch:=first|omega|(simp<;>omega)|fail) [*,Ze]);repeat'(first|refine Z8 ?_|refine Z9 ?_|refine Z0 ?_|refine Z1 fun _=>?_|refine Z2 fun _ _=>?_|refine Z3 (fun _=>?_) fun _ _=>?_|refine Z4 fun _=>?_|refine Z5 fun _=>?_|refine Z6 (fun _=>?_) fun _=>?_|refine Z7 (fun _=>?_) fun _=>?_)<;>(try simp (disch:=first|omega|(simp<;>omega)|fail) [*,Ze]))
   refine Zz [3,4,11] (fun m3 sl3 h3=>∃ l:Nat,m3=fs.length - l/\l<=fs.length/\Acc [69] ⟨H.next,H.next,[]⟩ h3 69 wv (vs.map V6)/\Acc [113] ⟨H.next,H.next,[]⟩ h3 155 wf (fs.map Xd)/\h3.next=H.next+137/\sl3 12=some (.int .i64 l) /\
    ∀ j (hj:j < fs.length),j < l->v.name≠fs[j].name) fs.length rfl ⟨0,by simp,by simp,Z4e,Zu5,Z3j,by simp,by simp⟩ ?_
   rintro m3 sl3 h3 hf3 ⟨l,hm3,hl3,hAv3,hAf3,hnx3,h12,Z8a⟩;simp at hf3;clear Z4e Zu5 Z3j;replace Z8a:=Hide.mk Z8a;by_cases To:l < fs.length
   .obtain ⟨d,Zg,hd,rfl,hg⟩:=hAv3.pos hkl;obtain ⟨d2,Ziv,hd2,rfl,hg2⟩:=hAf3.pos To;simp at hd hd2;subst hd;subst hd2;generalize hfk:fs[l]=f;have hfm:f∈fs:=by rw [<- hfk];exact List.getElem_mem To
    ((try simp (disch:=first|omega|(simp<;>omega)|fail) [*,Ze,V6,Xd]);repeat'(first|refine Z8 ?_|refine Z9 ?_|refine Z0 ?_|refine Z1 fun _=>?_|refine Z2 fun _ _=>?_|refine Z3 (fun _=>?_) fun _ _=>?_|refine Z4 fun _=>?_|refine Z5 fun _=>?_|refine Z6 (fun _=>?_) fun _=>?_|refine Z7 (fun _=>?_) fun _=>?_)<;>(try simp (disch:=first|omega|(simp<;>omega)|fail) [*,Ze,V6,Xd]))
    .rename_i e;exact I.get.cross hvm hfm e
    .rename_i e1 e2;refine ⟨_,by omega,l+1,rfl,by omega,by omega,fun j hj hjk=>?_⟩;by_cases e:j=l
     .subst e;rw [hfk];exact e2
     .exact Z8a.get j hj (by omega)
   . ((try simp (disch:=first|omega|(simp<;>omega)|fail) [*,Ze]);repeat'(first|refine Z8 ?_|refine Z9 ?_|refine Z0 ?_|refine Z1 fun _=>?_|refine Z2 fun _ _=>?_|refine Z3 (fun _=>?_) fun _ _=>?_|refine Z4 fun _=>?_|refine Z5 fun _=>?_|refine Z6 (fun _=>?_) fun _=>?_|refine Z7 (fun _=>?_) fun _=>?_)<;>(try simp (disch:=first|omega|(simp<;>omega)|fail) [*,Ze]))
     refine ⟨_,by omega,k+1,rfl,by omega,by omega,fun j hj hjk f hf=>?_⟩;by_cases e:j=k
     .subst e;rw [hvk];obtain ⟨l',hl',rfl⟩:=List.getElem_of_mem hf;exact Z8a.get l' hl' (by omega)
     .exact hno.get j hj (by omega) f hf
  . ((try simp (disch:=first|omega|(simp<;>omega)|fail) [*,Ze]);repeat'(first|refine Z8 ?_|refine Z9 ?_|refine Z0 ?_|refine Z1 fun _=>?_|refine Z2 fun _ _=>?_|refine Z3 (fun _=>?_) fun _ _=>?_|refine Z4 fun _=>?_|refine Z5 fun _=>?_|refine Z6 (fun _=>?_) fun _=>?_|refine Z7 (fun _=>?_) fun _=>?_)<;>(try simp (disch:=first|omega|(simp<;>omega)|fail) [*,Ze]))
    exact I.get.done fun v hv f hf=>by
     obtain ⟨j,hj,rfl⟩:=List.getElem_of_mem hv;exact hno.get j hj (by omega) f hf
end Go.Proofs.YtabcdhcpilpojaaGreatDoor
end
section
set_option maxRecDepth 20000
namespace Go.Proofs.YtabcdhcpilpojaaGreatDoor
open Go Go.Pure
open Go.Virt (Ex Ctx Ty TK)
theorem Zar {p q:List Nd->Option (Tr×List Nd)}(hpq:∀ r x,p r=some x->q r=some x):∀ {k:Nat} {r:List Nd} {x:List Tr×List Nd},many p k r=some x->many q k r=some x
 | 0,r,x,h=>h
 | k+1,r,x,h=>by
   simp only [many] at h ⊢;split at h
   .cases h
   .rename_i t1 r1 h1;rw [hpq _ _ h1];simp only;split at h
    .cases h
    .rename_i ts r2 h2;rw [Zar hpq h2];exact h
theorem Qd:∀ {d:Nat} {r:List Nd} {x:Tr×List Nd},Zj d r=some x->Zj (d+1) r=some x
 | 0,r,x,h=>by simp [Zj] at h
 | d+1,[],x,h=>by simp [Zj] at h
 | d+1,n::r,x,h=>by
   simp only [Zj] at h;rw [Zj];split at h
   .rename_i hc;rw [if_pos hc];split at h
    .cases h
    .rename_i ks r' h1;rw [Zar (fun _ _=>Qd) h1];exact h
   .cases h
theorem Qe {d e:Nat}{r:List Nd}{x:Tr×List Nd}(hde:d<=e)(h:Zj d r=some x):Zj e r=some x:=by
 induction e with
 | zero=>have:d=0:=by omega
         rw [<- this];exact h
 | succ e ih=>
   rcases Nat.lt_or_ge e d with h1 | h1
   .have:d=e+1:=by omega
    rw [<- this];exact h
   .exact Qd (ih h1)
theorem Zwd {p q:List Nd->Option (Tr×List Nd)}(hp:∀ r t r',p r=some (t,r')->∀ i,i < r.length - r'.length->∃ t2 r2,q (r.drop i)=some (t2,r2))(hs:∀ r t r',p r=some (t,r')->∃ a,a≠[]/\r=a++r'):
  ∀ {k:Nat} {r r':List Nd} {ts:List Tr},many p k r=some (ts,r')->∀ i,i < r.length - r'.length->∃ t2 r2,q (r.drop i)=some (t2,r2)
 | 0,r,r',ts,h=>by
   simp only [many,Option.some.injEq,Prod.mk.injEq] at h;intro i hi;rw [h.2] at hi;omega
 | k+1,r,r',ts,h=>by
   simp only [many] at h;split at h
   .cases h
   .rename_i t1 r1 h1;split at h
    .cases h
    .rename_i ts2 r2 h2;cases h;intro i hi;rcases Nat.lt_or_ge i (r.length - r1.length) with h3 | h3
     .exact hp _ _ _ h1 i h3
     .obtain ⟨a,_,e⟩:=hs _ _ _ h1;have hl:=congrArg List.length e;simp at hl;obtain ⟨t2,r2',h4⟩:=Zwd hp hs h2 (i - a.length) (by omega);refine ⟨t2,r2',?_⟩;rw [e,List.drop_append];have:List.drop i a=[]:=by rw [List.drop_eq_nil_iff];omega
      rw [this,List.nil_append];exact h4
theorem Zra:∀ {d:Nat} {t r:List Nd} {tr:Tr},Zj d t=some (tr,r)->∀ i,i < t.length - r.length->∃ t2 r2,Zj d (t.drop i)=some (t2,r2)
 | 0,t,r,tr,h=>by simp [Zj] at h
 | d+1,[],r,tr,h=>by simp [Zj] at h
 | d+1,n::t,r,tr,h=>by
   intro i hi;cases i with
   | zero=>exact ⟨_,_,h⟩
   | succ i=>
     simp only [Zj] at h;split at h
     .split at h
      .cases h
      .rename_i ks r' h1;cases h;simp only [List.drop_succ_cons]
       obtain ⟨t2,r2,h2⟩:=Zwd (fun _ _ _ hh=>Zra hh) (fun _ _ _ hh=>Xc hh) h1 i (by
        simp only [List.length_cons] at hi;omega)
       exact ⟨t2,r2,Qd h2⟩
     .cases h
theorem Zs7 {t:List Nd}{tr:Tr}(h:Zj 257 t=some (tr,[])):Z55 t:=by
 intro i hi h5;obtain ⟨t2,r2,h2⟩:=Zra h i (by simpa using hi);rw [List.drop_eq_getElem_cons hi] at h2;have h2':=h2;rw [Zj] at h2';split at h2'
 .rename_i hc;split at h2'
  .cases h2'
  .rename_i ks r3 h3;refine ⟨t[i].kids.toNat,ks,r3,?_,Zar (fun _ _=>Qe (by omega)) h3⟩;have:=hc;rw [Bool.and_eq_true] at this;have:=this.2;simp [Yw,h5] at this;omega
 .cases h2'
def R9 (t:List Nd):Int:=if 20000 < t.length then 0 else match Zj 257 t with
 | some (tr,[])=>if X3 (Yc t) then Yh tr else 0
 | _=>0
end Go.Proofs.YtabcdhcpilpojaaGreatDoor
end
section
set_option maxRecDepth 20000
namespace Go.Proofs.YtabcdhcpilpojaaGreatDoor
open Go Go.Pure
open Go.Virt (Ex Ctx Ty TK)
theorem Z5n (b:Bool)(t:List Nd)(hs:∀ n∈t,n.Short)(hl:t.length < 2^30):Xr vE 34 [L 58 b (t.map Zu)] (.int .i64 (R9 t)):=by
 have h91:=Z5i b t hs hl 257 0 (by omega) (by omega);have h92:=Z5h b t hs hl;unfold Tt at h91;unfold R9;by_cases h2:20000 < t.length
 .rw [if_pos h2];clear h91 h92;intro K H;refine Zh (fn:=Tryz.f34) rfl Tryz.func34 rfl rfl (by simp) (by simp) ?_ (by simp [*])
  ((try simp (disch:=first|omega|(simp<;>omega)|fail) [*,Ze,Tryz.f34]);repeat'(first|refine Z8 ?_|refine Z9 ?_|refine Z0 ?_|refine Z1 fun _=>?_|refine Z2 fun _ _=>?_|refine Z3 (fun _=>?_) fun _ _=>?_|refine Z4 fun _=>?_|refine Z5 fun _=>?_|refine Z6 (fun _=>?_) fun _=>?_|refine Z7 (fun _=>?_) fun _=>?_)<;>(try simp (disch:=first|omega|(simp<;>omega)|fail) [*,Ze,Tryz.f34]))
 .rw [if_neg h2];replace h91:Xr vE 91 [L 58 b (t.map Zu),.int .i64 0,.int .i64 0] _:=h91;simp only [List.drop_zero] at h91;cases hp:Zj 257 t with
  | none=>
    rw [hp] at h91;clear h92 hp;intro K H;refine Zh (fn:=Tryz.f34) rfl Tryz.func34 rfl rfl (by simp) (by simp) ?_ (by simp [*])
    ((try simp (disch:=first|omega|(simp<;>omega)|fail) [*,Ze,Tryz.f34]);repeat'(first|refine Z8 ?_|refine Z9 ?_|refine Z0 ?_|refine Z1 fun _=>?_|refine Z2 fun _ _=>?_|refine Z3 (fun _=>?_) fun _ _=>?_|refine Z4 fun _=>?_|refine Z5 fun _=>?_|refine Z6 (fun _=>?_) fun _=>?_|refine Z7 (fun _=>?_) fun _=>?_)<;>(try simp (disch:=first|omega|(simp<;>omega)|fail) [*,Ze,Tryz.f34]))
  | some x=>
    obtain ⟨tr,r⟩:=x;rw [hp] at h91;simp only at h91;cases r with
    | nil=>
      replace h92:=h92 (Zs7 hp);generalize X3 (Yc t)=c at *;simp only;clear hp hs;by_cases h0:Yh tr=0
      .have e:(if c=true then Yh tr else 0)=0:=by rw [h0];simp
       rw [e];clear e;intro K H;refine Zh (fn:=Tryz.f34) rfl Tryz.func34 rfl rfl (by simp) (by simp) ?_ (by simp [*])
       ((try simp (disch:=first|omega|(simp<;>omega)|fail) [*,Ze,Tryz.f34]);repeat'(first|refine Z8 ?_|refine Z9 ?_|refine Z0 ?_|refine Z1 fun _=>?_|refine Z2 fun _ _=>?_|refine Z3 (fun _=>?_) fun _ _=>?_|refine Z4 fun _=>?_|refine Z5 fun _=>?_|refine Z6 (fun _=>?_) fun _=>?_|refine Z7 (fun _=>?_) fun _=>?_)<;>(try simp (disch:=first|omega|(simp<;>omega)|fail) [*,Ze,Tryz.f34]))
      .cases c
       .intro K H;refine Zh (fn:=Tryz.f34) rfl Tryz.func34 rfl rfl (by simp) (by simp) ?_ (by simp [*])
        ((try simp (disch:=first|omega|(simp<;>omega)|fail) [*,Ze,Tryz.f34]);repeat'(first|refine Z8 ?_|refine Z9 ?_|refine Z0 ?_|refine Z1 fun _=>?_|refine Z2 fun _ _=>?_|refine Z3 (fun _=>?_) fun _ _=>?_|refine Z4 fun _=>?_|refine Z5 fun _=>?_|refine Z6 (fun _=>?_) fun _=>?_|refine Z7 (fun _=>?_) fun _=>?_)<;>(try simp (disch:=first|omega|(simp<;>omega)|fail) [*,Ze,Tryz.f34]))
       .intro K H;refine Zh (fn:=Tryz.f34) rfl Tryz.func34 rfl rfl (by simp) (by simp) ?_ (by simp [*])
        ((try simp (disch:=first|omega|(simp<;>omega)|fail) [*,Ze,Tryz.f34]);repeat'(first|refine Z8 ?_|refine Z9 ?_|refine Z0 ?_|refine Z1 fun _=>?_|refine Z2 fun _ _=>?_|refine Z3 (fun _=>?_) fun _ _=>?_|refine Z4 fun _=>?_|refine Z5 fun _=>?_|refine Z6 (fun _=>?_) fun _=>?_|refine Z7 (fun _=>?_) fun _=>?_)<;>(try simp (disch:=first|omega|(simp<;>omega)|fail) [*,Ze,Tryz.f34]))
    | cons n r=>
      obtain ⟨a,ha,e⟩:=Xc hp;have To:=congrArg List.length e;simp at To;have h1:1<=a.length:=List.length_pos_iff.2 ha;clear h92 hp e;simp only;intro K H;refine Zh (fn:=Tryz.f34) rfl Tryz.func34 rfl rfl (by simp) (by simp) ?_ (by simp [*])
      ((try simp (disch:=first|omega|(simp<;>omega)|fail) [*,Ze,Tryz.f34]);repeat'(first|refine Z8 ?_|refine Z9 ?_|refine Z0 ?_|refine Z1 fun _=>?_|refine Z2 fun _ _=>?_|refine Z3 (fun _=>?_) fun _ _=>?_|refine Z4 fun _=>?_|refine Z5 fun _=>?_|refine Z6 (fun _=>?_) fun _=>?_|refine Z7 (fun _=>?_) fun _=>?_)<;>(try simp (disch:=first|omega|(simp<;>omega)|fail) [*,Ze,Tryz.f34]))
theorem Zvn (b:Bool)(t:List Nd)(hs:∀ n∈t,n.Short)(hl:t.length < 2^30):Xr vE 59 [L 58 b (t.map Zu)] (.bool (decide (0 < R9 t))):=by
 have h:=Z5n b t hs hl;intro K H;refine Zh (fn:=Tryz.f59) rfl Tryz.func59 rfl rfl (by simp) (by simp) ?_ (by simp [*])
 ((try simp (disch:=first|omega|(simp<;>omega)|fail) [*,Ze,Tryz.f59]);repeat'(first|refine Z8 ?_|refine Z9 ?_|refine Z0 ?_|refine Z1 fun _=>?_|refine Z2 fun _ _=>?_|refine Z3 (fun _=>?_) fun _ _=>?_|refine Z4 fun _=>?_|refine Z5 fun _=>?_|refine Z6 (fun _=>?_) fun _=>?_|refine Z7 (fun _=>?_) fun _=>?_)<;>(try simp (disch:=first|omega|(simp<;>omega)|fail) [*,Ze,Tryz.f59]))
end Go.Proofs.YtabcdhcpilpojaaGreatDoor
end
section
set_option maxRecDepth 20000
namespace Go.Proofs.YtabcdhcpilpojaaGreatDoor
open Go Go.Pure
open Go.Virt (Ex Ctx Ty TK)
def Zd6 (a b:Int):Int:=if a < b then -1 else if b < a then 1 else 0
def Zst (a b:Yk):Int:=if ltL a b then -1 else if a==b then 0 else 1
theorem Za4 {a b:Int}:Zd6 a b=0↔a=b:=by
 unfold Zd6;split
 .omega
 .split<;>omega
theorem Znz {a b:Yk}:Zst a b=0->a=b:=by
 unfold Zst;split
 .simp
 .split
  .rename_i h;intro _;simpa using h
  .simp
theorem Z7r (a:Yk):ltL a a=false:=by
 induction a with
 | nil=>rfl
 | cons c a ih=>
   have:c.blt c=false:=by rw [<- Bool.not_eq_true];simp
   simp [ltL,ih,this]
theorem Zz6 (a:Yk):Zst a a=0:=by simp [Zst,Z7r]
theorem Zjn (a b:Int):Xr vE 115 [.int .i64 a,.int .i64 b] (.int .i64 (Zd6 a b)):=by
 intro K H;refine Zh (fn:=Tryz.f115) rfl Tryz.func115 rfl rfl (by simp) (by simp) ?_ (by simp [*])
 ((try simp (disch:=first|omega|(simp<;>omega)|fail) [*,Ze,Tryz.f115]);repeat'(first|refine Z8 ?_|refine Z9 ?_|refine Z0 ?_|refine Z1 fun _=>?_|refine Z2 fun _ _=>?_|refine Z3 (fun _=>?_) fun _ _=>?_|refine Z4 fun _=>?_|refine Z5 fun _=>?_|refine Z6 (fun _=>?_) fun _=>?_|refine Z7 (fun _=>?_) fun _=>?_)<;>(try simp (disch:=first|omega|(simp<;>omega)|fail) [*,Ze,Tryz.f115]))
 all_goals simp [Zd6, *]
 all_goals omega
theorem Zxs (a b:Yk):Xr vE 116 [.str a,.str b] (.int .i64 (Zst a b)):=by
 intro K H;refine Zh (fn:=Tryz.f116) rfl Tryz.func116 rfl rfl (by simp) (by simp) ?_ (by simp [*])
 ((try simp (disch:=first|omega|(simp<;>omega)|fail) [*,Ze,Tryz.f116]);repeat'(first|refine Z8 ?_|refine Z9 ?_|refine Z0 ?_|refine Z1 fun _=>?_|refine Z2 fun _ _=>?_|refine Z3 (fun _=>?_) fun _ _=>?_|refine Z4 fun _=>?_|refine Z5 fun _=>?_|refine Z6 (fun _=>?_) fun _=>?_|refine Z7 (fun _=>?_) fun _=>?_)<;>(try simp (disch:=first|omega|(simp<;>omega)|fail) [*,Ze,Tryz.f116]))
 all_goals simp_all [Zst]
def Sa:List Int->Int
 | []=>0
 | c::r=>if c=0 then Sa r else c
def Zlj (x y:Nd):List Int:=[Zd6 x.op y.op,Zd6 x.sort y.sort,Zst x.name y.name,Zst x.num y.num,Zd6 x.kids y.kids]
def cmpL:List Nd->List Nd->Int
 | x::a,y::b=>if Sa (Zlj x y)=0 then cmpL a b else Sa (Zlj x y)
 | a,b=>Zd6 a.length b.length
theorem Zgr {l:List Int}:Sa l=0↔∀ c∈l,c=0:=by
 induction l with
 | nil=>simp [Sa]
 | cons c r ih=>
   simp only [Sa,List.mem_cons,forall_eq_or_imp];split
   .rw [ih];simp [*]
   .simp [*]
theorem Zli {x y:Nd}:Sa (Zlj x y)=0↔x=y:=by
 rw [Zgr];constructor
 .intro h;simp [Zlj] at h;obtain ⟨h1,h2,h3,h4,h5⟩:=h;cases x;cases y;simp at *;exact ⟨Za4.1 h1,Za4.1 h2,Znz h3,Znz h4,Za4.1 h5⟩
 .rintro rfl;simp [Zlj,Zd6,Zz6]
theorem Zn0:∀ {a b:List Nd},cmpL a b=0↔a=b
 | [],[]=>by simp [cmpL,Zd6]
 | [],y::b=>by
   simp only [cmpL];rw [Za4];simp;omega
 | x::a,[]=>by
   simp only [cmpL];rw [Za4];simp;omega
 | x::a,y::b=>by
   simp only [cmpL];split
   .rename_i h;rw [Zn0,Zli.1 h];simp
   .rename_i h;constructor
    .intro e;exact absurd e h
    .intro e;cases e;exact absurd (Zli.2 rfl) h
theorem Zvb {l:List Int}{k:Nat}(hk:k < l.length)(h0:∀ j (hj:j < l.length),j < k->l[j]=0)(h1:l[k]≠0):Sa l=l[k]:=by
 induction l generalizing k with
 | nil=>simp at hk
 | cons c r ih=>
   cases k with
   | zero=>simp at h1;simp [Sa,h1]
   | succ k=>
     have hc:=h0 0 (by simp) (by omega);simp at hc;simp only [Sa,hc,if_true];simp only [List.getElem_cons_succ] at h1 ⊢;exact ih (by simpa using hk) (fun j hj hjk=>by have:=h0 (j+1) (by simpa using hj) (by omega);simpa using this) h1
set_option maxHeartbeats 2000000 in
theorem Zaf2 (b1 b2:Bool)(x y:List Nd)(hx:x.length < 2^30)(hy:y.length < 2^30):Xr vE 68 [L 58 b1 (x.map Zu),L 58 b2 (y.map Zu)] (.int .i64 (cmpL x y)):=by
 intro K H;refine Zh (fn:=Tryz.f68) rfl Tryz.func68 rfl rfl (by simp) (by simp) ?_ (by simp [*])
 ((try simp (disch:=first|omega|(simp<;>omega)|fail) [*,Ze,Tryz.f68]);repeat'(first|refine Z8 ?_|refine Z9 ?_|refine Z0 ?_|refine Z1 fun _=>?_|refine Z2 fun _ _=>?_|refine Z3 (fun _=>?_) fun _ _=>?_|refine Z4 fun _=>?_|refine Z5 fun _=>?_|refine Z6 (fun _=>?_) fun _=>?_|refine Z7 (fun _=>?_) fun _=>?_)<;>(try simp (disch:=first|omega|(simp<;>omega)|fail) [*,Ze,Tryz.f68]))
 refine Zz [0,1] (fun n sl h=>∃ i:Nat,n=x.length - i/\i<=x.length/\i<=y.length/\sl 5=some (.int .i64 i)/\cmpL x y=cmpL (x.drop i) (y.drop i)) x.length rfl ⟨0,by simp⟩ ?_;rintro n sl h hf ⟨i,hn',hi,hi2,h5,hd⟩;simp at hf;by_cases hlt:i < x.length
 .by_cases Zd4:i < y.length
  .rw [List.drop_eq_getElem_cons hlt,List.drop_eq_getElem_cons Zd4] at hd;generalize hxi:x[i]=p at *;generalize hyi:y[i]=q at *;simp only [cmpL] at hd;replace hd:=Hide.mk hd;generalize R4:Zlj p q=cs at hd;have hcl:cs.length=5:=by rw [<- R4];rfl
   unfold Zlj at R4
   ((try simp (disch:=first|omega|(simp<;>omega)|fail) [*,Ze,Zu,Zjn,Zxs]);repeat'(first|refine Z8 ?_|refine Z9 ?_|refine Z0 ?_|refine Z1 fun _=>?_|refine Z2 fun _ _=>?_|refine Z3 (fun _=>?_) fun _ _=>?_|refine Z4 fun _=>?_|refine Z5 fun _=>?_|refine Z6 (fun _=>?_) fun _=>?_|refine Z7 (fun _=>?_) fun _=>?_)<;>(try simp (disch:=first|omega|(simp<;>omega)|fail) [*,Ze,Zu,Zjn,Zxs]))
   generalize hv8:h.stamp (H.next+8)=v8;refine Zz [0,1,5,8] (fun m2 sl2 h2=>∃ k:Nat,m2=5 - k/\k<=5/\sl2 9=some (.int .i64 k)/\h2.get (H.next+8)=some (v8,.cells (cs.map (.int .i64)))/\∀ j (hj:j < cs.length),j < k->cs[j]=0) 5 rfl ⟨0,by simp,by simp,by simp,by simp [<- R4],by simp⟩ ?_;rintro m2 sl2 h2 hf2 ⟨k,hm2,hk,h9,hg,hz⟩;simp at hf2;clear R4;replace hz:=Hide.mk hz;by_cases hk5:k < 5
   .have hkc:k < cs.length:=by omega
    generalize hck:cs[k]=c
    have hta:List.take 1 (List.drop k (cs.map (PV.int .i64)))=[PV.int .i64 c]:=by
     rw [List.drop_eq_getElem_cons (by simpa using hkc),List.getElem_map,hck];rfl
    have hk4:k<=4:=by omega
    ((try simp (disch:=first|omega|(simp<;>omega)|fail) [*,Ze]);repeat'(first|refine Z8 ?_|refine Z9 ?_|refine Z0 ?_|refine Z1 fun _=>?_|refine Z2 fun _ _=>?_|refine Z3 (fun _=>?_) fun _ _=>?_|refine Z4 fun _=>?_|refine Z5 fun _=>?_|refine Z6 (fun _=>?_) fun _=>?_|refine Z7 (fun _=>?_) fun _=>?_)<;>(try simp (disch:=first|omega|(simp<;>omega)|fail) [*,Ze]))
    .rename_i e;refine ⟨_,by omega,k+1,rfl,by omega,by omega,fun j hj hjk=>?_⟩;by_cases e':j=k
     .subst e';rw [hck];exact e
     .exact hz.get j (by omega) (by omega)
    .rename_i e;have:=Zvb hkc (fun j hj hjk=>hz.get j hj hjk) (by rw [hck];exact e);rw [hck] at this;rw [hd.get,this,if_neg e]
   .have hz0:Sa cs=0:=Zgr.2 fun c hc=>by
     obtain ⟨j,hj,rfl⟩:=List.getElem_of_mem hc;exact hz.get j hj (by omega)
    ((try simp (disch:=first|omega|(simp<;>omega)|fail) [*,Ze]);repeat'(first|refine Z8 ?_|refine Z9 ?_|refine Z0 ?_|refine Z1 fun _=>?_|refine Z2 fun _ _=>?_|refine Z3 (fun _=>?_) fun _ _=>?_|refine Z4 fun _=>?_|refine Z5 fun _=>?_|refine Z6 (fun _=>?_) fun _=>?_|refine Z7 (fun _=>?_) fun _=>?_)<;>(try simp (disch:=first|omega|(simp<;>omega)|fail) [*,Ze]))
    exact ⟨_,by omega,i+1,rfl,by omega,by omega,by omega,by rw [hd.get,if_pos hz0]⟩
  .have e:y.drop i=[]:=by simp;omega
   rw [e] at hd;have hlen:=Zjn x.length y.length
   have e2:cmpL x y=Zd6 x.length y.length:=by
    rw [hd];have:cmpL (x.drop i) []=Zd6 (x.drop i).length 0:=by cases x.drop i<;>rfl
    rw [this];simp only [List.length_drop,Zd6]
    repeat' split
    all_goals omega
   rw [e2] at *;clear hd e
   ((try simp (disch:=first|omega|(simp<;>omega)|fail) [*,Ze]);repeat'(first|refine Z8 ?_|refine Z9 ?_|refine Z0 ?_|refine Z1 fun _=>?_|refine Z2 fun _ _=>?_|refine Z3 (fun _=>?_) fun _ _=>?_|refine Z4 fun _=>?_|refine Z5 fun _=>?_|refine Z6 (fun _=>?_) fun _=>?_|refine Z7 (fun _=>?_) fun _=>?_)<;>(try simp (disch:=first|omega|(simp<;>omega)|fail) [*,Ze]))
 .have e:x.drop i=[]:=by simp;omega
  rw [e] at hd;have hlen:=Zjn x.length y.length
  have e2:cmpL x y=Zd6 x.length y.length:=by
   rw [hd];have:cmpL [] (y.drop i)=Zd6 0 (y.drop i).length:=by cases y.drop i<;>rfl
   rw [this];simp only [List.length_drop,Zd6]
   repeat' split
   all_goals omega
  rw [e2] at *;clear hd e
  ((try simp (disch:=first|omega|(simp<;>omega)|fail) [*,Ze]);repeat'(first|refine Z8 ?_|refine Z9 ?_|refine Z0 ?_|refine Z1 fun _=>?_|refine Z2 fun _ _=>?_|refine Z3 (fun _=>?_) fun _ _=>?_|refine Z4 fun _=>?_|refine Z5 fun _=>?_|refine Z6 (fun _=>?_) fun _=>?_|refine Z7 (fun _=>?_) fun _=>?_)<;>(try simp (disch:=first|omega|(simp<;>omega)|fail) [*,Ze]))
theorem Z5u (b1 b2:Bool)(x y:List Nd)(hx:x.length < 2^30)(hy:y.length < 2^30):Xr vE 18 [L 58 b1 (x.map Zu),L 58 b2 (y.map Zu)] (.bool (decide (x=y))):=by
 have h:=Zaf2 b1 b2 x y hx hy
 have e:(cmpL x y==0)=decide (x=y):=by
  rw [Bool.eq_iff_iff];simp [Zn0]
 rw [<- e];clear e;intro K H;refine Zh (fn:=Tryz.f18) rfl Tryz.func18 rfl rfl (by simp) (by simp) ?_ (by simp [*])
 ((try simp (disch:=first|omega|(simp<;>omega)|fail) [*,Ze,Tryz.f18]);repeat'(first|refine Z8 ?_|refine Z9 ?_|refine Z0 ?_|refine Z1 fun _=>?_|refine Z2 fun _ _=>?_|refine Z3 (fun _=>?_) fun _ _=>?_|refine Z4 fun _=>?_|refine Z5 fun _=>?_|refine Z6 (fun _=>?_) fun _=>?_|refine Z7 (fun _=>?_) fun _=>?_)<;>(try simp (disch:=first|omega|(simp<;>omega)|fail) [*,Ze,Tryz.f18]))
end Go.Proofs.YtabcdhcpilpojaaGreatDoor
end
section
set_option maxRecDepth 20000
namespace Go.Proofs.YtabcdhcpilpojaaGreatDoor
open Go Go.Pure
open Go.Virt (Ex Ctx Ty TK)
end Go.Proofs.YtabcdhcpilpojaaGreatDoor
end
section
set_option maxRecDepth 20000
namespace Go.Proofs.YtabcdhcpilpojaaGreatDoor
open Go Go.Pure
open Go.Virt (Ex Ctx Ty TK)
abbrev encK (k:Bool×List Nd):PV:=L 58 k.1 (k.2.map Zu)
def Y5 (n:Nd)(ks:List (List Nd)):List Nd:={n with kids:=(ks.length:Int)}::ks.flatten
theorem Zo7 (l:List (List Nd))(i:Nat)(h:i < l.length):(l.take (i+1)).flatten=(l.take i).flatten++l[i]:=by
 rw [List.take_add_one,List.flatten_append,List.getElem?_eq_getElem h];simp
set_option maxHeartbeats 1000000 in
theorem Zaf7 (b:Bool)(n:Nd)(ks:List (Bool×List Nd))(hk:ks.length < 2^20)(hl:((ks.map (·.2)).flatten).length < 2^29):Xr vE 47 [Zu n,L 23 b (ks.map encK)] (L 58 true ((Y5 n (ks.map (·.2))).map Zu)):=by
 unfold Y5;rw [List.length_map];generalize hn0:({n with kids:=(ks.length:Int)}:Nd)=n0;have hnn:n0.op=n.op/\n0.sort=n.sort/\n0.name=n.name/\n0.num=n.num/\n0.kids=(ks.length:Int):=by rw [<- hn0];simp
 obtain ⟨e1,e2,e3,e4,e5⟩:=hnn;intro K H;refine Zh (fn:=Tryz.f47) rfl Tryz.func47 rfl rfl (by simp) (by simp) ?_ (by simp [*])
 ((try simp (disch:=first|omega|(simp<;>omega)|fail) [*,Ze,Tryz.f47,Zu]);repeat'(first|refine Z8 ?_|refine Z9 ?_|refine Z0 ?_|refine Z1 fun _=>?_|refine Z2 fun _ _=>?_|refine Z3 (fun _=>?_) fun _ _=>?_|refine Z4 fun _=>?_|refine Z5 fun _=>?_|refine Z6 (fun _=>?_) fun _=>?_|refine Z7 (fun _=>?_) fun _=>?_)<;>(try simp (disch:=first|omega|(simp<;>omega)|fail) [*,Ze,Tryz.f47,Zu]))
 generalize hM:ks.map (·.2)=M at *;have hMl:M.length=ks.length:=by rw [<- hM];simp
 have hMi:∀ i (h:i < ks.length) (h2:i < M.length),ks[i].2=M[i]:=fun i h h2=>by subst hM;simp
 refine Zz [1] (fun m sl h=>∃ (i:Nat) (w:PV),m=ks.length - i/\i<=ks.length/\sl 6=some (.int .i64 i)/\sl 5=some w/\Acc [11,23] ⟨H.next,H.next,[]⟩ h 58 w ((n0::(M.take i).flatten).map Zu)) ks.length rfl ⟨0,.own (H.next+11) (H.stamp (H.next+11)) 58 0 1,by simp,by simp,by simp,by simp,Or.inr ⟨11,_,by simp,by simp,rfl,by simp [Zu, *]⟩⟩ ?_;rintro m sl h hf ⟨i,w,hm',hi,h6,h5,hA⟩;simp at hf
 have hle:(M.take i).flatten.length<=M.flatten.length:=by
  conv=>rhs;rw [<- List.take_append_drop i M]
  rw [List.flatten_append,List.length_append];omega
 by_cases hlt:i < ks.length
 .have hlM:i < M.length:=by omega
  have Zus:(M.take (i+1)).flatten.length<=M.flatten.length:=by
   conv=>rhs;rw [<- List.take_append_drop (i+1) M]
   rw [List.flatten_append,List.length_append];omega
  have Tk:=Zo7 M i hlM;rw [Tk,List.length_append] at Zus;have hki:=hMi i hlt hlM;generalize hkk:ks[i]=kk at *;obtain ⟨kb,kl⟩:=kk;simp only at hki;subst hki;obtain ⟨w',h',hap,Vi,Zb1,Zm⟩:=hA.app' (dd:=23) (ys:=M[i].map Zu) (T:={k:=.struct [(0,3),(1,3),(2,9),(3,9),(4,3)],size:=5,bytes:=56,zero:=[.int .i64 0,.int .i64 0,.string {data:=#[]},.string {data:=#[]},.int .i64 0]}) (by simp) rfl (by simp only [List.length_map,List.length_cons];omega) (by decide) (by decide);rw [List.length_map] at hap
  have Wa:Acc [11,23] ⟨H.next,H.next,[]⟩ h' 58 w' ((n0::(M.take (i+1)).flatten).map Zu):=by
   rw [Tk,<- List.cons_append,List.map_append];exact Vi
  replace Wa:=Hide.mk Wa;clear Tk Vi Zm
  ((try simp (disch:=first|omega|(simp<;>omega)|fail) [*,Ze,-PH.elems]);repeat'(first|refine Z8 ?_|refine Z9 ?_|refine Z0 ?_|refine Z1 fun _=>?_|refine Z2 fun _ _=>?_|refine Z3 (fun _=>?_) fun _ _=>?_|refine Z4 fun _=>?_|refine Z5 fun _=>?_|refine Z6 (fun _=>?_) fun _=>?_|refine Z7 (fun _=>?_) fun _=>?_)<;>(try simp (disch:=first|omega|(simp<;>omega)|fail) [*,Ze,-PH.elems]))
  exact ⟨_,by omega,i+1,rfl,by omega,by omega,by simpa using Wa.get⟩
 .have e:M.take i=M:=List.take_of_length_le (by omega);rw [e] at hA;have V9:=hA.inl;have Zuu:=hA.inlT;rw [V9] at Zuu;have hot:=hA.ownT;clear e hA V9 hM hMi hle
  ((try simp (disch:=first|omega|(simp<;>omega)|fail) [*,Ze]);repeat'(first|refine Z8 ?_|refine Z9 ?_|refine Z0 ?_|refine Z1 fun _=>?_|refine Z2 fun _ _=>?_|refine Z3 (fun _=>?_) fun _ _=>?_|refine Z4 fun _=>?_|refine Z5 fun _=>?_|refine Z6 (fun _=>?_) fun _=>?_|refine Z7 (fun _=>?_) fun _=>?_)<;>(try simp (disch:=first|omega|(simp<;>omega)|fail) [*,Ze]))
  exact hot
end Go.Proofs.YtabcdhcpilpojaaGreatDoor
end
section
set_option maxRecDepth 20000
namespace Go.Proofs.YtabcdhcpilpojaaGreatDoor
open Go Go.Pure
open Go.Virt (Ex Ctx Ty TK)
mutual
def Zug (f:Nd->Nd):Tr->Tr
 | .mk op sort name num ks=>.mk op sort (f ⟨op,sort,name,num,(ks.length:Int)⟩).name num (Zid f ks)
def Zid (f:Nd->Nd):List Tr->List Tr
 | []=>[]
 | k::r=>Zug f k::Zid f r
end
theorem Zop (f:Nd->Nd):∀ ks,(Zid f ks).length=ks.length
 | []=>rfl
 | k::r=>by simp [Zid,Zop f r]
theorem Z7q (f:Nd->Nd)(t:Tr):(Zug f t).op=t.op:=by cases t;rfl
theorem Zsm (f:Nd->Nd)(ks:List Tr):W2 (Zid f ks)=W2 ks:=by
 cases ks with
 | nil=>rfl
 | cons k r=>exact Z7q f k
mutual
theorem Zx5 (f:Nd->Nd):∀ t,Yh (Zug f t)=Yh t
 | .mk op sort name num ks=>by
   simp only [Zug,Yh];rw [Zer f ks,Zsm]
theorem Zer (f:Nd->Nd):∀ ks,Yu (Zid f ks)=Yu ks
 | []=>rfl
 | k::r=>by simp only [Zid,Yu];rw [Zx5 f k,Zer f r]
end
structure Ren (f:Nd->Nd):Prop where
 op:∀ n,(f n).op=n.op
 sort:∀ n,(f n).sort=n.sort
 num:∀ n,(f n).num=n.num
 kids:∀ n,(f n).kids=n.kids
 ok:∀ n,Xs n.op n.sort n.name n.num=true->Xs n.op n.sort (f n).name n.num=true
theorem Zke {f:Nd->Nd}{p:List Nd->Option (Tr×List Nd)}(hp:∀ r t r',p r=some (t,r')->p (r.map f)=some (Zug f t,r'.map f)):∀ {k:Nat} {r r':List Nd} {ts:List Tr},many p k r=some (ts,r')->many p k (r.map f)=some (Zid f ts,r'.map f)
 | 0,r,r',ts,h=>by
   simp only [many,Option.some.injEq,Prod.mk.injEq] at h ⊢;rw [<- h.1,<- h.2];exact ⟨rfl,rfl⟩
 | k+1,r,r',ts,h=>by
   simp only [many] at h ⊢;split at h
   .cases h
   .rename_i t1 r1 h1;rw [hp _ _ _ h1];simp only;split at h
    .cases h
    .rename_i ts2 r2 h2;cases h;rw [Zke hp h2];rfl
theorem Zhe {f:Nd->Nd}(F:Ren f):∀ {d:Nat} {r r':List Nd} {t:Tr},Zj d r=some (t,r')->Zj d (r.map f)=some (Zug f t,r'.map f)
 | 0,r,r',t,h=>by simp [Zj] at h
 | d+1,[],r',t,h=>by simp [Zj] at h
 | d+1,n::r,r',t,h=>by
   simp only [Zj] at h;simp only [List.map_cons,Zj,F.op,F.sort,F.num,F.kids];split at h
   .rename_i hc;rw [Bool.and_eq_true] at hc;rw [F.ok n hc.1,hc.2];simp only [Bool.and_self,if_true];split at h
    .cases h
    .rename_i ks r1 h1;cases h;rw [Zke (fun _ _ _ hh=>Zhe F hh) h1];simp only [Zug];have hl:=Q6 h1
     have hk:(0:Int)<=n.kids:=by
      have:=hc.2;unfold Yw at this
      revert this
      repeat' split
      all_goals simp
      all_goals omega
     have e:(ks.length:Int)=n.kids:=by rw [hl];omega
     rw [e]
   .cases h
def X8:List Yk->List Yk->Yk->Option Yk
 | f::fs,g::gs,s=>if s=f then some g else X8 fs gs s
 | _,_,_=>none
def Xb (from' to:List Yk)(n:Nd):Nd:=if n.op=4 then (match X8 from' to n.name with
 | some s=>{n with name:=s}
 | none=>n) else n
theorem Zco:∀ {from' to:List Yk} {s g:Yk},X8 from' to s=some g->g∈to
 | f::fs,g'::gs,s,g,h=>by
   simp only [X8] at h;split at h
   .cases h;simp
   .exact List.mem_cons_of_mem _ (Zco h)
 | [],_,s,g,h=>by simp [X8] at h
 | _::_,[],s,g,h=>by simp [X8] at h
theorem Zfw {from' to:List Yk}(ht:∀ s∈to,Yx s=true):Ren (Xb from' to):=by
 refine ⟨fun n=>?_,fun n=>?_,fun n=>?_,fun n=>?_,fun n hn=>?_⟩
 .unfold Xb;repeat' split
  all_goals rfl
 .unfold Xb;repeat' split
  all_goals rfl
 .unfold Xb;repeat' split
  all_goals rfl
 .unfold Xb;repeat' split
  all_goals rfl
 .unfold Xb;split
  .rename_i h4;split
   .rename_i s hs;have:=ht s (Zco hs);unfold Xs at hn ⊢;simp only [h4] at hn ⊢;simp at hn ⊢;simp [hn,this]
   .exact hn
  .exact hn
def V7 (t:List Nd)(from' to:List Yk):List Nd×Int:=
 if R9 t<=0\/from'.length≠to.length then ([],1)
 else if ¬ (∀ s∈from'++to,Yx s=true) then ([],1)
 else if ¬ from'.Nodup then ([],5)
 else if X3 (Yc (t.map (Xb from' to))) then (t.map (Xb from' to),0) else ([],3)
theorem Zh7 {t:List Nd}(h:0 < R9 t):∃ tr,Zj 257 t=some (tr,[])/\Yh tr=R9 t/\t.length<=20000/\X3 (Yc t)=true:=by
 unfold R9 at h ⊢;split at h
 .omega
 .rename_i hl;rw [if_neg hl];split at h
  .rename_i tr hp;split at h
   .rename_i hc;exact ⟨tr,hp,by simp [hc],by omega,hc⟩
   .omega
  .omega
theorem Z0c {t:List Nd}{f:Nd->Nd}(F:Ren f)(h:0 < R9 t):Z55 (t.map f):=by
 obtain ⟨tr,h1,_⟩:=Zh7 h;exact Zs7 (Zhe F h1)
end Go.Proofs.YtabcdhcpilpojaaGreatDoor
end
section
set_option maxRecDepth 20000
namespace Go.Proofs.YtabcdhcpilpojaaGreatDoor
open Go Go.Pure
open Go.Virt (Ex Ctx Ty TK)
abbrev Zjv (x:List Nd×Int):PV:=.tuple [L 58 true (x.1.map Zu),.int .i64 x.2]
theorem Zga {f g:List Yk}{k:Nat}(hk:k < f.length)(hk2:k < g.length)(s:Yk):X8 (f.take (k+1)) (g.take (k+1)) s=match X8 (f.take k) (g.take k) s with
  | some x=>some x
  | none=>if s=f[k] then some g[k] else none:=by
 induction f generalizing g k with
 | nil=>simp at hk
 | cons a f ih=>
   cases g with
   | nil=>simp at hk2
   | cons c g=>
     cases k with
     | zero=>simp [X8]
     | succ k=>
       simp only [List.take_succ_cons,X8,List.getElem_cons_succ];split
       .rfl
       .exact ih (by simpa using hk) (by simpa using hk2)
theorem Zor {f g:List Yk}{s:Yk}(h:s∉f):X8 f g s=none:=by
 induction f generalizing g with
 | nil=>rfl
 | cons a f ih=>
   cases g with
   | nil=>rfl
   | cons c g=>
     simp at h;simp only [X8];rw [if_neg h.1];exact ih h.2
theorem Zkc {f:List Yk}(h:f.Nodup){k:Nat}(hk:k < f.length):f[k]∉f.take k:=by
 intro hm;obtain ⟨j,hj,e⟩:=List.getElem_of_mem hm;simp at hj;rw [List.getElem_take] at e;have:=(List.getElem_inj h).1 e;omega
def Zl7 (t:List Nd)(f g:List Yk)(i:Nat):List PV:=((t.take i).map (Xb f g)++t.drop i).map Zu
def Zdy (t:List Nd)(f g:List Yk)(i k:Nat):List PV:=((t.take i).map (Xb f g)++((t.drop i).take 1).map (Xb (f.take k) (g.take k))++t.drop (i+1)).map Zu
theorem Z1t (n:Nd):Xb [] [] n=n:=by unfold Xb;split<;>rfl
theorem Zyb {t:List Nd}{f g:List Yk}{i:Nat}:Zdy t f g i 0=Zl7 t f g i:=by
 unfold Zdy Zl7;congr 1;rw [List.append_assoc];congr 1;have:Xb (f.take 0) (g.take 0)=id:=by funext n;exact Z1t n
 rw [this,List.map_id];have:=List.take_append_drop 1 (t.drop i)
 rwa [List.drop_drop] at this
theorem Zyd {t:List Nd}{f g:List Yk}{i:Nat}(hfg:f.length=g.length):Zdy t f g i f.length=Zl7 t f g (i+1):=by
 unfold Zdy Zl7;rw [List.take_length,hfg,List.take_length,List.take_add];simp only [List.map_append]
theorem Zqx {t:List Nd}{f g:List Yk}{i k:Nat}(hi:i < t.length):(Zdy t f g i k).length=t.length:=by
 unfold Zdy;simp;omega
theorem Zqy {t:List Nd}{f g:List Yk}{i:Nat}(hi:i<=t.length):(Zl7 t f g i).length=t.length:=by
 unfold Zl7;simp;omega
theorem Zft {t:List Nd}{f g:List Yk}{i k:Nat}(hi:i < t.length):Zdy t f g i k=((t.take i).map (Xb f g)).map Zu++Zu (Xb (f.take k) (g.take k) t[i])::(t.drop (i+1)).map Zu:=by
 unfold Zdy;rw [List.drop_eq_getElem_cons hi];simp only [List.take_succ_cons,List.take_zero,List.map_cons,List.map_nil,List.map_append,List.append_assoc,List.cons_append,List.nil_append]
theorem Z1r {t:List Nd}{f g:List Yk}{i k:Nat}(hi:i < t.length)(h:i < (Zdy t f g i k).length):(Zdy t f g i k)[i]=Zu (Xb (f.take k) (g.take k) t[i]):=by
 have:=Zft (f:=f) (g:=g) (k:=k) hi;simp only [this];rw [List.getElem_append_right (by simp;omega)];simp [Nat.min_eq_left (Nat.le_of_lt hi)]
theorem Zyc {t:List Nd}{f g:List Yk}{i k:Nat}(hi:i < t.length)(hk:k < f.length)(hk2:k < g.length)(h:t[i].op=4->t[i].name≠f[k]):Zdy t f g i (k+1)=Zdy t f g i k:=by
 rw [Zft hi,Zft hi];congr 3;unfold Xb;by_cases h4:t[i].op=4
 .rw [if_pos h4,if_pos h4,Zga hk hk2,if_neg (h h4)];cases X8 (f.take k) (g.take k) t[i].name<;>rfl
 .rw [if_neg h4,if_neg h4]
theorem Z1q {t:List Nd}{f g:List Yk}{i k:Nat}(hi:i < t.length)(hk:k < f.length)(hk2:k < g.length)(hnd:f.Nodup)(h4:t[i].op=4)(hn:t[i].name=f[k]):(Zdy t f g i k).set i (.agg [.int .i64 t[i].op,.int .i64 t[i].sort,.str g[k],.str t[i].num,.int .i64 t[i].kids])=Zdy t f g i (k+1)/\Xb (f.take k) (g.take k) t[i]=t[i]:=by
 have h1:X8 (f.take k) (g.take k) t[i].name=none:=Zor (by rw [hn];exact Zkc hnd hk);constructor
 .rw [Zft hi,Zft hi,List.set_append_right _ _ (by simp;omega)];have:i - (((t.take i).map (Xb f g)).map Zu).length=0:=by simp;omega
  rw [this,List.set_cons_zero];congr 2;unfold Xb;rw [if_pos h4,Zga hk hk2,h1];simp [hn]
 .unfold Xb;rw [if_pos h4,h1]
theorem Ztz {f g:List Yk}{n:Nd}(hn:n.Short)(hg:∀ s∈g,s.length < 2^19):(Xb f g n).Short:=by
 unfold Xb;split
 .split
  .rename_i s hs;exact ⟨Nat.le_of_lt (hg s (Zco hs)),hn.2⟩
  .exact hn
 .exact hn
set_option maxHeartbeats 4000000 in
theorem Z5m (b b1 b2:Bool)(t:List Nd)(f g:List Yk)(hs:∀ n∈t,n.Short)(hl:t.length < 2^29)(hf:f.length < 2^29)(hg:g.length < 2^29)(hf1:∀ s∈f,s.length < 2^19)(U1:∀ s∈g,s.length < 2^19):Xr vE 37 [L 58 b (t.map Zu),L 9 b1 (f.map .str),L 9 b2 (g.map .str)] (Zjv (V7 t f g)):=by
 have h59:=Zvn b t hs (by omega);unfold V7;by_cases hv:R9 t<=0\/f.length≠g.length
 .rw [if_pos hv];by_cases hv1:0 < R9 t
  .rw [decide_eq_true hv1] at h59;have:f.length≠g.length:=by omega
   clear hv hs hf1 U1;intro K H;refine Zh (fn:=Tryz.f37) rfl Tryz.func37 rfl rfl (by simp) (by simp) ?_ (by simp [*])
   ((try simp (disch:=first|omega|(simp<;>omega)|fail) [*,Ze,Tryz.f37,Zd]);repeat'(first|refine Z8 ?_|refine Z9 ?_|refine Z0 ?_|refine Z1 fun _=>?_|refine Z2 fun _ _=>?_|refine Z3 (fun _=>?_) fun _ _=>?_|refine Z4 fun _=>?_|refine Z5 fun _=>?_|refine Z6 (fun _=>?_) fun _=>?_|refine Z7 (fun _=>?_) fun _=>?_)<;>(try simp (disch:=first|omega|(simp<;>omega)|fail) [*,Ze,Tryz.f37,Zd]))
  .rw [decide_eq_false hv1] at h59;clear hv hs hf1 U1;intro K H;refine Zh (fn:=Tryz.f37) rfl Tryz.func37 rfl rfl (by simp) (by simp) ?_ (by simp [*])
   ((try simp (disch:=first|omega|(simp<;>omega)|fail) [*,Ze,Tryz.f37,Zd]);repeat'(first|refine Z8 ?_|refine Z9 ?_|refine Z0 ?_|refine Z1 fun _=>?_|refine Z2 fun _ _=>?_|refine Z3 (fun _=>?_) fun _ _=>?_|refine Z4 fun _=>?_|refine Z5 fun _=>?_|refine Z6 (fun _=>?_) fun _=>?_|refine Z7 (fun _=>?_) fun _=>?_)<;>(try simp (disch:=first|omega|(simp<;>omega)|fail) [*,Ze,Tryz.f37,Zd]))
 .rw [if_neg hv];simp only [not_or,Int.not_le,Decidable.not_not] at hv;obtain ⟨hv,hfg⟩:=hv;rw [decide_eq_true hv] at h59;generalize hV:(if ¬∀ s∈f++g,Yx s=true then ([],(1:Int)) else if ¬f.Nodup then ([],5) else if X3 (Yc (t.map (Xb f g)))=true then (t.map (Xb f g),0) else ([],3))=V;replace hV:=Hide.mk hV;replace hs:=Hide.mk hs;have Z8r:∀ i (h:i < f.length),Xr vE 30 [.str f[i]] (.bool (Yx f[i])):=fun i h=>Zvo _ (Nat.lt_trans (hf1 _ (List.getElem_mem h)) (by decide))
  have Z8q:∀ i (h:i < g.length),Xr vE 30 [.str g[i]] (.bool (Yx g[i])):=fun i h=>Zvo _ (Nat.lt_trans (U1 _ (List.getElem_mem h)) (by decide))
  have hsh:∀ n∈t.map (Xb f g),n.Short:=fun n hn=>by
   obtain ⟨m,hm,rfl⟩:=List.mem_map.1 hn;exact Ztz (hs.get m hm) U1
  replace hsh:=Hide.mk hsh;replace Z8r:=Hide.mk Z8r;replace Z8q:=Hide.mk Z8q;clear hf1 U1;intro K H;refine Zh (fn:=Tryz.f37) rfl Tryz.func37 rfl rfl (by simp) (by simp) ?_ (by simp [*])
  ((try simp (disch:=first|omega|(simp<;>omega)|fail) [*,Ze,Tryz.f37]);repeat'(first|refine Z8 ?_|refine Z9 ?_|refine Z0 ?_|refine Z1 fun _=>?_|refine Z2 fun _ _=>?_|refine Z3 (fun _=>?_) fun _ _=>?_|refine Z4 fun _=>?_|refine Z5 fun _=>?_|refine Z6 (fun _=>?_) fun _=>?_|refine Z7 (fun _=>?_) fun _=>?_)<;>(try simp (disch:=first|omega|(simp<;>omega)|fail) [*,Ze,Tryz.f37]))
  refine Zz [0,1,2] (fun m sl h=>∃ i:Nat,m=f.length - i/\i<=f.length/\sl 8=some (.int .i64 i)/\h.next=H.next+101/\∀ j (hj:j < f.length) (hk:j < g.length),j < i->Yx f[j]=true/\Yx g[j]=true) f.length rfl ⟨0,by simp⟩ ?_;rintro m sl h hfr ⟨i,hm,hi,h8,Rg,hno⟩;simp at hfr;replace hno:=Hide.mk hno;by_cases hlt:i < f.length
  .have Zd4:i < g.length:=by omega
   have hF:=Z8r.get i hlt;have hG:=Z8q.get i Zd4
   have Qs:(Yx f[i]=false\/Yx g[i]=false)->V=([],1):=fun hh=>by
    rw [<- hV.get,if_pos];intro hall;rcases hh with hh | hh
    .rw [hall _ (List.mem_append_left _ (List.getElem_mem hlt))] at hh;cases hh
    .rw [hall _ (List.mem_append_right _ (List.getElem_mem Zd4))] at hh;cases hh
   have Zni:Yx f[i]=true->Yx g[i]=true->∀ j (hj:j < f.length) (hk:j < g.length),j < i+1->Yx f[j]=true/\Yx g[j]=true:=fun h1 h2 j hj hk hji=>by
    by_cases e:j=i
    .subst e;exact ⟨h1,h2⟩
    .exact hno.get j hj hk (by omega)
   replace Zni:=Hide.mk Zni;generalize hfi:f[i]=fi at *;generalize hgi:g[i]=gi at *;cases h1:Yx fi with
   | false=>
     have hVV:=Qs (Or.inl h1);clear Qs;rw [h1] at hF
     ((try simp (disch:=first|omega|(simp<;>omega)|fail) [*,Ze,Zd]);repeat'(first|refine Z8 ?_|refine Z9 ?_|refine Z0 ?_|refine Z1 fun _=>?_|refine Z2 fun _ _=>?_|refine Z3 (fun _=>?_) fun _ _=>?_|refine Z4 fun _=>?_|refine Z5 fun _=>?_|refine Z6 (fun _=>?_) fun _=>?_|refine Z7 (fun _=>?_) fun _=>?_)<;>(try simp (disch:=first|omega|(simp<;>omega)|fail) [*,Ze,Zd]))
   | true=>
     rw [h1] at hF;cases h2:Yx gi with
     | false=>
       have hVV:=Qs (Or.inr h2);clear Qs;rw [h2] at hG
       ((try simp (disch:=first|omega|(simp<;>omega)|fail) [*,Ze,Zd]);repeat'(first|refine Z8 ?_|refine Z9 ?_|refine Z0 ?_|refine Z1 fun _=>?_|refine Z2 fun _ _=>?_|refine Z3 (fun _=>?_) fun _ _=>?_|refine Z4 fun _=>?_|refine Z5 fun _=>?_|refine Z6 (fun _=>?_) fun _=>?_|refine Z7 (fun _=>?_) fun _=>?_)<;>(try simp (disch:=first|omega|(simp<;>omega)|fail) [*,Ze,Zd]))
     | true=>
       rw [h2] at hG;clear Qs
       ((try simp (disch:=first|omega|(simp<;>omega)|fail) [*,Ze]);repeat'(first|refine Z8 ?_|refine Z9 ?_|refine Z0 ?_|refine Z1 fun _=>?_|refine Z2 fun _ _=>?_|refine Z3 (fun _=>?_) fun _ _=>?_|refine Z4 fun _=>?_|refine Z5 fun _=>?_|refine Z6 (fun _=>?_) fun _=>?_|refine Z7 (fun _=>?_) fun _=>?_)<;>(try simp (disch:=first|omega|(simp<;>omega)|fail) [*,Ze]))
       exact ⟨_,by omega,i+1,rfl,by omega,by omega,fun j hj hk hji=>Zni.get h1 h2 j (by omega) hk hji⟩
  .have hall:∀ s∈f++g,Yx s=true:=fun s hs=>by
    rcases List.mem_append.1 hs with hs | hs
    .obtain ⟨j,hj,rfl⟩:=List.getElem_of_mem hs;exact (hno.get j hj (by omega) (by omega)).1
    .obtain ⟨j,hj,rfl⟩:=List.getElem_of_mem hs;exact (hno.get j (by omega) hj (by omega)).2
   have hgn:∀ s∈g,Yx s=true:=fun s hs=>hall s (List.mem_append_right _ hs)
   replace hV:Hide ((if ¬f.Nodup then ([],5) else if X3 (Yc (t.map (Xb f g)))=true then (t.map (Xb f g),0) else ([],3))=V):=Hide.mk (by
    have:=hV.get;rw [if_neg (by simpa using hall)] at this;exact this)
   replace hgn:=Hide.mk hgn;clear hall hno Z8r Z8q
   ((try simp (disch:=first|omega|(simp<;>omega)|fail) [*,Ze]);repeat'(first|refine Z8 ?_|refine Z9 ?_|refine Z0 ?_|refine Z1 fun _=>?_|refine Z2 fun _ _=>?_|refine Z3 (fun _=>?_) fun _ _=>?_|refine Z4 fun _=>?_|refine Z5 fun _=>?_|refine Z6 (fun _=>?_) fun _=>?_|refine Z7 (fun _=>?_) fun _=>?_)<;>(try simp (disch:=first|omega|(simp<;>omega)|fail) [*,Ze]))
   refine Zz [0,1,2] (fun m sl h=>∃ i:Nat,m=f.length - i/\i<=f.length/\sl 9=some (.int .i64 i)/\h.next=H.next+101/\(f.take i).Nodup) f.length rfl ⟨0,by simp [*]⟩ ?_;clear hm hi h8 Rg hlt;rintro m sl h hfr2 ⟨i,hm,hi,h9,Rg,hnd⟩;simp [hfr] at hfr2;clear hfr;replace hnd:=Hide.mk hnd;by_cases hlt:i < f.length
   .have V9:=Z2u (b1&&f.isEmpty) (f.take i) f[i] (by simp;omega)
    have hhas:f[i]∈f.take i->V=([],5):=fun hh=>by
     rw [<- hV.get,if_pos];intro hn;exact Zkc hn hlt hh
    have Zr3:f[i]∉f.take i->(f.take (i+1)).Nodup:=fun hh=>by
     rw [List.take_add_one,List.getElem?_eq_getElem hlt];simp only [Option.toList];rw [List.nodup_append];exact ⟨hnd.get,by simp,fun a ha b hb=>by simp at hb;subst hb;rintro rfl;exact hh ha⟩
    replace Zr3:=Hide.mk Zr3;simp only [List.map_take] at V9;generalize hfi:f[i]=fi at *;by_cases hh:fi∈f.take i
    .have hVV:=hhas hh;rw [decide_eq_true hh] at V9;clear hhas hh
     ((try simp (disch:=first|omega|(simp<;>omega)|fail) [*,Ze,Zd]);repeat'(first|refine Z8 ?_|refine Z9 ?_|refine Z0 ?_|refine Z1 fun _=>?_|refine Z2 fun _ _=>?_|refine Z3 (fun _=>?_) fun _ _=>?_|refine Z4 fun _=>?_|refine Z5 fun _=>?_|refine Z6 (fun _=>?_) fun _=>?_|refine Z7 (fun _=>?_) fun _=>?_)<;>(try simp (disch:=first|omega|(simp<;>omega)|fail) [*,Ze,Zd]))
    .rw [decide_eq_false hh] at V9;clear hhas;replace Zr3:=Hide.mk (Zr3.get hh);clear hh
     ((try simp (disch:=first|omega|(simp<;>omega)|fail) [*,Ze,Zd]);repeat'(first|refine Z8 ?_|refine Z9 ?_|refine Z0 ?_|refine Z1 fun _=>?_|refine Z2 fun _ _=>?_|refine Z3 (fun _=>?_) fun _ _=>?_|refine Z4 fun _=>?_|refine Z5 fun _=>?_|refine Z6 (fun _=>?_) fun _=>?_|refine Z7 (fun _=>?_) fun _=>?_)<;>(try simp (disch:=first|omega|(simp<;>omega)|fail) [*,Ze,Zd]))
     exact ⟨_,by omega,i+1,rfl,by omega,by omega,Zr3.get⟩
   .have hnd:=hnd.get;rw [List.take_of_length_le (by omega)] at hnd
    replace hV:Hide ((if X3 (Yc (t.map (Xb f g)))=true then (t.map (Xb f g),0) else ([],3))=V):=Hide.mk (by
     have:=hV.get;rw [if_neg (by simpa using hnd)] at this;exact this)
    replace hnd:=Hide.mk hnd
    have htl:0 < t.length:=by
     obtain ⟨tr,h1,_⟩:=Zh7 hv;obtain ⟨a,ha,e⟩:=Xc h1;have:=congrArg List.length e;have:=List.length_pos_iff.2 ha;simp at *;omega
    clear hm Rg
    ((try simp (disch:=first|omega|(simp<;>omega)|fail) [*,Ze,-PH.elems]);repeat'(first|refine Z8 ?_|refine Z9 ?_|refine Z0 ?_|refine Z1 fun _=>?_|refine Z2 fun _ _=>?_|refine Z3 (fun _=>?_) fun _ _=>?_|refine Z4 fun _=>?_|refine Z5 fun _=>?_|refine Z6 (fun _=>?_) fun _=>?_|refine Z7 (fun _=>?_) fun _=>?_)<;>(try simp (disch:=first|omega|(simp<;>omega)|fail) [*,Ze,-PH.elems]))
    generalize hv0:h.stamp (H.next+58)=v0;refine Zz [0,1,2,10] (fun m sl h=>∃ i:Nat,m=t.length - i/\i<=t.length/\sl 11=some (.int .i64 i)/\h.get (H.next+58)=some (v0,.row 58 true (Zl7 t f g i))) t.length rfl ⟨0,by simp,by simp,by simp,by simp [Zl7]⟩ ?_;rintro m1 Re h1 hfr3 ⟨i1,hm1,hi1,h11,U1⟩;simp [hfr2] at hfr3;clear hfr2 hi hlt h9;have hOl:=Zqy (f:=f) (g:=g) hi1;by_cases Zi5:i1 < t.length
    . ((try simp (disch:=first|omega|(simp<;>omega)|fail) [*,Ze]);repeat'(first|refine Z8 ?_|refine Z9 ?_|refine Z0 ?_|refine Z1 fun _=>?_|refine Z2 fun _ _=>?_|refine Z3 (fun _=>?_) fun _ _=>?_|refine Z4 fun _=>?_|refine Z5 fun _=>?_|refine Z6 (fun _=>?_) fun _=>?_|refine Z7 (fun _=>?_) fun _=>?_)<;>(try simp (disch:=first|omega|(simp<;>omega)|fail) [*,Ze]))
      refine Zz [0,1,2,10,11] (fun m sl h=>∃ k:Nat,m=f.length - k/\k<=f.length/\sl 12=some (.int .i64 k)/\h.get (H.next+58)=some (v0,.row 58 true (Zdy t f g i1 k))) f.length rfl ⟨0,by simp,by simp,by simp,by rw [Zyb];exact U1⟩ ?_;rintro m2 sl2 h2 hfr4 ⟨k,hm2,hk,h12,hg2⟩;simp [hfr3] at hfr4;clear hfr3 U1;have hRl:=Zqx (f:=f) (g:=g) (k:=k) Zi5;by_cases hkl:k < f.length
      .have hkg:k < g.length:=by omega
       have hRi:=Z1r (f:=f) (g:=g) (k:=k) Zi5;have U0:=Zyc Zi5 hkl hkg;have Sr:=Z1q Zi5 hkl hkg hnd.get;generalize hR1:Zdy t f g i1 (k+1)=R1 at *;generalize hti:t[i1]=n at *;generalize hfk:f[k]=fk at *;generalize hgk:g[k]=gk at *;by_cases h4:n.op=4
       .by_cases hnm:n.name=fk
        .obtain ⟨Sr,Wp⟩:=Sr h4 hnm;have hRi:=hRi (by omega);rw [Wp] at hRi;clear U0 Wp;replace Sr:=Hide.mk Sr
         ((try simp (disch:=first|omega|(simp<;>omega)|fail) [*,Ze,Zu]);repeat'(first|refine Z8 ?_|refine Z9 ?_|refine Z0 ?_|refine Z1 fun _=>?_|refine Z2 fun _ _=>?_|refine Z3 (fun _=>?_) fun _ _=>?_|refine Z4 fun _=>?_|refine Z5 fun _=>?_|refine Z6 (fun _=>?_) fun _=>?_|refine Z7 (fun _=>?_) fun _=>?_)<;>(try simp (disch:=first|omega|(simp<;>omega)|fail) [*,Ze,Zu]))
         refine ⟨_,by omega,k+1,rfl,by omega,by omega,?_⟩;rw [hR1,<- Sr.get,h4]
        .have U0:=U0 fun _=>hnm
         clear Sr hRi
         ((try simp (disch:=first|omega|(simp<;>omega)|fail) [*,Ze,Zu]);repeat'(first|refine Z8 ?_|refine Z9 ?_|refine Z0 ?_|refine Z1 fun _=>?_|refine Z2 fun _ _=>?_|refine Z3 (fun _=>?_) fun _ _=>?_|refine Z4 fun _=>?_|refine Z5 fun _=>?_|refine Z6 (fun _=>?_) fun _=>?_|refine Z7 (fun _=>?_) fun _=>?_)<;>(try simp (disch:=first|omega|(simp<;>omega)|fail) [*,Ze,Zu]))
         .exact absurd ‹n.name=fk› hnm
         .exact ⟨_,by omega,k+1,rfl,by omega,by omega,by rw [hR1,U0]⟩
       .have U0:=U0 fun h=>absurd h h4
        clear Sr hRi
        ((try simp (disch:=first|omega|(simp<;>omega)|fail) [*,Ze,Zu]);repeat'(first|refine Z8 ?_|refine Z9 ?_|refine Z0 ?_|refine Z1 fun _=>?_|refine Z2 fun _ _=>?_|refine Z3 (fun _=>?_) fun _ _=>?_|refine Z4 fun _=>?_|refine Z5 fun _=>?_|refine Z6 (fun _=>?_) fun _=>?_|refine Z7 (fun _=>?_) fun _=>?_)<;>(try simp (disch:=first|omega|(simp<;>omega)|fail) [*,Ze,Zu]))
        exact ⟨_,by omega,k+1,rfl,by omega,by omega,by rw [hR1,U0]⟩
      .have hke:k=f.length:=by omega
       subst hke;rw [Zyd hfg] at hg2;clear hRl
       ((try simp (disch:=first|omega|(simp<;>omega)|fail) [*,Ze]);repeat'(first|refine Z8 ?_|refine Z9 ?_|refine Z0 ?_|refine Z1 fun _=>?_|refine Z2 fun _ _=>?_|refine Z3 (fun _=>?_) fun _ _=>?_|refine Z4 fun _=>?_|refine Z5 fun _=>?_|refine Z6 (fun _=>?_) fun _=>?_|refine Z7 (fun _=>?_) fun _=>?_)<;>(try simp (disch:=first|omega|(simp<;>omega)|fail) [*,Ze]))
       exact ⟨_,by omega,i1+1,rfl,by omega,by omega,rfl⟩
    .have hie:i1=t.length:=by omega
     subst hie;have hOe:Zl7 t f g t.length=(t.map (Xb f g)).map Zu:=by unfold Zl7;simp
     rw [hOe] at U1;have h92:Xr vE 92 [L 58 true ((t.map (Xb f g)).map Zu)] (.bool (X3 (Yc (t.map (Xb f g))))):=Z5h true _ hsh.get (by rw [List.length_map];omega) (Z0c (Zfw hgn.get) hv);have hVl:=hV.get;generalize hR:t.map (Xb f g)=R at *;have hRl:R.length=t.length:=by rw [<- hR];simp
     have hRn:R≠[]:=by intro e;rw [e] at hRl;simp at hRl;omega
     have hA:Acc [58] ⟨H.next,H.next,[]⟩ h1 58 (.own (H.next+58) v0 58 0 t.length) (R.map Zu):=Or.inr ⟨58,v0,by simpa using hRn,by simp,by simp [hRl],U1⟩;have hcl:=hA.call (C:=vE) (f:=92) rfl rfl [] [] h92 rfl rfl rfl;simp only [List.nil_append] at hcl;have V9:=hA.inl;have Zuu:=hA.inlT;rw [V9] at Zuu;clear hA hRn;cases hc:X3 (Yc R) with
     | true=>
       rw [hc] at hVl hcl;simp only [if_true] at hVl
       ((try simp (disch:=first|omega|(simp<;>omega)|fail) [*,Ze]);repeat'(first|refine Z8 ?_|refine Z9 ?_|refine Z0 ?_|refine Z1 fun _=>?_|refine Z2 fun _ _=>?_|refine Z3 (fun _=>?_) fun _ _=>?_|refine Z4 fun _=>?_|refine Z5 fun _=>?_|refine Z6 (fun _=>?_) fun _=>?_|refine Z7 (fun _=>?_) fun _=>?_)<;>(try simp (disch:=first|omega|(simp<;>omega)|fail) [*,Ze]))
       rw [<- hVl,List.take_of_length_le (by simp [hRl])];refine ⟨?_,rfl⟩;cases R with
       | nil=>simp at hRl;omega
       | cons=>rfl
     | false=>
       rw [hc] at hVl hcl;simp only [Bool.false_eq_true,if_false] at hVl
       ((try simp (disch:=first|omega|(simp<;>omega)|fail) [*,Ze,Zd]);repeat'(first|refine Z8 ?_|refine Z9 ?_|refine Z0 ?_|refine Z1 fun _=>?_|refine Z2 fun _ _=>?_|refine Z3 (fun _=>?_) fun _ _=>?_|refine Z4 fun _=>?_|refine Z5 fun _=>?_|refine Z6 (fun _=>?_) fun _=>?_|refine Z7 (fun _=>?_) fun _=>?_)<;>(try simp (disch:=first|omega|(simp<;>omega)|fail) [*,Ze,Zd]))
       rw [<- hVl];exact ⟨rfl,rfl⟩
end Go.Proofs.YtabcdhcpilpojaaGreatDoor
end
