/- The program's terms: nodes. -/
import Derived.Test.YtabcdhcpilpojaaGreatDoorFD
import Derived.Test.YtabcdhcpilpojaaGreatDoorFC
import Derived.Test.YtabcdhcpilpojaaGreatDoorFA
import Derived.Test.YtabcdhcpilpojaaGreatDoorPD
set_option linter.unusedSimpArgs false
set_option linter.unusedVariables false
section
set_option maxRecDepth 20000
namespace Go.Proofs.YtabcdhcpilpojaaGreatDoor
open Go Go.Pure
open Go.Virt (Ex Ctx Ty TK)
theorem Zafe (s:Int):Xq vE 182 [.int .i64 s] (.bool (Zcr s)):=by
 intro K H;refine Wc Tryz.func182 ?_
 (refine Zm ?_;repeat'(first|(refine Zi fun _=>?_;try simp(disch:=first|exact Zq|fail)[*,Yb,Tryz.f182])|refine Ye ?_|refine Zx ?_|refine Zn ?_ ?_))
 all_goals simp[Zcr, *]
theorem Z12 (s:Int):Xq vE 188 [.int .i64 s] (.bool (Vp s)):=by
 intro K H;refine Wc Tryz.func188 ?_
 (refine Zm ?_;repeat'(first|(refine Zi fun _=>?_;try simp(disch:=first|exact Zq|fail)[*,Yb,Tryz.f188])|refine Ye ?_|refine Zx ?_|refine Zn ?_ ?_))
 all_goals simp[Vp, *]
theorem Ziv (b:Bool)(s:Int):Xq vE 186 [.bool b,.int .i64 s] (.int .i64 (if b then s else 0)):=by
 cases b
 .intro K H;refine Wc Tryz.func186 ?_
  (refine Zm ?_;repeat'(first|(refine Zi fun _=>?_;try simp(disch:=first|exact Zq|fail)[*,Yb,Tryz.f186])|refine Ye ?_|refine Zx ?_|refine Zn ?_ ?_))
 .intro K H;refine Wc Tryz.func186 ?_
  (refine Zm ?_;repeat'(first|(refine Zi fun _=>?_;try simp(disch:=first|exact Zq|fail)[*,Yb,Tryz.f186])|refine Ye ?_|refine Zx ?_|refine Zn ?_ ?_))
theorem Zafj (op n:Int)(hn:0<=n):Xq vE 160 [.int .i64 op,.int .i64 n] (.bool (Yz op n)):=by
 intro K H;refine Wc Tryz.func160 ?_
 (refine Zm ?_;repeat'(first|(refine Zi fun _=>?_;try simp(disch:=first|exact Zq|fail)[*,Yb,Tryz.f160])|refine Ye ?_|refine Zx ?_|refine Zn ?_ ?_))
 all_goals simp_all[Yz]
 all_goals omega
def Zahu (s:Y9):Prop:=Zae s=true/\s.length < 2^20/\(Zbq s).den < 1000000000
theorem Zaam {s:Y9}(h:Zahu s):Xq vE 197 [.str s] (.bool true):=by
 obtain⟨h1,h2,h3⟩:=h;obtain⟨h4,h5,_⟩:=Zhi h1;rw[h5]at h2 ⊢;exact Z11 h4 h2 h3
theorem Zw4 {s:Y9}(h:Ul s=true)(hl:s.length < 2^20):Xq vE 183 [.str s] (.bool true):=by
 unfold Ul at h;simp only[Bool.and_eq_true,beq_iff_eq]at h;obtain⟨h4,h5,_⟩:=Zhi h.1;rw[h5]at hl ⊢;exact Zafd h4 h.2 (by omega)
theorem Zaan {s:Y9}(h:Ul s=true)(hp:0 < Zdx s)(hl:s.length < 2^20):Xq vE 184 [.str s] (.int .i64 1):=by
 unfold Ul at h;simp only[Bool.and_eq_true,beq_iff_eq]at h;obtain⟨h4,h5,_⟩:=Zhi h.1;unfold Zdx at hp
 have hn:(Zbq s).neg=false/\(Zbq s).num≠0:=by
  split at hp
  .omega
  .rename_i hh;split at hp
   .omega
   .rename_i h2;exact⟨by simpa using h2,fun e=>hh (.inr e)⟩
 rw[h5]at hl ⊢;exact Zafc h4 hl h.2 hn.1 hn.2
theorem Zaff (s:Int)(x:Y9)(hl:x.length < 2^20)(h:s=2/\Ul x=true\/s=3/\Zahu x):Xq vE 181 [.int .i64 s,.str x] (.bool true):=by
 rcases h with⟨rfl,h⟩ | ⟨rfl,h⟩
 .have h183:=Zw4 h hl;clear h;intro K H;refine Wc Tryz.func181 ?_
  (refine Zm ?_;repeat'(first|(refine Zi fun _=>?_;try simp(disch:=first|exact Zq|fail)[*,Yb,Tryz.f181])|refine Ye ?_|refine Zx ?_|refine Zn ?_ ?_))
 .have h197:=Zaam h;clear h;intro K H;refine Wc Tryz.func181 ?_
  (refine Zm ?_;repeat'(first|(refine Zi fun _=>?_;try simp(disch:=first|exact Zq|fail)[*,Yb,Tryz.f181])|refine Ye ?_|refine Zx ?_|refine Zn ?_ ?_))
theorem Zafk (n:Nd)(hs:n.Short)(h:Wa n.op n.sort n.name n.num=true)(hm:n.Sm):Xq vE 159 [Zo n] (.bool true):=by
 obtain⟨op,sort,name,num,kids⟩:=n;simp only[Nd.Short,Nd.Sm]at hs hm h;unfold Wa at h;by_cases h3:op=3
 .subst h3;simp only[if_true,Bool.and_eq_true,Bool.or_eq_true,beq_iff_eq]at h;have h181:=Zaff sort num (by omega) (h.2.imp id fun hh=>⟨hh.1,hh.2,by omega,hm rfl⟩);have hn:=h.1;subst hn;clear h hm;intro K H;refine Wc Tryz.func159 ?_
  (refine Zm ?_;repeat'(first|(refine Zi fun _=>?_;try simp(disch:=first|exact Zq|fail)[*,Yb,Tryz.f159])|refine Ye ?_|refine Zx ?_|refine Zn ?_ ?_))
 .rw [if_neg h3]at h;by_cases h45:op=4\/op=5
  .rw [if_pos h45]at h;simp only[Bool.and_eq_true,beq_iff_eq]at h;obtain⟨⟨rfl,hn⟩,hso⟩:=h;have h85:=Zalw name (by omega);have h182:=Zafe sort;rw[hn]at h85;rw[hso]at h182;clear hm hn hso;rcases h45 with rfl | rfl
   all_goals
    clear h3;intro K H;refine Wc Tryz.func159 ?_
    (refine Zm ?_;repeat'(first|(refine Zi fun _=>?_;try simp(disch:=first|exact Zq|fail)[*,Yb,Tryz.f159])|refine Ye ?_|refine Zx ?_|refine Zn ?_ ?_))
  .rw [if_neg h45]at h;by_cases h167:op=16\/op=17
   .rw [if_pos h167]at h;simp only[Bool.and_eq_true,beq_iff_eq,decide_eq_true_eq]at h;obtain⟨⟨⟨rfl,rfl⟩,hi⟩,hp⟩:=h;have h183:=Zw4 hi (by omega);have h184:=Zaan hi hp (by omega);clear hm hi hp h45 h3;rcases h167 with rfl | rfl
    all_goals
     intro K H;refine Wc Tryz.func159 ?_
     (refine Zm ?_;repeat'(first|(refine Zi fun _=>?_;try simp(disch:=first|exact Zq|fail)[*,Yb,Tryz.f159])|refine Ye ?_|refine Zx ?_|refine Zn ?_ ?_))
   .rw [if_neg h167]at h;simp only[Bool.and_eq_true,beq_iff_eq,decide_eq_true_eq]at h;obtain⟨⟨⟨⟨h1,h20⟩,rfl⟩,rfl⟩,rfl⟩:=h;clear hm;intro K H;refine Wc Tryz.func159 ?_
    (refine Zm ?_;repeat'(first|(refine Zi fun _=>?_;try simp(disch:=first|exact Zq|fail)[*,Yb,Tryz.f159])|refine Ye ?_|refine Zx ?_|refine Zn ?_ ?_))
theorem Ze5 {K:Pure.Loc}{H:PH}{p:Nat}{x:Nat×PO}(Zu:can K p=true)(hp:H.get p=some x):[p].all (fun i=>can K i&&(H.get i).isSome)=true:=by
 simp only[List.all_cons,List.all_nil,Zu,hp,Option.isSome_some,Bool.and_self]
theorem Zwr (x y:Int)(K:Pure.Loc)(H:PH)(p Zc:Nat)(Zu:can K p=true)(hlt:p < H.next)(hp:H.get p=some (Zc,.cells [.int .i64 x])):Yh vE K 201 [.int .i64 y,.ptr p Zc 0] H=some (.bool (!(y==x)),H):=by
 refine W6 (ok:=[p]) (fn:=Tryz.f201) Tryz.func201 rfl rfl rfl (by simp) (by simp[reach,hp,refsO]) (Ze5 Zu hp) (by simpa using hlt) (by simp[PH.belowAt,hp,Wj]) ?_ (by simp);have W5:=Yg hlt
 (refine Zm ?_;repeat'(first|(refine Zi fun _=>?_;try simp(disch:=first|exact Zw|fail)[*,Yd,Tryz.f201,Ze hlt])|refine Zx ?_|refine Zn ?_ ?_))
theorem Z90 (x:Int)(b:Bool)(s:List Int)(hl:s.length < 2^30)(K:Pure.Loc)(H:PH)(p Zc:Nat)(Zu:can K p=true)(hlt:p < H.next)(hp:H.get p=some (Zc,.cells [.int .i64 x])):∃r:Int,(0<=r↔s.all (·==x)=false)/\Yh vE K 207 [L 3 b (s.map (.int .i64)),.fn 201 [] [.ptr p Zc 0]] H=some (.int .i64 r,H):=by
 cases hf:s.findIdx? (fun y=>!(y==x)) with
 |none=>
  have hall:∀i (h:i < s.length),s[i]=x:=fun i h=>by
   have:=List.findIdx?_eq_none_iff.1 hf s[i] (List.getElem_mem h);simpa using this
  refine⟨-1,?_,?_⟩
  .have:s.all (·==x)=true:=by
    rw[List.all_eq_true];intro y hy;obtain⟨i,h,rfl⟩:=List.getElem_of_mem hy;simpa using hall i h
   rw[this];simp
  refine W6 (ok:=[p]) (fn:=Tryz.f207) Tryz.func207 rfl rfl rfl (by simp) (by simp[reach,hp,refsO]) (Ze5 Zu hp) (by simpa using hlt) (by simp[PH.belowAt,hp,Wj]) ?_ (by simp);have W5:=Yg hlt
  (refine Zm ?_;repeat'(first|(refine Zi fun _=>?_;try simp(disch:=first|exact Zw|fail)[*,Yd,Tryz.f207,Ze hlt])|refine Zx ?_|refine Zn ?_ ?_))
  refine Zv [0,1,7] (fun n sl h=>∃i:Nat,n=s.length - i/\i<=s.length/\sl 8=some (.int .i64 i)/\h={H with next:=H.next+19}) s.length rfl ⟨0,by simp,by simp,by simp,rfl⟩ ?_;rintro n sl h hfr ⟨i,hn,hi,h8,rfl⟩;simp at hfr;by_cases Zng:i < s.length
  .have hx:=hall i Zng;have hc:=Zwr x x {base:=H.next,lo:=H.next,ok:=[p]} {H with next:=H.next+19} p Zc (by simp) (by simp;omega) hp;simp only[BEq.rfl,Bool.not_true]at hc
   (refine Zm ?_;repeat'(first|(refine Zi fun _=>?_;try simp(disch:=first|exact Zw|fail)[*,Yd,Ze hlt])|refine Zx ?_|refine Zn ?_ ?_))
   exact⟨_,by omega,i+1,rfl,by omega,by omega⟩
  . (refine Zm ?_;repeat'(first|(refine Zi fun _=>?_;try simp(disch:=first|exact Zw|fail)[*,Yd,Ze hlt])|refine Zx ?_|refine Zn ?_ ?_))
 |some k=>
  obtain⟨hk,Yp,hall⟩:=List.findIdx?_eq_some_iff_getElem.1 hf;refine⟨k,?_,?_⟩
  .have:s.all (·==x)=false:=by
    rw[List.all_eq_false];exact⟨s[k],List.getElem_mem hk,by simpa using Yp⟩
   rw[this];simp
  refine W6 (ok:=[p]) (fn:=Tryz.f207) Tryz.func207 rfl rfl rfl (by simp) (by simp[reach,hp,refsO]) (Ze5 Zu hp) (by simpa using hlt) (by simp[PH.belowAt,hp,Wj]) ?_ (by simp);have W5:=Yg hlt
  (refine Zm ?_;repeat'(first|(refine Zi fun _=>?_;try simp(disch:=first|exact Zw|fail)[*,Yd,Tryz.f207,Ze hlt])|refine Zx ?_|refine Zn ?_ ?_))
  refine Zv [0,1,7] (fun n sl h=>∃i:Nat,n=s.length - i/\i<=k/\sl 8=some (.int .i64 i)/\h={H with next:=H.next+19}) s.length rfl ⟨0,by simp,by simp,by simp,rfl⟩ ?_;rintro n sl h hfr ⟨i,hn,hi,h8,rfl⟩;simp at hfr;have hc:=Zwr x s[i] {base:=H.next,lo:=H.next,ok:=[p]} {H with next:=H.next+19} p Zc (by simp) (by simp;omega) hp;by_cases hik:i < k
  .have hx:s[i]=x:=by simpa using hall i hik
   rw[hx,BEq.rfl]at hc;simp only[Bool.not_true]at hc
   (refine Zm ?_;repeat'(first|(refine Zi fun _=>?_;try simp(disch:=first|exact Zw|fail)[*,Yd,Ze hlt])|refine Zx ?_|refine Zn ?_ ?_))
   exact⟨_,by omega,i+1,rfl,by omega,by omega⟩
  .have e:i=k:=by omega
   subst e;rw[Yp]at hc
   (refine Zm ?_;repeat'(first|(refine Zi fun _=>?_;try simp(disch:=first|exact Zw|fail)[*,Yd,Ze hlt])|refine Zx ?_|refine Zn ?_ ?_))
theorem Z91 (x:Int)(b:Bool)(s:List Int)(hl:s.length < 2^30)(K:Pure.Loc)(H:PH)(p Zc:Nat)(Zu:can K p=true)(hlt:p < H.next)(hp:H.get p=some (Zc,.cells [.int .i64 x])):Yh vE K 200 [L 3 b (s.map (.int .i64)),.fn 201 [] [.ptr p Zc 0]] H=some (.bool (!(s.all (·==x))),H):=by
 refine W6 (ok:=[p]) (fn:=Tryz.f200) Tryz.func200 rfl rfl rfl (by simp) (by simp[reach,hp,refsO]) (Ze5 Zu hp) (by simpa using hlt) (by simp[PH.belowAt,hp,Wj]) ?_ (by simp);have W5:=Yg hlt;obtain⟨r,hr,hc⟩:=Z90 x b s hl {base:=H.next,lo:=H.next,ok:=[p]} {H with next:=H.next+9} p Zc (by simp) (by simp;omega) hp;cases ha:s.all (·==x) with
 |true=>
  rw[ha]at hr;have hr':¬ 0<=r:=by simpa using hr
  (refine Zm ?_;repeat'(first|(refine Zi fun _=>?_;try simp(disch:=first|exact Zw|fail)[*,Yd,Tryz.f200,Ze hlt])|refine Zx ?_|refine Zn ?_ ?_))
 |false=>
  rw[ha]at hr;have hr':0<=r:=hr.2 rfl
  (refine Zm ?_;repeat'(first|(refine Zi fun _=>?_;try simp(disch:=first|exact Zw|fail)[*,Yd,Tryz.f200,Ze hlt])|refine Zx ?_|refine Zn ?_ ?_))
theorem Z13 (x:Int)(b:Bool)(s:List Int)(hl:s.length < 2^30):Xq vE 187 [L 3 b (s.map (.int .i64)),.int .i64 x] (.bool (s.all (·==x))):=by
 intro K H;refine Wc Tryz.func187 ?_
 (refine Zm ?_;repeat'(first|(refine Zi fun _=>?_;try simp(disch:=first|exact Zw|fail)[*,Yd,Tryz.f187])|refine Zx ?_|refine Zn ?_ ?_))
 rw[Z91 x b s hl _ _ (H.next+3) _ (by simp) (by simp) (by simp)]
 (refine Zm ?_;repeat'(first|(refine Zi fun _=>?_;try simp(disch:=first|exact Zw|fail)[*,Yd])|refine Zx ?_|refine Zn ?_ ?_))
set_option maxHeartbeats 4000000 in
theorem Z15 (n:Nd)(s:List Int)(hl:s.length < 2^20)(hp:∀x∈s,0 < x)(ha:Yz n.op s.length=true)(h1:1<=n.op)(h20:n.op<=20)(h15:n.op=15->Vp (atI s 0)=true):Xq vE 162 [Zo n,L 3 true (s.map (.int .i64))] (.int .i64 (Wz n.op n.sort 3 s)):=by
 obtain⟨op,sort,name,num,kids⟩:=n;simp only at ha h1 h20 h15 ⊢;have Zv7:=fun x=>Z13 x true s (by omega)
 have hc:op=3\/op=4\/op=5\/(op=1\/op=2\/op=6\/op=7\/op=8\/op=9)\/(op=10\/op=19)\/(op=11\/op=12\/op=13\/op=15\/op=18)\/op=14\/(op=16\/op=17\/op=20):=by omega
 rcases hc with rfl | rfl | rfl | hc | hc | hc | rfl | hc
 .intro K H;refine Wc Tryz.func162 ?_
  (refine Zm ?_;repeat'(first|(refine Zi fun _=>?_;try simp(disch:=first|exact Zw|fail)[*,Yd,Tryz.f162])|refine Zx ?_|refine Zn ?_ ?_))
  simp[Wz]
 .intro K H;refine Wc Tryz.func162 ?_
  (refine Zm ?_;repeat'(first|(refine Zi fun _=>?_;try simp(disch:=first|exact Zw|fail)[*,Yd,Tryz.f162])|refine Zx ?_|refine Zn ?_ ?_))
  simp[Wz]
 .intro K H;refine Wc Tryz.func162 ?_
  (refine Zm ?_;repeat'(first|(refine Zi fun _=>?_;try simp(disch:=first|exact Zw|fail)[*,Yd,Tryz.f162])|refine Zx ?_|refine Zn ?_ ?_))
  simp[Wz]
 .have Z9d:=Zv7 1;have h186:=Ziv (s.all (·==1)) 1
  have e:Wz op sort 3 s=if s.all (·==1) then 1 else 0:=by
   rcases hc with rfl | rfl | rfl | rfl | rfl | rfl
   .have:s=[]:=by simpa[Yz]using ha
    subst this;simp[Wz]
   .have:s=[]:=by simpa[Yz]using ha
    subst this;simp[Wz]
   all_goals simp[Wz,W7]
  rw[e];generalize s.all (·==1)=c at *;generalize (if c=true then (1:Int) else 0)=r at *;clear Zv7 h15 ha hp e;rcases hc with rfl | rfl | rfl | rfl | rfl | rfl
  all_goals
   intro K H;refine Wc Tryz.func162 ?_
   (refine Zm ?_;repeat'(first|(refine Zi fun _=>?_;try simp(disch:=first|exact Zw|fail)[*,Yd,Tryz.f162])|refine Zx ?_|refine Zn ?_ ?_))
 .have hs3:s.length=3:=by
   have:(s.length:Int)=3:=by rcases hc with rfl | rfl<;>simpa[Yz]using ha
   omega
  obtain⟨a,b,c,rfl⟩:∃a b c,s=[a,b,c]:=by
   match s,hs3 with
   | [a,b,c],_=>exact⟨a,b,c,rfl⟩
  have Z9d:=Z13 2 true [b,c] (by simp);have h186:=Ziv;clear Zv7 h15 ha hp hs3 hl;simp only[List.map_cons,List.map_nil,Xe]at *;rcases hc with rfl | rfl
  all_goals
   intro K H;refine Wc Tryz.func162 ?_
   (refine Zm ?_;repeat'(first|(refine Zi fun _=>?_;try simp(disch:=first|exact Zq|fail)[*,Yb,Tryz.f162])|refine Ye ?_|refine Zx ?_|refine Zn ?_ ?_))
   all_goals simp_all[Wz,W7,atI]
 .have hs2:s.length=2:=by
   have:(s.length:Int)=2:=by rcases hc with rfl | rfl | rfl | rfl | rfl<;>simpa[Yz]using ha
   omega
  obtain⟨a,b,rfl⟩:∃a b,s=[a,b]:=by
   match s,hs2 with
   | [a,b],_=>exact⟨a,b,rfl⟩
  have Z9d:=Zv7 a;have h188:=Z12;have h186:=Ziv;have h15':op=15->Vp a=true:=h15;clear Zv7 h15 ha hp hs2 hl;simp only[List.map_cons,List.map_nil,Xe]at *;rcases hc with rfl | rfl | rfl | rfl | rfl
  all_goals
   intro K H;refine Wc Tryz.func162 ?_
   (refine Zm ?_;repeat'(first|(refine Zi fun _=>?_;try simp(disch:=first|exact Zq|fail)[*,Yb,Tryz.f162])|refine Ye ?_|refine Zx ?_|refine Zn ?_ ?_))
   all_goals first
    | (simp_all[Wz,W7,atI];done)
    | (by_cases hab:a=b
       .subst hab;simp[Wz,W7,atI]
       .have hba:¬ b=a:=fun e=>hab e.symm
        simp[Wz,W7,atI,hab,hba])
 .have hs1:0 < s.length:=by
   have:(1:Int)<=s.length:=by simpa[Yz]using ha
   omega
  obtain⟨a,r,rfl⟩:∃a r,s=a::r:=by
   match s,hs1 with
   |a::r,_=>exact⟨a,r,rfl⟩
  have Z9d:=Zv7 a;have h188:=Z12;have h186:=Ziv;clear Zv7 h15 ha hp hs1;simp only[List.map_cons,List.map_nil,Xe]at *;intro K H;refine Wc Tryz.func162 ?_
  (refine Zm ?_;repeat'(first|(refine Zi fun _=>?_;try simp(disch:=first|exact Zq|fail)[*,Yb,Tryz.f162])|refine Ye ?_|refine Zx ?_|refine Zn ?_ ?_))
  all_goals simp_all[Wz,W7,atI]
 .have hs1:s.length=1:=by
   have:(s.length:Int)=1:=by rcases hc with rfl | rfl | rfl<;>simpa[Yz]using ha
   omega
  obtain⟨a,rfl⟩:∃a,s=[a]:=by
   match s,hs1 with
   | [a],_=>exact⟨a,rfl⟩
  have h186:=Ziv;clear Zv7 h15 ha hp hs1 hl;simp only[List.map_cons,List.map_nil,Xe]at *;rcases hc with rfl | rfl | rfl
  all_goals
   intro K H;refine Wc Tryz.func162 ?_
   (refine Zm ?_;repeat'(first|(refine Zi fun _=>?_;try simp(disch:=first|exact Zq|fail)[*,Yb,Tryz.f162])|refine Ye ?_|refine Zx ?_|refine Zn ?_ ?_))
   all_goals simp_all[Wz,W7,atI]
theorem Zws (v:PV)(hv:Zd v=[v])(hc:Wv v=true)(K:Pure.Loc)(h:PH):Yh vE K 161 [v] h=some (.fn 185 [] [.ptr (h.next+1) (h.stamp (h.next+1)) 0],{h.put (h.next+1) (h.stamp (h.next+1)) (.cells [v]) with next:=h.next+4}):=by
 have key:wp (Yh vE K 161 [v] h) fun r=>r=(.fn 185 [] [.ptr (h.next+1) (h.stamp (h.next+1)) 0],{h.put (h.next+1) (h.stamp (h.next+1)) (.cells [v]) with next:=h.next+4}):=by
  refine Zlz (fn:=Tryz.f161) (by cases v<;>rfl) Tryz.func161 rfl rfl ?_
  (refine Zm ?_;repeat'(first|(refine Zi fun _=>?_;try simp(disch:=first|exact Zw|fail)[*,Yd,Tryz.f161])|refine Zx ?_|refine Zn ?_ ?_))
  rw[if_neg]
  .rfl
  .rw [Bool.not_eq_true];unfold Zid;rw[List.all_eq_false];exact⟨1,by simp,by simp⟩
 obtain⟨r,h1,rfl⟩:=X5.1 key;exact h1
theorem Z7i {α:Type}(p:Prop)[Decidable p](a b:α):(if p then a else b)=b\/(if p then a else b)=a:=by
 by_cases h:p
 .rw [if_pos h];exact .inr rfl
 .rw [if_neg h];exact .inl rfl
set_option maxHeartbeats 1000000 in
theorem Zab3 {K:Pure.Loc}{sl:Yt}{h:PH}{f:Operand}{p1 p2:Nat}{asg bd:Code}{c cver o over off n:Nat}{ys:List PV}{w:Nat->PV}{Q:Ex×Yt×PH->Prop}(J:Nat->PH->Prop)(hf:Yx sl f=some (.fn 185 [] [.ptr c cver 0]))(Sh:K.lo<=h.next)
  (Xr:∀i h' x,J i h'->J i (h'.put h.next 0 x)) (Sj:∀i h' m,J i h'->J i {h' with next:=m}) (hrc:∀i h',J i h'->h'.get c=some (cver,.cells [.own o over 3 off n])) (hro:∀i h',J i h'->h'.get o=some (over,.row 3 true ys)) (hel:∀k,k < n->ys[off+k]?=some (w k)) (hw:∀k,∃z,w k=.int .i64 z) (hn:n < 2^30) (hoff:off+n<=ys.length)
  (h0:J 0 h) (step:∀i,i < n->∀h',J i h'->h.next+20<=h'.next->h'.get h.next=some (0,.gone)->wp (Vt vE K false asg (Zd1 sl [(p1,.int .i64 (n - 1 - i:Nat)),(p2,w (n - 1 - i))]) h') fun r1=>r1.1=.normal/\wp (Vt vE K false bd r1.2.1 r1.2.2) fun r2=>r2.1=.normal/\J (i+1) r2.2.2/\r2.2.2.get h.next=some (0,.gone)/\h.next+20<=r2.2.2.next)
  (hQ:∀h',J n h'->h.next < h'.next->Q (.normal,sl,h')):wp (Vt vE K true (.rangeFunc f #[p1,p2] asg bd) sl h) Q:=by
 refine Ztp hf rfl ?_;refine Zlz (fn:=Tryz.f185) (by rfl) Tryz.func185 rfl rfl ?_;have hJ0:J 0 ({h.put h.next 0 (.loop K sl #[p1,p2].toList asg bd) with next:=h.next+1}):=Sj _ _ _ (Xr _ _ _ h0);have hrc0:=hrc _ _ hJ0;have hro0:=hro _ _ hJ0
 have hcL:c≠h.next:=fun e=>by
  have h1:=hrc _ _ (Xr _ _ .gone h0);rw[e]at h1;simp at h1
 have hoL:o≠h.next:=fun e=>by
  have h1:=hro _ _ (Xr _ _ .gone h0);rw[e]at h1;simp at h1
 simp[hcL,hoL]at hrc0 hro0
 (refine Zm ?_;repeat'(first|(refine Zi fun _=>?_;try simp(disch:=first|exact Zw|fail)[*,Yd,Tryz.f185])|refine Zx ?_|refine Zn ?_ ?_))
 refine Zv [0,1] (fun m Y6 hh=>∃i:Nat,m=n - i/\i<=n/\Y6 3=some (.int .i64 ((n:Int) - 1 - i))/\J i hh/\hh.get h.next=some (0,.loop K sl [p1,p2] asg bd)/\h.next+20<=hh.next) n rfl ⟨0,by simp,by simp,by simp,Sj _ _ _ (Xr _ _ _ h0),by simp,by simp⟩ ?_;rintro m Y6 hh hfr ⟨i,hm,hi,h3,hJ,hL,hnxt⟩;simp at hfr;have hrc1:=hrc _ _ hJ;have hro1:=hro _ _ hJ;by_cases hlt:i < n
 .have he:=hel (n - 1 - i) (by omega);obtain⟨z,hz⟩:=hw (n - 1 - i);obtain⟨hyl,hyv⟩:=List.getElem?_eq_some_iff.1 he;have e1:((n:Int) - 1 - i)=((n - 1 - i:Nat):Int):=by omega
  have Zcc:=step i hlt (hh.put h.next 0 .gone) (Xr _ _ _ hJ) (by simpa using hnxt) (by simp);rw[hz]at he hyv Zcc;rw[e1]at h3;generalize hk:n - 1 - i=k at *;have hkn:k < n:=by omega
  replace Xr:=Hide.mk Xr;replace Zcc:=Hide.mk Zcc;clear hrc hro hel hw h0 step hJ0 hrc0 hro0 hJ Sj
  (refine Zm ?_;repeat'(first|(refine Zi fun _=>?_;try simp(disch:=first|exact Zw|fail)[*,Yd])|refine Zx ?_|refine Zn ?_ ?_))
  refine Z52 hL rfl (by simp) (by simp[List.all_eq_true];exact fun x hx=>.inr hx) ?_;refine Pure.wp_mono Zcc.get ?_;rintro⟨x1,Qr,hh1⟩ ⟨q1,q2⟩;refine⟨q1,Pure.wp_mono q2 ?_⟩;rintro⟨x2,sl2,hh2⟩ ⟨q3,q4,q5,q6⟩;refine⟨q3,q5,?_⟩;have q7:=Xr.get _ _ (.loop K sl [p1,p2] asg bd) q4;simp only at q6;replace q7:=Hide.mk q7;clear q4 Zcc q2 hyv he hrc1 hro1 hL q1 q3
  (refine Zm ?_;repeat'(first|(refine Zi fun _=>?_;try simp(disch:=first|exact Zw|fail)[*,Yd])|refine Zx ?_|refine Zn ?_ ?_))
  exact⟨_,by omega,i+1,rfl,by omega,by omega,q7.get⟩
 .have e:i=n:=by omega
  subst e;have Xx:∀hf:PH,(∃K1 s1 p1 a1 b1,hf.get h.next=some (0,.loop K1 s1 p1 a1 b1))/\Q (Ex.normal,sl,hf.put h.next 0 .gone)->True:=fun _ _=>trivial
  have Qc:∀hf:PH,(hf=hh\/hf={hh with next:=h.next+1})->(∃K1 s1 p1 a1 b1,hf.get h.next=some (0,.loop K1 s1 p1 a1 b1))/\Q (Ex.normal,sl,hf.put h.next 0 .gone):=by
   rintro hf (rfl | rfl)
   .exact ⟨⟨_,_,_,_,_,hL⟩,hQ _ (Xr _ _ _ hJ) (by simp;omega)⟩
   .exact ⟨⟨_,_,_,_,_,hL⟩,hQ _ (Xr _ _ _ (Sj _ _ _ hJ)) (by simp)⟩
  replace Qc:=Hide.mk Qc;clear Xr hrc hro hel hw h0 step hJ0 hrc0 hro0 Xx
  (refine Zm ?_;repeat'(first|(refine Zi fun _=>?_;try simp(disch:=first|exact Zw|fail)[*,Yd])|refine Zx ?_|refine Zn ?_ ?_))
  apply Qc.get;exact Z7i _ _ _
theorem Zts {K:Pure.Loc}{sl:Yt}{h:PH}{f:Operand}{p1 p2:Nat}{asg bd:Code}{c cver:Nat}{Q:Ex×Yt×PH->Prop}(hf:Yx sl f=some (.fn 185 [] [.ptr c cver 0]))(hrc:h.get c=some (cver,.cells [.nils]))(hc:c < h.next)
  (hQ:∀h',(∀k,k≠h.next->h'.get k=h.get k)->h.next < h'.next->Q (.normal,sl,h')):wp (Vt vE K true (.rangeFunc f #[p1,p2] asg bd) sl h) Q:=by
 refine Ztp hf rfl ?_;refine Zlz (fn:=Tryz.f185) (by rfl) Tryz.func185 rfl rfl ?_;have hcn:(c=h.next)=False:=by simp;omega
 (refine Zm ?_;repeat'(first|(refine Zi fun _=>?_;try simp(disch:=first|exact Zw|fail)[*,Yd,Tryz.f185])|refine Zx ?_|refine Zn ?_ ?_))
 refine Zv [0,1] (fun m Y6 hh=>m=0/\Y6 3=some (.int .i64 (-1))/\hh.get h.next=some (0,.loop K sl [p1,p2] asg bd)/\h.next < hh.next/\∀k,k≠h.next->hh.get k=h.get k) 0 rfl ⟨rfl,by simp,by simp,by simp;omega,fun k hk=>by simp[hk]⟩ ?_;rintro m Y6 hh hfr ⟨rfl,h3,hL,Sj,hg⟩;simp at hfr
 have Qc:∀hf:PH,(hf=hh\/hf={hh with next:=h.next+1})->(∃K1 s1 p1 a1 b1,hf.get h.next=some (0,.loop K1 s1 p1 a1 b1))/\Q (Ex.normal,sl,hf.put h.next 0 .gone):=by
  rintro hf (rfl | rfl)
  .exact ⟨⟨_,_,_,_,_,hL⟩,hQ _ (fun k hk=>by simp[hk,hg k hk]) (by simpa using Sj)⟩
  .exact ⟨⟨_,_,_,_,_,hL⟩,hQ _ (fun k hk=>by simp[hk,hg k hk]) (by simp)⟩
 replace Qc:=Hide.mk Qc;clear hQ hg
 (refine Zm ?_;repeat'(first|(refine Zi fun _=>?_;try simp(disch:=first|exact Zw|fail)[*,Yd])|refine Zx ?_|refine Zn ?_ ?_))
 apply Qc.get;exact Z7i _ _ _
mutual
def Yq:Tr->Nat
 | .mk _ _ _ _ ks=>Ys ks+1
def Ys:List Tr->Nat
 | []=>0
 |k::r=>max (Yq k) (Ys r)
end
inductive Forest (D:Nat):List Nd->List (Tr×Nat)->Prop
 |nil:Forest D [] []
 |cons {r r' tr n ts} (h:Zg D r=some (tr,r')) (hn:r.length=r'.length+n) (h0:0 < n) (f:Forest D r' ts):Forest D r ((tr,n)::ts)
def Xj:Nat->List (Tr×Nat)->List Nat
 | _,[]=>[]
 |b,(_,n)::ts=>b::Xj (b+n) ts
theorem Wo (b:Nat)(ts:List (Tr×Nat)):(Xj b ts).length=ts.length:=by
 induction ts generalizing b with
 |nil=>rfl
 |cons x ts ih=>obtain⟨tr,n⟩:=x;simp[Xj,ih]
def Xm:List (Tr×Nat)->Nat
 | []=>0
 | (_,n)::ts=>n+Xm ts
theorem Zfr (b:Nat)(ts us:List (Tr×Nat)):Xj b (ts++us)=Xj b ts++Xj (b+Xm ts) us:=by
 induction ts generalizing b with
 |nil=>simp[Xj,Xm]
 |cons x ts ih=>obtain⟨tr,n⟩:=x;simp[Xj,Xm,ih,Nat.add_assoc]
theorem Forest.many {D:Nat}:∀ {k:Nat} {r r'':List Nd} {ks:List Tr} {ts:List (Tr×Nat)},Forest D r ts->many (Zg D) k r=some (ks,r'')->∃t1 t2,ts=t1++t2/\t1.map (·.1)=ks/\Forest D r'' t2/\t1.length=k/\r.length=r''.length+Xm t1
 | 0,r,r'',ks,ts,f,h=>by
   simp only[Go.Proofs.YtabcdhcpilpojaaGreatDoor.many,Option.some.injEq,Prod.mk.injEq]at h;obtain⟨rfl,rfl⟩:=h;exact⟨[],ts,rfl,rfl,f,rfl,by simp[Xm]⟩
 |k+1,r,r'',ks,ts,f,h=>by
  simp only[Go.Proofs.YtabcdhcpilpojaaGreatDoor.many]at h;split at h
  .cases h
  .rename_i t1 r1 h1;split at h
   .cases h
   .rename_i us r2 h2;cases h;cases f with
    |nil=>rw[Zx9]at h1;cases h1
    |cons h3 hn h0 f=>
     rw[h3]at h1;cases h1;obtain⟨a,b,rfl,e,f2,e2,e3⟩:=Forest.many f h2;exact⟨_::a,b,rfl,by simp[e],f2,by simp[e2],by simp[Xm];omega⟩
where Zx9 {D:Nat}:Zg D []=none:=by cases D<;>rfl
theorem Zem {d:Nat}{n:Nd}{r r0:List Nd}{tr:Tr}{ts:List (Tr×Nat)}(h:Zg (d+1) (n::r)=some (tr,r0))(f:Forest (d+1) r ts):∃t1 t2,ts=t1++t2/\tr=.mk n.op n.sort n.name n.num (t1.map (·.1))/\n.kids=(t1.length:Int) /\
  Forest (d+1) (n::r) ((tr,1+Xm t1)::t2)/\Wa n.op n.sort n.name n.num=true/\Yz n.op n.kids=true/\r.length=r0.length+Xm t1:=by
 have h':=h;rw[Zg]at h';split at h'
 .rename_i hc;rw[Bool.and_eq_true]at hc;split at h'
  .cases h'
  .rename_i ks r1 h1;cases h';have h2:=Zb5 (fun _ _=>Zag) h1;obtain⟨a,b,rfl,e,f2,e2,e3⟩:=f.many h2;refine⟨a,b,rfl,by rw[e],?_,.cons h (by simp;omega) (by omega) f2,hc.1,hc.2,e3⟩
   have hk:0<=n.kids:=by
    have:=hc.2;unfold Yz at this;split at this
    .simp at this;omega
    .split at this
     .simp at this;omega
     .split at this
      .simp at this;omega
      .split at this
       .simpa using this
       .split at this
        .simp at this;omega
        .split at this
         .simp at this;omega
         .simp at this;omega
   rw[e2];omega
 .cases h'
theorem Uj {op s:Int}{nm nu:Y9}{ks:List Tr}(h:0 < Zl (.mk op s nm nu ks)):(∀k∈ks,0 < Zl k)/\Zl (.mk op s nm nu ks)=Wz op s (Vd ks) (Ym ks):=by
 rw[Zl]at h ⊢;split at h
 .rename_i ha;rw[if_pos ha];refine⟨fun k hk=>?_,rfl⟩
  have hm:Zl k∈Ym ks:=by
   clear ha h
   induction ks with
   |nil=>cases hk
   |cons a l ih=>
    simp only[Ym,List.mem_cons]at hk ⊢;rcases hk with rfl | hk
    .exact .inl rfl
    .exact .inr (ih hk)
  simpa using List.all_eq_true.1 ha _ hm
 .omega
theorem Zvc {p q:List Nd->Option (Tr×List Nd)}(hp:∀r t r',p r=some (t,r')->0 < Zl t->∀i,i < r.length - r'.length->∃t2 r2,q (r.drop i)=some (t2,r2)/\0 < Zl t2)(hs:∀r t r',p r=some (t,r')->∃a,a≠[]/\r=a++r'):
  ∀ {k:Nat} {r r':List Nd} {ts:List Tr},many p k r=some (ts,r')->(∀t∈ts,0 < Zl t)->∀i,i < r.length - r'.length->∃t2 r2,q (r.drop i)=some (t2,r2)/\0 < Zl t2
 | 0,r,r',ts,h,_=>by
   simp only[many,Option.some.injEq,Prod.mk.injEq]at h;intro i hi;rw[h.2]at hi;omega
 |k+1,r,r',ts,h,hts=>by
  simp only[many]at h;split at h
  .cases h
  .rename_i t1 r1 h1;split at h
   .cases h
   .rename_i ts2 r2 h2;cases h;intro i hi;rcases Nat.lt_or_ge i (r.length - r1.length) with h3 | h3
    .exact hp _ _ _ h1 (hts _ (by simp)) i h3
    .obtain ⟨a,_,e⟩:=hs _ _ _ h1;have hl:=congrArg List.length e;simp at hl;obtain⟨t2,r2',h4⟩:=Zvc hp hs h2 (fun t ht=>hts t (by simp[ht])) (i - a.length) (by omega);refine⟨t2,r2',?_⟩;rw[e,List.drop_append];have:List.drop i a=[]:=by rw[List.drop_eq_nil_iff];omega
     rw[this,List.nil_append];exact h4
theorem Ze2:∀ {d:Nat} {t r:List Nd} {tr:Tr},Zg d t=some (tr,r)->0 < Zl tr->∀i,i < t.length - r.length->∃t2 r2,Zg d (t.drop i)=some (t2,r2)/\0 < Zl t2
 | 0,t,r,tr,h,_=>by simp[Zg]at h
 |d+1,[],r,tr,h,_=>by simp[Zg]at h
 |d+1,n::t,r,tr,h,hp=>by
  intro i hi;cases i with
  |zero=>exact⟨_,_,h,hp⟩
  |succ i=>
   simp only[Zg]at h;split at h
   .split at h
    .cases h
    .rename_i ks r' h1;cases h;simp only[List.drop_succ_cons]
     obtain⟨t2,r2,h2,h3⟩:=Zvc (fun _ _ _ hh hq=>Ze2 hh hq) (fun _ _ _ hh=>Xz hh) h1 (Uj hp).1 i (by
      simp only[List.length_cons]at hi;omega)
     exact⟨t2,r2,Zag h2,h3⟩
   .cases h
def partAt (D:Nat)(t:List Nd)(j:Nat):Int×Nat×Nat:=match Zg D (t.drop j) with
 |some (tr,r)=>(Zl tr,Yq tr,t.length - r.length)
 |none=>(0,0,0)
def tri:Nat->List (Tr×Nat)->List (Int×Nat×Nat)
 | _,[]=>[]
 |b,(tr,n)::ts=>(Zl tr,Yq tr,b+n)::tri (b+n) ts
theorem Zif {D:Nat}{t:List Nd}{ts:List (Tr×Nat)}:∀ {b:Nat},b<=t.length->Forest D (t.drop b) ts->(Xj b ts).map (partAt D t)=tri b ts/\∀k∈Xj b ts,b<=k/\k < t.length:=by
 induction ts with
 |nil=>intro b _ _;exact⟨rfl,by simp[Xj]⟩
 |cons x ts ih=>
  intro b hb f;obtain⟨tr,n⟩:=x;generalize hrr:t.drop b=rr at f;cases f with
  |cons h hn h0 f=>
   rename_i r';rw[<- hrr]at h hn;obtain⟨a,ha,e⟩:=Xz h;have hl:=congrArg List.length e;simp only[List.length_append,List.length_drop]at hl hn
   have e2:t.drop (b+n)=r':=by
    rw[<- List.drop_drop,e];have:n=a.length:=by omega
    rw[this,List.drop_left]
   rw[<- e2]at f;obtain⟨h1,h2⟩:=ih (b:=b+n) (by omega) f;refine⟨?_,fun k hk=>?_⟩
   .simp only [Xj,List.map_cons,h1,tri,List.cons.injEq,and_true];unfold partAt;rw[h];simp only[Prod.mk.injEq,true_and];omega
   .simp only [Xj,List.mem_cons]at hk;rcases hk with rfl | hk
    .omega
    .have:=h2 k hk;omega
theorem Zps {D:Nat}{t:List Nd}{j n:Nat}{tr:Tr}{ts:List (Tr×Nat)}(f:Forest D (t.drop j) ((tr,n)::ts))(hj:j<=t.length):partAt D t j=(Zl tr,Yq tr,j+n):=by
 have:=(Zif hj f).1;simp only[Xj,List.map_cons,tri,List.cons.injEq]at this;exact this.1
theorem Forest.le {D:Nat}{r:List Nd}{ts:List (Tr×Nat)}(f:Forest D r ts):ts.length<=r.length:=by
 induction f with
 |nil=>simp
 |cons h hn h0 f ih=>simp;omega
theorem Zcq (b:Nat)(ts:List (Tr×Nat))(i:Nat)(h:i < ts.length):(Xj b ts)[i]?=some (b+Xm (ts.take i)):=by
 induction ts generalizing b i with
 |nil=>simp at h
 |cons x ts ih=>
  obtain⟨tr,n⟩:=x;cases i with
  |zero=>simp[Xj,Xm]
  |succ i=>
   simp only[List.length_cons]at h;simp only[Xj,List.getElem?_cons_succ,List.take_succ_cons,Xm];rw[ih (b+n) i (by omega),Nat.add_assoc]
theorem Zh0 {D:Nat}{t:List Nd}{t2:List (Tr×Nat)}:∀ {t1:List (Tr×Nat)} {b:Nat},b<=t.length->Forest D (t.drop b) (t1++t2)->∀i (h:i < t1.length),partAt D t (b+Xm (t1.take i))=(Zl t1[i].1,Yq t1[i].1,b+Xm (t1.take (i+1)))/\b+Xm (t1.take i) < t.length
 | [],b,hb,f,i,h=>by simp at h
 | (tr,n)::t1,b,hb,f,i,h=>by
   have hp:=Zps f hb;have hlt:=(Zif hb f).2 b (by simp[Xj]);cases i with
   |zero=>simp[Xm,hp,hlt.2]
   |succ i=>
    simp only[List.length_cons]at h
    have hf:b+n<=t.length/\Forest D (t.drop (b+n)) (t1++t2):=by
     generalize hrr:t.drop b=rr at f;cases f with
     |cons h hn h0 f=>
      rename_i r';rw[<- hrr]at h hn;obtain⟨a,ha,e⟩:=Xz h;have hl:=congrArg List.length e;simp only[List.length_append,List.length_drop]at hl hn
      have e2:t.drop (b+n)=r':=by
       rw[<- List.drop_drop,e];have:n=a.length:=by omega
       rw[this,List.drop_left]
      rw[<- e2]at f;exact⟨by omega,f⟩
    have:=Zh0 hf.1 hf.2 i (by omega);simp only[List.take_succ_cons,Xm,List.getElem_cons_succ,<- Nat.add_assoc];exact this
theorem Zsk (l:List Tr)(k:Tr):Ys (l++[k])=max (Ys l) (Yq k):=by
 induction l with
 |nil=>simp only[List.nil_append,Ys];omega
 |cons a l ih=>simp only[List.cons_append,Ys,ih];omega
theorem Q5 {α:Type}(l:List α)(i:Nat)(h:i < l.length):l.take (i+1)=l.take i++[l[i]]:=by
 rw[List.take_add_one,List.getElem?_eq_getElem h];rfl
theorem Zab (ts:List (Tr×Nat)):Ym (ts.map (·.1))=ts.map fun x=>Zl x.1:=by
 induction ts with
 |nil=>rfl
 |cons x ts ih=>simp[Ym,ih]
theorem Zmt {p:List Nd->Option (Tr×List Nd)}{d:Nat}(hp:∀r t r',p r=some (t,r')->Yq t<=d):∀ {k:Nat} {r r':List Nd} {ts:List Tr},many p k r=some (ts,r')->Ys ts<=d
 | 0,r,r',ts,h=>by
   simp only[many,Option.some.injEq,Prod.mk.injEq]at h;rw[<- h.1];simp[Ys]
 |k+1,r,r',ts,h=>by
  simp only[many]at h;split at h
  .cases h
  .rename_i t1 r1 h1;split at h
   .cases h
   .rename_i ts2 r2 h2;cases h;have h3:=hp _ _ _ h1;have h4:=Zmt hp h2;simp only[Ys];omega
theorem R7:∀ {d:Nat} {t r:List Nd} {tr:Tr},Zg d t=some (tr,r)->Yq tr<=d
 | 0,t,r,tr,h=>by simp[Zg]at h
 |d+1,[],r,tr,h=>by simp[Zg]at h
 |d+1,n::t,r,tr,h=>by
  simp only[Zg]at h;split at h
  .split at h
   .cases h
   .rename_i ks r' h1;cases h;have:=Zmt (fun _ _ _ hh=>R7 hh) h1;simp only[Yq];omega
  .cases h
theorem Forest.depth {D:Nat}{r:List Nd}{ts:List (Tr×Nat)}(f:Forest D r ts):∀x∈ts,Yq x.1<=D:=by
 induction f with
 |nil=>simp
 |cons h hn h0 f ih=>
  intro x hx;rcases List.mem_cons.1 hx with rfl | hx
  .exact R7 h
  .exact ih x hx
theorem Zzn {l:List Tr}{m:Nat}(h:∀x∈l,Yq x<=m):Ys l<=m:=by
 induction l with
 |nil=>simp[Ys]
 |cons a l ih=>
  have h1:=h a (by simp);have h2:=ih fun x hx=>h x (by simp[hx])
  simp only[Ys];omega
theorem Z61 {D:Nat}{r r':List Nd}{a:Tr}(h:Zg D r=some (a,r'))(h3:a.op=3)(hp:0 < Zl a):Vp (Zl a)=true:=by
 cases D with
 |zero=>simp[Zg]at h
 |succ d=>
  cases r with
  |nil=>simp[Zg]at h
  |cons n r=>
   rw[Zg]at h;split at h
   .rename_i hc;rw[Bool.and_eq_true]at hc;split at h
    .cases h
    .cases h;have X6:n.op=3:=h3;rw[(Uj hp).2];have hf:=hc.1;simp only[Wa,X6,if_true,Bool.and_eq_true,Bool.or_eq_true,beq_iff_eq]at hf;rcases hf.2 with⟨e,_⟩ | ⟨e,_⟩<;>simp[Wz,X6,e,Vp]
   .cases h
theorem Z24 {D:Nat}{t:List Nd}{j:Nat}{n:Nd}{t1 t2:List (Tr×Nat)}(f:Forest D (t.drop (j+1)) (t1++t2))(h15:n.op=15)(hk:Yz n.op n.kids=true)(Q1:n.kids=(t1.length:Int))(hp:0 < Zl (.mk n.op n.sort n.name n.num (t1.map (·.1)))):∃h:j+1 < t.length,t[j+1].op=3/\Vd (t1.map (·.1))=3/\Vp (atI (t1.map fun x=>Zl x.1) 0)=true:=by
 obtain⟨hpk,hs⟩:=Uj hp;rw[hs,h15]at hp
 have hf3:Vd (t1.map (·.1))=3:=by
  by_cases h:Vd (t1.map (·.1))=3
  .exact h
  .exfalso;simp[Wz,h]at hp
 cases t1 with
 |nil=>simp[Vd]at hf3
 |cons x t1=>
  obtain⟨a,n1⟩:=x;generalize hrr:t.drop (j+1)=rr at f;cases f with
  |cons h hn h0 f=>
   rw[<- hrr]at h
   have hj:j+1 < t.length:=by
    rcases Nat.lt_or_ge (j+1) t.length with hh | hh
    .exact hh
    .rw [List.drop_eq_nil_iff.2 hh]at h;cases D<;>simp[Zg]at h
   rw[List.drop_eq_getElem_cons hj]at h;have X6:=Zqg h;have h3:a.op=3:=hf3;refine⟨hj,by rw[<- X6];exact h3,hf3,?_⟩;exact Z61 h h3 (hpk a (by simp))
theorem Zj2 {op s:Int}{nm nu:Y9}(h:Wa op s nm nu=true):1<=op/\op<=20:=by
 unfold Wa at h;split at h
 .omega
 .split at h
  .omega
  .split at h
   .omega
   .simp at h;omega
theorem Forest.whole {D:Nat}{r:List Nd}{ts:List (Tr×Nat)}{tr:Tr}(f:Forest D r ts)(h:Zg D r=some (tr,[])):ts=[(tr,r.length)]:=by
 cases f with
 |nil=>cases D<;>simp[Zg]at h
 |cons h1 hn h0 f=>
  rw[h]at h1;cases h1;cases f with
  |nil=>simp at hn;simp[hn]
  |cons h2=>
   obtain⟨a,ha,e⟩:=Xz h2;have:=congrArg List.length e;have:=List.length_pos_iff.2 ha;simp at *;omega
abbrev Zij (p:Int×Nat×Nat):PV:=.agg [.int .i64 p.1,.int .i64 p.2.1,.int .i64 p.2.2]
structure Good (t:List Nd):Prop where
 short:∀n∈t,n.Short
 sm:∀n∈t,n.Sm
structure LInv (t:List Nd)(b:Bool)(D:Nat)(H:PH)(v4 v16 v18 i:Nat)(ts:List (Tr×Nat))(w:PV)(ps:List (Int×Nat×Nat))(h:PH):Prop where
 f:Forest D (t.drop i) ts
 roots:Acc [137] ⟨H.next,H.next,[]⟩ h 3 w ((Xj i ts).reverse.map fun n:Nat=>PV.int .i64 (n:Int))
 row:h.get (H.next+16)=some (v16,.row 149 true (ps.map Zij))
 len:ps.length=t.length
 done:∀j,i<=j->j < t.length->ps[j]?=some (partAt D t j)
 view:h.get (H.next+18)=some (v18,.cells [L 58 b (t.map Zo),.own (H.next+16) v16 149 0 t.length])
 cell:h.get (H.next+4)=some (v4,.cells [.ptr (H.next+18) v18 0])
 next:H.next+142<=h.next
 old:∀j,j < H.next->h.get j=H.get j
structure ViewAt (t:List Nd)(b:Bool)(D p vp q vq:Nat)(ps:List (Int×Nat×Nat))(h:PH):Prop where
 view:h.get p=some (vp,.cells [L 58 b (t.map Zo),.own q vq 149 0 t.length])
 row:h.get q=some (vq,.row 149 true (ps.map Zij))
 len:ps.length=t.length
 done:∀j,j < t.length->ps[j]?=some (partAt D t j)
structure RInv (t:List Nd)(b:Bool)(H:PH)(v4 v16 v18 v7 v9 v10 c j:Nat)(cv nv:PO)(vc:Nat)(rt:Option (Nat×PO))(t1:List (Tr×Nat))(ps:List (Int×Nat×Nat))(i:Nat)(h:PH):Prop where
 cel:h.get c=some (vc,cv)
 root:h.get (H.next+137)=rt
 row:h.get (H.next+16)=some (v16,.row 149 true (ps.map Zij))
 view:h.get (H.next+18)=some (v18,.cells [L 58 b (t.map Zo),.own (H.next+16) v16 149 0 t.length])
 cell:h.get (H.next+4)=some (v4,.cells [.ptr (H.next+18) v18 0])
 nd:h.get (H.next+7)=some (v7,nv)
 pt:h.get (H.next+9)=some (v9,.cells [.int .i64 0,.int .i64 (Ys ((t1.take i).map (·.1))+1:Nat),.int .i64 (j+1+Xm (t1.take i):Nat)])
 so:∃ws,h.get (H.next+10)=some (v10,.cells [ws])/\Acc [77] ⟨H.next,H.next,[]⟩ h 3 ws ((t1.take i).map fun x=>PV.int .i64 (Zl x.1))
 old:∀k,k < H.next->h.get k=H.get k
theorem RInv.put {t:List Nd}{b:Bool}{H:PH}{v4 v16 v18 v7 v9 v10 c j:Nat}{cv nv:PO}{vc:Nat}{rt:Option (Nat×PO)}{t1:List (Tr×Nat)}{ps:List (Int×Nat×Nat)}{i:Nat}{h:PH}(R:RInv t b H v4 v16 v18 v7 v9 v10 c j cv nv vc rt t1 ps i h){l Zc:Nat}{x:PO}(hl:H.next+142<=l)(hc:c≠l):RInv t b H v4 v16 v18 v7 v9 v10 c j cv nv vc rt t1 ps i (h.put l Zc x):=by
 have e:∀k,k≠l->(h.put l Zc x).get k=h.get k:=fun k hk=>by simp[hk]
 refine⟨by rw[e _ hc];exact R.cel,by rw[e _ (by omega)];exact R.root,by rw[e _ (by omega)];exact R.row,by rw[e _ (by omega)];exact R.view,by rw[e _ (by omega)];exact R.cell,by rw[e _ (by omega)];exact R.nd,by rw[e _ (by omega)];exact R.pt,?_,fun k hk=>by rw[e _ (by omega)];exact R.old k hk⟩;obtain⟨ws,h1,h2⟩:=R.so;exact⟨ws,by rw[e _ (by omega)];exact h1,h2.frame fun d hd=>by simp only[List.mem_singleton]at hd;subst hd;exact e _ (by show H.next+77≠l;omega)⟩
theorem RInv.nx {t:List Nd}{b:Bool}{H:PH}{v4 v16 v18 v7 v9 v10 c j:Nat}{cv nv:PO}{vc:Nat}{rt:Option (Nat×PO)}{t1:List (Tr×Nat)}{ps:List (Int×Nat×Nat)}{i:Nat}{h:PH}(R:RInv t b H v4 v16 v18 v7 v9 v10 c j cv nv vc rt t1 ps i h)(m:Nat):RInv t b H v4 v16 v18 v7 v9 v10 c j cv nv vc rt t1 ps i {h with next:=m}:=
 ⟨R.cel,R.root,R.row,R.view,R.cell,R.nd,R.pt,R.so,R.old⟩
theorem RInv.step {t:List Nd}{b:Bool}{H:PH}{v4 v16 v18 v7 v9 v10 c j:Nat}{cv nv:PO}{vc:Nat}{rt:Option (Nat×PO)}{t1:List (Tr×Nat)}{ps:List (Int×Nat×Nat)}{i:Nat}{h' h1:PH}(R:RInv t b H v4 v16 v18 v7 v9 v10 c j cv nv vc rt t1 ps i h')(hi:i < t1.length)(hc:H.next+142<=c)(gg:∀k,k≠H.next+77->h1.get k=h'.get k){Ztu:Nat}{st:Int}
  (hA:Acc [77] ⟨H.next,H.next,[]⟩ h1 3 (.own (H.next+77) Ztu 3 0 (i+1)) ((t1.take i).map (fun x=>PV.int .i64 (Zl x.1))++[.int .i64 st])) {X:PO} {m e:Int} (Xr:Zl t1[i].1=st) (hm:m=(Ys ((t1.take (i+1)).map (·.1))+1:Nat)) (he:e=(j+1+Xm (t1.take (i+1)):Nat)):
  RInv t b H v4 v16 v18 v7 v9 v10 c j cv nv vc rt t1 ps (i+1) (((h1.put (H.next+10) v10 (.cells [.own (H.next+77) Ztu 3 0 (i+1)])).put (H.next+9) v9 X).put (H.next+9) v9 (.cells [.int .i64 0,.int .i64 m,.int .i64 e])):=by
 have hN:∀k,k≠H.next+77->k≠H.next+9->k≠H.next+10->(((h1.put (H.next+10) v10 (.cells [.own (H.next+77) Ztu 3 0 (i+1)])).put (H.next+9) v9 X).put (H.next+9) v9 (.cells [.int .i64 0,.int .i64 m,.int .i64 e])).get k=h'.get k:=fun k a b c=>by
  simp[a,b,c,gg k a]
 refine⟨(hN _ (by omega) (by omega) (by omega)).trans R.cel,(hN _ (by omega) (by omega) (by omega)).trans R.root,(hN _ (by omega) (by omega) (by omega)).trans R.row,(hN _ (by omega) (by omega) (by omega)).trans R.view,(hN _ (by omega) (by omega) (by omega)).trans R.cell,(hN _ (by omega) (by omega) (by omega)).trans R.nd,by simp[hm,he],⟨.own (H.next+77) Ztu 3 0 (i+1),by simp,?_⟩,fun k hk=>(hN _ (by omega) (by omega) (by omega)).trans (R.old k hk)⟩;rw[Q5 t1 i hi,List.map_append,List.map_cons,List.map_nil,Xr]
 exact hA.frame fun d hd=>by
  simp only[List.mem_singleton]at hd;subst hd;simp
theorem LInv.step {t:List Nd}{b:Bool}{D:Nat}{H:PH}{v4 v16 v18 v7 v9 v10 c j:Nat}{cv nv:PO}{vc:Nat}{rt:Option (Nat×PO)}{t1 t2:List (Tr×Nat)}{w:PV}{ps:List (Int×Nat×Nat)}{h h':PH}{trj:Tr}(I:LInv t b D H v4 v16 v18 (j+1) (t1++t2) w ps h)(R:RInv t b H v4 v16 v18 v7 v9 v10 c j cv nv vc rt t1 ps t1.length h')(hj:j < t.length)(hF:Forest D (t.drop j) ((trj,1+Xm t1)::t2)){xs:List PV}(hxs:(Xj (j+1) (t1++t2)).reverse.map (fun n:Nat=>PV.int .i64 (n:Int))=xs)(Sj:H.next+142<=h'.next){S:Int}{DD EE vv:Nat}{X:PO}(hS:Zl trj=S)(hD:Yq trj=DD+1)(hE:j+1+Xm t1=EE):
  LInv t b D H v4 v16 v18 j ((trj,1+Xm t1)::t2) (.own (H.next+137) vv 3 0 (t2.length+1)) (ps.set j (S,DD+1,EE)) (((h'.put (H.next+9) v9 X).put (H.next+16) v16 (.row 149 true ((ps.map Zij).set j (.agg [.int .i64 S,.int .i64 ((DD:Int)+1),.int .i64 EE])))).put (H.next+137) vv (.row 3 true (xs.take t2.length++[.int .i64 j]))):=by
 have hN:∀k,k≠H.next+9->k≠H.next+16->k≠H.next+137->(((h'.put (H.next+9) v9 X).put (H.next+16) v16 (.row 149 true ((ps.map Zij).set j (.agg [.int .i64 S,.int .i64 ((DD:Int)+1),.int .i64 EE])))).put (H.next+137) vv (.row 3 true (xs.take t2.length++[.int .i64 j]))).get k=h'.get k:=fun k a b c=>by simp[a,b,c]
 have hxt:xs.take t2.length++[PV.int .i64 j]=(Xj j ((trj,1+Xm t1)::t2)).reverse.map (fun n:Nat=>PV.int .i64 (n:Int)):=by
  rw[<- hxs,Zfr,List.reverse_append,List.map_append,List.take_left' (by simp[Wo])];simp only[Xj,List.reverse_cons,List.map_append,List.map_cons,List.map_nil,Nat.add_assoc]
 have hjp:j < ps.length:=by rw[I.len];exact hj
 refine⟨hF,Or.inr ⟨137,vv,by simp[Xj],by simp,by simp[Xj,Wo],by rw[<- hxt];simp⟩,?_,by simp[I.len],fun k hk Q1=>?_,(hN _ (by omega) (by omega) (by omega)).trans R.view,(hN _ (by omega) (by omega) (by omega)).trans R.cell,by simpa using Sj,fun k hk=>(hN _ (by omega) (by omega) (by omega)).trans (R.old k hk)⟩
 .have e:Zij (S,DD+1,EE)=.agg [.int .i64 S,.int .i64 ((DD:Int)+1),.int .i64 EE]:=by
   show PV.agg _=PV.agg _;simp
  simp[List.map_set,e]
 .rcases Nat.eq_or_lt_of_le hk with rfl | hlt
  .rw [List.getElem?_set_self hjp,Zps hF (by omega),hS,hD];simp only[Option.some.injEq,Prod.mk.injEq,true_and];omega
  .rw [List.getElem?_set_ne (by omega)];exact I.done k (by omega) Q1
set_option maxHeartbeats 8000000 in
theorem Z68 (t:List Nd)(d:Nat)(hd40:d < 2^40)(tr:Tr)(hp:Zg (d+1) t=some (tr,[]))(Tz:0 < Zl tr)(hg:Good t)(hl:t.length<=20000)(b:Bool)(K:Pure.Loc)(H:PH):∃v16 v18 ps h',Yh vE K 135 [L 58 b (t.map Zo)] H=some (.tuple [.ptr (H.next+18) v18 0,.bool true],h')/\ViewAt t b (d+1) (H.next+18) v18 (H.next+16) v16 ps h'/\H.next+142<=h'.next/\∀j,j < H.next->h'.get j=H.get j:=by
 have hl':t.length<=Virt.maxLenV:=by rw[Rm];omega
 have hl2:((t.length:Int)).toNat=t.length:=by omega
 obtain⟨v,h',h1,v16,v18,ps,rfl,h2⟩:=Zg2 (C:=vE) (K:=K) (f:=135) (args:=[L 58 b (t.map Zo)]) (h:=H) (ok:=[]) (fn:=Tryz.f135) (R:=fun v h'=>∃v16 v18 ps,v=.tuple [.ptr (H.next+18) v18 0,.bool true]/\ViewAt t b (d+1) (H.next+18) v18 (H.next+16) v16 ps h'/\H.next+142<=h'.next/\∀j,j < H.next->h'.get j=H.get j) Tryz.func135 rfl rfl rfl (by simp) (by simp[reach]) (by simp) (by
  (refine Zm ?_;repeat'(first|(refine Zi fun _=>?_;try simp(disch:=first|exact Zq|fail)[*,Yb,Tryz.f135])|refine Ye ?_|refine Zx ?_|refine Zn ?_ ?_))
  generalize hv4:H.stamp (H.next+4)=v4;generalize hv16:H.stamp (H.next+16)=v16;generalize hv18:H.stamp (H.next+18)=v18;refine Zv [0,4] (fun m sl h=>∃(i:Nat) (ts:List (Tr×Nat)) (w:PV) (ps:List (Int×Nat×Nat)),m=i/\i<=t.length/\sl 6=some (.int .i64 ((i:Int) - 1))/\sl 5=some w/\LInv t b (d+1) H v4 v16 v18 i ts w ps h) t.length rfl ⟨t.length,[],.nils,List.replicate t.length (0,0,0),rfl,Nat.le_refl _,by simp,by simp,⟨by simp;exact .nil,Acc.nil,by simp[*],by simp,fun j h1 h2=>by omega,by simp[*],by simp[*],by simp,fun j hj=>by simp[show j≠H.next+4 by omega,show j≠H.next+16 by omega,show j≠H.next+18 by omega]⟩⟩ ?_;rintro m sl h hf ⟨i,ts,w,ps,hm,hi,h6,h5,I⟩;simp at hf;have V7:=I.row;have Zags:=I.view;have Zkm:=I.cell;have Zaqp:ps.length=t.length:=I.len;by_cases hlt:0 < i
  .obtain ⟨j,rfl⟩:∃j,i=j+1:=⟨i - 1,by omega⟩
   have hjl:j < t.length:=by omega
   have e0:((j:Int)+1 - 1)=j:=by omega
   obtain⟨trj,rj,hpj,Zag1⟩:=Ze2 hp Tz j (by simpa using hjl);rw[List.drop_eq_getElem_cons hjl]at hpj;obtain⟨t1,t2,hts,htr,hk,hF,Uq,har,hrl⟩:=Zem hpj I.f;have h159:=Zafk t[j] (hg.short _ (List.getElem_mem hjl)) Uq (hg.sm _ (List.getElem_mem hjl));have h160:=Zafj t[j].op t[j].kids (by omega);rw[har]at h160;have htl:=I.f.le;rw[hts,List.length_append,List.length_drop]at htl;have hxl:((Xj (j+1) ts).reverse.map fun n:Nat=>PV.int .i64 (n:Int)).length=t1.length+t2.length:=by rw[List.length_map,List.length_reverse,Wo,hts,List.length_append]
   generalize htj:t[j]=n at *;obtain⟨op,sort,name,num,kids⟩:=n;simp only at hk;subst hk;have Zajn:=I.roots;generalize hxs:(Xj (j+1) ts).reverse.map (fun n:Nat=>PV.int .i64 (n:Int))=xs at *;rcases Zajn with⟨Zgp,rfl⟩ | ⟨dd,Zc,Yp,hdd,rfl,hgr⟩
   .have ht0:t1=[]/\t2=[]:=by
     rw[Zgp,List.length_nil]at hxl;exact⟨List.length_eq_zero_iff.1 (by omega),List.length_eq_zero_iff.1 (by omega)⟩
    obtain⟨rfl,rfl⟩:=ht0;have h161:=fun K h=>Zws .nils rfl rfl K h
    have hnn:∀d,d < 142->(h.next=H.next+d)=False:=fun d hd=>by have:=I.next;simp;omega
    have Zgo:∀d,d < 142->(H.next+d=h.next)=False:=fun d hd=>by have:=I.next;simp;omega
    have Sj:=I.next;have Xa:=Hide.mk I.old;simp only[List.length_nil,Int.natCast_zero,Int.ofNat_zero,Int.cast_ofNat_Int]at *
    (refine Zm ?_;repeat'(first|(refine Zi fun _=>?_;try simp(disch:=first|exact Zq|fail)[*,Yb])|refine Ye ?_|refine Zx ?_|refine Zn ?_ ?_))
    generalize hv7:h.stamp (H.next+7)=v7;generalize hv9:h.stamp (H.next+9)=v9;generalize hv10:h.stamp (H.next+10)=v10;generalize hvc:h.stamp (h.next+1)=vc;refine Zts (c:=h.next+1) (cver:=vc) (by simp) (by simp) (by simp) ?_;intro h' hg' Zgn
    have R:RInv t b H v4 v16 v18 v7 v9 v10 (h.next+1) j (.cells [.nils]) (.cells [.int .i64 op,.int .i64 sort,.str name,.str num,.int .i64 0]) vc (h.get (H.next+137)) [] ps 0 h':=by
     simp only at hg';refine⟨by rw[hg' _ (by omega)];simp,by rw[hg' _ (by omega)];simp[Zgo],by rw[hg' _ (by omega)];simp[Zgo,V7],by rw[hg' _ (by omega)];simp[Zgo,Zags],by rw[hg' _ (by omega)];simp[Zgo,Zkm],by rw[hg' _ (by omega)];simp[Zgo],by rw[hg' _ (by omega)];simp[Zgo,Ys,Xm],⟨.nils,by rw[hg' _ (by omega)];simp[Zgo],Acc.nil⟩,fun k hk=>?_⟩;rw[hg' _ (by omega)];have e:∀d,k≠H.next+d:=fun d=>by omega
     simp[e,show k≠h.next+1 by omega,I.old k hk]
    have r1:=R.cell;have r2:=R.view;have r3:=R.row;have r4:=R.pt;have r7:=R.nd;obtain⟨ws,r5,r6⟩:=R.so;simp only[List.take_nil,List.map_nil]at r4 r6
    obtain rfl:ws=.nils:=by
     rcases r6 with⟨_,e⟩ | ⟨_,_,hh,_⟩
     .exact e
     .exact absurd rfl hh
    have Zjs:0 < Zl trj:=Zag1;rw[htr]at Zjs;obtain⟨hsp,hse⟩:=Uj Zjs;have h15:op≠15:=fun e=>by rw[e]at har;simp[Yz]at har
    have Td:Wz op sort 3 []=Zl trj:=by
     rw[htr,hse];simp only[List.map_nil,Ym,Wz,h15,if_false]
    have h162:=Z15 ⟨op,sort,name,num,0⟩ [] (by simp) (by simp) (by simpa using har) (Zj2 Uq).1 (Zj2 Uq).2 (fun e=>absurd e h15);simp only[Td,List.map_nil,Wn]at h162;generalize hS:Zl trj=S at *;have hS0:(S==0)=false:=by rw[beq_eq_false_iff_ne];omega
    have hjps:j < ps.length:=by omega
    have hDT:Yq trj=0+1:=by rw[htr,Yq];simp[Ys]
    have hnxh:H.next+142<=h'.next:=by simp at Zgn;omega
    have hF2:Forest (d+1) (t.drop j) ((trj,1+Xm [])::[]):=by
     rw[List.drop_eq_getElem_cons hjl,htj];exact hF
    have hsz:Xm []=0:=rfl;have hdz:Ys []=0:=rfl;simp only[hsz,hdz]at r4;have hEE:j+1+Xm []=j+1:=rfl;clear Td
    (refine Zm ?_;repeat'(first|(refine Zi fun _=>?_;try simp(disch:=first|exact Zq|fail)[*,Yb])|refine Ye ?_|refine Zx ?_|refine Zn ?_ ?_))
    refine⟨j,by omega,by omega,rfl,[(trj,1+Xm [])],ps.set j (S,0+1,j+1),?_⟩;have h9:=LInv.step (S:=S) (DD:=0) (EE:=j+1) (vv:=h'.stamp (H.next+137)) (X:=.cells [.int .i64 S,.int .i64 1,.int .i64 ((j:Int)+1)]) (hts ▸ I) R hjl hF2 (xs:=[]) rfl hnxh hS hDT rfl;simp only[List.length_nil,List.take_nil,Nat.zero_add,List.nil_append,Int.natCast_zero,Int.natCast_add,Int.natCast_one,Int.zero_add,Int.cast_ofNat_Int]at h9 ⊢;exact h9
   .simp only [List.mem_singleton]at hdd;subst hdd;rw[hxl]at h5;have Zh6:t1.length+t2.length - t2.length=t1.length:=by omega
    have h161:=fun K h=>Zws (.own (H.next+137) Zc 3 t2.length t1.length) rfl rfl K h
    have hnn:∀d,d < 142->(h.next=H.next+d)=False:=fun d hd=>by have:=I.next;simp;omega
    have Zgo:∀d,d < 142->(H.next+d=h.next)=False:=fun d hd=>by have:=I.next;simp;omega
    have Sj:=I.next;have Xa:=Hide.mk I.old
    (refine Zm ?_;repeat'(first|(refine Zi fun _=>?_;try simp(disch:=first|exact Zq|fail)[*,Yb])|refine Ye ?_|refine Zx ?_|refine Zn ?_ ?_))
    generalize hv7:h.stamp (H.next+7)=v7;generalize hv9:h.stamp (H.next+9)=v9;generalize hv10:h.stamp (H.next+10)=v10;generalize hvc:h.stamp (h.next+1)=vc;refine Zab3 (c:=h.next+1) (cver:=vc) (o:=H.next+137) (over:=Zc) (off:=t2.length) (n:=t1.length) (ys:=xs) (w:=fun k=>.int .i64 (((Xj (j+1) t1).getD (t1.length - 1 - k) 0:Nat):Int)) (RInv t b H v4 v16 v18 v7 v9 v10 (h.next+1) j (.cells [.own (H.next+137) Zc 3 t2.length t1.length]) (.cells [.int .i64 op,.int .i64 sort,.str name,.str num,.int .i64 t1.length]) vc (some (Zc,.row 3 true xs)) t1 ps) (by simp) (by simp;omega) (fun i h' x R=>R.put (by simp;omega) (by simp)) (fun i h' m R=>R.nx m) (fun i h' R=>R.cel) (fun i h' R=>R.root) ?_ (fun k=>⟨_,rfl⟩) (by omega) (by omega) ?_ ?_ ?_
    .intro k hk;rw[<- hxs,hts,Zfr,List.reverse_append,List.map_append,List.getElem?_append_right (by simp[Wo])];simp only[List.length_map,List.length_reverse,Wo,Nat.add_sub_cancel_left];rw[List.getElem?_map,List.getElem?_reverse (by simpa[Wo]using hk),Wo];have hg:=Zcq (j+1) t1 (t1.length - 1 - k) (by omega);rw[hg,List.getD_eq_getElem?_getD,hg];rfl
    .refine ⟨by simp,by simp[Zgo,hgr],by simp[Zgo,V7],by simp[Zgo,Zags],by simp[Zgo,Zkm],by simp[Zgo],by simp[Zgo,Ys,Xm],⟨.nils,by simp[Zgo],Acc.nil⟩,fun k hk=>?_⟩;have e:∀d,k≠H.next+d:=fun d=>by omega
     simp[e,show k≠h.next+1 by omega,I.old k hk]
    .intro i hi' h' R Zgn hL;have hkp:=Zh0 (t1:=t1) (t2:=t2) (b:=j+1) (by omega) (hts ▸ I.f) i hi';have Te:=I.done (j+1+Xm (t1.take i)) (by omega) hkp.2;rw[hkp.1]at Te;have hsg:=Zcq (j+1) t1 i hi'
     have hwi:((Xj (j+1) t1).getD (t1.length - 1 - (t1.length - 1 - i)) 0)=j+1+Xm (t1.take i):=by
      rw[show t1.length - 1 - (t1.length - 1 - i)=i by omega,List.getD_eq_getElem?_getD,hsg];rfl
     rw[hwi];have Q1:=hkp.2;obtain⟨hpl2,hpv⟩:=List.getElem?_eq_some_iff.1 Te;have r1:=R.cell;have r2:=R.view;have r3:=R.row;have r4:=R.pt;obtain⟨ws,r5,r6⟩:=R.so;have hfd:=(hts ▸ I.f:Forest (d+1) (t.drop (j+1)) (t1++t2)).depth
     have hdb:Ys ((t1.take i).map (·.1))<=d+1:=Zzn fun x hx=>by
      obtain⟨y,hy,rfl⟩:=List.mem_map.1 hx;exact hfd y (List.mem_append_left _ (List.take_subset _ _ hy))
     have hdb2:Yq t1[i].1<=d+1:=hfd _ (List.mem_append_left _ (List.getElem_mem hi'));have hsn:=Q5 t1 i hi'
     have hdn:Ys ((t1.take (i+1)).map (·.1))=max (Ys ((t1.take i).map (·.1))) (Yq t1[i].1):=by
      rw[hsn,List.map_append,List.map_cons,List.map_nil,Zsk]
     generalize hkk:j+1+Xm (t1.take i)=kk at *;generalize hee:j+1+Xm (t1.take (i+1))=ee at *;generalize hdd:Ys ((t1.take i).map (·.1))=dd at *;generalize hdt:Yq t1[i].1=dt at *;generalize Xr:Zl t1[i].1=st at *;obtain⟨w',h1,hap,Vb,Z8b,hgt⟩:=r6.app (dd:=77) (ys:=[PV.int .i64 st]) (T:={k:=.int .i64,size:=1,bytes:=8,zero:=[.int .i64 0]}) (by simp) rfl (by simp only[List.length_map,List.length_take,List.length_cons,List.length_nil];omega) (by decide) (by decide) (by simp);simp only[List.length_cons,List.length_nil]at hap;have gg:∀k,k≠H.next+77->h1.get k=h'.get k:=fun k hk=>hgt k (by intro d hd;simp at hd;subst hd;exact hk)
     have g4:=(gg (H.next+4) (by omega)).trans r1;have g9:=(gg (H.next+9) (by omega)).trans r4;have g10:=(gg (H.next+10) (by omega)).trans r5;have g16:=(gg (H.next+16) (by omega)).trans r3;have g18:=(gg (H.next+18) (by omega)).trans r2;obtain⟨d77,Ztu,hd77,rfl,hg77⟩:=Vb.own (by simp);simp only[List.mem_singleton]at hd77;subst hd77;simp only[List.length_append,List.length_map,List.length_take,List.length_cons,List.length_nil]at hap;have hmn:min i t1.length=i:=by omega
     rw[hmn]at hap;have hsam:=r6.same (n:=3);have hplq:ps.length=t.length:=Zaqp;have Zqa:((t1.take i).map (fun x=>PV.int .i64 (Zl x.1))++[PV.int .i64 st]).length=i+1:=by simp;omega
     rw[Zqa]at Vb;replace gg:=Hide.mk gg;replace hdn:=Hide.mk hdn;replace hsn:=Hide.mk hsn;replace Vb:=Hide.mk Vb;replace hkp:=Hide.mk hkp;replace hkk:=Hide.mk hkk;replace hee:=Hide.mk hee;clear h5 h6 hgt hfd hsg hwi Te r6;have hmxi:(if (dd:Int) < dt then (dt:Int)+1 else (dd:Int)+1)=((max dd dt+1:Nat):Int):=by split<;>omega
     (refine Zm ?_;repeat'(first|(refine Zi fun _=>?_;try simp(disch:=first|exact Zq|fail)[*,Yb,Zd1])|refine Ye ?_|refine Zx ?_|refine Zn ?_ ?_))
     refine⟨RInv.step R hi' (by omega) gg.get Vb.get Xr (by rw[hdn.get];split<;>omega) (by rw[hee.get]),?_⟩;rw[gg.get _ (by omega)];exact hL
    .intro h' R Zgn;have r1:=R.cell;have r2:=R.view;have r3:=R.row;have r4:=R.pt;have r7:=R.nd;have r8:=R.root;obtain⟨ws,r5,r6⟩:=R.so;rw[List.take_length]at r4 r6;have e6:(t1.map fun x=>PV.int .i64 (Zl x.1))=(t1.map fun x=>Zl x.1).map (PV.int .i64):=by rw[List.map_map];rfl
     rw[e6]at r6;have Zjs:0 < Zl trj:=Zag1;rw[htr]at Zjs;obtain⟨hsp,hse⟩:=Uj Zjs;have h15:op=15->∃hh:j+1 < t.length,t[j+1].op=3/\Vd (t1.map (·.1))=3/\Vp (atI (t1.map fun x=>Zl x.1) 0)=true:=fun e=>Z24 (hts ▸ I.f) (n:=⟨op,sort,name,num,t1.length⟩) e har rfl Zjs
     have Td:Wz op sort 3 (t1.map fun x=>Zl x.1)=Zl trj:=by
      rw[htr,hse,Zab];by_cases e:op=15
      .rw [(h15 e).choose_spec.2.1]
      .simp only [Wz,e,if_false]
     have X6:1<=op/\op<=20:=Zj2 Uq
     have h162:=Z15 ⟨op,sort,name,num,t1.length⟩ (t1.map fun x=>Zl x.1) (by simp;omega) (fun x hx=>by
      obtain⟨y,hy,rfl⟩:=List.mem_map.1 hx;exact hsp _ (List.mem_map.2 ⟨y,hy,rfl⟩)) (by simpa using har) X6.1 X6.2 (fun e=>(h15 e).choose_spec.2.2)
     simp only[Td]at h162;have Zars:=r6.call (C:=vE) (f:=162) rfl rfl [Zo ⟨op,sort,name,num,t1.length⟩] [] h162 rfl rfl rfl;simp only[List.singleton_append]at Zars;generalize hS:Zl trj=S at *;generalize hDD:Ys (t1.map (·.1))=DD at *;generalize hEE:j+1+Xm t1=EE at *;have hS0:(S==0)=false:=by rw[beq_eq_false_iff_ne];omega
     have hjps:j < ps.length:=by omega
     have Vj:IntKind.i64.wrap (t2.length:Int)=t2.length:=Ztn (by omega) (by omega);have hd16:∀k,k≠16->(H.next+k=H.next+16)=False:=fun k hk=>by simp;omega
     have hDT:Yq trj=DD+1:=by rw[htr,Yq,hDD]
     have hnxh:H.next+142<=h'.next:=by simp at Zgn;omega
     have hF2:Forest (d+1) (t.drop j) ((trj,1+Xm t1)::t2):=by
      rw[List.drop_eq_getElem_cons hjl,htj];exact hF
     by_cases e15:op=15
     .obtain ⟨hj1,hop1,_,_⟩:=h15 e15;subst e15;generalize ht1:t[j+1]=n1 at *;obtain⟨o1,s1,nm1,nu1,k1⟩:=n1;simp only at hop1;subst hop1;clear h15 Td
      (refine Zm ?_;repeat'(first|(refine Zi fun _=>?_;try simp(disch:=first|exact Zq|fail)[*,Yb])|refine Ye ?_|refine Zx ?_|refine Zn ?_ ?_))
      exact⟨j,by omega,by omega,rfl,_,_,LInv.step (hts ▸ I) R hjl hF2 (by rw[<- hts];exact hxs) hnxh hS hDT hEE⟩
     .clear h15 Td
      (refine Zm ?_;repeat'(first|(refine Zi fun _=>?_;try simp(disch:=first|exact Zq|fail)[*,Yb])|refine Ye ?_|refine Zx ?_|refine Zn ?_ ?_))
      exact⟨j,by omega,by omega,rfl,_,_,LInv.step (hts ▸ I) R hjl hF2 (by rw[<- hts];exact hxs) hnxh hS hDT hEE⟩
  .have hi0:i=0:=by omega
   subst hi0;have hw:=I.f.whole (by rw[List.drop_zero];exact hp);have hlen:=I.roots.lenK (e:=3);rw[hw]at hlen;simp only[Xj,List.reverse_cons,List.reverse_nil,List.nil_append,List.map_cons,List.map_nil,List.length_cons,List.length_nil]at hlen;have Sj:=I.next;have hv:ViewAt t b (d+1) (H.next+18) v18 (H.next+16) v16 ps h:=⟨I.view,I.row,I.len,fun j hj=>I.done j (by omega) hj⟩
   have Xa:=I.old;replace hv:=Hide.mk hv;replace Xa:=Hide.mk Xa;clear I hw hp
   (refine Zm ?_;repeat'(first|(refine Zi fun _=>?_;try simp(disch:=first|exact Zq|fail)[*,Yb])|refine Ye ?_|refine Zx ?_|refine Zn ?_ ?_))
   exact⟨by rw[<- Bool.not_eq_true,Nat.blt_eq];omega,⟨_,_,hv.get⟩,Xa.get⟩)
 exact⟨v16,v18,ps,h',h1,h2⟩
theorem Z1k {d:Nat}{t:List Nd}{tr:Tr}(hp:Zg (d+1) t=some (tr,[]))(Tz:0 < Zl tr):∀k i,i+k=t.length->∃ts,Forest (d+1) (t.drop i) ts
 | 0,i,h=>⟨[],by rw[List.drop_eq_nil_iff.2 (by omega)];exact .nil⟩
 |k+1,i,h=>by
  obtain⟨ts,f⟩:=Z1k hp Tz k (i+1) (by omega);obtain⟨tri,ri,hpi,_⟩:=Ze2 hp Tz i (by simp;omega);rw[List.drop_eq_getElem_cons (by omega:i < t.length)]at hpi ⊢;obtain⟨t1,t2,hts,htr,hk,hF,_⟩:=Zem hpi f;exact⟨_,hF⟩
theorem Zkr {D:Nat}{t2:List (Tr×Nat)}:∀ {t1:List (Tr×Nat)} {r:List Nd},Forest D r (t1++t2)->many (Zg D) t1.length r=some (t1.map (·.1),r.drop (Xm t1))
 | [],r,f=>by simp[many,Xm]
 | (a,n)::t1,r,f=>by
   cases f with
   |cons h hn h0 f=>
    obtain⟨z,hz,e⟩:=Xz h;have hl:=congrArg List.length e;simp only[List.length_append]at hl;have h2:=Zkr f;simp only[List.length_cons,many,h,h2,List.map_cons,Xm];rw[e,<- List.drop_drop];have:n=z.length:=by omega
    rw[this,List.drop_left]
theorem Zjk {d:Nat}{t:List Nd}{tr:Tr}(hp:Zg (d+1) t=some (tr,[]))(Tz:0 < Zl tr){i:Nat}(hi:i < t.length):∃t1 t2,Forest (d+1) (t.drop (i+1)) (t1++t2)/\t[i].kids=(t1.length:Int)/\many (Zg (d+1)) t1.length (t.drop (i+1))=some (t1.map (·.1),(t.drop (i+1)).drop (Xm t1)):=by
 obtain⟨ts,f⟩:=Z1k hp Tz (t.length - (i+1)) (i+1) (by omega);obtain⟨tri,ri,hpi,_⟩:=Ze2 hp Tz i (by simp;omega);rw[List.drop_eq_getElem_cons hi]at hpi;obtain⟨t1,t2,rfl,htr,hk,hF,_⟩:=Zem hpi f;refine⟨t1,t2,f,hk,?_⟩;exact Zkr f
theorem Zcv {h:PH}{p q vp vq:Nat}{b:Bool}{xs:List PV}{off n:Nat}{ys:List PV}(h1:h.get p=some (vp,.cells [L 58 b xs,.own q vq 149 off n]))(h2:h.get q=some (vq,.row 149 true ys)):reach h 4 [p]=[p,q]:=by
 simp[reach,h1,h2,refsO]
theorem Zg5 {K:Pure.Loc}{H:PH}{p q:Nat}{x y:Nat×PO}(hp:can K p=true)(hq:can K q=true)(h1:H.get p=some x)(h2:H.get q=some y):[p,q].all (fun i=>can K i&&(H.get i).isSome)=true:=by
 simp only[List.all_cons,List.all_nil,hp,hq,h1,h2,Option.isSome_some,Bool.and_self]
theorem Z92 {t:List Nd}{b:Bool}{d p vp q vq:Nat}{ps:List (Int×Nat×Nat)}{h:PH}(V:ViewAt t b (d+1) p vp q vq ps h)(hl:t.length<=20000){i:Nat}(hi:i < t.length){t1 t2:List (Tr×Nat)}(f:Forest (d+1) (t.drop (i+1)) (t1++t2))(hk:t[i].kids=(t1.length:Int))(K:Pure.Loc)(hcp:can K p=true)(hcq:can K q=true)(hp:p < h.next)(hq:q < h.next):Yh vE K 163 [.ptr p vp 0,.int .i64 i] h=some (L 3 true ((Xj (i+1) t1).map fun n:Nat=>PV.int .i64 (n:Int)),h):=by
 have hv:=V.view;have hr:=V.row;refine W6 (ok:=[p,q]) (fn:=Tryz.f163) Tryz.func163 rfl rfl rfl (by simp) (by simpa using Zcv hv hr) (Zg5 hcp hcq hv hr) (by simp[hp,hq]) (by simp[PH.belowAt,hv,hr,Wj,hq]) ?_ (by simp);have W5:=Yg hp;have hqd:=Yg hq;generalize hti:t[i]=n at *;obtain⟨op,sort,name,num,kids⟩:=n;simp only at hk;subst hk;have htl:=f.le;rw[List.length_append,List.length_drop]at htl;have hlen:=V.len;have Zfz:=V.done;have hsl:(Xj (i+1) t1).length=t1.length:=Wo _ _
 (refine Zm ?_;repeat'(first|(refine Zi fun _=>?_;try simp(disch:=first|exact Zw|fail)[*,Yd,Tryz.f163,Ze hp,Ze hq])|refine Zx ?_|refine Zn ?_ ?_))
 refine Zv [0,16] (fun n sl h'=>∃(m:Nat) (w:PV),n=t1.length - m/\m<=t1.length/\sl 17=some (.int .i64 m)/\sl 6=some (.int .i64 ((i+1+Xm (t1.take m):Nat):Int))/\sl 5=some w/\Acc [22] ⟨h.next,h.next,[p,q]⟩ h' 3 w (((Xj (i+1) t1).take m).map fun n:Nat=>PV.int .i64 (n:Int))/\h'.get p=some (vp,.cells [L 58 b (t.map Zo),.own q vq 149 0 t.length])/\h'.get q=some (vq,.row 149 true (ps.map Zij))) t1.length rfl ⟨0,.nils,by simp,by simp,by simp,by simp[Xm],by simp,Acc.nil,by simp[hv],by simp[hr]⟩ ?_;rintro n sl h' hf ⟨m,w,hn,hm,h17,h6,h5,hA,hgp,hgq⟩;simp at hf;by_cases hlt:m < t1.length
 .have hkp:=Zh0 (t1:=t1) (t2:=t2) (b:=i+1) (by omega) f m hlt;have Te:=Zfz _ hkp.2;rw[hkp.1]at Te;obtain⟨hpl2,hpv⟩:=List.getElem?_eq_some_iff.1 Te;have Q1:=hkp.2;have hsg:=Zcq (i+1) t1 m hlt
  have htk:(Xj (i+1) t1).take (m+1)=(Xj (i+1) t1).take m++[i+1+Xm (t1.take m)]:=by
   rw[List.take_add_one,hsg];rfl
  generalize hkk:i+1+Xm (t1.take m)=kk at *;generalize hee:i+1+Xm (t1.take (m+1))=ee at *;obtain⟨w',h1,hap,Vb,Z8b,hgt⟩:=hA.app (dd:=22) (ys:=[PV.int .i64 kk]) (T:={k:=.int .i64,size:=1,bytes:=8,zero:=[.int .i64 0]}) (by simp) rfl (by simp only[List.length_map,List.length_take,List.length_cons,List.length_nil];omega) (by decide) (by decide) (by simp);simp only[List.length_cons,List.length_nil]at hap;have g1:h1.get p=_:=(hgt p (by intro d hd;simp at hd;subst hd;simp[W5])).trans hgp;have g2:h1.get q=_:=(hgt q (by intro d hd;simp at hd;subst hd;simp[hqd])).trans hgq;have Vu:=hA.same (n:=3);have Zm9:=Vb.same (n:=3)
  have hA2:Acc [22] ⟨h.next,h.next,[p,q]⟩ h1 3 w' (((Xj (i+1) t1).take (m+1)).map fun n:Nat=>PV.int .i64 (n:Int)):=by
   rw[htk,List.map_append];exact Vb
  replace hA2:=Hide.mk hA2;replace hkp:=Hide.mk hkp;replace hkk:=Hide.mk hkk;replace hee:=Hide.mk hee;clear Zfz hgt Vb htk Te hsg
  (refine Zm ?_;repeat'(first|(refine Zi fun _=>?_;try simp(disch:=first|exact Zw|fail)[*,Yd,Ze hp,Ze hq])|refine Zx ?_|refine Zn ?_ ?_))
  exact⟨_,by omega,m+1,rfl,by omega,by omega,by have:=hee.get;omega,by have:=hA2.get;rwa [List.map_take]at this⟩
 .have e:m=t1.length:=by omega
  subst e;rw[<- hsl,List.take_length]at hA;have Uv:=hA.inl;have Zyy:=hA.inlT;rw[Uv]at Zyy;have hot:=hA.ownT;clear Zfz hA Uv
  (refine Zm ?_;repeat'(first|(refine Zi fun _=>?_;try simp(disch:=first|exact Zw|fail)[*,Yd,Ze hp,Ze hq])|refine Zx ?_|refine Zn ?_ ?_))
  exact hot
theorem Z57 {d:Nat}(hd:d+1<=257){t:List Nd}{i:Nat}(hi:i < t.length)(h5:t[i].op=5){t1:List (Tr×Nat)}(hk:t[i].kids=(t1.length:Int))(hm:many (Zg (d+1)) t1.length (t.drop (i+1))=some (t1.map (·.1),(t.drop (i+1)).drop (Xm t1))):Xl t[i] (t.drop (i+1))=[⟨true,t[i].name,t1.map (fun x=>Zl x.1),t[i].sort⟩]:=by
 unfold Xl;rw[if_neg (by omega),if_pos h5,hk];have:=Zb5 (fun _ _ h=>Sw hd h) hm;rw[Int.toNat_natCast,this];simp only[Zab]
set_option maxHeartbeats 1000000 in
theorem Z94 {t:List Nd}{b:Bool}{d p vp q vq:Nat}{ps:List (Int×Nat×Nat)}{h:PH}(V:ViewAt t b (d+1) p vp q vq ps h)(hl:t.length<=20000){i:Nat}(hi:i < t.length){t1 t2:List (Tr×Nat)}(f:Forest (d+1) (t.drop (i+1)) (t1++t2))(hk:t[i].kids=(t1.length:Int))(K:Pure.Loc)(hcp:can K p=true)(hcq:can K q=true)(hp:p < h.next)(hq:q < h.next):Yh vE K 138 [.ptr p vp 0,.int .i64 i] h=some (.agg [.str t[i].name,L 3 true ((t1.map fun x=>Zl x.1).map (.int .i64)),.int .i64 t[i].sort],h):=by
 have hv:=V.view;have hr:=V.row;have h163:=fun (h':PH) (V':ViewAt t b (d+1) p vp q vq ps h') (K:Pure.Loc) (a1:can K p=true) (a2:can K q=true) (a3:p < h'.next) (a4:q < h'.next)=>Z92 V' hl hi f hk K a1 a2 a3 a4
 refine W6 (ok:=[p,q]) (fn:=Tryz.f138) Tryz.func138 rfl rfl rfl (by simp) (by simpa using Zcv hv hr) (Zg5 hcp hcq hv hr) (by simp[hp,hq]) (by simp[PH.belowAt,hv,hr,Wj,hq]) ?_ (by simp);have W5:=Yg hp;have hqd:=Yg hq;have hlen:=V.len;have Zfz:=V.done
 (refine Zm ?_;repeat'(first|(refine Zi fun _=>?_;try simp(disch:=first|exact Zw|fail)[*,Yd,Tryz.f138,Ze hp,Ze hq])|refine Zx ?_|refine Zn ?_ ?_))
 refine Yw false false [] [] [] [] false (by decide +kernel) ?_
 (refine Zm ?_;repeat'(first|(refine Zi fun _=>?_;try simp(disch:=first|exact Zw|fail)[*,Yd,Ze hp,Ze hq])|refine Zx ?_|refine Zn ?_ ?_))
 rw[h163 _ ⟨by simp[Ze hp,W5,hv],by simp[Ze hq,hqd,hr],hlen,Zfz⟩ _ (by simp) (by simp) (by simp;omega) (by simp;omega)];have hsl:(Xj (i+1) t1).length=t1.length:=Wo _ _;have htl:=f.le;rw[List.length_append,List.length_drop]at htl
 (refine Zm ?_;repeat'(first|(refine Zi fun _=>?_;try simp(disch:=first|exact Zw|fail)[*,Yd,Ze hp,Ze hq])|refine Zx ?_|refine Zn ?_ ?_))
 generalize hv4:h.stamp (h.next+4)=v4;generalize hv5:h.stamp (h.next+5)=v5;refine Zv [0,4,5,27,28] (fun n sl h'=>∃(m:Nat) (w:PV),n=t1.length - m/\m<=t1.length/\sl 29=some (.int .i64 m)/\Acc [44] ⟨h.next,h.next,[p,q]⟩ h' 3 w ((t1.take m).map fun x=>PV.int .i64 (Zl x.1))/\h'.get (h.next+5)=some (v5,.cells [.str t[i].name,w,.int .i64 t[i].sort])/\h'.get (h.next+4)=some (v4,.cells [.str [],.nils,.int .i64 0])/\h'.get p=some (vp,.cells [L 58 b (t.map Zo),.own q vq 149 0 t.length])/\h'.get q=some (vq,.row 149 true (ps.map Zij))) t1.length rfl ⟨0,.nils,by simp,by simp,by simp,Acc.nil,by simp,by simp,by simp[Ze hp,W5,hv],by simp[Ze hq,hqd,hr]⟩ ?_;rintro n sl h' hf ⟨m,w,hn,hm,h29,hA,hg5,hg4,hgp,hgq⟩;simp at hf;by_cases hlt:m < t1.length
 .have hkp:=Zh0 (t1:=t1) (t2:=t2) (b:=i+1) (by omega) f m hlt;have Te:=Zfz _ hkp.2;rw[hkp.1]at Te;obtain⟨hpl2,hpv⟩:=List.getElem?_eq_some_iff.1 Te;have Q1:=hkp.2;have hsg:=Zcq (i+1) t1 m hlt;obtain⟨hsg1,hsg2⟩:=List.getElem?_eq_some_iff.1 hsg;have htk:=Q5 t1 m hlt;generalize hkk:i+1+Xm (t1.take m)=kk at *;generalize Xr:Zl t1[m].1=st at *;obtain⟨w',h1,hap,Vb,Z8b,hgt⟩:=hA.app (dd:=44) (ys:=[PV.int .i64 st]) (T:={k:=.int .i64,size:=1,bytes:=8,zero:=[.int .i64 0]}) (by simp) rfl (by simp only[List.length_map,List.length_take,List.length_cons,List.length_nil];omega) (by decide) (by decide) (by simp);simp only[List.length_cons,List.length_nil]at hap;have g1:h1.get p=_:=(hgt p (by intro d hd;simp at hd;subst hd;simp[W5])).trans hgp;have g2:h1.get q=_:=(hgt q (by intro d hd;simp at hd;subst hd;simp[hqd])).trans hgq;have g5:h1.get (h.next+5)=_:=(hgt _ (by intro d hd;simp at hd;subst hd;simp)).trans hg5;have g4:h1.get (h.next+4)=_:=(hgt _ (by intro d hd;simp at hd;subst hd;simp)).trans hg4;obtain⟨d44,Zaf9,hd44,rfl,hg44⟩:=Vb.own (by simp);simp only[List.mem_singleton]at hd44;subst hd44;have Vu:=hA.same (n:=3);have Zqa:((t1.take m).map (fun x=>PV.int .i64 (Zl x.1))++[PV.int .i64 st]).length=m+1:=by simp;omega
  rw[Zqa]at Vb hap
  have hA2:Acc [44] ⟨h.next,h.next,[p,q]⟩ h1 3 (.own (h.next+44) Zaf9 3 0 (m+1)) ((t1.take (m+1)).map fun x=>PV.int .i64 (Zl x.1)):=by
   rw[htk,List.map_append,List.map_cons,List.map_nil,Xr];exact Vb
  replace hA2:=Hide.mk hA2;replace hkp:=Hide.mk hkp;replace hkk:=Hide.mk hkk;clear Zfz hgt Vb htk Te hsg h163 hA
  (refine Zm ?_;repeat'(first|(refine Zi fun _=>?_;try simp(disch:=first|exact Zw|fail)[*,Yd,Ze hp,Ze hq])|refine Zx ?_|refine Zn ?_ ?_))
  refine Yw false false [] [] [] [] false (by decide +kernel) ?_
  (refine Zm ?_;repeat'(first|(refine Zi fun _=>?_;try simp(disch:=first|exact Zw|fail)[*,Yd,Ze hp,Ze hq])|refine Zx ?_|refine Zn ?_ ?_))
  refine⟨_,by omega,m+1,rfl,by omega,by omega,?_⟩;have:=hA2.get.frame (h':=h1.put (h.next+5) v5 (PO.cells [PV.str t[i].name,PV.own (h.next+44) Zaf9 3 0 (m+1),PV.int IntKind.i64 t[i].sort])) (fun d hd=>by simp only[List.mem_singleton]at hd;subst hd;simp)
  rwa [List.map_take]at this
 .have e:m=t1.length:=by omega
  subst e;rw[List.take_length]at hA;have e6:(t1.map fun x=>PV.int .i64 (Zl x.1))=(t1.map fun x=>Zl x.1).map (PV.int .i64):=by rw[List.map_map];rfl
  rw[e6]at hA;generalize (t1.map fun x=>Zl x.1).map (PV.int .i64)=ys at *;clear h163;rcases hA with⟨rfl,rfl⟩ | ⟨d,Zc,Yp,hd,rfl,hg⟩
  . (refine Zm ?_;repeat'(first|(refine Zi fun _=>?_;try simp(disch:=first|exact Zw|fail)[*,Yd,Ze hp,Ze hq])|refine Zx ?_|refine Zn ?_ ?_))
  .simp only [List.mem_singleton]at hd;subst hd
   have hL:L 3 true ys=.lst 3 ys:=by
    cases ys with
    |nil=>exact absurd rfl Yp
    |cons=>rfl
   rw[hL]
   (refine Zm ?_;repeat'(first|(refine Zi fun _=>?_;try simp(disch:=first|exact Zw|fail)[*,Yd,Ze hp,Ze hq])|refine Zx ?_|refine Zn ?_ ?_))
theorem Z16 (b1 b2:Bool)(x y:List Int)(hx:x.length < 2^62)(hy:y.length < 2^62):Xq vE 137 [L 3 b1 (x.map (.int .i64)),L 3 b2 (y.map (.int .i64))] (.bool (x==y)):=by
 by_cases hl:x.length=y.length
 .intro K H;refine Wc Tryz.func137 ?_
  (refine Zm ?_;repeat'(first|(refine Zi fun _=>?_;try simp(disch:=first|exact Zq|fail)[*,Yb,Tryz.f137])|refine Ye ?_|refine Zx ?_|refine Zn ?_ ?_))
  refine Zv [0,1,12] (fun n sl h=>∃i:Nat,n=x.length - i/\i<=x.length/\sl 13=some (.int .i64 i)/\∀j (hj:j < x.length) (hk:j < y.length),j < i->x[j]=y[j]) x.length rfl ⟨0,by simp⟩ ?_;rintro n sl h hf ⟨i,hn',hi,h5,hd⟩;simp at hf;replace hd:=Hide.mk hd;by_cases hlt:i < x.length
  .have Zng:i < y.length:=by omega
   clear hl
   (refine Zm ?_;repeat'(first|(refine Zi fun _=>?_;try simp(disch:=first|exact Zq|fail)[*,Yb])|refine Ye ?_|refine Zx ?_|refine Zn ?_ ?_))
   .rename_i e;refine⟨_,by omega,i+1,rfl,by omega,rfl,fun j hj hk hji=>?_⟩;by_cases e':j=i
    .subst e';exact e
    .exact hd.get j hj hk (by omega)
   .rename_i e;rintro rfl;simp at e
  . (refine Zm ?_;repeat'(first|(refine Zi fun _=>?_;try simp(disch:=first|exact Zq|fail)[*,Yb])|refine Ye ?_|refine Zx ?_|refine Zn ?_ ?_))
    have:x=y:=List.ext_getElem hl fun j hj hk=>hd.get j hj hk (by omega)
    simp[this]
 .have:x≠y:=by rintro rfl;exact hl rfl
  have hq:(x==y)=false:=by simp[this]
  intro K H;refine Wc Tryz.func137 ?_
  (refine Zm ?_;repeat'(first|(refine Zi fun _=>?_;try simp(disch:=first|exact Zq|fail)[*,Yb,Tryz.f137])|refine Ye ?_|refine Zx ?_|refine Zn ?_ ?_))
theorem Zafr (u:Use)(hu:u.args.length < 2^30):Xq vE 139 [Y8 u,Y8 u] (.bool true):=by
 have h:=Z16 true true u.args u.args (by omega) (by omega);rw[BEq.rfl]at h;intro K H;refine Wc Tryz.func139 ?_
 (refine Zm ?_;repeat'(first|(refine Zi fun _=>?_;try simp(disch:=first|exact Zq|fail)[*,Yb,Tryz.f139])|refine Ye ?_|refine Zx ?_|refine Zn ?_ ?_))
theorem Zep (enc:Use->PV)(es:List Use)(x:Y9):Sz (es.map fun u=>(PV.str u.name,enc u)) (.str x)=some ((es.find? (fun u=>u.name==x)).map enc):=by
 induction es with
 |nil=>rfl
 |cons e es ih=>
  simp only[List.map_cons,Sz,R3,List.find?_cons];by_cases h:x=e.name
  .subst h;simp
  .have h1:(x==e.name)=false:=by simpa using h
   have h2:(e.name==x)=false:=by simpa using Ne.symm h
   simp[h1,h2,ih]
theorem Zk9 (enc:Use->PV)(es:List Use)(u:Use)(h:∀v∈es,v.name≠u.name):Rx (es.map fun u=>(PV.str u.name,enc u)) (.str u.name) (enc u)=some ((es++[u]).map fun u=>(PV.str u.name,enc u)):=by
 induction es with
 |nil=>rfl
 |cons e es ih=>
  have h1:(u.name==e.name)=false:=by simpa using Ne.symm (h e (by simp))
  simp only[List.map_cons,Rx,R3,h1,ih fun v hv=>h v (by simp[hv]),Option.map_some,List.cons_append]
def Zbu (s:List Use×List Use)(u:Use):List Use×List Use:=if u.fn then (s.1,if u∈s.2 then s.2 else s.2++[u]) else (if u∈s.1 then s.1 else s.1++[u],s.2)
def Va (us:List Use):List Use×List Use:=us.foldl Zbu ([],[])
theorem Q4 {t:List Nd}{i:Nat}(h:i < t.length):Ya (t.drop i)=Xl t[i] (t.drop (i+1))++Ya (t.drop (i+1)):=by
 rw[List.drop_eq_getElem_cons h];rfl
structure NInv (t:List Nd)(i:Nat)(vs fs:List Use):Prop where
 eq:Va (Ya t)=(Ya (t.drop i)).foldl Zbu (vs,fs)
 v:∀u∈vs,u∈Ya t/\u.fn=false
 f:∀u∈fs,u∈Ya t/\u.fn=true
 lv:vs.length<=i
 lf:fs.length<=i
theorem NInv.start (t:List Nd):NInv t 0 [] []:=⟨rfl,by simp,by simp,by simp,by simp⟩
theorem Zq4 {t:List Nd}{i:Nat}(hi:i < t.length){u:Use}(h:u∈Ya (t.drop i)):u∈Ya t:=by
 have key:∀k,k<=t.length->∀u,u∈Ya (t.drop k)->u∈Ya t:=by
  intro k
  induction k with
  |zero=>intro _ u h;simpa using h
  |succ k ih=>
   intro hk u h;refine ih (by omega) u ?_;rw[Q4 (by omega:k < t.length)];exact List.mem_append_right _ h
 exact key i (by omega) u h
theorem NInv.other {t:List Nd}{i:Nat}{vs fs:List Use}(I:NInv t i vs fs)(hi:i < t.length)(h4:t[i].op≠4)(h5:t[i].op≠5):NInv t (i+1) vs fs:=by
 refine⟨?_,I.v,I.f,by have:=I.lv;omega,by have:=I.lf;omega⟩;rw[I.eq,Q4 hi];simp[Xl,h4,h5]
theorem Un {es:List Use}{x:Y9}(h:es.find? (fun u=>u.name==x)=none):∀v∈es,v.name≠x:=fun v hv=>by
 have:=List.find?_eq_none.1 h v hv;simpa using this
theorem Th {es:List Use}{x:Y9}{v:Use}(h:es.find? (fun u=>u.name==x)=some v):v∈es/\v.name=x:=⟨List.mem_of_find?_eq_some h,by simpa using List.find?_some h⟩
theorem NInv.use {t:List Nd}{i:Nat}{vs fs:List Use}{u:Use}(I:NInv t i vs fs)(hC:Clean (Ya t))(hi:i < t.length)(hu:Xl t[i] (t.drop (i+1))=[u]):
  (u.fn=false->fs.find? (fun x=>x.name==u.name)=none/\(vs.find? (fun x=>x.name==u.name)=some u/\NInv t (i+1) vs fs\/vs.find? (fun x=>x.name==u.name)=none/\NInv t (i+1) (vs++[u]) fs)) /\
  (u.fn=true->vs.find? (fun x=>x.name==u.name)=none/\(fs.find? (fun x=>x.name==u.name)=some u/\NInv t (i+1) vs fs\/fs.find? (fun x=>x.name==u.name)=none/\NInv t (i+1) vs (fs++[u]))):=by
 have hum:u∈Ya t:=Zq4 hi (by rw[Q4 hi,hu];simp);have Zcc:∀s,(Ya (t.drop i)).foldl Zbu s=(Ya (t.drop (i+1))).foldl Zbu (Zbu s u):=fun s=>by rw[Q4 hi,hu];rfl
 have heq:=I.eq;rw[Zcc]at heq;have hlv:=I.lv;have hlf:=I.lf;constructor
 .intro Qi;refine⟨?_,?_⟩
  .cases h:fs.find? (fun x=>x.name==u.name) with
   |none=>rfl
   |some v=>
    obtain⟨h1,h2⟩:=Th h;have:=hC v (I.f v h1).1 u hum h2;have h3:=(I.f v h1).2;rw[this,Qi]at h3;cases h3
  .cases h:vs.find? (fun x=>x.name==u.name) with
   |some v=>
    obtain⟨h1,h2⟩:=Th h;have e:=hC v (I.v v h1).1 u hum h2;subst e;refine .inl ⟨rfl,?_,I.v,I.f,by omega,by omega⟩;rw[heq];simp[Zbu,Qi,h1]
   |none=>
    have hn:=Un h;have hni:u∉vs:=fun hm=>hn u hm rfl
    refine .inr ⟨rfl,?_,?_,I.f,by simp;omega,by omega⟩
    .rw [heq];simp[Zbu,Qi,hni]
    .intro x hx;rcases List.mem_append.1 hx with hx | hx
     .exact I.v x hx
     .simp at hx;subst hx;exact⟨hum,Qi⟩
 .intro Qi;refine⟨?_,?_⟩
  .cases h:vs.find? (fun x=>x.name==u.name) with
   |none=>rfl
   |some v=>
    obtain⟨h1,h2⟩:=Th h;have:=hC v (I.v v h1).1 u hum h2;have h3:=(I.v v h1).2;rw[this,Qi]at h3;cases h3
  .cases h:fs.find? (fun x=>x.name==u.name) with
   |some v=>
    obtain⟨h1,h2⟩:=Th h;have e:=hC v (I.f v h1).1 u hum h2;subst e;refine .inl ⟨rfl,?_,I.v,I.f,by omega,by omega⟩;rw[heq];simp[Zbu,Qi,h1]
   |none=>
    have hn:=Un h;have hni:u∉fs:=fun hm=>hn u hm rfl
    refine .inr ⟨rfl,?_,I.v,?_,by omega,by simp;omega⟩
    .rw [heq];simp[Zbu,Qi,hni]
    .intro x hx;rcases List.mem_append.1 hx with hx | hx
     .exact I.f x hx
     .simp at hx;subst hx;exact⟨hum,Qi⟩
theorem NInv.done {t:List Nd}{vs fs:List Use}(I:NInv t t.length vs fs):Va (Ya t)=(vs,fs):=by
 rw[I.eq,List.drop_length];rfl
theorem Z54 {S:List Nat}{K:Pure.Loc}{h h0:PH}{g n:Nat}{v:PV}{xs ys:List PV}{T:Virt.Ty}{dd:Nat}{Q:PV×PH->Prop}(hA:Acc S K h0 g v xs)(hf:∀d∈S,h.get (K.base+d)=h0.get (K.base+d))(hn:n=ys.length)(hd:dd∈S)(hK:K.lo=K.base)(h1:xs.length+ys.length<=1073741824)(h2:T.bytes<=65536)(h3:0 < T.size)(h4:ys≠[])
  (hq:∀w' h1,Acc S K h1 g w' (xs++ys)->h1.next=h.next->(∀j,(∀d∈S,j≠K.base+d)->h1.get j=h.get j)->Q (w',h1)):wp (Xk K h dd g T n ys v) Q:=by
 obtain⟨w',h1',hap,a,b,c⟩:=(hA.frame hf).app (T:=T) hd hK h1 h2 h3 h4;rw[hn];exact X5.2 ⟨_,hap,hq _ _ a b c⟩
set_option maxHeartbeats 4000000 in
theorem Zob {t:List Nd}{b:Bool}{d p vp q vq:Nat}{ps:List (Int×Nat×Nat)}{h:PH}{tr:Tr}(hd:d+1<=257)(hpt:Zg (d+1) t=some (tr,[]))(Tz:0 < Zl tr)(hC:Clean (Ya t))(V:ViewAt t b (d+1) p vp q vq ps h)(hl:t.length<=20000)(K:Pure.Loc)(hcp:can K p=true)(hcq:can K q=true)(hp:p < h.next)(hq:q < h.next):
  Yh vE K 109 [.ptr p vp 0] h=some (.tuple [L 69 true ((Va (Ya t)).1.map Wi),L 155 true ((Va (Ya t)).2.map Y8),.bool true],h):=by
 have hv:=V.view;have hr:=V.row;have hlen:=V.len;have Zfz:=V.done;refine W6 (ok:=[p,q]) (fn:=Tryz.f109) Tryz.func109 rfl rfl rfl (by simp) (by simpa using Zcv hv hr) (Zg5 hcp hcq hv hr) (by simp[hp,hq]) (by simp[PH.belowAt,hv,hr,Wj,hq]) ?_ (by simp);have W5:=Yg hp;have hqd:=Yg hq
 (refine Zm ?_;repeat'(first|(refine Zi fun _=>?_;try simp(disch:=first|exact Zw|fail)[*,Yd,Tryz.f109,Ze hp,Ze hq])|refine Zx ?_|refine Zn ?_ ?_))
 generalize hv20:h.stamp (h.next+20)=v20;generalize hv21:h.stamp (h.next+21)=v21
 refine Zv [0,5,6,25,26] (fun n sl h'=>∃(i:Nat) (vs fs:List Use) (wv wf:PV),n=t.length - i/\i<=t.length/\NInv t i vs fs/\sl 27=some (.int .i64 i)/\sl 7=some wv/\sl 8=some wf/\Acc [57] ⟨h.next,h.next,[p,q]⟩ h' 69 wv (vs.map Wi)/\Acc [95] ⟨h.next,h.next,[p,q]⟩ h' 155 wf (fs.map Y8) /\
  h'.get (h.next+20)=some (v20,.map (vs.map fun u=>(PV.str u.name,Wi u)))/\h'.get (h.next+21)=some (v21,.map (fs.map fun u=>(PV.str u.name,Y8 u)))/\h'.get p=some (vp,.cells [L 58 b (t.map Zo),.own q vq 149 0 t.length])/\h'.get q=some (vq,.row 149 true (ps.map Zij))/\h.next+111<=h'.next) t.length rfl ⟨0,[],[],.nils,.nils,by simp,by simp,NInv.start t,by simp,by simp,by simp,Acc.nil,Acc.nil,by simp,by simp,by simp[W5,hv],by simp[hqd,hr],by simp⟩ ?_
 rintro n sl h' hf ⟨i,vs,fs,wv,wf,hn,hi,I,h27,h7,h8,hAv,hAf,g20,g21,gp,gq,Sj⟩;simp at hf;have hlv:=I.lv;have hlf:=I.lf;by_cases hlt:i < t.length
 .obtain ⟨t1,t2,hF,hk,hm⟩:=Zjk hpt Tz hlt;generalize htn:t[i]=nn at *;obtain⟨op,sort,name,num,kids⟩:=nn;simp only at hk;subst hk;have hsv:=Zep Wi vs name;have hsf:=Zep Y8 fs name;by_cases h4:op=4
  .subst h4;have hu:Xl t[i] (t.drop (i+1))=[⟨false,name,[],sort⟩]:=by rw[htn];simp[Xl]
   obtain⟨hff,hvv⟩:=(I.use hC hlt hu).1 rfl;rw[hff]at hsf;rcases hvv with⟨hvv,I2⟩ | ⟨hvv,I2⟩
   .rw [hvv]at hsv;simp only[Option.map_some,Option.map_none]at hsv hsf;replace I2:=Hide.mk I2;clear hff hvv I hC
    (refine Zm ?_;repeat'(first|(refine Zi fun _=>?_;try simp(disch:=first|exact Zw|fail)[*,Yd,Ze hp,Ze hq])|refine Zx ?_|refine Zn ?_ ?_))
    refine⟨_,by omega,i+1,rfl,by omega,vs,fs,I2.get,by omega,hAv.frame (fun d hd=>by simp only[List.mem_singleton]at hd;subst hd;simp),hAf.frame (fun d hd=>by simp only[List.mem_singleton]at hd;subst hd;simp),?_⟩;simp
   .rw [hvv]at hsv;simp only[Option.map_some,Option.map_none]at hsv hsf;have hpm:=Zk9 Wi vs ⟨false,name,[],sort⟩ (fun v hv=>Un hvv v hv);replace I2:=Hide.mk I2;clear hff hvv I hC
    (refine Zm ?_;repeat'(first|(refine Zi fun _=>?_;try simp(disch:=first|exact Zw|fail)[*,Yd,Ze hp,Ze hq])|refine Zx ?_|refine Zn ?_ ?_))
    refine Z54 hAv (fun d hd=>by simp only[List.mem_singleton]at hd;subst hd;simp) (by simp) (by simp) rfl (by simp;omega) (by decide) (by decide) (by simp) ?_;intro w' h1 Vb hn1 Qc;have k10:=Qc (h.next+10) (by simp);have k11:=Qc (h.next+11) (by simp);have k20:=Qc (h.next+20) (by simp);have k21:=Qc (h.next+21) (by simp);have kp:=Qc p (by simp[W5]);have kq:=Qc q (by simp[hqd])
    have kf:∀d∈[95],h1.get (h.next+d)=h'.get (h.next+d):=fun d hd=>by
     simp only[List.mem_singleton]at hd;subst hd;rw[Qc _ (by simp)];simp
    have Z35:=hAf.frame kf;simp[W5,hqd,g21,gp,gq]at k10 k11 k20 k21 kp kq hn1;have Vu:=Vb.same (n:=3);replace Vb:=Hide.mk Vb;replace Z35:=Hide.mk Z35;clear Qc kf hAv hAf
    (refine Zm ?_;repeat'(first|(refine Zi fun _=>?_;try simp(disch:=first|exact Zw|fail)[*,Yd,Ze hp,Ze hq])|refine Zx ?_|refine Zn ?_ ?_))
    refine⟨_,by omega,i+1,rfl,by omega,vs++[⟨false,name,[],sort⟩],fs,I2.get,by omega,?_,Z35.get.frame (fun d hd=>by simp only[List.mem_singleton]at hd;subst hd;simp),?_⟩
    .rw [List.map_append];exact Vb.get.frame (fun d hd=>by simp only[List.mem_singleton]at hd;subst hd;simp)
    .simp
  .by_cases h5:op=5
   .subst h5
    have hu:Xl t[i] (t.drop (i+1))=[⟨true,name,t1.map (fun x=>Zl x.1),sort⟩]:=by
     have:=Z57 hd hlt (by rw[htn]) (by rw[htn]) hm;rw[this,htn]
    obtain⟨hvv,hff⟩:=(I.use hC hlt hu).2 rfl;rw[hvv]at hsv;have Z38:=fun (h2:PH) (V':ViewAt t b (d+1) p vp q vq ps h2) (K:Pure.Loc) (a1:can K p=true) (a2:can K q=true) (a3:p < h2.next) (a4:q < h2.next)=>Z94 V' hl hlt hF (by rw[htn]) K a1 a2 a3 a4
    rw[htn]at Z38;simp only at Z38;have htl:=hF.le;rw[List.length_append,List.length_drop]at htl;have h139:=Zafr ⟨true,name,t1.map (fun x=>Zl x.1),sort⟩ (by simp;omega);generalize hxs:t1.map (fun x=>Zl x.1)=xs at *;rcases hff with⟨hff,I2⟩ | ⟨hff,I2⟩
    .rw [hff]at hsf;simp only[Option.map_some,Option.map_none]at hsv hsf;replace I2:=Hide.mk I2;clear hff hvv I hC hu hm
     (refine Zm ?_;repeat'(first|(refine Zi fun _=>?_;try simp(disch:=first|exact Zw|fail)[*,Yd,Ze hp,Ze hq])|refine Zx ?_|refine Zn ?_ ?_))
     rw[Z38 _ ⟨by simp[W5,gp],by simp[hqd,gq],hlen,Zfz⟩ _ (by simp) (by simp) (by simp;omega) (by simp;omega)];clear Z38
     (refine Zm ?_;repeat'(first|(refine Zi fun _=>?_;try simp(disch:=first|exact Zw|fail)[*,Yd,Ze hp,Ze hq])|refine Zx ?_|refine Zn ?_ ?_))
     refine⟨_,by omega,i+1,rfl,by omega,vs,fs,I2.get,by omega,hAv.frame (fun d hd=>by simp only[List.mem_singleton]at hd;subst hd;simp),hAf.frame (fun d hd=>by simp only[List.mem_singleton]at hd;subst hd;simp),?_⟩;simp
    .rw [hff]at hsf;simp only[Option.map_some,Option.map_none]at hsv hsf;have hpm:=Zk9 Y8 fs ⟨true,name,xs,sort⟩ (fun v hv=>Un hff v hv);replace I2:=Hide.mk I2;clear hff hvv I hC hu hm
     (refine Zm ?_;repeat'(first|(refine Zi fun _=>?_;try simp(disch:=first|exact Zw|fail)[*,Yd,Ze hp,Ze hq])|refine Zx ?_|refine Zn ?_ ?_))
     rw[Z38 _ ⟨by simp[W5,gp],by simp[hqd,gq],hlen,Zfz⟩ _ (by simp) (by simp) (by simp;omega) (by simp;omega)];clear Z38
     (refine Zm ?_;repeat'(first|(refine Zi fun _=>?_;try simp(disch:=first|exact Zw|fail)[*,Yd,Ze hp,Ze hq])|refine Zx ?_|refine Zn ?_ ?_))
     refine Z54 hAf (fun d hd=>by simp only[List.mem_singleton]at hd;subst hd;simp) (by simp) (by simp) rfl (by simp;omega) (by decide) (by decide) (by simp) ?_;intro w' h1 Vb hn1 Qc;have k10:=Qc (h.next+10) (by simp);have k15:=Qc (h.next+15) (by simp);have k17:=Qc (h.next+17) (by simp);have k20:=Qc (h.next+20) (by simp);have k21:=Qc (h.next+21) (by simp);have kp:=Qc p (by simp[W5]);have kq:=Qc q (by simp[hqd])
     have kf:∀d∈[57],h1.get (h.next+d)=h'.get (h.next+d):=fun d hd=>by
      simp only[List.mem_singleton]at hd;subst hd;rw[Qc _ (by simp)];simp
     have Z33:=hAv.frame kf;simp[W5,hqd,g20,gp,gq]at k10 k15 k17 k20 k21 kp kq hn1;have Vu:=Vb.same (n:=3);replace Vb:=Hide.mk Vb;replace Z33:=Hide.mk Z33;clear Qc kf hAv hAf
     (refine Zm ?_;repeat'(first|(refine Zi fun _=>?_;try simp(disch:=first|exact Zw|fail)[*,Yd,Ze hp,Ze hq])|refine Zx ?_|refine Zn ?_ ?_))
     refine⟨_,by omega,i+1,rfl,by omega,vs,fs++[⟨true,name,xs,sort⟩],I2.get,by omega,Z33.get.frame (fun d hd=>by simp only[List.mem_singleton]at hd;subst hd;simp),?_,?_⟩
     .rw [List.map_append];exact Vb.get.frame (fun d hd=>by simp only[List.mem_singleton]at hd;subst hd;simp)
     .simp
   .have I2:=I.other hlt (by rw[htn];exact h4) (by rw[htn];exact h5);replace I2:=Hide.mk I2;clear I hsv hsf hC
    (refine Zm ?_;repeat'(first|(refine Zi fun _=>?_;try simp(disch:=first|exact Zw|fail)[*,Yd,Ze hp,Ze hq])|refine Zx ?_|refine Zn ?_ ?_))
    refine⟨_,by omega,i+1,rfl,by omega,vs,fs,I2.get,by omega,hAv.frame (fun d hd=>by simp only[List.mem_singleton]at hd;subst hd;simp),hAf.frame (fun d hd=>by simp only[List.mem_singleton]at hd;subst hd;simp),?_⟩;simp
 .have e:i=t.length:=by omega
  subst e;rw[I.done];have hin1:=hAv.inl;have hin2:=hAf.inl
  have ho1:∀x∈ownV wv,h.next<=x:=by
   rcases hAv with⟨hvn,rfl⟩ | ⟨d1,ver1,Zry,hd1,rfl,Qc⟩<;>simp
  have ho2:∀x∈ownV wf,h.next<=x:=by
   rcases hAf with⟨hvn,rfl⟩ | ⟨d1,ver1,Zry,hd1,rfl,Qc⟩<;>simp
  clear hAv hAf
  (refine Zm ?_;repeat'(first|(refine Zi fun _=>?_;try simp(disch:=first|exact Zw|fail)[*,Yd])|refine Zx ?_|refine Zn ?_ ?_))
  exact⟨ho1,ho2⟩
structure VT (t:List Nd)(tr:Tr):Prop where
 parse:Zg 257 t=some (tr,[])
 pos:0 < Zl tr
 good:Good t
 len:t.length<=20000
 clean:Clean (Ya t)
theorem VT.ne {t:List Nd}{tr:Tr}(v:VT t tr):0 < t.length:=by
 cases t with
 |nil=>have:=v.parse;simp[Zg]at this
 |cons=>simp
theorem Z95 {t:List Nd}{tr:Tr}(v:VT t tr){b:Bool}{p vp q vq:Nat}{ps:List (Int×Nat×Nat)}{h:PH}(V:ViewAt t b 257 p vp q vq ps h)(K:Pure.Loc)(hcp:can K p=true)(hcq:can K q=true)(hp:p < h.next)(hq:q < h.next):Yh vE K 136 [.ptr p vp 0] h=some (.bool false,h):=by
 have hv:=V.view;have hr:=V.row;have hlen:=V.len;have h0:=V.done 0 v.ne
 have hpa:partAt 257 t 0=(Zl tr,Yq tr,t.length):=by
  unfold partAt;rw[List.drop_zero,v.parse];simp
 rw[hpa]at h0;have hdp:Yq tr<=257:=R7 v.parse;obtain⟨h01,h02⟩:=List.getElem?_eq_some_iff.1 h0;have Yp:=v.ne;have hl:=v.len;refine W6 (ok:=[p,q]) (fn:=Tryz.f136) Tryz.func136 rfl rfl rfl (by simp) (by simpa using Zcv hv hr) (Zg5 hcp hcq hv hr) (by simp[hp,hq]) (by simp[PH.belowAt,hv,hr,Wj,hq]) ?_ (by simp);have W5:=Yg hp;have hqd:=Yg hq
 (refine Zm ?_;repeat'(first|(refine Zi fun _=>?_;try simp(disch:=first|exact Zw|fail)[*,Yd,Tryz.f136,Ze hp,Ze hq])|refine Zx ?_|refine Zn ?_ ?_))
 omega
set_option maxHeartbeats 2000000 in
theorem Zir {t:List Nd}{tr:Tr}(v:VT t tr)(b:Bool)(K:Pure.Loc)(H:PH):∃p vp q vq ps h',Yh vE K 102 [L 58 b (t.map Zo)] H=some (.tuple [.ptr p vp 0,.bool true],h')/\ViewAt t b 257 p vp q vq ps h'/\H.next<=p/\H.next<=q/\p < h'.next/\q < h'.next/\∀j,j < H.next->h'.get j=H.get j:=by
 obtain⟨w,h',h1,p,vp,q,vq,ps,rfl,h2⟩:=Zg2 (C:=vE) (K:=K) (f:=102) (args:=[L 58 b (t.map Zo)]) (h:=H) (ok:=[]) (fn:=Tryz.f102) (R:=fun w h'=>∃p vp q vq,∃ps:List (Int×Nat×Nat),w=.tuple [.ptr p vp 0,.bool true]/\ViewAt t b 257 p vp q vq ps h'/\H.next<=p/\H.next<=q/\p < h'.next/\q < h'.next/\∀j,j < H.next->h'.get j=H.get j) Tryz.func102 rfl rfl rfl (by simp) (by simp[reach]) (by simp) (by
  obtain⟨v16,v18,ps,h1,hc,hV,Sj,Xa⟩:=Z68 t 256 (by omega) tr v.parse v.pos v.good v.len b {base:=H.next,lo:=H.next,ok:=[]} {H with next:=H.next+34};simp only at hV Sj Xa hc;have h136:=Z95 v hV {base:=H.next,lo:=H.next,ok:=[]} (by simp;omega) (by simp;omega) (by omega) (by omega);have h109:=Zob (by omega) v.parse v.pos v.clean hV v.len {base:=H.next,lo:=H.next,ok:=[]} (by simp;omega) (by simp;omega) (by omega) (by omega);have Yp:=v.ne;have hl:=v.len;have hR:∃p vp' q vq,∃ps:List (Int×Nat×Nat),(PV.tuple [.ptr (H.next+34+18) v18 0,.bool true])=.tuple [.ptr p vp' 0,.bool true]/\ViewAt t b 257 p vp' q vq ps h1/\H.next<=p/\H.next<=q/\p < h1.next/\q < h1.next/\∀j,j < H.next->h1.get j=H.get j:=⟨_,_,_,_,_,rfl,hV,by omega,by omega,by omega,by omega,fun j hj=>Xa j (by omega)⟩
  clear hR;replace hV:=Hide.mk hV;replace Xa:=Hide.mk Xa
  (refine Zm ?_;repeat'(first|(refine Zi fun _=>?_;try simp(disch:=first|exact Zw|fail)[*,Yd,Tryz.f102])|refine Zx ?_|refine Zn ?_ ?_))
  exact⟨by rw[<- Bool.not_eq_true,Nat.blt_eq];omega,_,_,⟨rfl,rfl⟩,_,⟨_,_,hV.get⟩,by omega,by omega,by omega,by omega,fun j hj=>Xa.get j (by omega)⟩)
 exact⟨p,vp,q,vq,ps,h',h1,h2⟩
theorem Zzv {t:List Nd}{tr:Tr}(v:VT t tr)(b:Bool):Xq vE 49 [L 58 b (t.map Zo)] (.bool true):=by
 intro K H;refine W6 (ok:=[]) (fn:=Tryz.f49) Tryz.func49 rfl rfl rfl (by simp) (by simp[reach]) (by simp) (by simp) (by simp) ?_ (by simp);obtain⟨p,vp,q,vq,ps,h1,hc,hV,Ro,Qg,ha3,ha4,Xa⟩:=Zir v b {base:=H.next,lo:=H.next,ok:=[]} {H with next:=H.next+11}
 (refine Zm ?_;repeat'(first|(refine Zi fun _=>?_;try simp(disch:=first|exact Zw|fail)[*,Yd,Tryz.f49])|refine Zx ?_|refine Zn ?_ ?_))
theorem Zaah {t:List Nd}{tr:Tr}(v:VT t tr)(b:Bool):Xq vE 57 [L 58 b (t.map Zo)] (L 155 true ((Va (Ya t)).2.map Y8)):=by
 intro K H;obtain⟨p,vp,q,vq,ps,h1,hc,hV,Ro,Qg,ha3,ha4,Xa⟩:=Zir v b {base:=H.next,lo:=H.next,ok:=[]} {H with next:=H.next+22};simp only at hc Ro Qg Xa;have h109:=Zob (by omega) v.parse v.pos v.clean hV v.len {base:=H.next,lo:=H.next,ok:=[]} (by simp;omega) (by simp;omega) ha3 ha4;clear hV Xa;refine W6 (ok:=[]) (fn:=Tryz.f57) Tryz.func57 rfl rfl rfl (by simp) (by simp[reach]) (by simp) (by simp) (by simp) ?_ (by simp)
 (refine Zm ?_;repeat'(first|(refine Zi fun _=>?_;try simp(disch:=first|exact Zw|fail)[*,Yd,Tryz.f57])|refine Zx ?_|refine Zn ?_ ?_))
end Go.Proofs.YtabcdhcpilpojaaGreatDoor
end
