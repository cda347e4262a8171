/- The program's terms: nodes. -/
import Derived.Test.YtabcdhcpilpojaaGreatDoorFD
import Derived.Test.YtabcdhcpilpojaaGreatDoorFC
import Derived.Test.YtabcdhcpilpojaaGreatDoorFA
import Derived.Test.YtabcdhcpilpojaaGreatDoorPD
set_option linter.unusedSimpArgs false
set_option linter.unusedVariables false
section
set_option maxRecDepth 20000
namespace Go.Proofs.YtabcdhcpilpojaaGreatDoor
open Go Go.Pure
open Go.Virt (Ex Ctx Ty TK)
theorem Zadx (s:Int):Xw vE 182 [.int .i64 s] (.bool (Ze1 s)):=by
 intro K H;refine Zd (fn:=Tryz.f182) rfl Tryz.func182 rfl rfl (by simp) (by simp) ?_ (by simp[*])
 (refine Zm ?_;repeat'(first|(refine Zi fun _=>?_;try simp(disch:=first|exact Zq|fail)[*,Zz,Tryz.f182])|refine Yb ?_|refine Yc ?_|refine Yd ?_|refine Zt ?_|refine Zf ?_|refine Zb ?_ ?_))
 all_goals simp[Ze1, *]
theorem Z0y (s:Int):Xw vE 188 [.int .i64 s] (.bool (Vp s)):=by
 intro K H;refine Zd (fn:=Tryz.f188) rfl Tryz.func188 rfl rfl (by simp) (by simp) ?_ (by simp[*])
 (refine Zm ?_;repeat'(first|(refine Zi fun _=>?_;try simp(disch:=first|exact Zq|fail)[*,Zz,Tryz.f188])|refine Yb ?_|refine Yc ?_|refine Yd ?_|refine Zt ?_|refine Zf ?_|refine Zb ?_ ?_))
 all_goals simp[Vp, *]
theorem Zij (b:Bool)(s:Int):Xw vE 186 [.bool b,.int .i64 s] (.int .i64 (if b then s else 0)):=by
 cases b
 .intro K H;refine Zd (fn:=Tryz.f186) rfl Tryz.func186 rfl rfl (by simp) (by simp) ?_ (by simp[*])
  (refine Zm ?_;repeat'(first|(refine Zi fun _=>?_;try simp(disch:=first|exact Zq|fail)[*,Zz,Tryz.f186])|refine Yb ?_|refine Yc ?_|refine Yd ?_|refine Zt ?_|refine Zf ?_|refine Zb ?_ ?_))
 .intro K H;refine Zd (fn:=Tryz.f186) rfl Tryz.func186 rfl rfl (by simp) (by simp) ?_ (by simp[*])
  (refine Zm ?_;repeat'(first|(refine Zi fun _=>?_;try simp(disch:=first|exact Zq|fail)[*,Zz,Tryz.f186])|refine Yb ?_|refine Yc ?_|refine Yd ?_|refine Zt ?_|refine Zf ?_|refine Zb ?_ ?_))
theorem Zad2 (op n:Int)(hn:0<=n):Xw vE 160 [.int .i64 op,.int .i64 n] (.bool (Y7 op n)):=by
 intro K H;refine Zd (fn:=Tryz.f160) rfl Tryz.func160 rfl rfl (by simp) (by simp) ?_ (by simp[*])
 (refine Zm ?_;repeat'(first|(refine Zi fun _=>?_;try simp(disch:=first|exact Zq|fail)[*,Zz,Tryz.f160])|refine Yb ?_|refine Yc ?_|refine Yd ?_|refine Zt ?_|refine Zf ?_|refine Zb ?_ ?_))
 all_goals simp_all[Y7]
 all_goals omega
def Zagc (s:Yt):Prop:=Zae s=true/\s.length < 2^20/\(Zbp s).den < 1000000000
theorem Z9h {s:Yt}(h:Zagc s):Xw vE 197 [.str s] (.bool true):=by
 obtain⟨h1,h2,h3⟩:=h;obtain⟨h4,h5,_⟩:=Zhd h1;rw[h5]at h2 ⊢;exact Z0x h4 h2 h3
theorem Zwc {s:Yt}(h:Ui s=true)(hl:s.length < 2^20):Xw vE 183 [.str s] (.bool true):=by
 unfold Ui at h;simp only[Bool.and_eq_true,beq_iff_eq]at h;obtain⟨h4,h5,_⟩:=Zhd h.1;rw[h5]at hl ⊢;exact Zadw h4 h.2 (by omega)
theorem Z9i {s:Yt}(h:Ui s=true)(hp:0 < Zdv s)(hl:s.length < 2^20):Xw vE 184 [.str s] (.int .i64 1):=by
 unfold Ui at h;simp only[Bool.and_eq_true,beq_iff_eq]at h;obtain⟨h4,h5,_⟩:=Zhd h.1;unfold Zdv at hp
 have hn:(Zbp s).neg=false/\(Zbp s).num≠0:=by
  split at hp
  .omega
  .rename_i hh;split at hp
   .omega
   .rename_i h2;exact⟨by simpa using h2,fun e=>hh (.inr e)⟩
 rw[h5]at hl ⊢;exact Zadv h4 hl h.2 hn.1 hn.2
theorem Zady (s:Int)(x:Yt)(hl:x.length < 2^20)(h:s=2/\Ui x=true\/s=3/\Zagc x):Xw vE 181 [.int .i64 s,.str x] (.bool true):=by
 rcases h with⟨rfl,h⟩ | ⟨rfl,h⟩
 .have h183:=Zwc h hl;clear h;intro K H;refine Zd (fn:=Tryz.f181) rfl Tryz.func181 rfl rfl (by simp) (by simp) ?_ (by simp[*])
  (refine Zm ?_;repeat'(first|(refine Zi fun _=>?_;try simp(disch:=first|exact Zq|fail)[*,Zz,Tryz.f181])|refine Yb ?_|refine Yc ?_|refine Yd ?_|refine Zt ?_|refine Zf ?_|refine Zb ?_ ?_))
 .have h197:=Z9h h;clear h;intro K H;refine Zd (fn:=Tryz.f181) rfl Tryz.func181 rfl rfl (by simp) (by simp) ?_ (by simp[*])
  (refine Zm ?_;repeat'(first|(refine Zi fun _=>?_;try simp(disch:=first|exact Zq|fail)[*,Zz,Tryz.f181])|refine Yb ?_|refine Yc ?_|refine Yd ?_|refine Zt ?_|refine Zf ?_|refine Zb ?_ ?_))
theorem Zad3 (n:Nd)(hs:n.Short)(h:Wh n.op n.sort n.name n.num=true)(hm:n.Sm):Xw vE 159 [Yg n] (.bool true):=by
 obtain⟨op,sort,name,num,kids⟩:=n;simp only[Nd.Short,Nd.Sm]at hs hm h;unfold Wh at h;by_cases h3:op=3
 .subst h3;simp only[if_true,Bool.and_eq_true,Bool.or_eq_true,beq_iff_eq]at h;have h181:=Zady sort num (by omega) (h.2.imp id fun hh=>⟨hh.1,hh.2,by omega,hm rfl⟩);have hn:=h.1;subst hn;clear h hm;intro K H;refine Zd (fn:=Tryz.f159) rfl Tryz.func159 rfl rfl (by simp) (by simp) ?_ (by simp[*])
  (refine Zm ?_;repeat'(first|(refine Zi fun _=>?_;try simp(disch:=first|exact Zq|fail)[*,Zz,Tryz.f159])|refine Yb ?_|refine Yc ?_|refine Yd ?_|refine Zt ?_|refine Zf ?_|refine Zb ?_ ?_))
 .rw [if_neg h3]at h;by_cases h45:op=4\/op=5
  .rw [if_pos h45]at h;simp only[Bool.and_eq_true,beq_iff_eq]at h;obtain⟨⟨rfl,hn⟩,hso⟩:=h;have h85:=Z9a name (by omega);have h182:=Zadx sort;rw[hn]at h85;rw[hso]at h182;clear hm hn hso;rcases h45 with rfl | rfl
   all_goals
    clear h3;intro K H;refine Zd (fn:=Tryz.f159) rfl Tryz.func159 rfl rfl (by simp) (by simp) ?_ (by simp[*])
    (refine Zm ?_;repeat'(first|(refine Zi fun _=>?_;try simp(disch:=first|exact Zq|fail)[*,Zz,Tryz.f159])|refine Yb ?_|refine Yc ?_|refine Yd ?_|refine Zt ?_|refine Zf ?_|refine Zb ?_ ?_))
  .rw [if_neg h45]at h;by_cases h167:op=16\/op=17
   .rw [if_pos h167]at h;simp only[Bool.and_eq_true,beq_iff_eq,decide_eq_true_eq]at h;obtain⟨⟨⟨rfl,rfl⟩,hi⟩,hp⟩:=h;have h183:=Zwc hi (by omega);have h184:=Z9i hi hp (by omega);clear hm hi hp h45 h3;rcases h167 with rfl | rfl
    all_goals
     intro K H;refine Zd (fn:=Tryz.f159) rfl Tryz.func159 rfl rfl (by simp) (by simp) ?_ (by simp[*])
     (refine Zm ?_;repeat'(first|(refine Zi fun _=>?_;try simp(disch:=first|exact Zq|fail)[*,Zz,Tryz.f159])|refine Yb ?_|refine Yc ?_|refine Yd ?_|refine Zt ?_|refine Zf ?_|refine Zb ?_ ?_))
   .rw [if_neg h167]at h;simp only[Bool.and_eq_true,beq_iff_eq,decide_eq_true_eq]at h;obtain⟨⟨⟨⟨h1,h20⟩,rfl⟩,rfl⟩,rfl⟩:=h;clear hm;intro K H;refine Zd (fn:=Tryz.f159) rfl Tryz.func159 rfl rfl (by simp) (by simp) ?_ (by simp[*])
    (refine Zm ?_;repeat'(first|(refine Zi fun _=>?_;try simp(disch:=first|exact Zq|fail)[*,Zz,Tryz.f159])|refine Yb ?_|refine Yc ?_|refine Yd ?_|refine Zt ?_|refine Zf ?_|refine Zb ?_ ?_))
theorem Ze5 {K:Pure.Loc}{H:PH}{p:Nat}{x:Nat×PO}(Zx:can K p=true)(hp:H.get p=some x):[p].all (fun i=>can K i&&(H.get i).isSome)=true:=by
 simp only[List.all_cons,List.all_nil,Zx,hp,Option.isSome_some,Bool.and_self]
theorem Zvy (x y:Int)(K:Pure.Loc)(H:PH)(p Zc:Nat)(Zx:can K p=true)(hlt:p < H.next)(hp:H.get p=some (Zc,.cells [.int .i64 x])):Yx vE K 201 [.int .i64 y,.ptr p Zc 0] H=some (.bool (!(y==x)),H):=by
 refine W8 (ok:=[p]) (fn:=Tryz.f201) Tryz.func201 rfl rfl rfl (by simp) (by simp[reach,hp,refsO]) (Ze5 Zx hp) (by simpa using hlt) (by simp[PH.belowAt,hp,Zu]) ?_ (by simp);have Wv:=Yl hlt
 (refine Zm ?_;repeat'(first|(refine Zi fun _=>?_;try simp(disch:=first|exact Zw|fail)[*,Yi,Tryz.f201,Ze hlt])|refine Zt ?_|refine Zf ?_|refine Zb ?_ ?_))
theorem Z8s (x:Int)(b:Bool)(s:List Int)(hl:s.length < 2^30)(K:Pure.Loc)(H:PH)(p Zc:Nat)(Zx:can K p=true)(hlt:p < H.next)(hp:H.get p=some (Zc,.cells [.int .i64 x])):∃r:Int,(0<=r↔s.all (·==x)=false)/\Yx vE K 207 [L 3 b (s.map (.int .i64)),.fn 201 [] [.ptr p Zc 0]] H=some (.int .i64 r,H):=by
 cases hf:s.findIdx? (fun y=>!(y==x)) with
 |none=>
  have hall:∀i (h:i < s.length),s[i]=x:=fun i h=>by
   have:=List.findIdx?_eq_none_iff.1 hf s[i] (List.getElem_mem h);simpa using this
  refine⟨-1,?_,?_⟩
  .have:s.all (·==x)=true:=by
    rw[List.all_eq_true];intro y hy;obtain⟨i,h,rfl⟩:=List.getElem_of_mem hy;simpa using hall i h
   rw[this];simp
  refine W8 (ok:=[p]) (fn:=Tryz.f207) Tryz.func207 rfl rfl rfl (by simp) (by simp[reach,hp,refsO]) (Ze5 Zx hp) (by simpa using hlt) (by simp[PH.belowAt,hp,Zu]) ?_ (by simp);have Wv:=Yl hlt
  (refine Zm ?_;repeat'(first|(refine Zi fun _=>?_;try simp(disch:=first|exact Zw|fail)[*,Yi,Tryz.f207,Ze hlt])|refine Zt ?_|refine Zf ?_|refine Zb ?_ ?_))
  refine Zn [0,1,7] (fun n sl h=>∃i:Nat,n=s.length - i/\i<=s.length/\sl 8=some (.int .i64 i)/\h={H with next:=H.next+19}) s.length rfl ⟨0,by simp,by simp,by simp,rfl⟩ ?_;rintro n sl h hfr ⟨i,hn,hi,h8,rfl⟩;simp at hfr;by_cases Zor:i < s.length
  .have hx:=hall i Zor;have hc:=Zvy x x {base:=H.next,lo:=H.next,ok:=[p]} {H with next:=H.next+19} p Zc (by simp) (by simp;omega) hp;simp only[BEq.rfl,Bool.not_true]at hc
   (refine Zm ?_;repeat'(first|(refine Zi fun _=>?_;try simp(disch:=first|exact Zw|fail)[*,Yi,Ze hlt])|refine Zt ?_|refine Zf ?_|refine Zb ?_ ?_))
   exact⟨_,by omega,i+1,rfl,by omega,by omega⟩
  . (refine Zm ?_;repeat'(first|(refine Zi fun _=>?_;try simp(disch:=first|exact Zw|fail)[*,Yi,Ze hlt])|refine Zt ?_|refine Zf ?_|refine Zb ?_ ?_))
 |some k=>
  obtain⟨hk,Yq,hall⟩:=List.findIdx?_eq_some_iff_getElem.1 hf;refine⟨k,?_,?_⟩
  .have:s.all (·==x)=false:=by
    rw[List.all_eq_false];exact⟨s[k],List.getElem_mem hk,by simpa using Yq⟩
   rw[this];simp
  refine W8 (ok:=[p]) (fn:=Tryz.f207) Tryz.func207 rfl rfl rfl (by simp) (by simp[reach,hp,refsO]) (Ze5 Zx hp) (by simpa using hlt) (by simp[PH.belowAt,hp,Zu]) ?_ (by simp);have Wv:=Yl hlt
  (refine Zm ?_;repeat'(first|(refine Zi fun _=>?_;try simp(disch:=first|exact Zw|fail)[*,Yi,Tryz.f207,Ze hlt])|refine Zt ?_|refine Zf ?_|refine Zb ?_ ?_))
  refine Zn [0,1,7] (fun n sl h=>∃i:Nat,n=s.length - i/\i<=k/\sl 8=some (.int .i64 i)/\h={H with next:=H.next+19}) s.length rfl ⟨0,by simp,by simp,by simp,rfl⟩ ?_;rintro n sl h hfr ⟨i,hn,hi,h8,rfl⟩;simp at hfr;have hc:=Zvy x s[i] {base:=H.next,lo:=H.next,ok:=[p]} {H with next:=H.next+19} p Zc (by simp) (by simp;omega) hp;by_cases hik:i < k
  .have hx:s[i]=x:=by simpa using hall i hik
   rw[hx,BEq.rfl]at hc;simp only[Bool.not_true]at hc
   (refine Zm ?_;repeat'(first|(refine Zi fun _=>?_;try simp(disch:=first|exact Zw|fail)[*,Yi,Ze hlt])|refine Zt ?_|refine Zf ?_|refine Zb ?_ ?_))
   exact⟨_,by omega,i+1,rfl,by omega,by omega⟩
  .have e:i=k:=by omega
   subst e;rw[Yq]at hc
   (refine Zm ?_;repeat'(first|(refine Zi fun _=>?_;try simp(disch:=first|exact Zw|fail)[*,Yi,Ze hlt])|refine Zt ?_|refine Zf ?_|refine Zb ?_ ?_))
theorem Z8t (x:Int)(b:Bool)(s:List Int)(hl:s.length < 2^30)(K:Pure.Loc)(H:PH)(p Zc:Nat)(Zx:can K p=true)(hlt:p < H.next)(hp:H.get p=some (Zc,.cells [.int .i64 x])):Yx vE K 200 [L 3 b (s.map (.int .i64)),.fn 201 [] [.ptr p Zc 0]] H=some (.bool (!(s.all (·==x))),H):=by
 refine W8 (ok:=[p]) (fn:=Tryz.f200) Tryz.func200 rfl rfl rfl (by simp) (by simp[reach,hp,refsO]) (Ze5 Zx hp) (by simpa using hlt) (by simp[PH.belowAt,hp,Zu]) ?_ (by simp);have Wv:=Yl hlt;obtain⟨r,hr,hc⟩:=Z8s x b s hl {base:=H.next,lo:=H.next,ok:=[p]} {H with next:=H.next+9} p Zc (by simp) (by simp;omega) hp;cases ha:s.all (·==x) with
 |true=>
  rw[ha]at hr;have hr':¬ 0<=r:=by simpa using hr
  (refine Zm ?_;repeat'(first|(refine Zi fun _=>?_;try simp(disch:=first|exact Zw|fail)[*,Yi,Tryz.f200,Ze hlt])|refine Zt ?_|refine Zf ?_|refine Zb ?_ ?_))
 |false=>
  rw[ha]at hr;have hr':0<=r:=hr.2 rfl
  (refine Zm ?_;repeat'(first|(refine Zi fun _=>?_;try simp(disch:=first|exact Zw|fail)[*,Yi,Tryz.f200,Ze hlt])|refine Zt ?_|refine Zf ?_|refine Zb ?_ ?_))
theorem Z0z (x:Int)(b:Bool)(s:List Int)(hl:s.length < 2^30):Xw vE 187 [L 3 b (s.map (.int .i64)),.int .i64 x] (.bool (s.all (·==x))):=by
 intro K H;refine Zd (fn:=Tryz.f187) rfl Tryz.func187 rfl rfl (by simp) (by simp) ?_ (by simp[*])
 (refine Zm ?_;repeat'(first|(refine Zi fun _=>?_;try simp(disch:=first|exact Zw|fail)[*,Yi,Tryz.f187])|refine Zt ?_|refine Zf ?_|refine Zb ?_ ?_))
 rw[Z8t x b s hl _ _ (H.next+3) _ (by simp) (by simp) (by simp)]
 (refine Zm ?_;repeat'(first|(refine Zi fun _=>?_;try simp(disch:=first|exact Zw|fail)[*,Yi])|refine Zt ?_|refine Zf ?_|refine Zb ?_ ?_))
set_option maxHeartbeats 4000000 in
theorem Z01 (n:Nd)(s:List Int)(hl:s.length < 2^20)(hp:∀x∈s,0 < x)(ha:Y7 n.op s.length=true)(h1:1<=n.op)(h20:n.op<=20)(h15:n.op=15->Vp (atI s 0)=true):Xw vE 162 [Yg n,L 3 true (s.map (.int .i64))] (.int .i64 (W2 n.op n.sort 3 s)):=by
 obtain⟨op,sort,name,num,kids⟩:=n;simp only at ha h1 h20 h15 ⊢;have Zvf:=fun x=>Z0z x true s (by omega)
 have hc:op=3\/op=4\/op=5\/(op=1\/op=2\/op=6\/op=7\/op=8\/op=9)\/(op=10\/op=19)\/(op=11\/op=12\/op=13\/op=15\/op=18)\/op=14\/(op=16\/op=17\/op=20):=by omega
 rcases hc with rfl | rfl | rfl | hc | hc | hc | rfl | hc
 .intro K H;refine Zd (fn:=Tryz.f162) rfl Tryz.func162 rfl rfl (by simp) (by simp) ?_ (by simp[*])
  (refine Zm ?_;repeat'(first|(refine Zi fun _=>?_;try simp(disch:=first|exact Zw|fail)[*,Yi,Tryz.f162])|refine Zt ?_|refine Zf ?_|refine Zb ?_ ?_))
  simp[W2]
 .intro K H;refine Zd (fn:=Tryz.f162) rfl Tryz.func162 rfl rfl (by simp) (by simp) ?_ (by simp[*])
  (refine Zm ?_;repeat'(first|(refine Zi fun _=>?_;try simp(disch:=first|exact Zw|fail)[*,Yi,Tryz.f162])|refine Zt ?_|refine Zf ?_|refine Zb ?_ ?_))
  simp[W2]
 .intro K H;refine Zd (fn:=Tryz.f162) rfl Tryz.func162 rfl rfl (by simp) (by simp) ?_ (by simp[*])
  (refine Zm ?_;repeat'(first|(refine Zi fun _=>?_;try simp(disch:=first|exact Zw|fail)[*,Yi,Tryz.f162])|refine Zt ?_|refine Zf ?_|refine Zb ?_ ?_))
  simp[W2]
 .have Z76:=Zvf 1;have h186:=Zij (s.all (·==1)) 1
  have e:W2 op sort 3 s=if s.all (·==1) then 1 else 0:=by
   rcases hc with rfl | rfl | rfl | rfl | rfl | rfl
   .have:s=[]:=by simpa[Y7]using ha
    subst this;simp[W2]
   .have:s=[]:=by simpa[Y7]using ha
    subst this;simp[W2]
   all_goals simp[W2,Vo]
  rw[e];generalize s.all (·==1)=c at *;generalize (if c=true then (1:Int) else 0)=r at *;clear Zvf h15 ha hp e;rcases hc with rfl | rfl | rfl | rfl | rfl | rfl
  all_goals
   intro K H;refine Zd (fn:=Tryz.f162) rfl Tryz.func162 rfl rfl (by simp) (by simp) ?_ (by simp[*])
   (refine Zm ?_;repeat'(first|(refine Zi fun _=>?_;try simp(disch:=first|exact Zw|fail)[*,Yi,Tryz.f162])|refine Zt ?_|refine Zf ?_|refine Zb ?_ ?_))
 .have hs3:s.length=3:=by
   have:(s.length:Int)=3:=by rcases hc with rfl | rfl<;>simpa[Y7]using ha
   omega
  obtain⟨a,b,c,rfl⟩:∃a b c,s=[a,b,c]:=by
   match s,hs3 with
   | [a,b,c],_=>exact⟨a,b,c,rfl⟩
  have Z76:=Z0z 2 true [b,c] (by simp);have h186:=Zij;clear Zvf h15 ha hp hs3 hl;simp only[List.map_cons,List.map_nil,Xq]at *;rcases hc with rfl | rfl
  all_goals
   intro K H;refine Zd (fn:=Tryz.f162) rfl Tryz.func162 rfl rfl (by simp) (by simp) ?_ (by simp[*])
   (refine Zm ?_;repeat'(first|(refine Zi fun _=>?_;try simp(disch:=first|exact Zq|fail)[*,Zz,Tryz.f162])|refine Yb ?_|refine Yc ?_|refine Yd ?_|refine Zt ?_|refine Zf ?_|refine Zb ?_ ?_))
   all_goals simp_all[W2,Vo,atI]
 .have hs2:s.length=2:=by
   have:(s.length:Int)=2:=by rcases hc with rfl | rfl | rfl | rfl | rfl<;>simpa[Y7]using ha
   omega
  obtain⟨a,b,rfl⟩:∃a b,s=[a,b]:=by
   match s,hs2 with
   | [a,b],_=>exact⟨a,b,rfl⟩
  have Z76:=Zvf a;have h188:=Z0y;have h186:=Zij;have h15':op=15->Vp a=true:=h15;clear Zvf h15 ha hp hs2 hl;simp only[List.map_cons,List.map_nil,Xq]at *;rcases hc with rfl | rfl | rfl | rfl | rfl
  all_goals
   intro K H;refine Zd (fn:=Tryz.f162) rfl Tryz.func162 rfl rfl (by simp) (by simp) ?_ (by simp[*])
   (refine Zm ?_;repeat'(first|(refine Zi fun _=>?_;try simp(disch:=first|exact Zq|fail)[*,Zz,Tryz.f162])|refine Yb ?_|refine Yc ?_|refine Yd ?_|refine Zt ?_|refine Zf ?_|refine Zb ?_ ?_))
   all_goals first
    | (simp_all[W2,Vo,atI];done)
    | (by_cases hab:a=b
       .subst hab;simp[W2,Vo,atI]
       .have hba:¬ b=a:=fun e=>hab e.symm
        simp[W2,Vo,atI,hab,hba])
 .have hs1:0 < s.length:=by
   have:(1:Int)<=s.length:=by simpa[Y7]using ha
   omega
  obtain⟨a,r,rfl⟩:∃a r,s=a::r:=by
   match s,hs1 with
   |a::r,_=>exact⟨a,r,rfl⟩
  have Z76:=Zvf a;have h188:=Z0y;have h186:=Zij;clear Zvf h15 ha hp hs1;simp only[List.map_cons,List.map_nil,Xq]at *;intro K H;refine Zd (fn:=Tryz.f162) rfl Tryz.func162 rfl rfl (by simp) (by simp) ?_ (by simp[*])
  (refine Zm ?_;repeat'(first|(refine Zi fun _=>?_;try simp(disch:=first|exact Zq|fail)[*,Zz,Tryz.f162])|refine Yb ?_|refine Yc ?_|refine Yd ?_|refine Zt ?_|refine Zf ?_|refine Zb ?_ ?_))
  all_goals simp_all[W2,Vo,atI]
 .have hs1:s.length=1:=by
   have:(s.length:Int)=1:=by rcases hc with rfl | rfl | rfl<;>simpa[Y7]using ha
   omega
  obtain⟨a,rfl⟩:∃a,s=[a]:=by
   match s,hs1 with
   | [a],_=>exact⟨a,rfl⟩
  have h186:=Zij;clear Zvf h15 ha hp hs1 hl;simp only[List.map_cons,List.map_nil,Xq]at *;rcases hc with rfl | rfl | rfl
  all_goals
   intro K H;refine Zd (fn:=Tryz.f162) rfl Tryz.func162 rfl rfl (by simp) (by simp) ?_ (by simp[*])
   (refine Zm ?_;repeat'(first|(refine Zi fun _=>?_;try simp(disch:=first|exact Zq|fail)[*,Zz,Tryz.f162])|refine Yb ?_|refine Yc ?_|refine Yd ?_|refine Zt ?_|refine Zf ?_|refine Zb ?_ ?_))
   all_goals simp_all[W2,Vo,atI]
theorem Zvz (v:PV)(hv:cellsOf v=[v])(hc:W0 v=true)(K:Pure.Loc)(h:PH):Yx vE K 161 [v] h=some (.fn 185 [] [.ptr (h.next+1) (h.stamp (h.next+1)) 0],{h.put (h.next+1) (h.stamp (h.next+1)) (.cells [v]) with next:=h.next+4}):=by
 have key:wp (Yx vE K 161 [v] h) fun r=>r=(.fn 185 [] [.ptr (h.next+1) (h.stamp (h.next+1)) 0],{h.put (h.next+1) (h.stamp (h.next+1)) (.cells [v]) with next:=h.next+4}):=by
  refine Zqr (fn:=Tryz.f161) (by cases v<;>rfl) Tryz.func161 rfl rfl ?_
  (refine Zm ?_;repeat'(first|(refine Zi fun _=>?_;try simp(disch:=first|exact Zw|fail)[*,Yi,Tryz.f161])|refine Zt ?_|refine Zf ?_|refine Zb ?_ ?_))
  rw[if_neg]
  .rfl
  .rw [Bool.not_eq_true];unfold Zh4;rw[List.all_eq_false];exact⟨1,by simp,by simp⟩
 obtain⟨r,h1,rfl⟩:=Wb.1 key;exact h1
theorem Z55 {α:Type}(p:Prop)[Decidable p](a b:α):(if p then a else b)=b\/(if p then a else b)=a:=by
 by_cases h:p
 .rw [if_pos h];exact .inr rfl
 .rw [if_neg h];exact .inl rfl
set_option maxHeartbeats 1000000 in
theorem Zaau {K:Pure.Loc}{sl:Yw}{h:PH}{f:Operand}{p1 p2:Nat}{asg bd:Code}{c cver o over off n:Nat}{ys:List PV}{w:Nat->PV}{Q:Ex×Yw×PH->Prop}(J:Nat->PH->Prop)(hf:Yz sl f=some (.fn 185 [] [.ptr c cver 0]))(S9:K.lo<=h.next)
  (X3:∀i h' x,J i h'->J i (h'.put h.next 0 x)) (To:∀i h' m,J i h'->J i {h' with next:=m}) (hrc:∀i h',J i h'->h'.get c=some (cver,.cells [.own o over 3 off n])) (hro:∀i h',J i h'->h'.get o=some (over,.row 3 true ys)) (hel:∀k,k < n->ys[off+k]?=some (w k)) (hw:∀k,∃z,w k=.int .i64 z) (hn:n < 2^30) (hoff:off+n<=ys.length)
  (h0:J 0 h) (step:∀i,i < n->∀h',J i h'->h.next+20<=h'.next->h'.get h.next=some (0,.gone)->wp (Vh vE K false asg (Zdy sl [(p1,.int .i64 (n - 1 - i:Nat)),(p2,w (n - 1 - i))]) h') fun r1=>r1.1=.normal/\wp (Vh vE K false bd r1.2.1 r1.2.2) fun r2=>r2.1=.normal/\J (i+1) r2.2.2/\r2.2.2.get h.next=some (0,.gone)/\h.next+20<=r2.2.2.next)
  (hQ:∀h',J n h'->h.next < h'.next->Q (.normal,sl,h')):wp (Vh vE K true (.rangeFunc f #[p1,p2] asg bd) sl h) Q:=by
 refine Zs5 hf rfl ?_;refine Zqr (fn:=Tryz.f185) (by rfl) Tryz.func185 rfl rfl ?_;have hJ0:J 0 ({h.put h.next 0 (.loop K sl #[p1,p2].toList asg bd) with next:=h.next+1}):=To _ _ _ (X3 _ _ _ h0);have hrc0:=hrc _ _ hJ0;have hro0:=hro _ _ hJ0
 have hcL:c≠h.next:=fun e=>by
  have h1:=hrc _ _ (X3 _ _ .gone h0);rw[e]at h1;simp at h1
 have hoL:o≠h.next:=fun e=>by
  have h1:=hro _ _ (X3 _ _ .gone h0);rw[e]at h1;simp at h1
 simp[hcL,hoL]at hrc0 hro0
 (refine Zm ?_;repeat'(first|(refine Zi fun _=>?_;try simp(disch:=first|exact Zw|fail)[*,Yi,Tryz.f185])|refine Zt ?_|refine Zf ?_|refine Zb ?_ ?_))
 refine Zn [0,1] (fun m Yy hh=>∃i:Nat,m=n - i/\i<=n/\Yy 3=some (.int .i64 ((n:Int) - 1 - i))/\J i hh/\hh.get h.next=some (0,.loop K sl [p1,p2] asg bd)/\h.next+20<=hh.next) n rfl ⟨0,by simp,by simp,by simp,To _ _ _ (X3 _ _ _ h0),by simp,by simp⟩ ?_;rintro m Yy hh hfr ⟨i,hm,hi,h3,hJ,hL,hnxt⟩;simp at hfr;have hrc1:=hrc _ _ hJ;have hro1:=hro _ _ hJ;by_cases hlt:i < n
 .have he:=hel (n - 1 - i) (by omega);obtain⟨z,hz⟩:=hw (n - 1 - i);obtain⟨hyl,hyv⟩:=List.getElem?_eq_some_iff.1 he;have e1:((n:Int) - 1 - i)=((n - 1 - i:Nat):Int):=by omega
  have Zcb:=step i hlt (hh.put h.next 0 .gone) (X3 _ _ _ hJ) (by simpa using hnxt) (by simp);rw[hz]at he hyv Zcb;rw[e1]at h3;generalize hk:n - 1 - i=k at *;have hkn:k < n:=by omega
  replace X3:=Hide.mk X3;replace Zcb:=Hide.mk Zcb;clear hrc hro hel hw h0 step hJ0 hrc0 hro0 hJ To
  (refine Zm ?_;repeat'(first|(refine Zi fun _=>?_;try simp(disch:=first|exact Zw|fail)[*,Yi])|refine Zt ?_|refine Zf ?_|refine Zb ?_ ?_))
  refine Z4k hL rfl (by simp) (by simp[List.all_eq_true];exact fun x hx=>.inr hx) ?_;refine Pure.wp_mono Zcb.get ?_;rintro⟨x1,Qr,hh1⟩ ⟨q1,q2⟩;refine⟨q1,Pure.wp_mono q2 ?_⟩;rintro⟨x2,sl2,hh2⟩ ⟨q3,q4,q5,q6⟩;refine⟨q3,q5,?_⟩;have q7:=X3.get _ _ (.loop K sl [p1,p2] asg bd) q4;simp only at q6;replace q7:=Hide.mk q7;clear q4 Zcb q2 hyv he hrc1 hro1 hL q1 q3
  (refine Zm ?_;repeat'(first|(refine Zi fun _=>?_;try simp(disch:=first|exact Zw|fail)[*,Yi])|refine Zt ?_|refine Zf ?_|refine Zb ?_ ?_))
  exact⟨_,by omega,i+1,rfl,by omega,by omega,q7.get⟩
 .have e:i=n:=by omega
  subst e;have Xn:∀hf:PH,(∃K1 s1 p1 a1 b1,hf.get h.next=some (0,.loop K1 s1 p1 a1 b1))/\Q (Ex.normal,sl,hf.put h.next 0 .gone)->True:=fun _ _=>trivial
  have hg1:∀hf:PH,(hf=hh\/hf={hh with next:=h.next+1})->(∃K1 s1 p1 a1 b1,hf.get h.next=some (0,.loop K1 s1 p1 a1 b1))/\Q (Ex.normal,sl,hf.put h.next 0 .gone):=by
   rintro hf (rfl | rfl)
   .exact ⟨⟨_,_,_,_,_,hL⟩,hQ _ (X3 _ _ _ hJ) (by simp;omega)⟩
   .exact ⟨⟨_,_,_,_,_,hL⟩,hQ _ (X3 _ _ _ (To _ _ _ hJ)) (by simp)⟩
  replace hg1:=Hide.mk hg1;clear X3 hrc hro hel hw h0 step hJ0 hrc0 hro0 Xn
  (refine Zm ?_;repeat'(first|(refine Zi fun _=>?_;try simp(disch:=first|exact Zw|fail)[*,Yi])|refine Zt ?_|refine Zf ?_|refine Zb ?_ ?_))
  apply hg1.get;exact Z55 _ _ _
theorem Zs8 {K:Pure.Loc}{sl:Yw}{h:PH}{f:Operand}{p1 p2:Nat}{asg bd:Code}{c cver:Nat}{Q:Ex×Yw×PH->Prop}(hf:Yz sl f=some (.fn 185 [] [.ptr c cver 0]))(hrc:h.get c=some (cver,.cells [.nils]))(hc:c < h.next)
  (hQ:∀h',(∀k,k≠h.next->h'.get k=h.get k)->h.next < h'.next->Q (.normal,sl,h')):wp (Vh vE K true (.rangeFunc f #[p1,p2] asg bd) sl h) Q:=by
 refine Zs5 hf rfl ?_;refine Zqr (fn:=Tryz.f185) (by rfl) Tryz.func185 rfl rfl ?_;have hcn:(c=h.next)=False:=by simp;omega
 (refine Zm ?_;repeat'(first|(refine Zi fun _=>?_;try simp(disch:=first|exact Zw|fail)[*,Yi,Tryz.f185])|refine Zt ?_|refine Zf ?_|refine Zb ?_ ?_))
 refine Zn [0,1] (fun m Yy hh=>m=0/\Yy 3=some (.int .i64 (-1))/\hh.get h.next=some (0,.loop K sl [p1,p2] asg bd)/\h.next < hh.next/\∀k,k≠h.next->hh.get k=h.get k) 0 rfl ⟨rfl,by simp,by simp,by simp;omega,fun k hk=>by simp[hk]⟩ ?_;rintro m Yy hh hfr ⟨rfl,h3,hL,To,hg⟩;simp at hfr
 have hg1:∀hf:PH,(hf=hh\/hf={hh with next:=h.next+1})->(∃K1 s1 p1 a1 b1,hf.get h.next=some (0,.loop K1 s1 p1 a1 b1))/\Q (Ex.normal,sl,hf.put h.next 0 .gone):=by
  rintro hf (rfl | rfl)
  .exact ⟨⟨_,_,_,_,_,hL⟩,hQ _ (fun k hk=>by simp[hk,hg k hk]) (by simpa using To)⟩
  .exact ⟨⟨_,_,_,_,_,hL⟩,hQ _ (fun k hk=>by simp[hk,hg k hk]) (by simp)⟩
 replace hg1:=Hide.mk hg1;clear hQ hg
 (refine Zm ?_;repeat'(first|(refine Zi fun _=>?_;try simp(disch:=first|exact Zw|fail)[*,Yi])|refine Zt ?_|refine Zf ?_|refine Zb ?_ ?_))
 apply hg1.get;exact Z55 _ _ _
mutual
def Xc:Tr->Nat
 | .mk _ _ _ _ ks=>Xa ks+1
def Xa:List Tr->Nat
 | []=>0
 |k::r=>max (Xc k) (Xa r)
end
inductive Forest (D:Nat):List Nd->List (Tr×Nat)->Prop
 |nil:Forest D [] []
 |cons {r r' tr n ts} (h:Zh D r=some (tr,r')) (hn:r.length=r'.length+n) (h0:0 < n) (f:Forest D r' ts):Forest D r ((tr,n)::ts)
def Xm:Nat->List (Tr×Nat)->List Nat
 | _,[]=>[]
 |b,(_,n)::ts=>b::Xm (b+n) ts
theorem Wn (b:Nat)(ts:List (Tr×Nat)):(Xm b ts).length=ts.length:=by
 induction ts generalizing b with
 |nil=>rfl
 |cons x ts ih=>obtain⟨tr,n⟩:=x;simp[Xm,ih]
def Xr:List (Tr×Nat)->Nat
 | []=>0
 | (_,n)::ts=>n+Xr ts
theorem Zfr (b:Nat)(ts us:List (Tr×Nat)):Xm b (ts++us)=Xm b ts++Xm (b+Xr ts) us:=by
 induction ts generalizing b with
 |nil=>simp[Xm,Xr]
 |cons x ts ih=>obtain⟨tr,n⟩:=x;simp[Xm,Xr,ih,Nat.add_assoc]
theorem Forest.many {D:Nat}:∀ {k:Nat} {r r'':List Nd} {ks:List Tr} {ts:List (Tr×Nat)},Forest D r ts->many (Zh D) k r=some (ks,r'')->∃t1 t2,ts=t1++t2/\t1.map (·.1)=ks/\Forest D r'' t2/\t1.length=k/\r.length=r''.length+Xr t1
 | 0,r,r'',ks,ts,f,h=>by
   simp only[Go.Proofs.YtabcdhcpilpojaaGreatDoor.many,Option.some.injEq,Prod.mk.injEq]at h;obtain⟨rfl,rfl⟩:=h;exact⟨[],ts,rfl,rfl,f,rfl,by simp[Xr]⟩
 |k+1,r,r'',ks,ts,f,h=>by
  simp only[Go.Proofs.YtabcdhcpilpojaaGreatDoor.many]at h;split at h
  .cases h
  .rename_i t1 r1 h1;split at h
   .cases h
   .rename_i us r2 h2;cases h;cases f with
    |nil=>rw[Zxb]at h1;cases h1
    |cons h3 hn h0 f=>
     rw[h3]at h1;cases h1;obtain⟨a,b,rfl,e,f2,e2,e3⟩:=Forest.many f h2;exact⟨_::a,b,rfl,by simp[e],f2,by simp[e2],by simp[Xr];omega⟩
where Zxb {D:Nat}:Zh D []=none:=by cases D<;>rfl
theorem Zej {d:Nat}{n:Nd}{r r0:List Nd}{tr:Tr}{ts:List (Tr×Nat)}(h:Zh (d+1) (n::r)=some (tr,r0))(f:Forest (d+1) r ts):∃t1 t2,ts=t1++t2/\tr=.mk n.op n.sort n.name n.num (t1.map (·.1))/\n.kids=(t1.length:Int) /\
  Forest (d+1) (n::r) ((tr,1+Xr t1)::t2)/\Wh n.op n.sort n.name n.num=true/\Y7 n.op n.kids=true/\r.length=r0.length+Xr t1:=by
 have h':=h;rw[Zh]at h';split at h'
 .rename_i hc;rw[Bool.and_eq_true]at hc;split at h'
  .cases h'
  .rename_i ks r1 h1;cases h';have h2:=Zb4 (fun _ _=>Zag) h1;obtain⟨a,b,rfl,e,f2,e2,e3⟩:=f.many h2;refine⟨a,b,rfl,by rw[e],?_,.cons h (by simp;omega) (by omega) f2,hc.1,hc.2,e3⟩
   have hk:0<=n.kids:=by
    have:=hc.2;unfold Y7 at this;split at this
    .simp at this;omega
    .split at this
     .simp at this;omega
     .split at this
      .simp at this;omega
      .split at this
       .simpa using this
       .split at this
        .simp at this;omega
        .split at this
         .simp at this;omega
         .simp at this;omega
   rw[e2];omega
 .cases h'
theorem Zac {op s:Int}{nm nu:Yt}{ks:List Tr}(h:0 < Ye (.mk op s nm nu ks)):(∀k∈ks,0 < Ye k)/\Ye (.mk op s nm nu ks)=W2 op s (Vd ks) (Yu ks):=by
 rw[Ye]at h ⊢;split at h
 .rename_i ha;rw[if_pos ha];refine⟨fun k hk=>?_,rfl⟩
  have hm:Ye k∈Yu ks:=by
   clear ha h
   induction ks with
   |nil=>cases hk
   |cons a l ih=>
    simp only[Yu,List.mem_cons]at hk ⊢;rcases hk with rfl | hk
    .exact .inl rfl
    .exact .inr (ih hk)
  simpa using List.all_eq_true.1 ha _ hm
 .omega
theorem Zui {p q:List Nd->Option (Tr×List Nd)}(hp:∀r t r',p r=some (t,r')->0 < Ye t->∀i,i < r.length - r'.length->∃t2 r2,q (r.drop i)=some (t2,r2)/\0 < Ye t2)(hs:∀r t r',p r=some (t,r')->∃a,a≠[]/\r=a++r'):
  ∀ {k:Nat} {r r':List Nd} {ts:List Tr},many p k r=some (ts,r')->(∀t∈ts,0 < Ye t)->∀i,i < r.length - r'.length->∃t2 r2,q (r.drop i)=some (t2,r2)/\0 < Ye t2
 | 0,r,r',ts,h,_=>by
   simp only[many,Option.some.injEq,Prod.mk.injEq]at h;intro i hi;rw[h.2]at hi;omega
 |k+1,r,r',ts,h,hts=>by
  simp only[many]at h;split at h
  .cases h
  .rename_i t1 r1 h1;split at h
   .cases h
   .rename_i ts2 r2 h2;cases h;intro i hi;rcases Nat.lt_or_ge i (r.length - r1.length) with h3 | h3
    .exact hp _ _ _ h1 (hts _ (by simp)) i h3
    .obtain ⟨a,_,e⟩:=hs _ _ _ h1;have hl:=congrArg List.length e;simp at hl;obtain⟨t2,r2',h4⟩:=Zui hp hs h2 (fun t ht=>hts t (by simp[ht])) (i - a.length) (by omega);refine⟨t2,r2',?_⟩;rw[e,List.drop_append];have:List.drop i a=[]:=by rw[List.drop_eq_nil_iff];omega
     rw[this,List.nil_append];exact h4
theorem Ze2:∀ {d:Nat} {t r:List Nd} {tr:Tr},Zh d t=some (tr,r)->0 < Ye tr->∀i,i < t.length - r.length->∃t2 r2,Zh d (t.drop i)=some (t2,r2)/\0 < Ye t2
 | 0,t,r,tr,h,_=>by simp[Zh]at h
 |d+1,[],r,tr,h,_=>by simp[Zh]at h
 |d+1,n::t,r,tr,h,hp=>by
  intro i hi;cases i with
  |zero=>exact⟨_,_,h,hp⟩
  |succ i=>
   simp only[Zh]at h;split at h
   .split at h
    .cases h
    .rename_i ks r' h1;cases h;simp only[List.drop_succ_cons]
     obtain⟨t2,r2,h2,h3⟩:=Zui (fun _ _ _ hh hq=>Ze2 hh hq) (fun _ _ _ hh=>X5 hh) h1 (Zac hp).1 i (by
      simp only[List.length_cons]at hi;omega)
     exact⟨t2,r2,Zag h2,h3⟩
   .cases h
def partAt (D:Nat)(t:List Nd)(j:Nat):Int×Nat×Nat:=match Zh D (t.drop j) with
 |some (tr,r)=>(Ye tr,Xc tr,t.length - r.length)
 |none=>(0,0,0)
def tri:Nat->List (Tr×Nat)->List (Int×Nat×Nat)
 | _,[]=>[]
 |b,(tr,n)::ts=>(Ye tr,Xc tr,b+n)::tri (b+n) ts
theorem Zh6 {D:Nat}{t:List Nd}{ts:List (Tr×Nat)}:∀ {b:Nat},b<=t.length->Forest D (t.drop b) ts->(Xm b ts).map (partAt D t)=tri b ts/\∀k∈Xm b ts,b<=k/\k < t.length:=by
 induction ts with
 |nil=>intro b _ _;exact⟨rfl,by simp[Xm]⟩
 |cons x ts ih=>
  intro b hb f;obtain⟨tr,n⟩:=x;generalize hrr:t.drop b=rr at f;cases f with
  |cons h hn h0 f=>
   rename_i r';rw[<- hrr]at h hn;obtain⟨a,ha,e⟩:=X5 h;have hl:=congrArg List.length e;simp only[List.length_append,List.length_drop]at hl hn
   have e2:t.drop (b+n)=r':=by
    rw[<- List.drop_drop,e];have:n=a.length:=by omega
    rw[this,List.drop_left]
   rw[<- e2]at f;obtain⟨h1,h2⟩:=ih (b:=b+n) (by omega) f;refine⟨?_,fun k hk=>?_⟩
   .simp only [Xm,List.map_cons,h1,tri,List.cons.injEq,and_true];unfold partAt;rw[h];simp only[Prod.mk.injEq,true_and];omega
   .simp only [Xm,List.mem_cons]at hk;rcases hk with rfl | hk
    .omega
    .have:=h2 k hk;omega
theorem Zpj {D:Nat}{t:List Nd}{j n:Nat}{tr:Tr}{ts:List (Tr×Nat)}(f:Forest D (t.drop j) ((tr,n)::ts))(hj:j<=t.length):partAt D t j=(Ye tr,Xc tr,j+n):=by
 have:=(Zh6 hj f).1;simp only[Xm,List.map_cons,tri,List.cons.injEq]at this;exact this.1
theorem Forest.le {D:Nat}{r:List Nd}{ts:List (Tr×Nat)}(f:Forest D r ts):ts.length<=r.length:=by
 induction f with
 |nil=>simp
 |cons h hn h0 f ih=>simp;omega
theorem Zcq (b:Nat)(ts:List (Tr×Nat))(i:Nat)(h:i < ts.length):(Xm b ts)[i]?=some (b+Xr (ts.take i)):=by
 induction ts generalizing b i with
 |nil=>simp at h
 |cons x ts ih=>
  obtain⟨tr,n⟩:=x;cases i with
  |zero=>simp[Xm,Xr]
  |succ i=>
   simp only[List.length_cons]at h;simp only[Xm,List.getElem?_cons_succ,List.take_succ_cons,Xr];rw[ih (b+n) i (by omega),Nat.add_assoc]
theorem Zht {D:Nat}{t:List Nd}{t2:List (Tr×Nat)}:∀ {t1:List (Tr×Nat)} {b:Nat},b<=t.length->Forest D (t.drop b) (t1++t2)->∀i (h:i < t1.length),partAt D t (b+Xr (t1.take i))=(Ye t1[i].1,Xc t1[i].1,b+Xr (t1.take (i+1)))/\b+Xr (t1.take i) < t.length
 | [],b,hb,f,i,h=>by simp at h
 | (tr,n)::t1,b,hb,f,i,h=>by
   have hp:=Zpj f hb;have hlt:=(Zh6 hb f).2 b (by simp[Xm]);cases i with
   |zero=>simp[Xr,hp,hlt.2]
   |succ i=>
    simp only[List.length_cons]at h
    have hf:b+n<=t.length/\Forest D (t.drop (b+n)) (t1++t2):=by
     generalize hrr:t.drop b=rr at f;cases f with
     |cons h hn h0 f=>
      rename_i r';rw[<- hrr]at h hn;obtain⟨a,ha,e⟩:=X5 h;have hl:=congrArg List.length e;simp only[List.length_append,List.length_drop]at hl hn
      have e2:t.drop (b+n)=r':=by
       rw[<- List.drop_drop,e];have:n=a.length:=by omega
       rw[this,List.drop_left]
      rw[<- e2]at f;exact⟨by omega,f⟩
    have:=Zht hf.1 hf.2 i (by omega);simp only[List.take_succ_cons,Xr,List.getElem_cons_succ,<- Nat.add_assoc];exact this
theorem Zr1 (l:List Tr)(k:Tr):Xa (l++[k])=max (Xa l) (Xc k):=by
 induction l with
 |nil=>simp only[List.nil_append,Xa];omega
 |cons a l ih=>simp only[List.cons_append,Xa,ih];omega
theorem Xj {α:Type}(l:List α)(i:Nat)(h:i < l.length):l.take (i+1)=l.take i++[l[i]]:=by
 rw[List.take_add_one,List.getElem?_eq_getElem h];rfl
theorem Zab (ts:List (Tr×Nat)):Yu (ts.map (·.1))=ts.map fun x=>Ye x.1:=by
 induction ts with
 |nil=>rfl
 |cons x ts ih=>simp[Yu,ih]
theorem Zme {p:List Nd->Option (Tr×List Nd)}{d:Nat}(hp:∀r t r',p r=some (t,r')->Xc t<=d):∀ {k:Nat} {r r':List Nd} {ts:List Tr},many p k r=some (ts,r')->Xa ts<=d
 | 0,r,r',ts,h=>by
   simp only[many,Option.some.injEq,Prod.mk.injEq]at h;rw[<- h.1];simp[Xa]
 |k+1,r,r',ts,h=>by
  simp only[many]at h;split at h
  .cases h
  .rename_i t1 r1 h1;split at h
   .cases h
   .rename_i ts2 r2 h2;cases h;have h3:=hp _ _ _ h1;have h4:=Zme hp h2;simp only[Xa];omega
theorem R9:∀ {d:Nat} {t r:List Nd} {tr:Tr},Zh d t=some (tr,r)->Xc tr<=d
 | 0,t,r,tr,h=>by simp[Zh]at h
 |d+1,[],r,tr,h=>by simp[Zh]at h
 |d+1,n::t,r,tr,h=>by
  simp only[Zh]at h;split at h
  .split at h
   .cases h
   .rename_i ks r' h1;cases h;have:=Zme (fun _ _ _ hh=>R9 hh) h1;simp only[Xc];omega
  .cases h
theorem Forest.depth {D:Nat}{r:List Nd}{ts:List (Tr×Nat)}(f:Forest D r ts):∀x∈ts,Xc x.1<=D:=by
 induction f with
 |nil=>simp
 |cons h hn h0 f ih=>
  intro x hx;rcases List.mem_cons.1 hx with rfl | hx
  .exact R9 h
  .exact ih x hx
theorem Zyq {l:List Tr}{m:Nat}(h:∀x∈l,Xc x<=m):Xa l<=m:=by
 induction l with
 |nil=>simp[Xa]
 |cons a l ih=>
  have h1:=h a (by simp);have h2:=ih fun x hx=>h x (by simp[hx])
  simp only[Xa];omega
theorem Z5o {D:Nat}{r r':List Nd}{a:Tr}(h:Zh D r=some (a,r'))(h3:a.op=3)(hp:0 < Ye a):Vp (Ye a)=true:=by
 cases D with
 |zero=>simp[Zh]at h
 |succ d=>
  cases r with
  |nil=>simp[Zh]at h
  |cons n r=>
   rw[Zh]at h;split at h
   .rename_i hc;rw[Bool.and_eq_true]at hc;split at h
    .cases h
    .cases h;have X8:n.op=3:=h3;rw[(Zac hp).2];have hf:=hc.1;simp only[Wh,X8,if_true,Bool.and_eq_true,Bool.or_eq_true,beq_iff_eq]at hf;rcases hf.2 with⟨e,_⟩ | ⟨e,_⟩<;>simp[W2,X8,e,Vp]
   .cases h
theorem Z10 {D:Nat}{t:List Nd}{j:Nat}{n:Nd}{t1 t2:List (Tr×Nat)}(f:Forest D (t.drop (j+1)) (t1++t2))(h15:n.op=15)(hk:Y7 n.op n.kids=true)(hkl:n.kids=(t1.length:Int))(hp:0 < Ye (.mk n.op n.sort n.name n.num (t1.map (·.1)))):∃h:j+1 < t.length,t[j+1].op=3/\Vd (t1.map (·.1))=3/\Vp (atI (t1.map fun x=>Ye x.1) 0)=true:=by
 obtain⟨hpk,hs⟩:=Zac hp;rw[hs,h15]at hp
 have hf3:Vd (t1.map (·.1))=3:=by
  by_cases h:Vd (t1.map (·.1))=3
  .exact h
  .exfalso;simp[W2,h]at hp
 cases t1 with
 |nil=>simp[Vd]at hf3
 |cons x t1=>
  obtain⟨a,n1⟩:=x;generalize hrr:t.drop (j+1)=rr at f;cases f with
  |cons h hn h0 f=>
   rw[<- hrr]at h
   have hj:j+1 < t.length:=by
    rcases Nat.lt_or_ge (j+1) t.length with hh | hh
    .exact hh
    .rw [List.drop_eq_nil_iff.2 hh]at h;cases D<;>simp[Zh]at h
   rw[List.drop_eq_getElem_cons hj]at h;have X8:=Zp7 h;have h3:a.op=3:=hf3;refine⟨hj,by rw[<- X8];exact h3,hf3,?_⟩;exact Z5o h h3 (hpk a (by simp))
theorem Zjl {op s:Int}{nm nu:Yt}(h:Wh op s nm nu=true):1<=op/\op<=20:=by
 unfold Wh at h;split at h
 .omega
 .split at h
  .omega
  .split at h
   .omega
   .simp at h;omega
theorem Forest.whole {D:Nat}{r:List Nd}{ts:List (Tr×Nat)}{tr:Tr}(f:Forest D r ts)(h:Zh D r=some (tr,[])):ts=[(tr,r.length)]:=by
 cases f with
 |nil=>cases D<;>simp[Zh]at h
 |cons h1 hn h0 f=>
  rw[h]at h1;cases h1;cases f with
  |nil=>simp at hn;simp[hn]
  |cons h2=>
   obtain⟨a,ha,e⟩:=X5 h2;have:=congrArg List.length e;have:=List.length_pos_iff.2 ha;simp at *;omega
abbrev Zic (p:Int×Nat×Nat):PV:=.agg [.int .i64 p.1,.int .i64 p.2.1,.int .i64 p.2.2]
structure Good (t:List Nd):Prop where
 short:∀n∈t,n.Short
 sm:∀n∈t,n.Sm
structure LInv (t:List Nd)(b:Bool)(D:Nat)(H:PH)(v4 v16 v18 i:Nat)(ts:List (Tr×Nat))(w:PV)(ps:List (Int×Nat×Nat))(h:PH):Prop where
 f:Forest D (t.drop i) ts
 roots:Acc [137] ⟨H.next,H.next,[]⟩ h 3 w ((Xm i ts).reverse.map fun n:Nat=>PV.int .i64 (n:Int))
 row:h.get (H.next+16)=some (v16,.row 149 true (ps.map Zic))
 len:ps.length=t.length
 done:∀j,i<=j->j < t.length->ps[j]?=some (partAt D t j)
 view:h.get (H.next+18)=some (v18,.cells [L 58 b (t.map Yg),.own (H.next+16) v16 149 0 t.length])
 cell:h.get (H.next+4)=some (v4,.cells [.ptr (H.next+18) v18 0])
 next:H.next+142<=h.next
 old:∀j,j < H.next->h.get j=H.get j
structure ViewAt (t:List Nd)(b:Bool)(D p vp q vq:Nat)(ps:List (Int×Nat×Nat))(h:PH):Prop where
 view:h.get p=some (vp,.cells [L 58 b (t.map Yg),.own q vq 149 0 t.length])
 row:h.get q=some (vq,.row 149 true (ps.map Zic))
 len:ps.length=t.length
 done:∀j,j < t.length->ps[j]?=some (partAt D t j)
structure RInv (t:List Nd)(b:Bool)(H:PH)(v4 v16 v18 v7 v9 v10 c j:Nat)(cv nv:PO)(vc:Nat)(rt:Option (Nat×PO))(t1:List (Tr×Nat))(ps:List (Int×Nat×Nat))(i:Nat)(h:PH):Prop where
 cel:h.get c=some (vc,cv)
 root:h.get (H.next+137)=rt
 row:h.get (H.next+16)=some (v16,.row 149 true (ps.map Zic))
 view:h.get (H.next+18)=some (v18,.cells [L 58 b (t.map Yg),.own (H.next+16) v16 149 0 t.length])
 cell:h.get (H.next+4)=some (v4,.cells [.ptr (H.next+18) v18 0])
 nd:h.get (H.next+7)=some (v7,nv)
 pt:h.get (H.next+9)=some (v9,.cells [.int .i64 0,.int .i64 (Xa ((t1.take i).map (·.1))+1:Nat),.int .i64 (j+1+Xr (t1.take i):Nat)])
 so:∃ws,h.get (H.next+10)=some (v10,.cells [ws])/\Acc [77] ⟨H.next,H.next,[]⟩ h 3 ws ((t1.take i).map fun x=>PV.int .i64 (Ye x.1))
 old:∀k,k < H.next->h.get k=H.get k
theorem RInv.put {t:List Nd}{b:Bool}{H:PH}{v4 v16 v18 v7 v9 v10 c j:Nat}{cv nv:PO}{vc:Nat}{rt:Option (Nat×PO)}{t1:List (Tr×Nat)}{ps:List (Int×Nat×Nat)}{i:Nat}{h:PH}(R:RInv t b H v4 v16 v18 v7 v9 v10 c j cv nv vc rt t1 ps i h){l Zc:Nat}{x:PO}(hl:H.next+142<=l)(hc:c≠l):RInv t b H v4 v16 v18 v7 v9 v10 c j cv nv vc rt t1 ps i (h.put l Zc x):=by
 have e:∀k,k≠l->(h.put l Zc x).get k=h.get k:=fun k hk=>by simp[hk]
 refine⟨by rw[e _ hc];exact R.cel,by rw[e _ (by omega)];exact R.root,by rw[e _ (by omega)];exact R.row,by rw[e _ (by omega)];exact R.view,by rw[e _ (by omega)];exact R.cell,by rw[e _ (by omega)];exact R.nd,by rw[e _ (by omega)];exact R.pt,?_,fun k hk=>by rw[e _ (by omega)];exact R.old k hk⟩;obtain⟨ws,h1,h2⟩:=R.so;exact⟨ws,by rw[e _ (by omega)];exact h1,h2.frame fun d hd=>by simp only[List.mem_singleton]at hd;subst hd;exact e _ (by show H.next+77≠l;omega)⟩
theorem RInv.nx {t:List Nd}{b:Bool}{H:PH}{v4 v16 v18 v7 v9 v10 c j:Nat}{cv nv:PO}{vc:Nat}{rt:Option (Nat×PO)}{t1:List (Tr×Nat)}{ps:List (Int×Nat×Nat)}{i:Nat}{h:PH}(R:RInv t b H v4 v16 v18 v7 v9 v10 c j cv nv vc rt t1 ps i h)(m:Nat):RInv t b H v4 v16 v18 v7 v9 v10 c j cv nv vc rt t1 ps i {h with next:=m}:=
 ⟨R.cel,R.root,R.row,R.view,R.cell,R.nd,R.pt,R.so,R.old⟩
theorem RInv.step {t:List Nd}{b:Bool}{H:PH}{v4 v16 v18 v7 v9 v10 c j:Nat}{cv nv:PO}{vc:Nat}{rt:Option (Nat×PO)}{t1:List (Tr×Nat)}{ps:List (Int×Nat×Nat)}{i:Nat}{h' h1:PH}(R:RInv t b H v4 v16 v18 v7 v9 v10 c j cv nv vc rt t1 ps i h')(hi:i < t1.length)(hc:H.next+142<=c)(gg:∀k,k≠H.next+77->h1.get k=h'.get k){Zta:Nat}{st:Int}
  (hA:Acc [77] ⟨H.next,H.next,[]⟩ h1 3 (.own (H.next+77) Zta 3 0 (i+1)) ((t1.take i).map (fun x=>PV.int .i64 (Ye x.1))++[.int .i64 st])) {X:PO} {m e:Int} (X3:Ye t1[i].1=st) (hm:m=(Xa ((t1.take (i+1)).map (·.1))+1:Nat)) (he:e=(j+1+Xr (t1.take (i+1)):Nat)):
  RInv t b H v4 v16 v18 v7 v9 v10 c j cv nv vc rt t1 ps (i+1) (((h1.put (H.next+10) v10 (.cells [.own (H.next+77) Zta 3 0 (i+1)])).put (H.next+9) v9 X).put (H.next+9) v9 (.cells [.int .i64 0,.int .i64 m,.int .i64 e])):=by
 have hN:∀k,k≠H.next+77->k≠H.next+9->k≠H.next+10->(((h1.put (H.next+10) v10 (.cells [.own (H.next+77) Zta 3 0 (i+1)])).put (H.next+9) v9 X).put (H.next+9) v9 (.cells [.int .i64 0,.int .i64 m,.int .i64 e])).get k=h'.get k:=fun k a b c=>by
  simp[a,b,c,gg k a]
 refine⟨(hN _ (by omega) (by omega) (by omega)).trans R.cel,(hN _ (by omega) (by omega) (by omega)).trans R.root,(hN _ (by omega) (by omega) (by omega)).trans R.row,(hN _ (by omega) (by omega) (by omega)).trans R.view,(hN _ (by omega) (by omega) (by omega)).trans R.cell,(hN _ (by omega) (by omega) (by omega)).trans R.nd,by simp[hm,he],⟨.own (H.next+77) Zta 3 0 (i+1),by simp,?_⟩,fun k hk=>(hN _ (by omega) (by omega) (by omega)).trans (R.old k hk)⟩;rw[Xj t1 i hi,List.map_append,List.map_cons,List.map_nil,X3]
 exact hA.frame fun d hd=>by
  simp only[List.mem_singleton]at hd;subst hd;simp
theorem LInv.step {t:List Nd}{b:Bool}{D:Nat}{H:PH}{v4 v16 v18 v7 v9 v10 c j:Nat}{cv nv:PO}{vc:Nat}{rt:Option (Nat×PO)}{t1 t2:List (Tr×Nat)}{w:PV}{ps:List (Int×Nat×Nat)}{h h':PH}{trj:Tr}(I:LInv t b D H v4 v16 v18 (j+1) (t1++t2) w ps h)(R:RInv t b H v4 v16 v18 v7 v9 v10 c j cv nv vc rt t1 ps t1.length h')(hj:j < t.length)(hF:Forest D (t.drop j) ((trj,1+Xr t1)::t2)){xs:List PV}(hxs:(Xm (j+1) (t1++t2)).reverse.map (fun n:Nat=>PV.int .i64 (n:Int))=xs)(To:H.next+142<=h'.next){S:Int}{DD EE vv:Nat}{X:PO}(hS:Ye trj=S)(hD:Xc trj=DD+1)(hE:j+1+Xr t1=EE):
  LInv t b D H v4 v16 v18 j ((trj,1+Xr t1)::t2) (.own (H.next+137) vv 3 0 (t2.length+1)) (ps.set j (S,DD+1,EE)) (((h'.put (H.next+9) v9 X).put (H.next+16) v16 (.row 149 true ((ps.map Zic).set j (.agg [.int .i64 S,.int .i64 ((DD:Int)+1),.int .i64 EE])))).put (H.next+137) vv (.row 3 true (xs.take t2.length++[.int .i64 j]))):=by
 have hN:∀k,k≠H.next+9->k≠H.next+16->k≠H.next+137->(((h'.put (H.next+9) v9 X).put (H.next+16) v16 (.row 149 true ((ps.map Zic).set j (.agg [.int .i64 S,.int .i64 ((DD:Int)+1),.int .i64 EE])))).put (H.next+137) vv (.row 3 true (xs.take t2.length++[.int .i64 j]))).get k=h'.get k:=fun k a b c=>by simp[a,b,c]
 have hxt:xs.take t2.length++[PV.int .i64 j]=(Xm j ((trj,1+Xr t1)::t2)).reverse.map (fun n:Nat=>PV.int .i64 (n:Int)):=by
  rw[<- hxs,Zfr,List.reverse_append,List.map_append,List.take_left' (by simp[Wn])];simp only[Xm,List.reverse_cons,List.map_append,List.map_cons,List.map_nil,Nat.add_assoc]
 have hjp:j < ps.length:=by rw[I.len];exact hj
 refine⟨hF,Or.inr ⟨137,vv,by simp[Xm],by simp,by simp[Xm,Wn],by rw[<- hxt];simp⟩,?_,by simp[I.len],fun k hk hkl=>?_,(hN _ (by omega) (by omega) (by omega)).trans R.view,(hN _ (by omega) (by omega) (by omega)).trans R.cell,by simpa using To,fun k hk=>(hN _ (by omega) (by omega) (by omega)).trans (R.old k hk)⟩
 .have e:Zic (S,DD+1,EE)=.agg [.int .i64 S,.int .i64 ((DD:Int)+1),.int .i64 EE]:=by
   show PV.agg _=PV.agg _;simp
  simp[List.map_set,e]
 .rcases Nat.eq_or_lt_of_le hk with rfl | hlt
  .rw [List.getElem?_set_self hjp,Zpj hF (by omega),hS,hD];simp only[Option.some.injEq,Prod.mk.injEq,true_and];omega
  .rw [List.getElem?_set_ne (by omega)];exact I.done k (by omega) hkl
set_option maxHeartbeats 8000000 in
theorem Z5u (t:List Nd)(d:Nat)(hd40:d < 2^40)(tr:Tr)(hp:Zh (d+1) t=some (tr,[]))(Si:0 < Ye tr)(hg:Good t)(hl:t.length<=20000)(b:Bool)(K:Pure.Loc)(H:PH):∃v16 v18 ps h',Yx vE K 135 [L 58 b (t.map Yg)] H=some (.tuple [.ptr (H.next+18) v18 0,.bool true],h')/\ViewAt t b (d+1) (H.next+18) v18 (H.next+16) v16 ps h'/\H.next+142<=h'.next/\∀j,j < H.next->h'.get j=H.get j:=by
 have hl':t.length<=Virt.maxLenV:=by rw[Rm];omega
 have hl2:((t.length:Int)).toNat=t.length:=by omega
 obtain⟨v,h',h1,v16,v18,ps,rfl,h2⟩:=Zgy (C:=vE) (K:=K) (f:=135) (args:=[L 58 b (t.map Yg)]) (h:=H) (ok:=[]) (fn:=Tryz.f135) (R:=fun v h'=>∃v16 v18 ps,v=.tuple [.ptr (H.next+18) v18 0,.bool true]/\ViewAt t b (d+1) (H.next+18) v18 (H.next+16) v16 ps h'/\H.next+142<=h'.next/\∀j,j < H.next->h'.get j=H.get j) Tryz.func135 rfl rfl rfl (by simp) (by simp[reach]) (by simp) (by
  (refine Zm ?_;repeat'(first|(refine Zi fun _=>?_;try simp(disch:=first|exact Zq|fail)[*,Zz,Tryz.f135])|refine Yb ?_|refine Yc ?_|refine Yd ?_|refine Zt ?_|refine Zf ?_|refine Zb ?_ ?_))
  generalize hv4:H.stamp (H.next+4)=v4;generalize hv16:H.stamp (H.next+16)=v16;generalize hv18:H.stamp (H.next+18)=v18;refine Zn [0,4] (fun m sl h=>∃(i:Nat) (ts:List (Tr×Nat)) (w:PV) (ps:List (Int×Nat×Nat)),m=i/\i<=t.length/\sl 6=some (.int .i64 ((i:Int) - 1))/\sl 5=some w/\LInv t b (d+1) H v4 v16 v18 i ts w ps h) t.length rfl ⟨t.length,[],.nils,List.replicate t.length (0,0,0),rfl,Nat.le_refl _,by simp,by simp,⟨by simp;exact .nil,Acc.nil,by simp[*],by simp,fun j h1 h2=>by omega,by simp[*],by simp[*],by simp,fun j hj=>by simp[show j≠H.next+4 by omega,show j≠H.next+16 by omega,show j≠H.next+18 by omega]⟩⟩ ?_;rintro m sl h hf ⟨i,ts,w,ps,hm,hi,h6,h5,I⟩;simp at hf;have Uc:=I.row;have Zafe:=I.view;have Zj8:=I.cell;have Zaoy:ps.length=t.length:=I.len;by_cases hlt:0 < i
  .obtain ⟨j,rfl⟩:∃j,i=j+1:=⟨i - 1,by omega⟩
   have hjl:j < t.length:=by omega
   have e0:((j:Int)+1 - 1)=j:=by omega
   obtain⟨trj,rj,hpj,Zafm⟩:=Ze2 hp Si j (by simpa using hjl);rw[List.drop_eq_getElem_cons hjl]at hpj;obtain⟨t1,t2,hts,htr,hk,hF,Ul,har,hrl⟩:=Zej hpj I.f;have h159:=Zad3 t[j] (hg.short _ (List.getElem_mem hjl)) Ul (hg.sm _ (List.getElem_mem hjl));have h160:=Zad2 t[j].op t[j].kids (by omega);rw[har]at h160;have htl:=I.f.le;rw[hts,List.length_append,List.length_drop]at htl;have hxl:((Xm (j+1) ts).reverse.map fun n:Nat=>PV.int .i64 (n:Int)).length=t1.length+t2.length:=by rw[List.length_map,List.length_reverse,Wn,hts,List.length_append]
   generalize htj:t[j]=n at *;obtain⟨op,sort,name,num,kids⟩:=n;simp only at hk;subst hk;have Zah4:=I.roots;generalize hxs:(Xm (j+1) ts).reverse.map (fun n:Nat=>PV.int .i64 (n:Int))=xs at *;rcases Zah4 with⟨Zgl,rfl⟩ | ⟨dd,Zc,Yq,hdd,rfl,hgr⟩
   .have ht0:t1=[]/\t2=[]:=by
     rw[Zgl,List.length_nil]at hxl;exact⟨List.length_eq_zero_iff.1 (by omega),List.length_eq_zero_iff.1 (by omega)⟩
    obtain⟨rfl,rfl⟩:=ht0;have h161:=fun K h=>Zvz .nils rfl rfl K h
    have hnn:∀d,d < 142->(h.next=H.next+d)=False:=fun d hd=>by have:=I.next;simp;omega
    have Zgk:∀d,d < 142->(H.next+d=h.next)=False:=fun d hd=>by have:=I.next;simp;omega
    have To:=I.next;have hold:=Hide.mk I.old;simp only[List.length_nil,Int.natCast_zero,Int.ofNat_zero,Int.cast_ofNat_Int]at *
    (refine Zm ?_;repeat'(first|(refine Zi fun _=>?_;try simp(disch:=first|exact Zq|fail)[*,Zz])|refine Yb ?_|refine Yc ?_|refine Yd ?_|refine Zt ?_|refine Zf ?_|refine Zb ?_ ?_))
    generalize hv7:h.stamp (H.next+7)=v7;generalize hv9:h.stamp (H.next+9)=v9;generalize hv10:h.stamp (H.next+10)=v10;generalize hvc:h.stamp (h.next+1)=vc;refine Zs8 (c:=h.next+1) (cver:=vc) (by simp) (by simp) (by simp) ?_;intro h' hg' Q0
    have R:RInv t b H v4 v16 v18 v7 v9 v10 (h.next+1) j (.cells [.nils]) (.cells [.int .i64 op,.int .i64 sort,.str name,.str num,.int .i64 0]) vc (h.get (H.next+137)) [] ps 0 h':=by
     simp only at hg';refine⟨by rw[hg' _ (by omega)];simp,by rw[hg' _ (by omega)];simp[Zgk],by rw[hg' _ (by omega)];simp[Zgk,Uc],by rw[hg' _ (by omega)];simp[Zgk,Zafe],by rw[hg' _ (by omega)];simp[Zgk,Zj8],by rw[hg' _ (by omega)];simp[Zgk],by rw[hg' _ (by omega)];simp[Zgk,Xa,Xr],⟨.nils,by rw[hg' _ (by omega)];simp[Zgk],Acc.nil⟩,fun k hk=>?_⟩;rw[hg' _ (by omega)];have e:∀d,k≠H.next+d:=fun d=>by omega
     simp[e,show k≠h.next+1 by omega,I.old k hk]
    have r1:=R.cell;have r2:=R.view;have r3:=R.row;have r4:=R.pt;have r7:=R.nd;obtain⟨ws,r5,r6⟩:=R.so;simp only[List.take_nil,List.map_nil]at r4 r6
    obtain rfl:ws=.nils:=by
     rcases r6 with⟨_,e⟩ | ⟨_,_,hh,_⟩
     .exact e
     .exact absurd rfl hh
    have Zja:0 < Ye trj:=Zafm;rw[htr]at Zja;obtain⟨hsp,hse⟩:=Zac Zja;have h15:op≠15:=fun e=>by rw[e]at har;simp[Y7]at har
    have Wr:W2 op sort 3 []=Ye trj:=by
     rw[htr,hse];simp only[List.map_nil,Yu,W2,h15,if_false]
    have h162:=Z01 ⟨op,sort,name,num,0⟩ [] (by simp) (by simp) (by simpa using har) (Zjl Ul).1 (Zjl Ul).2 (fun e=>absurd e h15);simp only[Wr,List.map_nil,Wi]at h162;generalize hS:Ye trj=S at *;have hS0:(S==0)=false:=by rw[beq_eq_false_iff_ne];omega
    have hjps:j < ps.length:=by omega
    have hDT:Xc trj=0+1:=by rw[htr,Xc];simp[Xa]
    have hnxh:H.next+142<=h'.next:=by simp at Q0;omega
    have hF2:Forest (d+1) (t.drop j) ((trj,1+Xr [])::[]):=by
     rw[List.drop_eq_getElem_cons hjl,htj];exact hF
    have Rx:Xr []=0:=rfl;have hdz:Xa []=0:=rfl;simp only[Rx,hdz]at r4;have hEE:j+1+Xr []=j+1:=rfl;clear Wr
    (refine Zm ?_;repeat'(first|(refine Zi fun _=>?_;try simp(disch:=first|exact Zq|fail)[*,Zz])|refine Yb ?_|refine Yc ?_|refine Yd ?_|refine Zt ?_|refine Zf ?_|refine Zb ?_ ?_))
    refine⟨j,by omega,by omega,rfl,[(trj,1+Xr [])],ps.set j (S,0+1,j+1),?_⟩;have h9:=LInv.step (S:=S) (DD:=0) (EE:=j+1) (vv:=h'.stamp (H.next+137)) (X:=.cells [.int .i64 S,.int .i64 1,.int .i64 ((j:Int)+1)]) (hts ▸ I) R hjl hF2 (xs:=[]) rfl hnxh hS hDT rfl;simp only[List.length_nil,List.take_nil,Nat.zero_add,List.nil_append,Int.natCast_zero,Int.natCast_add,Int.natCast_one,Int.zero_add,Int.cast_ofNat_Int]at h9 ⊢;exact h9
   .simp only [List.mem_singleton]at hdd;subst hdd;rw[hxl]at h5;have Zhy:t1.length+t2.length - t2.length=t1.length:=by omega
    have h161:=fun K h=>Zvz (.own (H.next+137) Zc 3 t2.length t1.length) rfl rfl K h
    have hnn:∀d,d < 142->(h.next=H.next+d)=False:=fun d hd=>by have:=I.next;simp;omega
    have Zgk:∀d,d < 142->(H.next+d=h.next)=False:=fun d hd=>by have:=I.next;simp;omega
    have To:=I.next;have hold:=Hide.mk I.old
    (refine Zm ?_;repeat'(first|(refine Zi fun _=>?_;try simp(disch:=first|exact Zq|fail)[*,Zz])|refine Yb ?_|refine Yc ?_|refine Yd ?_|refine Zt ?_|refine Zf ?_|refine Zb ?_ ?_))
    generalize hv7:h.stamp (H.next+7)=v7;generalize hv9:h.stamp (H.next+9)=v9;generalize hv10:h.stamp (H.next+10)=v10;generalize hvc:h.stamp (h.next+1)=vc;refine Zaau (c:=h.next+1) (cver:=vc) (o:=H.next+137) (over:=Zc) (off:=t2.length) (n:=t1.length) (ys:=xs) (w:=fun k=>.int .i64 (((Xm (j+1) t1).getD (t1.length - 1 - k) 0:Nat):Int)) (RInv t b H v4 v16 v18 v7 v9 v10 (h.next+1) j (.cells [.own (H.next+137) Zc 3 t2.length t1.length]) (.cells [.int .i64 op,.int .i64 sort,.str name,.str num,.int .i64 t1.length]) vc (some (Zc,.row 3 true xs)) t1 ps) (by simp) (by simp;omega) (fun i h' x R=>R.put (by simp;omega) (by simp)) (fun i h' m R=>R.nx m) (fun i h' R=>R.cel) (fun i h' R=>R.root) ?_ (fun k=>⟨_,rfl⟩) (by omega) (by omega) ?_ ?_ ?_
    .intro k hk;rw[<- hxs,hts,Zfr,List.reverse_append,List.map_append,List.getElem?_append_right (by simp[Wn])];simp only[List.length_map,List.length_reverse,Wn,Nat.add_sub_cancel_left];rw[List.getElem?_map,List.getElem?_reverse (by simpa[Wn]using hk),Wn];have hg:=Zcq (j+1) t1 (t1.length - 1 - k) (by omega);rw[hg,List.getD_eq_getElem?_getD,hg];rfl
    .refine ⟨by simp,by simp[Zgk,hgr],by simp[Zgk,Uc],by simp[Zgk,Zafe],by simp[Zgk,Zj8],by simp[Zgk],by simp[Zgk,Xa,Xr],⟨.nils,by simp[Zgk],Acc.nil⟩,fun k hk=>?_⟩;have e:∀d,k≠H.next+d:=fun d=>by omega
     simp[e,show k≠h.next+1 by omega,I.old k hk]
    .intro i hi' h' R Q0 hL;have hkp:=Zht (t1:=t1) (t2:=t2) (b:=j+1) (by omega) (hts ▸ I.f) i hi';have hps:=I.done (j+1+Xr (t1.take i)) (by omega) hkp.2;rw[hkp.1]at hps;have hsg:=Zcq (j+1) t1 i hi'
     have hwi:((Xm (j+1) t1).getD (t1.length - 1 - (t1.length - 1 - i)) 0)=j+1+Xr (t1.take i):=by
      rw[show t1.length - 1 - (t1.length - 1 - i)=i by omega,List.getD_eq_getElem?_getD,hsg];rfl
     rw[hwi];have hkl:=hkp.2;obtain⟨hpl2,hpv⟩:=List.getElem?_eq_some_iff.1 hps;have r1:=R.cell;have r2:=R.view;have r3:=R.row;have r4:=R.pt;obtain⟨ws,r5,r6⟩:=R.so;have hfd:=(hts ▸ I.f:Forest (d+1) (t.drop (j+1)) (t1++t2)).depth
     have hdb:Xa ((t1.take i).map (·.1))<=d+1:=Zyq fun x hx=>by
      obtain⟨y,hy,rfl⟩:=List.mem_map.1 hx;exact hfd y (List.mem_append_left _ (List.take_subset _ _ hy))
     have hdb2:Xc t1[i].1<=d+1:=hfd _ (List.mem_append_left _ (List.getElem_mem hi'));have Rn:=Xj t1 i hi'
     have hdn:Xa ((t1.take (i+1)).map (·.1))=max (Xa ((t1.take i).map (·.1))) (Xc t1[i].1):=by
      rw[Rn,List.map_append,List.map_cons,List.map_nil,Zr1]
     generalize hkk:j+1+Xr (t1.take i)=kk at *;generalize hee:j+1+Xr (t1.take (i+1))=ee at *;generalize hdd:Xa ((t1.take i).map (·.1))=dd at *;generalize hdt:Xc t1[i].1=dt at *;generalize X3:Ye t1[i].1=st at *;obtain⟨w',h1,Sf,Xv,hnx1,hgt⟩:=r6.app (dd:=77) (ys:=[PV.int .i64 st]) (T:={k:=.int .i64,size:=1,bytes:=8,zero:=[.int .i64 0]}) (by simp) rfl (by simp only[List.length_map,List.length_take,List.length_cons,List.length_nil];omega) (by decide) (by decide) (by simp);simp only[List.length_cons,List.length_nil]at Sf;have gg:∀k,k≠H.next+77->h1.get k=h'.get k:=fun k hk=>hgt k (by intro d hd;simp at hd;subst hd;exact hk)
     have g4:=(gg (H.next+4) (by omega)).trans r1;have g9:=(gg (H.next+9) (by omega)).trans r4;have g10:=(gg (H.next+10) (by omega)).trans r5;have g16:=(gg (H.next+16) (by omega)).trans r3;have g18:=(gg (H.next+18) (by omega)).trans r2;obtain⟨d77,Zta,hd77,rfl,hg77⟩:=Xv.own (by simp);simp only[List.mem_singleton]at hd77;subst hd77;simp only[List.length_append,List.length_map,List.length_take,List.length_cons,List.length_nil]at Sf;have hmn:min i t1.length=i:=by omega
     rw[hmn]at Sf;have hsam:=r6.same (n:=3);have hplq:ps.length=t.length:=Zaoy;have Zpz:((t1.take i).map (fun x=>PV.int .i64 (Ye x.1))++[PV.int .i64 st]).length=i+1:=by simp;omega
     rw[Zpz]at Xv;replace gg:=Hide.mk gg;replace hdn:=Hide.mk hdn;replace Rn:=Hide.mk Rn;replace Xv:=Hide.mk Xv;replace hkp:=Hide.mk hkp;replace hkk:=Hide.mk hkk;replace hee:=Hide.mk hee;clear h5 h6 hgt hfd hsg hwi hps r6;have hmxi:(if (dd:Int) < dt then (dt:Int)+1 else (dd:Int)+1)=((max dd dt+1:Nat):Int):=by split<;>omega
     (refine Zm ?_;repeat'(first|(refine Zi fun _=>?_;try simp(disch:=first|exact Zq|fail)[*,Zz,Zdy])|refine Yb ?_|refine Yc ?_|refine Yd ?_|refine Zt ?_|refine Zf ?_|refine Zb ?_ ?_))
     refine⟨RInv.step R hi' (by omega) gg.get Xv.get X3 (by rw[hdn.get];split<;>omega) (by rw[hee.get]),?_⟩;rw[gg.get _ (by omega)];exact hL
    .intro h' R Q0;have r1:=R.cell;have r2:=R.view;have r3:=R.row;have r4:=R.pt;have r7:=R.nd;have r8:=R.root;obtain⟨ws,r5,r6⟩:=R.so;rw[List.take_length]at r4 r6;have e6:(t1.map fun x=>PV.int .i64 (Ye x.1))=(t1.map fun x=>Ye x.1).map (PV.int .i64):=by rw[List.map_map];rfl
     rw[e6]at r6;have Zja:0 < Ye trj:=Zafm;rw[htr]at Zja;obtain⟨hsp,hse⟩:=Zac Zja;have h15:op=15->∃hh:j+1 < t.length,t[j+1].op=3/\Vd (t1.map (·.1))=3/\Vp (atI (t1.map fun x=>Ye x.1) 0)=true:=fun e=>Z10 (hts ▸ I.f) (n:=⟨op,sort,name,num,t1.length⟩) e har rfl Zja
     have Wr:W2 op sort 3 (t1.map fun x=>Ye x.1)=Ye trj:=by
      rw[htr,hse,Zab];by_cases e:op=15
      .rw [(h15 e).choose_spec.2.1]
      .simp only [W2,e,if_false]
     have X8:1<=op/\op<=20:=Zjl Ul
     have h162:=Z01 ⟨op,sort,name,num,t1.length⟩ (t1.map fun x=>Ye x.1) (by simp;omega) (fun x hx=>by
      obtain⟨y,hy,rfl⟩:=List.mem_map.1 hx;exact hsp _ (List.mem_map.2 ⟨y,hy,rfl⟩)) (by simpa using har) X8.1 X8.2 (fun e=>(h15 e).choose_spec.2.2)
     simp only[Wr]at h162;have Zap2:=r6.call (C:=vE) (f:=162) rfl rfl [Yg ⟨op,sort,name,num,t1.length⟩] [] h162 rfl rfl rfl;simp only[List.singleton_append]at Zap2;generalize hS:Ye trj=S at *;generalize hDD:Xa (t1.map (·.1))=DD at *;generalize hEE:j+1+Xr t1=EE at *;have hS0:(S==0)=false:=by rw[beq_eq_false_iff_ne];omega
     have hjps:j < ps.length:=by omega
     have Vj:IntKind.i64.wrap (t2.length:Int)=t2.length:=Zs4 (by omega) (by omega);have hd16:∀k,k≠16->(H.next+k=H.next+16)=False:=fun k hk=>by simp;omega
     have hDT:Xc trj=DD+1:=by rw[htr,Xc,hDD]
     have hnxh:H.next+142<=h'.next:=by simp at Q0;omega
     have hF2:Forest (d+1) (t.drop j) ((trj,1+Xr t1)::t2):=by
      rw[List.drop_eq_getElem_cons hjl,htj];exact hF
     by_cases e15:op=15
     .obtain ⟨hj1,hop1,_,_⟩:=h15 e15;subst e15;generalize ht1:t[j+1]=n1 at *;obtain⟨o1,s1,nm1,nu1,k1⟩:=n1;simp only at hop1;subst hop1;clear h15 Wr
      (refine Zm ?_;repeat'(first|(refine Zi fun _=>?_;try simp(disch:=first|exact Zq|fail)[*,Zz])|refine Yb ?_|refine Yc ?_|refine Yd ?_|refine Zt ?_|refine Zf ?_|refine Zb ?_ ?_))
      exact⟨j,by omega,by omega,rfl,_,_,LInv.step (hts ▸ I) R hjl hF2 (by rw[<- hts];exact hxs) hnxh hS hDT hEE⟩
     .clear h15 Wr
      (refine Zm ?_;repeat'(first|(refine Zi fun _=>?_;try simp(disch:=first|exact Zq|fail)[*,Zz])|refine Yb ?_|refine Yc ?_|refine Yd ?_|refine Zt ?_|refine Zf ?_|refine Zb ?_ ?_))
      exact⟨j,by omega,by omega,rfl,_,_,LInv.step (hts ▸ I) R hjl hF2 (by rw[<- hts];exact hxs) hnxh hS hDT hEE⟩
  .have hi0:i=0:=by omega
   subst hi0;have hw:=I.f.whole (by rw[List.drop_zero];exact hp);have hlen:=I.roots.lenK (e:=3);rw[hw]at hlen;simp only[Xm,List.reverse_cons,List.reverse_nil,List.nil_append,List.map_cons,List.map_nil,List.length_cons,List.length_nil]at hlen;have To:=I.next;have hv:ViewAt t b (d+1) (H.next+18) v18 (H.next+16) v16 ps h:=⟨I.view,I.row,I.len,fun j hj=>I.done j (by omega) hj⟩
   have hold:=I.old;replace hv:=Hide.mk hv;replace hold:=Hide.mk hold;clear I hw hp
   (refine Zm ?_;repeat'(first|(refine Zi fun _=>?_;try simp(disch:=first|exact Zq|fail)[*,Zz])|refine Yb ?_|refine Yc ?_|refine Yd ?_|refine Zt ?_|refine Zf ?_|refine Zb ?_ ?_))
   exact⟨by rw[<- Bool.not_eq_true,Nat.blt_eq];omega,⟨_,_,hv.get⟩,hold.get⟩)
 exact⟨v16,v18,ps,h',h1,h2⟩
theorem Z0i {d:Nat}{t:List Nd}{tr:Tr}(hp:Zh (d+1) t=some (tr,[]))(Si:0 < Ye tr):∀k i,i+k=t.length->∃ts,Forest (d+1) (t.drop i) ts
 | 0,i,h=>⟨[],by rw[List.drop_eq_nil_iff.2 (by omega)];exact .nil⟩
 |k+1,i,h=>by
  obtain⟨ts,f⟩:=Z0i hp Si k (i+1) (by omega);obtain⟨tri,ri,hpi,_⟩:=Ze2 hp Si i (by simp;omega);rw[List.drop_eq_getElem_cons (by omega:i < t.length)]at hpi ⊢;obtain⟨t1,t2,hts,htr,hk,hF,_⟩:=Zej hpi f;exact⟨_,hF⟩
theorem Zkd {D:Nat}{t2:List (Tr×Nat)}:∀ {t1:List (Tr×Nat)} {r:List Nd},Forest D r (t1++t2)->many (Zh D) t1.length r=some (t1.map (·.1),r.drop (Xr t1))
 | [],r,f=>by simp[many,Xr]
 | (a,n)::t1,r,f=>by
   cases f with
   |cons h hn h0 f=>
    obtain⟨z,hz,e⟩:=X5 h;have hl:=congrArg List.length e;simp only[List.length_append]at hl;have h2:=Zkd f;simp only[List.length_cons,many,h,h2,List.map_cons,Xr];rw[e,<- List.drop_drop];have:n=z.length:=by omega
    rw[this,List.drop_left]
theorem Zi2 {d:Nat}{t:List Nd}{tr:Tr}(hp:Zh (d+1) t=some (tr,[]))(Si:0 < Ye tr){i:Nat}(hi:i < t.length):∃t1 t2,Forest (d+1) (t.drop (i+1)) (t1++t2)/\t[i].kids=(t1.length:Int)/\many (Zh (d+1)) t1.length (t.drop (i+1))=some (t1.map (·.1),(t.drop (i+1)).drop (Xr t1)):=by
 obtain⟨ts,f⟩:=Z0i hp Si (t.length - (i+1)) (i+1) (by omega);obtain⟨tri,ri,hpi,_⟩:=Ze2 hp Si i (by simp;omega);rw[List.drop_eq_getElem_cons hi]at hpi;obtain⟨t1,t2,rfl,htr,hk,hF,_⟩:=Zej hpi f;refine⟨t1,t2,f,hk,?_⟩;exact Zkd f
theorem Zcs {h:PH}{p q vp vq:Nat}{b:Bool}{xs:List PV}{off n:Nat}{ys:List PV}(h1:h.get p=some (vp,.cells [L 58 b xs,.own q vq 149 off n]))(h2:h.get q=some (vq,.row 149 true ys)):reach h 4 [p]=[p,q]:=by
 simp[reach,h1,h2,refsO]
theorem Zg0 {K:Pure.Loc}{H:PH}{p q:Nat}{x y:Nat×PO}(hp:can K p=true)(hq:can K q=true)(h1:H.get p=some x)(h2:H.get q=some y):[p,q].all (fun i=>can K i&&(H.get i).isSome)=true:=by
 simp only[List.all_cons,List.all_nil,hp,hq,h1,h2,Option.isSome_some,Bool.and_self]
theorem Z8u {t:List Nd}{b:Bool}{d p vp q vq:Nat}{ps:List (Int×Nat×Nat)}{h:PH}(V:ViewAt t b (d+1) p vp q vq ps h)(hl:t.length<=20000){i:Nat}(hi:i < t.length){t1 t2:List (Tr×Nat)}(f:Forest (d+1) (t.drop (i+1)) (t1++t2))(hk:t[i].kids=(t1.length:Int))(K:Pure.Loc)(hcp:can K p=true)(hcq:can K q=true)(hp:p < h.next)(hq:q < h.next):Yx vE K 163 [.ptr p vp 0,.int .i64 i] h=some (L 3 true ((Xm (i+1) t1).map fun n:Nat=>PV.int .i64 (n:Int)),h):=by
 have hv:=V.view;have hr:=V.row;refine W8 (ok:=[p,q]) (fn:=Tryz.f163) Tryz.func163 rfl rfl rfl (by simp) (by simpa using Zcs hv hr) (Zg0 hcp hcq hv hr) (by simp[hp,hq]) (by simp[PH.belowAt,hv,hr,Zu,hq]) ?_ (by simp);have Wv:=Yl hp;have hqd:=Yl hq;generalize hti:t[i]=n at *;obtain⟨op,sort,name,num,kids⟩:=n;simp only at hk;subst hk;have htl:=f.le;rw[List.length_append,List.length_drop]at htl;have hlen:=V.len;have Zaq:=V.done;have hsl:(Xm (i+1) t1).length=t1.length:=Wn _ _
 (refine Zm ?_;repeat'(first|(refine Zi fun _=>?_;try simp(disch:=first|exact Zw|fail)[*,Yi,Tryz.f163,Ze hp,Ze hq])|refine Zt ?_|refine Zf ?_|refine Zb ?_ ?_))
 refine Zn [0,16] (fun n sl h'=>∃(m:Nat) (w:PV),n=t1.length - m/\m<=t1.length/\sl 17=some (.int .i64 m)/\sl 6=some (.int .i64 ((i+1+Xr (t1.take m):Nat):Int))/\sl 5=some w/\Acc [22] ⟨h.next,h.next,[p,q]⟩ h' 3 w (((Xm (i+1) t1).take m).map fun n:Nat=>PV.int .i64 (n:Int))/\h'.get p=some (vp,.cells [L 58 b (t.map Yg),.own q vq 149 0 t.length])/\h'.get q=some (vq,.row 149 true (ps.map Zic))) t1.length rfl ⟨0,.nils,by simp,by simp,by simp,by simp[Xr],by simp,Acc.nil,by simp[hv],by simp[hr]⟩ ?_;rintro n sl h' hf ⟨m,w,hn,hm,h17,h6,h5,hA,hgp,hgq⟩;simp at hf;by_cases hlt:m < t1.length
 .have hkp:=Zht (t1:=t1) (t2:=t2) (b:=i+1) (by omega) f m hlt;have hps:=Zaq _ hkp.2;rw[hkp.1]at hps;obtain⟨hpl2,hpv⟩:=List.getElem?_eq_some_iff.1 hps;have hkl:=hkp.2;have hsg:=Zcq (i+1) t1 m hlt
  have htk:(Xm (i+1) t1).take (m+1)=(Xm (i+1) t1).take m++[i+1+Xr (t1.take m)]:=by
   rw[List.take_add_one,hsg];rfl
  generalize hkk:i+1+Xr (t1.take m)=kk at *;generalize hee:i+1+Xr (t1.take (m+1))=ee at *;obtain⟨w',h1,Sf,Xv,hnx1,hgt⟩:=hA.app (dd:=22) (ys:=[PV.int .i64 kk]) (T:={k:=.int .i64,size:=1,bytes:=8,zero:=[.int .i64 0]}) (by simp) rfl (by simp only[List.length_map,List.length_take,List.length_cons,List.length_nil];omega) (by decide) (by decide) (by simp);simp only[List.length_cons,List.length_nil]at Sf;have g1:h1.get p=_:=(hgt p (by intro d hd;simp at hd;subst hd;simp[Wv])).trans hgp;have g2:h1.get q=_:=(hgt q (by intro d hd;simp at hd;subst hd;simp[hqd])).trans hgq;have Ws:=hA.same (n:=3);have Zcw:=Xv.same (n:=3)
  have hA2:Acc [22] ⟨h.next,h.next,[p,q]⟩ h1 3 w' (((Xm (i+1) t1).take (m+1)).map fun n:Nat=>PV.int .i64 (n:Int)):=by
   rw[htk,List.map_append];exact Xv
  replace hA2:=Hide.mk hA2;replace hkp:=Hide.mk hkp;replace hkk:=Hide.mk hkk;replace hee:=Hide.mk hee;clear Zaq hgt Xv htk hps hsg
  (refine Zm ?_;repeat'(first|(refine Zi fun _=>?_;try simp(disch:=first|exact Zw|fail)[*,Yi,Ze hp,Ze hq])|refine Zt ?_|refine Zf ?_|refine Zb ?_ ?_))
  exact⟨_,by omega,m+1,rfl,by omega,by omega,by have:=hee.get;omega,by have:=hA2.get;rwa [List.map_take]at this⟩
 .have e:m=t1.length:=by omega
  subst e;rw[<- hsl,List.take_length]at hA;have Wz:=hA.inl;have Zao:=hA.inlT;rw[Wz]at Zao;have hot:=hA.ownT;clear Zaq hA Wz
  (refine Zm ?_;repeat'(first|(refine Zi fun _=>?_;try simp(disch:=first|exact Zw|fail)[*,Yi,Ze hp,Ze hq])|refine Zt ?_|refine Zf ?_|refine Zb ?_ ?_))
  exact hot
theorem Z4o {d:Nat}(hd:d+1<=257){t:List Nd}{i:Nat}(hi:i < t.length)(h5:t[i].op=5){t1:List (Tr×Nat)}(hk:t[i].kids=(t1.length:Int))(hm:many (Zh (d+1)) t1.length (t.drop (i+1))=some (t1.map (·.1),(t.drop (i+1)).drop (Xr t1))):Xe t[i] (t.drop (i+1))=[⟨true,t[i].name,t1.map (fun x=>Ye x.1),t[i].sort⟩]:=by
 unfold Xe;rw[if_neg (by omega),if_pos h5,hk];have:=Zb4 (fun _ _ h=>R8 hd h) hm;rw[Int.toNat_natCast,this];simp only[Zab]
set_option maxHeartbeats 1000000 in
theorem Z8w {t:List Nd}{b:Bool}{d p vp q vq:Nat}{ps:List (Int×Nat×Nat)}{h:PH}(V:ViewAt t b (d+1) p vp q vq ps h)(hl:t.length<=20000){i:Nat}(hi:i < t.length){t1 t2:List (Tr×Nat)}(f:Forest (d+1) (t.drop (i+1)) (t1++t2))(hk:t[i].kids=(t1.length:Int))(K:Pure.Loc)(hcp:can K p=true)(hcq:can K q=true)(hp:p < h.next)(hq:q < h.next):Yx vE K 138 [.ptr p vp 0,.int .i64 i] h=some (.agg [.str t[i].name,L 3 true ((t1.map fun x=>Ye x.1).map (.int .i64)),.int .i64 t[i].sort],h):=by
 have hv:=V.view;have hr:=V.row;have h163:=fun (h':PH) (V':ViewAt t b (d+1) p vp q vq ps h') (K:Pure.Loc) (a1:can K p=true) (a2:can K q=true) (a3:p < h'.next) (a4:q < h'.next)=>Z8u V' hl hi f hk K a1 a2 a3 a4
 refine W8 (ok:=[p,q]) (fn:=Tryz.f138) Tryz.func138 rfl rfl rfl (by simp) (by simpa using Zcs hv hr) (Zg0 hcp hcq hv hr) (by simp[hp,hq]) (by simp[PH.belowAt,hv,hr,Zu,hq]) ?_ (by simp);have Wv:=Yl hp;have hqd:=Yl hq;have hlen:=V.len;have Zaq:=V.done
 (refine Zm ?_;repeat'(first|(refine Zi fun _=>?_;try simp(disch:=first|exact Zw|fail)[*,Yi,Tryz.f138,Ze hp,Ze hq])|refine Zt ?_|refine Zf ?_|refine Zb ?_ ?_))
 refine Yk false false [] [] [] [] false (by decide +kernel) ?_
 (refine Zm ?_;repeat'(first|(refine Zi fun _=>?_;try simp(disch:=first|exact Zw|fail)[*,Yi,Ze hp,Ze hq])|refine Zt ?_|refine Zf ?_|refine Zb ?_ ?_))
 rw[h163 _ ⟨by simp[Ze hp,Wv,hv],by simp[Ze hq,hqd,hr],hlen,Zaq⟩ _ (by simp) (by simp) (by simp;omega) (by simp;omega)];have hsl:(Xm (i+1) t1).length=t1.length:=Wn _ _;have htl:=f.le;rw[List.length_append,List.length_drop]at htl
 (refine Zm ?_;repeat'(first|(refine Zi fun _=>?_;try simp(disch:=first|exact Zw|fail)[*,Yi,Ze hp,Ze hq])|refine Zt ?_|refine Zf ?_|refine Zb ?_ ?_))
 generalize hv4:h.stamp (h.next+4)=v4;generalize hv5:h.stamp (h.next+5)=v5;refine Zn [0,4,5,27,28] (fun n sl h'=>∃(m:Nat) (w:PV),n=t1.length - m/\m<=t1.length/\sl 29=some (.int .i64 m)/\Acc [44] ⟨h.next,h.next,[p,q]⟩ h' 3 w ((t1.take m).map fun x=>PV.int .i64 (Ye x.1))/\h'.get (h.next+5)=some (v5,.cells [.str t[i].name,w,.int .i64 t[i].sort])/\h'.get (h.next+4)=some (v4,.cells [.str [],.nils,.int .i64 0])/\h'.get p=some (vp,.cells [L 58 b (t.map Yg),.own q vq 149 0 t.length])/\h'.get q=some (vq,.row 149 true (ps.map Zic))) t1.length rfl ⟨0,.nils,by simp,by simp,by simp,Acc.nil,by simp,by simp,by simp[Ze hp,Wv,hv],by simp[Ze hq,hqd,hr]⟩ ?_;rintro n sl h' hf ⟨m,w,hn,hm,h29,hA,hg5,hg4,hgp,hgq⟩;simp at hf;by_cases hlt:m < t1.length
 .have hkp:=Zht (t1:=t1) (t2:=t2) (b:=i+1) (by omega) f m hlt;have hps:=Zaq _ hkp.2;rw[hkp.1]at hps;obtain⟨hpl2,hpv⟩:=List.getElem?_eq_some_iff.1 hps;have hkl:=hkp.2;have hsg:=Zcq (i+1) t1 m hlt;obtain⟨hsg1,hsg2⟩:=List.getElem?_eq_some_iff.1 hsg;have htk:=Xj t1 m hlt;generalize hkk:i+1+Xr (t1.take m)=kk at *;generalize X3:Ye t1[m].1=st at *;obtain⟨w',h1,Sf,Xv,hnx1,hgt⟩:=hA.app (dd:=44) (ys:=[PV.int .i64 st]) (T:={k:=.int .i64,size:=1,bytes:=8,zero:=[.int .i64 0]}) (by simp) rfl (by simp only[List.length_map,List.length_take,List.length_cons,List.length_nil];omega) (by decide) (by decide) (by simp);simp only[List.length_cons,List.length_nil]at Sf;have g1:h1.get p=_:=(hgt p (by intro d hd;simp at hd;subst hd;simp[Wv])).trans hgp;have g2:h1.get q=_:=(hgt q (by intro d hd;simp at hd;subst hd;simp[hqd])).trans hgq;have g5:h1.get (h.next+5)=_:=(hgt _ (by intro d hd;simp at hd;subst hd;simp)).trans hg5;have g4:h1.get (h.next+4)=_:=(hgt _ (by intro d hd;simp at hd;subst hd;simp)).trans hg4;obtain⟨d44,Zaev,hd44,rfl,hg44⟩:=Xv.own (by simp);simp only[List.mem_singleton]at hd44;subst hd44;have Ws:=hA.same (n:=3);have Zpz:((t1.take m).map (fun x=>PV.int .i64 (Ye x.1))++[PV.int .i64 st]).length=m+1:=by simp;omega
  rw[Zpz]at Xv Sf
  have hA2:Acc [44] ⟨h.next,h.next,[p,q]⟩ h1 3 (.own (h.next+44) Zaev 3 0 (m+1)) ((t1.take (m+1)).map fun x=>PV.int .i64 (Ye x.1)):=by
   rw[htk,List.map_append,List.map_cons,List.map_nil,X3];exact Xv
  replace hA2:=Hide.mk hA2;replace hkp:=Hide.mk hkp;replace hkk:=Hide.mk hkk;clear Zaq hgt Xv htk hps hsg h163 hA
  (refine Zm ?_;repeat'(first|(refine Zi fun _=>?_;try simp(disch:=first|exact Zw|fail)[*,Yi,Ze hp,Ze hq])|refine Zt ?_|refine Zf ?_|refine Zb ?_ ?_))
  refine Yk false false [] [] [] [] false (by decide +kernel) ?_
  (refine Zm ?_;repeat'(first|(refine Zi fun _=>?_;try simp(disch:=first|exact Zw|fail)[*,Yi,Ze hp,Ze hq])|refine Zt ?_|refine Zf ?_|refine Zb ?_ ?_))
  refine⟨_,by omega,m+1,rfl,by omega,by omega,?_⟩;have:=hA2.get.frame (h':=h1.put (h.next+5) v5 (PO.cells [PV.str t[i].name,PV.own (h.next+44) Zaev 3 0 (m+1),PV.int IntKind.i64 t[i].sort])) (fun d hd=>by simp only[List.mem_singleton]at hd;subst hd;simp)
  rwa [List.map_take]at this
 .have e:m=t1.length:=by omega
  subst e;rw[List.take_length]at hA;have e6:(t1.map fun x=>PV.int .i64 (Ye x.1))=(t1.map fun x=>Ye x.1).map (PV.int .i64):=by rw[List.map_map];rfl
  rw[e6]at hA;generalize (t1.map fun x=>Ye x.1).map (PV.int .i64)=ys at *;clear h163;rcases hA with⟨rfl,rfl⟩ | ⟨d,Zc,Yq,hd,rfl,hg⟩
  . (refine Zm ?_;repeat'(first|(refine Zi fun _=>?_;try simp(disch:=first|exact Zw|fail)[*,Yi,Ze hp,Ze hq])|refine Zt ?_|refine Zf ?_|refine Zb ?_ ?_))
  .simp only [List.mem_singleton]at hd;subst hd
   have hL:L 3 true ys=.lst 3 ys:=by
    cases ys with
    |nil=>exact absurd rfl Yq
    |cons=>rfl
   rw[hL]
   (refine Zm ?_;repeat'(first|(refine Zi fun _=>?_;try simp(disch:=first|exact Zw|fail)[*,Yi,Ze hp,Ze hq])|refine Zt ?_|refine Zf ?_|refine Zb ?_ ?_))
theorem Z02 (b1 b2:Bool)(x y:List Int)(hx:x.length < 2^62)(hy:y.length < 2^62):Xw vE 137 [L 3 b1 (x.map (.int .i64)),L 3 b2 (y.map (.int .i64))] (.bool (x==y)):=by
 by_cases hl:x.length=y.length
 .intro K H;refine Zd (fn:=Tryz.f137) rfl Tryz.func137 rfl rfl (by simp) (by simp) ?_ (by simp[*])
  (refine Zm ?_;repeat'(first|(refine Zi fun _=>?_;try simp(disch:=first|exact Zq|fail)[*,Zz,Tryz.f137])|refine Yb ?_|refine Yc ?_|refine Yd ?_|refine Zt ?_|refine Zf ?_|refine Zb ?_ ?_))
  refine Zn [0,1,12] (fun n sl h=>∃i:Nat,n=x.length - i/\i<=x.length/\sl 13=some (.int .i64 i)/\∀j (hj:j < x.length) (hk:j < y.length),j < i->x[j]=y[j]) x.length rfl ⟨0,by simp⟩ ?_;rintro n sl h hf ⟨i,hn',hi,h5,hd⟩;simp at hf;replace hd:=Hide.mk hd;by_cases hlt:i < x.length
  .have Zor:i < y.length:=by omega
   clear hl
   (refine Zm ?_;repeat'(first|(refine Zi fun _=>?_;try simp(disch:=first|exact Zq|fail)[*,Zz])|refine Yb ?_|refine Yc ?_|refine Yd ?_|refine Zt ?_|refine Zf ?_|refine Zb ?_ ?_))
   .rename_i e;refine⟨_,by omega,i+1,rfl,by omega,rfl,fun j hj hk hji=>?_⟩;by_cases e':j=i
    .subst e';exact e
    .exact hd.get j hj hk (by omega)
   .rename_i e;rintro rfl;simp at e
  . (refine Zm ?_;repeat'(first|(refine Zi fun _=>?_;try simp(disch:=first|exact Zq|fail)[*,Zz])|refine Yb ?_|refine Yc ?_|refine Yd ?_|refine Zt ?_|refine Zf ?_|refine Zb ?_ ?_))
    have:x=y:=List.ext_getElem hl fun j hj hk=>hd.get j hj hk (by omega)
    simp[this]
 .have:x≠y:=by rintro rfl;exact hl rfl
  have hq:(x==y)=false:=by simp[this]
  intro K H;refine Zd (fn:=Tryz.f137) rfl Tryz.func137 rfl rfl (by simp) (by simp) ?_ (by simp[*])
  (refine Zm ?_;repeat'(first|(refine Zi fun _=>?_;try simp(disch:=first|exact Zq|fail)[*,Zz,Tryz.f137])|refine Yb ?_|refine Yc ?_|refine Yd ?_|refine Zt ?_|refine Zf ?_|refine Zb ?_ ?_))
theorem Zaea (u:Use)(hu:u.args.length < 2^30):Xw vE 139 [Y9 u,Y9 u] (.bool true):=by
 have h:=Z02 true true u.args u.args (by omega) (by omega);rw[BEq.rfl]at h;intro K H;refine Zd (fn:=Tryz.f139) rfl Tryz.func139 rfl rfl (by simp) (by simp) ?_ (by simp[*])
 (refine Zm ?_;repeat'(first|(refine Zi fun _=>?_;try simp(disch:=first|exact Zq|fail)[*,Zz,Tryz.f139])|refine Yb ?_|refine Yc ?_|refine Yd ?_|refine Zt ?_|refine Zf ?_|refine Zb ?_ ?_))
theorem Zem (enc:Use->PV)(es:List Use)(x:Yt):Vz (es.map fun u=>(PV.str u.name,enc u)) (.str x)=some ((es.find? (fun u=>u.name==x)).map enc):=by
 induction es with
 |nil=>rfl
 |cons e es ih=>
  simp only[List.map_cons,Vz,Ug,List.find?_cons];by_cases h:x=e.name
  .subst h;simp
  .have h1:(x==e.name)=false:=by simpa using h
   have h2:(e.name==x)=false:=by simpa using Ne.symm h
   simp[h1,h2,ih]
theorem Zk0 (enc:Use->PV)(es:List Use)(u:Use)(h:∀v∈es,v.name≠u.name):Ur (es.map fun u=>(PV.str u.name,enc u)) (.str u.name) (enc u)=some ((es++[u]).map fun u=>(PV.str u.name,enc u)):=by
 induction es with
 |nil=>rfl
 |cons e es ih=>
  have h1:(u.name==e.name)=false:=by simpa using Ne.symm (h e (by simp))
  simp only[List.map_cons,Ur,Ug,h1,ih fun v hv=>h v (by simp[hv]),Option.map_some,List.cons_append]
def Zbt (s:List Use×List Use)(u:Use):List Use×List Use:=if u.fn then (s.1,if u∈s.2 then s.2 else s.2++[u]) else (if u∈s.1 then s.1 else s.1++[u],s.2)
def Vb (us:List Use):List Use×List Use:=us.foldl Zbt ([],[])
theorem Q2 {t:List Nd}{i:Nat}(h:i < t.length):Zy (t.drop i)=Xe t[i] (t.drop (i+1))++Zy (t.drop (i+1)):=by
 rw[List.drop_eq_getElem_cons h];rfl
structure NInv (t:List Nd)(i:Nat)(vs fs:List Use):Prop where
 eq:Vb (Zy t)=(Zy (t.drop i)).foldl Zbt (vs,fs)
 v:∀u∈vs,u∈Zy t/\u.fn=false
 f:∀u∈fs,u∈Zy t/\u.fn=true
 lv:vs.length<=i
 lf:fs.length<=i
theorem NInv.start (t:List Nd):NInv t 0 [] []:=⟨rfl,by simp,by simp,by simp,by simp⟩
theorem Zqs {t:List Nd}{i:Nat}(hi:i < t.length){u:Use}(h:u∈Zy (t.drop i)):u∈Zy t:=by
 have key:∀k,k<=t.length->∀u,u∈Zy (t.drop k)->u∈Zy t:=by
  intro k
  induction k with
  |zero=>intro _ u h;simpa using h
  |succ k ih=>
   intro hk u h;refine ih (by omega) u ?_;rw[Q2 (by omega:k < t.length)];exact List.mem_append_right _ h
 exact key i (by omega) u h
theorem NInv.other {t:List Nd}{i:Nat}{vs fs:List Use}(I:NInv t i vs fs)(hi:i < t.length)(h4:t[i].op≠4)(h5:t[i].op≠5):NInv t (i+1) vs fs:=by
 refine⟨?_,I.v,I.f,by have:=I.lv;omega,by have:=I.lf;omega⟩;rw[I.eq,Q2 hi];simp[Xe,h4,h5]
theorem Um {es:List Use}{x:Yt}(h:es.find? (fun u=>u.name==x)=none):∀v∈es,v.name≠x:=fun v hv=>by
 have:=List.find?_eq_none.1 h v hv;simpa using this
theorem Te {es:List Use}{x:Yt}{v:Use}(h:es.find? (fun u=>u.name==x)=some v):v∈es/\v.name=x:=⟨List.mem_of_find?_eq_some h,by simpa using List.find?_some h⟩
theorem NInv.use {t:List Nd}{i:Nat}{vs fs:List Use}{u:Use}(I:NInv t i vs fs)(hC:Clean (Zy t))(hi:i < t.length)(hu:Xe t[i] (t.drop (i+1))=[u]):
  (u.fn=false->fs.find? (fun x=>x.name==u.name)=none/\(vs.find? (fun x=>x.name==u.name)=some u/\NInv t (i+1) vs fs\/vs.find? (fun x=>x.name==u.name)=none/\NInv t (i+1) (vs++[u]) fs)) /\
  (u.fn=true->vs.find? (fun x=>x.name==u.name)=none/\(fs.find? (fun x=>x.name==u.name)=some u/\NInv t (i+1) vs fs\/fs.find? (fun x=>x.name==u.name)=none/\NInv t (i+1) vs (fs++[u]))):=by
 have hum:u∈Zy t:=Zqs hi (by rw[Q2 hi,hu];simp);have Zcb:∀s,(Zy (t.drop i)).foldl Zbt s=(Zy (t.drop (i+1))).foldl Zbt (Zbt s u):=fun s=>by rw[Q2 hi,hu];rfl
 have heq:=I.eq;rw[Zcb]at heq;have hlv:=I.lv;have hlf:=I.lf;constructor
 .intro Rc;refine⟨?_,?_⟩
  .cases h:fs.find? (fun x=>x.name==u.name) with
   |none=>rfl
   |some v=>
    obtain⟨h1,h2⟩:=Te h;have:=hC v (I.f v h1).1 u hum h2;have h3:=(I.f v h1).2;rw[this,Rc]at h3;cases h3
  .cases h:vs.find? (fun x=>x.name==u.name) with
   |some v=>
    obtain⟨h1,h2⟩:=Te h;have e:=hC v (I.v v h1).1 u hum h2;subst e;refine .inl ⟨rfl,?_,I.v,I.f,by omega,by omega⟩;rw[heq];simp[Zbt,Rc,h1]
   |none=>
    have hn:=Um h;have hni:u∉vs:=fun hm=>hn u hm rfl
    refine .inr ⟨rfl,?_,?_,I.f,by simp;omega,by omega⟩
    .rw [heq];simp[Zbt,Rc,hni]
    .intro x hx;rcases List.mem_append.1 hx with hx | hx
     .exact I.v x hx
     .simp at hx;subst hx;exact⟨hum,Rc⟩
 .intro Rc;refine⟨?_,?_⟩
  .cases h:vs.find? (fun x=>x.name==u.name) with
   |none=>rfl
   |some v=>
    obtain⟨h1,h2⟩:=Te h;have:=hC v (I.v v h1).1 u hum h2;have h3:=(I.v v h1).2;rw[this,Rc]at h3;cases h3
  .cases h:fs.find? (fun x=>x.name==u.name) with
   |some v=>
    obtain⟨h1,h2⟩:=Te h;have e:=hC v (I.f v h1).1 u hum h2;subst e;refine .inl ⟨rfl,?_,I.v,I.f,by omega,by omega⟩;rw[heq];simp[Zbt,Rc,h1]
   |none=>
    have hn:=Um h;have hni:u∉fs:=fun hm=>hn u hm rfl
    refine .inr ⟨rfl,?_,I.v,?_,by omega,by simp;omega⟩
    .rw [heq];simp[Zbt,Rc,hni]
    .intro x hx;rcases List.mem_append.1 hx with hx | hx
     .exact I.f x hx
     .simp at hx;subst hx;exact⟨hum,Rc⟩
theorem NInv.done {t:List Nd}{vs fs:List Use}(I:NInv t t.length vs fs):Vb (Zy t)=(vs,fs):=by
 rw[I.eq,List.drop_length];rfl
theorem Z4m {S:List Nat}{K:Pure.Loc}{h h0:PH}{g n:Nat}{v:PV}{xs ys:List PV}{T:Virt.Ty}{dd:Nat}{Q:PV×PH->Prop}(hA:Acc S K h0 g v xs)(hf:∀d∈S,h.get (K.base+d)=h0.get (K.base+d))(hn:n=ys.length)(hd:dd∈S)(hK:K.lo=K.base)(h1:xs.length+ys.length<=1073741824)(h2:T.bytes<=65536)(h3:0 < T.size)(h4:ys≠[])
  (hq:∀w' h1,Acc S K h1 g w' (xs++ys)->h1.next=h.next->(∀j,(∀d∈S,j≠K.base+d)->h1.get j=h.get j)->Q (w',h1)):wp (Xu K h dd g T n ys v) Q:=by
 obtain⟨w',h1',Sf,a,b,c⟩:=(hA.frame hf).app (T:=T) hd hK h1 h2 h3 h4;rw[hn];exact Wb.2 ⟨_,Sf,hq _ _ a b c⟩
set_option maxHeartbeats 4000000 in
theorem Znr {t:List Nd}{b:Bool}{d p vp q vq:Nat}{ps:List (Int×Nat×Nat)}{h:PH}{tr:Tr}(hd:d+1<=257)(hpt:Zh (d+1) t=some (tr,[]))(Si:0 < Ye tr)(hC:Clean (Zy t))(V:ViewAt t b (d+1) p vp q vq ps h)(hl:t.length<=20000)(K:Pure.Loc)(hcp:can K p=true)(hcq:can K q=true)(hp:p < h.next)(hq:q < h.next):
  Yx vE K 109 [.ptr p vp 0] h=some (.tuple [L 69 true ((Vb (Zy t)).1.map Xy),L 155 true ((Vb (Zy t)).2.map Y9),.bool true],h):=by
 have hv:=V.view;have hr:=V.row;have hlen:=V.len;have Zaq:=V.done;refine W8 (ok:=[p,q]) (fn:=Tryz.f109) Tryz.func109 rfl rfl rfl (by simp) (by simpa using Zcs hv hr) (Zg0 hcp hcq hv hr) (by simp[hp,hq]) (by simp[PH.belowAt,hv,hr,Zu,hq]) ?_ (by simp);have Wv:=Yl hp;have hqd:=Yl hq
 (refine Zm ?_;repeat'(first|(refine Zi fun _=>?_;try simp(disch:=first|exact Zw|fail)[*,Yi,Tryz.f109,Ze hp,Ze hq])|refine Zt ?_|refine Zf ?_|refine Zb ?_ ?_))
 generalize hv20:h.stamp (h.next+20)=v20;generalize hv21:h.stamp (h.next+21)=v21
 refine Zn [0,5,6,25,26] (fun n sl h'=>∃(i:Nat) (vs fs:List Use) (wv wf:PV),n=t.length - i/\i<=t.length/\NInv t i vs fs/\sl 27=some (.int .i64 i)/\sl 7=some wv/\sl 8=some wf/\Acc [57] ⟨h.next,h.next,[p,q]⟩ h' 69 wv (vs.map Xy)/\Acc [95] ⟨h.next,h.next,[p,q]⟩ h' 155 wf (fs.map Y9) /\
  h'.get (h.next+20)=some (v20,.map (vs.map fun u=>(PV.str u.name,Xy u)))/\h'.get (h.next+21)=some (v21,.map (fs.map fun u=>(PV.str u.name,Y9 u)))/\h'.get p=some (vp,.cells [L 58 b (t.map Yg),.own q vq 149 0 t.length])/\h'.get q=some (vq,.row 149 true (ps.map Zic))/\h.next+111<=h'.next) t.length rfl ⟨0,[],[],.nils,.nils,by simp,by simp,NInv.start t,by simp,by simp,by simp,Acc.nil,Acc.nil,by simp,by simp,by simp[Wv,hv],by simp[hqd,hr],by simp⟩ ?_
 rintro n sl h' hf ⟨i,vs,fs,wv,wf,hn,hi,I,h27,h7,h8,hAv,hAf,g20,g21,gp,gq,To⟩;simp at hf;have hlv:=I.lv;have hlf:=I.lf;by_cases hlt:i < t.length
 .obtain ⟨t1,t2,hF,hk,hm⟩:=Zi2 hpt Si hlt;generalize htn:t[i]=nn at *;obtain⟨op,sort,name,num,kids⟩:=nn;simp only at hk;subst hk;have hsv:=Zem Xy vs name;have hsf:=Zem Y9 fs name;by_cases h4:op=4
  .subst h4;have hu:Xe t[i] (t.drop (i+1))=[⟨false,name,[],sort⟩]:=by rw[htn];simp[Xe]
   obtain⟨hff,hvv⟩:=(I.use hC hlt hu).1 rfl;rw[hff]at hsf;rcases hvv with⟨hvv,I2⟩ | ⟨hvv,I2⟩
   .rw [hvv]at hsv;simp only[Option.map_some,Option.map_none]at hsv hsf;replace I2:=Hide.mk I2;clear hff hvv I hC
    (refine Zm ?_;repeat'(first|(refine Zi fun _=>?_;try simp(disch:=first|exact Zw|fail)[*,Yi,Ze hp,Ze hq])|refine Zt ?_|refine Zf ?_|refine Zb ?_ ?_))
    refine⟨_,by omega,i+1,rfl,by omega,vs,fs,I2.get,by omega,hAv.frame (fun d hd=>by simp only[List.mem_singleton]at hd;subst hd;simp),hAf.frame (fun d hd=>by simp only[List.mem_singleton]at hd;subst hd;simp),?_⟩;simp
   .rw [hvv]at hsv;simp only[Option.map_some,Option.map_none]at hsv hsf;have hpm:=Zk0 Xy vs ⟨false,name,[],sort⟩ (fun v hv=>Um hvv v hv);replace I2:=Hide.mk I2;clear hff hvv I hC
    (refine Zm ?_;repeat'(first|(refine Zi fun _=>?_;try simp(disch:=first|exact Zw|fail)[*,Yi,Ze hp,Ze hq])|refine Zt ?_|refine Zf ?_|refine Zb ?_ ?_))
    refine Z4m hAv (fun d hd=>by simp only[List.mem_singleton]at hd;subst hd;simp) (by simp) (by simp) rfl (by simp;omega) (by decide) (by decide) (by simp) ?_;intro w' h1 Xv hn1 hg1;have k10:=hg1 (h.next+10) (by simp);have k11:=hg1 (h.next+11) (by simp);have k20:=hg1 (h.next+20) (by simp);have k21:=hg1 (h.next+21) (by simp);have kp:=hg1 p (by simp[Wv]);have kq:=hg1 q (by simp[hqd])
    have kf:∀d∈[95],h1.get (h.next+d)=h'.get (h.next+d):=fun d hd=>by
     simp only[List.mem_singleton]at hd;subst hd;rw[hg1 _ (by simp)];simp
    have Z2v:=hAf.frame kf;simp[Wv,hqd,g21,gp,gq]at k10 k11 k20 k21 kp kq hn1;have Ws:=Xv.same (n:=3);replace Xv:=Hide.mk Xv;replace Z2v:=Hide.mk Z2v;clear hg1 kf hAv hAf
    (refine Zm ?_;repeat'(first|(refine Zi fun _=>?_;try simp(disch:=first|exact Zw|fail)[*,Yi,Ze hp,Ze hq])|refine Zt ?_|refine Zf ?_|refine Zb ?_ ?_))
    refine⟨_,by omega,i+1,rfl,by omega,vs++[⟨false,name,[],sort⟩],fs,I2.get,by omega,?_,Z2v.get.frame (fun d hd=>by simp only[List.mem_singleton]at hd;subst hd;simp),?_⟩
    .rw [List.map_append];exact Xv.get.frame (fun d hd=>by simp only[List.mem_singleton]at hd;subst hd;simp)
    .simp
  .by_cases h5:op=5
   .subst h5
    have hu:Xe t[i] (t.drop (i+1))=[⟨true,name,t1.map (fun x=>Ye x.1),sort⟩]:=by
     have:=Z4o hd hlt (by rw[htn]) (by rw[htn]) hm;rw[this,htn]
    obtain⟨hvv,hff⟩:=(I.use hC hlt hu).2 rfl;rw[hvv]at hsv;have Z2y:=fun (h2:PH) (V':ViewAt t b (d+1) p vp q vq ps h2) (K:Pure.Loc) (a1:can K p=true) (a2:can K q=true) (a3:p < h2.next) (a4:q < h2.next)=>Z8w V' hl hlt hF (by rw[htn]) K a1 a2 a3 a4
    rw[htn]at Z2y;simp only at Z2y;have htl:=hF.le;rw[List.length_append,List.length_drop]at htl;have h139:=Zaea ⟨true,name,t1.map (fun x=>Ye x.1),sort⟩ (by simp;omega);generalize hxs:t1.map (fun x=>Ye x.1)=xs at *;rcases hff with⟨hff,I2⟩ | ⟨hff,I2⟩
    .rw [hff]at hsf;simp only[Option.map_some,Option.map_none]at hsv hsf;replace I2:=Hide.mk I2;clear hff hvv I hC hu hm
     (refine Zm ?_;repeat'(first|(refine Zi fun _=>?_;try simp(disch:=first|exact Zw|fail)[*,Yi,Ze hp,Ze hq])|refine Zt ?_|refine Zf ?_|refine Zb ?_ ?_))
     rw[Z2y _ ⟨by simp[Wv,gp],by simp[hqd,gq],hlen,Zaq⟩ _ (by simp) (by simp) (by simp;omega) (by simp;omega)];clear Z2y
     (refine Zm ?_;repeat'(first|(refine Zi fun _=>?_;try simp(disch:=first|exact Zw|fail)[*,Yi,Ze hp,Ze hq])|refine Zt ?_|refine Zf ?_|refine Zb ?_ ?_))
     refine⟨_,by omega,i+1,rfl,by omega,vs,fs,I2.get,by omega,hAv.frame (fun d hd=>by simp only[List.mem_singleton]at hd;subst hd;simp),hAf.frame (fun d hd=>by simp only[List.mem_singleton]at hd;subst hd;simp),?_⟩;simp
    .rw [hff]at hsf;simp only[Option.map_some,Option.map_none]at hsv hsf;have hpm:=Zk0 Y9 fs ⟨true,name,xs,sort⟩ (fun v hv=>Um hff v hv);replace I2:=Hide.mk I2;clear hff hvv I hC hu hm
     (refine Zm ?_;repeat'(first|(refine Zi fun _=>?_;try simp(disch:=first|exact Zw|fail)[*,Yi,Ze hp,Ze hq])|refine Zt ?_|refine Zf ?_|refine Zb ?_ ?_))
     rw[Z2y _ ⟨by simp[Wv,gp],by simp[hqd,gq],hlen,Zaq⟩ _ (by simp) (by simp) (by simp;omega) (by simp;omega)];clear Z2y
     (refine Zm ?_;repeat'(first|(refine Zi fun _=>?_;try simp(disch:=first|exact Zw|fail)[*,Yi,Ze hp,Ze hq])|refine Zt ?_|refine Zf ?_|refine Zb ?_ ?_))
     refine Z4m hAf (fun d hd=>by simp only[List.mem_singleton]at hd;subst hd;simp) (by simp) (by simp) rfl (by simp;omega) (by decide) (by decide) (by simp) ?_;intro w' h1 Xv hn1 hg1;have k10:=hg1 (h.next+10) (by simp);have k15:=hg1 (h.next+15) (by simp);have k17:=hg1 (h.next+17) (by simp);have k20:=hg1 (h.next+20) (by simp);have k21:=hg1 (h.next+21) (by simp);have kp:=hg1 p (by simp[Wv]);have kq:=hg1 q (by simp[hqd])
     have kf:∀d∈[57],h1.get (h.next+d)=h'.get (h.next+d):=fun d hd=>by
      simp only[List.mem_singleton]at hd;subst hd;rw[hg1 _ (by simp)];simp
     have Z2u:=hAv.frame kf;simp[Wv,hqd,g20,gp,gq]at k10 k15 k17 k20 k21 kp kq hn1;have Ws:=Xv.same (n:=3);replace Xv:=Hide.mk Xv;replace Z2u:=Hide.mk Z2u;clear hg1 kf hAv hAf
     (refine Zm ?_;repeat'(first|(refine Zi fun _=>?_;try simp(disch:=first|exact Zw|fail)[*,Yi,Ze hp,Ze hq])|refine Zt ?_|refine Zf ?_|refine Zb ?_ ?_))
     refine⟨_,by omega,i+1,rfl,by omega,vs,fs++[⟨true,name,xs,sort⟩],I2.get,by omega,Z2u.get.frame (fun d hd=>by simp only[List.mem_singleton]at hd;subst hd;simp),?_,?_⟩
     .rw [List.map_append];exact Xv.get.frame (fun d hd=>by simp only[List.mem_singleton]at hd;subst hd;simp)
     .simp
   .have I2:=I.other hlt (by rw[htn];exact h4) (by rw[htn];exact h5);replace I2:=Hide.mk I2;clear I hsv hsf hC
    (refine Zm ?_;repeat'(first|(refine Zi fun _=>?_;try simp(disch:=first|exact Zw|fail)[*,Yi,Ze hp,Ze hq])|refine Zt ?_|refine Zf ?_|refine Zb ?_ ?_))
    refine⟨_,by omega,i+1,rfl,by omega,vs,fs,I2.get,by omega,hAv.frame (fun d hd=>by simp only[List.mem_singleton]at hd;subst hd;simp),hAf.frame (fun d hd=>by simp only[List.mem_singleton]at hd;subst hd;simp),?_⟩;simp
 .have e:i=t.length:=by omega
  subst e;rw[I.done];have hin1:=hAv.inl;have hin2:=hAf.inl
  have ho1:∀x∈ownV wv,h.next<=x:=by
   rcases hAv with⟨hvn,rfl⟩ | ⟨d1,ver1,Zrg,hd1,rfl,hg1⟩<;>simp
  have ho2:∀x∈ownV wf,h.next<=x:=by
   rcases hAf with⟨hvn,rfl⟩ | ⟨d1,ver1,Zrg,hd1,rfl,hg1⟩<;>simp
  clear hAv hAf
  (refine Zm ?_;repeat'(first|(refine Zi fun _=>?_;try simp(disch:=first|exact Zw|fail)[*,Yi])|refine Zt ?_|refine Zf ?_|refine Zb ?_ ?_))
  exact⟨ho1,ho2⟩
structure VT (t:List Nd)(tr:Tr):Prop where
 parse:Zh 257 t=some (tr,[])
 pos:0 < Ye tr
 good:Good t
 len:t.length<=20000
 clean:Clean (Zy t)
theorem VT.ne {t:List Nd}{tr:Tr}(v:VT t tr):0 < t.length:=by
 cases t with
 |nil=>have:=v.parse;simp[Zh]at this
 |cons=>simp
theorem Z8x {t:List Nd}{tr:Tr}(v:VT t tr){b:Bool}{p vp q vq:Nat}{ps:List (Int×Nat×Nat)}{h:PH}(V:ViewAt t b 257 p vp q vq ps h)(K:Pure.Loc)(hcp:can K p=true)(hcq:can K q=true)(hp:p < h.next)(hq:q < h.next):Yx vE K 136 [.ptr p vp 0] h=some (.bool false,h):=by
 have hv:=V.view;have hr:=V.row;have hlen:=V.len;have h0:=V.done 0 v.ne
 have hpa:partAt 257 t 0=(Ye tr,Xc tr,t.length):=by
  unfold partAt;rw[List.drop_zero,v.parse];simp
 rw[hpa]at h0;have hdp:Xc tr<=257:=R9 v.parse;obtain⟨h01,h02⟩:=List.getElem?_eq_some_iff.1 h0;have Yq:=v.ne;have hl:=v.len;refine W8 (ok:=[p,q]) (fn:=Tryz.f136) Tryz.func136 rfl rfl rfl (by simp) (by simpa using Zcs hv hr) (Zg0 hcp hcq hv hr) (by simp[hp,hq]) (by simp[PH.belowAt,hv,hr,Zu,hq]) ?_ (by simp);have Wv:=Yl hp;have hqd:=Yl hq
 (refine Zm ?_;repeat'(first|(refine Zi fun _=>?_;try simp(disch:=first|exact Zw|fail)[*,Yi,Tryz.f136,Ze hp,Ze hq])|refine Zt ?_|refine Zf ?_|refine Zb ?_ ?_))
 omega
set_option maxHeartbeats 2000000 in
theorem Zih {t:List Nd}{tr:Tr}(v:VT t tr)(b:Bool)(K:Pure.Loc)(H:PH):∃p vp q vq ps h',Yx vE K 102 [L 58 b (t.map Yg)] H=some (.tuple [.ptr p vp 0,.bool true],h')/\ViewAt t b 257 p vp q vq ps h'/\H.next<=p/\H.next<=q/\p < h'.next/\q < h'.next/\∀j,j < H.next->h'.get j=H.get j:=by
 obtain⟨w,h',h1,p,vp,q,vq,ps,rfl,h2⟩:=Zgy (C:=vE) (K:=K) (f:=102) (args:=[L 58 b (t.map Yg)]) (h:=H) (ok:=[]) (fn:=Tryz.f102) (R:=fun w h'=>∃p vp q vq,∃ps:List (Int×Nat×Nat),w=.tuple [.ptr p vp 0,.bool true]/\ViewAt t b 257 p vp q vq ps h'/\H.next<=p/\H.next<=q/\p < h'.next/\q < h'.next/\∀j,j < H.next->h'.get j=H.get j) Tryz.func102 rfl rfl rfl (by simp) (by simp[reach]) (by simp) (by
  obtain⟨v16,v18,ps,h1,hc,hV,To,hold⟩:=Z5u t 256 (by omega) tr v.parse v.pos v.good v.len b {base:=H.next,lo:=H.next,ok:=[]} {H with next:=H.next+34};simp only at hV To hold hc;have h136:=Z8x v hV {base:=H.next,lo:=H.next,ok:=[]} (by simp;omega) (by simp;omega) (by omega) (by omega);have h109:=Znr (by omega) v.parse v.pos v.clean hV v.len {base:=H.next,lo:=H.next,ok:=[]} (by simp;omega) (by simp;omega) (by omega) (by omega);have Yq:=v.ne;have hl:=v.len;have hR:∃p vp' q vq,∃ps:List (Int×Nat×Nat),(PV.tuple [.ptr (H.next+34+18) v18 0,.bool true])=.tuple [.ptr p vp' 0,.bool true]/\ViewAt t b 257 p vp' q vq ps h1/\H.next<=p/\H.next<=q/\p < h1.next/\q < h1.next/\∀j,j < H.next->h1.get j=H.get j:=⟨_,_,_,_,_,rfl,hV,by omega,by omega,by omega,by omega,fun j hj=>hold j (by omega)⟩
  clear hR;replace hV:=Hide.mk hV;replace hold:=Hide.mk hold
  (refine Zm ?_;repeat'(first|(refine Zi fun _=>?_;try simp(disch:=first|exact Zw|fail)[*,Yi,Tryz.f102])|refine Zt ?_|refine Zf ?_|refine Zb ?_ ?_))
  exact⟨by rw[<- Bool.not_eq_true,Nat.blt_eq];omega,_,_,⟨rfl,rfl⟩,_,⟨_,_,hV.get⟩,by omega,by omega,by omega,by omega,fun j hj=>hold.get j (by omega)⟩)
 exact⟨p,vp,q,vq,ps,h',h1,h2⟩
theorem Z9d {t:List Nd}{tr:Tr}(v:VT t tr)(b:Bool):Xw vE 49 [L 58 b (t.map Yg)] (.bool true):=by
 intro K H;refine W8 (ok:=[]) (fn:=Tryz.f49) Tryz.func49 rfl rfl rfl (by simp) (by simp[reach]) (by simp) (by simp) (by simp) ?_ (by simp);obtain⟨p,vp,q,vq,ps,h1,hc,hV,Rp,Ry,ha3,ha4,hold⟩:=Zih v b {base:=H.next,lo:=H.next,ok:=[]} {H with next:=H.next+11}
 (refine Zm ?_;repeat'(first|(refine Zi fun _=>?_;try simp(disch:=first|exact Zw|fail)[*,Yi,Tryz.f49])|refine Zt ?_|refine Zf ?_|refine Zb ?_ ?_))
theorem Z9c {t:List Nd}{tr:Tr}(v:VT t tr)(b:Bool):Xw vE 57 [L 58 b (t.map Yg)] (L 155 true ((Vb (Zy t)).2.map Y9)):=by
 intro K H;obtain⟨p,vp,q,vq,ps,h1,hc,hV,Rp,Ry,ha3,ha4,hold⟩:=Zih v b {base:=H.next,lo:=H.next,ok:=[]} {H with next:=H.next+22};simp only at hc Rp Ry hold;have h109:=Znr (by omega) v.parse v.pos v.clean hV v.len {base:=H.next,lo:=H.next,ok:=[]} (by simp;omega) (by simp;omega) ha3 ha4;clear hV hold;refine W8 (ok:=[]) (fn:=Tryz.f57) Tryz.func57 rfl rfl rfl (by simp) (by simp[reach]) (by simp) (by simp) (by simp) ?_ (by simp)
 (refine Zm ?_;repeat'(first|(refine Zi fun _=>?_;try simp(disch:=first|exact Zw|fail)[*,Yi,Tryz.f57])|refine Zt ?_|refine Zf ?_|refine Zb ?_ ?_))
end Go.Proofs.YtabcdhcpilpojaaGreatDoor
end
