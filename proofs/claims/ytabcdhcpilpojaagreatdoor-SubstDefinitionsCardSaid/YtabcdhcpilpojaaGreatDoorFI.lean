/- Is a name in a list; equal substitutions. -/
import Derived.Test.YtabcdhcpilpojaaGreatDoorFG
import Derived.Test.YtabcdhcpilpojaaGreatDoorPD
import Derived.Test.YtabcdhcpilpojaaGreatDoorFH
set_option linter.unusedSimpArgs false
set_option linter.unusedVariables false
section
set_option maxRecDepth 20000
namespace Go.Proofs.YtabcdhcpilpojaaGreatDoor
open Go Go.Pure
open Go.Virt (Ex Ctx Ty TK)
theorem Zanp (b1 b2:Bool)(s:List Yh)(hl:s.length < 2^30)(ht:∀x∈s,x.2.length < 2^30):Xn vE 44 [L 47 b1 (s.map Wv),L 47 b2 (s.map Wv)] (.bool true):=by
 replace ht:=Hide.mk ht;intro K H;refine Wc Tryz.func44 ?_
 (refine Zm ?_;repeat'(first|(refine Zi fun _=>?_;try simp(disch:=first|exact Zq|fail)[*,Zs,Tryz.f44])|refine Ye ?_|refine Zx ?_|refine Zn ?_ ?_))
 refine Zh [0,1] (fun n sl h=>∃i:Nat,n=s.length - i/\i<=s.length/\sl 5=some (.int .i64 i)) s.length rfl ⟨0,by simp,by simp,by simp⟩ ?_;rintro n sl h Rk ⟨i,hn,hi,h5⟩;simp at Rk;by_cases hlt:i < s.length
 .have h18:=Zant true true s[i].2 s[i].2 (ht.get _ (List.getElem_mem hlt)) (ht.get _ (List.getElem_mem hlt));rw[decide_eq_true rfl]at h18;generalize hy:s[i]=y at *;obtain⟨x,r⟩:=y;simp only at h18
  (refine Zm ?_;repeat'(first|(refine Zi fun _=>?_;try simp(disch:=first|exact Zq|fail)[*,Zs])|refine Ye ?_|refine Zx ?_|refine Zn ?_ ?_))
  exact⟨_,by omega,i+1,rfl,by omega,by omega⟩
 . (refine Zm ?_;repeat'(first|(refine Zi fun _=>?_;try simp(disch:=first|exact Zq|fail)[*,Zs])|refine Ye ?_|refine Zx ?_|refine Zn ?_ ?_))
abbrev Znb (es:List Yi):PO:=.map (es.map fun x=>(PV.str x,PV.bool true))
theorem Zyw (es:List Yi):refsO (Znb es)=[]:=by
 simp only[Znb,refsO,List.flatMap_eq_nil_iff,List.mem_map];rintro x ⟨u,_,rfl⟩;rfl
theorem Zxp (es:List Yi)(m:Nat):Xr m (Znb es)=true:=by
 simp only[Znb,Xr,List.all_eq_true,List.mem_map];rintro x ⟨u,_,rfl⟩;rfl
structure OM (c vc m vm:Nat)(es:List Yi)(h:PH):Prop where
 o:h.get c=some (vc,.cells [.map m vm])
 v:h.get m=some (vm,Znb es)
 cm:c≠m
 lc:c < h.next
 lm:m < h.next
theorem OM.reach {c vc m vm:Nat}{es:List Yi}{h:PH}(U:OM c vc m vm es h):Pure.reach h 4 [c]=[c,m]:=by
 have h1:List.flatMap (fun e:PV×PV=>refs 3 e.2) (es.map fun x=>(PV.str x,PV.bool true))=[]:=Zyw es;simp only[Pure.reach,List.flatMap_cons,List.flatMap_nil,U.o,List.append_nil];simp only[Pure.reach,refsO,U.v,h1,refs,List.flatMap_cons,List.flatMap_nil,List.append_nil,List.cons_append,List.nil_append]
theorem OM.can {K:Pure.Loc}{c vc m vm:Nat}{es:List Yi}{h:PH}(U:OM c vc m vm es h)(hc:Pure.can K c=true)(hm:Pure.can K m=true):[c,m].all (fun i=>Pure.can K i&&(h.get i).isSome)=true:=by
 simp only[List.all_cons,List.all_nil,hc,hm,U.o,U.v,Option.isSome_some,Bool.and_self]
theorem OM.below {c vc m vm:Nat}{es:List Yi}{h:PH}(U:OM c vc m vm es h):∀i∈[c,m],h.belowAt h.next i=true:=by
 intro i hi;simp only[List.mem_cons,List.not_mem_nil,or_false]at hi;rcases hi with rfl | rfl
 .simp [PH.belowAt,U.o,Xr,U.lm]
 .simp only [PH.belowAt,U.v];exact Zxp es _
theorem OM.lt {c vc m vm:Nat}{es:List Yi}{h:PH}(U:OM c vc m vm es h):∀i∈[c,m],i < h.next:=by
 intro i hi;simp only[List.mem_cons,List.not_mem_nil,or_false]at hi;rcases hi with rfl | rfl
 .exact U.lc
 .exact U.lm
theorem Zw6 (es:List Yi)(x:Yi):Vb (es.map fun x=>(PV.str x,PV.bool true)) (.str x)=some (if x∈es then some (.bool true) else none):=by
 induction es with
 |nil=>rfl
 |cons e es ih=>
  simp only[List.map_cons,Vb,Vp,ih,List.mem_cons];by_cases h:x=e
  .subst h;simp
  .have:(x==e)=false:=by simpa using h
   simp[this,h]
theorem Zaa3 {c vc m vm:Nat}{es:List Yi}{h:PH}(U:OM c vc m vm es h)(u:Use)(K:Pure.Loc)(hc:can K c=true)(hm:can K m=true):Yf vE K 100 [Xh u,.ptr c vc 0] h=some (.bool (decide (u.name∈es)),h):=by
 refine X6 (ok:=[c,m]) (fn:=Tryz.f100) Tryz.func100 rfl rfl rfl (by simp) (by simp only[List.flatMap_cons,List.flatMap_nil,refs,Xh,List.append_nil];exact U.reach) (U.can hc hm) U.lt U.below ?_ (by simp);have hcd:=Yg U.lc;have hmd:=Yg U.lm;have hf:=Zw6 es u.name;have g1:=U.o;have g2:=U.v;by_cases hx:u.name∈es
 .rw [if_pos hx]at hf;rw[decide_eq_true hx]
  (refine Zm ?_;repeat'(first|(refine Zi fun _=>?_;try simp(disch:=first|exact Zw|fail)[*,Zu,Tryz.f100,Zd U.lc,Zd U.lm])|refine Zx ?_|refine Zn ?_ ?_))
 .rw [if_neg hx]at hf;rw[decide_eq_false hx]
  (refine Zm ?_;repeat'(first|(refine Zi fun _=>?_;try simp(disch:=first|exact Zw|fail)[*,Zu,Tryz.f100,Zd U.lc,Zd U.lm])|refine Zx ?_|refine Zn ?_ ?_))
def ixO (es:List Yi)(vs:List Use):Int:=match vs.findIdx? (fun u=>decide (u.name∈es)) with
 |some k=>k
 |none=> -1
theorem Zaa0 {c vc m vm:Nat}{es:List Yi}{h:PH}(U:OM c vc m vm es h)(b:Bool)(vs:List Use)(hl:vs.length < 2^30)(K:Pure.Loc)(hc:can K c=true)(hm:can K m=true):Yf vE K 133 [L 69 b (vs.map Xh),.fn 100 [] [.ptr c vc 0]] h=some (.int .i64 (ixO es vs),h):=by
 unfold ixO;refine X6 (ok:=[c,m]) (fn:=Tryz.f133) Tryz.func133 rfl rfl rfl (by simp) (by simp[refs];exact U.reach) (U.can hc hm) U.lt U.below ?_ (by simp);have hcd:=Yg U.lc;have hmd:=Yg U.lm;have hU:OM c vc m vm es {next:=h.next+19,get:=h.get}:=⟨U.o,U.v,U.cm,by have:=U.lc;simp;omega,by have:=U.lm;simp;omega⟩
 have hca:=fun u=>Zaa3 hU u {base:=h.next,lo:=h.next,ok:=[c,m]} (by simp) (by simp)
 cases hk:vs.findIdx? (fun u=>decide (u.name∈es)) with
 |none=>
  have hall:∀i (h:i < vs.length),decide (vs[i].name∈es)=false:=fun i h=>by
   have:=List.findIdx?_eq_none_iff.1 hk vs[i] (List.getElem_mem h);simpa using this
  replace hall:=Hide.mk hall;clear hk
  (refine Zm ?_;repeat'(first|(refine Zi fun _=>?_;try simp(disch:=first|exact Zw|fail)[*,Zu,Tryz.f133,Zd U.lc,Zd U.lm])|refine Zx ?_|refine Zn ?_ ?_))
  refine Zh [0,1,7] (fun n sl h'=>∃i:Nat,n=vs.length - i/\i<=vs.length/\sl 8=some (.int .i64 i)/\h'={h with next:=h.next+19}) vs.length rfl ⟨0,by simp,by simp,by simp,rfl⟩ ?_;rintro n sl h' Rk ⟨i,hn,hi,h8,rfl⟩;simp at Rk;by_cases hil:i < vs.length
  .have hx:=hall.get i hil;have hc1:=hca vs[i];rw[hx]at hc1;clear hca
   (refine Zm ?_;repeat'(first|(refine Zi fun _=>?_;try simp(disch:=first|exact Zw|fail)[*,Zu,Zd U.lc,Zd U.lm])|refine Zx ?_|refine Zn ?_ ?_))
   exact⟨_,by omega,i+1,rfl,by omega,by omega⟩
  .clear hca
   (refine Zm ?_;repeat'(first|(refine Zi fun _=>?_;try simp(disch:=first|exact Zw|fail)[*,Zu,Zd U.lc,Zd U.lm])|refine Zx ?_|refine Zn ?_ ?_))
 |some k=>
  obtain⟨Qb,Yn,hall⟩:=List.findIdx?_eq_some_iff_getElem.1 hk;replace hall:=Hide.mk hall;clear hk
  (refine Zm ?_;repeat'(first|(refine Zi fun _=>?_;try simp(disch:=first|exact Zw|fail)[*,Zu,Tryz.f133,Zd U.lc,Zd U.lm])|refine Zx ?_|refine Zn ?_ ?_))
  refine Zh [0,1,7] (fun n sl h'=>∃i:Nat,n=vs.length - i/\i<=k/\sl 8=some (.int .i64 i)/\h'={h with next:=h.next+19}) vs.length rfl ⟨0,by simp,by simp,by simp,rfl⟩ ?_;rintro n sl h' Rk ⟨i,hn,hi,h8,rfl⟩;simp at Rk;have hil:i < vs.length:=by omega
  have hc1:=hca vs[i];clear hca;by_cases hik:i < k
  .have hx:decide (vs[i].name∈es)=false:=by
    have:=hall.get i hik;simpa using this
   rw[hx]at hc1;clear hall
   (refine Zm ?_;repeat'(first|(refine Zi fun _=>?_;try simp(disch:=first|exact Zw|fail)[*,Zu,Zd U.lc,Zd U.lm])|refine Zx ?_|refine Zn ?_ ?_))
   exact⟨_,by omega,i+1,rfl,by omega,by omega⟩
  .have e:i=k:=by omega
   subst e;rw[Yn]at hc1;clear hall
   (refine Zm ?_;repeat'(first|(refine Zi fun _=>?_;try simp(disch:=first|exact Zw|fail)[*,Zu,Zd U.lc,Zd U.lm])|refine Zx ?_|refine Zn ?_ ?_))
theorem Zafq {c vc m vm:Nat}{es:List Yi}{h:PH}(U:OM c vc m vm es h)(b:Bool)(vs:List Use)(hl:vs.length < 2^30)(K:Pure.Loc)(hc:can K c=true)(hm:can K m=true):Yf vE K 98 [L 69 b (vs.map Xh),.fn 100 [] [.ptr c vc 0]] h=some (.bool (decide (0<=ixO es vs)),h):=by
 refine X6 (ok:=[c,m]) (fn:=Tryz.f98) Tryz.func98 rfl rfl rfl (by simp) (by simp[refs];exact U.reach) (U.can hc hm) U.lt U.below ?_ (by simp);have hcd:=Yg U.lc;have hmd:=Yg U.lm;have hU:OM c vc m vm es {next:=h.next+9,get:=h.get}:=⟨U.o,U.v,U.cm,by have:=U.lc;simp;omega,by have:=U.lm;simp;omega⟩
 have hca:=Zaa0 hU b vs hl {base:=h.next,lo:=h.next,ok:=[c,m]} (by simp) (by simp)
 (refine Zm ?_;repeat'(first|(refine Zi fun _=>?_;try simp(disch:=first|exact Zw|fail)[*,Zu,Tryz.f98,Zd U.lc,Zd U.lm])|refine Zx ?_|refine Zn ?_ ?_))
def Zjq (es:List Yi)(x:Yh):Bool:=decide (x.1∈es)&&!(decide (0<=ixO es (X9 (Zt x.2)).1))
theorem Zafr {c vc m vm:Nat}{es:List Yi}{h:PH}(U:OM c vc m vm es h)(x:Yh){tr:Tr}(v:VT x.2 tr)(K:Pure.Loc)(hc:can K c=true)(hm:can K m=true):Yf vE K 97 [Wv x,.ptr c vc 0] h=some (.bool (Zjq es x),h):=by
 have h99:=Zabe v true
 have hvl:(X9 (Zt x.2)).1.length < 2^30:=by
  have h1:=Zna (Zt x.2) ([],[]);have h2:=Zb2 x.2;have h3:=v.len;unfold X9;simp at h1;omega
 obtain⟨x,r⟩:=x;simp only at h99 hvl;refine X6 (ok:=[c,m]) (fn:=Tryz.f97) Tryz.func97 rfl rfl rfl (by simp) (by simp[refs];exact U.reach) (U.can hc hm) U.lt U.below ?_ (by simp);have hcd:=Yg U.lc;have hmd:=Yg U.lm;have hf:=Zw6 es x;have g1:=U.o;have g2:=U.v;have hca:=fun h' (hU:OM c vc m vm es h')=>Zafq hU true (X9 (Zt r)).1 hvl {base:=h.next,lo:=h.next,ok:=[c,m]} (by simp) (by simp)
 have hU:OM c vc m vm es (({next:=h.next+16,get:=h.get}:PH).put (h.next+2) (h.stamp (h.next+2)) (.cells [.str x,L 58 true (r.map Yb)])):=⟨by simp[hcd,g1],by simp[hmd,g2],U.cm,by have:=U.lc;simp;omega,by have:=U.lm;simp;omega⟩
 replace hca:=hca _ hU;clear hU;unfold Zjq;simp only;generalize (X9 (Zt r)).1=vs at *;generalize ixO es vs=q at *;by_cases hx:x∈es
 .rw [if_pos hx]at hf;rw[decide_eq_true hx]
  (refine Zm ?_;repeat'(first|(refine Zi fun _=>?_;try simp(disch:=first|exact Zw|fail)[*,Zu,Tryz.f97,Zd U.lc,Zd U.lm])|refine Zx ?_|refine Zn ?_ ?_))
 .rw [if_neg hx]at hf;rw[decide_eq_false hx]
  (refine Zm ?_;repeat'(first|(refine Zi fun _=>?_;try simp(disch:=first|exact Zw|fail)[*,Zu,Tryz.f97,Zd U.lc,Zd U.lm])|refine Zx ?_|refine Zn ?_ ?_))
def ixR (es:List Yi)(vs:List Yh):Int:=match vs.findIdx? (Zjq es) with
 |some k=>k
 |none=> -1
theorem Zafs {c vc m vm:Nat}{es:List Yi}{h:PH}(U:OM c vc m vm es h)(b:Bool)(vs:List Yh)(hg:Vd vs)(hl:vs.length < 2^30)(K:Pure.Loc)(hc:can K c=true)(hm:can K m=true):Yf vE K 96 [L 47 b (vs.map Wv),.fn 97 [] [.ptr c vc 0]] h=some (.int .i64 (ixR es vs),h):=by
 unfold ixR;refine X6 (ok:=[c,m]) (fn:=Tryz.f96) Tryz.func96 rfl rfl rfl (by simp) (by simp[refs];exact U.reach) (U.can hc hm) U.lt U.below ?_ (by simp);have hcd:=Yg U.lc;have hmd:=Yg U.lm;have hU:OM c vc m vm es {next:=h.next+19,get:=h.get}:=⟨U.o,U.v,U.cm,by have:=U.lc;simp;omega,by have:=U.lm;simp;omega⟩
 have hca:=fun i (hi:i < vs.length)=>(hg vs[i] (List.getElem_mem hi)).2.2.elim fun tr v=>Zafr hU vs[i] v {base:=h.next,lo:=h.next,ok:=[c,m]} (by simp) (by simp)
 cases hk:vs.findIdx? (Zjq es) with
 |none=>
  have hall:∀i (h:i < vs.length),Zjq es vs[i]=false:=fun i h=>by
   have:=List.findIdx?_eq_none_iff.1 hk vs[i] (List.getElem_mem h);simpa using this
  replace hall:=Hide.mk hall;clear hk
  (refine Zm ?_;repeat'(first|(refine Zi fun _=>?_;try simp(disch:=first|exact Zw|fail)[*,Zu,Tryz.f96,Zd U.lc,Zd U.lm])|refine Zx ?_|refine Zn ?_ ?_))
  refine Zh [0,1,7] (fun n sl h'=>∃i:Nat,n=vs.length - i/\i<=vs.length/\sl 8=some (.int .i64 i)/\h'={h with next:=h.next+19}) vs.length rfl ⟨0,by simp,by simp,by simp,rfl⟩ ?_;rintro n sl h' Rk ⟨i,hn,hi,h8,rfl⟩;simp at Rk;by_cases hil:i < vs.length
  .have hx:=hall.get i hil;have hc1:=hca i hil;rw[hx]at hc1;clear hca
   (refine Zm ?_;repeat'(first|(refine Zi fun _=>?_;try simp(disch:=first|exact Zw|fail)[*,Zu,Zd U.lc,Zd U.lm])|refine Zx ?_|refine Zn ?_ ?_))
   exact⟨_,by omega,i+1,rfl,by omega,by omega⟩
  .clear hca
   (refine Zm ?_;repeat'(first|(refine Zi fun _=>?_;try simp(disch:=first|exact Zw|fail)[*,Zu,Zd U.lc,Zd U.lm])|refine Zx ?_|refine Zn ?_ ?_))
 |some k=>
  obtain⟨Qb,Yn,hall⟩:=List.findIdx?_eq_some_iff_getElem.1 hk;replace hall:=Hide.mk hall;clear hk
  (refine Zm ?_;repeat'(first|(refine Zi fun _=>?_;try simp(disch:=first|exact Zw|fail)[*,Zu,Tryz.f96,Zd U.lc,Zd U.lm])|refine Zx ?_|refine Zn ?_ ?_))
  refine Zh [0,1,7] (fun n sl h'=>∃i:Nat,n=vs.length - i/\i<=k/\sl 8=some (.int .i64 i)/\h'={h with next:=h.next+19}) vs.length rfl ⟨0,by simp,by simp,by simp,rfl⟩ ?_;rintro n sl h' Rk ⟨i,hn,hi,h8,rfl⟩;simp at Rk;have hil:i < vs.length:=by omega
  have hc1:=hca i hil;clear hca;by_cases hik:i < k
  .have hx:Zjq es vs[i]=false:=by
    have:=hall.get i hik;simpa using this
   rw[hx]at hc1;clear hall
   (refine Zm ?_;repeat'(first|(refine Zi fun _=>?_;try simp(disch:=first|exact Zw|fail)[*,Zu,Zd U.lc,Zd U.lm])|refine Zx ?_|refine Zn ?_ ?_))
   exact⟨_,by omega,i+1,rfl,by omega,by omega⟩
  .have e:i=k:=by omega
   subst e;rw[Yn]at hc1;clear hall
   (refine Zm ?_;repeat'(first|(refine Zi fun _=>?_;try simp(disch:=first|exact Zw|fail)[*,Zu,Zd U.lc,Zd U.lm])|refine Zx ?_|refine Zn ?_ ?_))
def Zqm (ns O:List Yi):List Yi:=O.foldl List.erase ns
theorem Zy3 (ns O:List Yi)(x:Yi):Zqm ns (O++[x])=(Zqm ns O).erase x:=by
 unfold Zqm;rw[List.foldl_append];rfl
theorem Zqq {ns:List Yi}(h:ns.Nodup)(O:List Yi)(x:Yi):x∈Zqm ns O↔x∈ns/\x∉O:=by
 unfold Zqm
 induction O generalizing ns with
 |nil=>simp
 |cons y O ih=>
  rw[List.foldl_cons,ih (h.erase y),h.mem_erase_iff];simp only[List.mem_cons,not_or];constructor
  .rintro ⟨⟨h1,h2⟩,h3⟩;exact⟨h2,h1,h3⟩
  .rintro ⟨h1,h2,h3⟩;exact⟨⟨h2,h1⟩,h3⟩
def nmI (s:List Yh)(out:List Nat):List Yi:=out.map fun i=>((s[i]?).map (·.1)).getD []
def Sk (s:List Yh)(out:List Nat):List Yi:=Zqm (s.map (·.1)) (nmI s out)
theorem Zy2 (s:List Yh)(out:List Nat)(i:Nat)(h:i < s.length):Sk s (out++[i])=(Sk s out).erase s[i].1:=by
 unfold Sk nmI;rw[List.map_append,List.map_cons,List.map_nil,Zy3];simp[h]
def Vy (s:List Yh):Nat->List Nat->List Nat×Int
 | 0,out=>(out,0)
 |n+1,out=>match s.findIdx? (Zjq (Sk s out)) with
  |none=>([],10)
  |some i=>Vy s n (out++[i])
def V3 (s:List Yh):List Nat×Int:=if ¬(s.map (·.1)).Nodup then ([],5) else Vy s s.length []
abbrev Zzf (i:Nat):PV:=.int .i64 (i:Int)
abbrev ordE (x:List Nat×Int):PV:=.tuple [L 3 true (x.1.map Zzf),.int .i64 x.2]
theorem Zafk (es:List Yi)(x:Yi):Q6 (es.map fun s=>(PV.str s,PV.bool true)) (.str x)=some ((es.erase x).map fun s=>(PV.str s,PV.bool true)):=by
 induction es with
 |nil=>rfl
 |cons e es ih=>
  simp only[List.map_cons,Q6,Vp,List.erase_cons];by_cases h:x=e
  .subst h;simp
  .have h1:(x==e)=false:=by simpa using h
   have h2:(e==x)=false:=by simpa using fun e'=>h e'.symm
   simp[h1,h2,ih]
theorem Zrw {S:List Nat}{K:Pure.Loc}{h:PH}{g:Nat}{v:PV}{xs:List PV}(hA:Pure.Acc S K h g v xs):∀x,x∈ownV v->K.base<=x:=by
 rcases hA with⟨rfl,rfl⟩ | ⟨d,ver,Yn,_,rfl,hg⟩
 .intro x hx;simp[Pure.ownV]at hx
 .intro x hx;simp[Pure.ownV]at hx;omega
set_option maxHeartbeats 4000000 in
theorem Zabr (b:Bool)(s:List Yh)(hg:Vd s)(hl:s.length<=1000):Xn vE 40 [L 47 b (s.map Wv)] (ordE (V3 s)):=by
 have h50:=Zabo b s (by omega) hg;have h52:=Zabm b s (by omega);have h51:=Zabn true (s.map (·.1)) (by simp;omega);have hnl:(s.map (·.1)).length=s.length:=by simp
 by_cases hN:(s.map (·.1)).Nodup
 .rw [decide_eq_true hN]at h51;have hV:V3 s=Vy s s.length []:=by unfold V3;rw[if_neg (by simpa using hN)]
  rw[hV];clear hV
  have hnd:∀i (hi:i < s.length),s[i].1∉(s.take i).map (·.1):=by
   intro i hi hm;have h1:=hN.sublist (List.take_sublist (i+1) _);rw[Y8 _ i (by simpa using hi),List.nodup_append]at h1;exact h1.2.2 _ (by simpa using hm) _ (by simp) rfl
  have hgo:∃V,Vy s s.length []=V:=⟨_,rfl⟩
  obtain⟨V,hgo⟩:=hgo;rw[hgo];have Xy:Sk s []=s.map (·.1):=rfl;replace hgo:=Hide.mk hgo;replace hg:=Hide.mk hg;replace hnd:=Hide.mk hnd;replace Xy:=Hide.mk Xy;clear hN;generalize hns:s.map (·.1)=ns at h51 h52 hnl;replace hns:=Hide.mk hns;intro K H;refine Wc Tryz.func40 ?_
  (refine Zm ?_;repeat'(first|(refine Zi fun _=>?_;try simp(disch:=first|exact Zw|fail)[*,Zu,Tryz.f40])|refine Zx ?_|refine Zn ?_ ?_))
  generalize hv17:H.stamp (H.next+17)=v17;generalize hv4:H.stamp (H.next+4)=v4;refine Zh [0,4,18,19] (fun n sl h=>∃i:Nat,n=s.length - i/\i<=s.length/\sl 20=some (.int .i64 i)/\h.get (H.next+17)=some (v17,Znb ((s.take i).map (·.1)))/\h.get (H.next+4)=some (v4,.cells [.map (H.next+17) v17])/\h.next=H.next+49) s.length rfl ⟨0,by simp,by simp,by simp,by simp[*],by simp[*],by simp⟩ ?_;rintro n sl h Rk ⟨i,hn,hi,h20,g17,g4,Uf⟩;simp at Rk;by_cases hlt:i < s.length
  .have Qp:=Zsd ((s.take i).map (·.1)) s[i].1 (hnd.get i hlt);have e2:(s.take i).map (·.1)++[s[i].1]=(s.take (i+1)).map (·.1):=by rw[Y8 _ i hlt,List.map_append];rfl
   rw[e2]at Qp;have hT2:∃T2,(s.take (i+1)).map (·.1)=T2:=⟨_,rfl⟩
   obtain⟨T2,hT2⟩:=hT2;rw[hT2]at Qp;replace hT2:=Hide.mk hT2;generalize (s.take i).map (·.1)=T at *;clear e2;generalize hsi:s[i]=y at *;obtain⟨x,r⟩:=y;simp only at Qp
   (refine Zm ?_;repeat'(first|(refine Zi fun _=>?_;try simp(disch:=first|exact Zw|fail)[*,Zu])|refine Zx ?_|refine Zn ?_ ?_))
   exact⟨_,by omega,i+1,rfl,by omega,by omega,by rw[<- hT2.get,List.map_map,List.map_take]⟩
  .have hi2:i=s.length:=by omega
   subst hi2;rw[List.take_length]at g17
   (refine Zm ?_;repeat'(first|(refine Zi fun _=>?_;try simp(disch:=first|exact Zw|fail)[*,Zu])|refine Zx ?_|refine Zn ?_ ?_))
   refine Zh [0,4] (fun n sl h=>∃(out:List Nat) (w:PV),n=s.length - out.length/\out.length<=s.length/\Vy s (s.length - out.length) out=V/\sl 7=some w/\Pure.Acc [47] ⟨H.next,H.next,[]⟩ h 3 w (out.map Zzf)/\OM (H.next+4) v4 (H.next+17) v17 (Sk s out) h/\h.next=H.next+49) s.length rfl ⟨[],.nils,by simp,by simp,by simpa using hgo.get,by simp,Pure.Acc.nil,⟨by simp[*],by rw[Xy.get];simpa using g17,by omega,by omega,by omega⟩,by simp[*]⟩ ?_;clear g17 g4 hgo;rintro n sl h Rk ⟨out,w,hn,hol,hV,h7,hA,hU,Uf⟩;simp at Rk;have Z4l:=Zafs hU b s hg.get (by omega) {base:=H.next,lo:=H.next,ok:=[]} (by simp) (by simp);have hlk:=hA.lenK (e:=3);by_cases hlt:out.length < s.length
   .obtain ⟨m,hm⟩:∃m,s.length - out.length=m+1:=⟨s.length - out.length - 1,by omega⟩
    rw[hm]at hV;simp only[Vy]at hV;unfold ixR at Z4l;cases hf:s.findIdx? (Zjq (Sk s out)) with
    |none=>
     rw[hf]at hV Z4l;simp only at hV Z4l;subst hV
     (refine Zm ?_;repeat'(first|(refine Zi fun _=>?_;try simp(disch:=first|exact Zw|fail)[*,Zu])|refine Zx ?_|refine Zn ?_ ?_))
    |some k=>
     rw[hf]at hV Z4l;simp only at hV Z4l;obtain⟨hk,_⟩:=List.findIdx?_eq_some_iff_getElem.1 hf;clear hf;have hos:=Zy2 s out k hk;have g1:=hU.o;have g2:=hU.v;have hds:=Zafk (Sk s out) s[k].1;rw[<- hos]at hds;obtain⟨w',h',Sv,X4,Ts,hgt⟩:=(hA.frame (h':=h.put (H.next+17) v17 (Znb (Sk s (out++[k])))) (fun d hd=>by simp at hd;subst hd;simp)).app (dd:=47) (ys:=[Zzf k]) (T:={k:=.int .i64,size:=1,bytes:=8,zero:=[.int .i64 0]}) (by simp) rfl (by simp only[List.length_map,List.length_cons,List.length_nil];omega) (by decide) (by decide) (by simp);simp only[List.length_cons,List.length_nil]at Sv;have hs1:=hA.same (n:=3);have hs2:=X4.same (n:=3);have hU':Hide (OM (H.next+4) v4 (H.next+17) v17 (Sk s (out++[k])) h'):=Hide.mk ⟨by rw[hgt _ (by simp)];simp[g1],by rw[hgt _ (by simp)];simp,by omega,by rw[Ts];simp;omega,by rw[Ts];simp;omega⟩;have Zsr:h'.next=H.next+49:=by rw[Ts];exact Uf
     have Xg:Hide (Pure.Acc [47] ⟨H.next,H.next,[]⟩ h' 3 w' ((out++[k]).map Zzf)):=Hide.mk (by rw[List.map_append];exact X4);clear X4 hgt hA Ts hU hos;generalize hO2:Sk s (out++[k])=O2 at *;replace hO2:=Hide.mk hO2;replace hV:=Hide.mk hV;generalize Sk s out=O1 at *;generalize hy:s[k]=y at *;obtain⟨x,r⟩:=y;simp only at hds
     (refine Zm ?_;repeat'(first|(refine Zi fun _=>?_;try simp(disch:=first|exact Zw|fail)[*,Zu])|refine Zx ?_|refine Zn ?_ ?_))
     refine Yj false false [] [] [] [] false (by decide +kernel) ?_
     (refine Zm ?_;repeat'(first|(refine Zi fun _=>?_;try simp(disch:=first|exact Zw|fail)[*,Zu])|refine Zx ?_|refine Zn ?_ ?_))
     exact⟨m,by omega,out++[k],by simp;omega,by simp;omega,by rw[show s.length - (out++[k]).length=m by simp;omega];exact hV.get,Xg.get,by rw[hO2.get];exact hU'.get⟩
   .have e0:s.length - out.length=0:=by omega
    rw[e0]at hV;simp only[Vy]at hV;subst hV;have Vi:=hA.inl;have hot:=Zrw hA;clear hA hU Z4l
    (refine Zm ?_;repeat'(first|(refine Zi fun _=>?_;try simp(disch:=first|exact Zw|fail)[*,Zu])|refine Zx ?_|refine Zn ?_ ?_))
    exact hot
 .have hV:V3 s=([],5):=by unfold V3;rw[if_pos hN]
  rw[hV];rw[decide_eq_false hN]at h51;clear hV hN hg;generalize s.map (·.1)=ns at *;intro K H;refine Wc Tryz.func40 ?_
  (refine Zm ?_;repeat'(first|(refine Zi fun _=>?_;try simp(disch:=first|exact Zw|fail)[*,Zu,Tryz.f40])|refine Zx ?_|refine Zn ?_ ?_))
def Zyi (s:List Yh)(out:List Nat)(x:Yi):Bool:=decide (Tu s x < 0)||decide ((Tu s x).toNat∈out)
def rdR (s:List Yh)(out:List Nat)(i:Nat)(x:Yh):Bool:=!(decide (i∈out))&&(Rn x.2).all fun v=>Zyi s out v.name
theorem Z1j {s:List Yh}(hN:(s.map (·.1)).Nodup){out:List Nat}(ho:∀i∈out,i < s.length)(i:Nat)(hi:i < s.length):s[i].1∈nmI s out↔i∈out:=by
 unfold nmI;rw[List.mem_map];constructor
 .rintro ⟨j,hj,e⟩;have hjl:=ho j hj;simp only[hjl,List.getElem?_eq_getElem,Option.map_some,Option.getD_some]at e;have:(s.map (·.1))[j]'(by simpa using hjl)=(s.map (·.1))[i]'(by simpa using hi):=by simpa using e
  have:=(List.getElem_inj hN).1 this;rw[<- this];exact hj
 .intro h;exact⟨i,h,by simp[hi]⟩
theorem Zqp {s:List Yh}(hN:(s.map (·.1)).Nodup){out:List Nat}(ho:∀i∈out,i < s.length)(x:Yi):x∉Sk s out↔Zyi s out x=true:=by
 unfold Sk Zyi;rw[Zqq hN];rcases Zc2 (s:=s) (x:=x) with⟨h1,h2⟩ | ⟨k,hk,h1,h2,h3⟩
 .have:x∉s.map (·.1):=Zqb.1 h1;simp only[h1,decide_true,Bool.true_or,iff_true];exact fun h=>this h.1
 .have h4:x∈s.map (·.1):=List.mem_map.2 ⟨s[k],List.getElem_mem hk,h3⟩;have h5:=Z1j hN ho k hk;rw[h3]at h5;rw[h1];simp only[Bool.or_eq_true,decide_eq_true_eq,Int.toNat_natCast];rw[<- h5];constructor
  .intro h;right;exact Classical.byContradiction fun h6=>h ⟨h4,h6⟩
  .rintro (h | h)
   .omega
   .exact fun h6=>h6.2 h
theorem Zaeb {es:List Yi}{vs:List Use}:ixO es vs < 0↔∀u∈vs,u.name∉es:=by
 unfold ixO;cases hk:vs.findIdx? (fun u=>decide (u.name∈es)) with
 |none=>
  rw[List.findIdx?_eq_none_iff]at hk;exact⟨fun _ u hu=>by simpa using hk u hu,fun _=>by decide⟩
 |some k=>
  obtain⟨Qb,Yn,_⟩:=List.findIdx?_eq_some_iff_getElem.1 hk;exact⟨fun h=>by simp only at h;omega,fun h=>absurd (by simpa using Yn) (h _ (List.getElem_mem Qb))⟩
theorem Zaqv {s:List Yh}(hN:(s.map (·.1)).Nodup)(hg:Vd s){out:List Nat}(ho:∀i∈out,i < s.length)(i:Nat)(hi:i < s.length):Zjq (Sk s out) s[i]=rdR s out i s[i]:=by
 obtain⟨_,_,tr,v⟩:=hg _ (List.getElem_mem hi);unfold Zjq rdR
 have h1:decide (s[i].1∈Sk s out)=!(decide (i∈out)):=by
  have h2:=Zqq hN (nmI s out) s[i].1;have h3:=Z1j hN ho i hi;have h4:s[i].1∈s.map (·.1):=List.mem_map.2 ⟨_,List.getElem_mem hi,rfl⟩;rw[Bool.eq_iff_iff];simp only[decide_eq_true_eq,Bool.not_eq_true',decide_eq_false_iff_not];unfold Sk;rw[h2,h3];exact⟨fun h=>h.2,fun h=>⟨h4,h⟩⟩
 rw[h1];congr 1;rw[Bool.eq_iff_iff];simp only[Bool.not_eq_true',decide_eq_false_iff_not,Int.not_le,List.all_eq_true];rw[Zaeb];constructor
 .intro h u hu
  have hh:Qk (Rn s[i].2) u.name=true:=by
   unfold Qk;rw[List.any_eq_true];exact⟨u,hu,by simp⟩
  obtain⟨n,hn,h4,e⟩:=(Zhk v u.name).1 hh;have hw:=Zcc hn h4;rw[<- Zqp hN ho,<- e];exact h ⟨false,n.name,[],n.sort⟩ (by unfold X9;rw[Zc8];simp[hw])
 .intro h u hu;unfold X9 at hu;rw[Zc8]at hu;simp only[List.not_mem_nil,false_or]at hu;obtain⟨n,hn,h4,e1,e2⟩:=Zhn hu.1 hu.2;have hh:Qk (Rn s[i].2) u.name=true:=(Zhk v u.name).2 ⟨n,hn,h4,by first | exact e1 | exact e1.symm | simp[e1,e2]⟩;unfold Qk at hh;rw[List.any_eq_true]at hh;obtain⟨w,hw,e⟩:=hh;rw[Zqp hN ho];have:=h w hw;simp only[beq_iff_eq]at e;rw[<- e];exact this
def nxI (n:Nat)(f:Nat->Bool)(j:Nat):Int:=match ((List.range n).drop j).find? f with
 |some k=>k
 |none=> -1
theorem Z7m {n:Nat}{f:Nat->Bool}{j:Nat}(h:j < n):nxI n f j=if f j then (j:Int) else nxI n f (j+1):=by
 unfold nxI;rw[List.drop_eq_getElem_cons (by simpa using h),List.find?_cons];simp only[List.getElem_range];cases f j<;>simp
theorem Zadv {n:Nat}{f:Nat->Bool}:nxI n f n = -1:=by
 unfold nxI;rw[List.drop_of_length_le (by simp)];rfl
theorem Z7l {s:List Yh}{g:Yh->Bool}{f:Nat->Bool}(h:∀i (hi:i < s.length),g s[i]=f i):nxI s.length f 0=match s.findIdx? g with
  |some k=>(k:Int)
  |none=> -1:=by
 unfold nxI;rw[List.drop_zero];cases hf:s.findIdx? g with
 |none=>
  have:(List.range s.length).find? f=none:=by
   rw[List.find?_eq_none];intro i hi;have hi:=List.mem_range.1 hi;have:=List.findIdx?_eq_none_iff.1 hf s[i] (List.getElem_mem hi);rw[<- h i hi];simpa using this
  rw[this]
 |some k=>
  obtain⟨hk,Yn,hall⟩:=List.findIdx?_eq_some_iff_getElem.1 hf
  have:(List.range s.length).find? f=some k:=by
   rw[List.find?_eq_some_iff_getElem];refine⟨by rw[<- h k hk];exact Yn,k,by simpa using hk,by simp,fun j hj=>?_⟩;simp only[List.getElem_range];rw[<- h j (by omega)];simpa using hall j hj
  rw[this]
def Zgq (n:Nat)(out:List Nat):List PV:=(List.range n).map fun i=>PV.bool (decide (i∈out))
theorem Zu7 (n:Nat)(out:List Nat):(Zgq n out).length=n:=by simp[Zgq]
theorem Zd9 {n:Nat}{out:List Nat}{i:Nat}(h:i < (Zgq n out).length):(Zgq n out)[i]=PV.bool (decide (i∈out)):=by simp[Zgq]
theorem Z65 (n:Nat):Zgq n []=List.replicate n (PV.bool false):=by
 unfold Zgq;rw[List.eq_replicate_iff];simp
theorem Z64 (n:Nat)(out:List Nat)(k:Nat):(Zgq n out).set k (PV.bool true)=Zgq n (out++[k]):=by
 apply List.ext_getElem
 .simp [Zgq]
 .intro i h1 h2;rw[List.getElem_set,Zd9 h2];by_cases e:k=i
  .subst e;simp
  .rw [if_neg e,Zd9 (by simpa using h1)];simp[Ne.symm e]
set_option maxHeartbeats 4000000 in
theorem Zabq (b:Bool)(s:List Yh)(hg:Vd s)(hl:s.length<=1000):Xn vE 41 [L 47 b (s.map Wv)] (ordE (V3 s)):=by
 have h60:=Zabk b s (by omega) hg;have h61:=Zabj b s (by omega);by_cases hN:(s.map (·.1)).Nodup
 .rw [decide_eq_true hN]at h61;have hV:V3 s=Vy s s.length []:=by unfold V3;rw[if_neg (by simpa using hN)]
  rw[hV];clear hV;have hgo:∃V,Vy s s.length []=V:=⟨_,rfl⟩
  obtain⟨V,hgo⟩:=hgo;rw[hgo];have hrd:∀out:List Nat,(∀i∈out,i < s.length)->∀i (hi:i < s.length),Zjq (Sk s out) s[i]=rdR s out i s[i]:=fun out ho i hi=>Zaqv hN hg ho i hi
  have h65:∀i (hi:i < s.length),Xn vE 65 [L 58 true (s[i].2.map Yb)] (L 69 true ((Rn s[i].2).map Xh))/\(Rn s[i].2).length<=20000:=by
   intro i hi;obtain⟨_,_,tr,v⟩:=hg _ (List.getElem_mem hi);refine⟨Zabh true _ v.short (by have:=v.len;omega),?_⟩;unfold Rn;have h1:=Zo3 s[i].2 [];have h2:=v.len;split<;>simp at*<;>omega
  have h62:=fun x=>Zoz b s x (by omega)
  replace hgo:=Hide.mk hgo;replace hrd:=Hide.mk hrd;replace h65:=Hide.mk h65;replace h62:=Hide.mk h62;have hr0:=Hide.mk (Z65 s.length);clear hN hg;intro K H;refine Wc Tryz.func41 ?_
  (refine Zm ?_;repeat'(first|(refine Zi fun _=>?_;try simp(disch:=first|exact Zw|fail)[*,Zu,Tryz.f41])|refine Zx ?_|refine Zn ?_ ?_))
  generalize hv21:H.stamp (H.next+21)=v21;refine Zh [0,5] (fun n sl h=>∃(out:List Nat) (w:PV),n=s.length - out.length/\out.length<=s.length/\(∀i∈out,i < s.length)/\Vy s (s.length - out.length) out=V/\sl 4=some w/\Pure.Acc [79] ⟨H.next,H.next,[]⟩ h 3 w (out.map Zzf)/\h.get (H.next+21)=some (v21,.row 4 true (Zgq s.length out))/\h.next=H.next+81) s.length rfl ⟨[],.nils,by simp,by simp,by simp,by simpa using hgo.get,by simp,Pure.Acc.nil,by rw[hr0.get];simp[*],by simp[*]⟩ ?_;clear hgo hr0;rintro n sl h Rk ⟨out,w,hn,hol,hos,hV,h4,hA,g21,Uf⟩;simp at Rk;have hlk:=hA.lenK (e:=3);by_cases hlt:out.length < s.length
  .obtain ⟨m,hm⟩:∃m,s.length - out.length=m+1:=⟨s.length - out.length - 1,by omega⟩
   rw[hm]at hV;simp only[Vy]at hV;have hf:∃f:Nat->Bool,∀i (hi:i < s.length),rdR s out i s[i]=f i:=⟨fun i=>if hi:i < s.length then rdR s out i s[i] else false,fun i hi=>by simp[hi]⟩
   obtain⟨f,hf⟩:=hf;have hz:=Z7l (s:=s) (g:=Zjq (Sk s out)) (f:=f) (fun i hi=>by rw[hrd.get out hos i hi,hf i hi]);have Ws:=hA.same (n:=3);replace hV:=Hide.mk hV;replace hz:=Hide.mk hz;replace hf:=Hide.mk hf;replace hA:=Hide.mk hA
   (refine Zm ?_;repeat'(first|(refine Zi fun _=>?_;try simp(disch:=first|exact Zw|fail)[*,Zu])|refine Zx ?_|refine Zn ?_ ?_))
   refine Zh [0,4,5] (fun n Yv h'=>∃j:Nat,n=j/\j<=s.length/\Yv 7=some (.int .i64 ((j:Int) - 1))/\Yv 6=some (.int .i64 (nxI s.length f j))/\h'=h) s.length rfl ⟨s.length,rfl,by omega,by simp,by simp[Zadv],rfl⟩ ?_;rintro n3 sl3 h3 hfr3 ⟨j,hn3,hj,h7,h6,rfl⟩;simp[Rk,h4]at hfr3;by_cases hj0:0 < j
   .obtain ⟨i,rfl⟩:∃i,j=i+1:=⟨j - 1,by omega⟩
    have hil:i < s.length:=by omega
    have hrl:=Zu7 s.length out;have hrg:=Zd9 (n:=s.length) (out:=out) (i:=i) (by rw[hrl];exact hil);obtain⟨h65i,hvl⟩:=h65.get i hil;have Xj:=Z7m (n:=s.length) (f:=f) hil;have hfi:=hf.get i hil;unfold rdR at hfi;generalize hy:s[i]=y at *;obtain⟨x,r⟩:=y;simp only at h65i hvl hfi;generalize hvs:Rn r=vs at *;generalize hr0:decide (i∈out)=r0 at *;have V6:∀q:Int,0<=q->q < s.length->∃hh:q.toNat < (Zgq s.length out).length,(Zgq s.length out)[q.toNat]=PV.bool (decide (q.toNat∈out)):=fun q hq1 hq2=>⟨by rw[hrl];omega,Zd9 _⟩
    have Zds:∀x,Tu s x < s.length:=fun x=>by
     rcases Zc2 (s:=s) (x:=x) with⟨h1,_⟩ | ⟨k,hk,h1,_⟩<;>omega
    replace V6:=Hide.mk V6;replace Zds:=Hide.mk Zds
    (refine Zm ?_;repeat'(first|(refine Zi fun _=>?_;try simp(disch:=first|exact Zw|fail)[*,Zu])|refine Zx ?_|refine Zn ?_ ?_))
    refine Zh [0,4,5,6,7,9] (fun n Yv h'=>∃k:Nat,n=vs.length - k/\k<=vs.length/\Yv 10=some (.int .i64 k)/\Yv 8=some (.bool (!r0&&(vs.take k).all fun v=>Zyi s out v.name))/\h'=h3) vs.length rfl ⟨0,by simp,by simp,by simp,by simp[*],rfl⟩ ?_;rintro n5 sl5 h5 hfr5 ⟨k,hn5,hk,h10,h8,rfl⟩;simp[Rk,h4,hfr3,h7,h6]at hfr5;cases hB:(!r0&&(vs.take k).all fun v=>Zyi s out v.name) with
    |false=>
     rw[hB]at h8
     have hff:f i=false:=by
      rw[<- hfi];cases r0 with
      |true=>rfl
      |false=>
       simp only[Bool.not_false,Bool.true_and]at hB ⊢;rw[<- List.take_append_drop k vs,List.all_append,hB];rfl
     rw[hff]at Xj;simp only[Bool.false_eq_true,if_false]at Xj;clear hfi hB
     (refine Zm ?_;repeat'(first|(refine Zi fun _=>?_;try simp(disch:=first|exact Zw|fail)[*,Zu])|refine Zx ?_|refine Zn ?_ ?_))
     all_goals exact⟨i,by omega,by omega,rfl,Xj.symm⟩
    |true=>
     rw[hB]at h8;by_cases Qb:k < vs.length
     .have htk:=Y8 vs k Qb;have h62k:=h62.get vs[k].name;have hq2:=Zds.get vs[k].name
      have hB2:(!r0&&(vs.take (k+1)).all fun v=>Zyi s out v.name)=(decide (Tu s vs[k].name < 0)||decide ((Tu s vs[k].name).toNat∈out)):=by
       rw[htk,List.all_append,<- Bool.and_assoc,hB];simp[Zyi]
      replace hB2:=Hide.mk hB2;clear htk hB hfi;generalize hw:vs[k]=u at *;generalize Tu s u.name=q at *;by_cases hq:q < 0
      . (refine Zm ?_;repeat'(first|(refine Zi fun _=>?_;try simp(disch:=first|exact Zw|fail)[*,Zu])|refine Zx ?_|refine Zn ?_ ?_))
        exact⟨_,by omega,k+1,rfl,by omega,by omega,by have:=hB2.get;simpa[hq]using this⟩
      .obtain ⟨hqh,hqr⟩:=V6.get q (by omega) hq2
       (refine Zm ?_;repeat'(first|(refine Zi fun _=>?_;try simp(disch:=first|exact Zw|fail)[*,Zu])|refine Zx ?_|refine Zn ?_ ?_))
       exact⟨_,by omega,k+1,rfl,by omega,by omega,by rw[hB2.get];simp[hq]⟩
     .have:k=vs.length:=by omega
      subst this;rw[List.take_length,hfi]at hB;rw[hB]at Xj;simp only[if_true]at Xj;clear hfi
      (refine Zm ?_;repeat'(first|(refine Zi fun _=>?_;try simp(disch:=first|exact Zw|fail)[*,Zu])|refine Zx ?_|refine Zn ?_ ?_))
      exact⟨i,by omega,by omega,rfl,Xj.symm⟩
   .have:j=0:=by omega
    subst this;have hz2:=hz.get;have hV2:=hV.get;cases hfx:s.findIdx? (Zjq (Sk s out)) with
    |none=>
     rw[hfx]at hz2 hV2;simp only at hz2 hV2;subst hV2;rw[hz2]at h6;clear hz2 hfx
     (refine Zm ?_;repeat'(first|(refine Zi fun _=>?_;try simp(disch:=first|exact Zw|fail)[*,Zu])|refine Zx ?_|refine Zn ?_ ?_))
    |some k=>
     obtain⟨hk,_⟩:=List.findIdx?_eq_some_iff_getElem.1 hfx;rw[hfx]at hz2 hV2;simp only at hz2 hV2;rw[hz2]at h6;clear hz2 hfx;have hrl:=Zu7 s.length out;have hrs:=Z64 s.length out k;have hrg:=Zd9 (n:=s.length) (out:=out) (i:=k) (by rw[hrl];exact hk);obtain⟨w',h',Sv,X4,Ts,hgt⟩:=(hA.get.frame (h':=h3.put (H.next+21) v21 (.row 4 true (Zgq s.length (out++[k])))) (fun d hd=>by simp at hd;subst hd;simp)).app (dd:=79) (ys:=[Zzf k]) (T:={k:=.int .i64,size:=1,bytes:=8,zero:=[.int .i64 0]}) (by simp) rfl (by simp only[List.length_map,List.length_cons,List.length_nil];omega) (by decide) (by decide) (by simp);simp only[List.length_cons,List.length_nil]at Sv;have hs2:=X4.same (n:=3);have Zsr:h'.next=H.next+81:=by rw[Ts];exact Uf
     have hg2:h'.get (H.next+21)=some (v21,.row 4 true (Zgq s.length (out++[k]))):=by rw[hgt _ (by simp)];simp
     have Xg:Hide (Pure.Acc [79] ⟨H.next,H.next,[]⟩ h' 3 w' ((out++[k]).map Zzf)):=Hide.mk (by rw[List.map_append];exact X4);replace hV2:=Hide.mk hV2;clear X4 hgt hA Ts
     (refine Zm ?_;repeat'(first|(refine Zi fun _=>?_;try simp(disch:=first|exact Zw|fail)[*,Zu])|refine Zx ?_|refine Zn ?_ ?_))
     exact⟨m,by omega,out++[k],by simp;omega,by simp;omega,fun i hi=>by rcases List.mem_append.1 hi with h | h;exact hos i h;simp at h;omega,by rw[show s.length - (out++[k]).length=m by simp;omega];exact hV2.get,Xg.get,rfl⟩
  .have e0:s.length - out.length=0:=by omega
   rw[e0]at hV;simp only[Vy]at hV;subst hV;have Vi:=hA.inl;have hot:=Zrw hA;clear hA
   (refine Zm ?_;repeat'(first|(refine Zi fun _=>?_;try simp(disch:=first|exact Zw|fail)[*,Zu])|refine Zx ?_|refine Zn ?_ ?_))
   exact hot
 .have hV:V3 s=([],5):=by unfold V3;rw[if_pos hN]
  rw[hV];rw[decide_eq_false hN]at h61;clear hV hN hg;intro K H;refine Wc Tryz.func41 ?_
  (refine Zm ?_;repeat'(first|(refine Zi fun _=>?_;try simp(disch:=first|exact Zw|fail)[*,Zu,Tryz.f41])|refine Zx ?_|refine Zn ?_ ?_))
theorem Z0o (t:List Nd)(s:List Yh):(X0 t s).1.length<=20000:=by
 unfold X0;split
 .simp
 .split
  .simp
  .split
   .simp
   .split
    .simp
    .split
     .simp only;omega
     .simp
abbrev z0:Yh:=([],[])
def Uj (s:List Yh):List Nat->List Yh->List Yh->List Yh×Int
 | [],out,cl=>(out,0)
 |i::r,out,cl=>if (X0 (s.getD i z0).2 cl).2=0 then Uj s r (out.set i ((s.getD i z0).1,(X0 (s.getD i z0).2 cl).1)) (cl++[((s.getD i z0).1,(X0 (s.getD i z0).2 cl).1)]) else ([],(X0 (s.getD i z0).2 cl).2)
def R5 (s:List Yh):List Yh×Int:=if (V3 s).2=0 then Uj s (V3 s).1 (List.replicate s.length z0) [] else ([],(V3 s).2)
def To (s:List Yh):Prop:=∀x∈s,Tm x.1=true/\x.1.length<=2^19/\(∃tr,VT x.2 tr)/\∀n∈x.2,n.op≠5
theorem To.good {s:List Yh}(h:To s):Vd s:=fun x hx=>⟨(h x hx).1,(h x hx).2.1,(h x hx).2.2.1⟩
theorem To.nofn {s:List Yh}(h:To s):∀x∈s,∀u∈Zt x.2,u.fn=false:=by
 intro x hx u hu;obtain⟨n,_,_,rfl⟩:=Zhm (h x hx).2.2.2 u hu;rfl
theorem Zabc {t:List Nd}{s:List Yh}(ht:∀n∈t,n.op≠5)(hs:To s):∀n∈Sq s t,n.op≠5:=by
 intro n hn;unfold Sq at hn;rw[List.mem_flatMap]at hn;obtain⟨m,hm,hn⟩:=hn;rcases Tx s m with⟨_,_,_,e⟩ | ⟨k,hk,_,_,_,e,_⟩
 .rw [e]at hn;simp at hn;subst hn;exact ht n hm
 .rw [e]at hn;exact (hs s[k] (List.getElem_mem hk)).2.2.2 n hn
theorem To.app {s:List Yh}(h:To s){x:Yh}(hx:Tm x.1=true/\x.1.length<=2^19/\(∃tr,VT x.2 tr)/\∀n∈x.2,n.op≠5):To (s++[x]):=by
 intro y hy;rcases List.mem_append.1 hy with hy | hy
 .exact h y hy
 .simp at hy;subst hy;exact hx
theorem To.step {s cl:List Yh}(hs:To s)(hc:To cl){i:Nat}(hi:i < s.length)(h0:(X0 s[i].2 cl).2=0):To (cl++[(s[i].1,(X0 s[i].2 cl).1)]):=by
 obtain⟨q1,q2,⟨tr,v⟩,q4⟩:=hs _ (List.getElem_mem hi);obtain⟨e,tr',v',_⟩:=Zxr v hc.good h0;refine hc.app ⟨q1,q2,⟨tr',by rw[e];exact v'⟩,?_⟩;rw[e];exact Zabc q4 hc
theorem Zm7 {s:List Yh}:∀(n:Nat) (out:List Nat),(∀i∈out,i < s.length)->(Vy s n out).1.length<=out.length+n/\∀i∈(Vy s n out).1,i < s.length
 | 0,out,h=>⟨by simp[Vy],h⟩
 |n+1,out,h=>by
  simp only[Vy];split
  .simp
  .rename_i k hk;obtain⟨Qb,_⟩:=List.findIdx?_eq_some_iff_getElem.1 hk
   have:=Zm7 n (out++[k]) (fun i hi=>by
    rcases List.mem_append.1 hi with h1 | h1
    .exact h i h1
    .simp at h1;omega)
   refine⟨?_,this.2⟩;have h3:=this.1;simp at h3;omega
theorem Zju (s:List Yh):(V3 s).1.length<=s.length/\∀i∈(V3 s).1,i < s.length:=by
 unfold V3;split
 .simp
 .have:=Zm7 (s:=s) s.length [] (by simp);simpa using this
theorem Zle {s:List Yh}:∀(l:List Nat) (out cl:List Yh),(Uj s l out cl).1.length<=out.length
 | [],out,cl=>by simp[Uj]
 |i::r,out,cl=>by
  simp only[Uj];split
  .have:=Zle (s:=s) r (out.set i ((s.getD i z0).1,(X0 (s.getD i z0).2 cl).1)) (cl++[((s.getD i z0).1,(X0 (s.getD i z0).2 cl).1)]);simpa using this
  .simp
theorem Zi4 {s:List Yh}:∀(l:List Nat) (out cl:List Yh),(∀x∈out,x.2.length<=20000)->∀x∈(Uj s l out cl).1,x.2.length<=20000
 | [],out,cl,h=>by simpa[Uj]using h
 |i::r,out,cl,h=>by
  simp only[Uj];split
  .refine Zi4 (s:=s) r _ _ fun x hx=>?_
   rcases List.mem_or_eq_of_mem_set hx with h1 | h1
   .exact h x h1
   .rw [h1];exact Z0o _ _
  .simp
theorem Z0k (s:List Yh):(R5 s).1.length<=s.length/\∀x∈(R5 s).1,x.2.length<=20000:=by
 unfold R5;split
 .refine ⟨by have:=Zle (s:=s) (V3 s).1 (List.replicate s.length z0) [];simpa using this,Zi4 _ _ _ fun x hx=>?_⟩;rw[(List.mem_replicate.1 hx).2];simp
 .simp
abbrev clsE (x:List Yh×Int):PV:=.tuple [L 47 (!(x.2==0)) (x.1.map Wv),.int .i64 x.2]
theorem Z1g (t:List Nd)(e:Int):Yo 47 14 (Zf3 (t,e))=true:=by
 simp only[Zf3,Yo,List.all_cons,List.all_nil,Bool.and_true];rcases Zp3 58 true (t.map Yb) with⟨h,_⟩ | ⟨h,_⟩
 .rw [h];rfl
 .rw [h];simp only[Yo,Bool.and_eq_true,List.all_eq_true];refine⟨by decide,fun x hx=>?_⟩;obtain⟨n,_,rfl⟩:=List.mem_map.1 hx;simp[Yo,Yb]
theorem Zi5 {s:List Yh}{ord:List Nat}{k i:Nat}(hk:k < ord.length)(he:ord[k]=i)(hi:i < s.length)(out cl:List Yh):Uj s (ord.drop k) out cl=if (X0 s[i].2 cl).2=0 then Uj s (ord.drop (k+1)) (out.set i (s[i].1,(X0 s[i].2 cl).1)) (cl++[(s[i].1,(X0 s[i].2 cl).1)]) else ([],(X0 s[i].2 cl).2):=by
 rw[List.drop_eq_getElem_cons hk,he];simp only[Uj];have:s.getD i z0=s[i]:=by simp[hi]
 rw[this]
set_option maxHeartbeats 4000000 in
theorem Zanr (b:Bool)(s:List Yh)(hs:To s)(hl:s.length<=20):Xn vE 42 [L 47 b (s.map Wv)] (clsE (R5 s)):=by
 have h40:=Zabr b s hs.good (by omega);obtain⟨hol,hot⟩:=Zju s;have hV:∃V,R5 s=V:=⟨_,rfl⟩
 obtain⟨V,hV⟩:=hV;rw[hV];unfold R5 at hV;generalize V3 s=O at *;obtain⟨ord,e⟩:=O;simp only at hV h40 hol hot;by_cases he:e=0
 .subst he;rw[if_pos rfl]at hV;replace hot:=Hide.mk hot;replace hV:=Hide.mk hV;replace hs:=Hide.mk hs;have hz:(List.replicate s.length z0).map Wv=List.replicate s.length (.agg [.str [],.nils]):=by simp[Wv,L]
  replace hz:=Hide.mk hz;intro K H;refine Wc Tryz.func42 ?_
  (refine Zm ?_;repeat'(first|(refine Zi fun _=>?_;try simp(disch:=first|exact Zw|fail)[*,Zu,Tryz.f42])|refine Zx ?_|refine Zn ?_ ?_))
  generalize hv22:H.stamp (H.next+22)=v22;refine Zh [0,6,23,24] (fun n sl h=>∃(k:Nat) (w:PV) (out cl:List Yh),n=ord.length - k/\k<=ord.length/\sl 25=some (.int .i64 k)/\sl 7=some w/\out.length=s.length/\cl.length=k/\To cl/\Uj s (ord.drop k) out cl=V/\Pure.Acc [58] ⟨H.next,H.next,[]⟩ h 47 w (cl.map Wv)/\h.get (H.next+22)=some (v22,.row 47 true (out.map Wv))/\h.next=H.next+61) ord.length rfl ⟨0,.nils,List.replicate s.length z0,[],by simp,by simp,by simp,by simp,by simp,by simp,(fun x hx=>by cases hx),by simpa using hV.get,Pure.Acc.nil,by rw[hz.get];simp[*],by simp⟩ ?_;clear hV hz;rintro n sl h Rk ⟨k,w,out,cl,hn,hk,h25,h7,Zwg,hcl,hG,hV,hA,g22,Uf⟩;simp at Rk;by_cases hlt:k < ord.length
  .have hoi:=hot.get ord[k] (List.getElem_mem hlt);generalize hi:ord[k]=i at *;rw[Zi5 hlt hi hoi]at hV;have Xj:=fun h0=>hs.get.step hG hoi h0
   obtain⟨q1,q2,⟨tr,v⟩,q4⟩:=hs.get _ (List.getElem_mem hoi);have h16:=Zanv v true true cl hG.good (by omega);clear q1 q2 q4 v;generalize hy:s[i]=y at *;obtain⟨x,r⟩:=y;simp only at h16 hV Xj;generalize X0 r cl=A at *;obtain⟨y,e⟩:=A;simp only at hV Xj;have hc16:=hA.callT (C:=vE) (f:=16) rfl rfl [L 58 true (r.map Yb)] [] h16 (Zbp y e) (Z1g y e) (by simp) (by simp);simp only[List.cons_append,List.nil_append]at hc16;have hs1:=hA.same (n:=3);clear h16;by_cases he:e=0
   .subst he;rw[if_pos rfl]at hV;have hG2:=Hide.mk (Xj rfl);replace hV:=Hide.mk hV;have hoo:∃oa or,∃hh:i < out.length,out[i]=(oa,or):=⟨_,_,by omega,rfl⟩
    obtain⟨oa,or,hh,hoo⟩:=hoo;obtain⟨w',h',Sv,X4,Ts,hgt⟩:=(hA.frame (h':=h.put (H.next+22) v22 (.row 47 true ((out.map Wv).set i (.agg [.str x,L 58 true (y.map Yb)])))) (fun d hd=>by simp at hd;subst hd;simp)).app (dd:=58) (ys:=[PV.agg [.str x,L 58 true (y.map Yb)]]) (T:={k:=.struct [(0,9),(1,23)],size:=2,bytes:=40,zero:=[.string ⟨#[]⟩,.slice none 0 0]}) (by simp) rfl (by simp only[List.length_map,List.length_cons,List.length_nil];omega) (by decide) (by decide) (by simp);simp only[List.length_cons,List.length_nil]at Sv;have hs2:=X4.same (n:=3);have Zsr:h'.next=H.next+61:=by rw[Ts];exact Uf
    have hg2:h'.get (H.next+22)=some (v22,.row 47 true ((out.set i (x,y)).map Wv)):=by rw[hgt _ (by simp)];simp[Wv]
    have Xg:Hide (Pure.Acc [58] ⟨H.next,H.next,[]⟩ h' 47 w' ((cl++[(x,y)]).map Wv)):=Hide.mk (by rw[List.map_append];exact X4);clear X4 hgt hA Ts Xj hG
    (refine Zm ?_;repeat'(first|(refine Zi fun _=>?_;try simp(disch:=first|exact Zw|fail)[*,Zu])|refine Zx ?_|refine Zn ?_ ?_))
    exact⟨_,by omega,k+1,rfl,by omega,by omega,out.set i (x,y),by simp[Zwg],cl++[(x,y)],by simp[hcl],hG2.get,hV.get,Xg.get,by rw[List.map_set]⟩
   .rw [if_neg he]at hV;subst hV;have heb:(e==0)=false:=by simpa using he
    clear Xj hG hA
    (refine Zm ?_;repeat'(first|(refine Zi fun _=>?_;try simp(disch:=first|exact Zw|fail)[*,Zu])|refine Zx ?_|refine Zn ?_ ?_))
  .have e0:ord.drop k=[]:=by simp;omega
   rw[e0]at hV;simp only[Uj]at hV;subst hV;clear hA hG
   (refine Zm ?_;repeat'(first|(refine Zi fun _=>?_;try simp(disch:=first|exact Zw|fail)[*,Zu])|refine Zx ?_|refine Zn ?_ ?_))
   rw[List.take_of_length_le (by simp[Zwg]),Zab]
 .rw [if_neg he]at hV;subst hV;have heb:(e==0)=false:=by simpa using he
  clear hs hol hot;intro K H;refine Wc Tryz.func42 ?_
  (refine Zm ?_;repeat'(first|(refine Zi fun _=>?_;try simp(disch:=first|exact Zw|fail)[*,Zu,Tryz.f42])|refine Zx ?_|refine Zn ?_ ?_))
set_option maxHeartbeats 4000000 in
theorem Zanq (b:Bool)(s:List Yh)(hs:To s)(hl:s.length<=20):Xn vE 43 [L 47 b (s.map Wv)] (clsE (R5 s)):=by
 have h40:=Zabq b s hs.good (by omega);obtain⟨hol,hot⟩:=Zju s;have hV:∃V,R5 s=V:=⟨_,rfl⟩
 obtain⟨V,hV⟩:=hV;rw[hV];unfold R5 at hV;generalize V3 s=O at *;obtain⟨ord,e⟩:=O;simp only at hV h40 hol hot;by_cases he:e=0
 .subst he;rw[if_pos rfl]at hV;replace hot:=Hide.mk hot;replace hV:=Hide.mk hV;replace hs:=Hide.mk hs;have hz:(List.replicate s.length z0).map Wv=List.replicate s.length (.agg [.str [],.nils]):=by simp[Wv,L]
  replace hz:=Hide.mk hz;intro K H;refine Wc Tryz.func43 ?_
  (refine Zm ?_;repeat'(first|(refine Zi fun _=>?_;try simp(disch:=first|exact Zw|fail)[*,Zu,Tryz.f43])|refine Zx ?_|refine Zn ?_ ?_))
  generalize hv22:H.stamp (H.next+22)=v22;refine Zh [0,4,6] (fun n sl h=>∃(k:Nat) (w:PV) (out cl:List Yh),n=ord.length - k/\k<=ord.length/\sl 8=some (.int .i64 k)/\sl 7=some w/\out.length=s.length/\cl.length=k/\To cl/\Uj s (ord.drop k) out cl=V/\Pure.Acc [65] ⟨H.next,H.next,[]⟩ h 47 w (cl.map Wv)/\h.get (H.next+22)=some (v22,.row 47 true (out.map Wv))/\h.next=H.next+67) ord.length rfl ⟨0,.nils,List.replicate s.length z0,[],by simp,by simp,by simp,by simp,by simp,by simp,(fun x hx=>by cases hx),by simpa using hV.get,Pure.Acc.nil,by rw[hz.get];simp[*],by simp⟩ ?_;clear hV hz;rintro n sl h Rk ⟨k,w,out,cl,hn,hk,h8,h7,Zwg,hcl,hG,hV,hA,g22,Uf⟩;simp at Rk;by_cases hlt:k < ord.length
  .have hoi:=hot.get ord[k] (List.getElem_mem hlt);generalize hi:ord[k]=i at *;rw[Zi5 hlt hi hoi]at hV;have Xj:=fun h0=>hs.get.step hG hoi h0
   obtain⟨q1,q2,⟨tr,v⟩,q4⟩:=hs.get _ (List.getElem_mem hoi)
   have h16:=Zanu v true true cl hG.good (by omega) (by
    rw[List.filter_eq_nil_iff.2]
    .simp
    .intro u hu;obtain⟨n,_,_,rfl⟩:=Zhm q4 u hu;simp) hG.nofn
   clear q1 q2 q4 v;generalize hy:s[i]=y at *;obtain⟨x,r⟩:=y;simp only at h16 hV Xj;generalize X0 r cl=A at *;obtain⟨y,e⟩:=A;simp only at hV Xj;have hA9:=hA.frame (h':=h.put (H.next+9) (h.stamp (H.next+9)) (.cells [.str x,L 58 true (r.map Yb)])) (fun d hd=>by simp at hd;subst hd;simp);have hc16:=hA9.callT (C:=vE) (f:=17) rfl rfl [L 58 true (r.map Yb)] [] h16 (Zbp y e) (Z1g y e) (by simp) (by simp);simp only[List.cons_append,List.nil_append]at hc16;have hs1:=hA.same (n:=3);clear h16;by_cases he:e=0
   .subst he;rw[if_pos rfl]at hV;have hG2:=Hide.mk (Xj rfl);replace hV:=Hide.mk hV;have hoo:∃oa or,∃hh:i < out.length,out[i]=(oa,or):=⟨_,_,by omega,rfl⟩
    obtain⟨oa,or,hh,hoo⟩:=hoo;obtain⟨w',h',Sv,X4,Ts,hgt⟩:=(hA9.frame (h':=(h.put (H.next+9) (h.stamp (H.next+9)) (.cells [.str x,L 58 true (r.map Yb)])).put (H.next+22) v22 (.row 47 true ((out.map Wv).set i (.agg [.str x,L 58 true (y.map Yb)])))) (fun d hd=>by simp at hd;subst hd;simp)).app (dd:=65) (ys:=[PV.agg [.str x,L 58 true (y.map Yb)]]) (T:={k:=.struct [(0,9),(1,23)],size:=2,bytes:=40,zero:=[.string ⟨#[]⟩,.slice none 0 0]}) (by simp) rfl (by simp only[List.length_map,List.length_cons,List.length_nil];omega) (by decide) (by decide) (by simp);simp only[List.length_cons,List.length_nil]at Sv;have hs2:=X4.same (n:=3);have Zsr:h'.next=H.next+67:=by rw[Ts];exact Uf
    have hg2:h'.get (H.next+22)=some (v22,.row 47 true ((out.set i (x,y)).map Wv)):=by rw[hgt _ (by simp)];simp[Wv]
    have Xg:Hide (Pure.Acc [65] ⟨H.next,H.next,[]⟩ h' 47 w' ((cl++[(x,y)]).map Wv)):=Hide.mk (by rw[List.map_append];exact X4);clear X4 hgt hA hA9 Ts Xj hG
    (refine Zm ?_;repeat'(first|(refine Zi fun _=>?_;try simp(disch:=first|exact Zw|fail)[*,Zu,Zlv])|refine Zx ?_|refine Zn ?_ ?_))
    refine Yj false false [] [] [] [] false (by decide +kernel) ?_
    (refine Zm ?_;repeat'(first|(refine Zi fun _=>?_;try simp(disch:=first|exact Zw|fail)[*,Zu,Zlv])|refine Zx ?_|refine Zn ?_ ?_))
    exact⟨_,by omega,k+1,rfl,by omega,by omega,out.set i (x,y),by simp[Zwg],cl++[(x,y)],by simp[hcl],hG2.get,hV.get,Xg.get,by rw[List.map_set]⟩
   .rw [if_neg he]at hV;subst hV;have heb:(e==0)=false:=by simpa using he
    clear Xj hG hA hA9
    (refine Zm ?_;repeat'(first|(refine Zi fun _=>?_;try simp(disch:=first|exact Zw|fail)[*,Zu,Zlv])|refine Zx ?_|refine Zn ?_ ?_))
  .have e0:ord.drop k=[]:=by simp;omega
   rw[e0]at hV;simp only[Uj]at hV;subst hV;clear hA hG
   (refine Zm ?_;repeat'(first|(refine Zi fun _=>?_;try simp(disch:=first|exact Zw|fail)[*,Zu])|refine Zx ?_|refine Zn ?_ ?_))
   rw[List.take_of_length_le (by simp[Zwg]),Zab]
 .rw [if_neg he]at hV;subst hV;have heb:(e==0)=false:=by simpa using he
  clear hs hol hot;intro K H;refine Wc Tryz.func43 ?_
  (refine Zm ?_;repeat'(first|(refine Zi fun _=>?_;try simp(disch:=first|exact Zw|fail)[*,Zu,Tryz.f43])|refine Zx ?_|refine Zn ?_ ?_))
def dv (m:Nat):Yi×Int:=(100::Ze m,2)
def dV (D:List Nat):List (Yi×Int):=V0++D.map dv
theorem Zajc {m:Nat}(h:m < 5):Tm (dv m).1=true/\(dv m).1.length<=2^19:=by
 have:m=0\/m=1\/m=2\/m=3\/m=4:=by omega
 rcases this with rfl | rfl | rfl | rfl | rfl<;>decide +kernel
theorem Zok {D:List Nat}{v:Yi×Int}:v∈dV D↔v∈V0\/∃m∈D,v=dv m:=by
 unfold dV;rw[List.mem_append,List.mem_map];constructor
 .rintro (h | ⟨m,h,rfl⟩)
  .exact .inl h
  .exact .inr ⟨m,h,rfl⟩
 .rintro (h | ⟨m,h,rfl⟩)
  .exact .inl h
  .exact .inr ⟨m,h,rfl⟩
theorem Zauw {D:List Nat}(hD:∀m∈D,m < 5)(hl:D.length<=20):VOk (dV D):=by
 refine⟨?_,fun s h1 h4=>?_,by simp[dV,V0];omega⟩
 .intro v hv;rcases Zok.1 hv with h | ⟨m,hm,rfl⟩
  .exact Zaje.ok v h
  .obtain ⟨q1,q2⟩:=Zajc (hD m hm);exact⟨q1,q2,by simp[dv],by simp[dv]⟩
 .obtain ⟨v,hv,e⟩:=Zaje.all s h1 h4;exact⟨v,Zok.2 (.inl hv),e⟩
theorem Z21:∀v∈V0,v.1.head?≠some 100:=by unfold V0;decide
theorem Zamx {D:List Nat}:Zbq (dV D):=by
 intro a ha c hc e;rcases Zok.1 ha with h | ⟨m,hm,rfl⟩
 .rcases Zok.1 hc with h2 | ⟨m2,hm2,rfl⟩
  .exact Zanx a h c h2 e
  .exact absurd (by rw[e];rfl) (Z21 a h)
 .rcases Zok.1 hc with h2 | ⟨m2,hm2,rfl⟩
  .exact absurd (by rw[<- e];rfl) (Z21 c h2)
  .unfold dv at e ⊢;simp only at e;rw[e]
inductive St39 (b:Bool)(xs:List Int)(s:List Yh)(D:List Nat):Nat->List Yh->List Nat->Nat->Prop
 |mk {i i1 i2 m t} (g1:Gen 21 [.int .i64 5] b xs i (.int .i64 (m:Nat)) i1) (hm:m < 5) (g2:Gen 20 [.int .i64 2,.int .i64 2,L 69 true ((dV (D++[m])).map Zfy)] b xs i1 (TL t) i2) (hT:GT 2 6 139 (dV (D++[m])) t):St39 b xs s D i (s++[(100::Ze s.length,t)]) (D++[m,s.length]) i2
structure DOk (xs:List Int)(j:Nat)(s:List Yh)(D:List Nat)(i:Nat):Prop where
 len:s.length=j
 good:To s
 dl:D.length=2*j
 dm:∀m∈D,m < 5
 le:i<=xs.length
theorem st39 {b:Bool}{xs:List Int}(hl:xs.length<=400){j:Nat}{s:List Yh}{D:List Nat}{i:Nat}(h:DOk xs j s D i)(hj:j < 5):∃s' D' i',St39 b xs s D i s' D' i'/\DOk xs (j+1) s' D' i':=by
 obtain⟨m,i1,hm,ha,hb,g1⟩:=Y9 (b:=b) hl h.le 5 5 rfl (by omega) (by omega)
 have hD2:∀m'∈D++[m],m' < 5:=by
  intro m' hm';rcases List.mem_append.1 hm' with h1 | h1
  .exact h.dm m' h1
  .simp at h1;omega
 have hV:=Zauw hD2 (by have:=h.dl;simp;omega);obtain⟨t,i2,h1,h2,hT,g2⟩:=(Zrc (b:=b) (b2:=true) hl hV 2 (by omega) (by decide)).1 2 (by omega) (by omega) i1 hb;refine⟨_,_,i2,.mk g1 hm g2 hT,⟨by simp[h.len],?_,by have:=h.dl;simp;omega,?_,h2⟩⟩
 .obtain ⟨tr,v,_⟩:=hT.vt Zamx (by omega) (by show (139:Nat)<=20000;omega);obtain⟨q1,q2⟩:=Zajc (m:=s.length) (by rw[h.len];exact hj);exact h.good.app ⟨q1,q2,⟨tr,v⟩,fun n hn=>(hT.node n hn).2.1⟩
 .intro m' hm';simp only[List.mem_append,List.mem_cons,List.not_mem_nil,or_false]at hm';rcases hm' with h1 | rfl | rfl
  .exact h.dm m' h1
  .exact hm
  .rw [h.len];exact hj
abbrev S39:=List Yh×List Nat×Nat
theorem Zaqn {b:Bool}{xs:List Int}(hl:xs.length<=400)(i:Nat)(hi:i<=xs.length):∃f:Nat->S39,f 0=([],[],i)/\∀j,j < 5->St39 b xs (f j).1 (f j).2.1 (f j).2.2 (f (j+1)).1 (f (j+1)).2.1 (f (j+1)).2.2/\DOk xs j (f j).1 (f j).2.1 (f j).2.2/\DOk xs (j+1) (f (j+1)).1 (f (j+1)).2.1 (f (j+1)).2.2:=by
 obtain⟨f,h0,h1⟩:=Z0b (α:=Nat×S39) (Q:=fun a=>a.1<=5/\DOk xs a.1 a.2.1 a.2.2.1 a.2.2.2) (P:=fun j a a'=>(a.1 < 5/\a'.1=a.1+1/\St39 b xs a.2.1 a.2.2.1 a.2.2.2 a'.2.1 a'.2.2.1 a'.2.2.2)\/(5<=a.1/\a'=a)) (0,[],[],i) ⟨by simp,⟨rfl,fun x hx=>by simp at hx,rfl,fun x hx=>by simp at hx,hi⟩⟩ (by
  rintro j ⟨k,s,D,i⟩ ⟨hk,hd⟩;by_cases h5:k < 5
  .obtain ⟨s',D',i',g,hd'⟩:=st39 (b:=b) hl hd h5;exact⟨(k+1,s',D',i'),.inl ⟨h5,rfl,g⟩,by simp only;omega,hd'⟩
  .exact ⟨(k,s,D,i),.inr ⟨by simp only;omega,rfl⟩,hk,hd⟩)
 have hk:∀j,j<=5->(f j).1=j:=by
  intro j
  induction j with
  |zero=>intro _;rw[h0]
  |succ j ih=>
   intro hj;have:=ih (by omega);rcases (h1 j).1 with⟨q1,q2,q3⟩ | ⟨q1,q2⟩
   .rw [q2,this]
   .omega
 refine⟨fun j=>(f j).2,by show (f 0).2=_;rw[h0],fun j hj=>?_⟩;have e1:=hk j (by omega);have e2:=hk (j+1) (by omega);have q:=(h1 j).2.2;have q2:=(h1 (j+1)).2.2;rw[e1]at q;rw[e2]at q2;rcases (h1 j).1 with⟨r1,r2,r3⟩ | ⟨r1,r2⟩
 .exact ⟨r3,q,q2⟩
 .omega
theorem Zafv (K:Pure.Loc)(h:PH)(hK:K.lo<=h.next):∃ver h',Yf vE K 22 [] h=some (.own (h.next+9) ver 69 0 8,h')/\h'.next=h.next+10/\h'.get (h.next+9)=some (ver,.row 69 true (V0.map Zfy))/\∀j,j≠h.next+9->h'.get j=h.get j:=by
 have key:wp (Yf vE K 22 [] h) fun r=>∃ver h',r=(.own (h.next+9) ver 69 0 8,h')/\h'.next=h.next+10/\h'.get (h.next+9)=some (ver,.row 69 true (V0.map Zfy))/\∀j,j≠h.next+9->h'.get j=h.get j:=by
  refine Zmg (fn:=Tryz.f22) (by rfl) Tryz.func22 rfl rfl ?_
  (refine Zm ?_;repeat'(first|(refine Zi fun _=>?_;try simp(disch:=first|exact Zw|fail)[*,Zu,Tryz.f22])|refine Zx ?_|refine Zn ?_ ?_))
  rw[if_neg]
  .exact ⟨_,_,⟨rfl,rfl⟩,rfl,by simp[V0],fun j hj=>by simp[hj]⟩
  .rw [Bool.not_eq_true];unfold Zfl;rw[List.all_eq_false];exact⟨9,by simp,by simp⟩
 obtain⟨r,h1,ver,h',rfl,q⟩:=X8.1 key;exact⟨ver,h',h1,q⟩
theorem Z3q {g:Nat}(hg:(58:Nat)≠g)(r:List Nd):Yo g 14 (TL r)=true:=Zm9 hg fun x hx=>by
 simp only[List.mem_map]at hx;obtain⟨n,_,rfl⟩:=hx;rfl
theorem Z3r {g:Nat}(hg:(3:Nat)≠g)(b:Bool)(xs:List Int)(i:Nat):Ry g (chO b xs i)=true:=by
 simp only[Ry,List.all_cons,List.all_nil,Bool.and_true]
 have h1:Yo g 12 (L 3 b (xs.map (.int .i64)))=true:=by
  rcases Zp3 3 b (xs.map (PV.int .i64)) with⟨h,_⟩ | ⟨h,_⟩
  .rw [h];rfl
  .rw [h];simp only[Yo,Bool.and_eq_true,List.all_eq_true];refine⟨by simpa using hg,fun x hx=>?_⟩;obtain⟨n,_,rfl⟩:=List.mem_map.1 hx;rfl
 rw[h1];rfl
theorem Zaao (D:List Nat)(m:Nat):(dV (D++[m])).map Zfy=(dV D).map Zfy++[Zfy (dv m)]:=by
 simp[dV]
set_option maxHeartbeats 4000000 in
theorem Zamt {b:Bool}{xs:List Int}{i:Nat}(hl:xs.length<=400)(hi:i<=xs.length):∃s i',To s/\s.length<=4/\i'<=xs.length/\Gen 39 [.bool true] b xs i (L 47 true (s.map Wv)) i':=by
 obtain⟨N,i0,hN,ha0,hb0,g0⟩:=Y9 (b:=b) hl hi 5 5 rfl (by omega) (by omega);obtain⟨f,hf0,hf⟩:=Zaqn (b:=b) hl i0 hb0;have hd:DOk xs N (f N).1 (f N).2.1 (f N).2.2:=(hf N hN).2.1;obtain⟨v5,i5,hv5,ha5,hb5,g5⟩:=Y9 (b:=b) hl hd.le 5 5 rfl (by omega) (by omega)
 have hsw:∃s,To s/\s.length<=4/\((v5=0/\∃x y r,(f N).1=x::y::r/\s=(y.1,x.2)::y::r)\/((v5≠0\/(f N).1.length<=1)/\s=(f N).1)):=by
  by_cases h5:v5=0
  .cases hs:(f N).1 with
   |nil=>exact⟨_,hs ▸ hd.good,by have:=hd.len;rw[hs]at this;simp,.inr ⟨.inr (by simp),rfl⟩⟩
   |cons x r=>
    cases r with
    |nil=>exact⟨_,hs ▸ hd.good,by simp,.inr ⟨.inr (by simp),rfl⟩⟩
    |cons y r=>
     refine⟨(y.1,x.2)::y::r,?_,by have:=hd.len;rw[hs]at this;simp at this ⊢;omega,.inl ⟨h5,x,y,r,rfl,rfl⟩⟩;have hg:=hd.good;rw[hs]at hg;intro z hz;simp only[List.mem_cons]at hz;rcases hz with rfl | rfl | hz
     .exact ⟨(hg y (by simp)).1,(hg y (by simp)).2.1,(hg x (by simp)).2.2.1,(hg x (by simp)).2.2.2⟩
     .exact hg _ (by simp)
     .exact hg z (by simp[hz])
  .exact ⟨_,hd.good,by have:=hd.len;omega,.inr ⟨.inl h5,rfl⟩⟩
 obtain⟨s,hsg,hsl,hsw⟩:=hsw;refine⟨s,i5,hsg,hsl,hb5,?_⟩;replace hf:=Hide.mk hf;replace hsw:=Hide.mk hsw;replace hd:=Hide.mk hd
 .intro K H p ver Zz hlt Zk;have Vh:=Yg hlt;refine Wp Tryz.func39 Zz hlt Zk ?_
  (refine Zm ?_;repeat'(first|(refine Zi fun _=>?_;try simp(disch:=first|exact Zw|fail)[*,Zu,Tryz.f39])|refine Zx ?_|refine Zn ?_ ?_))
  obtain⟨v22,h1,hc22,hn1,hr1,ho1⟩:=Zafv {base:=H.next,lo:=H.next,ok:=[p]} {next:=H.next+61,get:=H.get} (by simp);refine X8.2 ⟨_,hc22,?_⟩;clear hc22;simp only[Nat.add_assoc,Nat.reduceAdd]at hn1 hr1 ho1 ⊢;have hgp:=(ho1 p (by omega)).trans Zk
  (refine Zm ?_;repeat'(first|(refine Zi fun _=>?_;try simp(disch:=first|exact Zw|fail)[*,Zu])|refine Zx ?_|refine Zn ?_ ?_))
  refine Zh [0,1] (fun n sl h=>∃(j:Nat) (w wv:PV),n=N - j/\j<=N/\sl 7=some (.int .i64 ((N:Int) - j))/\sl 5=some w/\sl 6=some wv/\Pure.Acc [36] ⟨H.next,H.next,[p]⟩ h 47 w ((f j).1.map Wv)/\Pure.Acc [28,41,70] ⟨H.next,H.next,[p]⟩ h 69 wv ((dV (f j).2.1).map Zfy)/\h.get p=some (ver,chO b xs (f j).2.2)/\h.next=H.next+71) N rfl ⟨0,.nils,_,by simp,by simp,by simp,by simp,by simp;rfl,by rw[hf0];exact Pure.Acc.nil,?_,by rw[hf0];simp[*],by simpa using hn1⟩ ?_
  .rw [hf0];refine Or.inr ⟨70,v22,by simp[dV,V0],by simp,rfl,?_⟩;have hp70:¬ H.next+70=p:=by omega
   simp[dV,hp70,hr1]
  rintro n sl h Rk ⟨j,w,wv,hn,hj,h7,h5,h6,hA,hB,hg,Uf⟩;simp at Rk;by_cases hlt:j < N
  .obtain ⟨Xj,hdj,hdj2⟩:=hf.get j (by omega);have hlj:=hdj.len;have h38:=Zabs j (by omega);have hlw:=hA.lenK (e:=47);have hdl:=hdj.dl;clear hdj hdj2;generalize hS2:(f (j+1)).1=S2 at *;generalize hD2:(f (j+1)).2.1=D2 at *;generalize hk2:(f (j+1)).2.2=k2 at *;generalize (f j).1=S1 at *;generalize (f j).2.1=D1 at *;generalize (f j).2.2=k1 at *;cases Xj with
   | @mk i1 _ m t g1 hm g2 hT=>
     have h38m:=Zabs m (by omega);have Yn:=Zp4 hT.ne;have hdgj:(Ze j).length<=2:=U7 (by omega) (by omega);have hdgm:(Ze m).length<=2:=U7 (by omega) (by omega);rw[hlj]at hS2 hD2;have hg0:∀d,¬ H.next+d=p:=fun d=>by omega
     have hsA:=hA.same (n:=3);have hsB:=hB.same (n:=3);have hA1:=hA.frame (h':=h.put p ver (chO b xs i1)) (fun d hd=>by simp at hd;subst hd;simp[hg0]);have hB1:=hB.frame (h':=h.put p ver (chO b xs i1)) (fun d hd=>by simp at hd;rcases hd with rfl | rfl | rfl<;>simp[hg0]);obtain⟨v1,ha,Zzz,hB2,hn1',Z89⟩:=hB1.app (dd:=28) (ys:=[Zfy (dv m)]) (T:={k:=.struct [(0,9),(1,3)],size:=2,bytes:=24,zero:=[.string ⟨#[]⟩,.int .i64 0]}) (by simp) rfl (by simp[dV,V0];omega) (by decide) (by decide) (by simp);rw[<- Zaao]at hB2;have hA2:=hA1.frame (h':=ha) (fun d hd=>by simp at hd;subst hd;exact Z89 _ (by simp))
     have hpa:ha.get p=some (ver,chO b xs i1):=by
      rw[Z89 p (by intro e he;simp at he;rcases he with rfl | rfl | rfl<;>simp[Vh])];simp
     have hsB2:=hB2.same (n:=3);have hc20:=hB2.callG (C:=vE) (f:=20) (p:=p) (ver:=ver) (o:=chO b xs i1) (o':=chO b xs k2) (w:=TL t) rfl rfl [.int .i64 2,.int .i64 2] [] (fun H' hl' hg'=>g2 _ H' p ver (by simp) hl' hg') (by simp) (by rw[hn1'];simp;omega) hpa (fun _ _ _=>by simp) (by simp[refsO]) (by simp) (by simp[Xr]) (Z3q (by decide) t) (Z3r (by decide) _ _ _) (by simp) (by simp);simp only[List.cons_append,List.nil_append]at hc20;obtain⟨w',hc,Z4o,hA4,hn2',Z88⟩:=(hA2.frame (h':=ha.put p ver (chO b xs k2)) (fun d hd=>by simp at hd;subst hd;simp[hg0])).app (dd:=36) (ys:=[PV.agg [.str (100::Ze j),TL t]]) (T:={k:=.struct [(0,9),(1,23)],size:=2,bytes:=40,zero:=[.string ⟨#[]⟩,.slice none 0 0]}) (by simp) rfl (by simp;omega) (by decide) (by decide) (by simp);have hB3:=(hB2.frame (h':=ha.put p ver (chO b xs k2)) (fun d hd=>by simp at hd;rcases hd with rfl | rfl | rfl<;>simp[hg0])).frame (h':=hc) (fun d hd=>by simp at hd;rcases hd with rfl | rfl | rfl<;>exact Z88 _ (by simp));obtain⟨v2,he,hap3,hB4,hn3',hgt3⟩:=hB3.app (dd:=41) (ys:=[Zfy (dv j)]) (T:={k:=.struct [(0,9),(1,3)],size:=2,bytes:=24,zero:=[.string ⟨#[]⟩,.int .i64 0]}) (by simp) rfl (by simp[dV,V0];omega) (by decide) (by decide) (by simp);rw[<- Zaao]at hB4;have hA5:=hA4.frame (h':=he) (fun d hd=>by simp at hd;subst hd;exact hgt3 _ (by simp))
     have hpe:he.get p=some (ver,chO b xs k2):=by
      rw[hgt3 p (by intro e he;simp at he;rcases he with rfl | rfl | rfl<;>simp[Vh]),Z88 p (by intro e he;simp at he;subst he;simp[Vh])];simp
     have Zpq:he.next=H.next+71:=by rw[hn3',hn2'];show ha.next=_;rw[hn1'];exact Uf
     have Zaso:ha.next=H.next+71:=by rw[hn1'];exact Uf
     have Za2v:hc.next=H.next+71:=by rw[hn2'];exact Zaso
     have hsA4:=hA4.same (n:=3);have hsB4:=hB4.same (n:=3)
     have hfA:Hide (Pure.Acc [36] ⟨H.next,H.next,[p]⟩ he 47 w' ((f (j+1)).1.map Wv)):=Hide.mk (by
      rw[hS2,List.map_append,List.map_cons,List.map_nil];show Pure.Acc _ _ _ _ _ (_++[PV.agg [.str (100::Ze j),L 58 true (t.map Yb)]]);rw[Yn];exact hA5)
     have hfB:Hide (Pure.Acc [28,41,70] ⟨H.next,H.next,[p]⟩ he 69 v2 ((dV (f (j+1)).2.1).map Zfy)):=Hide.mk (by
      rw[hD2];have e3:D1++[m,j]=D1++[m]++[j]:=by simp
      rw[e3];exact hB4)
     have hek:Hide ((f (j+1)).2.2=k2):=Hide.mk hk2;simp only[List.length_cons,List.length_nil,dv]at Zzz Z4o hap3;clear hA hB hA1 hB1 hA2 hB2 hA4 hB3 hB4 hA5 Z89 Z88 hgt3 hS2 hD2 hk2 hT hn1' hn2' hn3' g2
     (refine Zm ?_;repeat'(first|(refine Zi fun _=>?_;try simp(disch:=first|exact Zw|fail)[*,Zu,Zlv])|refine Zx ?_|refine Zn ?_ ?_))
     exact⟨_,by omega,j+1,rfl,by omega,by omega,hfA.get,hfB.get,by rw[hek.get]⟩
  .have ejN:j=N:=by omega
   subst ejN;have hlw:=hA.lenK (e:=47);have hg0:∀d,¬ H.next+d=p:=fun d=>by omega
   have hvb:v5≠0->((v5:Int)==0)=false:=fun hv=>by simp;omega
   have hA1:=hA.frame (h':=h.put p ver (chO b xs i5)) (fun d hd=>by simp at hd;subst hd;simp[hg0]);have hsA:=hA.same (n:=3);rcases hsw.get with⟨h50,x,y,r,hs1,rfl⟩ | ⟨hor,rfl⟩
   .subst h50;obtain⟨d,vw,hdS,hw,hgd⟩:=hA1.own (by rw[hs1];simp);have hgd':(h.put p ver (chO b xs i5)).get (H.next+d)=some (vw,.row 47 true ((f j).1.map Wv)):=hgd;simp at hdS;subst hdS;rw[hs1]at hw hgd' hlw;obtain⟨xa,xt⟩:=x;obtain⟨ya,yt⟩:=y;simp only[List.map_cons,List.length_cons]at hw hgd' hlw;subst hw
    have hgd2:h.get (H.next+36)=some (vw,.row 47 true (Wv (xa,xt)::Wv (ya,yt)::r.map Wv)):=by
     rw[<- hgd'];simp[hg0]
    clear hA hA1 hB hgd hgd'
    (refine Zm ?_;repeat'(first|(refine Zi fun _=>?_;try simp(disch:=first|exact Zw|fail)[*,Zu])|refine Zx ?_|refine Zn ?_ ?_))
    rw[List.take_of_length_le (by simp)]
   .have Vi:=hA1.inl;have Znz:=hA1.inlT;rw[Vi]at Znz;have hot:=hA1.ownT;clear hA hA1 hB Vi;by_cases h50:v5=0
    .subst h50;have hl1:(f j).1.length<=1:=by rcases hor with h | h;exact absurd rfl h;exact h
     (refine Zm ?_;repeat'(first|(refine Zi fun _=>?_;try simp(disch:=first|exact Zw|fail)[*,Zu])|refine Zx ?_|refine Zn ?_ ?_))
     exact fun x hx=>hot x hx
    . (refine Zm ?_;repeat'(first|(refine Zi fun _=>?_;try simp(disch:=first|exact Zw|fail)[*,Zu,hvb h50])|refine Zx ?_|refine Zn ?_ ?_))
      exact fun x hx=>hot x hx
def AccZ (K:Pure.Loc)(h:PH)(g:Nat)(v:PV)(xs:List PV):Prop:=
 (xs=[]/\v=.nils)\/∃d ver own,xs≠[]/\v=.own (K.base+d) ver g 0 xs.length/\h.get (K.base+d)=some (ver,.row g own xs)
theorem AccZ.call {C:Ctx}{K:Pure.Loc}{h:PH}{g f:Nat}{v w:PV}{xs:List PV}(hA:AccZ K h g v xs)(hK:K.lo=K.base)(Y4:C.raw f=false)(Zs1:Xn C f [L g true xs] w)(hwb:∀m,below m 4 w=true):∃h',Yf C K f [v] h=some (w,h')/\AccZ K h' g v xs/\h'.next=h.next:=by
 have Zzq:inlV h v=some (L g true xs):=by
  rcases hA with⟨rfl,rfl⟩ | ⟨d,ver,own,Yn,rfl,hg⟩
  .rfl
  .cases xs with
   |nil=>exact absurd rfl Yn
   |cons=>simp[inlV,Zc9,PH.elems,PH.row,hg,L]
 have key:Yf C K f [v] h=some (w,h)\/Yf C K f [v] h=some (w,h.freeze ([v].flatMap ownV)):=by
  refine Zrq Zs1 hwb Y4 (by simp only[W2,Zzq]) rfl (by simp) (by simp) ?_;rcases hA with⟨_,rfl⟩ | ⟨d,ver,own,_,rfl,hg⟩
  .simp
  .simp [hg,Pure.can,hK]
 rcases key with key | key
 .exact ⟨h,key,hA,rfl⟩
 .refine ⟨_,key,?_,by rw[Xm]⟩;rcases hA with⟨rfl,rfl⟩ | ⟨d,ver,own,Yn,rfl,hg⟩
  .exact Or.inl ⟨rfl,rfl⟩
  .refine Or.inr ⟨d,ver,false,Yn,rfl,?_⟩;rw[Y7,hg];simp
theorem Zou (x:List Nat×Int):∀m,below m 4 (ordE x)=true:=fun m=>by simp[ordE,below]
theorem Zov (x:List Yh×Int):∀m,below m 4 (clsE x)=true:=fun m=>by simp[clsE,below]
theorem To.rot {s:List Yh}(h:To s)(k:Nat):To (s.drop k++s.take k):=by
 intro x hx;rcases List.mem_append.1 hx with hx | hx
 .exact h x (List.mem_of_mem_drop hx)
 .exact h x (List.mem_of_mem_take hx)
set_option maxHeartbeats 4000000 in
theorem Zako (b3:Bool)(l:List Int)(tn:Int)(hl:l.length < 2^63):Xn vE 11 [L 3 b3 (l.map (.int .i64)),.int .i64 tn] (.bool true):=by
 have h19:=Zans;obtain⟨s0,i',hS0,hsl0,_,g39⟩:=Zamt (b:=b3) (xs:=l.take 400) (i:=0) (by simp;omega) (by simp);have hS:=hS0.rot (Zgy tn s0.length);have hsl:(s0.drop (Zgy tn s0.length)++s0.take (Zgy tn s0.length)).length<=4:=by simp;omega
 intro K H;refine Wc Tryz.func11 ?_;refine Zmh (fun sl h=>sl 0=some (L 3 b3 (l.map (.int .i64)))/\sl 1=some (.int .i64 tn)/\h={H with next:=H.next+90}) ?_ ?_
 . (refine Zm ?_;repeat'(first|(refine Zi fun _=>?_;try simp(disch:=first|exact Zw|fail)[*,Zu,Tryz.f11])|refine Zx ?_|refine Zn ?_ ?_))
 rintro sl h ⟨q0,q1,rfl⟩;refine Zmh (fun sl h=>sl 1=some (.int .i64 tn)/\sl 5=some (L 47 true (s0.map Wv))/\H.next+90<=h.next) ?_ ?_
 . (refine Zm ?_;repeat'(first|(refine Zi fun _=>?_;try simp(disch:=first|exact Zw|fail)[*,Zu])|refine Zx ?_|refine Zn ?_ ?_))
   obtain⟨ver1,k1,hc1,hg1,hn1,ho1⟩:=Zaj3 b3 l (by omega) {base:=H.next,lo:=H.next,ok:=[]} {next:=H.next+90,get:=H.get};refine X8.2 ⟨_,hc1,?_⟩;clear hc1 ho1;simp only at hg1 hn1
   (refine Zm ?_;repeat'(first|(refine Zi fun _=>?_;try simp(disch:=first|exact Zw|fail)[*,Zu])|refine Zx ?_|refine Zn ?_ ?_))
   omega
 rintro sl h ⟨q1,q5,Uf⟩;refine Zmh (fun sl h=>(∃w,sl 5=some w/\AccZ ⟨H.next,H.next,[]⟩ h 47 w ((s0.drop (Zgy tn s0.length)++s0.take (Zgy tn s0.length)).map Wv))/\H.next+90<=h.next) ?_ ?_
 .by_cases he:s0=[]
  .subst he
   (refine Zm ?_;repeat'(first|(refine Zi fun _=>?_;try simp(disch:=first|exact Zw|fail)[*,Zu])|refine Zx ?_|refine Zn ?_ ?_))
   exact Or.inl ⟨rfl,rfl⟩
  .have hlp:=List.length_pos_iff.2 he;have h27:=Zabv tn s0.length hlp (by omega);have Qb:=Zsj tn hlp;generalize Zgy tn s0.length=k at *;have he1:List.take (s0.length - k) (List.drop k (List.map Wv s0))=(s0.drop k).map Wv:=by rw[List.take_of_length_le (by simp),List.map_drop]
   have he2:List.take k (List.map Wv s0)=(s0.take k).map Wv:=by rw[List.map_take]
   have Zio:List.take (s0.length - k) (List.drop k (List.map Wv s0))≠[]:=by rw[he1];simp;omega
   obtain⟨w1,ha,Zzz,hB1,hn1,Z89⟩:=(Pure.Acc.nil (S:=[29,33]) (K:=⟨H.next,H.next,[]⟩) (h:=h) (g:=47)).app (dd:=29) (ys:=List.take (s0.length - k) (List.drop k (List.map Wv s0))) (T:={k:=.struct [(0,9),(1,23)],size:=2,bytes:=40,zero:=[.string ⟨#[]⟩,.slice none 0 0]}) (by simp) rfl (by simp;omega) (by decide) (by decide) Zio;obtain⟨w2,hb,Z4o,hB2,hn2,Z88⟩:=hB1.app' (dd:=33) (ys:=List.take k (List.map Wv s0)) (T:={k:=.struct [(0,9),(1,23)],size:=2,bytes:=40,zero:=[.string ⟨#[]⟩,.slice none 0 0]}) (by simp) rfl (by simp;omega) (by decide) (by decide);rw[List.nil_append]at hB2
   have Xg:Hide (AccZ ⟨H.next,H.next,[]⟩ hb 47 w2 ((s0.drop k++s0.take k).map Wv)):=Hide.mk (by
    rw[List.map_append,<- he1,<- he2];rcases hB2 with⟨e1,e2⟩ | ⟨d,vw,q1,q2,q3,q4⟩
    .exact Or.inl ⟨e1,e2⟩
    .exact Or.inr ⟨d,vw,true,q1,q3,q4⟩)
   have hsm1:=hB1.same (n:=3);have hsm2:=hB2.same (n:=3);clear hB1 hB2 Z89 Z88 he1 he2 Zio;simp only[List.length_take,List.length_drop,List.length_map,Nat.min_self]at Zzz Z4o;rw[Nat.min_eq_left (by omega)]at Z4o
   (refine Zm ?_;repeat'(first|(refine Zi fun _=>?_;try simp(disch:=first|exact Zw|fail)[*,Zu])|refine Zx ?_|refine Zn ?_ ?_))
   refine Yj false true [28,32] [] [] [] false (by decide +kernel) ?_
   (refine Zm ?_;repeat'(first|(refine Zi fun _=>?_;try simp(disch:=first|exact Zw|fail)[*,Zu,-PH.elems])|refine Zx ?_|refine Zn ?_ ?_))
   have:=Xg.get;simpa using this
 clear q1 q5 Uf g39;rintro sl h ⟨⟨w,q5,hA⟩,Uf⟩;generalize s0.drop (Zgy tn s0.length)++s0.take (Zgy tn s0.length)=s at *;obtain⟨hcl,hct⟩:=Z0k s;have a44:=Zanp (!((R5 s).2==0)) (!((R5 s).2==0)) (R5 s).1 (by omega) (fun x hx=>by have:=hct x hx;omega);have hol:=(Zju s).1;obtain⟨h1,hc40,hA1,hx1⟩:=hA.call (f:=40) rfl rfl (Zabr true s hS.good (by omega)) (Zou _);obtain⟨h2,hc41,hA2,hx2⟩:=hA1.call (f:=41) rfl rfl (Zabq true s hS.good (by omega)) (Zou _);obtain⟨h3,hc42,hA3,hx3⟩:=hA2.call (f:=42) rfl rfl (Zanr true s hS (by omega)) (Zov _);obtain⟨h4,hc43,hA4,hx4⟩:=hA3.call (f:=43) rfl rfl (Zanq true s hS (by omega)) (Zov _);clear hA hA1 hA2 hA3 hA4 hct;generalize V3 s=O at *;obtain⟨ord,e⟩:=O;generalize R5 s=V at *;obtain⟨cs,e2⟩:=V;simp only at a44 hol hcl;clear hS
 (refine Zm ?_;repeat'(first|(refine Zi fun _=>?_;try simp(disch:=first|exact Zw|fail)[*,Zu])|refine Zx ?_|refine Zn ?_ ?_))
 refine Zh [5,7,9] (fun n sl h=>∃i:Nat,n=ord.length - i/\i<=ord.length/\sl 11=some (.int .i64 i)/\h=h2) ord.length rfl ⟨0,by simp,by simp,by simp,rfl⟩ ?_;rintro n Yv h' Rk ⟨i,hn,hi,h11,rfl⟩;simp[q5]at Rk;by_cases hlt:i < ord.length
 . (refine Zm ?_;repeat'(first|(refine Zi fun _=>?_;try simp(disch:=first|exact Zq|fail)[*,Zs])|refine Ye ?_|refine Zx ?_|refine Zn ?_ ?_))
   exact⟨_,by omega,i+1,rfl,by omega,by omega⟩
 . (refine Zm ?_;repeat'(first|(refine Zi fun _=>?_;try simp(disch:=first|exact Zw|fail)[*,Zu])|refine Zx ?_|refine Zn ?_ ?_))
end Go.Proofs.YtabcdhcpilpojaaGreatDoor
end
