/- The program's substitutions: lists of names. -/
import Derived.Test.YtabcdhcpilpojaaGreatDoorFE
import Derived.Test.YtabcdhcpilpojaaGreatDoorPD
import Derived.Test.YtabcdhcpilpojaaGreatDoorFC
set_option linter.unusedSimpArgs false
set_option linter.unusedVariables false
section
set_option maxRecDepth 20000
namespace Go.Proofs.YtabcdhcpilpojaaGreatDoor
open Go Go.Pure
open Go.Virt (Ex Ctx Ty TK)
abbrev Zo1 (vs:List Use):PO:=.map (vs.map fun u=>(PV.str u.name,PV.int .i64 u.sort))
abbrev Zo2 (fs:List Use):PO:=.map (fs.map fun u=>(PV.str u.name,Y8 u))
theorem Z2v (vs:List Use):refsO (Zo1 vs)=[]:=by
 simp only[Zo1,refsO,List.flatMap_eq_nil_iff,List.mem_map];rintro x ⟨u,_,rfl⟩;rfl
theorem Z2w (fs:List Use):refsO (Zo2 fs)=[]:=by
 simp only[Zo2,refsO,List.flatMap_eq_nil_iff,List.mem_map];rintro x ⟨u,_,rfl⟩;simp[refs]
theorem Zay (vs:List Use)(m:Nat):Wj m (Zo1 vs)=true:=by
 simp only[Zo1,Wj,List.all_eq_true,List.mem_map];rintro x ⟨u,_,rfl⟩;rfl
theorem Zaz (fs:List Use)(m:Nat):Wj m (Zo2 fs)=true:=by
 simp only[Zo2,Wj,List.all_eq_true,List.mem_map];rintro x ⟨u,_,rfl⟩;simp
structure UM (p Zc a va b vb:Nat)(vs fs:List Use)(h:PH):Prop where
 o:h.get p=some (Zc,.cells [.map a va,.map b vb])
 v:h.get a=some (va,Zo1 vs)
 f:h.get b=some (vb,Zo2 fs)
 pa:p≠a
 pb:p≠b
 ab:a≠b
 lp:p < h.next
 la:a < h.next
 lb:b < h.next
theorem UM.reach {p Zc a va b vb:Nat}{vs fs:List Use}{h:PH}(U:UM p Zc a va b vb vs fs h):Pure.reach h 4 [p]=[p,a,b]:=by
 have h1:List.flatMap (fun e:PV×PV=>refs 3 e.2) (vs.map fun u=>(PV.str u.name,PV.int .i64 u.sort))=[]:=Z2v vs;have h2:List.flatMap (fun e:PV×PV=>refs 3 e.2) (fs.map fun u=>(PV.str u.name,Y8 u))=[]:=Z2w fs;simp only[Pure.reach,List.flatMap_cons,List.flatMap_nil,U.o,List.append_nil];simp only[Pure.reach,refsO,U.v,U.f,h1,h2,refs,List.flatMap_cons,List.flatMap_nil,List.append_nil,List.cons_append,List.nil_append]
theorem Zacq (K:Pure.Loc)(H:PH):∃Zc va vb h',Yh vE K 53 [] H=some (.ptr (H.next+4) Zc 0,h')/\UM (H.next+4) Zc (H.next+1) va (H.next+2) vb [] [] h'/\∀j,j < H.next->h'.get j=H.get j:=by
 obtain⟨w,h',h1,Zc,va,vb,rfl,h2⟩:=Zg2 (C:=vE) (K:=K) (f:=53) (args:=[]) (h:=H) (ok:=[]) (fn:=Tryz.f53) (R:=fun w h'=>∃Zc va vb,w=.ptr (H.next+4) Zc 0/\UM (H.next+4) Zc (H.next+1) va (H.next+2) vb [] [] h'/\∀j,j < H.next->h'.get j=H.get j) Tryz.func53 rfl rfl rfl (by simp) (by simp[Pure.reach]) (by simp) (by
  (refine Zm ?_;repeat'(first|(refine Zi fun _=>?_;try simp(disch:=first|exact Zw|fail)[*,Yd,Tryz.f53])|refine Zx ?_|refine Zn ?_ ?_))
  exact⟨by rw[<- Bool.not_eq_true,Nat.blt_eq];omega,⟨H.stamp (H.next+1),H.stamp (H.next+2),by simp,by simp,by simp,by omega,by omega,by omega,by simp,by simp,by simp⟩,fun j hj=>by simp[show j≠H.next+1 by omega,show j≠H.next+2 by omega,show j≠H.next+4 by omega]⟩)
 exact⟨Zc,va,vb,h',h1,h2⟩
theorem UM.can {K:Pure.Loc}{p Zc a va b vb:Nat}{vs fs:List Use}{h:PH}(U:UM p Zc a va b vb vs fs h)(hp:can K p=true)(ha:can K a=true)(hb:can K b=true):[p,a,b].all (fun i=>can K i&&(h.get i).isSome)=true:=by
 simp only[List.all_cons,List.all_nil,hp,ha,hb,U.o,U.v,U.f,Option.isSome_some,Bool.and_self]
theorem UM.belowP {p Zc a va b vb:Nat}{vs fs:List Use}{h:PH}(U:UM p Zc a va b vb vs fs h):h.belowAt h.next p=true:=by
 simp[PH.belowAt,U.o,Wj,U.la,U.lb]
theorem Zwe (es:List Use)(x:Y9):Sz (es.map fun u=>(PV.str u.name,PV.int .i64 u.sort)) (.str x)=some ((es.find? (fun u=>u.name==x)).map fun u=>PV.int .i64 u.sort):=Zep (fun u=>PV.int .i64 u.sort) es x
theorem Zacj (es:List Use)(u:Use)(h:∀v∈es,v.name≠u.name):Rx (es.map fun u=>(PV.str u.name,PV.int .i64 u.sort)) (.str u.name) (.int .i64 u.sort)=some ((es++[u]).map fun u=>(PV.str u.name,PV.int .i64 u.sort)):=Zk9 (fun u=>PV.int .i64 u.sort) es u h
def Qq (vs fs:List Use)(x:Y9)(s:Int):Bool×List Use:=
 if (fs.find? (fun u=>u.name==x)).isSome then (false,vs) else match vs.find? (fun u=>u.name==x) with
  |some v=>(v.sort==s,vs)
  |none=>(true,vs++[⟨false,x,[],s⟩])
set_option maxHeartbeats 1000000 in
theorem Zwu {p Zc a va b vb:Nat}{vs fs:List Use}{h:PH}(U:UM p Zc a va b vb vs fs h)(x:Y9)(s:Int)(K:Pure.Loc)(hp:can K p=true)(ha:can K a=true)(hb:can K b=true):Yh vE K 105 [.ptr p Zc 0,.str x,.int .i64 s] h=some (.bool (Qq vs fs x s).1,(h.put a va (Zo1 (Qq vs fs x s).2)).put b vb (Zo2 fs)):=by
 have W5:=Yg U.lp;have had:=Yg U.la;have hbd:=Yg U.lb;have hfv:=Zwe vs x;have hff:=Zep Y8 fs x;have g1:=U.o;have g2:=U.v;have g3:=U.f;have Zry:(p=a)=False:=by simp[U.pa]
 have Zne:(p=b)=False:=by simp[U.pb]
 have hne3:(b=a)=False:=by simp[Ne.symm U.ab]
 have hne4:(a=b)=False:=by simp[U.ab]
 have hne5:(a=p)=False:=by simp[Ne.symm U.pa]
 have hne6:(b=p)=False:=by simp[Ne.symm U.pb]
 refine Zg3 (fn:=Tryz.f105) Tryz.func105 rfl rfl rfl (by simp) (by simpa using U.reach) (U.can hp ha hb) U.belowP ?_ (by simp) (Zay _ _) (Zaz _ _);unfold Qq;cases hf:fs.find? (fun u=>u.name==x) with
 |some f=>
  rw[hf]at hff;simp only[Option.map_some,Option.isSome_some,if_true]at hff ⊢
  (refine Zm ?_;repeat'(first|(refine Zi fun _=>?_;try simp(disch:=first|exact Zw|fail)[*,Yd,Tryz.f105,Ze U.lp,Ze U.la,Ze U.lb])|refine Zx ?_|refine Zn ?_ ?_))
 |none=>
  rw[hf]at hff;cases hv:vs.find? (fun u=>u.name==x) with
  |some v=>
   rw[hv]at hfv;simp only[Option.map_some,Option.map_none,Option.isSome_none,Bool.false_eq_true,if_false]at hff hfv ⊢
   (refine Zm ?_;repeat'(first|(refine Zi fun _=>?_;try simp(disch:=first|exact Zw|fail)[*,Yd,Tryz.f105,Ze U.lp,Ze U.la,Ze U.lb])|refine Zx ?_|refine Zn ?_ ?_))
  |none=>
   rw[hv]at hfv;have hpm:=Zacj vs ⟨false,x,[],s⟩ (fun v h=>Un hv v h);simp only[Option.map_some,Option.map_none,Option.isSome_none,Bool.false_eq_true,if_false]at hff hfv hpm ⊢
   (refine Zm ?_;repeat'(first|(refine Zi fun _=>?_;try simp(disch:=first|exact Zw|fail)[*,Yd,Tryz.f105,Ze U.lp,Ze U.la,Ze U.lb])|refine Zx ?_|refine Zn ?_ ?_))
def Rp (vs fs:List Use)(u:Use):Bool×List Use:=
 if (vs.find? (fun v=>v.name==u.name)).isSome then (false,fs) else match fs.find? (fun v=>v.name==u.name) with
  |some g=>(g.sort==u.sort&&g.args==u.args,fs)
  |none=>(true,fs++[u])
set_option maxHeartbeats 1000000 in
theorem Zwt {p Zc a va b vb:Nat}{vs fs:List Use}{h:PH}(U:UM p Zc a va b vb vs fs h)(u:Use)(hu:u.args.length < 2^30)(Uq:∀g∈fs,g.args.length < 2^30)(K:Pure.Loc)(hp:can K p=true)(ha:can K a=true)(hb:can K b=true):Yh vE K 106 [.ptr p Zc 0,Y8 u] h=some (.bool (Rp vs fs u).1,(h.put a va (Zo1 vs)).put b vb (Zo2 (Rp vs fs u).2)):=by
 have W5:=Yg U.lp;have had:=Yg U.la;have hbd:=Yg U.lb;have hfv:=Zwe vs u.name;have hff:=Zep Y8 fs u.name;have g1:=U.o;have g2:=U.v;have g3:=U.f;have Zry:(p=a)=False:=by simp[U.pa]
 have Zne:(p=b)=False:=by simp[U.pb]
 have hne3:(b=a)=False:=by simp[Ne.symm U.ab]
 have hne4:(a=b)=False:=by simp[U.ab]
 have hne5:(a=p)=False:=by simp[Ne.symm U.pa]
 have hne6:(b=p)=False:=by simp[Ne.symm U.pb]
 refine Zg3 (fn:=Tryz.f106) Tryz.func106 rfl rfl rfl (by simp) (by simpa using U.reach) (U.can hp ha hb) U.belowP ?_ (by simp) (Zay _ _) (Zaz _ _);unfold Rp;cases hf:vs.find? (fun v=>v.name==u.name) with
 |some f=>
  rw[hf]at hfv;simp only[Option.map_some,Option.isSome_some,if_true]at hfv ⊢
  (refine Zm ?_;repeat'(first|(refine Zi fun _=>?_;try simp(disch:=first|exact Zw|fail)[*,Yd,Tryz.f106,Ze U.lp,Ze U.la,Ze U.lb])|refine Zx ?_|refine Zn ?_ ?_))
  refine Yw false false [] [] [] [] false (by decide +kernel) ?_
  (refine Zm ?_;repeat'(first|(refine Zi fun _=>?_;try simp(disch:=first|exact Zw|fail)[*,Yd,Ze U.lp,Ze U.la,Ze U.lb])|refine Zx ?_|refine Zn ?_ ?_))
 |none=>
  rw[hf]at hfv;cases hv:fs.find? (fun v=>v.name==u.name) with
  |some g=>
   rw[hv]at hff;have hgl:=Uq g (Th hv).1;have h137:=Z16 true true g.args u.args (by omega) (by omega);simp only[Option.map_some,Option.map_none,Option.isSome_none,Bool.false_eq_true,if_false]at hff hfv ⊢
   (refine Zm ?_;repeat'(first|(refine Zi fun _=>?_;try simp(disch:=first|exact Zw|fail)[*,Yd,Tryz.f106,Ze U.lp,Ze U.la,Ze U.lb])|refine Zx ?_|refine Zn ?_ ?_))
   refine Yw false false [] [] [] [] false (by decide +kernel) ?_
   (refine Zm ?_;repeat'(first|(refine Zi fun _=>?_;try simp(disch:=first|exact Zw|fail)[*,Yd,Ze U.lp,Ze U.la,Ze U.lb])|refine Zx ?_|refine Zn ?_ ?_))
   refine Yw false false [] [] [] [] false (by decide +kernel) ?_
   (refine Zm ?_;repeat'(first|(refine Zi fun _=>?_;try simp(disch:=first|exact Zw|fail)[*,Yd,Ze U.lp,Ze U.la,Ze U.lb])|refine Zx ?_|refine Zn ?_ ?_))
  |none=>
   rw[hv]at hff;have hpm:=Zk9 Y8 fs u (fun v h=>Un hv v h);simp only[Option.map_some,Option.map_none,Option.isSome_none,Bool.false_eq_true,if_false]at hff hfv hpm ⊢
   (refine Zm ?_;repeat'(first|(refine Zi fun _=>?_;try simp(disch:=first|exact Zw|fail)[*,Yd,Tryz.f106,Ze U.lp,Ze U.la,Ze U.lb])|refine Zx ?_|refine Zn ?_ ?_))
   refine Yw false false [] [] [] [] false (by decide +kernel) ?_
   (refine Zm ?_;repeat'(first|(refine Zi fun _=>?_;try simp(disch:=first|exact Zw|fail)[*,Yd,Ze U.lp,Ze U.la,Ze U.lb])|refine Zx ?_|refine Zn ?_ ?_))
   refine Yw false false [] [] [] [] false (by decide +kernel) ?_
   (refine Zm ?_;repeat'(first|(refine Zi fun _=>?_;try simp(disch:=first|exact Zw|fail)[*,Yd,Ze U.lp,Ze U.la,Ze U.lb])|refine Zx ?_|refine Zn ?_ ?_))
   refine Yw false false [] [] [] [] false (by decide +kernel) ?_
   (refine Zm ?_;repeat'(first|(refine Zi fun _=>?_;try simp(disch:=first|exact Zw|fail)[*,Yd,Ze U.lp,Ze U.la,Ze U.lb])|refine Zx ?_|refine Zn ?_ ?_))
theorem Z96 (u:Use)(op sort kids:Int)(name num:Y9)(K:Pure.Loc)(H:PH)(p Zc:Nat)(Zu:can K p=true)(hlt:p < H.next)(hp:H.get p=some (Zc,.cells [.int .i64 op,.int .i64 sort,.str name,.str num,.int .i64 kids])):Yh vE K 108 [Y8 u,.ptr p Zc 0] H=some (.bool (u.name==name),H):=by
 refine W6 (ok:=[p]) (fn:=Tryz.f108) Tryz.func108 rfl rfl rfl (by simp) (by simp[reach,hp,refsO]) (Ze5 Zu hp) (by simpa using hlt) (by simp[PH.belowAt,hp,Wj]) ?_ (by simp);have W5:=Yg hlt
 (refine Zm ?_;repeat'(first|(refine Zi fun _=>?_;try simp(disch:=first|exact Zw|fail)[*,Yd,Tryz.f108,Ze hlt])|refine Zx ?_|refine Zn ?_ ?_))
theorem Z97 (l:List Use)(k:Nat)(op sort kids:Int)(name num:Y9)(hk:l.findIdx? (fun u=>u.name==name)=some k)(hl:l.length < 2^30)(K:Pure.Loc)(H:PH)(p Zc:Nat)(Zu:can K p=true)(hlt:p < H.next)(hp:H.get p=some (Zc,.cells [.int .i64 op,.int .i64 sort,.str name,.str num,.int .i64 kids])):Yh vE K 107 [L 155 true (l.map Y8),.fn 108 [] [.ptr p Zc 0]] H=some (.int .i64 k,H):=by
 obtain⟨Q1,Yp,hall⟩:=List.findIdx?_eq_some_iff_getElem.1 hk;refine W6 (ok:=[p]) (fn:=Tryz.f107) Tryz.func107 rfl rfl rfl (by simp) (by simp[reach,hp,refsO]) (Ze5 Zu hp) (by simpa using hlt) (by simp[PH.belowAt,hp,Wj]) ?_ (by simp);have W5:=Yg hlt
 (refine Zm ?_;repeat'(first|(refine Zi fun _=>?_;try simp(disch:=first|exact Zw|fail)[*,Yd,Tryz.f107,Ze hlt])|refine Zx ?_|refine Zn ?_ ?_))
 refine Zv [0,1,7] (fun n sl h=>∃i:Nat,n=l.length - i/\i<=k/\sl 8=some (.int .i64 i)/\h={H with next:=H.next+19}) l.length rfl ⟨0,by simp,by simp,by simp,rfl⟩ ?_;rintro n sl h hfr ⟨i,hn,hi,h8,rfl⟩;simp at hfr;have hil:i < l.length:=by omega
 have hc:=Z96 l[i] op sort kids name num {base:=H.next,lo:=H.next,ok:=[p]} {H with next:=H.next+19} p Zc (by simp) (by simp;omega) hp;by_cases hik:i < k
 .have hx:(l[i].name==name)=false:=by
   have:=hall i hik;simpa using this
  rw[hx]at hc;clear hall hk
  (refine Zm ?_;repeat'(first|(refine Zi fun _=>?_;try simp(disch:=first|exact Zw|fail)[*,Yd,Ze hlt])|refine Zx ?_|refine Zn ?_ ?_))
  exact⟨_,by omega,i+1,rfl,by omega,by omega⟩
 .have e:i=k:=by omega
  subst e;rw[Yp]at hc;clear hall hk
  (refine Zm ?_;repeat'(first|(refine Zi fun _=>?_;try simp(disch:=first|exact Zw|fail)[*,Yd,Ze hlt])|refine Zx ?_|refine Zn ?_ ?_))
theorem UM.frame {p Zc a va b vb:Nat}{vs fs:List Use}{h h2:PH}(U:UM p Zc a va b vb vs fs h)(hp:h2.get p=h.get p)(ha:h2.get a=h.get a)(hb:h2.get b=h.get b)(hn:h.next<=h2.next):UM p Zc a va b vb vs fs h2:=⟨hp.trans U.o,ha.trans U.v,hb.trans U.f,U.pa,U.pb,U.ab,Nat.lt_of_lt_of_le U.lp hn,Nat.lt_of_lt_of_le U.la hn,Nat.lt_of_lt_of_le U.lb hn⟩
theorem UM.put {p Zc a va b vb:Nat}{vs fs:List Use}{h:PH}(U:UM p Zc a va b vb vs fs h)(Qk fs':List Use):UM p Zc a va b vb Qk fs' ((h.put a va (Zo1 Qk)).put b vb (Zo2 fs')):=by
 have h1:=U.pa;have h2:=U.pb;have h3:=U.ab;exact⟨by simp[h1,h2,U.o],by simp[h3],by simp,U.pa,U.pb,U.ab,U.lp,U.la,U.lb⟩
def Wy:List Use->List Use->List Use->Bool×List Use×List Use
 |vs,fs,[]=>(true,vs,fs)
 |vs,fs,u::r=>if u.fn then (if (Rp vs fs u).1 then Wy vs (Rp vs fs u).2 r else (false,vs,(Rp vs fs u).2)) else (if (Qq vs fs u.name u.sort).1 then Wy (Qq vs fs u.name u.sort).2 fs r else (false,(Qq vs fs u.name u.sort).2,fs))
theorem Zc3 {P:List Use}{u:Use}(hP:Clean P)(h:∀w∈P,w.name=u.name->w=u):Clean (P++[u]):=by
 intro a ha b hb e;rcases List.mem_append.1 ha with h1 | h1<;>rcases List.mem_append.1 hb with h2 | h2
 .exact hP a h1 b h2 e
 .have h3:b=u:=by simpa using h2
  rw[h3]at e ⊢;exact h a h1 e
 .have h3:a=u:=by simpa using h1
  rw[h3]at e ⊢;exact (h b h2 e.symm).symm
 .have h3:b=u:=by simpa using h2
  have h4:a=u:=by simpa using h1
  rw[h3,h4]
theorem Zme:∀(us vs fs P:List Use),(∀u,u∈vs↔u∈P/\u.fn=false)->(∀u,u∈fs↔u∈P/\u.fn=true)->Clean P->(∀u∈P++us,u.fn=false->u.args=[])->((Wy vs fs us).1=true↔Clean (P++us))
 | [],vs,fs,P,hv,hf,hC,ha=>by simp[Wy,hC]
 |u::r,vs,fs,P,hv,hf,hC,ha=>by
  have hass:P++u::r=(P++[u])++r:=by simp
  have bad:∀w∈P,w.name=u.name->w≠u->¬ Clean (P++u::r):=fun w hw e Yp hCl=>Yp (hCl w (by simp[hw]) u (by simp) e)
  have rec1:∀Qk fs',(∀x,x∈Qk↔x∈P++[u]/\x.fn=false)->(∀x,x∈fs'↔x∈P++[u]/\x.fn=true)->Clean (P++[u])->((Wy Qk fs' r).1=true↔Clean (P++u::r)):=fun Qk fs' h1 h2 h3=>by
   rw[hass];exact Zme r Qk fs' (P++[u]) h1 h2 h3 (by rw[<- hass];exact ha)
  have known:u∈P->(∀x,x∈P++[u]↔x∈P):=fun hu x=>by
   simp only[List.mem_append,List.mem_singleton];exact⟨fun h=>h.elim id fun e=>e ▸ hu,Or.inl⟩
  cases Qi:u.fn with
  |false=>
   have hua:=ha u (by simp) Qi
   have hue:(⟨false,u.name,[],u.sort⟩:Use)=u:=by
    obtain⟨a,b,c,d⟩:=u;simp only at Qi hua;rw[Qi,hua]
   simp only[Wy,Qi,Bool.false_eq_true,if_false];unfold Qq;cases h1:fs.find? (fun x=>x.name==u.name) with
   |some f=>
    obtain⟨a1,a2⟩:=Th h1;have a3:=(hf f).1 a1;simp only[Option.isSome_some,if_true,Bool.false_eq_true,if_false,false_iff];exact bad f a3.1 a2 (fun e=>by rw[e,Qi]at a3;cases a3.2)
   |none=>
    simp only[Option.isSome_none,Bool.false_eq_true,if_false];cases h2:vs.find? (fun x=>x.name==u.name) with
    |some v=>
     obtain⟨a1,a2⟩:=Th h2;have a3:=(hv v).1 a1;simp only;by_cases hs:v.sort=u.sort
     .have e:v=u:=by
       have hva:=ha v (by simp[a3.1]) a3.2;obtain⟨q1,q2,q3,q4⟩:=v;obtain⟨r1,r2,r3,r4⟩:=u;simp only at *;rw[a3.2,Qi,a2,hva,hua,hs]
      subst e;simp only[BEq.rfl,if_true];have kn:=known a3.1;exact rec1 vs fs (fun x=>by rw[kn];exact hv x) (fun x=>by rw[kn];exact hf x) (Zc3 hC fun w hw e=>hC w hw v a3.1 e)
     .have:(v.sort==u.sort)=false:=by simpa using hs
      simp only[this,Bool.false_eq_true,if_false,false_iff];exact bad v a3.1 a2 (fun e=>hs (by rw[e]))
    |none=>
     simp only[if_true,hue];have n1:=Un h1;have n2:=Un h2
     have hno:∀w∈P,w.name≠u.name:=fun w hw e=>by
      cases Vj:w.fn with
      |false=>exact n2 w ((hv w).2 ⟨hw,Vj⟩) e
      |true=>exact n1 w ((hf w).2 ⟨hw,Vj⟩) e
     refine rec1 (vs++[u]) fs (fun x=>?_) (fun x=>?_) (Zc3 hC fun w hw e=>absurd e (hno w hw))
     .simp only [List.mem_append,List.mem_singleton,hv];constructor
      .rintro (h | rfl)
       .exact ⟨.inl h.1,h.2⟩
       .exact ⟨.inr rfl,Qi⟩
      .rintro ⟨h | rfl,h'⟩
       .exact .inl ⟨h,h'⟩
       .exact .inr rfl
     .simp only [List.mem_append,List.mem_singleton,hf];constructor
      .rintro ⟨h,h'⟩;exact⟨.inl h,h'⟩
      .rintro ⟨h | rfl,h'⟩
       .exact ⟨h,h'⟩
       .rw [Qi]at h';cases h'
  |true=>
   simp only[Wy,Qi,if_true];unfold Rp;cases h1:vs.find? (fun x=>x.name==u.name) with
   |some f=>
    obtain⟨a1,a2⟩:=Th h1;have a3:=(hv f).1 a1;simp only[Option.isSome_some,if_true,Bool.false_eq_true,if_false,false_iff];exact bad f a3.1 a2 (fun e=>by rw[e,Qi]at a3;cases a3.2)
   |none=>
    simp only[Option.isSome_none,Bool.false_eq_true,if_false];cases h2:fs.find? (fun x=>x.name==u.name) with
    |some v=>
     obtain⟨a1,a2⟩:=Th h2;have a3:=(hf v).1 a1;simp only;by_cases hs:v.sort=u.sort/\v.args=u.args
     .have e:v=u:=by
       obtain⟨q1,q2,q3,q4⟩:=v;obtain⟨r1,r2,r3,r4⟩:=u;simp only at *;rw[a3.2,Qi,a2,hs.1,hs.2]
      subst e;simp only[BEq.rfl,Bool.and_self,if_true];have kn:=known a3.1;exact rec1 vs fs (fun x=>by rw[kn];exact hv x) (fun x=>by rw[kn];exact hf x) (Zc3 hC fun w hw e=>hC w hw v a3.1 e)
     .have:(v.sort==u.sort&&v.args==u.args)=false:=by
       rw[Bool.eq_false_iff];intro h;simp only[Bool.and_eq_true,beq_iff_eq]at h;exact hs h
      simp only[this,Bool.false_eq_true,if_false,false_iff];exact bad v a3.1 a2 (fun e=>hs (by rw[e];exact⟨rfl,rfl⟩))
    |none=>
     simp only[if_true];have n1:=Un h1;have n2:=Un h2
     have hno:∀w∈P,w.name≠u.name:=fun w hw e=>by
      cases Vj:w.fn with
      |false=>exact n1 w ((hv w).2 ⟨hw,Vj⟩) e
      |true=>exact n2 w ((hf w).2 ⟨hw,Vj⟩) e
     refine rec1 vs (fs++[u]) (fun x=>?_) (fun x=>?_) (Zc3 hC fun w hw e=>absurd e (hno w hw))
     .simp only [List.mem_append,List.mem_singleton,hv];constructor
      .rintro ⟨h,h'⟩;exact⟨.inl h,h'⟩
      .rintro ⟨h | rfl,h'⟩
       .exact ⟨h,h'⟩
       .rw [Qi]at h';cases h'
     .simp only [List.mem_append,List.mem_singleton,hf];constructor
      .rintro (h | rfl)
       .exact ⟨.inl h.1,h.2⟩
       .exact ⟨.inr rfl,Qi⟩
      .rintro ⟨h | rfl,h'⟩
       .exact .inl ⟨h,h'⟩
       .exact .inr rfl
theorem Zbx {t:List Nd}:∀u∈Ya t,u.fn=false->u.args=[]:=by
 induction t with
 |nil=>simp[Ya]
 |cons n r ih=>
  intro u hu hf;simp only[Ya,List.mem_append]at hu;rcases hu with hu | hu
  .exact Zf8 hu hf
  .exact ih u hu hf
theorem Z56 {t:List Nd}{u:Use}(h:u∈Ya t):∃i,∃hi:i < t.length,u∈Xl t[i] (t.drop (i+1)):=by
 induction t with
 |nil=>simp[Ya]at h
 |cons n r ih=>
  simp only[Ya,List.mem_append]at h;rcases h with h | h
  .exact ⟨0,by simp,by simpa using h⟩
  .obtain ⟨i,hi,h2⟩:=ih h;exact⟨i+1,by simpa using hi,by simpa using h2⟩
theorem Z58 (n:Nd)(r:List Nd):(Xl n r).length<=1:=by
 unfold Xl;split
 .simp
 .split
  .split<;>simp
  .simp
theorem Zdu (t:List Nd):(Ya t).length<=t.length:=by
 induction t with
 |nil=>simp[Ya]
 |cons n r ih=>
  have:=Z58 n r;simp only[Ya,List.length_append,List.length_cons];omega
theorem Zjm (us:List Use):∀s:List Use×List Use,∀u,u∈(us.foldl Zbu s).2↔u∈s.2\/(u∈us/\u.fn=true):=by
 induction us with
 |nil=>simp
 |cons x us ih=>
  intro s u;rw[List.foldl_cons,ih];unfold Zbu;cases hx:x.fn with
  |true=>
   simp only[if_true,List.mem_cons];split
   .rename_i hm;constructor
    .rintro (h | h)
     .exact .inl h
     .exact .inr ⟨.inr h.1,h.2⟩
    .rintro (h | ⟨rfl | h,h'⟩)
     .exact .inl h
     .exact .inl hm
     .exact .inr ⟨h,h'⟩
   .simp only [List.mem_append,List.mem_singleton];constructor
    .rintro ((h | rfl) | h)
     .exact .inl h
     .exact .inr ⟨.inl rfl,hx⟩
     .exact .inr ⟨.inr h.1,h.2⟩
    .rintro (h | ⟨rfl | h,h'⟩)
     .exact .inl (.inl h)
     .exact .inl (.inr rfl)
     .exact .inr ⟨h,h'⟩
  |false=>
   simp only[Bool.false_eq_true,if_false,List.mem_cons];constructor
   .rintro (h | h)
    .exact .inl h
    .exact .inr ⟨.inr h.1,h.2⟩
   .rintro (h | ⟨rfl | h,h'⟩)
    .exact .inl h
    .rw [hx]at h';cases h'
    .exact .inr ⟨h,h'⟩
theorem Zpw (us:List Use):∀s:List Use×List Use,(us.foldl Zbu s).2.length<=s.2.length+us.length:=by
 induction us with
 |nil=>simp
 |cons x us ih=>
  intro s;have h1:=ih (Zbu s x)
  have h2:(Zbu s x).2.length<=s.2.length+1:=by
   unfold Zbu;split
   .simp only;split<;>simp
   .simp
  simp only[List.foldl_cons,List.length_cons];omega
abbrev Ww (t:List Nd):List Use:=(Va (Ya t)).2
theorem Zjz {t:List Nd}{u:Use}:u∈Ww t↔u∈Ya t/\u.fn=true:=by
 rw[Ww,Va,Zjm];simp
theorem VT.app {t:List Nd}{tr:Tr}(v:VT t tr){i:Nat}(hi:i < t.length)(h5:t[i].op=5):∃ks r,∃k:Nat,t[i].kids=(k:Int)/\many (Zg 257) k (t.drop (i+1))=some (ks,r)/\ks.length<=20000/\Xl t[i] (t.drop (i+1))=[⟨true,t[i].name,Ym ks,t[i].sort⟩]:=by
 obtain⟨t1,t2,hF,hk,hm⟩:=Zjk (d:=256) v.parse v.pos hi;have hl:=hF.le;rw[List.length_append,List.length_drop]at hl;have:=v.len;refine⟨t1.map (·.1),_,t1.length,hk,hm,by simp;omega,?_⟩;rw[Z57 (d:=256) (by omega) hi h5 hk hm,Zab]
theorem VT.args {t:List Nd}{tr:Tr}(v:VT t tr):∀u∈Ya t,u.args.length < 2^30:=by
 intro u hu;obtain⟨i,hi,h⟩:=Z56 hu;by_cases h5:t[i].op=5
 .obtain ⟨ks,r,k,_,_,hks,he⟩:=v.app hi h5;rw[he]at h;simp only[List.mem_singleton]at h;rw[h];simp only[Tp];omega
 .have:u.fn=false:=by
   unfold Xl at h;split at h
   .simp at h;rw[h]
   .simp [h5]at h
  rw[Zf8 h this];simp
theorem GT.vt {s:Int}{d N:Nat}{V:List (Y9×Int)}{t:List Nd}(h:GT s d N V t)(hV:Q3 V)(hd:d<=257)(hN:N<=20000):∃tr,VT t tr/\Zl tr=s:=by
 obtain⟨tr,h1,h2⟩:=h.tree;have h3:=Sw hd (h1 []);rw[List.append_nil]at h3;have hc:=h.clean hV;unfold Yv at hc;rw[decide_eq_true_eq]at hc;exact⟨tr,⟨h3,by rw[h2];exact h.pos,⟨h.short,fun n hn=>(h.node n hn).2.2.2⟩,Nat.le_trans h.len hN,hc⟩,h2⟩
def Vk:List (Y9×Int):=V0++[([107],1)]
theorem Zama:Q3 Vk:=by unfold Q3 Vk V0;decide
theorem Zas8:Zoj Vk:=by unfold Zoj Vk V0;decide +kernel
theorem Zas9:∀v∈V0,v∈Vk:=fun v hv=>List.mem_append_left _ hv
theorem Ztz {u:List Nd}{n:Nd}{tr:Tr}(hn:n.op=5)(hk:n.kids=1)(hp:Zg 257 u=some (tr,[])):Ya (n::u)=⟨true,n.name,[Zl tr],n.sort⟩::Ya u:=by
 simp only[Ya,Xl,hn,hk];simp[many,hp,Ym]
theorem TermG.vt {t:List Nd}(h:TermG t):∃tr,VT t tr:=by
 cases h with
 |plain h1 h4 h=>exact (h.vt Zj8 (by omega) (by omega)).imp fun _ h=>h.1
 | @con u h=>
   have h2:GT 1 (7+1) (2*418+1) Vk (Xh (opN 7) [u,[⟨4,1,[107],[],0⟩]]):=GT.log (.inl rfl) (ks:=[u,[⟨4,1,[107],[],0⟩]]) (by
    intro t ht;simp only[List.mem_cons,List.not_mem_nil,or_false]at ht;rcases ht with rfl | rfl
    .exact h.vars Zas9
    .exact GT.var Zas8 (by decide) (by omega) (by omega))
   exact (h2.vt Zama (by omega) (by omega)).imp fun _ h=>h.1
 | @app u h=>
   obtain⟨tr,h1,h2⟩:=h.tree
   have h3:Zg 257 u=some (tr,[]):=by
    have:=Sw (e:=257) (by omega) (h1 [])
    rwa [List.append_nil]at this
   have h4:Zg 7 u=some (tr,[]):=by simpa using h1 []
   have hj:Xh ⟨5,2,[102],[],0⟩ [u]=⟨5,2,[102],[],1⟩::u:=by simp[Xh]
   rw[hj]
   have hp:Zg 8 (⟨5,2,[102],[],1⟩::u)=some (.mk 5 2 [102] [] [tr],[]):=by
    have hf:Wa 5 2 [102] []=true:=by decide +kernel
    have ha:Yz 5 1=true:=by decide
    simp only[Zg,hf,ha,Bool.and_self,if_true];simp[many,h4]
   refine⟨.mk 5 2 [102] [] [tr],Sw (by omega) hp,by simp[Zl,Ym,h2,Wz],⟨fun n hn=>?_,fun n hn=>?_⟩,by have:=h.len;simp;omega,?_⟩
   .rcases List.mem_cons.1 hn with rfl | hn
    .exact ⟨by simp,by simp⟩
    .exact h.short n hn
   .rcases List.mem_cons.1 hn with rfl | hn
    .intro e;simp at e
    .exact (h.node n hn).2.2.2
   .rw [Ztz rfl rfl h3];have hc:=h.clean Zj8;unfold Yv at hc;rw[decide_eq_true_eq]at hc
    have Yp:∀v∈Ya u,v.name≠[102]:=by
     intro v hv;obtain⟨n,n1,n2,rfl⟩:=Zdt (fun n hn=>(h.node n hn).2.1) v hv;have:=(h.node n n1).2.2.1 n2;intro e;simp only at e;rw[e]at this
     revert this
     generalize n.sort=s;unfold V0;simp
    intro a ha b hb he;rcases List.mem_cons.1 ha with rfl | ha<;>rcases List.mem_cons.1 hb with rfl | hb
    .rfl
    .exact absurd he.symm (Yp _ hb)
    .exact absurd he (Yp _ ha)
    .exact hc a ha b hb he
end Go.Proofs.YtabcdhcpilpojaaGreatDoor
end
