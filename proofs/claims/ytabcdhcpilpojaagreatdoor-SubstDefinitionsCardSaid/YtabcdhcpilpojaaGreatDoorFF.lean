/- The program's substitutions: lists of names. -/
import Derived.Test.YtabcdhcpilpojaaGreatDoorFE
import Derived.Test.YtabcdhcpilpojaaGreatDoorPD
import Derived.Test.YtabcdhcpilpojaaGreatDoorFC
set_option linter.unusedSimpArgs false
set_option linter.unusedVariables false
section
set_option maxRecDepth 20000
namespace Go.Proofs.YtabcdhcpilpojaaGreatDoor
open Go Go.Pure
open Go.Virt (Ex Ctx Ty TK)
set_option maxHeartbeats 1000000 in
theorem Zabn (b:Bool)(l:List Yi)(hl:l.length < 2^30):Xn vE 51 [L 9 b (l.map .str)] (.bool (!(decide l.Nodup))):=by
 intro K H;refine Wc Tryz.func51 ?_
 (refine Zm ?_;repeat'(first|(refine Zi fun _=>?_;try simp(disch:=first|exact Zq|fail)[*,Zs,Tryz.f51])|refine Ye ?_|refine Zx ?_|refine Zn ?_ ?_))
 generalize hv6:H.stamp (H.next+6)=v6;refine Zh [3,7,8] (fun n sl h=>∃i:Nat,n=l.length - i/\i<=l.length/\sl 9=some (.int .i64 i)/\h.get (H.next+6)=some (v6,.map ((l.take i).map fun s=>(PV.str s,PV.bool true)))/\(l.take i).Nodup) l.length rfl ⟨0,by simp,by simp,by simp,by simp[*],by simp⟩ ?_;rintro n sl h hf ⟨i,hn,hi,h9,hg,hnd⟩;simp at hf;by_cases hlt:i < l.length
 .have htk:=Y8 l i hlt;have hfs:=Zw5 (l.take i) l[i];by_cases hm:l[i]∈l.take i
  .rw [if_pos hm]at hfs
   have hnn:¬ l.Nodup:=fun hN=>by
    have h2:(l.take (i+1)).Nodup:=hN.sublist (List.take_sublist _ _);rw[htk,List.nodup_append]at h2;exact h2.2.2 _ hm _ (by simp) rfl
   have e:decide l.Nodup=false:=by simpa using hnn
   rw[e];generalize l.take i=T at *;clear hnd htk hm
   (refine Zm ?_;repeat'(first|(refine Zi fun _=>?_;try simp(disch:=first|exact Zq|fail)[*,Zs])|refine Ye ?_|refine Zx ?_|refine Zn ?_ ?_))
  .rw [if_neg hm]at hfs;have Qp:=Zsd (l.take i) l[i] hm
   have Zzl:(l.take (i+1)).Nodup:=by
    rw[htk,List.nodup_append];exact⟨hnd,by simp,fun a ha b hb e=>by simp at hb;subst hb;exact hm (e ▸ ha)⟩
   have e2:((l.take i++[l[i]]).map fun s=>(PV.str s,PV.bool true))=((l.take (i+1)).map fun s=>(PV.str s,PV.bool true)):=by rw[htk]
   rw[e2]at Qp;replace Zzl:=Hide.mk Zzl;have hT2:∃T2,l.take (i+1)=T2:=⟨_,rfl⟩
   obtain⟨T2,hT2⟩:=hT2;rw[hT2]at Qp;replace hT2:=Hide.mk hT2;generalize l.take i=T at *;clear hnd htk hm e2
   (refine Zm ?_;repeat'(first|(refine Zi fun _=>?_;try simp(disch:=first|exact Zq|fail)[*,Zs])|refine Ye ?_|refine Zx ?_|refine Zn ?_ ?_))
   exact⟨_,by omega,i+1,rfl,by omega,by omega,by rw[<- List.map_take,hT2.get],Zzl.get⟩
 .have e:i=l.length:=by omega
  subst e;rw[List.take_length]at hnd;have e:decide l.Nodup=true:=by simpa using hnd
  rw[e]
  (refine Zm ?_;repeat'(first|(refine Zi fun _=>?_;try simp(disch:=first|exact Zq|fail)[*,Zs])|refine Ye ?_|refine Zx ?_|refine Zn ?_ ?_))
abbrev Zpi (vs:List Use):PO:=.map (vs.map fun u=>(PV.str u.name,PV.int .i64 u.sort))
abbrev Zpj (fs:List Use):PO:=.map (fs.map fun u=>(PV.str u.name,Y5 u))
theorem Z3j (vs:List Use):refsO (Zpi vs)=[]:=by
 simp only[Zpi,refsO,List.flatMap_eq_nil_iff,List.mem_map];rintro x ⟨u,_,rfl⟩;rfl
theorem Z3k (fs:List Use):refsO (Zpj fs)=[]:=by
 simp only[Zpj,refsO,List.flatMap_eq_nil_iff,List.mem_map];rintro x ⟨u,_,rfl⟩;simp[refs]
theorem Za3 (vs:List Use)(m:Nat):Xr m (Zpi vs)=true:=by
 simp only[Zpi,Xr,List.all_eq_true,List.mem_map];rintro x ⟨u,_,rfl⟩;rfl
theorem Za4 (fs:List Use)(m:Nat):Xr m (Zpj fs)=true:=by
 simp only[Zpj,Xr,List.all_eq_true,List.mem_map];rintro x ⟨u,_,rfl⟩;simp
structure UM (p ver a va b vb:Nat)(vs fs:List Use)(h:PH):Prop where
 o:h.get p=some (ver,.cells [.map a va,.map b vb])
 v:h.get a=some (va,Zpi vs)
 f:h.get b=some (vb,Zpj fs)
 pa:p≠a
 pb:p≠b
 ab:a≠b
 lp:p < h.next
 la:a < h.next
 lb:b < h.next
theorem UM.reach {p ver a va b vb:Nat}{vs fs:List Use}{h:PH}(U:UM p ver a va b vb vs fs h):Pure.reach h 4 [p]=[p,a,b]:=by
 have h1:List.flatMap (fun e:PV×PV=>refs 3 e.2) (vs.map fun u=>(PV.str u.name,PV.int .i64 u.sort))=[]:=Z3j vs;have h2:List.flatMap (fun e:PV×PV=>refs 3 e.2) (fs.map fun u=>(PV.str u.name,Y5 u))=[]:=Z3k fs;simp only[Pure.reach,List.flatMap_cons,List.flatMap_nil,U.o,List.append_nil];simp only[Pure.reach,refsO,U.v,U.f,h1,h2,refs,List.flatMap_cons,List.flatMap_nil,List.append_nil,List.cons_append,List.nil_append]
theorem Zadw (K:Pure.Loc)(H:PH):∃ver va vb h',Yf vE K 53 [] H=some (.ptr (H.next+4) ver 0,h')/\UM (H.next+4) ver (H.next+1) va (H.next+2) vb [] [] h'/\∀j,j < H.next->h'.get j=H.get j:=by
 obtain⟨w,h',h1,ver,va,vb,rfl,h2⟩:=Zhg (C:=vE) (K:=K) (f:=53) (args:=[]) (h:=H) (ok:=[]) (fn:=Tryz.f53) (R:=fun w h'=>∃ver va vb,w=.ptr (H.next+4) ver 0/\UM (H.next+4) ver (H.next+1) va (H.next+2) vb [] [] h'/\∀j,j < H.next->h'.get j=H.get j) Tryz.func53 rfl rfl rfl (by simp) (by simp[Pure.reach]) (by simp) (by
  (refine Zm ?_;repeat'(first|(refine Zi fun _=>?_;try simp(disch:=first|exact Zw|fail)[*,Zu,Tryz.f53])|refine Zx ?_|refine Zn ?_ ?_))
  exact⟨by rw[<- Bool.not_eq_true,Nat.blt_eq];omega,⟨H.stamp (H.next+1),H.stamp (H.next+2),by simp,by simp,by simp,by omega,by omega,by omega,by simp,by simp,by simp⟩,fun j hj=>by simp[show j≠H.next+1 by omega,show j≠H.next+2 by omega,show j≠H.next+4 by omega]⟩)
 exact⟨ver,va,vb,h',h1,h2⟩
theorem UM.can {K:Pure.Loc}{p ver a va b vb:Nat}{vs fs:List Use}{h:PH}(U:UM p ver a va b vb vs fs h)(hp:can K p=true)(ha:can K a=true)(hb:can K b=true):[p,a,b].all (fun i=>can K i&&(h.get i).isSome)=true:=by
 simp only[List.all_cons,List.all_nil,hp,ha,hb,U.o,U.v,U.f,Option.isSome_some,Bool.and_self]
theorem UM.belowP {p ver a va b vb:Nat}{vs fs:List Use}{h:PH}(U:UM p ver a va b vb vs fs h):h.belowAt h.next p=true:=by
 simp[PH.belowAt,U.o,Xr,U.la,U.lb]
theorem Zw3 (es:List Use)(x:Yi):Vb (es.map fun u=>(PV.str u.name,PV.int .i64 u.sort)) (.str x)=some ((es.find? (fun u=>u.name==x)).map fun u=>PV.int .i64 u.sort):=Ze0 (fun u=>PV.int .i64 u.sort) es x
theorem Zadn (es:List Use)(u:Use)(h:∀v∈es,v.name≠u.name):Ur (es.map fun u=>(PV.str u.name,PV.int .i64 u.sort)) (.str u.name) (.int .i64 u.sort)=some ((es++[u]).map fun u=>(PV.str u.name,PV.int .i64 u.sort)):=Zlu (fun u=>PV.int .i64 u.sort) es u h
def Qy (vs fs:List Use)(x:Yi)(s:Int):Bool×List Use:=
 if (fs.find? (fun u=>u.name==x)).isSome then (false,vs) else match vs.find? (fun u=>u.name==x) with
  |some v=>(v.sort==s,vs)
  |none=>(true,vs++[⟨false,x,[],s⟩])
set_option maxHeartbeats 1000000 in
theorem Zxj {p ver a va b vb:Nat}{vs fs:List Use}{h:PH}(U:UM p ver a va b vb vs fs h)(x:Yi)(s:Int)(K:Pure.Loc)(hp:can K p=true)(ha:can K a=true)(hb:can K b=true):Yf vE K 105 [.ptr p ver 0,.str x,.int .i64 s] h=some (.bool (Qy vs fs x s).1,(h.put a va (Zpi (Qy vs fs x s).2)).put b vb (Zpj fs)):=by
 have Vh:=Yg U.lp;have had:=Yg U.la;have hbd:=Yg U.lb;have hfv:=Zw3 vs x;have hff:=Ze0 Y5 fs x;have g1:=U.o;have g2:=U.v;have g3:=U.f;have Zpq:(p=a)=False:=by simp[U.pa]
 have Zio:(p=b)=False:=by simp[U.pb]
 have hne3:(b=a)=False:=by simp[Ne.symm U.ab]
 have hne4:(a=b)=False:=by simp[U.ab]
 have hne5:(a=p)=False:=by simp[Ne.symm U.pa]
 have hne6:(b=p)=False:=by simp[Ne.symm U.pb]
 refine Zhh (fn:=Tryz.f105) Tryz.func105 rfl rfl rfl (by simp) (by simpa using U.reach) (U.can hp ha hb) U.belowP ?_ (by simp) (Za3 _ _) (Za4 _ _);unfold Qy;cases hf:fs.find? (fun u=>u.name==x) with
 |some f=>
  rw[hf]at hff;simp only[Option.map_some,Option.isSome_some,if_true]at hff ⊢
  (refine Zm ?_;repeat'(first|(refine Zi fun _=>?_;try simp(disch:=first|exact Zw|fail)[*,Zu,Tryz.f105,Zd U.lp,Zd U.la,Zd U.lb])|refine Zx ?_|refine Zn ?_ ?_))
 |none=>
  rw[hf]at hff;cases hv:vs.find? (fun u=>u.name==x) with
  |some v=>
   rw[hv]at hfv;simp only[Option.map_some,Option.map_none,Option.isSome_none,Bool.false_eq_true,if_false]at hff hfv ⊢
   (refine Zm ?_;repeat'(first|(refine Zi fun _=>?_;try simp(disch:=first|exact Zw|fail)[*,Zu,Tryz.f105,Zd U.lp,Zd U.la,Zd U.lb])|refine Zx ?_|refine Zn ?_ ?_))
  |none=>
   rw[hv]at hfv;have hpm:=Zadn vs ⟨false,x,[],s⟩ (fun v h=>Uo hv v h);simp only[Option.map_some,Option.map_none,Option.isSome_none,Bool.false_eq_true,if_false]at hff hfv hpm ⊢
   (refine Zm ?_;repeat'(first|(refine Zi fun _=>?_;try simp(disch:=first|exact Zw|fail)[*,Zu,Tryz.f105,Zd U.lp,Zd U.la,Zd U.lb])|refine Zx ?_|refine Zn ?_ ?_))
def R4 (vs fs:List Use)(u:Use):Bool×List Use:=
 if (vs.find? (fun v=>v.name==u.name)).isSome then (false,fs) else match fs.find? (fun v=>v.name==u.name) with
  |some g=>(g.sort==u.sort&&g.args==u.args,fs)
  |none=>(true,fs++[u])
set_option maxHeartbeats 1000000 in
theorem Zxi {p ver a va b vb:Nat}{vs fs:List Use}{h:PH}(U:UM p ver a va b vb vs fs h)(u:Use)(hu:u.args.length < 2^30)(Un:∀g∈fs,g.args.length < 2^30)(K:Pure.Loc)(hp:can K p=true)(ha:can K a=true)(hb:can K b=true):Yf vE K 106 [.ptr p ver 0,Y5 u] h=some (.bool (R4 vs fs u).1,(h.put a va (Zpi vs)).put b vb (Zpj (R4 vs fs u).2)):=by
 have Vh:=Yg U.lp;have had:=Yg U.la;have hbd:=Yg U.lb;have hfv:=Zw3 vs u.name;have hff:=Ze0 Y5 fs u.name;have g1:=U.o;have g2:=U.v;have g3:=U.f;have Zpq:(p=a)=False:=by simp[U.pa]
 have Zio:(p=b)=False:=by simp[U.pb]
 have hne3:(b=a)=False:=by simp[Ne.symm U.ab]
 have hne4:(a=b)=False:=by simp[U.ab]
 have hne5:(a=p)=False:=by simp[Ne.symm U.pa]
 have hne6:(b=p)=False:=by simp[Ne.symm U.pb]
 refine Zhh (fn:=Tryz.f106) Tryz.func106 rfl rfl rfl (by simp) (by simpa using U.reach) (U.can hp ha hb) U.belowP ?_ (by simp) (Za3 _ _) (Za4 _ _);unfold R4;cases hf:vs.find? (fun v=>v.name==u.name) with
 |some f=>
  rw[hf]at hfv;simp only[Option.map_some,Option.isSome_some,if_true]at hfv ⊢
  (refine Zm ?_;repeat'(first|(refine Zi fun _=>?_;try simp(disch:=first|exact Zw|fail)[*,Zu,Tryz.f106,Zd U.lp,Zd U.la,Zd U.lb])|refine Zx ?_|refine Zn ?_ ?_))
  refine Yj false false [] [] [] [] false (by decide +kernel) ?_
  (refine Zm ?_;repeat'(first|(refine Zi fun _=>?_;try simp(disch:=first|exact Zw|fail)[*,Zu,Zd U.lp,Zd U.la,Zd U.lb])|refine Zx ?_|refine Zn ?_ ?_))
 |none=>
  rw[hf]at hfv;cases hv:fs.find? (fun v=>v.name==u.name) with
  |some g=>
   rw[hv]at hff;have hgl:=Un g (Tj hv).1;have h137:=Z2u true true g.args u.args (by omega) (by omega);simp only[Option.map_some,Option.map_none,Option.isSome_none,Bool.false_eq_true,if_false]at hff hfv ⊢
   (refine Zm ?_;repeat'(first|(refine Zi fun _=>?_;try simp(disch:=first|exact Zw|fail)[*,Zu,Tryz.f106,Zd U.lp,Zd U.la,Zd U.lb])|refine Zx ?_|refine Zn ?_ ?_))
   refine Yj false false [] [] [] [] false (by decide +kernel) ?_
   (refine Zm ?_;repeat'(first|(refine Zi fun _=>?_;try simp(disch:=first|exact Zw|fail)[*,Zu,Zd U.lp,Zd U.la,Zd U.lb])|refine Zx ?_|refine Zn ?_ ?_))
   refine Yj false false [] [] [] [] false (by decide +kernel) ?_
   (refine Zm ?_;repeat'(first|(refine Zi fun _=>?_;try simp(disch:=first|exact Zw|fail)[*,Zu,Zd U.lp,Zd U.la,Zd U.lb])|refine Zx ?_|refine Zn ?_ ?_))
  |none=>
   rw[hv]at hff;have hpm:=Zlu Y5 fs u (fun v h=>Uo hv v h);simp only[Option.map_some,Option.map_none,Option.isSome_none,Bool.false_eq_true,if_false]at hff hfv hpm ⊢
   (refine Zm ?_;repeat'(first|(refine Zi fun _=>?_;try simp(disch:=first|exact Zw|fail)[*,Zu,Tryz.f106,Zd U.lp,Zd U.la,Zd U.lb])|refine Zx ?_|refine Zn ?_ ?_))
   refine Yj false false [] [] [] [] false (by decide +kernel) ?_
   (refine Zm ?_;repeat'(first|(refine Zi fun _=>?_;try simp(disch:=first|exact Zw|fail)[*,Zu,Zd U.lp,Zd U.la,Zd U.lb])|refine Zx ?_|refine Zn ?_ ?_))
   refine Yj false false [] [] [] [] false (by decide +kernel) ?_
   (refine Zm ?_;repeat'(first|(refine Zi fun _=>?_;try simp(disch:=first|exact Zw|fail)[*,Zu,Zd U.lp,Zd U.la,Zd U.lb])|refine Zx ?_|refine Zn ?_ ?_))
   refine Yj false false [] [] [] [] false (by decide +kernel) ?_
   (refine Zm ?_;repeat'(first|(refine Zi fun _=>?_;try simp(disch:=first|exact Zw|fail)[*,Zu,Zd U.lp,Zd U.la,Zd U.lb])|refine Zx ?_|refine Zn ?_ ?_))
theorem Zaa1 (u:Use)(op sort kids:Int)(name num:Yi)(K:Pure.Loc)(H:PH)(p ver:Nat)(Zz:can K p=true)(hlt:p < H.next)(hp:H.get p=some (ver,.cells [.int .i64 op,.int .i64 sort,.str name,.str num,.int .i64 kids])):Yf vE K 108 [Y5 u,.ptr p ver 0] H=some (.bool (u.name==name),H):=by
 refine X6 (ok:=[p]) (fn:=Tryz.f108) Tryz.func108 rfl rfl rfl (by simp) (by simp[reach,hp,refsO]) (Zfh Zz hp) (by simpa using hlt) (by simp[PH.belowAt,hp,Xr]) ?_ (by simp);have Vh:=Yg hlt
 (refine Zm ?_;repeat'(first|(refine Zi fun _=>?_;try simp(disch:=first|exact Zw|fail)[*,Zu,Tryz.f108,Zd hlt])|refine Zx ?_|refine Zn ?_ ?_))
theorem Zaa2 (l:List Use)(k:Nat)(op sort kids:Int)(name num:Yi)(hk:l.findIdx? (fun u=>u.name==name)=some k)(hl:l.length < 2^30)(K:Pure.Loc)(H:PH)(p ver:Nat)(Zz:can K p=true)(hlt:p < H.next)(hp:H.get p=some (ver,.cells [.int .i64 op,.int .i64 sort,.str name,.str num,.int .i64 kids])):Yf vE K 107 [L 155 true (l.map Y5),.fn 108 [] [.ptr p ver 0]] H=some (.int .i64 k,H):=by
 obtain⟨Qb,Yn,hall⟩:=List.findIdx?_eq_some_iff_getElem.1 hk;refine X6 (ok:=[p]) (fn:=Tryz.f107) Tryz.func107 rfl rfl rfl (by simp) (by simp[reach,hp,refsO]) (Zfh Zz hp) (by simpa using hlt) (by simp[PH.belowAt,hp,Xr]) ?_ (by simp);have Vh:=Yg hlt
 (refine Zm ?_;repeat'(first|(refine Zi fun _=>?_;try simp(disch:=first|exact Zw|fail)[*,Zu,Tryz.f107,Zd hlt])|refine Zx ?_|refine Zn ?_ ?_))
 refine Zh [0,1,7] (fun n sl h=>∃i:Nat,n=l.length - i/\i<=k/\sl 8=some (.int .i64 i)/\h={H with next:=H.next+19}) l.length rfl ⟨0,by simp,by simp,by simp,rfl⟩ ?_;rintro n sl h Rk ⟨i,hn,hi,h8,rfl⟩;simp at Rk;have hil:i < l.length:=by omega
 have hc:=Zaa1 l[i] op sort kids name num {base:=H.next,lo:=H.next,ok:=[p]} {H with next:=H.next+19} p ver (by simp) (by simp;omega) hp;by_cases hik:i < k
 .have hx:(l[i].name==name)=false:=by
   have:=hall i hik;simpa using this
  rw[hx]at hc;clear hall hk
  (refine Zm ?_;repeat'(first|(refine Zi fun _=>?_;try simp(disch:=first|exact Zw|fail)[*,Zu,Zd hlt])|refine Zx ?_|refine Zn ?_ ?_))
  exact⟨_,by omega,i+1,rfl,by omega,by omega⟩
 .have e:i=k:=by omega
  subst e;rw[Yn]at hc;clear hall hk
  (refine Zm ?_;repeat'(first|(refine Zi fun _=>?_;try simp(disch:=first|exact Zw|fail)[*,Zu,Zd hlt])|refine Zx ?_|refine Zn ?_ ?_))
theorem UM.frame {p ver a va b vb:Nat}{vs fs:List Use}{h h2:PH}(U:UM p ver a va b vb vs fs h)(hp:h2.get p=h.get p)(ha:h2.get a=h.get a)(hb:h2.get b=h.get b)(hn:h.next<=h2.next):UM p ver a va b vb vs fs h2:=⟨hp.trans U.o,ha.trans U.v,hb.trans U.f,U.pa,U.pb,U.ab,Nat.lt_of_lt_of_le U.lp hn,Nat.lt_of_lt_of_le U.la hn,Nat.lt_of_lt_of_le U.lb hn⟩
theorem UM.put {p ver a va b vb:Nat}{vs fs:List Use}{h:PH}(U:UM p ver a va b vb vs fs h)(Qs fs':List Use):UM p ver a va b vb Qs fs' ((h.put a va (Zpi Qs)).put b vb (Zpj fs')):=by
 have h1:=U.pa;have h2:=U.pb;have h3:=U.ab;exact⟨by simp[h1,h2,U.o],by simp[h3],by simp,U.pa,U.pb,U.ab,U.lp,U.la,U.lb⟩
def W1:List Use->List Use->List Use->Bool×List Use×List Use
 |vs,fs,[]=>(true,vs,fs)
 |vs,fs,u::r=>if u.fn then (if (R4 vs fs u).1 then W1 vs (R4 vs fs u).2 r else (false,vs,(R4 vs fs u).2)) else (if (Qy vs fs u.name u.sort).1 then W1 (Qy vs fs u.name u.sort).2 fs r else (false,(Qy vs fs u.name u.sort).2,fs))
theorem Zde {P:List Use}{u:Use}(hP:Clean P)(h:∀w∈P,w.name=u.name->w=u):Clean (P++[u]):=by
 intro a ha b hb e;rcases List.mem_append.1 ha with h1 | h1<;>rcases List.mem_append.1 hb with h2 | h2
 .exact hP a h1 b h2 e
 .have h3:b=u:=by simpa using h2
  rw[h3]at e ⊢;exact h a h1 e
 .have h3:a=u:=by simpa using h1
  rw[h3]at e ⊢;exact (h b h2 e.symm).symm
 .have h3:b=u:=by simpa using h2
  have h4:a=u:=by simpa using h1
  rw[h3,h4]
theorem Zm0:∀(us vs fs P:List Use),(∀u,u∈vs↔u∈P/\u.fn=false)->(∀u,u∈fs↔u∈P/\u.fn=true)->Clean P->(∀u∈P++us,u.fn=false->u.args=[])->((W1 vs fs us).1=true↔Clean (P++us))
 | [],vs,fs,P,hv,hf,hC,ha=>by simp[W1,hC]
 |u::r,vs,fs,P,hv,hf,hC,ha=>by
  have hass:P++u::r=(P++[u])++r:=by simp
  have bad:∀w∈P,w.name=u.name->w≠u->¬ Clean (P++u::r):=fun w hw e Yn hCl=>Yn (hCl w (by simp[hw]) u (by simp) e)
  have rec1:∀Qs fs',(∀x,x∈Qs↔x∈P++[u]/\x.fn=false)->(∀x,x∈fs'↔x∈P++[u]/\x.fn=true)->Clean (P++[u])->((W1 Qs fs' r).1=true↔Clean (P++u::r)):=fun Qs fs' h1 h2 h3=>by
   rw[hass];exact Zm0 r Qs fs' (P++[u]) h1 h2 h3 (by rw[<- hass];exact ha)
  have known:u∈P->(∀x,x∈P++[u]↔x∈P):=fun hu x=>by
   simp only[List.mem_append,List.mem_singleton];exact⟨fun h=>h.elim id fun e=>e ▸ hu,Or.inl⟩
  cases hfn:u.fn with
  |false=>
   have hua:=ha u (by simp) hfn
   have hue:(⟨false,u.name,[],u.sort⟩:Use)=u:=by
    obtain⟨a,b,c,d⟩:=u;simp only at hfn hua;rw[hfn,hua]
   simp only[W1,hfn,Bool.false_eq_true,if_false];unfold Qy;cases h1:fs.find? (fun x=>x.name==u.name) with
   |some f=>
    obtain⟨a1,a2⟩:=Tj h1;have a3:=(hf f).1 a1;simp only[Option.isSome_some,if_true,Bool.false_eq_true,if_false,false_iff];exact bad f a3.1 a2 (fun e=>by rw[e,hfn]at a3;cases a3.2)
   |none=>
    simp only[Option.isSome_none,Bool.false_eq_true,if_false];cases h2:vs.find? (fun x=>x.name==u.name) with
    |some v=>
     obtain⟨a1,a2⟩:=Tj h2;have a3:=(hv v).1 a1;simp only;by_cases hs:v.sort=u.sort
     .have e:v=u:=by
       have hva:=ha v (by simp[a3.1]) a3.2;obtain⟨q1,q2,q3,q4⟩:=v;obtain⟨r1,r2,r3,r4⟩:=u;simp only at *;rw[a3.2,hfn,a2,hva,hua,hs]
      subst e;simp only[BEq.rfl,if_true];have kn:=known a3.1;exact rec1 vs fs (fun x=>by rw[kn];exact hv x) (fun x=>by rw[kn];exact hf x) (Zde hC fun w hw e=>hC w hw v a3.1 e)
     .have:(v.sort==u.sort)=false:=by simpa using hs
      simp only[this,Bool.false_eq_true,if_false,false_iff];exact bad v a3.1 a2 (fun e=>hs (by rw[e]))
    |none=>
     simp only[if_true,hue];have n1:=Uo h1;have n2:=Uo h2
     have hno:∀w∈P,w.name≠u.name:=fun w hw e=>by
      cases Vk:w.fn with
      |false=>exact n2 w ((hv w).2 ⟨hw,Vk⟩) e
      |true=>exact n1 w ((hf w).2 ⟨hw,Vk⟩) e
     refine rec1 (vs++[u]) fs (fun x=>?_) (fun x=>?_) (Zde hC fun w hw e=>absurd e (hno w hw))
     .simp only [List.mem_append,List.mem_singleton,hv];constructor
      .rintro (h | rfl)
       .exact ⟨.inl h.1,h.2⟩
       .exact ⟨.inr rfl,hfn⟩
      .rintro ⟨h | rfl,h'⟩
       .exact .inl ⟨h,h'⟩
       .exact .inr rfl
     .simp only [List.mem_append,List.mem_singleton,hf];constructor
      .rintro ⟨h,h'⟩;exact⟨.inl h,h'⟩
      .rintro ⟨h | rfl,h'⟩
       .exact ⟨h,h'⟩
       .rw [hfn]at h';cases h'
  |true=>
   simp only[W1,hfn,if_true];unfold R4;cases h1:vs.find? (fun x=>x.name==u.name) with
   |some f=>
    obtain⟨a1,a2⟩:=Tj h1;have a3:=(hv f).1 a1;simp only[Option.isSome_some,if_true,Bool.false_eq_true,if_false,false_iff];exact bad f a3.1 a2 (fun e=>by rw[e,hfn]at a3;cases a3.2)
   |none=>
    simp only[Option.isSome_none,Bool.false_eq_true,if_false];cases h2:fs.find? (fun x=>x.name==u.name) with
    |some v=>
     obtain⟨a1,a2⟩:=Tj h2;have a3:=(hf v).1 a1;simp only;by_cases hs:v.sort=u.sort/\v.args=u.args
     .have e:v=u:=by
       obtain⟨q1,q2,q3,q4⟩:=v;obtain⟨r1,r2,r3,r4⟩:=u;simp only at *;rw[a3.2,hfn,a2,hs.1,hs.2]
      subst e;simp only[BEq.rfl,Bool.and_self,if_true];have kn:=known a3.1;exact rec1 vs fs (fun x=>by rw[kn];exact hv x) (fun x=>by rw[kn];exact hf x) (Zde hC fun w hw e=>hC w hw v a3.1 e)
     .have:(v.sort==u.sort&&v.args==u.args)=false:=by
       rw[Bool.eq_false_iff];intro h;simp only[Bool.and_eq_true,beq_iff_eq]at h;exact hs h
      simp only[this,Bool.false_eq_true,if_false,false_iff];exact bad v a3.1 a2 (fun e=>hs (by rw[e];exact⟨rfl,rfl⟩))
    |none=>
     simp only[if_true];have n1:=Uo h1;have n2:=Uo h2
     have hno:∀w∈P,w.name≠u.name:=fun w hw e=>by
      cases Vk:w.fn with
      |false=>exact n1 w ((hv w).2 ⟨hw,Vk⟩) e
      |true=>exact n2 w ((hf w).2 ⟨hw,Vk⟩) e
     refine rec1 vs (fs++[u]) (fun x=>?_) (fun x=>?_) (Zde hC fun w hw e=>absurd e (hno w hw))
     .simp only [List.mem_append,List.mem_singleton,hv];constructor
      .rintro ⟨h,h'⟩;exact⟨.inl h,h'⟩
      .rintro ⟨h | rfl,h'⟩
       .exact ⟨h,h'⟩
       .rw [hfn]at h';cases h'
     .simp only [List.mem_append,List.mem_singleton,hf];constructor
      .rintro (h | rfl)
       .exact ⟨.inl h.1,h.2⟩
       .exact ⟨.inr rfl,hfn⟩
      .rintro ⟨h | rfl,h'⟩
       .exact .inl ⟨h,h'⟩
       .exact .inr rfl
theorem Ze9 {t:List Nd}:∀u∈Zt t,u.fn=false->u.args=[]:=by
 induction t with
 |nil=>simp[Zt]
 |cons n r ih=>
  intro u hu hf;simp only[Zt,List.mem_append]at hu;rcases hu with hu | hu
  .exact Zgn hu hf
  .exact ih u hu hf
theorem Zut {t:List Nd}{u:Use}(h:u∈Zt t):∃i,∃hi:i < t.length,u∈Xf t[i] (t.drop (i+1)):=by
 induction t with
 |nil=>simp[Zt]at h
 |cons n r ih=>
  simp only[Zt,List.mem_append]at h;rcases h with h | h
  .exact ⟨0,by simp,by simpa using h⟩
  .obtain ⟨i,hi,h2⟩:=ih h;exact⟨i+1,by simpa using hi,by simpa using h2⟩
theorem Z6o (n:Nd)(r:List Nd):(Xf n r).length<=1:=by
 unfold Xf;split
 .simp
 .split
  .split<;>simp
  .simp
theorem Zb2 (t:List Nd):(Zt t).length<=t.length:=by
 induction t with
 |nil=>simp[Zt]
 |cons n r ih=>
  have:=Z6o n r;simp only[Zt,List.length_append,List.length_cons];omega
theorem Zj0 (us:List Use):∀s:List Use×List Use,∀u,u∈(us.foldl Zby s).2↔u∈s.2\/(u∈us/\u.fn=true):=by
 induction us with
 |nil=>simp
 |cons x us ih=>
  intro s u;rw[List.foldl_cons,ih];unfold Zby;cases hx:x.fn with
  |true=>
   simp only[if_true,List.mem_cons];split
   .rename_i hm;constructor
    .rintro (h | h)
     .exact .inl h
     .exact .inr ⟨.inr h.1,h.2⟩
    .rintro (h | ⟨rfl | h,h'⟩)
     .exact .inl h
     .exact .inl hm
     .exact .inr ⟨h,h'⟩
   .simp only [List.mem_append,List.mem_singleton];constructor
    .rintro ((h | rfl) | h)
     .exact .inl h
     .exact .inr ⟨.inl rfl,hx⟩
     .exact .inr ⟨.inr h.1,h.2⟩
    .rintro (h | ⟨rfl | h,h'⟩)
     .exact .inl (.inl h)
     .exact .inl (.inr rfl)
     .exact .inr ⟨h,h'⟩
  |false=>
   simp only[Bool.false_eq_true,if_false,List.mem_cons];constructor
   .rintro (h | h)
    .exact .inl h
    .exact .inr ⟨.inr h.1,h.2⟩
   .rintro (h | ⟨rfl | h,h'⟩)
    .exact .inl h
    .rw [hx]at h';cases h'
    .exact .inr ⟨h,h'⟩
theorem Zqo (us:List Use):∀s:List Use×List Use,(us.foldl Zby s).2.length<=s.2.length+us.length:=by
 induction us with
 |nil=>simp
 |cons x us ih=>
  intro s;have h1:=ih (Zby s x)
  have h2:(Zby s x).2.length<=s.2.length+1:=by
   unfold Zby;split
   .simp only;split<;>simp
   .simp
  simp only[List.foldl_cons,List.length_cons];omega
abbrev W3 (t:List Nd):List Use:=(X9 (Zt t)).2
theorem Zkc {t:List Nd}{u:Use}:u∈W3 t↔u∈Zt t/\u.fn=true:=by
 rw[W3,X9,Zj0];simp
theorem VT.app {t:List Nd}{tr:Tr}(v:VT t tr){i:Nat}(hi:i < t.length)(h5:t[i].op=5):∃ks r,∃k:Nat,t[i].kids=(k:Int)/\many (Zg 257) k (t.drop (i+1))=some (ks,r)/\ks.length<=20000/\Xf t[i] (t.drop (i+1))=[⟨true,t[i].name,Ys ks,t[i].sort⟩]:=by
 obtain⟨t1,t2,hF,hk,hm⟩:=Zjy (d:=256) v.parse v.pos hi;have hl:=hF.le;rw[List.length_append,List.length_drop]at hl;have:=v.len;refine⟨t1.map (·.1),_,t1.length,hk,hm,by simp;omega,?_⟩;rw[Z6n (d:=256) (by omega) hi h5 hk hm,Zak]
theorem VT.args {t:List Nd}{tr:Tr}(v:VT t tr):∀u∈Zt t,u.args.length < 2^30:=by
 intro u hu;obtain⟨i,hi,h⟩:=Zut hu;by_cases h5:t[i].op=5
 .obtain ⟨ks,r,k,_,_,hks,he⟩:=v.app hi h5;rw[he]at h;simp only[List.mem_singleton]at h;rw[h];simp only[Tv];omega
 .have:u.fn=false:=by
   unfold Xf at h;split at h
   .simp at h;rw[h]
   .simp [h5]at h
  rw[Zgn h this];simp
theorem GT.vt {s:Int}{d N:Nat}{V:List (Yi×Int)}{t:List Nd}(h:GT s d N V t)(hV:Zbq V)(hd:d<=257)(hN:N<=20000):∃tr,VT t tr/\Ya tr=s:=by
 obtain⟨tr,h1,h2⟩:=h.tree;have h3:=Zca hd (h1 []);rw[List.append_nil]at h3;have hc:=h.clean hV;unfold Yx at hc;rw[decide_eq_true_eq]at hc;exact⟨tr,⟨h3,by rw[h2];exact h.pos,⟨h.short,fun n hn=>(h.node n hn).2.2.2⟩,Nat.le_trans h.len hN,hc⟩,h2⟩
end Go.Proofs.YtabcdhcpilpojaaGreatDoor
end
