/- The program's substitutions: lists of names. -/
import Derived.Test.YtabcdhcpilpojaaGreatDoorFE
import Derived.Test.YtabcdhcpilpojaaGreatDoorPD
import Derived.Test.YtabcdhcpilpojaaGreatDoorFC
set_option linter.unusedSimpArgs false
set_option linter.unusedVariables false
section
set_option maxRecDepth 20000
namespace Go.Proofs.YtabcdhcpilpojaaGreatDoor
open Go Go.Pure
open Go.Virt (Ex Ctx Ty TK)
theorem Z37 (s:Yp) (hl:s.length < 2^62):Xy vE 93 [.str s] (.bool (!(Xs s))):=by
 have h:=Z4b s hl
 intro K H
 refine Zh (fn:=Tryz.f93) rfl Tryz.func93 rfl rfl (by simp) (by simp) ?_ (by simp [*])
 ((try simp (disch:=first|omega|(simp<;>omega)|fail) [*,Ze,Tryz.f93]);repeat'(first|refine Z8 ?_|refine Z9 ?_|refine Z0 ?_|refine Z1 fun _=>?_|refine Z2 fun _ _=>?_|refine Z3 (fun _=>?_) fun _ _=>?_|refine Z4 fun _=>?_|refine Z5 fun _=>?_|refine Z6 (fun _=>?_) fun _=>?_|refine Z7 (fun _=>?_) fun _=>?_)<;>(try simp (disch:=first|omega|(simp<;>omega)|fail) [*,Ze,Tryz.f93]))
theorem Z81 (b:Bool) (l:List Yp) (hl:l.length < 2^30) (hs:∀ s∈l,s.length < 2^62):∃ r:Int,(0<=r↔l.all Xs=false)/\Xy vE 132 [L 9 b (l.map .str),.fn 93 [] []] (.int .i64 r):=by
 cases hf:l.findIdx? (fun y=>!(Xs y)) with
 | none=>
   have hall:∀ i (h:i < l.length),Xs l[i]=true:=fun i h=>by
    have:=List.findIdx?_eq_none_iff.1 hf l[i] (List.getElem_mem h)
    simpa using this
   refine ⟨-1,?_,?_⟩
   .have:l.all Xs=true:=by
     rw [List.all_eq_true]
     intro y hy
     obtain ⟨i,h,rfl⟩:=List.getElem_of_mem hy
     exact hall i h
    rw [this];simp
   intro K H
   refine Zh (fn:=Tryz.f132) rfl Tryz.func132 rfl rfl (by simp) (by simp) ?_ (by simp [*])
   ((try simp (disch:=first|omega|(simp<;>omega)|fail) [*,Ze,Tryz.f132]);repeat'(first|refine Z8 ?_|refine Z9 ?_|refine Z0 ?_|refine Z1 fun _=>?_|refine Z2 fun _ _=>?_|refine Z3 (fun _=>?_) fun _ _=>?_|refine Z4 fun _=>?_|refine Z5 fun _=>?_|refine Z6 (fun _=>?_) fun _=>?_|refine Z7 (fun _=>?_) fun _=>?_)<;>(try simp (disch:=first|omega|(simp<;>omega)|fail) [*,Ze,Tryz.f132]))
   refine Ya [0,1,7] (fun n sl h=>∃ i:Nat,n=l.length - i/\i<=l.length/\sl 8=some (.int .i64 i)) l.length rfl ⟨0,by simp,by simp,by simp⟩ ?_
   rintro n sl h hfr ⟨i,hn,hi,h8⟩
   simp at hfr
   by_cases Zhb:i < l.length
   .have hx:=hall i Zhb
    have hc:=Z37 l[i] (hs _ (List.getElem_mem Zhb))
    rw [hx] at hc
    clear hall hf
    ((try simp (disch:=first|omega|(simp<;>omega)|fail) [*,Ze]);repeat'(first|refine Z8 ?_|refine Z9 ?_|refine Z0 ?_|refine Z1 fun _=>?_|refine Z2 fun _ _=>?_|refine Z3 (fun _=>?_) fun _ _=>?_|refine Z4 fun _=>?_|refine Z5 fun _=>?_|refine Z6 (fun _=>?_) fun _=>?_|refine Z7 (fun _=>?_) fun _=>?_)<;>(try simp (disch:=first|omega|(simp<;>omega)|fail) [*,Ze]))
    exact ⟨_,by omega,i+1,rfl,by omega,by omega⟩
   . ((try simp (disch:=first|omega|(simp<;>omega)|fail) [*,Ze]);repeat'(first|refine Z8 ?_|refine Z9 ?_|refine Z0 ?_|refine Z1 fun _=>?_|refine Z2 fun _ _=>?_|refine Z3 (fun _=>?_) fun _ _=>?_|refine Z4 fun _=>?_|refine Z5 fun _=>?_|refine Z6 (fun _=>?_) fun _=>?_|refine Z7 (fun _=>?_) fun _=>?_)<;>(try simp (disch:=first|omega|(simp<;>omega)|fail) [*,Ze]))
 | some k=>
   obtain ⟨hk,Ys,hall⟩:=List.findIdx?_eq_some_iff_getElem.1 hf
   refine ⟨k,?_,?_⟩
   .have:l.all Xs=false:=by
     rw [List.all_eq_false]
     exact ⟨l[k],List.getElem_mem hk,by simpa using Ys⟩
    rw [this];simp
   intro K H
   refine Zh (fn:=Tryz.f132) rfl Tryz.func132 rfl rfl (by simp) (by simp) ?_ (by simp [*])
   ((try simp (disch:=first|omega|(simp<;>omega)|fail) [*,Ze,Tryz.f132]);repeat'(first|refine Z8 ?_|refine Z9 ?_|refine Z0 ?_|refine Z1 fun _=>?_|refine Z2 fun _ _=>?_|refine Z3 (fun _=>?_) fun _ _=>?_|refine Z4 fun _=>?_|refine Z5 fun _=>?_|refine Z6 (fun _=>?_) fun _=>?_|refine Z7 (fun _=>?_) fun _=>?_)<;>(try simp (disch:=first|omega|(simp<;>omega)|fail) [*,Ze,Tryz.f132]))
   refine Ya [0,1,7] (fun n sl h=>∃ i:Nat,n=l.length - i/\i<=k/\sl 8=some (.int .i64 i)) l.length rfl ⟨0,by simp,by simp,by simp⟩ ?_
   rintro n sl h hfr ⟨i,hn,hi,h8⟩
   simp at hfr
   have hc:=Z37 l[i] (hs _ (List.getElem_mem _))
   by_cases hik:i < k
   .have hx:Xs l[i]=true:=by simpa using hall i hik
    rw [hx] at hc
    clear hall hf
    ((try simp (disch:=first|omega|(simp<;>omega)|fail) [*,Ze]);repeat'(first|refine Z8 ?_|refine Z9 ?_|refine Z0 ?_|refine Z1 fun _=>?_|refine Z2 fun _ _=>?_|refine Z3 (fun _=>?_) fun _ _=>?_|refine Z4 fun _=>?_|refine Z5 fun _=>?_|refine Z6 (fun _=>?_) fun _=>?_|refine Z7 (fun _=>?_) fun _=>?_)<;>(try simp (disch:=first|omega|(simp<;>omega)|fail) [*,Ze]))
    exact ⟨_,by omega,i+1,rfl,by omega,by omega⟩
   .have e:i=k:=by omega
    subst e
    have hx:Xs l[i]=false:=by simpa using Ys
    rw [hx] at hc
    clear hall hf
    ((try simp (disch:=first|omega|(simp<;>omega)|fail) [*,Ze]);repeat'(first|refine Z8 ?_|refine Z9 ?_|refine Z0 ?_|refine Z1 fun _=>?_|refine Z2 fun _ _=>?_|refine Z3 (fun _=>?_) fun _ _=>?_|refine Z4 fun _=>?_|refine Z5 fun _=>?_|refine Z6 (fun _=>?_) fun _=>?_|refine Z7 (fun _=>?_) fun _=>?_)<;>(try simp (disch:=first|omega|(simp<;>omega)|fail) [*,Ze]))
theorem Z36 (b:Bool) (l:List Yp) (hl:l.length < 2^30) (hs:∀ s∈l,s.length < 2^62):Xy vE 94 [L 9 b (l.map .str),.fn 93 [] []] (.bool (!(l.all Xs))):=by
 obtain ⟨r,hr,hc⟩:=Z81 b l hl hs
 cases ha:l.all Xs with
 | true=>
   rw [ha] at hr
   have hr':¬ 0<=r:=by simpa using hr
   intro K H
   refine Zh (fn:=Tryz.f94) rfl Tryz.func94 rfl rfl (by simp) (by simp) ?_ (by simp [*])
   ((try simp (disch:=first|omega|(simp<;>omega)|fail) [*,Ze,Tryz.f94]);repeat'(first|refine Z8 ?_|refine Z9 ?_|refine Z0 ?_|refine Z1 fun _=>?_|refine Z2 fun _ _=>?_|refine Z3 (fun _=>?_) fun _ _=>?_|refine Z4 fun _=>?_|refine Z5 fun _=>?_|refine Z6 (fun _=>?_) fun _=>?_|refine Z7 (fun _=>?_) fun _=>?_)<;>(try simp (disch:=first|omega|(simp<;>omega)|fail) [*,Ze,Tryz.f94]))
 | false=>
   rw [ha] at hr
   have hr':0<=r:=hr.2 rfl
   intro K H
   refine Zh (fn:=Tryz.f94) rfl Tryz.func94 rfl rfl (by simp) (by simp) ?_ (by simp [*])
   ((try simp (disch:=first|omega|(simp<;>omega)|fail) [*,Ze,Tryz.f94]);repeat'(first|refine Z8 ?_|refine Z9 ?_|refine Z0 ?_|refine Z1 fun _=>?_|refine Z2 fun _ _=>?_|refine Z3 (fun _=>?_) fun _ _=>?_|refine Z4 fun _=>?_|refine Z5 fun _=>?_|refine Z6 (fun _=>?_) fun _=>?_|refine Z7 (fun _=>?_) fun _=>?_)<;>(try simp (disch:=first|omega|(simp<;>omega)|fail) [*,Ze,Tryz.f94]))
set_option maxHeartbeats 1000000 in
theorem Zaed (b:Bool) (l:List Yp) (hl:l.length < 2^30):Xy vE 51 [L 9 b (l.map .str)] (.bool (!(decide l.Nodup))):=by
 intro K H
 refine Zh (fn:=Tryz.f51) rfl Tryz.func51 rfl rfl (by simp) (by simp) ?_ (by simp [*])
 ((try simp (disch:=first|omega|(simp<;>omega)|fail) [*,Ze,Tryz.f51]);repeat'(first|refine Z8 ?_|refine Z9 ?_|refine Z0 ?_|refine Z1 fun _=>?_|refine Z2 fun _ _=>?_|refine Z3 (fun _=>?_) fun _ _=>?_|refine Z4 fun _=>?_|refine Z5 fun _=>?_|refine Z6 (fun _=>?_) fun _=>?_|refine Z7 (fun _=>?_) fun _=>?_)<;>(try simp (disch:=first|omega|(simp<;>omega)|fail) [*,Ze,Tryz.f51]))
 generalize hv6:H.stamp (H.next+6)=v6
 refine Ya [3,7,8] (fun n sl h=>∃ i:Nat,n=l.length - i/\i<=l.length/\sl 9=some (.int .i64 i)/\h.get (H.next+6)=some (v6,.map ((l.take i).map fun s=>(PV.str s,PV.bool true)))/\(l.take i).Nodup) l.length rfl ⟨0,by simp,by simp,by simp,by simp [*],by simp⟩ ?_
 rintro n sl h hf ⟨i,hn,hi,h9,hg,hnd⟩
 simp at hf
 by_cases hlt:i < l.length
 .have htk:=U7 l i hlt
  have hfs:=Z29 (l.take i) l[i]
  by_cases hm:l[i]∈l.take i
  .rw [if_pos hm] at hfs
   have hnn:¬ l.Nodup:=fun hN=>by
    have h2:(l.take (i+1)).Nodup:=hN.sublist (List.take_sublist _ _)
    rw [htk,List.nodup_append] at h2
    exact h2.2.2 _ hm _ (by simp) rfl
   have e:decide l.Nodup=false:=by simpa using hnn
   rw [e]
   generalize l.take i=T at *
   clear hnd htk hm
   ((try simp (disch:=first|omega|(simp<;>omega)|fail) [*,Ze]);repeat'(first|refine Z8 ?_|refine Z9 ?_|refine Z0 ?_|refine Z1 fun _=>?_|refine Z2 fun _ _=>?_|refine Z3 (fun _=>?_) fun _ _=>?_|refine Z4 fun _=>?_|refine Z5 fun _=>?_|refine Z6 (fun _=>?_) fun _=>?_|refine Z7 (fun _=>?_) fun _=>?_)<;>(try simp (disch:=first|omega|(simp<;>omega)|fail) [*,Ze]))
  .rw [if_neg hm] at hfs
   have Qx:=Z50 (l.take i) l[i] hm
   have hnd2:(l.take (i+1)).Nodup:=by
    rw [htk,List.nodup_append]
    exact ⟨hnd,by simp,fun a ha b hb e=>by simp at hb;subst hb;exact hm (e ▸ ha)⟩
   have e2:((l.take i++[l[i]]).map fun s=>(PV.str s,PV.bool true))=((l.take (i+1)).map fun s=>(PV.str s,PV.bool true)):=by rw [htk]
   rw [e2] at Qx
   replace hnd2:=Hide.mk hnd2
   have hT2:∃ T2,l.take (i+1)=T2:=⟨_,rfl⟩
   obtain ⟨T2,hT2⟩:=hT2
   rw [hT2] at Qx
   replace hT2:=Hide.mk hT2
   generalize l.take i=T at *
   clear hnd htk hm e2
   ((try simp (disch:=first|omega|(simp<;>omega)|fail) [*,Ze]);repeat'(first|refine Z8 ?_|refine Z9 ?_|refine Z0 ?_|refine Z1 fun _=>?_|refine Z2 fun _ _=>?_|refine Z3 (fun _=>?_) fun _ _=>?_|refine Z4 fun _=>?_|refine Z5 fun _=>?_|refine Z6 (fun _=>?_) fun _=>?_|refine Z7 (fun _=>?_) fun _=>?_)<;>(try simp (disch:=first|omega|(simp<;>omega)|fail) [*,Ze]))
   exact ⟨_,by omega,i+1,rfl,by omega,by omega,by rw [<- List.map_take,hT2.get],hnd2.get⟩
 .have e:i=l.length:=by omega
  subst e
  rw [List.take_length] at hnd
  have e:decide l.Nodup=true:=by simpa using hnd
  rw [e]
  ((try simp (disch:=first|omega|(simp<;>omega)|fail) [*,Ze]);repeat'(first|refine Z8 ?_|refine Z9 ?_|refine Z0 ?_|refine Z1 fun _=>?_|refine Z2 fun _ _=>?_|refine Z3 (fun _=>?_) fun _ _=>?_|refine Z4 fun _=>?_|refine Z5 fun _=>?_|refine Z6 (fun _=>?_) fun _=>?_|refine Z7 (fun _=>?_) fun _=>?_)<;>(try simp (disch:=first|omega|(simp<;>omega)|fail) [*,Ze]))
end Go.Proofs.YtabcdhcpilpojaaGreatDoor
end
section
set_option maxRecDepth 20000
namespace Go.Proofs.YtabcdhcpilpojaaGreatDoor
open Go Go.Pure
open Go.Virt (Ex Ctx Ty TK)
abbrev Zny (vs:List Use):PO:=.map (vs.map fun u=>(PV.str u.name,PV.int .i64 u.sort))
abbrev Zn0 (fs:List Use):PO:=.map (fs.map fun u=>(PV.str u.name,Y9 u))
theorem Zxb (vs:List Use):Yg (Zny vs)=[]:=by
 simp only [Zny,Yg,List.flatMap_eq_nil_iff,List.mem_map]
 rintro x ⟨u,_,rfl⟩
 rfl
theorem Zxc (fs:List Use):Yg (Zn0 fs)=[]:=by
 simp only [Zn0,Yg,List.flatMap_eq_nil_iff,List.mem_map]
 rintro x ⟨u,_,rfl⟩
 simp [refs]
theorem Zev (vs:List Use) (m:Nat):Zu m (Zny vs)=true:=by
 simp only [Zny,Zu,List.all_eq_true,List.mem_map]
 rintro x ⟨u,_,rfl⟩
 rfl
theorem Zew (fs:List Use) (m:Nat):Zu m (Zn0 fs)=true:=by
 simp only [Zn0,Zu,List.all_eq_true,List.mem_map]
 rintro x ⟨u,_,rfl⟩
 simp
structure UM (p Zg a va b vb:Nat) (vs fs:List Use) (h:PH):Prop where
 o:h.get p=some (Zg,.cells [.map a va,.map b vb])
 v:h.get a=some (va,Zny vs)
 f:h.get b=some (vb,Zn0 fs)
 pa:p≠a
 pb:p≠b
 ab:a≠b
 lp:p < h.next
 la:a < h.next
 lb:b < h.next
theorem UM.reach {p Zg a va b vb:Nat} {vs fs:List Use} {h:PH} (U:UM p Zg a va b vb vs fs h):Pure.reach h 4 [p]=[p,a,b]:=by
 have h1:List.flatMap (fun e:PV×PV=>refs 3 e.2) (vs.map fun u=>(PV.str u.name,PV.int .i64 u.sort))=[]:=Zxb vs
 have h2:List.flatMap (fun e:PV×PV=>refs 3 e.2) (fs.map fun u=>(PV.str u.name,Y9 u))=[]:=Zxc fs
 simp only [Pure.reach,List.flatMap_cons,List.flatMap_nil,U.o,List.append_nil]
 simp only [Pure.reach,Yg,U.v,U.f,h1,h2,refs,List.flatMap_cons,List.flatMap_nil,List.append_nil,List.cons_append,List.nil_append]
theorem Z57 (K:Pure.Loc) (H:PH):∃ Zg va vb h',Yu vE K 53 [] H=some (.ptr (H.next+4) Zg 0,h')/\UM (H.next+4) Zg (H.next+1) va (H.next+2) vb [] [] h'/\∀ j,j < H.next->h'.get j=H.get j:=by
 obtain ⟨w,h',h1,Zg,va,vb,rfl,h2⟩:=Ze4 (C:=vE) (K:=K) (f:=53) (args:=[]) (h:=H) (ok:=[]) (fn:=Tryz.f53) (R:=fun w h'=>∃ Zg va vb,w=.ptr (H.next+4) Zg 0/\UM (H.next+4) Zg (H.next+1) va (H.next+2) vb [] [] h'/\∀ j,j < H.next->h'.get j=H.get j) Tryz.func53 rfl rfl rfl (by simp) (by simp [Pure.reach]) (by simp) (by
  ((try simp (disch:=first|omega|(simp<;>omega)|(simp[*];done)|fail) [*,Ze,Zd,Zc,Tryz.f53]);repeat'(first|refine Z1 fun _=>?_|refine Z2 fun _ _=>?_|refine Z3 (fun _=>?_) fun _ _=>?_|refine Z4 fun _=>?_|refine Z5 fun _=>?_|refine Z6 (fun _=>?_) fun _=>?_|refine Z7 (fun _=>?_) fun _=>?_)<;>(try simp (disch:=first|omega|(simp<;>omega)|(simp[*];done)|fail) [*,Ze,Zd,Zc,Tryz.f53]))
  exact ⟨by rw [<- Bool.not_eq_true,Nat.blt_eq];omega,⟨H.stamp (H.next+1),H.stamp (H.next+2),by simp,by simp,by simp,by omega,by omega,by omega,by simp,by simp,by simp⟩,fun j hj=>by simp [show j≠H.next+1 by omega,show j≠H.next+2 by omega,show j≠H.next+4 by omega]⟩)
 exact ⟨Zg,va,vb,h',h1,h2⟩
theorem UM.can {K:Pure.Loc} {p Zg a va b vb:Nat} {vs fs:List Use} {h:PH} (U:UM p Zg a va b vb vs fs h) (hp:can K p=true) (ha:can K a=true) (hb:can K b=true):[p,a,b].all (fun i=>can K i&&(h.get i).isSome)=true:=by
 simp only [List.all_cons,List.all_nil,hp,ha,hb,U.o,U.v,U.f,Option.isSome_some,Bool.and_self]
theorem UM.belowP {p Zg a va b vb:Nat} {vs fs:List Use} {h:PH} (U:UM p Zg a va b vb vs fs h):h.belowAt h.next p=true:=by
 simp [PH.belowAt,U.o,Zu,U.la,U.lb]
theorem Zrt (es:List Use) (x:Yp):Vd (es.map fun u=>(PV.str u.name,PV.int .i64 u.sort)) (.str x)=some ((es.find? (fun u=>u.name==x)).map fun u=>PV.int .i64 u.sort):=Zcp (fun u=>PV.int .i64 u.sort) es x
theorem Z5z (es:List Use) (u:Use) (h:∀ v∈es,v.name≠u.name):V4 (es.map fun u=>(PV.str u.name,PV.int .i64 u.sort)) (.str u.name) (.int .i64 u.sort)=some ((es++[u]).map fun u=>(PV.str u.name,PV.int .i64 u.sort)):=Zio (fun u=>PV.int .i64 u.sort) es u h
def Qp (vs fs:List Use) (x:Yp) (s:Int):Bool×List Use:=
 if (fs.find? (fun u=>u.name==x)).isSome then (false,vs) else match vs.find? (fun u=>u.name==x) with
  | some v=>(v.sort==s,vs)
  | none=>(true,vs++[⟨false,x,[],s⟩])
set_option maxHeartbeats 1000000 in
theorem Z3y {p Zg a va b vb:Nat} {vs fs:List Use} {h:PH} (U:UM p Zg a va b vb vs fs h) (x:Yp) (s:Int) (K:Pure.Loc) (hp:can K p=true) (ha:can K a=true) (hb:can K b=true):Yu vE K 105 [.ptr p Zg 0,.str x,.int .i64 s] h=some (.bool (Qp vs fs x s).1,(h.put a va (Zny (Qp vs fs x s).2)).put b vb (Zn0 fs)):=by
 have Vg:=Yj U.lp
 have had:=Yj U.la
 have hbd:=Yj U.lb
 have hfv:=Zrt vs x
 have hff:=Zcp Y9 fs x
 have g1:=U.o
 have g2:=U.v
 have g3:=U.f
 have Zxy:(p=a)=False:=by simp [U.pa]
 have Zts:(p=b)=False:=by simp [U.pb]
 have hne3:(b=a)=False:=by simp [Ne.symm U.ab]
 have hne4:(a=b)=False:=by simp [U.ab]
 have hne5:(a=p)=False:=by simp [Ne.symm U.pa]
 have hne6:(b=p)=False:=by simp [Ne.symm U.pb]
 refine Zpq (fn:=Tryz.f105) Tryz.func105 rfl rfl rfl (by simp) (by simpa using U.reach) (U.can hp ha hb) U.belowP ?_ (by simp) (Zev _ _) (Zew _ _)
 unfold Qp
 cases hf:fs.find? (fun u=>u.name==x) with
 | some f=>
   rw [hf] at hff
   simp only [Option.map_some,Option.isSome_some,if_true] at hff ⊢
   ((try simp (disch:=first|omega|(simp<;>omega)|(simp[*];done)|fail) [*,Ze,Zd,Zc,Tryz.f105,Zf U.lp,Zf U.la,Zf U.lb]);repeat'(first|refine Z1 fun _=>?_|refine Z2 fun _ _=>?_|refine Z3 (fun _=>?_) fun _ _=>?_|refine Z4 fun _=>?_|refine Z5 fun _=>?_|refine Z6 (fun _=>?_) fun _=>?_|refine Z7 (fun _=>?_) fun _=>?_)<;>(try simp (disch:=first|omega|(simp<;>omega)|(simp[*];done)|fail) [*,Ze,Zd,Zc,Tryz.f105,Zf U.lp,Zf U.la,Zf U.lb]))
 | none=>
   rw [hf] at hff
   cases hv:vs.find? (fun u=>u.name==x) with
   | some v=>
     rw [hv] at hfv
     simp only [Option.map_some,Option.map_none,Option.isSome_none,Bool.false_eq_true,if_false] at hff hfv ⊢
     ((try simp (disch:=first|omega|(simp<;>omega)|(simp[*];done)|fail) [*,Ze,Zd,Zc,Tryz.f105,Zf U.lp,Zf U.la,Zf U.lb]);repeat'(first|refine Z1 fun _=>?_|refine Z2 fun _ _=>?_|refine Z3 (fun _=>?_) fun _ _=>?_|refine Z4 fun _=>?_|refine Z5 fun _=>?_|refine Z6 (fun _=>?_) fun _=>?_|refine Z7 (fun _=>?_) fun _=>?_)<;>(try simp (disch:=first|omega|(simp<;>omega)|(simp[*];done)|fail) [*,Ze,Zd,Zc,Tryz.f105,Zf U.lp,Zf U.la,Zf U.lb]))
   | none=>
     rw [hv] at hfv
     have hpm:=Z5z vs ⟨false,x,[],s⟩ (fun v h=>Vy hv v h)
     simp only [Option.map_some,Option.map_none,Option.isSome_none,Bool.false_eq_true,if_false] at hff hfv hpm ⊢
     ((try simp (disch:=first|omega|(simp<;>omega)|(simp[*];done)|fail) [*,Ze,Zd,Zc,Tryz.f105,Zf U.lp,Zf U.la,Zf U.lb]);repeat'(first|refine Z1 fun _=>?_|refine Z2 fun _ _=>?_|refine Z3 (fun _=>?_) fun _ _=>?_|refine Z4 fun _=>?_|refine Z5 fun _=>?_|refine Z6 (fun _=>?_) fun _=>?_|refine Z7 (fun _=>?_) fun _=>?_)<;>(try simp (disch:=first|omega|(simp<;>omega)|(simp[*];done)|fail) [*,Ze,Zd,Zc,Tryz.f105,Zf U.lp,Zf U.la,Zf U.lb]))
def Q7 (vs fs:List Use) (u:Use):Bool×List Use:=
 if (vs.find? (fun v=>v.name==u.name)).isSome then (false,fs) else match fs.find? (fun v=>v.name==u.name) with
  | some g=>(g.sort==u.sort&&g.args==u.args,fs)
  | none=>(true,fs++[u])
set_option maxHeartbeats 1000000 in
theorem Z3x {p Zg a va b vb:Nat} {vs fs:List Use} {h:PH} (U:UM p Zg a va b vb vs fs h) (u:Use) (hu:u.args.length < 2^30) (Te:∀ g∈fs,g.args.length < 2^30) (K:Pure.Loc) (hp:can K p=true) (ha:can K a=true) (hb:can K b=true):Yu vE K 106 [.ptr p Zg 0,Y9 u] h=some (.bool (Q7 vs fs u).1,(h.put a va (Zny vs)).put b vb (Zn0 (Q7 vs fs u).2)):=by
 have Vg:=Yj U.lp
 have had:=Yj U.la
 have hbd:=Yj U.lb
 have hfv:=Zrt vs u.name
 have hff:=Zcp Y9 fs u.name
 have g1:=U.o
 have g2:=U.v
 have g3:=U.f
 have Zxy:(p=a)=False:=by simp [U.pa]
 have Zts:(p=b)=False:=by simp [U.pb]
 have hne3:(b=a)=False:=by simp [Ne.symm U.ab]
 have hne4:(a=b)=False:=by simp [U.ab]
 have hne5:(a=p)=False:=by simp [Ne.symm U.pa]
 have hne6:(b=p)=False:=by simp [Ne.symm U.pb]
 refine Zpq (fn:=Tryz.f106) Tryz.func106 rfl rfl rfl (by simp) (by simpa using U.reach) (U.can hp ha hb) U.belowP ?_ (by simp) (Zev _ _) (Zew _ _)
 unfold Q7
 cases hf:vs.find? (fun v=>v.name==u.name) with
 | some f=>
   rw [hf] at hfv
   simp only [Option.map_some,Option.isSome_some,if_true] at hfv ⊢
   ((try simp (disch:=first|omega|(simp<;>omega)|(simp[*];done)|fail) [*,Ze,Zd,Zc,Tryz.f106,Zf U.lp,Zf U.la,Zf U.lb]);repeat'(first|refine Z1 fun _=>?_|refine Z2 fun _ _=>?_|refine Z3 (fun _=>?_) fun _ _=>?_|refine Z4 fun _=>?_|refine Z5 fun _=>?_|refine Z6 (fun _=>?_) fun _=>?_|refine Z7 (fun _=>?_) fun _=>?_)<;>(try simp (disch:=first|omega|(simp<;>omega)|(simp[*];done)|fail) [*,Ze,Zd,Zc,Tryz.f106,Zf U.lp,Zf U.la,Zf U.lb]))
   refine Wj false false [] [] [] [] false (by decide +kernel) ?_
   ((try simp (disch:=first|omega|(simp<;>omega)|(simp[*];done)|fail) [*,Ze,Zd,Zc,Zf U.lp,Zf U.la,Zf U.lb]);repeat'(first|refine Z1 fun _=>?_|refine Z2 fun _ _=>?_|refine Z3 (fun _=>?_) fun _ _=>?_|refine Z4 fun _=>?_|refine Z5 fun _=>?_|refine Z6 (fun _=>?_) fun _=>?_|refine Z7 (fun _=>?_) fun _=>?_)<;>(try simp (disch:=first|omega|(simp<;>omega)|(simp[*];done)|fail) [*,Ze,Zd,Zc,Zf U.lp,Zf U.la,Zf U.lb]))
 | none=>
   rw [hf] at hfv
   cases hv:fs.find? (fun v=>v.name==u.name) with
   | some g=>
     rw [hv] at hff
     have hgl:=Te g (Uo hv).1
     have h137:=Zwk true true g.args u.args (by omega) (by omega)
     simp only [Option.map_some,Option.map_none,Option.isSome_none,Bool.false_eq_true,if_false] at hff hfv ⊢
     ((try simp (disch:=first|omega|(simp<;>omega)|(simp[*];done)|fail) [*,Ze,Zd,Zc,Tryz.f106,Zf U.lp,Zf U.la,Zf U.lb]);repeat'(first|refine Z1 fun _=>?_|refine Z2 fun _ _=>?_|refine Z3 (fun _=>?_) fun _ _=>?_|refine Z4 fun _=>?_|refine Z5 fun _=>?_|refine Z6 (fun _=>?_) fun _=>?_|refine Z7 (fun _=>?_) fun _=>?_)<;>(try simp (disch:=first|omega|(simp<;>omega)|(simp[*];done)|fail) [*,Ze,Zd,Zc,Tryz.f106,Zf U.lp,Zf U.la,Zf U.lb]))
     refine Wj false false [] [] [] [] false (by decide +kernel) ?_
     ((try simp (disch:=first|omega|(simp<;>omega)|(simp[*];done)|fail) [*,Ze,Zd,Zc,Zf U.lp,Zf U.la,Zf U.lb]);repeat'(first|refine Z1 fun _=>?_|refine Z2 fun _ _=>?_|refine Z3 (fun _=>?_) fun _ _=>?_|refine Z4 fun _=>?_|refine Z5 fun _=>?_|refine Z6 (fun _=>?_) fun _=>?_|refine Z7 (fun _=>?_) fun _=>?_)<;>(try simp (disch:=first|omega|(simp<;>omega)|(simp[*];done)|fail) [*,Ze,Zd,Zc,Zf U.lp,Zf U.la,Zf U.lb]))
     refine Wj false false [] [] [] [] false (by decide +kernel) ?_
     ((try simp (disch:=first|omega|(simp<;>omega)|(simp[*];done)|fail) [*,Ze,Zd,Zc,Zf U.lp,Zf U.la,Zf U.lb]);repeat'(first|refine Z1 fun _=>?_|refine Z2 fun _ _=>?_|refine Z3 (fun _=>?_) fun _ _=>?_|refine Z4 fun _=>?_|refine Z5 fun _=>?_|refine Z6 (fun _=>?_) fun _=>?_|refine Z7 (fun _=>?_) fun _=>?_)<;>(try simp (disch:=first|omega|(simp<;>omega)|(simp[*];done)|fail) [*,Ze,Zd,Zc,Zf U.lp,Zf U.la,Zf U.lb]))
   | none=>
     rw [hv] at hff
     have hpm:=Zio Y9 fs u (fun v h=>Vy hv v h)
     simp only [Option.map_some,Option.map_none,Option.isSome_none,Bool.false_eq_true,if_false] at hff hfv hpm ⊢
     ((try simp (disch:=first|omega|(simp<;>omega)|(simp[*];done)|fail) [*,Ze,Zd,Zc,Tryz.f106,Zf U.lp,Zf U.la,Zf U.lb]);repeat'(first|refine Z1 fun _=>?_|refine Z2 fun _ _=>?_|refine Z3 (fun _=>?_) fun _ _=>?_|refine Z4 fun _=>?_|refine Z5 fun _=>?_|refine Z6 (fun _=>?_) fun _=>?_|refine Z7 (fun _=>?_) fun _=>?_)<;>(try simp (disch:=first|omega|(simp<;>omega)|(simp[*];done)|fail) [*,Ze,Zd,Zc,Tryz.f106,Zf U.lp,Zf U.la,Zf U.lb]))
     refine Wj false false [] [] [] [] false (by decide +kernel) ?_
     ((try simp (disch:=first|omega|(simp<;>omega)|(simp[*];done)|fail) [*,Ze,Zd,Zc,Zf U.lp,Zf U.la,Zf U.lb]);repeat'(first|refine Z1 fun _=>?_|refine Z2 fun _ _=>?_|refine Z3 (fun _=>?_) fun _ _=>?_|refine Z4 fun _=>?_|refine Z5 fun _=>?_|refine Z6 (fun _=>?_) fun _=>?_|refine Z7 (fun _=>?_) fun _=>?_)<;>(try simp (disch:=first|omega|(simp<;>omega)|(simp[*];done)|fail) [*,Ze,Zd,Zc,Zf U.lp,Zf U.la,Zf U.lb]))
     refine Wj false false [] [] [] [] false (by decide +kernel) ?_
     ((try simp (disch:=first|omega|(simp<;>omega)|(simp[*];done)|fail) [*,Ze,Zd,Zc,Zf U.lp,Zf U.la,Zf U.lb]);repeat'(first|refine Z1 fun _=>?_|refine Z2 fun _ _=>?_|refine Z3 (fun _=>?_) fun _ _=>?_|refine Z4 fun _=>?_|refine Z5 fun _=>?_|refine Z6 (fun _=>?_) fun _=>?_|refine Z7 (fun _=>?_) fun _=>?_)<;>(try simp (disch:=first|omega|(simp<;>omega)|(simp[*];done)|fail) [*,Ze,Zd,Zc,Zf U.lp,Zf U.la,Zf U.lb]))
     refine Wj false false [] [] [] [] false (by decide +kernel) ?_
     ((try simp (disch:=first|omega|(simp<;>omega)|(simp[*];done)|fail) [*,Ze,Zd,Zc,Zf U.lp,Zf U.la,Zf U.lb]);repeat'(first|refine Z1 fun _=>?_|refine Z2 fun _ _=>?_|refine Z3 (fun _=>?_) fun _ _=>?_|refine Z4 fun _=>?_|refine Z5 fun _=>?_|refine Z6 (fun _=>?_) fun _=>?_|refine Z7 (fun _=>?_) fun _=>?_)<;>(try simp (disch:=first|omega|(simp<;>omega)|(simp[*];done)|fail) [*,Ze,Zd,Zc,Zf U.lp,Zf U.la,Zf U.lb]))
end Go.Proofs.YtabcdhcpilpojaaGreatDoor
end
section
set_option maxRecDepth 20000
namespace Go.Proofs.YtabcdhcpilpojaaGreatDoor
open Go Go.Pure
open Go.Virt (Ex Ctx Ty TK)
theorem Z3v (u:Use) (op sort kids:Int) (name num:Yp) (K:Pure.Loc) (H:PH) (p Zg:Nat) (Zv:can K p=true) (hlt:p < H.next) (hp:H.get p=some (Zg,.cells [.int .i64 op,.int .i64 sort,.str name,.str num,.int .i64 kids])):Yu vE K 108 [Y9 u,.ptr p Zg 0] H=some (.bool (u.name==name),H):=by
 refine Vr (ok:=[p]) (fn:=Tryz.f108) Tryz.func108 rfl rfl rfl (by simp) (by simp [reach,hp,Yg]) (Zc7 Zv hp) (by simpa using hlt) (by simp [PH.belowAt,hp,Zu]) ?_ (by simp)
 have Vg:=Yj hlt
 ((try simp (disch:=first|omega|(simp<;>omega)|(simp[*];done)|fail) [*,Ze,Zd,Zc,Tryz.f108,Zf hlt]);repeat'(first|refine Z1 fun _=>?_|refine Z2 fun _ _=>?_|refine Z3 (fun _=>?_) fun _ _=>?_|refine Z4 fun _=>?_|refine Z5 fun _=>?_|refine Z6 (fun _=>?_) fun _=>?_|refine Z7 (fun _=>?_) fun _=>?_)<;>(try simp (disch:=first|omega|(simp<;>omega)|(simp[*];done)|fail) [*,Ze,Zd,Zc,Tryz.f108,Zf hlt]))
theorem Z3w (l:List Use) (k:Nat) (op sort kids:Int) (name num:Yp) (hk:l.findIdx? (fun u=>u.name==name)=some k) (hl:l.length < 2^30) (K:Pure.Loc) (H:PH) (p Zg:Nat) (Zv:can K p=true) (hlt:p < H.next) (hp:H.get p=some (Zg,.cells [.int .i64 op,.int .i64 sort,.str name,.str num,.int .i64 kids])):Yu vE K 107 [L 155 true (l.map Y9),.fn 108 [] [.ptr p Zg 0]] H=some (.int .i64 k,H):=by
 obtain ⟨hkl,Ys,hall⟩:=List.findIdx?_eq_some_iff_getElem.1 hk
 refine Vr (ok:=[p]) (fn:=Tryz.f107) Tryz.func107 rfl rfl rfl (by simp) (by simp [reach,hp,Yg]) (Zc7 Zv hp) (by simpa using hlt) (by simp [PH.belowAt,hp,Zu]) ?_ (by simp)
 have Vg:=Yj hlt
 ((try simp (disch:=first|omega|(simp<;>omega)|(simp[*];done)|fail) [*,Ze,Zd,Zc,Tryz.f107,Zf hlt]);repeat'(first|refine Z1 fun _=>?_|refine Z2 fun _ _=>?_|refine Z3 (fun _=>?_) fun _ _=>?_|refine Z4 fun _=>?_|refine Z5 fun _=>?_|refine Z6 (fun _=>?_) fun _=>?_|refine Z7 (fun _=>?_) fun _=>?_)<;>(try simp (disch:=first|omega|(simp<;>omega)|(simp[*];done)|fail) [*,Ze,Zd,Zc,Tryz.f107,Zf hlt]))
 refine Ya [0,1,7] (fun n sl h=>∃ i:Nat,n=l.length - i/\i<=k/\sl 8=some (.int .i64 i)/\h={H with next:=H.next+19}) l.length rfl ⟨0,by simp,by simp,by simp,rfl⟩ ?_
 rintro n sl h hfr ⟨i,hn,hi,h8,rfl⟩
 simp at hfr
 have hil:i < l.length:=by omega
 have hc:=Z3v l[i] op sort kids name num {base:=H.next,lo:=H.next,ok:=[p]} {H with next:=H.next+19} p Zg (by simp) (by simp;omega) hp
 by_cases hik:i < k
 .have hx:(l[i].name==name)=false:=by
   have:=hall i hik
   simpa using this
  rw [hx] at hc
  clear hall hk
  ((try simp (disch:=first|omega|(simp<;>omega)|(simp[*];done)|fail) [*,Ze,Zd,Zc,Zf hlt]);repeat'(first|refine Z1 fun _=>?_|refine Z2 fun _ _=>?_|refine Z3 (fun _=>?_) fun _ _=>?_|refine Z4 fun _=>?_|refine Z5 fun _=>?_|refine Z6 (fun _=>?_) fun _=>?_|refine Z7 (fun _=>?_) fun _=>?_)<;>(try simp (disch:=first|omega|(simp<;>omega)|(simp[*];done)|fail) [*,Ze,Zd,Zc,Zf hlt]))
  exact ⟨_,by omega,i+1,rfl,by omega,by omega⟩
 .have e:i=k:=by omega
  subst e
  rw [Ys] at hc
  clear hall hk
  ((try simp (disch:=first|omega|(simp<;>omega)|(simp[*];done)|fail) [*,Ze,Zd,Zc,Zf hlt]);repeat'(first|refine Z1 fun _=>?_|refine Z2 fun _ _=>?_|refine Z3 (fun _=>?_) fun _ _=>?_|refine Z4 fun _=>?_|refine Z5 fun _=>?_|refine Z6 (fun _=>?_) fun _=>?_|refine Z7 (fun _=>?_) fun _=>?_)<;>(try simp (disch:=first|omega|(simp<;>omega)|(simp[*];done)|fail) [*,Ze,Zd,Zc,Zf hlt]))
theorem UM.frame {p Zg a va b vb:Nat} {vs fs:List Use} {h h2:PH} (U:UM p Zg a va b vb vs fs h) (hp:h2.get p=h.get p) (ha:h2.get a=h.get a) (hb:h2.get b=h.get b) (hn:h.next<=h2.next):UM p Zg a va b vb vs fs h2:=⟨hp.trans U.o,ha.trans U.v,hb.trans U.f,U.pa,U.pb,U.ab,Nat.lt_of_lt_of_le U.lp hn,Nat.lt_of_lt_of_le U.la hn,Nat.lt_of_lt_of_le U.lb hn⟩
theorem UM.put {p Zg a va b vb:Nat} {vs fs:List Use} {h:PH} (U:UM p Zg a va b vb vs fs h) (Rb fs':List Use):UM p Zg a va b vb Rb fs' ((h.put a va (Zny Rb)).put b vb (Zn0 fs')):=by
 have h1:=U.pa
 have h2:=U.pb
 have h3:=U.ab
 exact ⟨by simp [h1,h2,U.o],by simp [h3],by simp,U.pa,U.pb,U.ab,U.lp,U.la,U.lb⟩
def Za2:List Use->List Use->List Use->Bool×List Use×List Use
 | vs,fs,[]=>(true,vs,fs)
 | vs,fs,u::r=>if u.fn then (if (Q7 vs fs u).1 then Za2 vs (Q7 vs fs u).2 r else (false,vs,(Q7 vs fs u).2)) else (if (Qp vs fs u.name u.sort).1 then Za2 (Qp vs fs u.name u.sort).2 fs r else (false,(Qp vs fs u.name u.sort).2,fs))
def Z4p (out:List Nd) (l:List Use):Prop:=∀ i (h:i < out.length),out[i].op=5->∃ k,∃ hk:k < l.length,l.findIdx? (fun u=>u.name==out[i].name)=some k/\Wf out[i] (out.drop (i+1))=[l[k]]/\l[k].fn=true
set_option maxHeartbeats 4000000 in
theorem Z7u (out:List Nd) (bo:Bool) (l:List Use) (hkn:Z4p out l) (hol:out.length < 2^29) (Tj:l.length < 2^29) (hla:∀ g∈l,g.args.length < 2^30) {p Zg a va b vb:Nat} {vs0 fs0:List Use} {h:PH} (hf0:∀ g∈fs0,g.args.length < 2^30) (U:UM p Zg a va b vb vs0 fs0 h) (c:Code) (hc:Tryz.f56.body=some c):
  wp (W2 vE {base:=h.next,lo:=h.next,ok:=[p,a,b]} true c (Sb 0 [.ptr p Zg 0,L 58 bo (out.map Zy),L 155 true (l.map Y9)]) {h with next:=h.next+Tryz.f56.ntmps}) fun r=>(r.1=.normal\/r.1=.ret)/\wp (Uk vE r.2.1 r.2.2 Tryz.f56.results.toList) fun vs=>
   inlT r.2.2 (Wh vs)=some (.bool (Za2 vs0 fs0 (Yl out)).1)/\ownT (Wh vs)=[]/\r.2.2.get p=h.get p/\r.2.2.get a=some (va,Zny (Za2 vs0 fs0 (Yl out)).2.1)/\r.2.2.get b=some (vb,Zn0 (Za2 vs0 fs0 (Yl out)).2.2):=by
 have Vg:=Yj U.lp
 have had:=Yj U.la
 have hbd:=Yj U.lb
 have Zxy:(p=a)=False:=by simp [U.pa]
 have Zts:(p=b)=False:=by simp [U.pb]
 injection hc with hc
 subst hc
 ((try simp (disch:=first|omega|(simp<;>omega)|(simp[*];done)|fail) [*,Ze,Zd,Zc,Tryz.f56,Zf U.lp,Zf U.la,Zf U.lb]);repeat'(first|refine Z1 fun _=>?_|refine Z2 fun _ _=>?_|refine Z3 (fun _=>?_) fun _ _=>?_|refine Z4 fun _=>?_|refine Z5 fun _=>?_|refine Z6 (fun _=>?_) fun _=>?_|refine Z7 (fun _=>?_) fun _=>?_)<;>(try simp (disch:=first|omega|(simp<;>omega)|(simp[*];done)|fail) [*,Ze,Zd,Zc,Tryz.f56,Zf U.lp,Zf U.la,Zf U.lb]))
 refine Ya [0,2,10,11] (fun n sl h'=>∃ (i:Nat) (vs fs:List Use),n=out.length - i/\i<=out.length/\sl 12=some (.int .i64 i)/\Za2 vs0 fs0 (Yl out)=Za2 vs fs (Yl (out.drop i))/\UM p Zg a va b vb vs fs h'/\(∀ g∈fs,g.args.length < 2^30)/\h.next+40<=h'.next/\h'.get p=h.get p) out.length rfl ⟨0,vs0,fs0,by simp,by simp,by simp,by simp,⟨U.o,U.v,U.f,U.pa,U.pb,U.ab,by simp;have:=U.lp;omega,by simp;have:=U.la;omega,by simp;have:=U.lb;omega⟩,hf0,by simp,rfl⟩ ?_
 rintro n sl h' hf ⟨i,vs,fs,hn,hi,h12,Xm,U',Te,Qe,hgp⟩
 simp at hf
 by_cases hlt:i < out.length
 .rw [Rp hlt] at Xm
  have Zx2:=hkn i hlt
  generalize hti:out[i]=nn at *
  obtain ⟨op,sort,name,num,kids⟩:=nn
  by_cases h4:op=4
  .subst h4
   have hu:Wf (⟨4,sort,name,num,kids⟩:Nd) (out.drop (i+1))=[⟨false,name,[],sort⟩]:=by simp [Wf]
   rw [hu] at Xm
   simp only [List.singleton_append,Za2,Bool.false_eq_true,if_false] at Xm
   have Z7g:=fun (h2:PH) (U2:UM p Zg a va b vb vs fs h2) (K:Pure.Loc) (a1:can K p=true) (a2:can K a=true) (a3:can K b=true)=>Z3y U2 name sort K a1 a2 a3
   generalize Xi:Qp vs fs name sort=st at *
   obtain ⟨okk,vs2⟩:=st
   simp only at Xm Z7g
   ((try simp (disch:=first|omega|(simp<;>omega)|(simp[*];done)|fail) [*,Ze,Zd,Zc,Zf U.lp,Zf U.la,Zf U.lb]);repeat'(first|refine Z1 fun _=>?_|refine Z2 fun _ _=>?_|refine Z3 (fun _=>?_) fun _ _=>?_|refine Z4 fun _=>?_|refine Z5 fun _=>?_|refine Z6 (fun _=>?_) fun _=>?_|refine Z7 (fun _=>?_) fun _=>?_)<;>(try simp (disch:=first|omega|(simp<;>omega)|(simp[*];done)|fail) [*,Ze,Zd,Zc,Zf U.lp,Zf U.la,Zf U.lb]))
   rw [Z7g _ (U'.frame (by simp [Vg]) (by simp [had]) (by simp [hbd]) (by simp)) _ (by simp) (by simp) (by simp)]
   have U2:=(U'.frame (h2:=(h'.put (h.next+8) (h'.stamp (h.next+8)) (.cells [.int .i64 4,.int .i64 sort,.str name,.str num,.int .i64 kids]))) (by simp [Vg]) (by simp [had]) (by simp [hbd]) (by simp)).put vs2 fs
   cases okk with
   | true=>
     simp only [if_true] at Xm
     clear Z7g Zx2 hkn U2
     ((try simp (disch:=first|omega|(simp<;>omega)|(simp[*];done)|fail) [*,Ze,Zd,Zc,Zf U.lp,Zf U.la,Zf U.lb]);repeat'(first|refine Z1 fun _=>?_|refine Z2 fun _ _=>?_|refine Z3 (fun _=>?_) fun _ _=>?_|refine Z4 fun _=>?_|refine Z5 fun _=>?_|refine Z6 (fun _=>?_) fun _=>?_|refine Z7 (fun _=>?_) fun _=>?_)<;>(try simp (disch:=first|omega|(simp<;>omega)|(simp[*];done)|fail) [*,Ze,Zd,Zc,Zf U.lp,Zf U.la,Zf U.lb]))
     exact ⟨_,by omega,i+1,rfl,by omega,by omega,vs2,fs,rfl,(U'.frame (by simp [Vg]) (by simp [had]) (by simp [hbd]) (by simp)).put vs2 fs,Te⟩
   | false=>
     simp only [Bool.false_eq_true,if_false] at Xm
     rw [Xm]
     clear Z7g Zx2 hkn U2
     ((try simp (disch:=first|omega|(simp<;>omega)|(simp[*];done)|fail) [*,Ze,Zd,Zc,Zf U.lp,Zf U.la,Zf U.lb]);repeat'(first|refine Z1 fun _=>?_|refine Z2 fun _ _=>?_|refine Z3 (fun _=>?_) fun _ _=>?_|refine Z4 fun _=>?_|refine Z5 fun _=>?_|refine Z6 (fun _=>?_) fun _=>?_|refine Z7 (fun _=>?_) fun _=>?_)<;>(try simp (disch:=first|omega|(simp<;>omega)|(simp[*];done)|fail) [*,Ze,Zd,Zc,Zf U.lp,Zf U.la,Zf U.lb]))
     simp [Zxy,Zts,U.ab]
  .by_cases h5:op=5
   .subst h5
    obtain ⟨k,hkl,hfi,hus,S5⟩:=Zx2 rfl
    simp only at hfi
    rw [hus] at Xm
    have hlk:=hla l[k] (List.getElem_mem hkl)
    have Z7f:=fun (h2:PH) (U2:UM p Zg a va b vb vs fs h2) (K:Pure.Loc) (a1:can K p=true) (a2:can K a=true) (a3:can K b=true)=>Z3x U2 l[k] hlk Te K a1 a2 a3
    have h107:=fun (K:Pure.Loc) (H:PH) (Zv:can K (h.next+8)=true) (hlt:h.next+8 < H.next) (Zg:Nat) (hp:H.get (h.next+8)=some (Zg,.cells [.int .i64 5,.int .i64 sort,.str name,.str num,.int .i64 kids]))=>Z3w l k 5 sort kids name num hfi (by omega) K H (h.next+8) Zg Zv hlt hp
    generalize hlk':l[k]=u at *
    simp only [List.singleton_append,Za2,S5,if_true] at Xm
    have hfl2:∀ g∈(Q7 vs fs u).2,g.args.length < 2^30:=by
     unfold Q7
     split
     .exact Te
     .split
      .exact Te
      .intro g hg
       rcases List.mem_append.1 hg with hg | hg
       .exact Te g hg
       .simp at hg;subst hg;exact hlk
    generalize Xi:Q7 vs fs u=st at *
    obtain ⟨okk,fs2⟩:=st
    simp only at Xm Z7f hfl2
    ((try simp (disch:=first|omega|(simp<;>omega)|(simp[*];done)|fail) [*,Ze,Zd,Zc,Zf U.lp,Zf U.la,Zf U.lb]);repeat'(first|refine Z1 fun _=>?_|refine Z2 fun _ _=>?_|refine Z3 (fun _=>?_) fun _ _=>?_|refine Z4 fun _=>?_|refine Z5 fun _=>?_|refine Z6 (fun _=>?_) fun _=>?_|refine Z7 (fun _=>?_) fun _=>?_)<;>(try simp (disch:=first|omega|(simp<;>omega)|(simp[*];done)|fail) [*,Ze,Zd,Zc,Zf U.lp,Zf U.la,Zf U.lb]))
    clear h107
    rw [Z7f _ (U'.frame (by simp [Vg]) (by simp [had]) (by simp [hbd]) (by simp)) _ (by simp) (by simp) (by simp)]
    cases okk with
    | true=>
      simp only [if_true] at Xm
      clear Z7f Zx2 hkn
      ((try simp (disch:=first|omega|(simp<;>omega)|(simp[*];done)|fail) [*,Ze,Zd,Zc,Zf U.lp,Zf U.la,Zf U.lb]);repeat'(first|refine Z1 fun _=>?_|refine Z2 fun _ _=>?_|refine Z3 (fun _=>?_) fun _ _=>?_|refine Z4 fun _=>?_|refine Z5 fun _=>?_|refine Z6 (fun _=>?_) fun _=>?_|refine Z7 (fun _=>?_) fun _=>?_)<;>(try simp (disch:=first|omega|(simp<;>omega)|(simp[*];done)|fail) [*,Ze,Zd,Zc,Zf U.lp,Zf U.la,Zf U.lb]))
      exact ⟨_,by omega,i+1,rfl,by omega,by omega,vs,fs2,rfl,(U'.frame (by simp [Vg]) (by simp [had]) (by simp [hbd]) (by simp)).put vs fs2,hfl2⟩
    | false=>
      simp only [Bool.false_eq_true,if_false] at Xm
      rw [Xm]
      clear Z7f Zx2 hkn
      ((try simp (disch:=first|omega|(simp<;>omega)|(simp[*];done)|fail) [*,Ze,Zd,Zc,Zf U.lp,Zf U.la,Zf U.lb]);repeat'(first|refine Z1 fun _=>?_|refine Z2 fun _ _=>?_|refine Z3 (fun _=>?_) fun _ _=>?_|refine Z4 fun _=>?_|refine Z5 fun _=>?_|refine Z6 (fun _=>?_) fun _=>?_|refine Z7 (fun _=>?_) fun _=>?_)<;>(try simp (disch:=first|omega|(simp<;>omega)|(simp[*];done)|fail) [*,Ze,Zd,Zc,Zf U.lp,Zf U.la,Zf U.lb]))
      simp [Zxy,Zts,U.ab]
   .have hu:Wf (⟨op,sort,name,num,kids⟩:Nd) (out.drop (i+1))=[]:=by simp [Wf,h4,h5]
    rw [hu,List.nil_append] at Xm
    clear Zx2 hkn
    ((try simp (disch:=first|omega|(simp<;>omega)|(simp[*];done)|fail) [*,Ze,Zd,Zc,Zf U.lp,Zf U.la,Zf U.lb]);repeat'(first|refine Z1 fun _=>?_|refine Z2 fun _ _=>?_|refine Z3 (fun _=>?_) fun _ _=>?_|refine Z4 fun _=>?_|refine Z5 fun _=>?_|refine Z6 (fun _=>?_) fun _=>?_|refine Z7 (fun _=>?_) fun _=>?_)<;>(try simp (disch:=first|omega|(simp<;>omega)|(simp[*];done)|fail) [*,Ze,Zd,Zc,Zf U.lp,Zf U.la,Zf U.lb]))
    exact ⟨_,by omega,i+1,rfl,by omega,by omega,vs,fs,rfl,U'.frame (by simp [Vg]) (by simp [had]) (by simp [hbd]) (by simp),Te⟩
 .have e:i=out.length:=by omega
  subst e
  rw [List.drop_length] at Xm
  rw [Xm]
  simp only [Yl,Za2]
  have g1:=hgp
  have g2:=U'.v
  have g3:=U'.f
  clear hkn Xm Te
  ((try simp (disch:=first|omega|(simp<;>omega)|(simp[*];done)|fail) [*,Ze,Zd,Zc]);repeat'(first|refine Z1 fun _=>?_|refine Z2 fun _ _=>?_|refine Z3 (fun _=>?_) fun _ _=>?_|refine Z4 fun _=>?_|refine Z5 fun _=>?_|refine Z6 (fun _=>?_) fun _=>?_|refine Z7 (fun _=>?_) fun _=>?_)<;>(try simp (disch:=first|omega|(simp<;>omega)|(simp[*];done)|fail) [*,Ze,Zd,Zc]))
theorem Z7t (out:List Nd) (l:List Use) (hkn:Z4p out l) (hol:out.length < 2^29) (Tj:l.length < 2^29) (hla:∀ g∈l,g.args.length < 2^30) {p Zg a va b vb q vq:Nat} {h:PH} (U:UM p Zg a va b vb [] [] h) (hq:h.get q=some (vq,.row 58 true (out.map Zy))) (hqp:q≠p) (hqa:q≠a) (hqb:q≠b) (hql:q < h.next) (K:Pure.Loc) (hp:can K p=true) (ha:can K a=true) (hb:can K b=true) (hcq:can K q=true):∃ h'' o,Yu vE K 56 [.ptr p Zg 0,.own q vq 58 0 out.length,L 155 true (l.map Y9)] h=some (.bool (Za2 [] [] (Yl out)).1,h'')/\h''.get q=some (vq,.row 58 o (out.map Zy))/\h''.next=h.next:=by
 have U2:UM p Zg a va b vb [] [] (h.put q vq (.row 58 false (out.map Zy))):=U.frame (by simp [Ne.symm hqp]) (by simp [Ne.symm hqa]) (by simp [Ne.symm hqb]) (Nat.le_refl _)
 refine Zww (va:=va) (vb:=vb) (fn:=Tryz.f56) Tryz.func56 rfl rfl rfl (by simp) (by simp) (by simpa using U.reach) hq (by simp) hcq hqp hqa hqb (U.can hp ha hb) U.belowP ?_ (by simp) (Zev (Za2 [] [] (Yl out)).2.1 _) (Zew (Za2 [] [] (Yl out)).2.2 _)
 refine Pure.wp_mono (Z7u out false l hkn hol Tj hla (by simp) U2 _ rfl) ?_
 rintro r ⟨h1,h2⟩
 refine ⟨h1,Pure.wp_mono h2 ?_⟩
 rintro vs ⟨e1,e2,e3,e4,e5⟩
 exact ⟨e1,e2,by rw [e3];simp [Ne.symm hqp],e4,e5⟩
end Go.Proofs.YtabcdhcpilpojaaGreatDoor
end
section
set_option maxRecDepth 20000
namespace Go.Proofs.YtabcdhcpilpojaaGreatDoor
open Go Go.Pure
open Go.Virt (Ex Ctx Ty TK)
theorem Zba {P:List Use} {u:Use} (hP:Clean P) (h:∀ w∈P,w.name=u.name->w=u):Clean (P++[u]):=by
 intro a ha b hb e
 rcases List.mem_append.1 ha with h1 | h1<;>rcases List.mem_append.1 hb with h2 | h2
 .exact hP a h1 b h2 e
 .have h3:b=u:=by simpa using h2
  rw [h3] at e ⊢
  exact h a h1 e
 .have h3:a=u:=by simpa using h1
  rw [h3] at e ⊢
  exact (h b h2 e.symm).symm
 .have h3:b=u:=by simpa using h2
  have h4:a=u:=by simpa using h1
  rw [h3,h4]
theorem Zjk:∀ (us vs fs P:List Use),(∀ u,u∈vs↔u∈P/\u.fn=false)->(∀ u,u∈fs↔u∈P/\u.fn=true)->Clean P->(∀ u∈P++us,u.fn=false->u.args=[])->((Za2 vs fs us).1=true↔Clean (P++us))
 | [],vs,fs,P,hv,hf,hC,ha=>by simp [Za2,hC]
 | u::r,vs,fs,P,hv,hf,hC,ha=>by
   have hass:P++u::r=(P++[u])++r:=by simp
   have bad:∀ w∈P,w.name=u.name->w≠u->¬ Clean (P++u::r):=fun w hw e Ys hCl=>Ys (hCl w (by simp [hw]) u (by simp) e)
   have Z5x:∀ Rb fs',(∀ x,x∈Rb↔x∈P++[u]/\x.fn=false)->(∀ x,x∈fs'↔x∈P++[u]/\x.fn=true)->Clean (P++[u])->((Za2 Rb fs' r).1=true↔Clean (P++u::r)):=fun Rb fs' h1 h2 h3=>by
    rw [hass]
    exact Zjk r Rb fs' (P++[u]) h1 h2 h3 (by rw [<- hass];exact ha)
   have known:u∈P->(∀ x,x∈P++[u]↔x∈P):=fun hu x=>by
    simp only [List.mem_append,List.mem_singleton]
    exact ⟨fun h=>h.elim id fun e=>e ▸ hu,Or.inl⟩
   cases S5:u.fn with
   | false=>
     have hua:=ha u (by simp) S5
     have hue:(⟨false,u.name,[],u.sort⟩:Use)=u:=by
      obtain ⟨a,b,c,d⟩:=u
      simp only at S5 hua
      rw [S5,hua]
     simp only [Za2,S5,Bool.false_eq_true,if_false]
     unfold Qp
     cases h1:fs.find? (fun x=>x.name==u.name) with
     | some f=>
       obtain ⟨a1,a2⟩:=Uo h1
       have a3:=(hf f).1 a1
       simp only [Option.isSome_some,if_true,Bool.false_eq_true,if_false,false_iff]
       exact bad f a3.1 a2 (fun e=>by rw [e,S5] at a3;cases a3.2)
     | none=>
       simp only [Option.isSome_none,Bool.false_eq_true,if_false]
       cases h2:vs.find? (fun x=>x.name==u.name) with
       | some v=>
         obtain ⟨a1,a2⟩:=Uo h2
         have a3:=(hv v).1 a1
         simp only
         by_cases hs:v.sort=u.sort
         .have e:v=u:=by
           have hva:=ha v (by simp [a3.1]) a3.2
           obtain ⟨q1,q2,q3,q4⟩:=v
           obtain ⟨r1,r2,r3,r4⟩:=u
           simp only at *
           rw [a3.2,S5,a2,hva,hua,hs]
          subst e
          simp only [BEq.rfl,if_true]
          have kn:=known a3.1
          exact Z5x vs fs (fun x=>by rw [kn];exact hv x) (fun x=>by rw [kn];exact hf x) (Zba hC fun w hw e=>hC w hw v a3.1 e)
         .have:(v.sort==u.sort)=false:=by simpa using hs
          simp only [this,Bool.false_eq_true,if_false,false_iff]
          exact bad v a3.1 a2 (fun e=>hs (by rw [e]))
       | none=>
         simp only [if_true,hue]
         have n1:=Vy h1
         have n2:=Vy h2
         have hno:∀ w∈P,w.name≠u.name:=fun w hw e=>by
          cases Wr:w.fn with
          | false=>exact n2 w ((hv w).2 ⟨hw,Wr⟩) e
          | true=>exact n1 w ((hf w).2 ⟨hw,Wr⟩) e
         refine Z5x (vs++[u]) fs (fun x=>?_) (fun x=>?_) (Zba hC fun w hw e=>absurd e (hno w hw))
         .simp only [List.mem_append,List.mem_singleton,hv]
          constructor
          .rintro (h | rfl)
           .exact ⟨.inl h.1,h.2⟩
           .exact ⟨.inr rfl,S5⟩
          .rintro ⟨h | rfl,h'⟩
           .exact .inl ⟨h,h'⟩
           .exact .inr rfl
         .simp only [List.mem_append,List.mem_singleton,hf]
          constructor
          .rintro ⟨h,h'⟩;exact ⟨.inl h,h'⟩
          .rintro ⟨h | rfl,h'⟩
           .exact ⟨h,h'⟩
           .rw [S5] at h';cases h'
   | true=>
     simp only [Za2,S5,if_true]
     unfold Q7
     cases h1:vs.find? (fun x=>x.name==u.name) with
     | some f=>
       obtain ⟨a1,a2⟩:=Uo h1
       have a3:=(hv f).1 a1
       simp only [Option.isSome_some,if_true,Bool.false_eq_true,if_false,false_iff]
       exact bad f a3.1 a2 (fun e=>by rw [e,S5] at a3;cases a3.2)
     | none=>
       simp only [Option.isSome_none,Bool.false_eq_true,if_false]
       cases h2:fs.find? (fun x=>x.name==u.name) with
       | some v=>
         obtain ⟨a1,a2⟩:=Uo h2
         have a3:=(hf v).1 a1
         simp only
         by_cases hs:v.sort=u.sort/\v.args=u.args
         .have e:v=u:=by
           obtain ⟨q1,q2,q3,q4⟩:=v
           obtain ⟨r1,r2,r3,r4⟩:=u
           simp only at *
           rw [a3.2,S5,a2,hs.1,hs.2]
          subst e
          simp only [BEq.rfl,Bool.and_self,if_true]
          have kn:=known a3.1
          exact Z5x vs fs (fun x=>by rw [kn];exact hv x) (fun x=>by rw [kn];exact hf x) (Zba hC fun w hw e=>hC w hw v a3.1 e)
         .have:(v.sort==u.sort&&v.args==u.args)=false:=by
           rw [Bool.eq_false_iff]
           intro h
           simp only [Bool.and_eq_true,beq_iff_eq] at h
           exact hs h
          simp only [this,Bool.false_eq_true,if_false,false_iff]
          exact bad v a3.1 a2 (fun e=>hs (by rw [e];exact ⟨rfl,rfl⟩))
       | none=>
         simp only [if_true]
         have n1:=Vy h1
         have n2:=Vy h2
         have hno:∀ w∈P,w.name≠u.name:=fun w hw e=>by
          cases Wr:w.fn with
          | false=>exact n1 w ((hv w).2 ⟨hw,Wr⟩) e
          | true=>exact n2 w ((hf w).2 ⟨hw,Wr⟩) e
         refine Z5x vs (fs++[u]) (fun x=>?_) (fun x=>?_) (Zba hC fun w hw e=>absurd e (hno w hw))
         .simp only [List.mem_append,List.mem_singleton,hv]
          constructor
          .rintro ⟨h,h'⟩;exact ⟨.inl h,h'⟩
          .rintro ⟨h | rfl,h'⟩
           .exact ⟨h,h'⟩
           .rw [S5] at h';cases h'
         .simp only [List.mem_append,List.mem_singleton,hf]
          constructor
          .rintro (h | rfl)
           .exact ⟨.inl h.1,h.2⟩
           .exact ⟨.inr rfl,S5⟩
          .rintro ⟨h | rfl,h'⟩
           .exact .inl ⟨h,h'⟩
           .exact .inr rfl
theorem Zwz {t:List Nd}:∀ u∈Yl t,u.fn=false->u.args=[]:=by
 induction t with
 | nil=>simp [Yl]
 | cons n r ih=>
   intro u hu hf
   simp only [Yl,List.mem_append] at hu
   rcases hu with hu | hu
   .exact Zeb hu hf
   .exact ih u hu hf
theorem Zp8 (t:List Nd):(Za2 [] [] (Yl t)).1=Wt (Yl t):=by
 have h:=Zjk (Yl t) [] [] [] (by simp) (by simp) (by simp [Clean]) (by simpa using Zwz)
 rw [List.nil_append] at h
 rw [Bool.eq_iff_iff,h]
 simp [Wt]
end Go.Proofs.YtabcdhcpilpojaaGreatDoor
end
section
set_option maxRecDepth 20000
namespace Go.Proofs.YtabcdhcpilpojaaGreatDoor
open Go Go.Pure
open Go.Virt (Ex Ctx Ty TK)
theorem Zz3 {t:List Nd} {u:Use} (h:u∈Yl t):∃ i,∃ hi:i < t.length,u∈Wf t[i] (t.drop (i+1)):=by
 induction t with
 | nil=>simp [Yl] at h
 | cons n r ih=>
   simp only [Yl,List.mem_append] at h
   rcases h with h | h
   .exact ⟨0,by simp,by simpa using h⟩
   .obtain ⟨i,hi,h2⟩:=ih h
    exact ⟨i+1,by simpa using hi,by simpa using h2⟩
theorem Zz6 (n:Nd) (r:List Nd):(Wf n r).length<=1:=by
 unfold Wf
 split
 .simp
 .split
  .split<;>simp
  .simp
theorem Zz4 (t:List Nd):(Yl t).length<=t.length:=by
 induction t with
 | nil=>simp [Yl]
 | cons n r ih=>
   have:=Zz6 n r
   simp only [Yl,List.length_append,List.length_cons]
   omega
theorem Zxi (us:List Use):∀ s:List Use×List Use,∀ u,u∈(us.foldl Zey s).2↔u∈s.2\/(u∈us/\u.fn=true):=by
 induction us with
 | nil=>simp
 | cons x us ih=>
   intro s u
   rw [List.foldl_cons,ih]
   unfold Zey
   cases hx:x.fn with
   | true=>
     simp only [if_true,List.mem_cons]
     split
     .rename_i hm
      constructor
      .rintro (h | h)
       .exact .inl h
       .exact .inr ⟨.inr h.1,h.2⟩
      .rintro (h | ⟨rfl | h,h'⟩)
       .exact .inl h
       .exact .inl hm
       .exact .inr ⟨h,h'⟩
     .simp only [List.mem_append,List.mem_singleton]
      constructor
      .rintro ((h | rfl) | h)
       .exact .inl h
       .exact .inr ⟨.inl rfl,hx⟩
       .exact .inr ⟨.inr h.1,h.2⟩
      .rintro (h | ⟨rfl | h,h'⟩)
       .exact .inl (.inl h)
       .exact .inl (.inr rfl)
       .exact .inr ⟨h,h'⟩
   | false=>
     simp only [Bool.false_eq_true,if_false,List.mem_cons]
     constructor
     .rintro (h | h)
      .exact .inl h
      .exact .inr ⟨.inr h.1,h.2⟩
     .rintro (h | ⟨rfl | h,h'⟩)
      .exact .inl h
      .rw [hx] at h';cases h'
      .exact .inr ⟨h,h'⟩
theorem Zxj (us:List Use):∀ s:List Use×List Use,(us.foldl Zey s).2.length<=s.2.length+us.length:=by
 induction us with
 | nil=>simp
 | cons x us ih=>
   intro s
   have h1:=ih (Zey s x)
   have h2:(Zey s x).2.length<=s.2.length+1:=by
    unfold Zey
    split
    .simp only;split<;>simp
    .simp
   simp only [List.foldl_cons,List.length_cons]
   omega
abbrev Zcl (t:List Nd):List Use:=(Zb8 (Yl t)).2
theorem Zdc {t:List Nd} {u:Use}:u∈Zcl t↔u∈Yl t/\u.fn=true:=by
 rw [Zcl,Zb8,Zxi];simp
theorem VT.app {t:List Nd} {tr:Tr} (v:VT t tr) {i:Nat} (hi:i < t.length) (h5:t[i].op=5):∃ ks r,∃ k:Nat,t[i].kids=(k:Int)/\many (Zk 257) k (t.drop (i+1))=some (ks,r)/\ks.length<=20000/\Wf t[i] (t.drop (i+1))=[⟨true,t[i].name,Yt ks,t[i].sort⟩]:=by
 obtain ⟨t1,t2,hF,hk,hm⟩:=Zmd (d:=256) v.parse v.pos hi
 have hl:=hF.le
 rw [List.length_append,List.length_drop] at hl
 have:=v.len
 refine ⟨t1.map (·.1),_,t1.length,hk,hm,by simp;omega,?_⟩
 rw [Zz5 (d:=256) (by omega) hi h5 hk hm,Rz]
theorem VT.args {t:List Nd} {tr:Tr} (v:VT t tr):∀ u∈Yl t,u.args.length < 2^30:=by
 intro u hu
 obtain ⟨i,hi,h⟩:=Zz3 hu
 by_cases h5:t[i].op=5
 .obtain ⟨ks,r,k,_,_,hks,he⟩:=v.app hi h5
  rw [he] at h
  simp only [List.mem_singleton] at h
  rw [h]
  simp only [Uv]
  omega
 .have:u.fn=false:=by
   unfold Wf at h
   split at h
   .simp at h;rw [h]
   .simp [h5] at h
  rw [Zeb h this]
  simp
theorem Zs3 {f g:List Yp} {n:Nd} (h:n.op≠4):Wp f g n=n:=by
 unfold Wp;rw [if_neg h]
theorem Zxp {t:List Nd} {tr:Tr} (v:VT t tr) {f g:List Yp} (hg:∀ s∈g,Xs s=true):Z4p (t.map (Wp f g)) (Zcl t):=by
 intro i hi h5
 have Sv:i < t.length:=by simpa using hi
 have F:=Zfi (from':=f) hg
 have Xk:t[i].op=5:=by
  have:(Wp f g t[i]).op=5:=by simpa using h5
  rwa [F.op] at this
 have he:Wp f g t[i]=t[i]:=Zs3 (by omega)
 have Zp:(t.map (Wp f g))[i]=t[i]:=by simp [he]
 obtain ⟨ks,r,k,hk,hm,hks,hu⟩:=v.app Sv Xk
 have hum:(⟨true,t[i].name,Yt ks,t[i].sort⟩:Use)∈Zcl t:=Zdc.2 ⟨Zuw Sv (by rw [Rp Sv,hu];simp),rfl⟩
 rw [Zp]
 cases hfi:(Zcl t).findIdx? (fun u=>u.name==t[i].name) with
 | none=>
   have:=List.findIdx?_eq_none_iff.1 hfi _ hum
   simp at this
 | some j=>
   obtain ⟨hj,hjn,_⟩:=List.findIdx?_eq_some_iff_getElem.1 hfi
   have hjm:=Zdc.1 (List.getElem_mem hj)
   have hue:=Zdc.1 hum
   have e:(Zcl t)[j]=⟨true,t[i].name,Yt ks,t[i].sort⟩:=v.clean _ hjm.1 _ hue.1 (by simpa using hjn)
   refine ⟨j,hj,rfl,?_,by rw [e]⟩
   rw [e,<- List.map_drop]
   unfold Wf
   rw [if_neg (by omega),if_pos Xk,hk,Int.toNat_natCast,Zjs (fun _ _ _ h=>Zgz F h) hm]
   simp only [Zec]
end Go.Proofs.YtabcdhcpilpojaaGreatDoor
end
section
set_option maxRecDepth 20000
namespace Go.Proofs.YtabcdhcpilpojaaGreatDoor
open Go Go.Pure
open Go.Virt (Ex Ctx Ty TK)
theorem VT.sort {t:List Nd} {tr:Tr} (v:VT t tr):Zfd t=Yf tr:=by
 unfold Zfd
 rw [if_neg (by have:=v.len;omega),v.parse]
 have:Wt (Yl t)=true:=by unfold Wt;rw [decide_eq_true_eq];exact v.clean
 simp only [this,if_true]
theorem Z7s (b:Bool) (xs:List PV) (Ys:xs≠[]) (hl:xs.length<=2^29) (K:Pure.Loc) (h:PH) (hK:K.lo<=h.next):∃ Zg,Yu vE K 95 [L 58 b xs] h=some (.own (h.next+5) Zg 58 0 xs.length,{h.put (h.next+5) Zg (.row 58 true xs) with next:=h.next+8}):=by
 have hL:L 58 b xs=.lst 58 xs:=by
  cases xs with
  | nil=>exact absurd rfl Ys
  | cons=>simp [L]
 rw [hL]
 have key:wp (Yu vE K 95 [.lst 58 xs] h) fun r=>∃ Zg,r=(.own (h.next+5) Zg 58 0 xs.length,{h.put (h.next+5) Zg (.row 58 true xs) with next:=h.next+8}):=by
  refine Znk (fn:=Tryz.f95) (by rfl) Tryz.func95 rfl rfl ?_
  ((try simp (disch:=first|omega|(simp<;>omega)|(simp[*];done)|fail) [*,Ze,Zd,Zc,Tryz.f95]);repeat'(first|refine Z1 fun _=>?_|refine Z2 fun _ _=>?_|refine Z3 (fun _=>?_) fun _ _=>?_|refine Z4 fun _=>?_|refine Z5 fun _=>?_|refine Z6 (fun _=>?_) fun _=>?_|refine Z7 (fun _=>?_) fun _=>?_)<;>(try simp (disch:=first|omega|(simp<;>omega)|(simp[*];done)|fail) [*,Ze,Zd,Zc,Tryz.f95]))
  rw [if_neg]
  .rw [Z51]
   rfl
  .rw [Bool.not_eq_true]
   unfold Zf9
   rw [List.all_eq_false]
   exact ⟨5,by simp,by simp⟩
 obtain ⟨r,h1,Zg,rfl⟩:=Xq.1 key
 exact ⟨Zg,h1⟩
theorem Zrs:∀ (f g:List Yp) (x:Yp),Vd ((f.zip g).map fun p=>(PV.str p.1,PV.str p.2)) (.str x)=some ((Um f g x).map .str)
 | [],g,x=>by cases g<;>rfl
 | a::f,[],x=>rfl
 | a::f,b::g,x=>by
   simp only [List.zip_cons_cons,List.map_cons,Vd,Vs,Um]
   by_cases h:x=a
   .subst h;simp
   .have:(x==a)=false:=by simpa using h
    simp only [this,h,if_false]
    exact Zrs f g x
theorem Z5y (es:List (Yp×Yp)) (x y:Yp) (h:∀ e∈es,e.1≠x):V4 (es.map fun p=>(PV.str p.1,PV.str p.2)) (.str x) (.str y)=some ((es++[(x,y)]).map fun p=>(PV.str p.1,PV.str p.2)):=by
 induction es with
 | nil=>rfl
 | cons e es ih=>
   have h1:(x==e.1)=false:=by simpa using Ne.symm (h e (by simp))
   simp only [List.map_cons,V4,Vs,h1,ih fun v hv=>h v (by simp [hv]),Option.map_some,List.cons_append]
theorem Zzv {f g:List Yp} (hfg:f.length=g.length) (i:Nat) (hi:i < f.length):(f.zip g).take (i+1)=(f.zip g).take i++[(f[i],g[i]'(by omega))]:=by
 have hz:i < (f.zip g).length:=by simp;omega
 rw [U7 _ i hz,List.getElem_zip]
theorem Zwt {f g:List Yp} (hN:f.Nodup) (i:Nat) (hi:i < f.length):∀ e∈(f.zip g).take i,e.1≠f[i]:=by
 intro e he heq
 obtain ⟨j,hj,rfl⟩:=List.getElem_of_mem he
 have hj2:j < i:=by simp at hj;omega
 rw [List.getElem_take,List.getElem_zip] at heq
 exact List.pairwise_iff_getElem.1 hN j i (by omega) hi hj2 heq
set_option maxHeartbeats 8000000 in
theorem Z4d {t:List Nd} {tr:Tr} (v:VT t tr) (b b1 b2:Bool) (f g:List Yp) (hf:f.length < 2^29) (hg:g.length < 2^29) (hf1:∀ s∈f,s.length < 2^19) (S4:∀ s∈g,s.length < 2^19):Xy vE 36 [L 58 b (t.map Zy),L 9 b1 (f.map .str),L 9 b2 (g.map .str)] (Zl0 (Zc3 t f g)):=by
 have h49:=Zaee v b
 have Z22:=Z36 b1 f (by omega) (fun s hs=>by have:=hf1 s hs;omega)
 have Z69:=Z36 b2 g (by omega) (fun s hs=>by have:=S4 s hs;omega)
 have h51:=Zaed b1 f (by omega)
 have U4:¬ Zfd t<=0:=by rw [v.sort];have:=v.pos;omega
 unfold Zc3
 by_cases hlen:f.length=g.length
 .rw [if_neg (by rintro (h | h);exact U4 h;exact h hlen)]
  by_cases Zdq:∀ s∈f++g,Xs s=true
  .rw [if_neg (by simpa using Zdq)]
   have hfa:f.all Xs=true:=List.all_eq_true.2 fun s hs=>Zdq s (by simp [hs])
   have hga:g.all Xs=true:=List.all_eq_true.2 fun s hs=>Zdq s (by simp [hs])
   rw [hfa] at Z22
   rw [hga] at Z69
   by_cases hN:f.Nodup
   .rw [if_neg (by simpa using hN)]
    rw [decide_eq_true hN] at h51
    have F:=Zfi (from':=f) (to:=g) fun s hs=>Zdq s (by simp [hs])
    have hkn:=Zxp (f:=f) v (g:=g) fun s hs=>Zdq s (by simp [hs])
    have h57:=Zaec v b
    have hla:=v.args
    have Ys:=v.ne
    have hl:=v.len
    intro K H
    refine Zh (fn:=Tryz.f36) rfl Tryz.func36 rfl rfl (by simp) (by simp) ?_ (by simp [*])
    ((try simp (disch:=first|omega|(simp<;>omega)|(simp[*];done)|fail) [*,Ze,Zd,Zc,Tryz.f36]);repeat'(first|refine Z1 fun _=>?_|refine Z2 fun _ _=>?_|refine Z3 (fun _=>?_) fun _ _=>?_|refine Z4 fun _=>?_|refine Z5 fun _=>?_|refine Z6 (fun _=>?_) fun _=>?_|refine Z7 (fun _=>?_) fun _=>?_)<;>(try simp (disch:=first|omega|(simp<;>omega)|(simp[*];done)|fail) [*,Ze,Zd,Zc,Tryz.f36]))
    generalize hv41:H.stamp (H.next+41)=v41
    refine Ya [0,2,9,42,43] (fun n sl h=>∃ i:Nat,n=f.length - i/\i<=f.length/\sl 44=some (.int .i64 i)/\h.get (H.next+41)=some (v41,.map (((f.zip g).take i).map fun p=>(PV.str p.1,PV.str p.2)))/\h.next=H.next+91) f.length rfl ⟨0,by simp,by simp,by simp,by simp [*],by simp⟩ ?_
    rintro n' sl h hfr' ⟨i',hn',Sv,h44,hg41,Qe⟩
    simp at hfr'
    by_cases hlt':i' < f.length
    .have hig:i' < g.length:=by omega
     have hpz:=Z5y ((f.zip g).take i') f[i'] (g[i']'(by omega)) (Zwt hN i' hlt')
     rw [<- Zzv hlen i' hlt'] at hpz
     have hT2:∃ T2,(f.zip g).take (i'+1)=T2:=⟨_,rfl⟩
     obtain ⟨T2,hT2⟩:=hT2
     rw [hT2] at hpz
     replace hT2:=Hide.mk hT2
     generalize (f.zip g).take i'=T at *
     clear hN hkn Zdq
     ((try simp (disch:=first|omega|(simp<;>omega)|(simp[*];done)|fail) [*,Ze,Zd,Zc]);repeat'(first|refine Z1 fun _=>?_|refine Z2 fun _ _=>?_|refine Z3 (fun _=>?_) fun _ _=>?_|refine Z4 fun _=>?_|refine Z5 fun _=>?_|refine Z6 (fun _=>?_) fun _=>?_|refine Z7 (fun _=>?_) fun _=>?_)<;>(try simp (disch:=first|omega|(simp<;>omega)|(simp[*];done)|fail) [*,Ze,Zd,Zc]))
     exact ⟨_,by omega,i'+1,rfl,by omega,by omega,by rw [<- List.map_take,hT2.get]⟩
    .have e:(f.zip g).take i'=f.zip g:=List.take_of_length_le (by simp;omega)
     rw [e] at hg41
     clear U4 Z22 Z69 h51 Zdq hfa hga hf1 S4 hN F
     replace hkn:=Hide.mk hkn
     replace hla:=Hide.mk hla
     have hlu:=Zz4 t
     generalize hM:(f.zip g).map (fun p=>(PV.str p.1,PV.str p.2))=M at *
     replace hM:=Hide.mk hM
     ((try simp (disch:=first|omega|(simp<;>omega)|(simp[*];done)|fail) [*,Ze,Zd,Zc]);repeat'(first|refine Z1 fun _=>?_|refine Z2 fun _ _=>?_|refine Z3 (fun _=>?_) fun _ _=>?_|refine Z4 fun _=>?_|refine Z5 fun _=>?_|refine Z6 (fun _=>?_) fun _=>?_|refine Z7 (fun _=>?_) fun _=>?_)<;>(try simp (disch:=first|omega|(simp<;>omega)|(simp[*];done)|fail) [*,Ze,Zd,Zc]))
     obtain ⟨Zg,h95⟩:=Z7s b (t.map Zy) (by intro h0;simp at h0;subst h0;simp at Ys) (by simp;omega) {base:=H.next,lo:=H.next,ok:=[]} h (by simp [*])
     rw [Qe] at h95
     rw [h95]
     clear h95
     have hm41:({h.put (H.next+91+5) Zg (.row 58 true (t.map Zy)) with next:=H.next+91+8}:PH).get (H.next+41)=some (v41,.map M):=by simp [*]
     have Z6x:({h.put (H.next+91+5) Zg (.row 58 true (t.map Zy)) with next:=H.next+91+8}:PH).get (H.next+96)=some (Zg,.row 58 true (t.map Zy)):=by simp
     have hmn:({h.put (H.next+91+5) Zg (.row 58 true (t.map Zy)) with next:=H.next+91+8}:PH).next=H.next+99:=rfl
     generalize ({h.put (H.next+91+5) Zg (.row 58 true (t.map Zy)) with next:=H.next+91+8}:PH)=h1 at *
     ((try simp (disch:=first|omega|(simp<;>omega)|(simp[*];done)|fail) [*,Ze,Zd,Zc]);repeat'(first|refine Z1 fun _=>?_|refine Z2 fun _ _=>?_|refine Z3 (fun _=>?_) fun _ _=>?_|refine Z4 fun _=>?_|refine Z5 fun _=>?_|refine Z6 (fun _=>?_) fun _=>?_|refine Z7 (fun _=>?_) fun _=>?_)<;>(try simp (disch:=first|omega|(simp<;>omega)|(simp[*];done)|fail) [*,Ze,Zd,Zc]))
     refine Ya [0,9,12,58,59] (fun n sl h=>∃ i:Nat,n=t.length - i/\i<=t.length/\sl 60=some (.int .i64 i)/\h.get (H.next+41)=some (v41,.map M)/\h.get (H.next+96)=some (Zg,.row 58 true ((t.take i).map (fun d=>Zy (Wp f g d))++(t.drop i).map Zy))/\h.next=H.next+99) t.length rfl ⟨0,by simp,by simp,by simp,by simp [*],by simp [*],by simp [*]⟩ ?_
     rintro n sl2 h2 hfr ⟨i,hn,hi,h60,hm41,Z6x,hmn⟩
     simp at hfr
     by_cases hlt:i < t.length
     .generalize ht:t[i]=d at *
      obtain ⟨op,sort,name,num,kids⟩:=d
      have hfz:=Zrs f g name
      rw [hM.get] at hfz
      have htd:(t.take (i+1)).map (fun d=>Zy (Wp f g d))=(t.take i).map (fun d=>Zy (Wp f g d))++[Zy (Wp f g ⟨op,sort,name,num,kids⟩)]:=by rw [U7 t i hlt,ht];simp
      have hdd:(t.drop i).map Zy=Zy ⟨op,sort,name,num,kids⟩::(t.drop (i+1)).map Zy:=by rw [<- ht,<- List.map_cons,<- List.drop_eq_getElem_cons hlt]
      rw [hdd] at Z6x
      have hlen:((t.take i).map (fun d=>Zy (Wp f g d))).length=i:=by simp;omega
      have hDl:i+(((t.drop (i+1)).map Zy).length+1)=t.length:=by simp;omega
      have Z20:List.take (i+1) (List.map (fun d=>Zy (Wp f g d)) t)++List.drop (i+1) (List.map Zy t)=(t.take i).map (fun d=>Zy (Wp f g d))++Zy (Wp f g ⟨op,sort,name,num,kids⟩)::(t.drop (i+1)).map Zy:=by
       rw [<- List.map_take,<- List.map_drop,htd,List.append_assoc]
       rfl
      clear htd
      replace Z20:=Hide.mk Z20
      generalize hP:(t.take i).map (fun d=>Zy (Wp f g d))=P at *
      generalize hD:(t.drop (i+1)).map Zy=D at *
      clear hdd
      replace hP:=Hide.mk hP
      replace hD:=Hide.mk hD
      clear h57 h49 hn' Sv hlt'
      cases hlk:Um f g name with
      | none=>
        rw [hlk] at hfz
        simp only [Option.map_none] at hfz
        ((try simp (disch:=first|omega|(simp<;>omega)|(simp[*];done)|fail) [*,Ze,Zd,Zc]);repeat'(first|refine Z1 fun _=>?_|refine Z2 fun _ _=>?_|refine Z3 (fun _=>?_) fun _ _=>?_|refine Z4 fun _=>?_|refine Z5 fun _=>?_|refine Z6 (fun _=>?_) fun _=>?_|refine Z7 (fun _=>?_) fun _=>?_)<;>(try simp (disch:=first|omega|(simp<;>omega)|(simp[*];done)|fail) [*,Ze,Zd,Zc]))
        exact ⟨_,by omega,i+1,rfl,by omega,by omega,by rw [Z20.get];simp [Wp,hlk,Zy]⟩
      | some y=>
        rw [hlk] at hfz
        simp only [Option.map_some] at hfz
        by_cases h4:op=4
        . ((try simp (disch:=first|omega|(simp<;>omega)|(simp[*];done)|fail) [*,Ze,Zd,Zc]);repeat'(first|refine Z1 fun _=>?_|refine Z2 fun _ _=>?_|refine Z3 (fun _=>?_) fun _ _=>?_|refine Z4 fun _=>?_|refine Z5 fun _=>?_|refine Z6 (fun _=>?_) fun _=>?_|refine Z7 (fun _=>?_) fun _=>?_)<;>(try simp (disch:=first|omega|(simp<;>omega)|(simp[*];done)|fail) [*,Ze,Zd,Zc]))
          exact ⟨_,by omega,i+1,rfl,by omega,by omega,by rw [Z20.get];simp [Wp,hlk,h4,Zy]⟩
        . ((try simp (disch:=first|omega|(simp<;>omega)|(simp[*];done)|fail) [*,Ze,Zd,Zc]);repeat'(first|refine Z1 fun _=>?_|refine Z2 fun _ _=>?_|refine Z3 (fun _=>?_) fun _ _=>?_|refine Z4 fun _=>?_|refine Z5 fun _=>?_|refine Z6 (fun _=>?_) fun _=>?_|refine Z7 (fun _=>?_) fun _=>?_)<;>(try simp (disch:=first|omega|(simp<;>omega)|(simp[*];done)|fail) [*,Ze,Zd,Zc]))
          exact ⟨_,by omega,i+1,rfl,by omega,by omega,by rw [Z20.get];simp [Wp,hlk,h4,Zy]⟩
     .obtain ⟨Zaq0,va,vb,h3,h53,U,hold⟩:=Z57 {base:=H.next,lo:=H.next,ok:=[]} h2
      have ei:i=t.length:=by omega
      subst ei
      rw [List.drop_length,List.take_length,List.map_nil,List.append_nil] at Z6x
      ((try simp (disch:=first|omega|(simp<;>omega)|(simp[*];done)|fail) [*,Ze,Zd,Zc]);repeat'(first|refine Z1 fun _=>?_|refine Z2 fun _ _=>?_|refine Z3 (fun _=>?_) fun _ _=>?_|refine Z4 fun _=>?_|refine Z5 fun _=>?_|refine Z6 (fun _=>?_) fun _=>?_|refine Z7 (fun _=>?_) fun _=>?_)<;>(try simp (disch:=first|omega|(simp<;>omega)|(simp[*];done)|fail) [*,Ze,Zd,Zc]))
      have hu:=U.lp
      obtain ⟨h4,o,hc1,hr4,hn4⟩:=Z7t (t.map (Wp f g)) (Zcl t) hkn.get (by simp;omega) (by have:=Zxj (Yl t) ([],[]);unfold Zcl Zb8;simp at this;omega) (fun u hu=>hla.get u (Zdc.1 hu).1) (q:=H.next+96) (vq:=Zg) U (by rw [hold _ (by omega),Z6x];simp) (by omega) (by omega) (by omega) (by omega) {base:=H.next,lo:=H.next,ok:=[]} (by simp [can,hmn];omega) (by simp [can,hmn];omega) (by simp [can,hmn];omega) (by simp [can,hmn])
      rw [Zp8,List.length_map] at hc1
      rw [show (H.next+91+5:Nat)=H.next+96 from rfl,<- hmn]
      refine Xq.2 ⟨_,hc1,?_⟩
      cases hcl:Wt (Yl (t.map (Wp f g))) with
      | true=>
        ((try simp (disch:=first|omega|(simp<;>omega)|(simp[*];done)|fail) [*,Ze,Zd,Zc]);repeat'(first|refine Z1 fun _=>?_|refine Z2 fun _ _=>?_|refine Z3 (fun _=>?_) fun _ _=>?_|refine Z4 fun _=>?_|refine Z5 fun _=>?_|refine Z6 (fun _=>?_) fun _=>?_|refine Z7 (fun _=>?_) fun _=>?_)<;>(try simp (disch:=first|omega|(simp<;>omega)|(simp[*];done)|fail) [*,Ze,Zd,Zc]))
        refine ⟨?_,by omega⟩
        rw [List.take_of_length_le (by simp)]
        cases t with
        | nil=>simp at Ys
        | cons=>simp [L]
      | false=>((try simp (disch:=first|omega|(simp<;>omega)|(simp[*];done)|fail) [*,Ze,Zd,Zc]);repeat'(first|refine Z1 fun _=>?_|refine Z2 fun _ _=>?_|refine Z3 (fun _=>?_) fun _ _=>?_|refine Z4 fun _=>?_|refine Z5 fun _=>?_|refine Z6 (fun _=>?_) fun _=>?_|refine Z7 (fun _=>?_) fun _=>?_)<;>(try simp (disch:=first|omega|(simp<;>omega)|(simp[*];done)|fail) [*,Ze,Zd,Zc]))
   .rw [if_pos hN]
    rw [decide_eq_false hN] at h51
    clear Zdq hfa hga hN hf1 S4 U4
    intro K H
    refine Zh (fn:=Tryz.f36) rfl Tryz.func36 rfl rfl (by simp) (by simp) ?_ (by simp [*])
    ((try simp (disch:=first|omega|(simp<;>omega)|(simp[*];done)|fail) [*,Ze,Zd,Zc,Tryz.f36]);repeat'(first|refine Z1 fun _=>?_|refine Z2 fun _ _=>?_|refine Z3 (fun _=>?_) fun _ _=>?_|refine Z4 fun _=>?_|refine Z5 fun _=>?_|refine Z6 (fun _=>?_) fun _=>?_|refine Z7 (fun _=>?_) fun _=>?_)<;>(try simp (disch:=first|omega|(simp<;>omega)|(simp[*];done)|fail) [*,Ze,Zd,Zc,Tryz.f36]))
  .rw [if_pos Zdq]
   clear U4 h51 hf1 S4
   cases hfa:f.all Xs with
   | false=>
     rw [hfa] at Z22
     clear Zdq hfa
     intro K H
     refine Zh (fn:=Tryz.f36) rfl Tryz.func36 rfl rfl (by simp) (by simp) ?_ (by simp [*])
     ((try simp (disch:=first|omega|(simp<;>omega)|(simp[*];done)|fail) [*,Ze,Zd,Zc,Tryz.f36]);repeat'(first|refine Z1 fun _=>?_|refine Z2 fun _ _=>?_|refine Z3 (fun _=>?_) fun _ _=>?_|refine Z4 fun _=>?_|refine Z5 fun _=>?_|refine Z6 (fun _=>?_) fun _=>?_|refine Z7 (fun _=>?_) fun _=>?_)<;>(try simp (disch:=first|omega|(simp<;>omega)|(simp[*];done)|fail) [*,Ze,Zd,Zc,Tryz.f36]))
   | true=>
     have hga:g.all Xs=false:=by
      rw [<- Bool.not_eq_true]
      intro hga
      exact Zdq fun s hs=>(List.mem_append.1 hs).elim (fun h=>List.all_eq_true.1 hfa s h) (fun h=>List.all_eq_true.1 hga s h)
     rw [hfa] at Z22
     rw [hga] at Z69
     clear Zdq hfa hga
     intro K H
     refine Zh (fn:=Tryz.f36) rfl Tryz.func36 rfl rfl (by simp) (by simp) ?_ (by simp [*])
     ((try simp (disch:=first|omega|(simp<;>omega)|(simp[*];done)|fail) [*,Ze,Zd,Zc,Tryz.f36]);repeat'(first|refine Z1 fun _=>?_|refine Z2 fun _ _=>?_|refine Z3 (fun _=>?_) fun _ _=>?_|refine Z4 fun _=>?_|refine Z5 fun _=>?_|refine Z6 (fun _=>?_) fun _=>?_|refine Z7 (fun _=>?_) fun _=>?_)<;>(try simp (disch:=first|omega|(simp<;>omega)|(simp[*];done)|fail) [*,Ze,Zd,Zc,Tryz.f36]))
 .rw [if_pos (.inr hlen)]
  clear U4 h51 hf1 S4 Z22 Z69
  intro K H
  refine Zh (fn:=Tryz.f36) rfl Tryz.func36 rfl rfl (by simp) (by simp) ?_ (by simp [*])
  ((try simp (disch:=first|omega|(simp<;>omega)|(simp[*];done)|fail) [*,Ze,Zd,Zc,Tryz.f36]);repeat'(first|refine Z1 fun _=>?_|refine Z2 fun _ _=>?_|refine Z3 (fun _=>?_) fun _ _=>?_|refine Z4 fun _=>?_|refine Z5 fun _=>?_|refine Z6 (fun _=>?_) fun _=>?_|refine Z7 (fun _=>?_) fun _=>?_)<;>(try simp (disch:=first|omega|(simp<;>omega)|(simp[*];done)|fail) [*,Ze,Zd,Zc,Tryz.f36]))
end Go.Proofs.YtabcdhcpilpojaaGreatDoor
end
section
set_option maxRecDepth 20000
namespace Go.Proofs.YtabcdhcpilpojaaGreatDoor
open Go Go.Pure
open Go.Virt (Ex Ctx Ty TK)
theorem GT.vt {s:Int} {d N:Nat} {V:List (Yp×Int)} {t:List Nd} (h:GT s d N V t) (hV:Zbf V) (hd:d<=257) (hN:N<=20000):∃ tr,VT t tr/\Yf tr=s:=by
 obtain ⟨tr,h1,h2⟩:=h.tree
 have h3:=Zb5 hd (h1 [])
 rw [List.append_nil] at h3
 have hc:=h.clean hV
 unfold Wt at hc
 rw [decide_eq_true_eq] at hc
 exact ⟨tr,⟨h3,by rw [h2];exact h.pos,⟨h.short,fun n hn=>(h.node n hn).2.2.2⟩,Nat.le_trans h.len hN,hc⟩,h2⟩
theorem VT.ren {t:List Nd} {tr:Tr} (v:VT t tr) {f g:List Yp} (hg:∀ s∈g,Xs s=true/\s.length<=2^19) (hc:Wt (Yl (t.map (Wp f g)))=true):VT (t.map (Wp f g)) (Zqw (Wp f g) tr):=by
 have F:=Zfi (from':=f) (to:=g) fun s hs=>(hg s hs).1
 refine ⟨Zgz F v.parse,by rw [Zl4];exact v.pos,⟨fun n hn=>?_,fun n hn=>?_⟩,by rw [List.length_map];exact v.len,by unfold Wt at hc;simpa using hc⟩
 .obtain ⟨m,hm,rfl⟩:=List.mem_map.1 hn
  refine ⟨?_,by rw [F.num];exact (v.good.short m hm).2⟩
  unfold Wp
  split
  .split
   .rename_i s hs
    exact (hg _ (Zcc hs)).2
   .exact (v.good.short m hm).1
  .exact (v.good.short m hm).1
 .obtain ⟨m,hm,rfl⟩:=List.mem_map.1 hn
  have:=v.good.sm m hm
  unfold Nd.Sm at this ⊢
  rw [F.op,F.num]
  exact this
end Go.Proofs.YtabcdhcpilpojaaGreatDoor
end
section
set_option maxRecDepth 20000
namespace Go.Proofs.YtabcdhcpilpojaaGreatDoor
open Go Go.Pure
open Go.Virt (Ex Ctx Ty TK)
theorem Acc.call2 {C:Ctx} {S S2:List Nat} {K:Pure.Loc} {h:PH} {g g2 f:Nat} {v v2 w a:PV} {xs ys:List PV} (hA:Acc S K h g v xs) (hB:Acc S2 K h g2 v2 ys) (hK:K.lo=K.base) (Y5:C.raw f=false) (Zt4:Xy C f [a,L g true xs,L g2 true ys] w) (hwb:∀ m,below m 4 w=true) (hw:Ym g 14 w=true) (Wr:Ym g2 14 w=true)
  (h1:Yi a=[]) (h2:refs 3 a=[]):Yu C K f [a,v,v2] h=some (w,h):=by
 have h1':[a].flatMap Yi=[]:=by simp [h1]
 refine Znc Zt4 hwb Y5 ?_ rfl ?_ ?_ ?_
 .have e:=X0 (h:=h) h1'
  simp only [Yw] at e
  simp only [Yw,hA.inl,hB.inl]
  cases hi:Xo h a with
  | none=>rw [hi] at e;cases e
  | some y=>
    rw [hi] at e
    simp only [Option.some.injEq,List.cons.injEq,and_true] at e
    rw [e]
 .simp [h1]
 .simp [h2]
 .rw [List.flatMap_cons,List.flatMap_cons,List.flatMap_cons,h1]
  rcases hA with ⟨rfl,_⟩ | ⟨d,Zg,_,_,rfl,hg⟩<;>rcases hB with ⟨rfl,_⟩ | ⟨d2,Zwx,_,_,rfl,hg2⟩<;>simp_all [can]
theorem Ztd (n:Nd):∀ m,Ym 9 (m+2) (Zy n)=true:=fun m=>by simp [Ym,Zy]
theorem Z58 (t:List Nd) (b:Bool):Ym 9 13 (L 58 b (t.map Zy))=true:=by
 rcases Zsf 58 b (t.map Zy) with ⟨h,_⟩ | ⟨h,_⟩
 .rw [h];rfl
 .rw [h]
  simp only [Ym,Bool.and_eq_true,List.all_eq_true]
  refine ⟨by decide,fun x hx=>?_⟩
  obtain ⟨n,_,rfl⟩:=List.mem_map.1 hx
  exact Ztd n 10
theorem Za5 (t:List Nd) (e:Int):Ym 9 14 (Zl0 (t,e))=true:=by
 simp only [Zl0,Ym,List.all_cons,List.all_nil,Z58,Bool.and_true]
theorem Zky (t:List Nd) (e:Int):∀ m,below m 4 (Zl0 (t,e))=true:=by
 intro m
 simp [Zl0]
end Go.Proofs.YtabcdhcpilpojaaGreatDoor
end
section
set_option maxRecDepth 20000
namespace Go.Proofs.YtabcdhcpilpojaaGreatDoor
open Go Go.Pure
open Go.Virt (Ex Ctx Ty TK)
def P8:List Yp:=V0.map (·.1)
def Q8:List Yp:=(List.range 8).map fun i:Nat=>[110,101,119,33]++R8 (i:Int)
theorem Z4n:Q8=[[110,101,119,33,48],[110,101,119,33,49],[110,101,119,33,50],[110,101,119,33,51],[110,101,119,33,52],[110,101,119,33,53],[110,101,119,33,54],[110,101,119,33,55]]:=by decide +kernel
theorem Zk5:∀ s∈P8,Xs s=true/\s.length<=40:=by unfold P8 V0;decide +kernel
theorem Zax:∀ s∈Q8,Xs s=true/\s.length<=40:=by rw [Z4n];decide +kernel
theorem Z4o:P8.Nodup:=by unfold P8 V0;decide +kernel
theorem Z4m:Q8.Nodup:=by rw [Z4n];decide +kernel
theorem Zo4:∀ v∈V0,∃ s,Um P8 Q8 v.1=some s/\Um Q8 P8 s=some v.1:=by
 have:∀ v∈V0,(Um P8 Q8 v.1).bind (Um Q8 P8)=some v.1:=by rw [Z4n];unfold P8 V0;decide +kernel
 intro v hv
 have:=this v hv
 rw [Option.bind_eq_some_iff] at this
 exact this
theorem Z0j {s:Int} {d N:Nat} {t:List Nd} (h:GT s d N V0 t):(t.map (Wp P8 Q8)).map (Wp Q8 P8)=t:=by
 rw [List.map_map]
 refine (List.map_congr_left fun n hn=>?_).trans (List.map_id _)
 by_cases h4:n.op=4
 .obtain ⟨x,h1,h2⟩:=Zo4 _ ((h.node n hn).2.2.1 h4)
  simp only at h1 h2
  simp only [Function.comp,Wp,h4,if_true,h1,h2,id]
  obtain ⟨op,sort,name,num,kids⟩:=n
  simp_all
 .simp [Wp,h4]
theorem Zl7 {s:Int} {d N:Nat} {t:List Nd} (h:GT s d N V0 t):Wt (Yl (t.map (Wp P8 Q8)))=true:=by
 have F:=Zfi (from':=P8) (to:=Q8) fun s hs=>(Zax s hs).1
 have h5:∀ n∈t.map (Wp P8 Q8),n.op≠5:=by
  intro n hn
  obtain ⟨m,hm,rfl⟩:=List.mem_map.1 hn
  rw [F.op]
  exact (h.node m hm).2.1
 unfold Wt
 rw [decide_eq_true_eq]
 intro u hu v hv he
 obtain ⟨n,n1,n2,rfl⟩:=Ze7 h5 u hu
 obtain ⟨m,m1,m2,rfl⟩:=Ze7 h5 v hv
 obtain ⟨a,ha,rfl⟩:=List.mem_map.1 n1
 obtain ⟨b,hb,rfl⟩:=List.mem_map.1 m1
 rw [F.op] at n2 m2
 have va:=(h.node a ha).2.2.1 n2
 have vb:=(h.node b hb).2.2.1 m2
 obtain ⟨x,x1,x2⟩:=Zo4 _ va
 obtain ⟨y,y1,y2⟩:=Zo4 _ vb
 simp only at x1 x2 y1 y2 he
 have ea:(Wp P8 Q8 a).name=x:=by simp [Wp,n2,x1]
 have eb:(Wp P8 Q8 b).name=y:=by simp [Wp,m2,y1]
 rw [ea,eb] at he
 subst he
 have hn:a.name=b.name:=by rw [x2] at y2;exact Option.some.inj y2
 have:=Zk4 _ va _ vb hn
 simp only [Prod.mk.injEq] at this
 simp [ea,eb,F.sort,this.2]
theorem Zw9 {s:Int} {t:List Nd} (h:GT s 7 418 V0 t):Zc3 t P8 Q8=(t.map (Wp P8 Q8),0):=by
 have hs:=h.sort Zk4 (by omega) (by omega)
 unfold Zc3
 rw [if_neg,if_neg,if_neg,if_pos (Zl7 h)]
 .simpa using Z4o
 .simp only [Decidable.not_not]
  intro s hs
  exact (List.mem_append.1 hs).elim (fun h=>(Zk5 s h).1) (fun h=>(Zax s h).1)
 .rintro (h1 | h1)
  .rw [hs] at h1;have:=h.pos;omega
  .exact h1 rfl
theorem Zxa {s:Int} {t:List Nd} (h:GT s 7 418 V0 t):∃ tr,VT (t.map (Wp P8 Q8)) tr/\Zc3 (t.map (Wp P8 Q8)) Q8 P8=(t,0):=by
 obtain ⟨tr,hv,_⟩:=h.vt Zk4 (by omega) (by omega)
 have v2:=hv.ren (f:=P8) (g:=Q8) (fun s hs=>⟨(Zax s hs).1,by have:=(Zax s hs).2;omega⟩) (Zl7 h)
 refine ⟨_,v2,?_⟩
 unfold Zc3
 rw [if_neg,if_neg,if_neg,Z0j h,if_pos (h.clean Zk4)]
 .simpa using Z4m
 .simp only [Decidable.not_not]
  intro s hs
  exact (List.mem_append.1 hs).elim (fun h=>(Zax s h).1) (fun h=>(Zk5 s h).1)
 .rintro (h1 | h1)
  .rw [v2.sort] at h1;have:=v2.pos;omega
  .exact h1 rfl
theorem Zaep {i:Nat} (h:i < 8):Q8.take (i+1)=Q8.take i++[[110,101,119,33]++R8 (i:Int)]:=by
 rw [U7 Q8 i (by simpa [Q8] using h)]
 simp [Q8]
theorem Zaeq {i:Nat} (h:i < V0.length):P8.take (i+1)=P8.take i++[V0[i].1]:=by
 rw [U7 P8 i (by simpa [P8] using h)]
 simp [P8]
set_option maxHeartbeats 4000000 in
theorem Zab1 (b3:Bool) (l:List Int) (hl:l.length < 2^63):Xy vE 10 [L 3 b3 (l.map (.int .i64))] (.bool true):=by
 have h19:=Zaek
 have h22:=Zaej
 obtain ⟨v1,i1,hv1,Rv,Sw,g1⟩:=Yx (b:=b3) (xs:=l.take 400) (i:=0) (by simp;omega) (by simp) 4 4 rfl (by omega) (by omega)
 obtain ⟨t,i2,Qh,hb2,hT,g2⟩:=Zagu (b:=b3) (xs:=l.take 400) (by simp;omega) (1+v1) (by omega) (by omega) i1 Sw
 intro K H
 refine Zh (fn:=Tryz.f10) rfl Tryz.func10 rfl rfl (by simp) (by simp) ?_ (by simp [*])
 ((try simp (disch:=first|omega|(simp<;>omega)|(simp[*];done)|fail) [*,Ze,Zd,Zc,Tryz.f10]);repeat'(first|refine Z1 fun _=>?_|refine Z2 fun _ _=>?_|refine Z3 (fun _=>?_) fun _ _=>?_|refine Z4 fun _=>?_|refine Z5 fun _=>?_|refine Z6 (fun _=>?_) fun _=>?_|refine Z7 (fun _=>?_) fun _=>?_)<;>(try simp (disch:=first|omega|(simp<;>omega)|(simp[*];done)|fail) [*,Ze,Zd,Zc,Tryz.f10]))
 obtain ⟨Zwy,k1,hc1,S4,hn1,ho1⟩:=Zabg b3 l (by omega) {base:=H.next,lo:=H.next,ok:=[]} {next:=H.next+70,get:=H.get}
 refine Xq.2 ⟨_,hc1,?_⟩
 clear hc1 ho1
 have hV8:V0.length=8:=rfl
 have T8:H.next+70<=H.next+79:=by omega
 simp only at S4 hn1
 generalize hQ:H.next+70+9=Q at *
 have hlQ:H.next+70<=Q:=by omega
 have hq1:∀ d,d<=69->(Q=H.next+d)=False:=fun d hd=>by simp;omega
 have hq2:∀ d,d<=69->(H.next+d=Q)=False:=fun d hd=>by simp;omega
 have hlc:H.next<=Q:=by omega
 have e22:VL V0 false=.lst 69 (V0.map Zes):=rfl
 rw [e22] at h22 g2
 clear e22
 simp only [Int.cast_ofNat_Int] at g2
 ((try simp (disch:=first|omega|(simp<;>omega)|(simp[*];done)|fail) [*,Ze,Zd,Zc]);repeat'(first|refine Z1 fun _=>?_|refine Z2 fun _ _=>?_|refine Z3 (fun _=>?_) fun _ _=>?_|refine Z4 fun _=>?_|refine Z5 fun _=>?_|refine Z6 (fun _=>?_) fun _=>?_|refine Z7 (fun _=>?_) fun _=>?_)<;>(try simp (disch:=first|omega|(simp<;>omega)|(simp[*];done)|fail) [*,Ze,Zd,Zc]))
 have hkn:((k1.put Q Zwy (Uw b3 (List.take 400 l) i1)).put Q Zwy (Uw b3 (List.take 400 l) i2)).next=k1.next:=rfl
 generalize (k1.put Q Zwy (Uw b3 (List.take 400 l) i1)).put Q Zwy (Uw b3 (List.take 400 l) i2)=k2 at *
 clear g1 g2 hq1 hq2 S4
 refine Ya [4,7] (fun n sl h=>∃ (i:Nat) (w5 w6:PV),n=8 - i/\i<=8/\sl 8=some (.int .i64 i)/\sl 5=some w5/\sl 6=some w6/\Acc [35] ⟨H.next,H.next,[]⟩ h 9 w5 ((P8.take i).map .str)/\Acc [41] ⟨H.next,H.next,[]⟩ h 9 w6 ((Q8.take i).map .str)) 8 rfl ⟨0,.nils,.nils,rfl,by omega,by simp,by simp,by simp,Acc.nil,Acc.nil⟩ ?_
 rintro n sl h hf ⟨i,w5,w6,hn,hi,h8,h5,h6,hA,hB⟩
 simp at hf
 by_cases hlt:i < 8
 .have h38:=T6 (i:Int) (by omega) (by omega)
  have hs:=Zak (k:=(i:Int)) (by omega)
  obtain ⟨nm,hnm⟩:∃ nm:Yp,∀ h:i < V0.length,(V0[i]'h).1=nm:=⟨(V0[i]'(by omega)).1,fun _=>rfl⟩
  have hP:=Zaeq (i:=i) (by omega)
  rw [hnm] at hP
  have hQ8:=Zaep hlt
  generalize hx:R8 (i:Int)=x at *
  have hpl:(P8.take i).length<=8:=by simp;omega
  have hql:(Q8.take i).length<=8:=by simp;omega
  generalize P8.take i=p at *
  generalize Q8.take i=q at *
  obtain ⟨w5',h',hap,hA2,Zdo,Zp⟩:=hA.app' (dd:=35) (ys:=[.str nm]) (T:={k:=TK.str,size:=1,bytes:=16,zero:=[Value.string {data:=#[]}]}) (by simp) rfl (by simp;omega) (by decide) (by decide)
  simp only [List.length_singleton] at hap
  have hB2:Acc [41] ⟨H.next,H.next,[]⟩ h' 9 w6 (q.map .str):=hB.frame (by intro d hd;refine Zp _ ?_;simp at hd ⊢;omega)
  obtain ⟨w6',h2,hap2,hB4,Z6u,Zaaf⟩:=hB2.app' (dd:=41) (ys:=[.str ([110,101,119,33]++x)]) (T:={k:=TK.str,size:=1,bytes:=16,zero:=[Value.string {data:=#[]}]}) (by simp) rfl (by simp;omega) (by decide) (by decide)
  simp only [List.length_singleton,List.cons_append,List.nil_append] at hap2
  have hA4:Acc [35] ⟨H.next,H.next,[]⟩ h2 9 w5' (p.map .str++[.str nm]):=hA2.frame (by intro d hd;refine Zaaf _ ?_;simp at hd ⊢;omega)
  have hAf:Acc [35] ⟨H.next,H.next,[]⟩ h2 9 w5' ((P8.take (i+1)).map .str):=by rw [hP];simpa using hA4
  have hBf:Acc [41] ⟨H.next,H.next,[]⟩ h2 9 w6' ((Q8.take (i+1)).map .str):=by rw [hQ8];simpa using hB4
  replace hAf:=Hide.mk hAf
  replace hBf:=Hide.mk hBf
  clear Zp Zaaf hA hB hA2 hB2 hA4 hB4 hP hQ8
  ((try simp (disch:=first|omega|(simp<;>omega)|(simp[*];done)|fail) [*,Ze,Zd,Zc]);repeat'(first|refine Z1 fun _=>?_|refine Z2 fun _ _=>?_|refine Z3 (fun _=>?_) fun _ _=>?_|refine Z4 fun _=>?_|refine Z5 fun _=>?_|refine Z6 (fun _=>?_) fun _=>?_|refine Z7 (fun _=>?_) fun _=>?_)<;>(try simp (disch:=first|omega|(simp<;>omega)|(simp[*];done)|fail) [*,Ze,Zd,Zc]))
  exact ⟨_,by omega,i+1,rfl,by omega,by omega,by simpa using hAf.get,by simpa using hBf.get⟩
 .have ei:i=8:=by omega
  subst ei
  have eP:P8.take 8=P8:=rfl
  have eQ:Q8.take 8=Q8:=rfl
  rw [eP] at hA
  rw [eQ] at hB
  obtain ⟨tr,hv,_⟩:=hT.vt Zk4 (by omega) (by omega)
  obtain ⟨tr2,hv2,hag⟩:=Zxa hT
  have hth:=Zw9 hT
  have hp:∀ s∈P8,s.length < 2^19:=fun s hs=>by have:=(Zk5 s hs).2;omega
  have hq:∀ s∈Q8,s.length < 2^19:=fun s hs=>by have:=(Zax s hs).2;omega
  have a36:=Z4d hv false true true P8 Q8 (by decide) (by decide) hp hq
  have a36':=Z4d hv2 true true true Q8 P8 (by decide) (by decide) hq hp
  rw [hth] at a36
  rw [hag] at a36'
  have c36:=Acc.call2 (C:=vE) hA hB rfl (by rfl) a36 (Zky _ _) (Za5 _ _) (Za5 _ _) (by simp) (by simp)
  have c36':=Acc.call2 (C:=vE) hB hA rfl (by rfl) a36' (Zky _ _) (Za5 _ _) (Za5 _ _) (by simp) (by simp)
  have h18:=Zael false true t t (by have:=hv.len;omega) (by have:=hv.len;omega)
  simp only [Ro,decide_true,Zl0] at c36 c36' h18
  generalize (t.map (Wp P8 Q8)).map Zy=u at *
  clear a36 a36' hp hq hth hag hv hv2 hA hB hT hn hi
  ((try simp (disch:=first|omega|(simp<;>omega)|(simp[*];done)|fail) [*,Ze,Zd,Zc]);repeat'(first|refine Z1 fun _=>?_|refine Z2 fun _ _=>?_|refine Z3 (fun _=>?_) fun _ _=>?_|refine Z4 fun _=>?_|refine Z5 fun _=>?_|refine Z6 (fun _=>?_) fun _=>?_|refine Z7 (fun _=>?_) fun _=>?_)<;>(try simp (disch:=first|omega|(simp<;>omega)|(simp[*];done)|fail) [*,Ze,Zd,Zc]))
end Go.Proofs.YtabcdhcpilpojaaGreatDoor
end
