/- The program's substitutions: lists of names. -/
import Derived.Test.YtabcdhcpilpojaaGreatDoorFE
import Derived.Test.YtabcdhcpilpojaaGreatDoorPD
import Derived.Test.YtabcdhcpilpojaaGreatDoorFC
set_option linter.unusedSimpArgs false
set_option linter.unusedVariables false
section
set_option maxRecDepth 20000
namespace Go.Proofs.YtabcdhcpilpojaaGreatDoor
open Go Go.Pure
open Go.Virt (Ex Ctx Ty TK)
theorem Z5g (s:Yk)(hl:s.length < 2^62):Xr vE 93 [.str s] (.bool (!(Yx s))):=by
 have h:=Z5l s hl;intro K H;refine Zh (fn:=Tryz.f93) rfl Tryz.func93 rfl rfl (by simp) (by simp) ?_ (by simp [*])
 ((try simp (disch:=first|omega|(simp<;>omega)|fail) [*,Ze,Tryz.f93]);repeat'(first|refine Z8 ?_|refine Z9 ?_|refine Z0 ?_|refine Z1 fun _=>?_|refine Z2 fun _ _=>?_|refine Z3 (fun _=>?_) fun _ _=>?_|refine Z4 fun _=>?_|refine Z5 fun _=>?_|refine Z6 (fun _=>?_) fun _=>?_|refine Z7 (fun _=>?_) fun _=>?_)<;>(try simp (disch:=first|omega|(simp<;>omega)|fail) [*,Ze,Tryz.f93]))
theorem Zaaj (b:Bool)(l:List Yk)(hl:l.length < 2^30)(hs:∀ s∈l,s.length < 2^62):∃ r:Int,(0<=r↔l.all Yx=false)/\Xr vE 132 [L 9 b (l.map .str),.fn 93 [] []] (.int .i64 r):=by
 cases hf:l.findIdx? (fun y=>!(Yx y)) with
 | none=>
   have hall:∀ i (h:i < l.length),Yx l[i]=true:=fun i h=>by
    have:=List.findIdx?_eq_none_iff.1 hf l[i] (List.getElem_mem h);simpa using this
   refine ⟨-1,?_,?_⟩
   .have:l.all Yx=true:=by
     rw [List.all_eq_true];intro y hy;obtain ⟨i,h,rfl⟩:=List.getElem_of_mem hy;exact hall i h
    rw [this];simp
   intro K H;refine Zh (fn:=Tryz.f132) rfl Tryz.func132 rfl rfl (by simp) (by simp) ?_ (by simp [*])
   ((try simp (disch:=first|omega|(simp<;>omega)|fail) [*,Ze,Tryz.f132]);repeat'(first|refine Z8 ?_|refine Z9 ?_|refine Z0 ?_|refine Z1 fun _=>?_|refine Z2 fun _ _=>?_|refine Z3 (fun _=>?_) fun _ _=>?_|refine Z4 fun _=>?_|refine Z5 fun _=>?_|refine Z6 (fun _=>?_) fun _=>?_|refine Z7 (fun _=>?_) fun _=>?_)<;>(try simp (disch:=first|omega|(simp<;>omega)|fail) [*,Ze,Tryz.f132]))
   refine Zz [0,1,7] (fun n sl h=>∃ i:Nat,n=l.length - i/\i<=l.length/\sl 8=some (.int .i64 i)) l.length rfl ⟨0,by simp,by simp,by simp⟩ ?_;rintro n sl h hfr ⟨i,hn,hi,h8⟩;simp at hfr;by_cases Zd4:i < l.length
   .have hx:=hall i Zd4;have hc:=Z5g l[i] (hs _ (List.getElem_mem Zd4));rw [hx] at hc;clear hall hf
    ((try simp (disch:=first|omega|(simp<;>omega)|fail) [*,Ze]);repeat'(first|refine Z8 ?_|refine Z9 ?_|refine Z0 ?_|refine Z1 fun _=>?_|refine Z2 fun _ _=>?_|refine Z3 (fun _=>?_) fun _ _=>?_|refine Z4 fun _=>?_|refine Z5 fun _=>?_|refine Z6 (fun _=>?_) fun _=>?_|refine Z7 (fun _=>?_) fun _=>?_)<;>(try simp (disch:=first|omega|(simp<;>omega)|fail) [*,Ze]))
    exact ⟨_,by omega,i+1,rfl,by omega,by omega⟩
   . ((try simp (disch:=first|omega|(simp<;>omega)|fail) [*,Ze]);repeat'(first|refine Z8 ?_|refine Z9 ?_|refine Z0 ?_|refine Z1 fun _=>?_|refine Z2 fun _ _=>?_|refine Z3 (fun _=>?_) fun _ _=>?_|refine Z4 fun _=>?_|refine Z5 fun _=>?_|refine Z6 (fun _=>?_) fun _=>?_|refine Z7 (fun _=>?_) fun _=>?_)<;>(try simp (disch:=first|omega|(simp<;>omega)|fail) [*,Ze]))
 | some k=>
   obtain ⟨hk,Ys,hall⟩:=List.findIdx?_eq_some_iff_getElem.1 hf;refine ⟨k,?_,?_⟩
   .have:l.all Yx=false:=by
     rw [List.all_eq_false];exact ⟨l[k],List.getElem_mem hk,by simpa using Ys⟩
    rw [this];simp
   intro K H;refine Zh (fn:=Tryz.f132) rfl Tryz.func132 rfl rfl (by simp) (by simp) ?_ (by simp [*])
   ((try simp (disch:=first|omega|(simp<;>omega)|fail) [*,Ze,Tryz.f132]);repeat'(first|refine Z8 ?_|refine Z9 ?_|refine Z0 ?_|refine Z1 fun _=>?_|refine Z2 fun _ _=>?_|refine Z3 (fun _=>?_) fun _ _=>?_|refine Z4 fun _=>?_|refine Z5 fun _=>?_|refine Z6 (fun _=>?_) fun _=>?_|refine Z7 (fun _=>?_) fun _=>?_)<;>(try simp (disch:=first|omega|(simp<;>omega)|fail) [*,Ze,Tryz.f132]))
   refine Zz [0,1,7] (fun n sl h=>∃ i:Nat,n=l.length - i/\i<=k/\sl 8=some (.int .i64 i)) l.length rfl ⟨0,by simp,by simp,by simp⟩ ?_;rintro n sl h hfr ⟨i,hn,hi,h8⟩;simp at hfr;have hc:=Z5g l[i] (hs _ (List.getElem_mem _));by_cases hik:i < k
   .have hx:Yx l[i]=true:=by simpa using hall i hik
    rw [hx] at hc;clear hall hf
    ((try simp (disch:=first|omega|(simp<;>omega)|fail) [*,Ze]);repeat'(first|refine Z8 ?_|refine Z9 ?_|refine Z0 ?_|refine Z1 fun _=>?_|refine Z2 fun _ _=>?_|refine Z3 (fun _=>?_) fun _ _=>?_|refine Z4 fun _=>?_|refine Z5 fun _=>?_|refine Z6 (fun _=>?_) fun _=>?_|refine Z7 (fun _=>?_) fun _=>?_)<;>(try simp (disch:=first|omega|(simp<;>omega)|fail) [*,Ze]))
    exact ⟨_,by omega,i+1,rfl,by omega,by omega⟩
   .have e:i=k:=by omega
    subst e;have hx:Yx l[i]=false:=by simpa using Ys
    rw [hx] at hc;clear hall hf
    ((try simp (disch:=first|omega|(simp<;>omega)|fail) [*,Ze]);repeat'(first|refine Z8 ?_|refine Z9 ?_|refine Z0 ?_|refine Z1 fun _=>?_|refine Z2 fun _ _=>?_|refine Z3 (fun _=>?_) fun _ _=>?_|refine Z4 fun _=>?_|refine Z5 fun _=>?_|refine Z6 (fun _=>?_) fun _=>?_|refine Z7 (fun _=>?_) fun _=>?_)<;>(try simp (disch:=first|omega|(simp<;>omega)|fail) [*,Ze]))
theorem Z5f (b:Bool)(l:List Yk)(hl:l.length < 2^30)(hs:∀ s∈l,s.length < 2^62):Xr vE 94 [L 9 b (l.map .str),.fn 93 [] []] (.bool (!(l.all Yx))):=by
 obtain ⟨r,hr,hc⟩:=Zaaj b l hl hs;cases ha:l.all Yx with
 | true=>
   rw [ha] at hr;have hr':¬ 0<=r:=by simpa using hr
   intro K H;refine Zh (fn:=Tryz.f94) rfl Tryz.func94 rfl rfl (by simp) (by simp) ?_ (by simp [*])
   ((try simp (disch:=first|omega|(simp<;>omega)|fail) [*,Ze,Tryz.f94]);repeat'(first|refine Z8 ?_|refine Z9 ?_|refine Z0 ?_|refine Z1 fun _=>?_|refine Z2 fun _ _=>?_|refine Z3 (fun _=>?_) fun _ _=>?_|refine Z4 fun _=>?_|refine Z5 fun _=>?_|refine Z6 (fun _=>?_) fun _=>?_|refine Z7 (fun _=>?_) fun _=>?_)<;>(try simp (disch:=first|omega|(simp<;>omega)|fail) [*,Ze,Tryz.f94]))
 | false=>
   rw [ha] at hr;have hr':0<=r:=hr.2 rfl;intro K H;refine Zh (fn:=Tryz.f94) rfl Tryz.func94 rfl rfl (by simp) (by simp) ?_ (by simp [*])
   ((try simp (disch:=first|omega|(simp<;>omega)|fail) [*,Ze,Tryz.f94]);repeat'(first|refine Z8 ?_|refine Z9 ?_|refine Z0 ?_|refine Z1 fun _=>?_|refine Z2 fun _ _=>?_|refine Z3 (fun _=>?_) fun _ _=>?_|refine Z4 fun _=>?_|refine Z5 fun _=>?_|refine Z6 (fun _=>?_) fun _=>?_|refine Z7 (fun _=>?_) fun _=>?_)<;>(try simp (disch:=first|omega|(simp<;>omega)|fail) [*,Ze,Tryz.f94]))
set_option maxHeartbeats 1000000 in
theorem Zaf4 (b:Bool)(l:List Yk)(hl:l.length < 2^30):Xr vE 51 [L 9 b (l.map .str)] (.bool (!(decide l.Nodup))):=by
 intro K H;refine Zh (fn:=Tryz.f51) rfl Tryz.func51 rfl rfl (by simp) (by simp) ?_ (by simp [*])
 ((try simp (disch:=first|omega|(simp<;>omega)|fail) [*,Ze,Tryz.f51]);repeat'(first|refine Z8 ?_|refine Z9 ?_|refine Z0 ?_|refine Z1 fun _=>?_|refine Z2 fun _ _=>?_|refine Z3 (fun _=>?_) fun _ _=>?_|refine Z4 fun _=>?_|refine Z5 fun _=>?_|refine Z6 (fun _=>?_) fun _=>?_|refine Z7 (fun _=>?_) fun _=>?_)<;>(try simp (disch:=first|omega|(simp<;>omega)|fail) [*,Ze,Tryz.f51]))
 generalize hv6:H.stamp (H.next+6)=v6;refine Zz [3,7,8] (fun n sl h=>∃ i:Nat,n=l.length - i/\i<=l.length/\sl 9=some (.int .i64 i)/\h.get (H.next+6)=some (v6,.map ((l.take i).map fun s=>(PV.str s,PV.bool true)))/\(l.take i).Nodup) l.length rfl ⟨0,by simp,by simp,by simp,by simp [*],by simp⟩ ?_;rintro n sl h hf ⟨i,hn,hi,h9,hg,hnd⟩;simp at hf;by_cases hlt:i < l.length
 .have htk:=Tc l i hlt;have hfs:=Z4m (l.take i) l[i];by_cases hm:l[i]∈l.take i
  .rw [if_pos hm] at hfs
   have hnn:¬ l.Nodup:=fun hN=>by
    have h2:(l.take (i+1)).Nodup:=hN.sublist (List.take_sublist _ _);rw [htk,List.nodup_append] at h2;exact h2.2.2 _ hm _ (by simp) rfl
   have e:decide l.Nodup=false:=by simpa using hnn
   rw [e];generalize l.take i=T at *;clear hnd htk hm
   ((try simp (disch:=first|omega|(simp<;>omega)|fail) [*,Ze]);repeat'(first|refine Z8 ?_|refine Z9 ?_|refine Z0 ?_|refine Z1 fun _=>?_|refine Z2 fun _ _=>?_|refine Z3 (fun _=>?_) fun _ _=>?_|refine Z4 fun _=>?_|refine Z5 fun _=>?_|refine Z6 (fun _=>?_) fun _=>?_|refine Z7 (fun _=>?_) fun _=>?_)<;>(try simp (disch:=first|omega|(simp<;>omega)|fail) [*,Ze]))
  .rw [if_neg hm] at hfs;have Q9:=Z7e (l.take i) l[i] hm
   have hnd2:(l.take (i+1)).Nodup:=by
    rw [htk,List.nodup_append];exact ⟨hnd,by simp,fun a ha b hb e=>by simp at hb;subst hb;exact hm (e ▸ ha)⟩
   have e2:((l.take i++[l[i]]).map fun s=>(PV.str s,PV.bool true))=((l.take (i+1)).map fun s=>(PV.str s,PV.bool true)):=by rw [htk]
   rw [e2] at Q9;replace hnd2:=Hide.mk hnd2;have hT2:∃ T2,l.take (i+1)=T2:=⟨_,rfl⟩
   obtain ⟨T2,hT2⟩:=hT2;rw [hT2] at Q9;replace hT2:=Hide.mk hT2;generalize l.take i=T at *;clear hnd htk hm e2
   ((try simp (disch:=first|omega|(simp<;>omega)|fail) [*,Ze]);repeat'(first|refine Z8 ?_|refine Z9 ?_|refine Z0 ?_|refine Z1 fun _=>?_|refine Z2 fun _ _=>?_|refine Z3 (fun _=>?_) fun _ _=>?_|refine Z4 fun _=>?_|refine Z5 fun _=>?_|refine Z6 (fun _=>?_) fun _=>?_|refine Z7 (fun _=>?_) fun _=>?_)<;>(try simp (disch:=first|omega|(simp<;>omega)|fail) [*,Ze]))
   exact ⟨_,by omega,i+1,rfl,by omega,by omega,by rw [<- List.map_take,hT2.get],hnd2.get⟩
 .have e:i=l.length:=by omega
  subst e;rw [List.take_length] at hnd;have e:decide l.Nodup=true:=by simpa using hnd
  rw [e]
  ((try simp (disch:=first|omega|(simp<;>omega)|fail) [*,Ze]);repeat'(first|refine Z8 ?_|refine Z9 ?_|refine Z0 ?_|refine Z1 fun _=>?_|refine Z2 fun _ _=>?_|refine Z3 (fun _=>?_) fun _ _=>?_|refine Z4 fun _=>?_|refine Z5 fun _=>?_|refine Z6 (fun _=>?_) fun _=>?_|refine Z7 (fun _=>?_) fun _=>?_)<;>(try simp (disch:=first|omega|(simp<;>omega)|fail) [*,Ze]))
end Go.Proofs.YtabcdhcpilpojaaGreatDoor
end
section
set_option maxRecDepth 20000
namespace Go.Proofs.YtabcdhcpilpojaaGreatDoor
open Go Go.Pure
open Go.Virt (Ex Ctx Ty TK)
abbrev Zoo (vs:List Use):PO:=.map (vs.map fun u=>(PV.str u.name,PV.int .i64 u.sort))
abbrev Zoq (fs:List Use):PO:=.map (fs.map fun u=>(PV.str u.name,Xd u))
theorem Zyg (vs:List Use):Yb (Zoo vs)=[]:=by
 simp only [Zoo,Yb,List.flatMap_eq_nil_iff,List.mem_map];rintro x ⟨u,_,rfl⟩;rfl
theorem Zyh (fs:List Use):Yb (Zoq fs)=[]:=by
 simp only [Zoq,Yb,List.flatMap_eq_nil_iff,List.mem_map];rintro x ⟨u,_,rfl⟩;simp [refs]
theorem Ze9 (vs:List Use)(m:Nat):Zs m (Zoo vs)=true:=by
 simp only [Zoo,Zs,List.all_eq_true,List.mem_map];rintro x ⟨u,_,rfl⟩;rfl
theorem Zfa (fs:List Use)(m:Nat):Zs m (Zoq fs)=true:=by
 simp only [Zoq,Zs,List.all_eq_true,List.mem_map];rintro x ⟨u,_,rfl⟩;simp
structure UM (p Zg a va b vb:Nat)(vs fs:List Use)(h:PH):Prop where
 o:h.get p=some (Zg,.cells [.map a va,.map b vb])
 v:h.get a=some (va,Zoo vs)
 f:h.get b=some (vb,Zoq fs)
 pa:p≠a
 pb:p≠b
 ab:a≠b
 lp:p < h.next
 la:a < h.next
 lb:b < h.next
theorem UM.reach {p Zg a va b vb:Nat}{vs fs:List Use}{h:PH}(U:UM p Zg a va b vb vs fs h):Pure.reach h 4 [p]=[p,a,b]:=by
 have h1:List.flatMap (fun e:PV×PV=>refs 3 e.2) (vs.map fun u=>(PV.str u.name,PV.int .i64 u.sort))=[]:=Zyg vs;have h2:List.flatMap (fun e:PV×PV=>refs 3 e.2) (fs.map fun u=>(PV.str u.name,Xd u))=[]:=Zyh fs;simp only [Pure.reach,List.flatMap_cons,List.flatMap_nil,U.o,List.append_nil];simp only [Pure.reach,Yb,U.v,U.f,h1,h2,refs,List.flatMap_cons,List.flatMap_nil,List.append_nil,List.cons_append,List.nil_append]
theorem Z7l (K:Pure.Loc)(H:PH):∃ Zg va vb h',Yv vE K 53 [] H=some (.ptr (H.next+4) Zg 0,h')/\UM (H.next+4) Zg (H.next+1) va (H.next+2) vb [] [] h'/\∀ j,j < H.next->h'.get j=H.get j:=by
 obtain ⟨w,h',h1,Zg,va,vb,rfl,h2⟩:=Zfj (C:=vE) (K:=K) (f:=53) (args:=[]) (h:=H) (ok:=[]) (fn:=Tryz.f53) (R:=fun w h'=>∃ Zg va vb,w=.ptr (H.next+4) Zg 0/\UM (H.next+4) Zg (H.next+1) va (H.next+2) vb [] [] h'/\∀ j,j < H.next->h'.get j=H.get j) Tryz.func53 rfl rfl rfl (by simp) (by simp [Pure.reach]) (by simp) (by
  ((try simp (disch:=first|omega|(simp<;>omega)|(simp[*];done)|fail) [*,Ze,Zd,Zc,Tryz.f53]);repeat'(first|refine Z1 fun _=>?_|refine Z2 fun _ _=>?_|refine Z3 (fun _=>?_) fun _ _=>?_|refine Z4 fun _=>?_|refine Z5 fun _=>?_|refine Z6 (fun _=>?_) fun _=>?_|refine Z7 (fun _=>?_) fun _=>?_)<;>(try simp (disch:=first|omega|(simp<;>omega)|(simp[*];done)|fail) [*,Ze,Zd,Zc,Tryz.f53]))
  exact ⟨by rw [<- Bool.not_eq_true,Nat.blt_eq];omega,⟨H.stamp (H.next+1),H.stamp (H.next+2),by simp,by simp,by simp,by omega,by omega,by omega,by simp,by simp,by simp⟩,fun j hj=>by simp [show j≠H.next+1 by omega,show j≠H.next+2 by omega,show j≠H.next+4 by omega]⟩)
 exact ⟨Zg,va,vb,h',h1,h2⟩
theorem UM.can {K:Pure.Loc}{p Zg a va b vb:Nat}{vs fs:List Use}{h:PH}(U:UM p Zg a va b vb vs fs h)(hp:can K p=true)(ha:can K a=true)(hb:can K b=true):[p,a,b].all (fun i=>can K i&&(h.get i).isSome)=true:=by
 simp only [List.all_cons,List.all_nil,hp,ha,hb,U.o,U.v,U.f,Option.isSome_some,Bool.and_self]
theorem UM.belowP {p Zg a va b vb:Nat}{vs fs:List Use}{h:PH}(U:UM p Zg a va b vb vs fs h):h.belowAt h.next p=true:=by
 simp [PH.belowAt,U.o,Zs,U.la,U.lb]
theorem Zso (es:List Use)(x:Yk):Vf (es.map fun u=>(PV.str u.name,PV.int .i64 u.sort)) (.str x)=some ((es.find? (fun u=>u.name==x)).map fun u=>PV.int .i64 u.sort):=Zc2 (fun u=>PV.int .i64 u.sort) es x
theorem Z7d (es:List Use)(u:Use)(h:∀ v∈es,v.name≠u.name):V8 (es.map fun u=>(PV.str u.name,PV.int .i64 u.sort)) (.str u.name) (.int .i64 u.sort)=some ((es++[u]).map fun u=>(PV.str u.name,PV.int .i64 u.sort)):=Zi9 (fun u=>PV.int .i64 u.sort) es u h
def Q0 (vs fs:List Use)(x:Yk)(s:Int):Bool×List Use:=
 if (fs.find? (fun u=>u.name==x)).isSome then (false,vs) else match vs.find? (fun u=>u.name==x) with
  | some v=>(v.sort==s,vs)
  | none=>(true,vs++[⟨false,x,[],s⟩])
set_option maxHeartbeats 1000000 in
theorem Z49 {p Zg a va b vb:Nat}{vs fs:List Use}{h:PH}(U:UM p Zg a va b vb vs fs h)(x:Yk)(s:Int)(K:Pure.Loc)(hp:can K p=true)(ha:can K a=true)(hb:can K b=true):Yv vE K 105 [.ptr p Zg 0,.str x,.int .i64 s] h=some (.bool (Q0 vs fs x s).1,(h.put a va (Zoo (Q0 vs fs x s).2)).put b vb (Zoq fs)):=by
 have W1:=Yf U.lp;have had:=Yf U.la;have hbd:=Yf U.lb;have hfv:=Zso vs x;have hff:=Zc2 Xd fs x;have g1:=U.o;have g2:=U.v;have g3:=U.f;have Zy5:(p=a)=False:=by simp [U.pa]
 have Zur:(p=b)=False:=by simp [U.pb]
 have hne3:(b=a)=False:=by simp [Ne.symm U.ab]
 have hne4:(a=b)=False:=by simp [U.ab]
 have hne5:(a=p)=False:=by simp [Ne.symm U.pa]
 have hne6:(b=p)=False:=by simp [Ne.symm U.pb]
 refine Zqe (fn:=Tryz.f105) Tryz.func105 rfl rfl rfl (by simp) (by simpa using U.reach) (U.can hp ha hb) U.belowP ?_ (by simp) (Ze9 _ _) (Zfa _ _);unfold Q0;cases hf:fs.find? (fun u=>u.name==x) with
 | some f=>
   rw [hf] at hff;simp only [Option.map_some,Option.isSome_some,if_true] at hff ⊢
   ((try simp (disch:=first|omega|(simp<;>omega)|(simp[*];done)|fail) [*,Ze,Zd,Zc,Tryz.f105,Zf U.lp,Zf U.la,Zf U.lb]);repeat'(first|refine Z1 fun _=>?_|refine Z2 fun _ _=>?_|refine Z3 (fun _=>?_) fun _ _=>?_|refine Z4 fun _=>?_|refine Z5 fun _=>?_|refine Z6 (fun _=>?_) fun _=>?_|refine Z7 (fun _=>?_) fun _=>?_)<;>(try simp (disch:=first|omega|(simp<;>omega)|(simp[*];done)|fail) [*,Ze,Zd,Zc,Tryz.f105,Zf U.lp,Zf U.la,Zf U.lb]))
 | none=>
   rw [hf] at hff;cases hv:vs.find? (fun u=>u.name==x) with
   | some v=>
     rw [hv] at hfv;simp only [Option.map_some,Option.map_none,Option.isSome_none,Bool.false_eq_true,if_false] at hff hfv ⊢
     ((try simp (disch:=first|omega|(simp<;>omega)|(simp[*];done)|fail) [*,Ze,Zd,Zc,Tryz.f105,Zf U.lp,Zf U.la,Zf U.lb]);repeat'(first|refine Z1 fun _=>?_|refine Z2 fun _ _=>?_|refine Z3 (fun _=>?_) fun _ _=>?_|refine Z4 fun _=>?_|refine Z5 fun _=>?_|refine Z6 (fun _=>?_) fun _=>?_|refine Z7 (fun _=>?_) fun _=>?_)<;>(try simp (disch:=first|omega|(simp<;>omega)|(simp[*];done)|fail) [*,Ze,Zd,Zc,Tryz.f105,Zf U.lp,Zf U.la,Zf U.lb]))
   | none=>
     rw [hv] at hfv;have hpm:=Z7d vs ⟨false,x,[],s⟩ (fun v h=>V3 hv v h);simp only [Option.map_some,Option.map_none,Option.isSome_none,Bool.false_eq_true,if_false] at hff hfv hpm ⊢
     ((try simp (disch:=first|omega|(simp<;>omega)|(simp[*];done)|fail) [*,Ze,Zd,Zc,Tryz.f105,Zf U.lp,Zf U.la,Zf U.lb]);repeat'(first|refine Z1 fun _=>?_|refine Z2 fun _ _=>?_|refine Z3 (fun _=>?_) fun _ _=>?_|refine Z4 fun _=>?_|refine Z5 fun _=>?_|refine Z6 (fun _=>?_) fun _=>?_|refine Z7 (fun _=>?_) fun _=>?_)<;>(try simp (disch:=first|omega|(simp<;>omega)|(simp[*];done)|fail) [*,Ze,Zd,Zc,Tryz.f105,Zf U.lp,Zf U.la,Zf U.lb]))
def Zaj (vs fs:List Use)(u:Use):Bool×List Use:=
 if (vs.find? (fun v=>v.name==u.name)).isSome then (false,fs) else match fs.find? (fun v=>v.name==u.name) with
  | some g=>(g.sort==u.sort&&g.args==u.args,fs)
  | none=>(true,fs++[u])
set_option maxHeartbeats 1000000 in
theorem Z48 {p Zg a va b vb:Nat}{vs fs:List Use}{h:PH}(U:UM p Zg a va b vb vs fs h)(u:Use)(hu:u.args.length < 2^30)(Tk:∀ g∈fs,g.args.length < 2^30)(K:Pure.Loc)(hp:can K p=true)(ha:can K a=true)(hb:can K b=true):Yv vE K 106 [.ptr p Zg 0,Xd u] h=some (.bool (Zaj vs fs u).1,(h.put a va (Zoo vs)).put b vb (Zoq (Zaj vs fs u).2)):=by
 have W1:=Yf U.lp;have had:=Yf U.la;have hbd:=Yf U.lb;have hfv:=Zso vs u.name;have hff:=Zc2 Xd fs u.name;have g1:=U.o;have g2:=U.v;have g3:=U.f;have Zy5:(p=a)=False:=by simp [U.pa]
 have Zur:(p=b)=False:=by simp [U.pb]
 have hne3:(b=a)=False:=by simp [Ne.symm U.ab]
 have hne4:(a=b)=False:=by simp [U.ab]
 have hne5:(a=p)=False:=by simp [Ne.symm U.pa]
 have hne6:(b=p)=False:=by simp [Ne.symm U.pb]
 refine Zqe (fn:=Tryz.f106) Tryz.func106 rfl rfl rfl (by simp) (by simpa using U.reach) (U.can hp ha hb) U.belowP ?_ (by simp) (Ze9 _ _) (Zfa _ _);unfold Zaj;cases hf:vs.find? (fun v=>v.name==u.name) with
 | some f=>
   rw [hf] at hfv;simp only [Option.map_some,Option.isSome_some,if_true] at hfv ⊢
   ((try simp (disch:=first|omega|(simp<;>omega)|(simp[*];done)|fail) [*,Ze,Zd,Zc,Tryz.f106,Zf U.lp,Zf U.la,Zf U.lb]);repeat'(first|refine Z1 fun _=>?_|refine Z2 fun _ _=>?_|refine Z3 (fun _=>?_) fun _ _=>?_|refine Z4 fun _=>?_|refine Z5 fun _=>?_|refine Z6 (fun _=>?_) fun _=>?_|refine Z7 (fun _=>?_) fun _=>?_)<;>(try simp (disch:=first|omega|(simp<;>omega)|(simp[*];done)|fail) [*,Ze,Zd,Zc,Tryz.f106,Zf U.lp,Zf U.la,Zf U.lb]))
   refine Wm false false [] [] [] [] false (by decide +kernel) ?_
   ((try simp (disch:=first|omega|(simp<;>omega)|(simp[*];done)|fail) [*,Ze,Zd,Zc,Zf U.lp,Zf U.la,Zf U.lb]);repeat'(first|refine Z1 fun _=>?_|refine Z2 fun _ _=>?_|refine Z3 (fun _=>?_) fun _ _=>?_|refine Z4 fun _=>?_|refine Z5 fun _=>?_|refine Z6 (fun _=>?_) fun _=>?_|refine Z7 (fun _=>?_) fun _=>?_)<;>(try simp (disch:=first|omega|(simp<;>omega)|(simp[*];done)|fail) [*,Ze,Zd,Zc,Zf U.lp,Zf U.la,Zf U.lb]))
 | none=>
   rw [hf] at hfv;cases hv:fs.find? (fun v=>v.name==u.name) with
   | some g=>
     rw [hv] at hff;have hgl:=Tk g (Ut hv).1;have h137:=Zxm true true g.args u.args (by omega) (by omega);simp only [Option.map_some,Option.map_none,Option.isSome_none,Bool.false_eq_true,if_false] at hff hfv ⊢
     ((try simp (disch:=first|omega|(simp<;>omega)|(simp[*];done)|fail) [*,Ze,Zd,Zc,Tryz.f106,Zf U.lp,Zf U.la,Zf U.lb]);repeat'(first|refine Z1 fun _=>?_|refine Z2 fun _ _=>?_|refine Z3 (fun _=>?_) fun _ _=>?_|refine Z4 fun _=>?_|refine Z5 fun _=>?_|refine Z6 (fun _=>?_) fun _=>?_|refine Z7 (fun _=>?_) fun _=>?_)<;>(try simp (disch:=first|omega|(simp<;>omega)|(simp[*];done)|fail) [*,Ze,Zd,Zc,Tryz.f106,Zf U.lp,Zf U.la,Zf U.lb]))
     refine Wm false false [] [] [] [] false (by decide +kernel) ?_
     ((try simp (disch:=first|omega|(simp<;>omega)|(simp[*];done)|fail) [*,Ze,Zd,Zc,Zf U.lp,Zf U.la,Zf U.lb]);repeat'(first|refine Z1 fun _=>?_|refine Z2 fun _ _=>?_|refine Z3 (fun _=>?_) fun _ _=>?_|refine Z4 fun _=>?_|refine Z5 fun _=>?_|refine Z6 (fun _=>?_) fun _=>?_|refine Z7 (fun _=>?_) fun _=>?_)<;>(try simp (disch:=first|omega|(simp<;>omega)|(simp[*];done)|fail) [*,Ze,Zd,Zc,Zf U.lp,Zf U.la,Zf U.lb]))
     refine Wm false false [] [] [] [] false (by decide +kernel) ?_
     ((try simp (disch:=first|omega|(simp<;>omega)|(simp[*];done)|fail) [*,Ze,Zd,Zc,Zf U.lp,Zf U.la,Zf U.lb]);repeat'(first|refine Z1 fun _=>?_|refine Z2 fun _ _=>?_|refine Z3 (fun _=>?_) fun _ _=>?_|refine Z4 fun _=>?_|refine Z5 fun _=>?_|refine Z6 (fun _=>?_) fun _=>?_|refine Z7 (fun _=>?_) fun _=>?_)<;>(try simp (disch:=first|omega|(simp<;>omega)|(simp[*];done)|fail) [*,Ze,Zd,Zc,Zf U.lp,Zf U.la,Zf U.lb]))
   | none=>
     rw [hv] at hff;have hpm:=Zi9 Xd fs u (fun v h=>V3 hv v h);simp only [Option.map_some,Option.map_none,Option.isSome_none,Bool.false_eq_true,if_false] at hff hfv hpm ⊢
     ((try simp (disch:=first|omega|(simp<;>omega)|(simp[*];done)|fail) [*,Ze,Zd,Zc,Tryz.f106,Zf U.lp,Zf U.la,Zf U.lb]);repeat'(first|refine Z1 fun _=>?_|refine Z2 fun _ _=>?_|refine Z3 (fun _=>?_) fun _ _=>?_|refine Z4 fun _=>?_|refine Z5 fun _=>?_|refine Z6 (fun _=>?_) fun _=>?_|refine Z7 (fun _=>?_) fun _=>?_)<;>(try simp (disch:=first|omega|(simp<;>omega)|(simp[*];done)|fail) [*,Ze,Zd,Zc,Tryz.f106,Zf U.lp,Zf U.la,Zf U.lb]))
     refine Wm false false [] [] [] [] false (by decide +kernel) ?_
     ((try simp (disch:=first|omega|(simp<;>omega)|(simp[*];done)|fail) [*,Ze,Zd,Zc,Zf U.lp,Zf U.la,Zf U.lb]);repeat'(first|refine Z1 fun _=>?_|refine Z2 fun _ _=>?_|refine Z3 (fun _=>?_) fun _ _=>?_|refine Z4 fun _=>?_|refine Z5 fun _=>?_|refine Z6 (fun _=>?_) fun _=>?_|refine Z7 (fun _=>?_) fun _=>?_)<;>(try simp (disch:=first|omega|(simp<;>omega)|(simp[*];done)|fail) [*,Ze,Zd,Zc,Zf U.lp,Zf U.la,Zf U.lb]))
     refine Wm false false [] [] [] [] false (by decide +kernel) ?_
     ((try simp (disch:=first|omega|(simp<;>omega)|(simp[*];done)|fail) [*,Ze,Zd,Zc,Zf U.lp,Zf U.la,Zf U.lb]);repeat'(first|refine Z1 fun _=>?_|refine Z2 fun _ _=>?_|refine Z3 (fun _=>?_) fun _ _=>?_|refine Z4 fun _=>?_|refine Z5 fun _=>?_|refine Z6 (fun _=>?_) fun _=>?_|refine Z7 (fun _=>?_) fun _=>?_)<;>(try simp (disch:=first|omega|(simp<;>omega)|(simp[*];done)|fail) [*,Ze,Zd,Zc,Zf U.lp,Zf U.la,Zf U.lb]))
     refine Wm false false [] [] [] [] false (by decide +kernel) ?_
     ((try simp (disch:=first|omega|(simp<;>omega)|(simp[*];done)|fail) [*,Ze,Zd,Zc,Zf U.lp,Zf U.la,Zf U.lb]);repeat'(first|refine Z1 fun _=>?_|refine Z2 fun _ _=>?_|refine Z3 (fun _=>?_) fun _ _=>?_|refine Z4 fun _=>?_|refine Z5 fun _=>?_|refine Z6 (fun _=>?_) fun _=>?_|refine Z7 (fun _=>?_) fun _=>?_)<;>(try simp (disch:=first|omega|(simp<;>omega)|(simp[*];done)|fail) [*,Ze,Zd,Zc,Zf U.lp,Zf U.la,Zf U.lb]))
end Go.Proofs.YtabcdhcpilpojaaGreatDoor
end
section
set_option maxRecDepth 20000
namespace Go.Proofs.YtabcdhcpilpojaaGreatDoor
open Go Go.Pure
open Go.Virt (Ex Ctx Ty TK)
theorem Z46 (u:Use)(op sort kids:Int)(name num:Yk)(K:Pure.Loc)(H:PH)(p Zg:Nat)(Zt:can K p=true)(hlt:p < H.next)(hp:H.get p=some (Zg,.cells [.int .i64 op,.int .i64 sort,.str name,.str num,.int .i64 kids])):Yv vE K 108 [Xd u,.ptr p Zg 0] H=some (.bool (u.name==name),H):=by
 refine Vu (ok:=[p]) (fn:=Tryz.f108) Tryz.func108 rfl rfl rfl (by simp) (by simp [reach,hp,Yb]) (Zdk Zt hp) (by simpa using hlt) (by simp [PH.belowAt,hp,Zs]) ?_ (by simp);have W1:=Yf hlt
 ((try simp (disch:=first|omega|(simp<;>omega)|(simp[*];done)|fail) [*,Ze,Zd,Zc,Tryz.f108,Zf hlt]);repeat'(first|refine Z1 fun _=>?_|refine Z2 fun _ _=>?_|refine Z3 (fun _=>?_) fun _ _=>?_|refine Z4 fun _=>?_|refine Z5 fun _=>?_|refine Z6 (fun _=>?_) fun _=>?_|refine Z7 (fun _=>?_) fun _=>?_)<;>(try simp (disch:=first|omega|(simp<;>omega)|(simp[*];done)|fail) [*,Ze,Zd,Zc,Tryz.f108,Zf hlt]))
theorem Z47 (l:List Use)(k:Nat)(op sort kids:Int)(name num:Yk)(hk:l.findIdx? (fun u=>u.name==name)=some k)(hl:l.length < 2^30)(K:Pure.Loc)(H:PH)(p Zg:Nat)(Zt:can K p=true)(hlt:p < H.next)(hp:H.get p=some (Zg,.cells [.int .i64 op,.int .i64 sort,.str name,.str num,.int .i64 kids])):Yv vE K 107 [L 155 true (l.map Xd),.fn 108 [] [.ptr p Zg 0]] H=some (.int .i64 k,H):=by
 obtain ⟨hkl,Ys,hall⟩:=List.findIdx?_eq_some_iff_getElem.1 hk;refine Vu (ok:=[p]) (fn:=Tryz.f107) Tryz.func107 rfl rfl rfl (by simp) (by simp [reach,hp,Yb]) (Zdk Zt hp) (by simpa using hlt) (by simp [PH.belowAt,hp,Zs]) ?_ (by simp);have W1:=Yf hlt
 ((try simp (disch:=first|omega|(simp<;>omega)|(simp[*];done)|fail) [*,Ze,Zd,Zc,Tryz.f107,Zf hlt]);repeat'(first|refine Z1 fun _=>?_|refine Z2 fun _ _=>?_|refine Z3 (fun _=>?_) fun _ _=>?_|refine Z4 fun _=>?_|refine Z5 fun _=>?_|refine Z6 (fun _=>?_) fun _=>?_|refine Z7 (fun _=>?_) fun _=>?_)<;>(try simp (disch:=first|omega|(simp<;>omega)|(simp[*];done)|fail) [*,Ze,Zd,Zc,Tryz.f107,Zf hlt]))
 refine Zz [0,1,7] (fun n sl h=>∃ i:Nat,n=l.length - i/\i<=k/\sl 8=some (.int .i64 i)/\h={H with next:=H.next+19}) l.length rfl ⟨0,by simp,by simp,by simp,rfl⟩ ?_;rintro n sl h hfr ⟨i,hn,hi,h8,rfl⟩;simp at hfr;have hil:i < l.length:=by omega
 have hc:=Z46 l[i] op sort kids name num {base:=H.next,lo:=H.next,ok:=[p]} {H with next:=H.next+19} p Zg (by simp) (by simp;omega) hp;by_cases hik:i < k
 .have hx:(l[i].name==name)=false:=by
   have:=hall i hik;simpa using this
  rw [hx] at hc;clear hall hk
  ((try simp (disch:=first|omega|(simp<;>omega)|(simp[*];done)|fail) [*,Ze,Zd,Zc,Zf hlt]);repeat'(first|refine Z1 fun _=>?_|refine Z2 fun _ _=>?_|refine Z3 (fun _=>?_) fun _ _=>?_|refine Z4 fun _=>?_|refine Z5 fun _=>?_|refine Z6 (fun _=>?_) fun _=>?_|refine Z7 (fun _=>?_) fun _=>?_)<;>(try simp (disch:=first|omega|(simp<;>omega)|(simp[*];done)|fail) [*,Ze,Zd,Zc,Zf hlt]))
  exact ⟨_,by omega,i+1,rfl,by omega,by omega⟩
 .have e:i=k:=by omega
  subst e;rw [Ys] at hc;clear hall hk
  ((try simp (disch:=first|omega|(simp<;>omega)|(simp[*];done)|fail) [*,Ze,Zd,Zc,Zf hlt]);repeat'(first|refine Z1 fun _=>?_|refine Z2 fun _ _=>?_|refine Z3 (fun _=>?_) fun _ _=>?_|refine Z4 fun _=>?_|refine Z5 fun _=>?_|refine Z6 (fun _=>?_) fun _=>?_|refine Z7 (fun _=>?_) fun _=>?_)<;>(try simp (disch:=first|omega|(simp<;>omega)|(simp[*];done)|fail) [*,Ze,Zd,Zc,Zf hlt]))
theorem UM.frame {p Zg a va b vb:Nat}{vs fs:List Use}{h h2:PH}(U:UM p Zg a va b vb vs fs h)(hp:h2.get p=h.get p)(ha:h2.get a=h.get a)(hb:h2.get b=h.get b)(hn:h.next<=h2.next):UM p Zg a va b vb vs fs h2:=⟨hp.trans U.o,ha.trans U.v,hb.trans U.f,U.pa,U.pb,U.ab,Nat.lt_of_lt_of_le U.lp hn,Nat.lt_of_lt_of_le U.la hn,Nat.lt_of_lt_of_le U.lb hn⟩
theorem UM.put {p Zg a va b vb:Nat}{vs fs:List Use}{h:PH}(U:UM p Zg a va b vb vs fs h)(Rk fs':List Use):UM p Zg a va b vb Rk fs' ((h.put a va (Zoo Rk)).put b vb (Zoq fs')):=by
 have h1:=U.pa;have h2:=U.pb;have h3:=U.ab;exact ⟨by simp [h1,h2,U.o],by simp [h3],by simp,U.pa,U.pb,U.ab,U.lp,U.la,U.lb⟩
def Zbc:List Use->List Use->List Use->Bool×List Use×List Use
 | vs,fs,[]=>(true,vs,fs)
 | vs,fs,u::r=>if u.fn then (if (Zaj vs fs u).1 then Zbc vs (Zaj vs fs u).2 r else (false,vs,(Zaj vs fs u).2)) else (if (Q0 vs fs u.name u.sort).1 then Zbc (Q0 vs fs u.name u.sort).2 fs r else (false,(Q0 vs fs u.name u.sort).2,fs))
def Z53 (out:List Nd)(l:List Use):Prop:=∀ i (h:i < out.length),out[i].op=5->∃ k,∃ hk:k < l.length,l.findIdx? (fun u=>u.name==out[i].name)=some k/\Wh out[i] (out.drop (i+1))=[l[k]]/\l[k].fn=true
set_option maxHeartbeats 4000000 in
theorem Z9c (out:List Nd)(bo:Bool)(l:List Use)(hkn:Z53 out l)(hol:out.length < 2^29)(To:l.length < 2^29)(hla:∀ g∈l,g.args.length < 2^30){p Zg a va b vb:Nat}{vs0 fs0:List Use}{h:PH}(hf0:∀ g∈fs0,g.args.length < 2^30)(U:UM p Zg a va b vb vs0 fs0 h)(c:Code)(hc:Tryz.f56.body=some c):
  wp (W5 vE {base:=h.next,lo:=h.next,ok:=[p,a,b]} true c (Sh 0 [.ptr p Zg 0,L 58 bo (out.map Zu),L 155 true (l.map Xd)]) {h with next:=h.next+Tryz.f56.ntmps}) fun r=>(r.1=.normal\/r.1=.ret)/\wp (Uq vE r.2.1 r.2.2 Tryz.f56.results.toList) fun vs=>
   inlT r.2.2 (Wk vs)=some (.bool (Zbc vs0 fs0 (Yc out)).1)/\ownT (Wk vs)=[]/\r.2.2.get p=h.get p/\r.2.2.get a=some (va,Zoo (Zbc vs0 fs0 (Yc out)).2.1)/\r.2.2.get b=some (vb,Zoq (Zbc vs0 fs0 (Yc out)).2.2):=by
 have W1:=Yf U.lp;have had:=Yf U.la;have hbd:=Yf U.lb;have Zy5:(p=a)=False:=by simp [U.pa]
 have Zur:(p=b)=False:=by simp [U.pb]
 injection hc with hc
 subst hc
 ((try simp (disch:=first|omega|(simp<;>omega)|(simp[*];done)|fail) [*,Ze,Zd,Zc,Tryz.f56,Zf U.lp,Zf U.la,Zf U.lb]);repeat'(first|refine Z1 fun _=>?_|refine Z2 fun _ _=>?_|refine Z3 (fun _=>?_) fun _ _=>?_|refine Z4 fun _=>?_|refine Z5 fun _=>?_|refine Z6 (fun _=>?_) fun _=>?_|refine Z7 (fun _=>?_) fun _=>?_)<;>(try simp (disch:=first|omega|(simp<;>omega)|(simp[*];done)|fail) [*,Ze,Zd,Zc,Tryz.f56,Zf U.lp,Zf U.la,Zf U.lb]))
 refine Zz [0,2,10,11] (fun n sl h'=>∃ (i:Nat) (vs fs:List Use),n=out.length - i/\i<=out.length/\sl 12=some (.int .i64 i)/\Zbc vs0 fs0 (Yc out)=Zbc vs fs (Yc (out.drop i))/\UM p Zg a va b vb vs fs h'/\(∀ g∈fs,g.args.length < 2^30)/\h.next+40<=h'.next/\h'.get p=h.get p) out.length rfl ⟨0,vs0,fs0,by simp,by simp,by simp,by simp,⟨U.o,U.v,U.f,U.pa,U.pb,U.ab,by simp;have:=U.lp;omega,by simp;have:=U.la;omega,by simp;have:=U.lb;omega⟩,hf0,by simp,rfl⟩ ?_;rintro n sl h' hf ⟨i,vs,fs,hn,hi,h12,Xp,U',Tk,Rg,hgp⟩;simp at hf;by_cases hlt:i < out.length
 .rw [R0 hlt] at Xp;have Zy9:=hkn i hlt;generalize hti:out[i]=nn at *;obtain ⟨op,sort,name,num,kids⟩:=nn;by_cases h4:op=4
  .subst h4;have hu:Wh (⟨4,sort,name,num,kids⟩:Nd) (out.drop (i+1))=[⟨false,name,[],sort⟩]:=by simp [Wh]
   rw [hu] at Xp;simp only [List.singleton_append,Zbc,Bool.false_eq_true,if_false] at Xp;have Z8y:=fun (h2:PH) (U2:UM p Zg a va b vb vs fs h2) (K:Pure.Loc) (a1:can K p=true) (a2:can K a=true) (a3:can K b=true)=>Z49 U2 name sort K a1 a2 a3
   generalize Xl:Q0 vs fs name sort=st at *;obtain ⟨okk,vs2⟩:=st;simp only at Xp Z8y
   ((try simp (disch:=first|omega|(simp<;>omega)|(simp[*];done)|fail) [*,Ze,Zd,Zc,Zf U.lp,Zf U.la,Zf U.lb]);repeat'(first|refine Z1 fun _=>?_|refine Z2 fun _ _=>?_|refine Z3 (fun _=>?_) fun _ _=>?_|refine Z4 fun _=>?_|refine Z5 fun _=>?_|refine Z6 (fun _=>?_) fun _=>?_|refine Z7 (fun _=>?_) fun _=>?_)<;>(try simp (disch:=first|omega|(simp<;>omega)|(simp[*];done)|fail) [*,Ze,Zd,Zc,Zf U.lp,Zf U.la,Zf U.lb]))
   rw [Z8y _ (U'.frame (by simp [W1]) (by simp [had]) (by simp [hbd]) (by simp)) _ (by simp) (by simp) (by simp)];have U2:=(U'.frame (h2:=(h'.put (h.next+8) (h'.stamp (h.next+8)) (.cells [.int .i64 4,.int .i64 sort,.str name,.str num,.int .i64 kids]))) (by simp [W1]) (by simp [had]) (by simp [hbd]) (by simp)).put vs2 fs;cases okk with
   | true=>
     simp only [if_true] at Xp;clear Z8y Zy9 hkn U2
     ((try simp (disch:=first|omega|(simp<;>omega)|(simp[*];done)|fail) [*,Ze,Zd,Zc,Zf U.lp,Zf U.la,Zf U.lb]);repeat'(first|refine Z1 fun _=>?_|refine Z2 fun _ _=>?_|refine Z3 (fun _=>?_) fun _ _=>?_|refine Z4 fun _=>?_|refine Z5 fun _=>?_|refine Z6 (fun _=>?_) fun _=>?_|refine Z7 (fun _=>?_) fun _=>?_)<;>(try simp (disch:=first|omega|(simp<;>omega)|(simp[*];done)|fail) [*,Ze,Zd,Zc,Zf U.lp,Zf U.la,Zf U.lb]))
     exact ⟨_,by omega,i+1,rfl,by omega,by omega,vs2,fs,rfl,(U'.frame (by simp [W1]) (by simp [had]) (by simp [hbd]) (by simp)).put vs2 fs,Tk⟩
   | false=>
     simp only [Bool.false_eq_true,if_false] at Xp;rw [Xp];clear Z8y Zy9 hkn U2
     ((try simp (disch:=first|omega|(simp<;>omega)|(simp[*];done)|fail) [*,Ze,Zd,Zc,Zf U.lp,Zf U.la,Zf U.lb]);repeat'(first|refine Z1 fun _=>?_|refine Z2 fun _ _=>?_|refine Z3 (fun _=>?_) fun _ _=>?_|refine Z4 fun _=>?_|refine Z5 fun _=>?_|refine Z6 (fun _=>?_) fun _=>?_|refine Z7 (fun _=>?_) fun _=>?_)<;>(try simp (disch:=first|omega|(simp<;>omega)|(simp[*];done)|fail) [*,Ze,Zd,Zc,Zf U.lp,Zf U.la,Zf U.lb]))
     simp [Zy5,Zur,U.ab]
  .by_cases h5:op=5
   .subst h5;obtain ⟨k,hkl,hfi,hus,Rc⟩:=Zy9 rfl;simp only at hfi;rw [hus] at Xp;have hlk:=hla l[k] (List.getElem_mem hkl);have Z8x:=fun (h2:PH) (U2:UM p Zg a va b vb vs fs h2) (K:Pure.Loc) (a1:can K p=true) (a2:can K a=true) (a3:can K b=true)=>Z48 U2 l[k] hlk Tk K a1 a2 a3
    have h107:=fun (K:Pure.Loc) (H:PH) (Zt:can K (h.next+8)=true) (hlt:h.next+8 < H.next) (Zg:Nat) (hp:H.get (h.next+8)=some (Zg,.cells [.int .i64 5,.int .i64 sort,.str name,.str num,.int .i64 kids]))=>Z47 l k 5 sort kids name num hfi (by omega) K H (h.next+8) Zg Zt hlt hp
    generalize hlk':l[k]=u at *;simp only [List.singleton_append,Zbc,Rc,if_true] at Xp
    have hfl2:∀ g∈(Zaj vs fs u).2,g.args.length < 2^30:=by
     unfold Zaj;split
     .exact Tk
     .split
      .exact Tk
      .intro g hg;rcases List.mem_append.1 hg with hg | hg
       .exact Tk g hg
       .simp at hg;subst hg;exact hlk
    generalize Xl:Zaj vs fs u=st at *;obtain ⟨okk,fs2⟩:=st;simp only at Xp Z8x hfl2
    ((try simp (disch:=first|omega|(simp<;>omega)|(simp[*];done)|fail) [*,Ze,Zd,Zc,Zf U.lp,Zf U.la,Zf U.lb]);repeat'(first|refine Z1 fun _=>?_|refine Z2 fun _ _=>?_|refine Z3 (fun _=>?_) fun _ _=>?_|refine Z4 fun _=>?_|refine Z5 fun _=>?_|refine Z6 (fun _=>?_) fun _=>?_|refine Z7 (fun _=>?_) fun _=>?_)<;>(try simp (disch:=first|omega|(simp<;>omega)|(simp[*];done)|fail) [*,Ze,Zd,Zc,Zf U.lp,Zf U.la,Zf U.lb]))
    clear h107;rw [Z8x _ (U'.frame (by simp [W1]) (by simp [had]) (by simp [hbd]) (by simp)) _ (by simp) (by simp) (by simp)];cases okk with
    | true=>
      simp only [if_true] at Xp;clear Z8x Zy9 hkn
      ((try simp (disch:=first|omega|(simp<;>omega)|(simp[*];done)|fail) [*,Ze,Zd,Zc,Zf U.lp,Zf U.la,Zf U.lb]);repeat'(first|refine Z1 fun _=>?_|refine Z2 fun _ _=>?_|refine Z3 (fun _=>?_) fun _ _=>?_|refine Z4 fun _=>?_|refine Z5 fun _=>?_|refine Z6 (fun _=>?_) fun _=>?_|refine Z7 (fun _=>?_) fun _=>?_)<;>(try simp (disch:=first|omega|(simp<;>omega)|(simp[*];done)|fail) [*,Ze,Zd,Zc,Zf U.lp,Zf U.la,Zf U.lb]))
      exact ⟨_,by omega,i+1,rfl,by omega,by omega,vs,fs2,rfl,(U'.frame (by simp [W1]) (by simp [had]) (by simp [hbd]) (by simp)).put vs fs2,hfl2⟩
    | false=>
      simp only [Bool.false_eq_true,if_false] at Xp;rw [Xp];clear Z8x Zy9 hkn
      ((try simp (disch:=first|omega|(simp<;>omega)|(simp[*];done)|fail) [*,Ze,Zd,Zc,Zf U.lp,Zf U.la,Zf U.lb]);repeat'(first|refine Z1 fun _=>?_|refine Z2 fun _ _=>?_|refine Z3 (fun _=>?_) fun _ _=>?_|refine Z4 fun _=>?_|refine Z5 fun _=>?_|refine Z6 (fun _=>?_) fun _=>?_|refine Z7 (fun _=>?_) fun _=>?_)<;>(try simp (disch:=first|omega|(simp<;>omega)|(simp[*];done)|fail) [*,Ze,Zd,Zc,Zf U.lp,Zf U.la,Zf U.lb]))
      simp [Zy5,Zur,U.ab]
   .have hu:Wh (⟨op,sort,name,num,kids⟩:Nd) (out.drop (i+1))=[]:=by simp [Wh,h4,h5]
    rw [hu,List.nil_append] at Xp;clear Zy9 hkn
    ((try simp (disch:=first|omega|(simp<;>omega)|(simp[*];done)|fail) [*,Ze,Zd,Zc,Zf U.lp,Zf U.la,Zf U.lb]);repeat'(first|refine Z1 fun _=>?_|refine Z2 fun _ _=>?_|refine Z3 (fun _=>?_) fun _ _=>?_|refine Z4 fun _=>?_|refine Z5 fun _=>?_|refine Z6 (fun _=>?_) fun _=>?_|refine Z7 (fun _=>?_) fun _=>?_)<;>(try simp (disch:=first|omega|(simp<;>omega)|(simp[*];done)|fail) [*,Ze,Zd,Zc,Zf U.lp,Zf U.la,Zf U.lb]))
    exact ⟨_,by omega,i+1,rfl,by omega,by omega,vs,fs,rfl,U'.frame (by simp [W1]) (by simp [had]) (by simp [hbd]) (by simp),Tk⟩
 .have e:i=out.length:=by omega
  subst e;rw [List.drop_length] at Xp;rw [Xp];simp only [Yc,Zbc];have g1:=hgp;have g2:=U'.v;have g3:=U'.f;clear hkn Xp Tk
  ((try simp (disch:=first|omega|(simp<;>omega)|(simp[*];done)|fail) [*,Ze,Zd,Zc]);repeat'(first|refine Z1 fun _=>?_|refine Z2 fun _ _=>?_|refine Z3 (fun _=>?_) fun _ _=>?_|refine Z4 fun _=>?_|refine Z5 fun _=>?_|refine Z6 (fun _=>?_) fun _=>?_|refine Z7 (fun _=>?_) fun _=>?_)<;>(try simp (disch:=first|omega|(simp<;>omega)|(simp[*];done)|fail) [*,Ze,Zd,Zc]))
theorem Z9b (out:List Nd)(l:List Use)(hkn:Z53 out l)(hol:out.length < 2^29)(To:l.length < 2^29)(hla:∀ g∈l,g.args.length < 2^30){p Zg a va b vb q vq:Nat}{h:PH}(U:UM p Zg a va b vb [] [] h)(hq:h.get q=some (vq,.row 58 true (out.map Zu)))(hqp:q≠p)(hqa:q≠a)(hqb:q≠b)(hql:q < h.next)(K:Pure.Loc)(hp:can K p=true)(ha:can K a=true)(hb:can K b=true)(hcq:can K q=true):∃ h'' o,Yv vE K 56 [.ptr p Zg 0,.own q vq 58 0 out.length,L 155 true (l.map Xd)] h=some (.bool (Zbc [] [] (Yc out)).1,h'')/\h''.get q=some (vq,.row 58 o (out.map Zu))/\h''.next=h.next:=by
 have U2:UM p Zg a va b vb [] [] (h.put q vq (.row 58 false (out.map Zu))):=U.frame (by simp [Ne.symm hqp]) (by simp [Ne.symm hqa]) (by simp [Ne.symm hqb]) (Nat.le_refl _);refine Zxz (va:=va) (vb:=vb) (fn:=Tryz.f56) Tryz.func56 rfl rfl rfl (by simp) (by simp) (by simpa using U.reach) hq (by simp) hcq hqp hqa hqb (U.can hp ha hb) U.belowP ?_ (by simp) (Ze9 (Zbc [] [] (Yc out)).2.1 _) (Zfa (Zbc [] [] (Yc out)).2.2 _);refine Pure.wp_mono (Z9c out false l hkn hol To hla (by simp) U2 _ rfl) ?_;rintro r ⟨h1,h2⟩;refine ⟨h1,Pure.wp_mono h2 ?_⟩;rintro vs ⟨e1,e2,e3,e4,e5⟩;exact ⟨e1,e2,by rw [e3];simp [Ne.symm hqp],e4,e5⟩
end Go.Proofs.YtabcdhcpilpojaaGreatDoor
end
section
set_option maxRecDepth 20000
namespace Go.Proofs.YtabcdhcpilpojaaGreatDoor
open Go Go.Pure
open Go.Virt (Ex Ctx Ty TK)
theorem Zbj {P:List Use}{u:Use}(hP:Clean P)(h:∀ w∈P,w.name=u.name->w=u):Clean (P++[u]):=by
 intro a ha b hb e;rcases List.mem_append.1 ha with h1 | h1<;>rcases List.mem_append.1 hb with h2 | h2
 .exact hP a h1 b h2 e
 .have h3:b=u:=by simpa using h2
  rw [h3] at e ⊢;exact h a h1 e
 .have h3:a=u:=by simpa using h1
  rw [h3] at e ⊢;exact (h b h2 e.symm).symm
 .have h3:b=u:=by simpa using h2
  have h4:a=u:=by simpa using h1
  rw [h3,h4]
theorem Zj5:∀ (us vs fs P:List Use),(∀ u,u∈vs↔u∈P/\u.fn=false)->(∀ u,u∈fs↔u∈P/\u.fn=true)->Clean P->(∀ u∈P++us,u.fn=false->u.args=[])->((Zbc vs fs us).1=true↔Clean (P++us))
 | [],vs,fs,P,hv,hf,hC,ha=>by simp [Zbc,hC]
 | u::r,vs,fs,P,hv,hf,hC,ha=>by
   have hass:P++u::r=(P++[u])++r:=by simp
   have bad:∀ w∈P,w.name=u.name->w≠u->¬ Clean (P++u::r):=fun w hw e Ys hCl=>Ys (hCl w (by simp [hw]) u (by simp) e)
   have Z7b:∀ Rk fs',(∀ x,x∈Rk↔x∈P++[u]/\x.fn=false)->(∀ x,x∈fs'↔x∈P++[u]/\x.fn=true)->Clean (P++[u])->((Zbc Rk fs' r).1=true↔Clean (P++u::r)):=fun Rk fs' h1 h2 h3=>by
    rw [hass];exact Zj5 r Rk fs' (P++[u]) h1 h2 h3 (by rw [<- hass];exact ha)
   have known:u∈P->(∀ x,x∈P++[u]↔x∈P):=fun hu x=>by
    simp only [List.mem_append,List.mem_singleton];exact ⟨fun h=>h.elim id fun e=>e ▸ hu,Or.inl⟩
   cases Rc:u.fn with
   | false=>
     have hua:=ha u (by simp) Rc
     have hue:(⟨false,u.name,[],u.sort⟩:Use)=u:=by
      obtain ⟨a,b,c,d⟩:=u;simp only at Rc hua;rw [Rc,hua]
     simp only [Zbc,Rc,Bool.false_eq_true,if_false];unfold Q0;cases h1:fs.find? (fun x=>x.name==u.name) with
     | some f=>
       obtain ⟨a1,a2⟩:=Ut h1;have a3:=(hf f).1 a1;simp only [Option.isSome_some,if_true,Bool.false_eq_true,if_false,false_iff];exact bad f a3.1 a2 (fun e=>by rw [e,Rc] at a3;cases a3.2)
     | none=>
       simp only [Option.isSome_none,Bool.false_eq_true,if_false];cases h2:vs.find? (fun x=>x.name==u.name) with
       | some v=>
         obtain ⟨a1,a2⟩:=Ut h2;have a3:=(hv v).1 a1;simp only;by_cases hs:v.sort=u.sort
         .have e:v=u:=by
           have hva:=ha v (by simp [a3.1]) a3.2;obtain ⟨q1,q2,q3,q4⟩:=v;obtain ⟨r1,r2,r3,r4⟩:=u;simp only at *;rw [a3.2,Rc,a2,hva,hua,hs]
          subst e;simp only [BEq.rfl,if_true];have kn:=known a3.1;exact Z7b vs fs (fun x=>by rw [kn];exact hv x) (fun x=>by rw [kn];exact hf x) (Zbj hC fun w hw e=>hC w hw v a3.1 e)
         .have:(v.sort==u.sort)=false:=by simpa using hs
          simp only [this,Bool.false_eq_true,if_false,false_iff];exact bad v a3.1 a2 (fun e=>hs (by rw [e]))
       | none=>
         simp only [if_true,hue];have n1:=V3 h1;have n2:=V3 h2
         have hno:∀ w∈P,w.name≠u.name:=fun w hw e=>by
          cases Wu:w.fn with
          | false=>exact n2 w ((hv w).2 ⟨hw,Wu⟩) e
          | true=>exact n1 w ((hf w).2 ⟨hw,Wu⟩) e
         refine Z7b (vs++[u]) fs (fun x=>?_) (fun x=>?_) (Zbj hC fun w hw e=>absurd e (hno w hw))
         .simp only [List.mem_append,List.mem_singleton,hv];constructor
          .rintro (h | rfl)
           .exact ⟨.inl h.1,h.2⟩
           .exact ⟨.inr rfl,Rc⟩
          .rintro ⟨h | rfl,h'⟩
           .exact .inl ⟨h,h'⟩
           .exact .inr rfl
         .simp only [List.mem_append,List.mem_singleton,hf];constructor
          .rintro ⟨h,h'⟩;exact ⟨.inl h,h'⟩
          .rintro ⟨h | rfl,h'⟩
           .exact ⟨h,h'⟩
           .rw [Rc] at h';cases h'
   | true=>
     simp only [Zbc,Rc,if_true];unfold Zaj;cases h1:vs.find? (fun x=>x.name==u.name) with
     | some f=>
       obtain ⟨a1,a2⟩:=Ut h1;have a3:=(hv f).1 a1;simp only [Option.isSome_some,if_true,Bool.false_eq_true,if_false,false_iff];exact bad f a3.1 a2 (fun e=>by rw [e,Rc] at a3;cases a3.2)
     | none=>
       simp only [Option.isSome_none,Bool.false_eq_true,if_false];cases h2:fs.find? (fun x=>x.name==u.name) with
       | some v=>
         obtain ⟨a1,a2⟩:=Ut h2;have a3:=(hf v).1 a1;simp only;by_cases hs:v.sort=u.sort/\v.args=u.args
         .have e:v=u:=by
           obtain ⟨q1,q2,q3,q4⟩:=v;obtain ⟨r1,r2,r3,r4⟩:=u;simp only at *;rw [a3.2,Rc,a2,hs.1,hs.2]
          subst e;simp only [BEq.rfl,Bool.and_self,if_true];have kn:=known a3.1;exact Z7b vs fs (fun x=>by rw [kn];exact hv x) (fun x=>by rw [kn];exact hf x) (Zbj hC fun w hw e=>hC w hw v a3.1 e)
         .have:(v.sort==u.sort&&v.args==u.args)=false:=by
           rw [Bool.eq_false_iff];intro h;simp only [Bool.and_eq_true,beq_iff_eq] at h;exact hs h
          simp only [this,Bool.false_eq_true,if_false,false_iff];exact bad v a3.1 a2 (fun e=>hs (by rw [e];exact ⟨rfl,rfl⟩))
       | none=>
         simp only [if_true];have n1:=V3 h1;have n2:=V3 h2
         have hno:∀ w∈P,w.name≠u.name:=fun w hw e=>by
          cases Wu:w.fn with
          | false=>exact n1 w ((hv w).2 ⟨hw,Wu⟩) e
          | true=>exact n2 w ((hf w).2 ⟨hw,Wu⟩) e
         refine Z7b vs (fs++[u]) (fun x=>?_) (fun x=>?_) (Zbj hC fun w hw e=>absurd e (hno w hw))
         .simp only [List.mem_append,List.mem_singleton,hv];constructor
          .rintro ⟨h,h'⟩;exact ⟨.inl h,h'⟩
          .rintro ⟨h | rfl,h'⟩
           .exact ⟨h,h'⟩
           .rw [Rc] at h';cases h'
         .simp only [List.mem_append,List.mem_singleton,hf];constructor
          .rintro (h | rfl)
           .exact ⟨.inl h.1,h.2⟩
           .exact ⟨.inr rfl,Rc⟩
          .rintro ⟨h | rfl,h'⟩
           .exact .inl ⟨h,h'⟩
           .exact .inr rfl
theorem Zx0 {t:List Nd}:∀ u∈Yc t,u.fn=false->u.args=[]:=by
 induction t with
 | nil=>simp [Yc]
 | cons n r ih=>
   intro u hu hf;simp only [Yc,List.mem_append] at hu;rcases hu with hu | hu
   .exact Zeq hu hf
   .exact ih u hu hf
theorem Zqv (t:List Nd):(Zbc [] [] (Yc t)).1=X3 (Yc t):=by
 have h:=Zj5 (Yc t) [] [] [] (by simp) (by simp) (by simp [Clean]) (by simpa using Zx0);rw [List.nil_append] at h;rw [Bool.eq_iff_iff,h];simp [X3]
end Go.Proofs.YtabcdhcpilpojaaGreatDoor
end
section
set_option maxRecDepth 20000
namespace Go.Proofs.YtabcdhcpilpojaaGreatDoor
open Go Go.Pure
open Go.Virt (Ex Ctx Ty TK)
theorem Z09 {t:List Nd}{u:Use}(h:u∈Yc t):∃ i,∃ hi:i < t.length,u∈Wh t[i] (t.drop (i+1)):=by
 induction t with
 | nil=>simp [Yc] at h
 | cons n r ih=>
   simp only [Yc,List.mem_append] at h;rcases h with h | h
   .exact ⟨0,by simp,by simpa using h⟩
   .obtain ⟨i,hi,h2⟩:=ih h;exact ⟨i+1,by simpa using hi,by simpa using h2⟩
theorem Z1d (n:Nd)(r:List Nd):(Wh n r).length<=1:=by
 unfold Wh;split
 .simp
 .split
  .split<;>simp
  .simp
theorem Z1b (t:List Nd):(Yc t).length<=t.length:=by
 induction t with
 | nil=>simp [Yc]
 | cons n r ih=>
   have:=Z1d n r;simp only [Yc,List.length_append,List.length_cons];omega
theorem Zym (us:List Use):∀ s:List Use×List Use,∀ u,u∈(us.foldl Zfc s).2↔u∈s.2\/(u∈us/\u.fn=true):=by
 induction us with
 | nil=>simp
 | cons x us ih=>
   intro s u;rw [List.foldl_cons,ih];unfold Zfc;cases hx:x.fn with
   | true=>
     simp only [if_true,List.mem_cons];split
     .rename_i hm;constructor
      .rintro (h | h)
       .exact .inl h
       .exact .inr ⟨.inr h.1,h.2⟩
      .rintro (h | ⟨rfl | h,h'⟩)
       .exact .inl h
       .exact .inl hm
       .exact .inr ⟨h,h'⟩
     .simp only [List.mem_append,List.mem_singleton];constructor
      .rintro ((h | rfl) | h)
       .exact .inl h
       .exact .inr ⟨.inl rfl,hx⟩
       .exact .inr ⟨.inr h.1,h.2⟩
      .rintro (h | ⟨rfl | h,h'⟩)
       .exact .inl (.inl h)
       .exact .inl (.inr rfl)
       .exact .inr ⟨h,h'⟩
   | false=>
     simp only [Bool.false_eq_true,if_false,List.mem_cons];constructor
     .rintro (h | h)
      .exact .inl h
      .exact .inr ⟨.inr h.1,h.2⟩
     .rintro (h | ⟨rfl | h,h'⟩)
      .exact .inl h
      .rw [hx] at h';cases h'
      .exact .inr ⟨h,h'⟩
theorem Zyn (us:List Use):∀ s:List Use×List Use,(us.foldl Zfc s).2.length<=s.2.length+us.length:=by
 induction us with
 | nil=>simp
 | cons x us ih=>
   intro s;have h1:=ih (Zfc s x)
   have h2:(Zfc s x).2.length<=s.2.length+1:=by
    unfold Zfc;split
    .simp only;split<;>simp
    .simp
   simp only [List.foldl_cons,List.length_cons];omega
abbrev Zcx (t:List Nd):List Use:=(Zck (Yc t)).2
theorem Zdr {t:List Nd}{u:Use}:u∈Zcx t↔u∈Yc t/\u.fn=true:=by
 rw [Zcx,Zck,Zym];simp
theorem VT.app {t:List Nd}{tr:Tr}(v:VT t tr){i:Nat}(hi:i < t.length)(h5:t[i].op=5):∃ ks r,∃ k:Nat,t[i].kids=(k:Int)/\many (Zj 257) k (t.drop (i+1))=some (ks,r)/\ks.length<=20000/\Wh t[i] (t.drop (i+1))=[⟨true,t[i].name,Yu ks,t[i].sort⟩]:=by
 obtain ⟨t1,t2,hF,hk,hm⟩:=Zm3 (d:=256) v.parse v.pos hi;have hl:=hF.le;rw [List.length_append,List.length_drop] at hl;have:=v.len;refine ⟨t1.map (·.1),_,t1.length,hk,hm,by simp;omega,?_⟩;rw [Z1c (d:=256) (by omega) hi h5 hk hm,R8]
theorem VT.args {t:List Nd}{tr:Tr}(v:VT t tr):∀ u∈Yc t,u.args.length < 2^30:=by
 intro u hu;obtain ⟨i,hi,h⟩:=Z09 hu;by_cases h5:t[i].op=5
 .obtain ⟨ks,r,k,_,_,hks,he⟩:=v.app hi h5;rw [he] at h;simp only [List.mem_singleton] at h;rw [h];simp only [Uz];omega
 .have:u.fn=false:=by
   unfold Wh at h;split at h
   .simp at h;rw [h]
   .simp [h5] at h
  rw [Zeq h this];simp
theorem Zt0 {f g:List Yk}{n:Nd}(h:n.op≠4):Xb f g n=n:=by
 unfold Xb;rw [if_neg h]
theorem Zyu {t:List Nd}{tr:Tr}(v:VT t tr){f g:List Yk}(hg:∀ s∈g,Yx s=true):Z53 (t.map (Xb f g)) (Zcx t):=by
 intro i hi h5;have S7:i < t.length:=by simpa using hi
 have F:=Zfw (from':=f) hg
 have Xo:t[i].op=5:=by
  have:(Xb f g t[i]).op=5:=by simpa using h5
  rwa [F.op] at this
 have he:Xb f g t[i]=t[i]:=Zt0 (by omega);have Zm:(t.map (Xb f g))[i]=t[i]:=by simp [he]
 obtain ⟨ks,r,k,hk,hm,hks,hu⟩:=v.app S7 Xo;have hum:(⟨true,t[i].name,Yu ks,t[i].sort⟩:Use)∈Zcx t:=Zdr.2 ⟨Zvy S7 (by rw [R0 S7,hu];simp),rfl⟩;rw [Zm];cases hfi:(Zcx t).findIdx? (fun u=>u.name==t[i].name) with
 | none=>
   have:=List.findIdx?_eq_none_iff.1 hfi _ hum;simp at this
 | some j=>
   obtain ⟨hj,hjn,_⟩:=List.findIdx?_eq_some_iff_getElem.1 hfi;have hjm:=Zdr.1 (List.getElem_mem hj);have hue:=Zdr.1 hum;have e:(Zcx t)[j]=⟨true,t[i].name,Yu ks,t[i].sort⟩:=v.clean _ hjm.1 _ hue.1 (by simpa using hjn);refine ⟨j,hj,rfl,?_,by rw [e]⟩;rw [e,<- List.map_drop];unfold Wh;rw [if_neg (by omega),if_pos Xo,hk,Int.toNat_natCast,Zke (fun _ _ _ h=>Zhe F h) hm];simp only [Zer]
end Go.Proofs.YtabcdhcpilpojaaGreatDoor
end
section
set_option maxRecDepth 20000
namespace Go.Proofs.YtabcdhcpilpojaaGreatDoor
open Go Go.Pure
open Go.Virt (Ex Ctx Ty TK)
theorem VT.sort {t:List Nd}{tr:Tr}(v:VT t tr):R9 t=Yh tr:=by
 unfold R9;rw [if_neg (by have:=v.len;omega),v.parse];have:X3 (Yc t)=true:=by unfold X3;rw [decide_eq_true_eq];exact v.clean
 simp only [this,if_true]
theorem Z9a (b:Bool)(xs:List PV)(Ys:xs≠[])(hl:xs.length<=2^29)(K:Pure.Loc)(h:PH)(hK:K.lo<=h.next):∃ Zg,Yv vE K 95 [L 58 b xs] h=some (.own (h.next+5) Zg 58 0 xs.length,{h.put (h.next+5) Zg (.row 58 true xs) with next:=h.next+8}):=by
 have hL:L 58 b xs=.lst 58 xs:=by
  cases xs with
  | nil=>exact absurd rfl Ys
  | cons=>simp [L]
 rw [hL]
 have key:wp (Yv vE K 95 [.lst 58 xs] h) fun r=>∃ Zg,r=(.own (h.next+5) Zg 58 0 xs.length,{h.put (h.next+5) Zg (.row 58 true xs) with next:=h.next+8}):=by
  refine Zn9 (fn:=Tryz.f95) (by rfl) Tryz.func95 rfl rfl ?_
  ((try simp (disch:=first|omega|(simp<;>omega)|(simp[*];done)|fail) [*,Ze,Zd,Zc,Tryz.f95]);repeat'(first|refine Z1 fun _=>?_|refine Z2 fun _ _=>?_|refine Z3 (fun _=>?_) fun _ _=>?_|refine Z4 fun _=>?_|refine Z5 fun _=>?_|refine Z6 (fun _=>?_) fun _=>?_|refine Z7 (fun _=>?_) fun _=>?_)<;>(try simp (disch:=first|omega|(simp<;>omega)|(simp[*];done)|fail) [*,Ze,Zd,Zc,Tryz.f95]))
  rw [if_neg]
  .rw [Z7f];rfl
  .rw [Bool.not_eq_true];unfold Zgn;rw [List.all_eq_false];exact ⟨5,by simp,by simp⟩
 obtain ⟨r,h1,Zg,rfl⟩:=Xm.1 key;exact ⟨Zg,h1⟩
theorem Zsn:∀ (f g:List Yk) (x:Yk),Vf ((f.zip g).map fun p=>(PV.str p.1,PV.str p.2)) (.str x)=some ((X8 f g x).map .str)
 | [],g,x=>by cases g<;>rfl
 | a::f,[],x=>rfl
 | a::f,b::g,x=>by
   simp only [List.zip_cons_cons,List.map_cons,Vf,Vv,X8];by_cases h:x=a
   .subst h;simp
   .have:(x==a)=false:=by simpa using h
    simp only [this,h,if_false];exact Zsn f g x
theorem Z7c (es:List (Yk×Yk))(x y:Yk)(h:∀ e∈es,e.1≠x):V8 (es.map fun p=>(PV.str p.1,PV.str p.2)) (.str x) (.str y)=some ((es++[(x,y)]).map fun p=>(PV.str p.1,PV.str p.2)):=by
 induction es with
 | nil=>rfl
 | cons e es ih=>
   have h1:(x==e.1)=false:=by simpa using Ne.symm (h e (by simp))
   simp only [List.map_cons,V8,Vv,h1,ih fun v hv=>h v (by simp [hv]),Option.map_some,List.cons_append]
theorem Z01 {f g:List Yk}(hfg:f.length=g.length)(i:Nat)(hi:i < f.length):(f.zip g).take (i+1)=(f.zip g).take i++[(f[i],g[i]'(by omega))]:=by
 have hz:i < (f.zip g).length:=by simp;omega
 rw [Tc _ i hz,List.getElem_zip]
theorem Zxw {f g:List Yk}(hN:f.Nodup)(i:Nat)(hi:i < f.length):∀ e∈(f.zip g).take i,e.1≠f[i]:=by
 intro e he heq;obtain ⟨j,hj,rfl⟩:=List.getElem_of_mem he;have hj2:j < i:=by simp at hj;omega
 rw [List.getElem_take,List.getElem_zip] at heq;exact List.pairwise_iff_getElem.1 hN j i (by omega) hi hj2 heq
set_option maxHeartbeats 8000000 in
theorem Zpl {t:List Nd}{tr:Tr}(v:VT t tr)(b b1 b2:Bool)(f g:List Yk)(hf:f.length < 2^29)(hg:g.length < 2^29)(hf1:∀ s∈f,s.length < 2^19)(U1:∀ s∈g,s.length < 2^19):Xr vE 36 [L 58 b (t.map Zu),L 9 b1 (f.map .str),L 9 b2 (g.map .str)] (Zjv (V7 t f g)):=by
 have h49:=Zaf5 v b;have Z4f:=Z5f b1 f (by omega) (fun s hs=>by have:=hf1 s hs;omega);have Z8p:=Z5f b2 g (by omega) (fun s hs=>by have:=U1 s hs;omega);have h51:=Zaf4 b1 f (by omega);have U9:¬ R9 t<=0:=by rw [v.sort];have:=v.pos;omega
 unfold V7;by_cases hlen:f.length=g.length
 .rw [if_neg (by rintro (h | h);exact U9 h;exact h hlen)];by_cases Qs:∀ s∈f++g,Yx s=true
  .rw [if_neg (by simpa using Qs)];have hfa:f.all Yx=true:=List.all_eq_true.2 fun s hs=>Qs s (by simp [hs])
   have hga:g.all Yx=true:=List.all_eq_true.2 fun s hs=>Qs s (by simp [hs])
   rw [hfa] at Z4f;rw [hga] at Z8p;by_cases hN:f.Nodup
   .rw [if_neg (by simpa using hN)];rw [decide_eq_true hN] at h51;have F:=Zfw (from':=f) (to:=g) fun s hs=>Qs s (by simp [hs])
    have hkn:=Zyu (f:=f) v (g:=g) fun s hs=>Qs s (by simp [hs])
    have h57:=Zaf3 v b;have hla:=v.args;have Ys:=v.ne;have hl:=v.len;intro K H;refine Zh (fn:=Tryz.f36) rfl Tryz.func36 rfl rfl (by simp) (by simp) ?_ (by simp [*])
    ((try simp (disch:=first|omega|(simp<;>omega)|(simp[*];done)|fail) [*,Ze,Zd,Zc,Tryz.f36]);repeat'(first|refine Z1 fun _=>?_|refine Z2 fun _ _=>?_|refine Z3 (fun _=>?_) fun _ _=>?_|refine Z4 fun _=>?_|refine Z5 fun _=>?_|refine Z6 (fun _=>?_) fun _=>?_|refine Z7 (fun _=>?_) fun _=>?_)<;>(try simp (disch:=first|omega|(simp<;>omega)|(simp[*];done)|fail) [*,Ze,Zd,Zc,Tryz.f36]))
    generalize hv41:H.stamp (H.next+41)=v41;refine Zz [0,2,9,42,43] (fun n sl h=>∃ i:Nat,n=f.length - i/\i<=f.length/\sl 44=some (.int .i64 i)/\h.get (H.next+41)=some (v41,.map (((f.zip g).take i).map fun p=>(PV.str p.1,PV.str p.2)))/\h.next=H.next+91) f.length rfl ⟨0,by simp,by simp,by simp,by simp [*],by simp⟩ ?_;rintro n' sl h hfr' ⟨i',hn',S7,h44,hg41,Rg⟩;simp at hfr';by_cases hlt':i' < f.length
    .have hig:i' < g.length:=by omega
     have hpz:=Z7c ((f.zip g).take i') f[i'] (g[i']'(by omega)) (Zxw hN i' hlt');rw [<- Z01 hlen i' hlt'] at hpz;have hT2:∃ T2,(f.zip g).take (i'+1)=T2:=⟨_,rfl⟩
     obtain ⟨T2,hT2⟩:=hT2;rw [hT2] at hpz;replace hT2:=Hide.mk hT2;generalize (f.zip g).take i'=T at *;clear hN hkn Qs
     ((try simp (disch:=first|omega|(simp<;>omega)|(simp[*];done)|fail) [*,Ze,Zd,Zc]);repeat'(first|refine Z1 fun _=>?_|refine Z2 fun _ _=>?_|refine Z3 (fun _=>?_) fun _ _=>?_|refine Z4 fun _=>?_|refine Z5 fun _=>?_|refine Z6 (fun _=>?_) fun _=>?_|refine Z7 (fun _=>?_) fun _=>?_)<;>(try simp (disch:=first|omega|(simp<;>omega)|(simp[*];done)|fail) [*,Ze,Zd,Zc]))
     exact ⟨_,by omega,i'+1,rfl,by omega,by omega,by rw [<- List.map_take,hT2.get]⟩
    .have e:(f.zip g).take i'=f.zip g:=List.take_of_length_le (by simp;omega);rw [e] at hg41;clear U9 Z4f Z8p h51 Qs hfa hga hf1 U1 hN F;replace hkn:=Hide.mk hkn;replace hla:=Hide.mk hla;have hlu:=Z1b t;generalize hM:(f.zip g).map (fun p=>(PV.str p.1,PV.str p.2))=M at *;replace hM:=Hide.mk hM
     ((try simp (disch:=first|omega|(simp<;>omega)|(simp[*];done)|fail) [*,Ze,Zd,Zc]);repeat'(first|refine Z1 fun _=>?_|refine Z2 fun _ _=>?_|refine Z3 (fun _=>?_) fun _ _=>?_|refine Z4 fun _=>?_|refine Z5 fun _=>?_|refine Z6 (fun _=>?_) fun _=>?_|refine Z7 (fun _=>?_) fun _=>?_)<;>(try simp (disch:=first|omega|(simp<;>omega)|(simp[*];done)|fail) [*,Ze,Zd,Zc]))
     obtain ⟨Zg,h95⟩:=Z9a b (t.map Zu) (by intro h0;simp at h0;subst h0;simp at Ys) (by simp;omega) {base:=H.next,lo:=H.next,ok:=[]} h (by simp [*]);rw [Rg] at h95;rw [h95];clear h95;have hm41:({h.put (H.next+91+5) Zg (.row 58 true (t.map Zu)) with next:=H.next+91+8}:PH).get (H.next+41)=some (v41,.map M):=by simp [*]
     have Z8c:({h.put (H.next+91+5) Zg (.row 58 true (t.map Zu)) with next:=H.next+91+8}:PH).get (H.next+96)=some (Zg,.row 58 true (t.map Zu)):=by simp
     have hmn:({h.put (H.next+91+5) Zg (.row 58 true (t.map Zu)) with next:=H.next+91+8}:PH).next=H.next+99:=rfl;generalize ({h.put (H.next+91+5) Zg (.row 58 true (t.map Zu)) with next:=H.next+91+8}:PH)=h1 at *
     ((try simp (disch:=first|omega|(simp<;>omega)|(simp[*];done)|fail) [*,Ze,Zd,Zc]);repeat'(first|refine Z1 fun _=>?_|refine Z2 fun _ _=>?_|refine Z3 (fun _=>?_) fun _ _=>?_|refine Z4 fun _=>?_|refine Z5 fun _=>?_|refine Z6 (fun _=>?_) fun _=>?_|refine Z7 (fun _=>?_) fun _=>?_)<;>(try simp (disch:=first|omega|(simp<;>omega)|(simp[*];done)|fail) [*,Ze,Zd,Zc]))
     refine Zz [0,9,12,58,59] (fun n sl h=>∃ i:Nat,n=t.length - i/\i<=t.length/\sl 60=some (.int .i64 i)/\h.get (H.next+41)=some (v41,.map M)/\h.get (H.next+96)=some (Zg,.row 58 true ((t.take i).map (fun d=>Zu (Xb f g d))++(t.drop i).map Zu))/\h.next=H.next+99) t.length rfl ⟨0,by simp,by simp,by simp,by simp [*],by simp [*],by simp [*]⟩ ?_;rintro n sl2 h2 hfr ⟨i,hn,hi,h60,hm41,Z8c,hmn⟩;simp at hfr;by_cases hlt:i < t.length
     .generalize ht:t[i]=d at *;obtain ⟨op,sort,name,num,kids⟩:=d;have hfz:=Zsn f g name;rw [hM.get] at hfz;have htd:(t.take (i+1)).map (fun d=>Zu (Xb f g d))=(t.take i).map (fun d=>Zu (Xb f g d))++[Zu (Xb f g ⟨op,sort,name,num,kids⟩)]:=by rw [Tc t i hlt,ht];simp
      have hdd:(t.drop i).map Zu=Zu ⟨op,sort,name,num,kids⟩::(t.drop (i+1)).map Zu:=by rw [<- ht,<- List.map_cons,<- List.drop_eq_getElem_cons hlt]
      rw [hdd] at Z8c;have hlen:((t.take i).map (fun d=>Zu (Xb f g d))).length=i:=by simp;omega
      have hDl:i+(((t.drop (i+1)).map Zu).length+1)=t.length:=by simp;omega
      have Z4d:List.take (i+1) (List.map (fun d=>Zu (Xb f g d)) t)++List.drop (i+1) (List.map Zu t)=(t.take i).map (fun d=>Zu (Xb f g d))++Zu (Xb f g ⟨op,sort,name,num,kids⟩)::(t.drop (i+1)).map Zu:=by
       rw [<- List.map_take,<- List.map_drop,htd,List.append_assoc];rfl
      clear htd;replace Z4d:=Hide.mk Z4d;generalize hP:(t.take i).map (fun d=>Zu (Xb f g d))=P at *;generalize hD:(t.drop (i+1)).map Zu=D at *;clear hdd;replace hP:=Hide.mk hP;replace hD:=Hide.mk hD;clear h57 h49 hn' S7 hlt';cases hlk:X8 f g name with
      | none=>
        rw [hlk] at hfz;simp only [Option.map_none] at hfz
        ((try simp (disch:=first|omega|(simp<;>omega)|(simp[*];done)|fail) [*,Ze,Zd,Zc]);repeat'(first|refine Z1 fun _=>?_|refine Z2 fun _ _=>?_|refine Z3 (fun _=>?_) fun _ _=>?_|refine Z4 fun _=>?_|refine Z5 fun _=>?_|refine Z6 (fun _=>?_) fun _=>?_|refine Z7 (fun _=>?_) fun _=>?_)<;>(try simp (disch:=first|omega|(simp<;>omega)|(simp[*];done)|fail) [*,Ze,Zd,Zc]))
        exact ⟨_,by omega,i+1,rfl,by omega,by omega,by rw [Z4d.get];simp [Xb,hlk,Zu]⟩
      | some y=>
        rw [hlk] at hfz;simp only [Option.map_some] at hfz;by_cases h4:op=4
        . ((try simp (disch:=first|omega|(simp<;>omega)|(simp[*];done)|fail) [*,Ze,Zd,Zc]);repeat'(first|refine Z1 fun _=>?_|refine Z2 fun _ _=>?_|refine Z3 (fun _=>?_) fun _ _=>?_|refine Z4 fun _=>?_|refine Z5 fun _=>?_|refine Z6 (fun _=>?_) fun _=>?_|refine Z7 (fun _=>?_) fun _=>?_)<;>(try simp (disch:=first|omega|(simp<;>omega)|(simp[*];done)|fail) [*,Ze,Zd,Zc]))
          exact ⟨_,by omega,i+1,rfl,by omega,by omega,by rw [Z4d.get];simp [Xb,hlk,h4,Zu]⟩
        . ((try simp (disch:=first|omega|(simp<;>omega)|(simp[*];done)|fail) [*,Ze,Zd,Zc]);repeat'(first|refine Z1 fun _=>?_|refine Z2 fun _ _=>?_|refine Z3 (fun _=>?_) fun _ _=>?_|refine Z4 fun _=>?_|refine Z5 fun _=>?_|refine Z6 (fun _=>?_) fun _=>?_|refine Z7 (fun _=>?_) fun _=>?_)<;>(try simp (disch:=first|omega|(simp<;>omega)|(simp[*];done)|fail) [*,Ze,Zd,Zc]))
          exact ⟨_,by omega,i+1,rfl,by omega,by omega,by rw [Z4d.get];simp [Xb,hlk,h4,Zu]⟩
     .obtain ⟨Zasz,va,vb,h3,h53,U,hold⟩:=Z7l {base:=H.next,lo:=H.next,ok:=[]} h2;have ei:i=t.length:=by omega
      subst ei;rw [List.drop_length,List.take_length,List.map_nil,List.append_nil] at Z8c
      ((try simp (disch:=first|omega|(simp<;>omega)|(simp[*];done)|fail) [*,Ze,Zd,Zc]);repeat'(first|refine Z1 fun _=>?_|refine Z2 fun _ _=>?_|refine Z3 (fun _=>?_) fun _ _=>?_|refine Z4 fun _=>?_|refine Z5 fun _=>?_|refine Z6 (fun _=>?_) fun _=>?_|refine Z7 (fun _=>?_) fun _=>?_)<;>(try simp (disch:=first|omega|(simp<;>omega)|(simp[*];done)|fail) [*,Ze,Zd,Zc]))
      have hu:=U.lp;obtain ⟨h4,o,hc1,hr4,hn4⟩:=Z9b (t.map (Xb f g)) (Zcx t) hkn.get (by simp;omega) (by have:=Zyn (Yc t) ([],[]);unfold Zcx Zck;simp at this;omega) (fun u hu=>hla.get u (Zdr.1 hu).1) (q:=H.next+96) (vq:=Zg) U (by rw [hold _ (by omega),Z8c];simp) (by omega) (by omega) (by omega) (by omega) {base:=H.next,lo:=H.next,ok:=[]} (by simp [can,hmn];omega) (by simp [can,hmn];omega) (by simp [can,hmn];omega) (by simp [can,hmn]);rw [Zqv,List.length_map] at hc1;rw [show (H.next+91+5:Nat)=H.next+96 from rfl,<- hmn];refine Xm.2 ⟨_,hc1,?_⟩;cases hcl:X3 (Yc (t.map (Xb f g))) with
      | true=>
        ((try simp (disch:=first|omega|(simp<;>omega)|(simp[*];done)|fail) [*,Ze,Zd,Zc]);repeat'(first|refine Z1 fun _=>?_|refine Z2 fun _ _=>?_|refine Z3 (fun _=>?_) fun _ _=>?_|refine Z4 fun _=>?_|refine Z5 fun _=>?_|refine Z6 (fun _=>?_) fun _=>?_|refine Z7 (fun _=>?_) fun _=>?_)<;>(try simp (disch:=first|omega|(simp<;>omega)|(simp[*];done)|fail) [*,Ze,Zd,Zc]))
        refine ⟨?_,by omega⟩;rw [List.take_of_length_le (by simp)];cases t with
        | nil=>simp at Ys
        | cons=>simp [L]
      | false=>((try simp (disch:=first|omega|(simp<;>omega)|(simp[*];done)|fail) [*,Ze,Zd,Zc]);repeat'(first|refine Z1 fun _=>?_|refine Z2 fun _ _=>?_|refine Z3 (fun _=>?_) fun _ _=>?_|refine Z4 fun _=>?_|refine Z5 fun _=>?_|refine Z6 (fun _=>?_) fun _=>?_|refine Z7 (fun _=>?_) fun _=>?_)<;>(try simp (disch:=first|omega|(simp<;>omega)|(simp[*];done)|fail) [*,Ze,Zd,Zc]))
   .rw [if_pos hN];rw [decide_eq_false hN] at h51;clear Qs hfa hga hN hf1 U1 U9;intro K H;refine Zh (fn:=Tryz.f36) rfl Tryz.func36 rfl rfl (by simp) (by simp) ?_ (by simp [*])
    ((try simp (disch:=first|omega|(simp<;>omega)|(simp[*];done)|fail) [*,Ze,Zd,Zc,Tryz.f36]);repeat'(first|refine Z1 fun _=>?_|refine Z2 fun _ _=>?_|refine Z3 (fun _=>?_) fun _ _=>?_|refine Z4 fun _=>?_|refine Z5 fun _=>?_|refine Z6 (fun _=>?_) fun _=>?_|refine Z7 (fun _=>?_) fun _=>?_)<;>(try simp (disch:=first|omega|(simp<;>omega)|(simp[*];done)|fail) [*,Ze,Zd,Zc,Tryz.f36]))
  .rw [if_pos Qs];clear U9 h51 hf1 U1;cases hfa:f.all Yx with
   | false=>
     rw [hfa] at Z4f;clear Qs hfa;intro K H;refine Zh (fn:=Tryz.f36) rfl Tryz.func36 rfl rfl (by simp) (by simp) ?_ (by simp [*])
     ((try simp (disch:=first|omega|(simp<;>omega)|(simp[*];done)|fail) [*,Ze,Zd,Zc,Tryz.f36]);repeat'(first|refine Z1 fun _=>?_|refine Z2 fun _ _=>?_|refine Z3 (fun _=>?_) fun _ _=>?_|refine Z4 fun _=>?_|refine Z5 fun _=>?_|refine Z6 (fun _=>?_) fun _=>?_|refine Z7 (fun _=>?_) fun _=>?_)<;>(try simp (disch:=first|omega|(simp<;>omega)|(simp[*];done)|fail) [*,Ze,Zd,Zc,Tryz.f36]))
   | true=>
     have hga:g.all Yx=false:=by
      rw [<- Bool.not_eq_true];intro hga;exact Qs fun s hs=>(List.mem_append.1 hs).elim (fun h=>List.all_eq_true.1 hfa s h) (fun h=>List.all_eq_true.1 hga s h)
     rw [hfa] at Z4f;rw [hga] at Z8p;clear Qs hfa hga;intro K H;refine Zh (fn:=Tryz.f36) rfl Tryz.func36 rfl rfl (by simp) (by simp) ?_ (by simp [*])
     ((try simp (disch:=first|omega|(simp<;>omega)|(simp[*];done)|fail) [*,Ze,Zd,Zc,Tryz.f36]);repeat'(first|refine Z1 fun _=>?_|refine Z2 fun _ _=>?_|refine Z3 (fun _=>?_) fun _ _=>?_|refine Z4 fun _=>?_|refine Z5 fun _=>?_|refine Z6 (fun _=>?_) fun _=>?_|refine Z7 (fun _=>?_) fun _=>?_)<;>(try simp (disch:=first|omega|(simp<;>omega)|(simp[*];done)|fail) [*,Ze,Zd,Zc,Tryz.f36]))
 .rw [if_pos (.inr hlen)];clear U9 h51 hf1 U1 Z4f Z8p;intro K H;refine Zh (fn:=Tryz.f36) rfl Tryz.func36 rfl rfl (by simp) (by simp) ?_ (by simp [*])
  ((try simp (disch:=first|omega|(simp<;>omega)|(simp[*];done)|fail) [*,Ze,Zd,Zc,Tryz.f36]);repeat'(first|refine Z1 fun _=>?_|refine Z2 fun _ _=>?_|refine Z3 (fun _=>?_) fun _ _=>?_|refine Z4 fun _=>?_|refine Z5 fun _=>?_|refine Z6 (fun _=>?_) fun _=>?_|refine Z7 (fun _=>?_) fun _=>?_)<;>(try simp (disch:=first|omega|(simp<;>omega)|(simp[*];done)|fail) [*,Ze,Zd,Zc,Tryz.f36]))
end Go.Proofs.YtabcdhcpilpojaaGreatDoor
end
section
set_option maxRecDepth 20000
namespace Go.Proofs.YtabcdhcpilpojaaGreatDoor
open Go Go.Pure
open Go.Virt (Ex Ctx Ty TK)
theorem GT.vt {s:Int}{d N:Nat}{V:List (Yk×Int)}{t:List Nd}(h:GT s d N V t)(hV:Rz V)(hd:d<=257)(hN:N<=20000):∃ tr,VT t tr/\Yh tr=s:=by
 obtain ⟨tr,h1,h2⟩:=h.tree;have h3:=Qe hd (h1 []);rw [List.append_nil] at h3;have hc:=h.clean hV;unfold X3 at hc;rw [decide_eq_true_eq] at hc;exact ⟨tr,⟨h3,by rw [h2];exact h.pos,⟨h.short,fun n hn=>(h.node n hn).2.2.2⟩,Nat.le_trans h.len hN,hc⟩,h2⟩
def Vk:List (Yk×Int):=V0++[([107],1)]
theorem Zaga:Rz Vk:=by unfold Rz Vk V0;decide
theorem Zamq:Zlt Vk:=by unfold Zlt Vk V0;decide +kernel
theorem Zams:∀ v∈V0,v∈Vk:=fun v hv=>List.mem_append_left _ hv
theorem Z1a {u:List Nd}{n:Nd}{tr:Tr}(hn:n.op=5)(hk:n.kids=1)(hp:Zj 257 u=some (tr,[])):Yc (n::u)=⟨true,n.name,[Yh tr],n.sort⟩::Yc u:=by
 simp only [Yc,Wh,hn,hk];simp [many,hp,Yu]
theorem TermG.vt {t:List Nd}(h:TermG t):∃ tr,VT t tr:=by
 cases h with
 | plain h1 h4 h=>exact (h.vt Zc9 (by omega) (by omega)).imp fun _ h=>h.1
 | @con u h=>
   have h2:GT 1 (7+1) (2*418+1) Vk (Y5 (Qo 7) [u,[⟨4,1,[107],[],0⟩]]):=GT.log (.inl rfl) (ks:=[u,[⟨4,1,[107],[],0⟩]]) (by
    intro t ht;simp only [List.mem_cons,List.not_mem_nil,or_false] at ht;rcases ht with rfl | rfl
    .exact h.vars Zams
    .exact GT.var Zamq (by decide) (by omega) (by omega))
   exact (h2.vt Zaga (by omega) (by omega)).imp fun _ h=>h.1
 | @app u h=>
   obtain ⟨tr,h1,h2⟩:=h.tree
   have h3:Zj 257 u=some (tr,[]):=by
    have:=Qe (e:=257) (by omega) (h1 [])
    rwa [List.append_nil] at this
   have h4:Zj 7 u=some (tr,[]):=by simpa using h1 []
   have hj:Y5 ⟨5,2,[102],[],0⟩ [u]=⟨5,2,[102],[],1⟩::u:=by simp [Y5]
   rw [hj]
   have hp:Zj 8 (⟨5,2,[102],[],1⟩::u)=some (.mk 5 2 [102] [] [tr],[]):=by
    have hf:Xs 5 2 [102] []=true:=by decide +kernel
    have ha:Yw 5 1=true:=by decide
    simp only [Zj,hf,ha,Bool.and_self,if_true];simp [many,h4]
   refine ⟨.mk 5 2 [102] [] [tr],Qe (by omega) hp,by simp [Yh,Yu,h2,W6],⟨fun n hn=>?_,fun n hn=>?_⟩,by have:=h.len;simp;omega,?_⟩
   .rcases List.mem_cons.1 hn with rfl | hn
    .exact ⟨by simp,by simp⟩
    .exact h.short n hn
   .rcases List.mem_cons.1 hn with rfl | hn
    .intro e;simp at e
    .exact (h.node n hn).2.2.2
   .rw [Z1a rfl rfl h3];have hc:=h.clean Zc9;unfold X3 at hc;rw [decide_eq_true_eq] at hc
    have Ys:∀ v∈Yc u,v.name≠[102]:=by
     intro v hv;obtain ⟨n,n1,n2,rfl⟩:=Zb8 (fun n hn=>(h.node n hn).2.1) v hv;have:=(h.node n n1).2.2.1 n2;intro e;simp only at e;rw [e] at this
     revert this
     generalize n.sort=s;unfold V0;simp
    intro a ha b hb he;rcases List.mem_cons.1 ha with rfl | ha<;>rcases List.mem_cons.1 hb with rfl | hb
    .rfl
    .exact absurd he.symm (Ys _ hb)
    .exact absurd he (Ys _ ha)
    .exact hc a ha b hb he
end Go.Proofs.YtabcdhcpilpojaaGreatDoor
end
section
set_option maxRecDepth 20000
namespace Go.Proofs.YtabcdhcpilpojaaGreatDoor
open Go Go.Pure
open Go.Virt (Ex Ctx Ty TK)
theorem Acc.call2 {C:Ctx}{S S2:List Nat}{K:Pure.Loc}{h:PH}{g g2 f:Nat}{v v2 w a:PV}{xs ys:List PV}(hA:Acc S K h g v xs)(hB:Acc S2 K h g2 v2 ys)(hK:K.lo=K.base)(Y6:C.raw f=false)(Zu4:Xr C f [a,L g true xs,L g2 true ys] w)(hwb:∀ m,below m 4 w=true)(hw:Yn g 14 w=true)(Wu:Yn g2 14 w=true)
  (h1:Yl a=[]) (h2:refs 3 a=[]):Yv C K f [a,v,v2] h=some (w,h):=by
 have h1':[a].flatMap Yl=[]:=by simp [h1]
 refine Zn1 Zu4 hwb Y6 ?_ rfl ?_ ?_ ?_
 .have e:=X1 (h:=h) h1';simp only [Yy] at e;simp only [Yy,hA.inl,hB.inl];cases hi:Xt h a with
  | none=>rw [hi] at e;cases e
  | some y=>
    rw [hi] at e;simp only [Option.some.injEq,List.cons.injEq,and_true] at e;rw [e]
 .simp [h1]
 .simp [h2]
 .rw [List.flatMap_cons,List.flatMap_cons,List.flatMap_cons,h1];rcases hA with ⟨rfl,_⟩ | ⟨d,Zg,_,_,rfl,hg⟩<;>rcases hB with ⟨rfl,_⟩ | ⟨d2,Ziv,_,_,rfl,hg2⟩<;>simp_all [can]
theorem Zt9 (n:Nd):∀ m,Yn 9 (m+2) (Zu n)=true:=fun m=>by simp [Yn,Zu]
theorem Z7m (t:List Nd)(b:Bool):Yn 9 13 (L 58 b (t.map Zu))=true:=by
 rcases Ztb 58 b (t.map Zu) with ⟨h,_⟩ | ⟨h,_⟩
 .rw [h];rfl
 .rw [h];simp only [Yn,Bool.and_eq_true,List.all_eq_true];refine ⟨by decide,fun x hx=>?_⟩;obtain ⟨n,_,rfl⟩:=List.mem_map.1 hx;exact Zt9 n 10
theorem Uh (t:List Nd)(e:Int):Yn 9 14 (Zjv (t,e))=true:=by
 simp only [Zjv,Yn,List.all_cons,List.all_nil,Z7m,Bool.and_true]
theorem Zbm (t:List Nd)(e:Int):∀ m,below m 4 (Zjv (t,e))=true:=by
 intro m;simp [Zjv]
def Zjb:List Yk:=[[120],[121],[122],[119],[112],[98],[97],[99],[107],[102],[117,33,49]]
theorem Zic {v:Nat}(h:v < 11):∃ s:Yk,s.length<=3/\∀ h',[PV.str [120],PV.str [121],PV.str [122],PV.str [119],PV.str [112],PV.str [98],PV.str [97],PV.str [99],PV.str [107],PV.str [102],PV.str [117,33,49]][v]'h'=.str s:=by
 have hl:Zjb.length=11:=rfl;refine ⟨Zjb[v]'(by omega),?_,fun h'=>?_⟩
 .have:∀ s∈Zjb,s.length<=3:=by decide
  exact this _ (List.getElem_mem _)
 .have e:[PV.str [120],PV.str [121],PV.str [122],PV.str [119],PV.str [112],PV.str [98],PV.str [97],PV.str [99],PV.str [107],PV.str [102],PV.str [117,33,49]]=Zjb.map PV.str:=rfl;simp only [e,List.getElem_map]
set_option maxHeartbeats 4000000 in
theorem Zaja (b1 b2 b3 b4:Bool)(f g:List Yk)(l m:List Int)(hf:f.length < 2^63)(hg:g.length < 2^63)(hl:l.length < 2^63)(hm:m.length < 2^63):Xr vE 9 [L 9 b1 (f.map .str),L 9 b2 (g.map .str),L 3 b3 (l.map (.int .i64)),L 3 b4 (m.map (.int .i64))] (.bool true):=by
 have h26f:=Z5o b1 f (by omega);have h26g:=Z5o b2 g (by omega);have h19:=Z5s;cases hsf:Zbb f with
 | false=>
   rw [hsf] at h26f;intro K H;refine Zh (fn:=Tryz.f9) rfl Tryz.func9 rfl rfl (by simp) (by simp) ?_ (by simp [*])
   ((try simp (disch:=first|omega|(simp<;>omega)|(simp[*];done)|fail) [*,Ze,Zd,Zc,Tryz.f9]);repeat'(first|refine Z1 fun _=>?_|refine Z2 fun _ _=>?_|refine Z3 (fun _=>?_) fun _ _=>?_|refine Z4 fun _=>?_|refine Z5 fun _=>?_|refine Z6 (fun _=>?_) fun _=>?_|refine Z7 (fun _=>?_) fun _=>?_)<;>(try simp (disch:=first|omega|(simp<;>omega)|(simp[*];done)|fail) [*,Ze,Zd,Zc,Tryz.f9]))
 | true=>
 cases hsg:Zbb g with
 | false=>
   rw [hsg] at h26g;rw [hsf] at h26f;intro K H;refine Zh (fn:=Tryz.f9) rfl Tryz.func9 rfl rfl (by simp) (by simp) ?_ (by simp [*])
   ((try simp (disch:=first|omega|(simp<;>omega)|(simp[*];done)|fail) [*,Ze,Zd,Zc,Tryz.f9]);repeat'(first|refine Z1 fun _=>?_|refine Z2 fun _ _=>?_|refine Z3 (fun _=>?_) fun _ _=>?_|refine Z4 fun _=>?_|refine Z5 fun _=>?_|refine Z6 (fun _=>?_) fun _=>?_|refine Z7 (fun _=>?_) fun _=>?_)<;>(try simp (disch:=first|omega|(simp<;>omega)|(simp[*];done)|fail) [*,Ze,Zd,Zc,Tryz.f9]))
 | true=>
   rw [hsg] at h26g;rw [hsf] at h26f;have hfs:f.length<=12/\∀ s∈f,s.length<=60:=by unfold Zbb at hsf;simpa [and_comm] using hsf
   have hgs:g.length<=12/\∀ s∈g,s.length<=60:=by unfold Zbb at hsg;simpa [and_comm] using hsg
   obtain ⟨hf12,hf60⟩:=hfs;obtain ⟨hg12,hg60⟩:=hgs;obtain ⟨t,i',_,_,hT,g13⟩:=Zafi (b:=b3) (xs:=l.take 400) (i:=0) (by simp;omega) (by simp);obtain ⟨tr,hv⟩:=hT.vt;have a36:=Zpl hv false b1 b2 f g (by omega) (by omega) (fun s hs=>by have:=hf60 s hs;omega) (fun s hs=>by have:=hg60 s hs;omega);have a37:=Z5m false b1 b2 t f g hv.good.short (by have:=hv.len;omega) (by omega) (by omega) (fun s hs=>by have:=hf60 s hs;omega) (fun s hs=>by have:=hg60 s hs;omega)
   have a18:∀ f g,Xr vE 18 [L 58 true ((V7 t f g).1.map Zu),L 58 true ((V7 t f g).1.map Zu)] (.bool true):=by
    intro f g
    have h1:(V7 t f g).1.length<=20000:=by
     have:=hv.len;unfold V7
     repeat' split
     all_goals simp
     omega
    have:=Z5u true true (V7 t f g).1 (V7 t f g).1 (by omega) (by omega);simpa using this
   obtain ⟨v1,j1,hv1,Ra,Sn,gn6⟩:=Yq (b:=b4) (xs:=m.take 400) (i:=0) (by simp;omega) (by simp) 6 6 rfl (by omega) (by omega);clear hsf hsg hf60 hg60 hT;replace hv:=Hide.mk hv;simp only [Se] at a36 a37;intro K H;refine Zh (fn:=Tryz.f9) rfl Tryz.func9 rfl rfl (by simp) (by simp) ?_ (by simp [*])
   ((try simp (disch:=first|omega|(simp<;>omega)|(simp[*];done)|fail) [*,Ze,Zd,Zc,Tryz.f9]);repeat'(first|refine Z1 fun _=>?_|refine Z2 fun _ _=>?_|refine Z3 (fun _=>?_) fun _ _=>?_|refine Z4 fun _=>?_|refine Z5 fun _=>?_|refine Z6 (fun _=>?_) fun _=>?_|refine Z7 (fun _=>?_) fun _=>?_)<;>(try simp (disch:=first|omega|(simp<;>omega)|(simp[*];done)|fail) [*,Ze,Zd,Zc,Tryz.f9]))
   obtain ⟨Zoa,k1,hc1,U1,hn1,ho1⟩:=Zub b3 l (by omega) {base:=H.next,lo:=H.next,ok:=[]} {next:=H.next+109,get:=H.get};refine Xm.2 ⟨_,hc1,?_⟩;clear hc1 ho1;simp only at U1 hn1
   ((try simp (disch:=first|omega|(simp<;>omega)|(simp[*];done)|fail) [*,Ze,Zd,Zc]);repeat'(first|refine Z1 fun _=>?_|refine Z2 fun _ _=>?_|refine Z3 (fun _=>?_) fun _ _=>?_|refine Z4 fun _=>?_|refine Z5 fun _=>?_|refine Z6 (fun _=>?_) fun _=>?_|refine Z7 (fun _=>?_) fun _=>?_)<;>(try simp (disch:=first|omega|(simp<;>omega)|(simp[*];done)|fail) [*,Ze,Zd,Zc]))
   clear g13 U1;have hkn:(k1.put (H.next+109+9) Zoa (Vt b3 (l.take 400) i')).next=k1.next:=rfl;generalize k1.put (H.next+109+9) Zoa (Vt b3 (l.take 400) i')=k2 at *;obtain ⟨Ziv,k3,hc2,hg2,hn2,ho2⟩:=Zub b4 m (by omega) {base:=H.next,lo:=H.next,ok:=[]} k2;refine Xm.2 ⟨_,hc2,?_⟩;clear hc2 ho2;have T8:H.next+100 < k2.next:=by rw [hkn];omega
   generalize hQ:k2.next+9=Q at *
   ((try simp (disch:=first|omega|(simp<;>omega)|(simp[*];done)|fail) [*,Ze,Zd,Zc]);repeat'(first|refine Z1 fun _=>?_|refine Z2 fun _ _=>?_|refine Z3 (fun _=>?_) fun _ _=>?_|refine Z4 fun _=>?_|refine Z5 fun _=>?_|refine Z6 (fun _=>?_) fun _=>?_|refine Z7 (fun _=>?_) fun _=>?_)<;>(try simp (disch:=first|omega|(simp<;>omega)|(simp[*];done)|fail) [*,Ze,Zd,Zc]))
   have hlQ:H.next+109<=Q:=by omega
   have hq1:∀ d,d<=108->(Q=H.next+d)=False:=fun d hd=>by simp;omega
   have hq2:∀ d,d<=108->(H.next+d=Q)=False:=fun d hd=>by simp;omega
   have hlc:H.next<=Q:=by omega
   have hlm:(m.take 400).length<=400:=by simp;omega
   refine Zz [0,1,9,10] (fun n sl h=>∃ (c j:Nat) (w11 w12:PV) (p q:List Yk),n=c/\c<=5/\j<=(m.take 400).length/\sl 13=some (.int .i64 c)/\sl 11=some w11/\sl 12=some w12/\p.length+c=v1/\q.length+c=v1/\(∀ s∈p,s.length<=3)/\(∀ s∈q,s.length<=3)/\Acc [51] ⟨H.next,H.next,[]⟩ h 9 w11 (p.map .str)/\Acc [59] ⟨H.next,H.next,[]⟩ h 9 w12 (q.map .str)/\h.get Q=some (Ziv,Vt b4 (m.take 400) j)/\Q < h.next) v1 rfl ⟨v1,j1,.nils,.nils,[],[],rfl,by omega,by omega,by simp,by simp,by simp,by simp,by simp,by simp,by simp,Acc.nil,Acc.nil,by simp,by simpa using hn2⟩ ?_;rintro n sl h hf ⟨c,j,w11,w12,p,q,hn,hc5,hj,h13,h11,h12,hpl,hql,hp3,hq3,hA,hB,hgq,hQh⟩;simp at hf;by_cases hc0:0 < c
   .obtain ⟨v2,j2,hv2,Rx,hb2,gn2⟩:=Yq (b:=b4) hlm hj 11 11 rfl (by omega) (by omega);obtain ⟨v3,j3,hv3,ha3,hb3,gn3⟩:=Yq (b:=b4) hlm hb2 11 11 rfl (by omega) (by omega);obtain ⟨s2,hl2,hs2⟩:=Zic hv2;obtain ⟨s3,hl3,hs3⟩:=Zic hv3;generalize m.take 400=ms at *
    ((try simp (disch:=first|omega|(simp<;>omega)|(simp[*];done)|fail) [*,Ze,Zd,Zc]);repeat'(first|refine Z1 fun _=>?_|refine Z2 fun _ _=>?_|refine Z3 (fun _=>?_) fun _ _=>?_|refine Z4 fun _=>?_|refine Z5 fun _=>?_|refine Z6 (fun _=>?_) fun _=>?_|refine Z7 (fun _=>?_) fun _=>?_)<;>(try simp (disch:=first|omega|(simp<;>omega)|(simp[*];done)|fail) [*,Ze,Zd,Zc]))
    generalize hR:[PV.str [120],PV.str [121],PV.str [122],PV.str [119],PV.str [112],PV.str [98],PV.str [97],PV.str [99],PV.str [107],PV.str [102],PV.str [117,33,49]]=R at *;have hRl:R.length=11:=by rw [<- hR];rfl
    clear hs2 hR;generalize hk:(h.put (H.next+43) (h.stamp (H.next+43)) (.row 9 true R)).put Q Ziv (Vt b4 ms j2)=k at *;have hA1:Acc [51] ⟨H.next,H.next,[]⟩ k 9 w11 (p.map .str):=hA.frame (by rw [<- hk];simp [hq2]);have hB1:Acc [59] ⟨H.next,H.next,[]⟩ k 9 w12 (q.map .str):=hB.frame (by rw [<- hk];simp [hq2]);have e43:k.get (H.next+43)=some (h.stamp (H.next+43),.row 9 true R):=by rw [<- hk];simp [hq2]
    have eQ:k.get Q=some (Ziv,Vt b4 ms j2):=by rw [<- hk];simp
    have en:k.next=h.next:=by rw [<- hk];rfl
    clear hk hA hB hgq;obtain ⟨w11',h',hap,hA2,Zb1,Zm⟩:=hA1.app' (dd:=51) (ys:=[.str s2]) (T:={k:=TK.str,size:=1,bytes:=16,zero:=[Value.string {data:=#[]}]}) (by simp) rfl (by simp;omega) (by decide) (by decide);simp only [List.length_singleton] at hap;have hB2:Acc [59] ⟨H.next,H.next,[]⟩ h' 9 w12 (q.map .str):=hB1.frame (by intro d hd;refine Zm _ ?_;simp at hd ⊢;omega);have e43':=Zm (H.next+43) (by simp);have eQ':=Zm Q (by simp [hq1]);rw [e43] at e43';rw [eQ] at eQ';clear Zm hA1 hB1 e43 eQ
    ((try simp (disch:=first|omega|(simp<;>omega)|(simp[*];done)|fail) [*,Ze,Zd,Zc]);repeat'(first|refine Z1 fun _=>?_|refine Z2 fun _ _=>?_|refine Z3 (fun _=>?_) fun _ _=>?_|refine Z4 fun _=>?_|refine Z5 fun _=>?_|refine Z6 (fun _=>?_) fun _=>?_|refine Z7 (fun _=>?_) fun _=>?_)<;>(try simp (disch:=first|omega|(simp<;>omega)|(simp[*];done)|fail) [*,Ze,Zd,Zc]))
    generalize hk:h'.put Q Ziv (Vt b4 ms j3)=k2 at *;have hA3:Acc [51] ⟨H.next,H.next,[]⟩ k2 9 w11' (p.map .str++[.str s2]):=hA2.frame (by rw [<- hk];simp [hq2]);have hB3:Acc [59] ⟨H.next,H.next,[]⟩ k2 9 w12 (q.map .str):=hB2.frame (by rw [<- hk];simp [hq2]);have eQ:k2.get Q=some (Ziv,Vt b4 ms j3):=by rw [<- hk];simp
    have en2:k2.next=h.next:=by rw [<- hk,<- en,<- Zb1];rfl
    clear hk hA2 hB2;obtain ⟨w12',h2,hap2,hB4,Z3j,Znj⟩:=hB3.app' (dd:=59) (ys:=[.str s3]) (T:={k:=TK.str,size:=1,bytes:=16,zero:=[Value.string {data:=#[]}]}) (by simp) rfl (by simp;omega) (by decide) (by decide);simp only [List.length_singleton] at hap2;have hA4:Acc [51] ⟨H.next,H.next,[]⟩ h2 9 w11' (p.map .str++[.str s2]):=hA3.frame (by intro d hd;refine Znj _ ?_;simp at hd ⊢;omega);have eQ2:=Znj Q (by simp [hq1]);rw [eQ] at eQ2;clear Znj hA3 hB3 eQ hap eQ' e43';replace hA4:=Hide.mk hA4;replace hB4:=Hide.mk hB4
    have hp4:∀ s∈p++[s2],s.length<=3:=by
     intro s hs;rcases List.mem_append.1 hs with hs | hs
     .exact hp3 s hs
     .simp at hs;subst hs;exact hl2
    have hq4:∀ s∈q++[s3],s.length<=3:=by
     intro s hs;rcases List.mem_append.1 hs with hs | hs
     .exact hq3 s hs
     .simp at hs;subst hs;exact hl3
    replace hp4:=Hide.mk hp4;replace hq4:=Hide.mk hq4;clear hp3 hq3
    ((try simp (disch:=first|omega|(simp<;>omega)|(simp[*];done)|fail) [*,Ze,Zd,Zc]);repeat'(first|refine Z1 fun _=>?_|refine Z2 fun _ _=>?_|refine Z3 (fun _=>?_) fun _ _=>?_|refine Z4 fun _=>?_|refine Z5 fun _=>?_|refine Z6 (fun _=>?_) fun _=>?_|refine Z7 (fun _=>?_) fun _=>?_)<;>(try simp (disch:=first|omega|(simp<;>omega)|(simp[*];done)|fail) [*,Ze,Zd,Zc]))
    exact ⟨c - 1,by omega,by omega,j3,hb3,by omega,p++[s2],by simp;omega,q++[s3],by simp;omega,hp4.get,hq4.get,by simpa using hA4.get,by simpa using hB4.get,rfl⟩
   .have hc00:c=0:=by omega
    have hplN:p.length<=5:=by omega
    have hqlN:q.length<=5:=by omega
    have Z0f:=Zpl hv.get false true true p q (by omega) (by omega) (fun s hs=>by have:=hp3 s hs;omega) (fun s hs=>by have:=hq3 s hs;omega);have a37':=Z5m false true true t p q hv.get.good.short (by have:=hv.get.len;omega) (by omega) (by omega) (fun s hs=>by have:=hp3 s hs;omega) (fun s hs=>by have:=hq3 s hs;omega);have c36:=Acc.call2 (C:=vE) hA hB rfl (by rfl) Z0f (Zbm _ _) (Uh _ _) (Uh _ _) (by simp) (by simp);have c37:=Acc.call2 (C:=vE) hA hB rfl (by rfl) a37' (Zbm _ _) (Uh _ _) (Uh _ _) (by simp) (by simp);simp only [Se] at c36 c37;clear Z0f a37' hA hB hp3 hq3 hn hc5 hpl hql hgq;have a18':=a18 p q;have Zau9:=a18 f g;clear a18
    ((try simp (disch:=first|omega|(simp<;>omega)|(simp[*];done)|fail) [*,Ze,Zd,Zc]);repeat'(first|refine Z1 fun _=>?_|refine Z2 fun _ _=>?_|refine Z3 (fun _=>?_) fun _ _=>?_|refine Z4 fun _=>?_|refine Z5 fun _=>?_|refine Z6 (fun _=>?_) fun _=>?_|refine Z7 (fun _=>?_) fun _=>?_)<;>(try simp (disch:=first|omega|(simp<;>omega)|(simp[*];done)|fail) [*,Ze,Zd,Zc]))
end Go.Proofs.YtabcdhcpilpojaaGreatDoor
end
