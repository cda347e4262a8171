/- Functions on names, each once. -/
import Derived.Test.YtabcdhcpilpojaaGreatDoorTm
import Derived.Lib.Bytealg
import Derived.Test.YtabcdhcpilpojaaGreatDoorPD
set_option linter.unusedSimpArgs false
set_option linter.unusedVariables false
section
set_option maxRecDepth 20000
namespace Go.Proofs.YtabcdhcpilpojaaGreatDoor
open Go Go.Pure
open Go.Virt (Ex Ctx Ty TK)
abbrev Yp:=List Nat
def Zyp (f:Nat):List Value->Option Value
 | [.string b,.int .u8 c]=>if Nat.beq f 230 then some (.int .i64 (Lib.indexByte b.data.toList c.toNat.toUInt8)) else none
 | _=>none
noncomputable def vE:Ctx:={vC with ext:=fun f a=>if Nat.beq f 19&&a.isEmpty then some (.bool true) else Zyp f a}
@[simp] theorem vE_T (t:Nat):vE.T t=vC.T t:=by simp only [vE]
@[simp] theorem Zamu (f:Nat):vE.raw f=vRaw f:=rfl
theorem Zabh (a b:Nat):Nat.beq a b=(a==b):=by rw [Bool.eq_iff_iff];simp
attribute [simp] vRaw Zabh
theorem Zaek:Xy vE 19 [] (.bool true):=by
 intro K H
 rw [Vw]
 rfl
theorem Z29 (es:List Yp) (x:Yp):Vd (es.map fun s=>(.str s,.bool true)) (.str x)=some (if x∈es then some (.bool true) else none):=by
 induction es with
 | nil=>simp
 | cons e es ih=>
   simp only [List.map_cons,Vd,Vs,List.mem_cons]
   by_cases h:x=e
   .subst h;simp
   .have:(x==e)=false:=by simpa using h
    simp [this,h,ih]
theorem Z50 (es:List Yp) (x:Yp) (h:x∉es):V4 (es.map fun s=>(.str s,.bool true)) (.str x) (.bool true)=some ((es++[x]).map fun s=>(.str s,.bool true)):=by
 induction es with
 | nil=>simp
 | cons e es ih=>
   simp only [List.mem_cons,not_or] at h
   have:(x==e)=false:=by simpa using h.1
   simp only [List.map_cons,V4,Vs,this,ih h.2,Option.map_some,List.cons_append]
def Zfy (c:Nat):Bool:=(decide (97<=c)&&decide (c<=122))||(decide (65<=c)&&decide (c<=90))
theorem Z39 (c:Nat):Xy vE 88 [.int .u8 c] (.bool (Zfy c)):=by
 intro K H
 refine Zh (fn:=Tryz.f88) rfl Tryz.func88 rfl rfl (by simp) (by simp) ?_ (by simp [*])
 ((try simp (disch:=first|omega|(simp<;>omega)|fail) [*,Ze,Tryz.f88]);repeat'(first|refine Z8 ?_|refine Z9 ?_|refine Z0 ?_|refine Z1 fun _=>?_|refine Z2 fun _ _=>?_|refine Z3 (fun _=>?_) fun _ _=>?_|refine Z4 fun _=>?_|refine Z5 fun _=>?_|refine Z6 (fun _=>?_) fun _=>?_|refine Z7 (fun _=>?_) fun _=>?_)<;>(try simp (disch:=first|omega|(simp<;>omega)|fail) [*,Ze,Tryz.f88]))
 all_goals (rw [Bool.eq_iff_iff];simp [Zfy];omega)
theorem Zab3 (b:Bool) (xs:List Yp) (s:Yp) (hn:xs.length < 2^62):Xy vE 84 [L 9 b (xs.map .str),.str s] (.bool (decide (s∈xs))):=by
 intro K H
 refine Zh (fn:=Tryz.f84) rfl Tryz.func84 rfl rfl (by simp) (by simp) ?_ (by simp [*])
 ((try simp (disch:=first|omega|(simp<;>omega)|fail) [*,Ze,Tryz.f84]);repeat'(first|refine Z8 ?_|refine Z9 ?_|refine Z0 ?_|refine Z1 fun _=>?_|refine Z2 fun _ _=>?_|refine Z3 (fun _=>?_) fun _ _=>?_|refine Z4 fun _=>?_|refine Z5 fun _=>?_|refine Z6 (fun _=>?_) fun _=>?_|refine Z7 (fun _=>?_) fun _=>?_)<;>(try simp (disch:=first|omega|(simp<;>omega)|fail) [*,Ze,Tryz.f84]))
 refine Ya [0,1] (fun n sl h=>∃ i:Nat,n=xs.length - i/\i<=xs.length/\sl 5=some (.int .i64 i)/\∀ j (hj:j < xs.length),j < i->xs[j]≠s) xs.length rfl ⟨0,by simp⟩ ?_
 rintro n sl h hf ⟨i,hn',hi,h5,hd⟩
 simp at hf
 replace hd:=Hide.mk hd
 by_cases hlt:i < xs.length
 . ((try simp (disch:=first|omega|(simp<;>omega)|fail) [*,Ze]);repeat'(first|refine Z8 ?_|refine Z9 ?_|refine Z0 ?_|refine Z1 fun _=>?_|refine Z2 fun _ _=>?_|refine Z3 (fun _=>?_) fun _ _=>?_|refine Z4 fun _=>?_|refine Z5 fun _=>?_|refine Z6 (fun _=>?_) fun _=>?_|refine Z7 (fun _=>?_) fun _=>?_)<;>(try simp (disch:=first|omega|(simp<;>omega)|fail) [*,Ze]))
   .rename_i e
    subst e
    exact List.getElem_mem hlt
   .rename_i e
    refine ⟨_,by omega,i+1,rfl,by omega,rfl,fun j hj hji=>?_⟩
    by_cases e':j=i
    .subst e';exact e
    .exact hd.get j hj (by omega)
 . ((try simp (disch:=first|omega|(simp<;>omega)|fail) [*,Ze]);repeat'(first|refine Z8 ?_|refine Z9 ?_|refine Z0 ?_|refine Z1 fun _=>?_|refine Z2 fun _ _=>?_|refine Z3 (fun _=>?_) fun _ _=>?_|refine Z4 fun _=>?_|refine Z5 fun _=>?_|refine Z6 (fun _=>?_) fun _=>?_|refine Z7 (fun _=>?_) fun _=>?_)<;>(try simp (disch:=first|omega|(simp<;>omega)|fail) [*,Ze]))
   intro hm
   obtain ⟨j,hj,e⟩:=List.getElem_of_mem hm
   exact hd.get j hj (by omega) e
theorem Zad9 (xs:List Yp) (s:Yp) (hn:xs.length < 2^62):Xy vE 84 [.lst 9 (xs.map .str),.str s] (.bool (decide (s∈xs))):=Zab3 false xs s hn
def Tc:List Yp:=[[97,110,100],[111,114],[110,111,116],[105,116,101],[116,114,117,101],[102,97,108,115,101],[108,101,116],[102,111,114,97,108,108],[101,120,105,115,116,115],[100,105,115,116,105,110,99,116],[100,105,118],[109,111,100],[115,101,108,101,99,116],[115,116,111,114,101],[99,111,110,115,116],[66,111,111,108],[73,110,116],[82,101,97,108],[65,114,114,97,121]]
theorem Z4a:Xy vE 87 [] (.lst 9 (Tc.map .str)):=by
 intro K H
 refine Zh (fn:=Tryz.f87) rfl Tryz.func87 rfl rfl (by simp) (by simp) ?_ (by simp [*])
 simp [Tryz.f87,Ztm]
 rfl
def Zhg (c:Nat):Bool:=Zfy c||c==95||c==36||c==33
def okR (z:Bool) (c:Nat):Bool:=Zhg c||(!z&&((decide (48<=c)&&decide (c<=57))||c==46||c==64))
def Zej:Nat->Yp->Bool
 | _,[]=>true
 | k,c::r=>okR (k==0) c&&Zej (k+1) r
def Xs (s:Yp):Bool:=!(s==[])&&decide (s.length<=40)&&!decide (s∈Tc)&&Zej 0 s
theorem Zu5 {k c:Nat}:okR (k==0) c=true↔Zfy c=true\/c=95\/c=36\/c=33\/(k≠0/\((48<=c/\c<=57)\/c=46\/c=64)):=by
 simp [okR,Zhg]
 constructor
 .rintro ((((h | h) | h) | h) | h)<;>simp [h]
  rcases h.2 with (h | h) | h<;>simp [h]
 .rintro (h | h | h | h | ⟨h,h' | h' | h'⟩)<;>simp [*]
theorem Zmc (s:Yp) (i:Nat) (h:i < s.length):Zej i (s.drop i)=(okR (i==0) s[i]&&Zej (i+1) (s.drop (i+1))):=by
 rw [List.drop_eq_getElem_cons h];rfl
theorem Zaeh (s:Yp) (hn:s.length < 2^62):Xy vE 30 [.str s] (.bool (Xs s)):=by
 intro K H
 refine Zh (fn:=Tryz.f30) rfl Tryz.func30 rfl rfl (by simp) (by simp) ?_ (by simp [*])
 have h84:∀ s,Xy vE 84 [.lst 9 (Tc.map .str),.str s] (.bool (decide (s∈Tc))):=fun s=>Zad9 Tc s (by decide)
 ((try simp (disch:=first|omega|(simp<;>omega)|fail) [*,Ze,Tryz.f30,Z4a,h84]);repeat'(first|refine Z8 ?_|refine Z9 ?_|refine Z0 ?_|refine Z1 fun _=>?_|refine Z2 fun _ _=>?_|refine Z3 (fun _=>?_) fun _ _=>?_|refine Z4 fun _=>?_|refine Z5 fun _=>?_|refine Z6 (fun _=>?_) fun _=>?_|refine Z7 (fun _=>?_) fun _=>?_)<;>(try simp (disch:=first|omega|(simp<;>omega)|fail) [*,Ze,Tryz.f30,Z4a,h84]))
 .simp [Xs, *]
 .rename_i h
  have:¬ s.length<=40:=by omega
  simp [Xs,this]
 .simp [Xs, *]
 rename_i Ys hle hnr
 clear h84
 refine Ya [0] (fun n sl h=>∃ i:Nat,n=s.length - i/\i<=s.length/\sl 3=some (.int .i64 i)/\Zej 0 s=Zej i (s.drop i)) s.length rfl ⟨0,by simp⟩ ?_
 rintro n sl h hf ⟨i,hn',hi,h3,hs⟩
 simp at hf
 have hle':s.length<=40:=by omega
 have Zlo:s≠[]:=by (first|done|omega|(simp at *;done)|(simp at *;omega)|(simp at *;rw [Bool.eq_iff_iff];simp;omega))
 have Zhy:Xs s=Zej i (s.drop i):=by simp [Xs,hle',Zlo,hnr,hs]
 replace hs:=Hide.mk hs
 clear Ys hnr
 by_cases hlt:i < s.length
 .rw [Zmc s i hlt] at Zhy
  rw [Zhy]
  have Xi:okR (i==0) s[i]=true->(∃ m,m < s.length - i/\∃ i_1:Nat,m=s.length - i_1/\i_1<=s.length/\(i:Int)+1=i_1/\Zej 0 s=Zej i_1 (s.drop i_1)):=fun hk=>⟨s.length - (i+1),by omega,i+1,rfl,by omega,rfl,by rw [hs.get,Zmc s i hlt,hk];rfl⟩
  generalize hP:Zej (i+1) (s.drop (i+1))=P at *
  clear Zhy
  replace Xi:=Hide.mk Xi
  ((try simp (disch:=first|omega|(simp<;>omega)|fail) [*,Ze,Z39]);repeat'(first|refine Z8 ?_|refine Z9 ?_|refine Z0 ?_|refine Z1 fun _=>?_|refine Z2 fun _ _=>?_|refine Z3 (fun _=>?_) fun _ _=>?_|refine Z4 fun _=>?_|refine Z5 fun _=>?_|refine Z6 (fun _=>?_) fun _=>?_|refine Z7 (fun _=>?_) fun _=>?_)<;>(try simp (disch:=first|omega|(simp<;>omega)|fail) [*,Ze,Z39]))
  all_goals first
   | (exfalso;omega)
   | (refine Xi.get ?_
      rw [Zu5]
      first | (left;assumption) | (right;omega))
   | (have hk:¬ okR (i==0) s[i]=true:=by
       rw [Zu5]
       rintro (hh | hh)
       .simp_all
       .omega
      simp only [Bool.not_eq_true] at hk
      simp [hk]
      done)
   | trace_state
 .have:s.drop i=[]:=List.drop_eq_nil_of_le (by omega)
  rw [this] at Zhy
  ((try simp (disch:=first|omega|(simp<;>omega)|fail) [*,Ze,Zhy,Zej]);repeat'(first|refine Z8 ?_|refine Z9 ?_|refine Z0 ?_|refine Z1 fun _=>?_|refine Z2 fun _ _=>?_|refine Z3 (fun _=>?_) fun _ _=>?_|refine Z4 fun _=>?_|refine Z5 fun _=>?_|refine Z6 (fun _=>?_) fun _=>?_|refine Z7 (fun _=>?_) fun _=>?_)<;>(try simp (disch:=first|omega|(simp<;>omega)|fail) [*,Ze,Zhy,Zej]))
end Go.Proofs.YtabcdhcpilpojaaGreatDoor
end
section
set_option maxRecDepth 20000
namespace Go.Proofs.YtabcdhcpilpojaaGreatDoor
open Go Go.Pure
open Go.Virt (Ex Ctx Ty TK)
def Zi (n:Nat):Yp:=if n < 10 then [48+n] else Zi (n / 10)++[48+n % 10]
def Ztf (v:Int) (n:Nat):Nat:=(IntKind.u64.wrap v).toNat % n
theorem Zu8 (v:Int) {n:Nat} (h:0 < n):Ztf v n < n:=Nat.mod_lt _ h
theorem Zaei (v:Int) (n:Nat) (h0:0 < n) (hn:n < 2^62):Xy vE 27 [.int .i64 v,.int .i64 n] (.int .i64 (Ztf v n)):=by
 intro K H
 refine Zh (fn:=Tryz.f27) rfl Tryz.func27 rfl rfl (by simp) (by simp) ?_ (by simp [*])
 have h1:IntKind.u64.wrap n=n:=Zly (by omega) (by omega)
 have h2:(IntKind.u64.wrap v).tmod n=Ztf v n:=by
  have:=@wrap_u64 v
  rw [Int.tmod_eq_emod_of_nonneg this.1]
  unfold Ztf
  rw [Int.natCast_emod,Int.toNat_of_nonneg this.1]
 have h3:IntKind.i64.wrap (Ztf v n)=Ztf v n:=wrap_i64 (by omega) (by have:=Zu8 v h0;omega)
 have h4:n≠0:=by omega
 ((try simp (disch:=first|omega|(simp<;>omega)|fail) [*,Ze,Tryz.f27,h1,h2,h3]);repeat'(first|refine Z8 ?_|refine Z9 ?_|refine Z0 ?_|refine Z1 fun _=>?_|refine Z2 fun _ _=>?_|refine Z3 (fun _=>?_) fun _ _=>?_|refine Z4 fun _=>?_|refine Z5 fun _=>?_|refine Z6 (fun _=>?_) fun _=>?_|refine Z7 (fun _=>?_) fun _=>?_)<;>(try simp (disch:=first|omega|(simp<;>omega)|fail) [*,Ze,Tryz.f27,h1,h2,h3]))
def R8 (n:Int):Yp:=if n < 0 then 45::Zi n.natAbs else Zi n.natAbs
theorem Zyw {N m:Nat} {s:Yp} (h1:s=[]->m=N) (h3:s=[]\/if m=0 then s=Zi N else Zi N=Zi m++s) (h:m≠0\/s=[]):
  if m / 10=0 then (48+m % 10)::s=Zi N else Zi N=Zi (m / 10)++(48+m % 10)::s:=by
 have hd:Zi N=Zi m++s:=by
  rcases h3 with h3 | h3
  .rw [h3,h1 h3];simp
  .by_cases hm:m=0
   .rcases h with h | h
    .exact absurd hm h
    .rw [h,h1 h];simp
   .simpa [hm] using h3
 split
 .rename_i hz
  rw [hd,Zi,if_pos (by omega),Nat.mod_eq_of_lt (by omega)]
  rfl
 .rename_i hz
  rw [hd]
  conv=>lhs;rw [Zi]
  rw [if_neg (by omega),List.append_assoc]
  rfl
theorem T6 (n:Int) (hn1 : -4611686018427387904 < n) (hn2:n < 4611686018427387904):Xy vE 38 [.int .i64 n] (.str (R8 n)):=by
 intro K H
 refine Zh (fn:=Tryz.f38) rfl Tryz.func38 rfl rfl (by simp) (by simp) ?_ (by simp [*])
 ((try simp (disch:=first|omega|(simp<;>omega)|fail) [*,Ze,Tryz.f38]);repeat'(first|refine Z8 ?_|refine Z9 ?_|refine Z0 ?_|refine Z1 fun _=>?_|refine Z2 fun _ _=>?_|refine Z3 (fun _=>?_) fun _ _=>?_|refine Z4 fun _=>?_|refine Z5 fun _=>?_|refine Z6 (fun _=>?_) fun _=>?_|refine Z7 (fun _=>?_) fun _=>?_)<;>(try simp (disch:=first|omega|(simp<;>omega)|fail) [*,Ze,Tryz.f38]))
 refine Ya [0] (fun q sl h=>∃ (m:Nat) (s:Yp),q=m+(if s=[] then 1 else 0)/\(s=[]->m=n.natAbs)/\m<=n.natAbs/\s.length+m < 2^62/\(s=[]\/(if m=0 then s=Zi n.natAbs else Zi n.natAbs=Zi m++s))/\sl 4=some (.int .i64 (if n < 0 then -(m:Int) else m))/\sl 3=some (.str s)) (n.natAbs+1) rfl ⟨n.natAbs,[],by simp,by simp,by simp,by simp;omega,by simp,?_,by simp⟩ ?_
 .simp
  omega
 rintro q sl h hf ⟨m,s,hm,h1,h2,hb,h3,h4,h5⟩
 simp at hf
 have hq:((if n < 0 then -(m:Int) else m)).tmod 10=(if n < 0 then -((m % 10:Nat):Int) else ((m % 10:Nat):Int)):=by
  split
  .rw [Int.neg_tmod,Int.tmod_eq_emod_of_nonneg (by omega)];omega
  .rw [Int.tmod_eq_emod_of_nonneg (by omega)];omega
 have hq4:((if n < 0 then -(m:Int) else m)).tdiv 10=(if n < 0 then -((m / 10:Nat):Int) else ((m / 10:Nat):Int)):=by
  split
  .rw [Int.neg_tdiv,Int.tdiv_eq_ediv_of_nonneg (by omega)];omega
  .rw [Int.tdiv_eq_ediv_of_nonneg (by omega)];omega
 have Zaiw:(m≠0\/s=[])->(m / 10 < m+if s=[] then 1 else 0)/\(s.length+1)+m / 10 < 4611686018427387904/\(if m / 10=0 then (48+m % 10)::s=Zi n.natAbs else Zi n.natAbs=Zi (m / 10)++(48+m % 10)::s):=fun hh=>by
  refine ⟨?_,?_,Zyw h1 h3 hh⟩
  .split
   .omega
   .rcases hh with hh | hh
    .omega
    .contradiction
  .rcases hh with hh | hh
   .omega
   .subst hh;simp at hb ⊢;omega
 generalize hv:(if n < 0 then -(m:Int) else m)=v at *
 by_cases hneg:n < 0
 all_goals (
  simp only [hneg,if_true,if_false] at hv hq hq4
  ((try simp (disch:=first|omega|(simp<;>omega)|fail) [*,Ze,hq,hq4, -Int.natCast_emod, -Int.natCast_ediv]);repeat'(first|refine Z8 ?_|refine Z9 ?_|refine Z0 ?_|refine Z1 fun _=>?_|refine Z2 fun _ _=>?_|refine Z3 (fun _=>?_) fun _ _=>?_|refine Z4 fun _=>?_|refine Z5 fun _=>?_|refine Z6 (fun _=>?_) fun _=>?_|refine Z7 (fun _=>?_) fun _=>?_)<;>(try simp (disch:=first|omega|(simp<;>omega)|fail) [*,Ze,hq,hq4, -Int.natCast_emod, -Int.natCast_ediv]))
  all_goals first
   | (obtain ⟨F1,F2,F3⟩:=Zaiw (by first | (left;omega) | (right;simp_all;done))
      refine ⟨m / 10,F1,m / 10,(48+m % 10)::s,by simp,by simp,by omega,by simpa using F2,Or.inr F3,by omega,by congr 1;omega⟩)
   | (have hs0:s≠[]:=by simp_all
      have hm0:m=0:=by omega
      rcases h3 with h3 | h3
      .exact absurd h3 hs0
      .rw [if_pos hm0] at h3
       simp [R8,hneg,h3])
   | (exfalso;omega)
   | trace_state)
end Go.Proofs.YtabcdhcpilpojaaGreatDoor
end
section
set_option maxRecDepth 20000
namespace Go.Proofs.YtabcdhcpilpojaaGreatDoor
open Go Go.Pure
open Go.Virt (Ex Ctx Ty TK)
theorem Zi2 (c:Nat):Xy vE 126 [.int .u8 c] (.bool (Zhg c)):=by
 intro K H
 refine Zh (fn:=Tryz.f126) rfl Tryz.func126 rfl rfl (by simp) (by simp) ?_ (by simp [*])
 ((try simp (disch:=first|omega|(simp<;>omega)|fail) [*,Ze,Tryz.f126]);repeat'(first|refine Z8 ?_|refine Z9 ?_|refine Z0 ?_|refine Z1 fun _=>?_|refine Z2 fun _ _=>?_|refine Z3 (fun _=>?_) fun _ _=>?_|refine Z4 fun _=>?_|refine Z5 fun _=>?_|refine Z6 (fun _=>?_) fun _=>?_|refine Z7 (fun _=>?_) fun _=>?_)<;>(try simp (disch:=first|omega|(simp<;>omega)|fail) [*,Ze,Tryz.f126]))
 all_goals (rw [Bool.eq_iff_iff];simp [Zhg,Zfy];omega)
theorem Zwn (s:Yp):Xy vE 127 [.str s] (.bool (decide (s∈Tc))):=by
 intro K H
 refine Zh (fn:=Tryz.f127) rfl Tryz.func127 rfl rfl (by simp) (by simp) ?_ (by simp [*])
 ((try simp (disch:=first|omega|(simp<;>omega)|fail) [*,Ze,Tryz.f127]);repeat'(first|refine Z8 ?_|refine Z9 ?_|refine Z0 ?_|refine Z1 fun _=>?_|refine Z2 fun _ _=>?_|refine Z3 (fun _=>?_) fun _ _=>?_|refine Z4 fun _=>?_|refine Z5 fun _=>?_|refine Z6 (fun _=>?_) fun _=>?_|refine Z7 (fun _=>?_) fun _=>?_)<;>(try simp (disch:=first|omega|(simp<;>omega)|fail) [*,Ze,Tryz.f127]))
 all_goals simp_all [Tc]
theorem Zu6 {c:Nat}:okR false c=true↔Zhg c=true\/(48<=c/\c<=57)\/c=46\/c=64:=by
 simp [okR,or_assoc]
theorem Z0w (s:Yp) (k:Nat):Zej (k+1) s=s.all (okR false):=by
 induction s generalizing k with
 | nil=>rfl
 | cons c s ih=>simp [Zej,ih]
theorem Zxk (s:Yp):Xs s=true↔∃ c r,s=c::r/\s.length<=40/\s∉Tc/\Zhg c=true/\∀ d∈s,okR false d=true:=by
 cases s with
 | nil=>simp [Xs]
 | cons c r=>
   simp [Xs,Zej,Z0w,okR,and_assoc]
   intros
   left;assumption
theorem Z4b (s:Yp) (hn:s.length < 2^62):Xy vE 85 [.str s] (.bool (Xs s)):=by
 intro K H
 refine Zh (fn:=Tryz.f85) rfl Tryz.func85 rfl rfl (by simp) (by simp) ?_ (by simp [*])
 cases s with
 | nil=>((try simp (disch:=first|omega|(simp<;>omega)|fail) [*,Ze,Tryz.f85,Xs]);repeat'(first|refine Z8 ?_|refine Z9 ?_|refine Z0 ?_|refine Z1 fun _=>?_|refine Z2 fun _ _=>?_|refine Z3 (fun _=>?_) fun _ _=>?_|refine Z4 fun _=>?_|refine Z5 fun _=>?_|refine Z6 (fun _=>?_) fun _=>?_|refine Z7 (fun _=>?_) fun _=>?_)<;>(try simp (disch:=first|omega|(simp<;>omega)|fail) [*,Ze,Tryz.f85,Xs]))
 | cons c0 s0=>
 have hn':s0.length+1 < 2^62:=hn
 have hno:∀ {P:Prop},(Xs (c0::s0)=true->P)->¬ P->Xs (c0::s0)=false:=fun h1 h2=>by
  cases hh:Xs (c0::s0) with
  | true=>exact absurd (h1 hh) h2
  | false=>rfl
 have hi:=Zxk (c0::s0)
 have hl:0 < (c0::s0).length:=by simp
 have h0:(c0::s0)[0]'hl=c0:=rfl
 replace hi:=Hide.mk hi
 replace hno:=Hide.mk @hno
 have hS:∀ c r,c0::s0=c::r->c=c0:=fun c r e=>by cases e;rfl
 have hE:(c0::s0).isEmpty=false:=rfl
 generalize c0::s0=S at *
 replace hS:=Hide.mk hS
 have Zdq:∀ (j:Nat) (hj:j < S.length),okR false S[j]=false->Xs S=false:=fun j hj h=>
  hno.get (fun h1=>(hi.get.1 h1)) (by rintro ⟨c,r,_,_,_,_,h5⟩;rw [h5 _ (List.getElem_mem hj)] at h;cases h)
 replace Zdq:=Hide.mk Zdq
 ((try simp (disch:=first|omega|(simp<;>omega)|fail) [*,Ze,Tryz.f85,Zi2,Zwn]);repeat'(first|refine Z8 ?_|refine Z9 ?_|refine Z0 ?_|refine Z1 fun _=>?_|refine Z2 fun _ _=>?_|refine Z3 (fun _=>?_) fun _ _=>?_|refine Z4 fun _=>?_|refine Z5 fun _=>?_|refine Z6 (fun _=>?_) fun _=>?_|refine Z7 (fun _=>?_) fun _=>?_)<;>(try simp (disch:=first|omega|(simp<;>omega)|fail) [*,Ze,Tryz.f85,Zi2,Zwn]))
 .exact hno.get (fun h1=>(hi.get.1 h1)) (by rintro ⟨c,r,_,h2,_⟩;omega)
 .rename_i h1 h2 h3
  exact hno.get (fun h1=>(hi.get.1 h1)) (by rintro ⟨c,r,_,_,h4,_⟩;exact h4 h3)
 rotate_left 1
 .rename_i h1 h2
  exact hno.get (fun h1=>(hi.get.1 h1)) (by rintro ⟨c,r,e,_,_,h5,_⟩;rw [hS.get c r e,h2] at h5;cases h5)
 rename_i h1 h2 h3
 refine Ya [0,23] (fun n sl h=>∃ i:Nat,n=S.length - i/\i<=S.length/\sl 24=some (.int .i64 i)/\∀ j (hj:j < S.length),j < i->okR false S[j]=true) S.length rfl ⟨0,by simp⟩ ?_
 rintro n sl h hf ⟨i,hn',Sv,h24,hd⟩
 simp at hf
 replace hd:=Hide.mk hd
 by_cases hlt:i < S.length
 . ((try simp (disch:=first|omega|(simp<;>omega)|fail) [*,Ze,Zi2]);repeat'(first|refine Z8 ?_|refine Z9 ?_|refine Z0 ?_|refine Z1 fun _=>?_|refine Z2 fun _ _=>?_|refine Z3 (fun _=>?_) fun _ _=>?_|refine Z4 fun _=>?_|refine Z5 fun _=>?_|refine Z6 (fun _=>?_) fun _=>?_|refine Z7 (fun _=>?_) fun _=>?_)<;>(try simp (disch:=first|omega|(simp<;>omega)|fail) [*,Ze,Zi2]))
   all_goals first
    | (exfalso;omega)
    | (refine ⟨_,by omega,i+1,rfl,by omega,rfl,fun j hj hji=>?_⟩
       by_cases e':j=i
       .subst e';rw [Zu6];first | (left;assumption) | (right;omega)
       .exact hd.get j hj (by omega))
    | (refine Zdq.get i hlt ?_
       rw [Bool.eq_false_iff,Ne,Zu6]
       rintro (hh | hh)
       .simp_all
       .omega)
 . ((try simp (disch:=first|omega|(simp<;>omega)|fail) [*,Ze]);repeat'(first|refine Z8 ?_|refine Z9 ?_|refine Z0 ?_|refine Z1 fun _=>?_|refine Z2 fun _ _=>?_|refine Z3 (fun _=>?_) fun _ _=>?_|refine Z4 fun _=>?_|refine Z5 fun _=>?_|refine Z6 (fun _=>?_) fun _=>?_|refine Z7 (fun _=>?_) fun _=>?_)<;>(try simp (disch:=first|omega|(simp<;>omega)|fail) [*,Ze]))
   rw [hi.get]
   obtain ⟨c,r,rfl⟩:∃ c r,S=c::r:=by
    cases S with
    | nil=>simp at hl
    | cons c r=>exact ⟨c,r,rfl⟩
   refine ⟨c,r,rfl,by omega,h3,?_,fun d hdm=>?_⟩
   .have:=hS.get c r rfl
    rw [this];exact h2
   .obtain ⟨j,hj,rfl⟩:=List.getElem_of_mem hdm
    exact hd.get j hj (by omega)
end Go.Proofs.YtabcdhcpilpojaaGreatDoor
end
section
namespace Go.Proofs.YtabcdhcpilpojaaGreatDoor
open Go
def Z7o (c:Nat):Bool:=decide (48<=c)&&decide (c<=57)
theorem Z3k {c:Nat}:Z7o c=true↔48<=c/\c<=57:=by simp [Z7o]
def Si (s:Yp):Bool:=s.all Z7o
theorem Yk {s:Yp}:Si s=true↔∀ c∈s,48<=c/\c<=57:=by simp [Si,Z3k]
def Zic (a:Nat) (s:Yp):Nat:=s.foldl (fun a c=>a*10+(c - 48)) a
theorem V6 (a:Nat):Zic a []=a:=rfl
theorem Uj (a c:Nat) (r:Yp):Zic a (c::r)=Zic (a*10+(c - 48)) r:=by simp only [Zic,List.foldl_cons]
def Yh (s:Yp):Nat:=Zic 0 s
theorem Zpw (a:Nat) (s t:Yp):Zic a (s++t)=Zic (Zic a s) t:=by
 induction s generalizing a with
 | nil=>rfl
 | cons c s ih=>rw [List.cons_append,Uj,Uj,ih]
theorem Zuv (a:Nat) (s:Yp):Zic a s=a*10^s.length+Yh s:=by
 induction s generalizing a with
 | nil=>simp [V6,Yh]
 | cons c s ih=>
   rw [Yh,Uj,Uj,ih,ih (0*10+(c - 48)),List.length_cons,Nat.pow_succ]
   generalize 10^s.length=P
   rw [Nat.add_mul,Nat.zero_mul,Nat.zero_add,Nat.mul_assoc,Nat.mul_comm 10]
   omega
theorem Sg (c:Nat) (s:Yp):Yh (c::s)=(c - 48)*10^s.length+Yh s:=by
 rw [Yh,Uj,Zuv];simp
theorem Zhp (s t:Yp):Yh (s++t)=Yh s*10^t.length+Yh t:=by rw [Yh,Zpw,Zuv];rfl
theorem Ui (s:Yp) (c:Nat):Yh (s++[c])=Yh s*10+(c - 48):=by rw [Zhp];simp [Yh,V6,Uj]
theorem Ze6 {s:Yp} (h:Si s=true):Yh s < 10^s.length:=by
 induction s with
 | nil=>simp [Yh,V6,Uj]
 | cons c s ih=>
   have hc:=(Yk.1 h) c List.mem_cons_self
   have hs:Si s=true:=Yk.2 fun d hd=>Yk.1 h d (List.mem_cons_of_mem _ hd)
   have h1:=ih hs
   rw [Sg,List.length_cons,Nat.pow_succ]
   have h2:(c - 48)*10^s.length<=9*10^s.length:=Nat.mul_le_mul_right _ (by omega)
   omega
theorem Qz (n:Nat):Zi n≠[]:=by rw [Zi];split<;>simp
theorem Wb (n:Nat):Si (Zi n)=true:=by
 induction n using Nat.strongRecOn with
 | _ n ih=>
   rw [Zi]
   split
   .rw [Yk];intro c hc;simp at hc;omega
   .have:=ih (n / 10) (by omega)
    rw [Yk] at this ⊢
    intro c hc
    rcases List.mem_append.1 hc with h | h
    .exact this c h
    .simp at h;omega
theorem Y8 (n:Nat):Yh (Zi n)=n:=by
 induction n using Nat.strongRecOn with
 | _ n ih=>
   rw [Zi]
   split
   .simp [Yh,V6,Uj]
   .rw [Ui,ih (n / 10) (by omega)];omega
theorem Zcq {a b:Nat} (h:Zi a=Zi b):a=b:=by rw [<- Y8 a,<- Y8 b,h]
theorem Zhk (n:Nat):n=0\/∃ c r,Zi n=c::r/\49<=c/\c<=57:=by
 induction n using Nat.strongRecOn with
 | _ n ih=>
   rcases Nat.eq_zero_or_pos n with h | h
   .exact Or.inl h
   .right
    rw [Zi]
    split
    .exact ⟨48+n,[],rfl,by omega,by omega⟩
    .rcases ih (n / 10) (by omega) with h' | ⟨c,r,h1,h2,h3⟩
     .omega
     .exact ⟨c,r++[48+n % 10],by rw [h1];rfl,h2,h3⟩
theorem Ve:Zi 0=[48]:=by rw [Zi,if_pos (by omega)]
theorem Zgi:Zi 1=[49]:=by rw [Zi,if_pos (by omega)]
theorem Vp (n:Nat):1<=(Zi n).length:=by
 cases h:Zi n with
 | nil=>exact absurd h (Qz n)
 | cons c r=>simp
theorem Sy {n k:Nat} (hk:0 < k) (h:n < 10^k):(Zi n).length<=k:=by
 induction k generalizing n with
 | zero=>omega
 | succ k ih=>
   rw [Zi]
   split
   .simp
   .rcases Nat.eq_zero_or_pos k with rfl | hk'
    .omega
    .rw [Nat.pow_succ] at h
     have:=ih hk' (n:=n / 10) (by omega)
     simp only [List.length_append,List.length_cons,List.length_nil]
     omega
theorem Xx (n:Nat):n < 10^(Zi n).length:=by
 have:=Ze6 (Wb n)
 rwa [Y8] at this
theorem X6 {a b:Nat} (h:a<=b):(Zi a).length<=(Zi b).length:=by
 rcases Nat.eq_zero_or_pos a with rfl | ha
 .rw [Ve];exact Vp b
 .have h1:=Xx b
  exact Sy (Vp b) (by omega)
def Tm:Yp->Yp
 | []=>[]
 | [c]=>[c]
 | c::d::r=>if c=48 then Tm (d::r) else c::d::r
theorem Zm9 {s:Yp} (h:Si s=true) (Ys:s≠[]) (h0:s=[48]\/∀ r,s≠48::r):Zi (Yh s)=s:=by
 have key:∀ (k:Nat) (s:Yp),s.length=k->Si s=true->s≠[]->(s=[48]\/∀ r,s≠48::r)->Zi (Yh s)=s:=by
  intro k
  induction k with
  | zero=>intro s hl _ Ys _;exact absurd (List.length_eq_zero_iff.1 hl) Ys
  | succ k ih=>
    intro s hl hd Ys h0
    rcases List.eq_nil_or_concat s with rfl | ⟨t,c,rfl⟩
    .exact absurd rfl Ys
    .rw [List.concat_eq_append] at *
     have hc:=Yk.1 hd c (by simp)
     have ht:Si t=true:=Yk.2 fun d hdd=>Yk.1 hd d (List.mem_append_left _ hdd)
     rw [Ui]
     by_cases htn:t=[]
     .subst htn
      simp only [Yh,V6,Uj,Nat.zero_mul,Nat.zero_add,List.nil_append]
      rw [Zi,if_pos (by omega)]
      congr 1
      omega
     .have h0t:t=[48]\/∀ r,t≠48::r:=by
       right
       rintro r rfl
       rcases h0 with h0 | h0
       .simp at h0
       .exact h0 (r++[c]) rfl
      have e:=ih t (by simp at hl;omega) ht htn h0t
      have U4:1<=Yh t:=by
       rcases Nat.eq_zero_or_pos (Yh t) with hz | hz
       .rw [hz,Ve] at e
        rcases h0t with h0t | h0t
        .subst h0t
         rcases h0 with h0 | h0
         .simp at h0
         .exact absurd rfl (h0 [c])
        .exact absurd e.symm (h0t [])
       .exact hz
      rw [Zi,if_neg (by omega)]
      have e1:(Yh t*10+(c - 48)) / 10=Yh t:=by omega
      have e2:48+(Yh t*10+(c - 48)) % 10=c:=by omega
      rw [e1,e2,e]
 exact key s.length s rfl h Ys h0
theorem V8 {s:Yp} (h:Si s=true) (Ys:s≠[]):Tm s=Zi (Yh s):=by
 induction s with
 | nil=>exact absurd rfl Ys
 | cons c s ih=>
   cases s with
   | nil=>
     rw [Tm]
     refine (Zm9 h Ys ?_).symm
     by_cases hc:c=48
     .left;rw [hc]
     .right;rintro r e;cases e;exact hc rfl
   | cons d r=>
     rw [Tm]
     split
     .rename_i hc
      subst hc
      have hs:Si (d::r)=true:=Yk.2 fun x hx=>Yk.1 h x (List.mem_cons_of_mem _ hx)
      rw [ih hs (by simp),Sg 48]
      simp
     .rename_i hc
      refine (Zm9 h Ys ?_).symm
      right;rintro r' e;cases e;exact hc rfl
theorem Z5p {s:Yp} (hs:Si s=true) {i:Nat} (h:i < s.length):s[s.length - 1 - i]'(by omega)=48+Yh s / 10^i % 10:=by
 have key:∀ (k:Nat) (s:Yp),s.length=k->Si s=true->∀ (i:Nat) (h:i < s.length),s[s.length - 1 - i]'(by omega)=48+Yh s / 10^i % 10:=by
  intro k
  induction k with
  | zero=>intro s hl _ i h;omega
  | succ k ih=>
    intro s hl hd i h
    rcases List.eq_nil_or_concat s with rfl | ⟨t,c,rfl⟩
    .simp at h
    .simp only [List.concat_eq_append] at *
     have hc:=Yk.1 hd c (by simp)
     have ht:Si t=true:=Yk.2 fun d hdd=>Yk.1 hd d (List.mem_append_left _ hdd)
     have hlt:t.length=k:=by simpa using hl
     rw [Ui]
     cases i with
     | zero=>
       have:(t++[c])[(t++[c]).length - 1 - 0]'(by omega)=c:=by simp
       rw [this,Nat.pow_zero,Nat.div_one];omega
     | succ i=>
       have hi:i < t.length:=by simp at h;omega
       have e:=ih t hlt ht i hi
       have e1:(t++[c])[(t++[c]).length - 1 - (i+1)]'(by omega)=t[t.length - 1 - i]'(by omega):=by
        rw [List.getElem_append_left (by simp;omega)]
        congr 1
        simp;omega
       have e2:(Yh t*10+(c - 48)) / 10^(i+1)=(Yh t*10+(c - 48)) / 10 / 10^i:=by
        rw [Nat.pow_succ,Nat.mul_comm (10^i),Nat.div_div_eq_div_mul]
       have:(Yh t*10+(c - 48)) / 10=Yh t:=by omega
       rw [e1,e,e2,this]
 exact key s.length s rfl hs i h
theorem Ziz {a i:Nat} (h:i < (Zi a).length):(Zi a)[(Zi a).length - 1 - i]'(by omega)=48+a / 10^i % 10:=by
 rw [Z5p (Wb a) h,Y8]
theorem Zhj {a i:Nat} (h:(Zi a).length<=i):a / 10^i=0:=by
 have h1:=Xx a
 exact Nat.div_eq_of_lt (Nat.lt_of_lt_of_le h1 (Nat.pow_le_pow_right (by omega) h))
theorem Rh {a i:Nat} (h:(Zi a).length<=i):a % 10^i=a:=by
 have h1:=Xx a
 exact Nat.mod_eq_of_lt (Nat.lt_of_lt_of_le h1 (Nat.pow_le_pow_right (by omega) h))
theorem Rg (a i:Nat):a % 10^(i+1)=a % 10^i+(a / 10^i % 10)*10^i:=by
 rw [Nat.mod_pow_succ,Nat.mul_comm]
theorem Z4h {a b c i v:Nat} (h:v+c*10^i=a % 10^i+b % 10^i):
  (c+a / 10^i % 10+b / 10^i % 10) % 10*10^i+v+(c+a / 10^i % 10+b / 10^i % 10) / 10*10^(i+1)=a % 10^(i+1)+b % 10^(i+1):=by
 rw [Rg,Rg,Nat.pow_succ]
 generalize 10^i=P at *
 generalize a / P % 10=x
 generalize b / P % 10=y
 have e:(c+x+y) / 10*(P*10)=(c+x+y) / 10*10*P:=by rw [Nat.mul_comm P,Nat.mul_assoc]
 have e2:(c+x+y) % 10*P+(c+x+y) / 10*10*P=(c+x+y)*P:=by
  rw [<- Nat.add_mul];congr 1;omega
 have e3:(c+x+y)*P=c*P+x*P+y*P:=by rw [Nat.add_mul,Nat.add_mul]
 omega
theorem Zrw {x b:Nat} (h:x < 10*b):(Zi x).length<=(Zi b).length+1:=by
 have h1:=Xx b
 refine Sy (by omega) ?_
 rw [Nat.pow_succ]
 omega
theorem Zh6 {d:Nat}:Zi d=[49]↔d=1:=by
 constructor
 .intro e;rw [<- Zgi] at e;exact Zcq e
 .rintro rfl;exact Zgi
theorem Up {d:Nat}:Zi d=[48]↔d=0:=by
 constructor
 .intro e;rw [<- Ve] at e;exact Zcq e
 .rintro rfl;exact Ve
end Go.Proofs.YtabcdhcpilpojaaGreatDoor
end
section
set_option maxRecDepth 20000
namespace Go.Proofs.YtabcdhcpilpojaaGreatDoor
open Go Go.Pure
open Go.Virt (Ex Ctx Ty TK)
def Vq (s:Yp):Bool:=Si s&&!(s==[])
theorem Zd5 {s:Yp} {i:Nat} (hi:i < s.length) (h:s[i] < 48\/57 < s[i]):Vq s=false:=by
 have:Si s=false:=by
  rw [<- Bool.not_eq_true,Yk]
  intro hh
  have:=hh s[i] (List.getElem_mem hi)
  omega
 rw [Vq,this];rfl
theorem Zcr {s:Yp}:Vq s=true↔Si s=true/\s≠[]:=by simp [Vq]
theorem Zwh (s:Yp) (hn:s.length < 2^62):Xy vE 165 [.str s] (.bool (Vq s)):=by
 intro K H
 refine Zh (fn:=Tryz.f165) rfl Tryz.func165 rfl rfl rfl rfl ?_ rfl
 ((try simp (disch:=first|omega|(simp<;>omega)|fail) [*,Ze,Tryz.f165]);repeat'(first|refine Z8 ?_|refine Z9 ?_|refine Z0 ?_|refine Z1 fun _=>?_|refine Z2 fun _ _=>?_|refine Z3 (fun _=>?_) fun _ _=>?_|refine Z4 fun _=>?_|refine Z5 fun _=>?_|refine Z6 (fun _=>?_) fun _=>?_|refine Z7 (fun _=>?_) fun _=>?_)<;>(try simp (disch:=first|omega|(simp<;>omega)|fail) [*,Ze,Tryz.f165]))
 refine Ya [0] (fun n sl h=>∃ i:Nat,n=s.length - i/\i<=s.length/\sl 3=some (.int .i64 i)/\∀ j (hj:j < s.length),j < i->48<=s[j]/\s[j]<=57) s.length rfl ⟨0,by simp⟩ ?_
 rintro n sl h hf ⟨i,hn',hi,h3,hd⟩
 simp at hf
 replace hd:=Hide.mk hd
 by_cases hlt:i < s.length
 . ((try simp (disch:=first|omega|(simp<;>omega)|fail) [*,Ze]);repeat'(first|refine Z8 ?_|refine Z9 ?_|refine Z0 ?_|refine Z1 fun _=>?_|refine Z2 fun _ _=>?_|refine Z3 (fun _=>?_) fun _ _=>?_|refine Z4 fun _=>?_|refine Z5 fun _=>?_|refine Z6 (fun _=>?_) fun _=>?_|refine Z7 (fun _=>?_) fun _=>?_)<;>(try simp (disch:=first|omega|(simp<;>omega)|fail) [*,Ze]))
   .exact Zd5 hlt (by omega)
   .exact Zd5 hlt (by omega)
   .refine ⟨_,by omega,i+1,rfl,by omega,rfl,fun j hj hji=>?_⟩
    by_cases e:j=i
    .subst e;omega
    .exact hd.get j hj (by omega)
 . ((try simp (disch:=first|omega|(simp<;>omega)|fail) [*,Ze]);repeat'(first|refine Z8 ?_|refine Z9 ?_|refine Z0 ?_|refine Z1 fun _=>?_|refine Z2 fun _ _=>?_|refine Z3 (fun _=>?_) fun _ _=>?_|refine Z4 fun _=>?_|refine Z5 fun _=>?_|refine Z6 (fun _=>?_) fun _=>?_|refine Z7 (fun _=>?_) fun _=>?_)<;>(try simp (disch:=first|omega|(simp<;>omega)|fail) [*,Ze]))
   have:Si s=true:=Yk.2 fun c hc=>by
    obtain ⟨j,hj,rfl⟩:=List.getElem_of_mem hc
    exact hd.get j hj (by omega)
   rw [Vq,this]
   cases s<;>rfl
theorem Zbd (s:Yp) (hn:s.length < 2^62):Xy vE 166 [.str s] (.str (Tm s)):=by
 intro K H
 refine Zh (fn:=Tryz.f166) rfl Tryz.func166 rfl rfl rfl rfl ?_ rfl
 ((try simp (disch:=first|omega|(simp<;>omega)|fail) [*,Ze,Tryz.f166]);repeat'(first|refine Z8 ?_|refine Z9 ?_|refine Z0 ?_|refine Z1 fun _=>?_|refine Z2 fun _ _=>?_|refine Z3 (fun _=>?_) fun _ _=>?_|refine Z4 fun _=>?_|refine Z5 fun _=>?_|refine Z6 (fun _=>?_) fun _=>?_|refine Z7 (fun _=>?_) fun _=>?_)<;>(try simp (disch:=first|omega|(simp<;>omega)|fail) [*,Ze,Tryz.f166]))
 refine Ya [] (fun n sl h=>∃ t:Yp,n=t.length/\t.length<=s.length/\Tm t=Tm s/\sl 0=some (.str t)) s.length rfl ⟨s,by simp⟩ ?_
 rintro n sl h hf ⟨t,hn',hl,ht,h0⟩
 replace ht:=Hide.mk ht
 cases t with
 | nil=>((try simp (disch:=first|omega|(simp<;>omega)|fail) [*,Ze]);repeat'(first|refine Z8 ?_|refine Z9 ?_|refine Z0 ?_|refine Z1 fun _=>?_|refine Z2 fun _ _=>?_|refine Z3 (fun _=>?_) fun _ _=>?_|refine Z4 fun _=>?_|refine Z5 fun _=>?_|refine Z6 (fun _=>?_) fun _=>?_|refine Z7 (fun _=>?_) fun _=>?_)<;>(try simp (disch:=first|omega|(simp<;>omega)|fail) [*,Ze]));exact ht.get.symm
 | cons c t=>
   cases t with
   | nil=>((try simp (disch:=first|omega|(simp<;>omega)|fail) [*,Ze]);repeat'(first|refine Z8 ?_|refine Z9 ?_|refine Z0 ?_|refine Z1 fun _=>?_|refine Z2 fun _ _=>?_|refine Z3 (fun _=>?_) fun _ _=>?_|refine Z4 fun _=>?_|refine Z5 fun _=>?_|refine Z6 (fun _=>?_) fun _=>?_|refine Z7 (fun _=>?_) fun _=>?_)<;>(try simp (disch:=first|omega|(simp<;>omega)|fail) [*,Ze]));exact ht.get
   | cons d r=>
     ((try simp (disch:=first|omega|(simp<;>omega)|fail) [*,Ze]);repeat'(first|refine Z8 ?_|refine Z9 ?_|refine Z0 ?_|refine Z1 fun _=>?_|refine Z2 fun _ _=>?_|refine Z3 (fun _=>?_) fun _ _=>?_|refine Z4 fun _=>?_|refine Z5 fun _=>?_|refine Z6 (fun _=>?_) fun _=>?_|refine Z7 (fun _=>?_) fun _=>?_)<;>(try simp (disch:=first|omega|(simp<;>omega)|fail) [*,Ze]))
     .have:=ht.get
      rw [Tm,if_pos (by omega)] at this
      exact ⟨r.length+1,by omega,d::r,rfl,by simp at hl ⊢;omega,this,rfl⟩
     .have:=ht.get
      rw [Tm,if_neg (by omega)] at this
      exact this
theorem Z6e {s t:Yp} (hl:s.length=t.length) (hs:Si s=true) (ht:Si t=true):ltL s t=decide (Yh s < Yh t):=by
 induction s generalizing t with
 | nil=>
   cases t with
   | nil=>simp [ltL]
   | cons d t=>simp at hl
 | cons c s ih=>
   cases t with
   | nil=>simp at hl
   | cons d t=>
     have hl':s.length=t.length:=by simpa using hl
     rw [Yk] at hs ht
     have hc:=hs c List.mem_cons_self
     have hd:=ht d List.mem_cons_self
     have hs':Si s=true:=Yk.2 fun x hx=>hs x (List.mem_cons_of_mem _ hx)
     have ht':Si t=true:=Yk.2 fun x hx=>ht x (List.mem_cons_of_mem _ hx)
     have b1:=Ze6 hs'
     have b2:=Ze6 ht'
     rw [hl'] at b1
     rw [Sg,Sg,hl',ltL,ih hl' hs' ht']
     generalize hP:10^t.length=P at *
     by_cases h1:c < d
     .have e1:Nat.blt c d=true:=by simpa using h1
      rw [e1]
      have:(c - 48)*P+P<=(d - 48)*P:=by
       rw [<- Nat.succ_mul];exact Nat.mul_le_mul_right _ (by omega)
      have:Yh s+(c - 48)*P < (d - 48)*P+Yh t:=by omega
      simp;omega
     .have e1:Nat.blt c d=false:=by
       rw [<- Bool.not_eq_true,Nat.blt_eq];exact h1
      rw [e1]
      by_cases h2:d < c
      .have e2:Nat.blt d c=true:=by simpa using h2
       rw [e2]
       have:(d - 48)*P+P<=(c - 48)*P:=by
        rw [<- Nat.succ_mul];exact Nat.mul_le_mul_right _ (by omega)
       simp;omega
      .have e2:Nat.blt d c=false:=by
        rw [<- Bool.not_eq_true,Nat.blt_eq];exact h2
       rw [e2]
       have:c=d:=by omega
       subst this
       simp
theorem Zv4 {a b:Nat} (hl:(Zi a).length=(Zi b).length):ltL (Zi a) (Zi b)=decide (a < b):=by
 rw [Z6e hl (Wb a) (Wb b),Y8,Y8]
theorem Zbo {a b:Nat} (hl:(Zi a).length < (Zi b).length):a < b:=by
 rcases Nat.lt_or_ge a b with h | h
 .exact h
 .have:=X6 h;omega
def Zks (a b:Nat):Int:=if a < b then -1 else if a=b then 0 else 1
theorem Z8r (a b:Nat):Xy vE 173 [.str (Zi a),.str (Zi b)] (.int .i64 (Zks a b)):=by
 intro K H
 refine Zh (fn:=Tryz.f173) rfl Tryz.func173 rfl rfl rfl rfl ?_ rfl
 ((try simp (disch:=first|omega|(simp<;>omega)|fail) [*,Ze,Tryz.f173]);repeat'(first|refine Z8 ?_|refine Z9 ?_|refine Z0 ?_|refine Z1 fun _=>?_|refine Z2 fun _ _=>?_|refine Z3 (fun _=>?_) fun _ _=>?_|refine Z4 fun _=>?_|refine Z5 fun _=>?_|refine Z6 (fun _=>?_) fun _=>?_|refine Z7 (fun _=>?_) fun _=>?_)<;>(try simp (disch:=first|omega|(simp<;>omega)|fail) [*,Ze,Tryz.f173]))
 .rename_i h
  rw [Zks,if_pos (Zbo h)]
 .rename_i h1 h2 h3
  rw [Zv4 (by omega)] at h3
  rw [Zks,if_pos (by simpa using h3)]
 .rename_i h1 h2 h3 h4
  have:=Zcq h4
  simp [Zks,this]
 .rename_i h1 h2 h3 h5 h4
  rw [Zv4 (by omega)] at h3
  have:a≠b:=fun e=>h4 (by rw [e])
  simp at h3
  simp [Zks,this];omega
 .rename_i h1 h2 h3 h4
  have:=Zcq h4
  simp [Zks,this]
 .rename_i h1 h2 h3 h5 h4
  have:b < a:=Zbo (by omega)
  rw [Zks,if_neg (by omega),if_neg (by omega)]
theorem Zji {α:Type} {n i:Nat} {z x:α} (h:i < n):(List.replicate (n - i) z).set (n - 1 - i) x=List.replicate (n - (i+1)) z++[x]:=by
 obtain ⟨k,rfl⟩:∃ k,n=i+k+1:=⟨n - i - 1,by omega⟩
 have e1:i+k+1 - i=k+1:=by omega
 have e2:i+k+1 - 1 - i=k:=by omega
 have e3:i+k+1 - (i+1)=k:=by omega
 rw [e1,e2,e3,List.replicate_succ']
 simp
theorem Zamr (a b:Nat) (ha:(Zi a).length<=2^20) (hb:(Zi b).length<=2^20):Xy vE 172 [.str (Zi a),.str (Zi b)] (.str (Zi (a+b))):=by
 intro K H
 refine Zh (fn:=Tryz.f172) rfl Tryz.func172 rfl rfl rfl rfl ?_ rfl
 ((try simp (disch:=first|omega|(simp<;>omega)|fail) [*,Ze,Tryz.f172]);repeat'(first|refine Z8 ?_|refine Z9 ?_|refine Z0 ?_|refine Z1 fun _=>?_|refine Z2 fun _ _=>?_|refine Z3 (fun _=>?_) fun _ _=>?_|refine Z4 fun _=>?_|refine Z5 fun _=>?_|refine Z6 (fun _=>?_) fun _=>?_|refine Z7 (fun _=>?_) fun _=>?_)<;>(try simp (disch:=first|omega|(simp<;>omega)|fail) [*,Ze,Tryz.f172]))
 generalize hN:max (Zi a).length (Zi b).length=N at *
 generalize hv0:H.stamp (H.next+17)=v0
 refine Ya [0,1,5,6] (fun n sl h=>∃ (i c:Nat) (Vz:Yp),n=N+1 - i/\i<=N+1/\c<=1/\Vz.length=i/\Si Vz=true/\Yh Vz+c*10^i=a % 10^i+b % 10^i/\sl 7=some (.int .i64 c)/\sl 8=some (.int .i64 i) /\
  h.get (H.next+17)=some (v0,.row 5 true (List.replicate (N+1 - i) (.int .u8 0)++Vz.map fun c=>.int .u8 c))) (N+1) rfl ⟨0,0,[],by simp,by simp,by simp,rfl,rfl,by simp [Yh,V6,Nat.mod_one],by simp,by simp,by simp⟩ ?_
 rintro n sl h hf ⟨i,c,Vz,hn',hi,hc,Tj,hla,hv,h7,h8,hg⟩
 simp at hf
 by_cases hiN:i < N+1
 .have Xi:=Z4h hv
  replace hv:=Hide.mk hv
  have hDA:a / 10^i % 10<=9:=by omega
  have hDB:b / 10^i % 10<=9:=by omega
  have hA:∀ (hia:i < (Zi a).length),(Zi a)[(Zi a).length - 1 - i]'(by omega)=48+a / 10^i % 10:=fun hia=>Ziz hia
  have hB:∀ (hia:i < (Zi b).length),(Zi b)[(Zi b).length - 1 - i]'(by omega)=48+b / 10^i % 10:=fun hia=>Ziz hia
  have Vh:¬ i < (Zi a).length->a / 10^i % 10=0:=fun hia=>by rw [Zhj (by omega)]
  have hB':¬ i < (Zi b).length->b / 10^i % 10=0:=fun hia=>by rw [Zhj (by omega)]
  generalize a / 10^i % 10=dA at *
  generalize b / 10^i % 10=dB at *
  have hq:∀ x:Nat,(x:Int).tmod 10=((x % 10:Nat):Int):=fun x=>by rw [Int.tmod_eq_emod_of_nonneg (by omega)];omega
  have hd:∀ x:Nat,(x:Int).tdiv 10=((x / 10:Nat):Int):=fun x=>by rw [Int.tdiv_eq_ediv_of_nonneg (by omega)];omega
  have e1:∀ x:Int,x=((c+dA+dB:Nat):Int)->IntKind.i64.wrap (x.tdiv 10)=(((c+dA+dB) / 10:Nat):Int):=fun x hx=>by
   rw [hx,hd,Zpn (by omega) (by omega)]
  have e2:∀ x:Int,x=((c+dA+dB:Nat):Int)->(List.replicate (N+1 - i) (PV.int IntKind.u8 0)).set (N+1 - 1 - i) (PV.int IntKind.u8 (IntKind.u8.wrap (IntKind.i64.wrap (48+x.tmod 10))))++List.map (fun c:Nat=>PV.int IntKind.u8 c) Vz=List.replicate (N+1 - (i+1)) (.int .u8 0)++List.map (fun c:Nat=>PV.int IntKind.u8 c) ((48+(c+dA+dB) % 10)::Vz):=fun x hx=>by
   rw [hx,hq,Zpn (by omega) (by omega),Zzy (by omega) (by omega),Zji (n:=N+1) (by omega)]
   simp
  have X7:∀ x y:Int,x=((c+dA+dB:Nat):Int)->y=((c+dA+dB:Nat):Int)->∃ m,m < N+1 - i/\∃ i_1:Nat,m=N+1 - i_1/\i_1<=N+1/\∃ c1:Nat,c1<=1/\∃ l1:Yp,l1.length=i_1/\Si l1=true/\Yh l1+c1*10^i_1=a % 10^i_1+b % 10^i_1/\IntKind.i64.wrap (x.tdiv 10)=c1/\(i:Int)+1=i_1 /\
    (List.replicate (N+1 - i) (PV.int IntKind.u8 0)).set (N - i) (PV.int IntKind.u8 (IntKind.u8.wrap (IntKind.i64.wrap (48+y.tmod 10))))++List.map (fun c:Nat=>PV.int IntKind.u8 c) Vz=List.replicate (N+1 - i_1) (.int .u8 0)++List.map (fun c:Nat=>PV.int IntKind.u8 c) l1:=fun x y hx hy=>
   ⟨N - i,by omega,i+1,by omega,by omega,(c+dA+dB) / 10,by omega,(48+(c+dA+dB) % 10)::Vz,by simp;omega,by
    rw [Yk] at hla ⊢
    intro d hd
    rcases List.mem_cons.1 hd with rfl | hd
    .omega
    .exact hla d hd,by rw [Sg,Tj];have:=Xi;simpa using this,e1 x hx,by omega,e2 y hy⟩
  replace X7:=Hide.mk X7
  clear e1 e2 hq hd Xi
  by_cases hia:i < (Zi a).length
  .by_cases hib:i < (Zi b).length
   .have hA:=hA hia
    have hB:=hB hib
    clear Vh hB'
    ((try simp (disch:=first|omega|(simp<;>omega)|fail) [*,Ze]);repeat'(first|refine Z8 ?_|refine Z9 ?_|refine Z0 ?_|refine Z1 fun _=>?_|refine Z2 fun _ _=>?_|refine Z3 (fun _=>?_) fun _ _=>?_|refine Z4 fun _=>?_|refine Z5 fun _=>?_|refine Z6 (fun _=>?_) fun _=>?_|refine Z7 (fun _=>?_) fun _=>?_)<;>(try simp (disch:=first|omega|(simp<;>omega)|fail) [*,Ze]))
    refine X7.get _ _ ?_ ?_<;>omega
   .have hA:=hA hia
    have hB:=hB' hib
    clear Vh hB'
    ((try simp (disch:=first|omega|(simp<;>omega)|fail) [*,Ze]);repeat'(first|refine Z8 ?_|refine Z9 ?_|refine Z0 ?_|refine Z1 fun _=>?_|refine Z2 fun _ _=>?_|refine Z3 (fun _=>?_) fun _ _=>?_|refine Z4 fun _=>?_|refine Z5 fun _=>?_|refine Z6 (fun _=>?_) fun _=>?_|refine Z7 (fun _=>?_) fun _=>?_)<;>(try simp (disch:=first|omega|(simp<;>omega)|fail) [*,Ze]))
    refine X7.get _ _ ?_ ?_<;>omega
  .by_cases hib:i < (Zi b).length
   .have hA:=Vh hia
    have hB:=hB hib
    clear Vh hB'
    ((try simp (disch:=first|omega|(simp<;>omega)|fail) [*,Ze]);repeat'(first|refine Z8 ?_|refine Z9 ?_|refine Z0 ?_|refine Z1 fun _=>?_|refine Z2 fun _ _=>?_|refine Z3 (fun _=>?_) fun _ _=>?_|refine Z4 fun _=>?_|refine Z5 fun _=>?_|refine Z6 (fun _=>?_) fun _=>?_|refine Z7 (fun _=>?_) fun _=>?_)<;>(try simp (disch:=first|omega|(simp<;>omega)|fail) [*,Ze]))
    refine X7.get _ _ ?_ ?_<;>omega
   .have hA:=Vh hia
    have hB:=hB' hib
    clear Vh hB'
    ((try simp (disch:=first|omega|(simp<;>omega)|fail) [*,Ze]);repeat'(first|refine Z8 ?_|refine Z9 ?_|refine Z0 ?_|refine Z1 fun _=>?_|refine Z2 fun _ _=>?_|refine Z3 (fun _=>?_) fun _ _=>?_|refine Z4 fun _=>?_|refine Z5 fun _=>?_|refine Z6 (fun _=>?_) fun _=>?_|refine Z7 (fun _=>?_) fun _=>?_)<;>(try simp (disch:=first|omega|(simp<;>omega)|fail) [*,Ze]))
    have hh:=X7.get c c (by omega) (by omega)
    simpa (disch:=omega) [Zpn,Zzy,Nat.sub_eq_zero_of_le] using hh
 .have hi1:i=N+1:=by omega
  subst hi1
  have hc0:Yh Vz=a+b:=by
   rw [Rh (by omega),Rh (by omega)] at hv
   have h1:=Xx a
   have h2:=Xx b
   have h3:10^(Zi a).length<=10^N:=Nat.pow_le_pow_right (by omega) (by omega)
   have h4:10^(Zi b).length<=10^N:=Nat.pow_le_pow_right (by omega) (by omega)
   rw [Nat.pow_succ] at hv
   generalize 10^N=P at *
   rcases Nat.eq_zero_or_pos c with rfl | h5
   .omega
   .have:c=1:=by omega
    subst this
    omega
  have hbp:Zj.bytesP (List.take (N+1) (Vz.map fun c:Nat=>PV.int .u8 (c:Int)))=some Vz:=by
   rw [List.take_of_length_le (by simp;omega)]
   exact Zbc fun d hd=>by have:=Yk.1 hla d hd;omega
  have Zap:=Zbd Vz (by omega)
  rw [V8 hla (by intro e;rw [e] at Tj;simp at Tj),hc0] at Zap
  replace hv:=Hide.mk hv
  ((try simp (disch:=first|omega|(simp<;>omega)|fail) [*,Ze,hbp,Zap]);repeat'(first|refine Z8 ?_|refine Z9 ?_|refine Z0 ?_|refine Z1 fun _=>?_|refine Z2 fun _ _=>?_|refine Z3 (fun _=>?_) fun _ _=>?_|refine Z4 fun _=>?_|refine Z5 fun _=>?_|refine Z6 (fun _=>?_) fun _=>?_|refine Z7 (fun _=>?_) fun _=>?_)<;>(try simp (disch:=first|omega|(simp<;>omega)|fail) [*,Ze,hbp,Zap]))
theorem Z0a {a b c d e i v:Nat} (h:v+b % 10^i=a % 10^i+c*10^i) (he:d+b / 10^i % 10+c=a / 10^i % 10+10*e):
  d*10^i+v+b % 10^(i+1)=a % 10^(i+1)+e*10^(i+1):=by
 rw [Rg,Rg,Nat.pow_succ]
 generalize 10^i=P at *
 generalize a / P % 10=x at *
 generalize b / P % 10=y at *
 have e1:e*(P*10)=10*e*P:=by rw [Nat.mul_comm P,<- Nat.mul_assoc,Nat.mul_comm e]
 have e2:(d+y+c)*P=d*P+y*P+c*P:=by rw [Nat.add_mul,Nat.add_mul]
 have e3:(x+10*e)*P=x*P+10*e*P:=by rw [Nat.add_mul]
 rw [he] at e2
 omega
theorem Z8q (a b:Nat) (hab:b<=a) (ha:(Zi a).length<=2^21):Xy vE 174 [.str (Zi a),.str (Zi b)] (.str (Zi (a - b))):=by
 have hb:=X6 hab
 intro K H
 refine Zh (fn:=Tryz.f174) rfl Tryz.func174 rfl rfl (by simp) (by simp) ?_ (by simp [*])
 ((try simp (disch:=first|omega|(simp<;>omega)|fail) [*,Ze,Tryz.f174]);repeat'(first|refine Z8 ?_|refine Z9 ?_|refine Z0 ?_|refine Z1 fun _=>?_|refine Z2 fun _ _=>?_|refine Z3 (fun _=>?_) fun _ _=>?_|refine Z4 fun _=>?_|refine Z5 fun _=>?_|refine Z6 (fun _=>?_) fun _=>?_|refine Z7 (fun _=>?_) fun _=>?_)<;>(try simp (disch:=first|omega|(simp<;>omega)|fail) [*,Ze,Tryz.f174]))
 generalize hN:(Zi a).length=N at *
 generalize hv0:PH.stamp _ _=v0
 refine Ya [0,1,5] (fun n sl h=>∃ (i c:Nat) (Vz:Yp),n=N - i/\i<=N/\c<=1/\Vz.length=i/\Si Vz=true/\Yh Vz+b % 10^i=a % 10^i+c*10^i/\sl 6=some (.int .i64 c)/\sl 7=some (.int .i64 i) /\
  h.get (H.next+11)=some (v0,.row 5 true (List.replicate (N - i) (.int .u8 0)++Vz.map fun c:Nat=>.int .u8 c))) N rfl ⟨0,0,[],by simp,by simp,by simp,rfl,rfl,by simp [Yh,V6,Nat.mod_one],by simp,by simp,by simp⟩ ?_
 rintro n sl h hf ⟨i,c,Vz,hn',hi,hc,Tj,hla,hv,h6,h7,hg⟩
 simp at hf
 by_cases hiN:i < N
 .have Xi:=fun d e=>Z0a (d:=d) (e:=e) hv
  replace hv:=Hide.mk hv
  replace Xi:=Hide.mk Xi
  have hA:(Zi a)[N - 1 - i]'(by omega)=48+a / 10^i % 10:=by
   have:=Ziz (a:=a) (i:=i) (by omega)
   simpa [hN] using this
  have hB:∀ (hia:i < (Zi b).length),(Zi b)[(Zi b).length - 1 - i]'(by omega)=48+b / 10^i % 10:=fun hia=>Ziz hia
  have hB':¬ i < (Zi b).length->b / 10^i % 10=0:=fun hia=>by rw [Zhj (by omega)]
  have hDA:a / 10^i % 10<=9:=by omega
  have hDB:b / 10^i % 10<=9:=by omega
  have X7:∀ (x E:Int) (d e:Nat),x=48+d->E=e->d<=9->e<=1->d+b / 10^i % 10+c=a / 10^i % 10+10*e->∃ m,m < N - i/\∃ i_1:Nat,m=N - i_1/\i_1<=N/\∃ c1:Nat,c1<=1/\∃ l1:Yp,l1.length=i_1/\Si l1=true/\Yh l1+b % 10^i_1=a % 10^i_1+c1*10^i_1/\E=c1/\(i:Int)+1=i_1 /\
    (List.replicate (N - i) (PV.int IntKind.u8 0)).set (N - 1 - i) (PV.int IntKind.u8 x)++List.map (fun c:Nat=>PV.int IntKind.u8 c) Vz=List.replicate (N - i_1) (.int .u8 0)++List.map (fun c:Nat=>PV.int IntKind.u8 c) l1:=fun x E d e hx hE hd he hde=>
   ⟨N - (i+1),by omega,i+1,rfl,by omega,e,he,(48+d)::Vz,by simp;omega,by
    rw [Yk] at hla ⊢
    intro d hd
    rcases List.mem_cons.1 hd with rfl | hd
    .omega
    .exact hla d hd,by rw [Sg,Tj];have:=Xi.get d e hde;simpa using this,hE,by omega,by rw [hx,Zji (n:=N) hiN];simp⟩
  replace X7:=Hide.mk X7
  generalize a / 10^i % 10=dA at *
  generalize b / 10^i % 10=dB at *
  by_cases hib:i < (Zi b).length
  .have hB:=hB hib
   clear hB'
   ((try simp (disch:=first|omega|(simp<;>omega)|fail) [*,Ze]);repeat'(first|refine Z8 ?_|refine Z9 ?_|refine Z0 ?_|refine Z1 fun _=>?_|refine Z2 fun _ _=>?_|refine Z3 (fun _=>?_) fun _ _=>?_|refine Z4 fun _=>?_|refine Z5 fun _=>?_|refine Z6 (fun _=>?_) fun _=>?_|refine Z7 (fun _=>?_) fun _=>?_)<;>(try simp (disch:=first|omega|(simp<;>omega)|fail) [*,Ze]))
   .refine X7.get _ _ (10+dA - c - dB) 1 ?_ ?_ ?_ ?_ ?_<;>omega
   .refine X7.get _ _ (dA - c - dB) 0 ?_ ?_ ?_ ?_ ?_<;>omega
  .have hB:=hB' hib
   clear hB'
   ((try simp (disch:=first|omega|(simp<;>omega)|fail) [*,Ze]);repeat'(first|refine Z8 ?_|refine Z9 ?_|refine Z0 ?_|refine Z1 fun _=>?_|refine Z2 fun _ _=>?_|refine Z3 (fun _=>?_) fun _ _=>?_|refine Z4 fun _=>?_|refine Z5 fun _=>?_|refine Z6 (fun _=>?_) fun _=>?_|refine Z7 (fun _=>?_) fun _=>?_)<;>(try simp (disch:=first|omega|(simp<;>omega)|fail) [*,Ze]))
   .refine X7.get _ _ (10+dA - c - dB) 1 ?_ ?_ ?_ ?_ ?_<;>omega
   .refine X7.get _ _ (dA - c - dB) 0 ?_ ?_ ?_ ?_ ?_<;>omega
 .have hi1:i=N:=by omega
  subst hi1
  have hc0:Yh Vz=a - b:=by
   rw [Rh (by omega),Rh (by omega)] at hv
   have h1:=Ze6 hla
   rw [Tj] at h1
   generalize 10^i=P at *
   rcases Nat.eq_zero_or_pos c with rfl | h5
   .omega
   .have:c=1:=by omega
    subst this
    omega
  have hbp:Zj.bytesP (List.take i (Vz.map fun c:Nat=>PV.int .u8 (c:Int)))=some Vz:=by
   rw [List.take_of_length_le (by simp;omega)]
   exact Zbc fun d hd=>by have:=Yk.1 hla d hd;omega
  have Zap:=Zbd Vz (by omega)
  rw [V8 hla (by intro e;have:=Vp a;rw [e] at Tj;simp at Tj;omega),hc0] at Zap
  replace hv:=Hide.mk hv
  ((try simp (disch:=first|omega|(simp<;>omega)|fail) [*,Ze,hbp,Zap]);repeat'(first|refine Z8 ?_|refine Z9 ?_|refine Z0 ?_|refine Z1 fun _=>?_|refine Z2 fun _ _=>?_|refine Z3 (fun _=>?_) fun _ _=>?_|refine Z4 fun _=>?_|refine Z5 fun _=>?_|refine Z6 (fun _=>?_) fun _=>?_|refine Z7 (fun _=>?_) fun _=>?_)<;>(try simp (disch:=first|omega|(simp<;>omega)|fail) [*,Ze,hbp,Zap]))
end Go.Proofs.YtabcdhcpilpojaaGreatDoor
end
section
set_option maxRecDepth 20000
namespace Go.Proofs.YtabcdhcpilpojaaGreatDoor
open Go Go.Pure
open Go.Virt (Ex Ctx Ty TK)
def Zay (o:List Nat):Nat:=o.foldl (fun a x=>a*10+x) 0
theorem Zpl:Zay []=0:=rfl
theorem Zlx (o:List Nat) (x:Nat):Zay (o++[x])=Zay o*10+x:=by simp only [Zay,List.foldl_append,List.foldl_cons,List.foldl_nil]
theorem Qn (o p:List Nat):Zay (o++p)=Zay o*10^p.length+Zay p:=by
 rcases List.eq_nil_or_concat p with rfl | ⟨q,x,rfl⟩
 .simp [Zpl]
 .rw [List.concat_eq_append,<- List.append_assoc,Zlx,Qn o q,Zlx]
  simp only [List.length_append,List.length_cons,List.length_nil,Nat.zero_add,Nat.pow_succ]
  rw [Nat.add_mul,Nat.mul_assoc]
  omega
termination_by p.length
decreasing_by all_goals simp_all
theorem Zcy (x:Nat) (o:List Nat):Zay (x::o)=x*10^o.length+Zay o:=by
 have:=Qn [x] o
 simpa [Zay] using this
theorem Zzx {o:List Nat} {k d:Nat} (hk:k < o.length):Zay (o.set k (o[k]+d))=Zay o+d*10^(o.length - 1 - k):=by
 obtain ⟨l,r,e,hl⟩:∃ l r,o=l++o[k]::r/\l.length=k:=⟨o.take k,o.drop (k+1),by simp,by simp;omega⟩
 generalize o[k]=y at *
 subst e
 have:(l++y::r).set k (y+d)=l++(y+d)::r:=by subst hl;simp
 rw [this,Qn,Qn,Zcy,Zcy]
 simp only [List.length_append,List.length_cons]
 have e1:l.length+(r.length+1) - 1 - k=r.length:=by omega
 rw [e1,Nat.add_mul]
 omega
theorem Zwv (n:Nat):Zay (List.replicate n 0)=0:=by
 induction n with
 | zero=>rfl
 | succ n ih=>rw [List.replicate_succ,Zcy,ih];simp
theorem Zgt {s:Yp} {i:Nat} (h:i < s.length):Yh (s.take (i+1))=Yh (s.take i)*10+(s[i] - 48):=by
 rw [List.take_succ_eq_append_getElem h,Ui]
theorem Z01 {A B da db P Q j w:Nat} (h:w=A*10^(P+1)*B+da*10^P*(Q*10^(j+1))):
  w+da*db*10^(P+j)=A*10^(P+1)*B+da*10^P*((Q*10+db)*10^j):=by
 have e0:10^(j+1)=10^j*10:=Nat.pow_succ _ _
 have e2:10^(P+j)=10^P*10^j:=Nat.pow_add _ _ _
 have e1:da*10^P*((Q*10+db)*10^j)=da*10^P*(Q*10^(j+1))+da*db*10^(P+j):=by
  rw [e0,e2,Nat.add_mul,Nat.mul_add]
  have a1:Q*10*10^j=Q*(10^j*10):=by rw [Nat.mul_assoc,Nat.mul_comm 10]
  have a2:da*10^P*(db*10^j)=da*db*(10^P*10^j):=by
   rw [Nat.mul_assoc,Nat.mul_assoc,Nat.mul_left_comm (10^P)]
  rw [a1,a2]
 omega
theorem Zi0 (a b:Nat) (ha:(Zi a).length<=2^20) (hb:(Zi b).length<=2^20):Xy vE 171 [.str (Zi a),.str (Zi b)] (.str (Zi (a*b))):=by
 intro K H
 refine Zh (fn:=Tryz.f171) rfl Tryz.func171 rfl rfl (by simp) (by simp) ?_ (by simp [*])
 ((try simp (disch:=first|omega|(simp<;>omega)|fail) [*,Ze,Tryz.f171]);repeat'(first|refine Z8 ?_|refine Z9 ?_|refine Z0 ?_|refine Z1 fun _=>?_|refine Z2 fun _ _=>?_|refine Z3 (fun _=>?_) fun _ _=>?_|refine Z4 fun _=>?_|refine Z5 fun _=>?_|refine Z6 (fun _=>?_) fun _=>?_|refine Z7 (fun _=>?_) fun _=>?_)<;>(try simp (disch:=first|omega|(simp<;>omega)|fail) [*,Ze,Tryz.f171]))
 generalize hLa:(Zi a).length=la at *
 generalize hLb:(Zi b).length=lb at *
 generalize hv0:PH.stamp _ _=v0
 refine Ya [0,1,5] (fun n sl h=>∃ (i:Nat) (o:List Nat),n=la - i/\i<=la/\o.length=la+lb/\(∀ x,x∈o->x<=81*i)/\Zay o=Yh ((Zi a).take i)*10^(la - i)*b/\sl 6=some (.int .i64 i) /\
  h.get (H.next+17)=some (v0,.row 3 true (o.map fun x:Nat=>.int .i64 x))) la rfl ⟨0,List.replicate (la+lb) 0,by simp,by simp,by simp,by simp,by simp [Zwv,Yh,V6],by simp,by simp⟩ ?_
 rintro n sl h hf ⟨i,o,hn',hi,hol,Uz,hw,h6,hg⟩
 simp at hf
 replace hw:=Hide.mk hw
 replace Uz:=Hide.mk Uz
 by_cases hia:i < la
 .have Ztx:i < (Zi a).length:=by omega
  obtain ⟨dA,hA,hdA⟩:∃ dA,(Zi a)[i]=48+dA/\dA<=9:=⟨(Zi a)[i] - 48,by have:=Yk.1 (Wb a) _ (List.getElem_mem Ztx);omega,by have:=Yk.1 (Wb a) _ (List.getElem_mem Ztx);omega⟩
  have htA:=Zgt Ztx
  rw [hA] at htA
  replace htA:=Hide.mk htA
  ((try simp (disch:=first|omega|(simp<;>omega)|fail) [*,Ze]);repeat'(first|refine Z8 ?_|refine Z9 ?_|refine Z0 ?_|refine Z1 fun _=>?_|refine Z2 fun _ _=>?_|refine Z3 (fun _=>?_) fun _ _=>?_|refine Z4 fun _=>?_|refine Z5 fun _=>?_|refine Z6 (fun _=>?_) fun _=>?_|refine Z7 (fun _=>?_) fun _=>?_)<;>(try simp (disch:=first|omega|(simp<;>omega)|fail) [*,Ze]))
  refine Ya [0,1,5,6] (fun n sl h=>∃ (j:Nat) (o:List Nat),n=lb - j/\j<=lb/\o.length=la+lb/\(∀ k (hk:k < o.length),o[k]<=81*(i+1)/\(i+j+1<=k->o[k]<=81*i))/\Zay o=Yh ((Zi a).take i)*10^(la - i)*b+dA*10^(la - 1 - i)*(Yh ((Zi b).take j)*10^(lb - j))/\sl 7=some (.int .i64 j) /\
   h.get (H.next+17)=some (v0,.row 3 true (o.map fun x:Nat=>.int .i64 x))) lb rfl ⟨0,o,by simp,by simp,hol,fun k hk=>by have:=Uz.get _ (List.getElem_mem hk);omega,by rw [hw.get];simp [Yh,V6],by simp,by simp [hg]⟩ ?_
  clear hg
  rintro n2 sl2 h2 hf2 ⟨j,o2,hn2,hj,hol2,Rm,Wr,h7,hg⟩
  simp [hf,h6] at hf2
  replace Wr:=Hide.mk Wr
  replace Rm:=Hide.mk Rm
  by_cases hjb:j < lb
  .have hjb':j < (Zi b).length:=by omega
   obtain ⟨dB,hB,hdB⟩:∃ dB,(Zi b)[j]=48+dB/\dB<=9:=⟨(Zi b)[j] - 48,by have:=Yk.1 (Wb b) _ (List.getElem_mem hjb');omega,by have:=Yk.1 (Wb b) _ (List.getElem_mem hjb');omega⟩
   have htB:=Zgt hjb'
   rw [hB] at htB
   replace htB:=Hide.mk htB
   have hp:dA*dB<=81:=Nat.mul_le_mul hdA hdB
   have hp1:(dA:Int)*dB<=81:=by exact_mod_cast hp
   have hp0:0<=(dA:Int)*dB:=by exact_mod_cast Nat.zero_le _
   have hkl:i+j+1 < o2.length:=by omega
   have hk:=(Rm.get (i+j+1) hkl).1
   have hk2:=(Rm.get (i+j+1) hkl).2 (by omega)
   have hix:((i:Int)+j+1).toNat=i+j+1:=by omega
   ((try simp (disch:=first|omega|(simp<;>omega)|fail) [*,Ze]);repeat'(first|refine Z8 ?_|refine Z9 ?_|refine Z0 ?_|refine Z1 fun _=>?_|refine Z2 fun _ _=>?_|refine Z3 (fun _=>?_) fun _ _=>?_|refine Z4 fun _=>?_|refine Z5 fun _=>?_|refine Z6 (fun _=>?_) fun _=>?_|refine Z7 (fun _=>?_) fun _=>?_)<;>(try simp (disch:=first|omega|(simp<;>omega)|fail) [*,Ze]))
   refine ⟨lb - (j+1),by omega,j+1,rfl,by omega,o2.set (i+j+1) (o2[i+j+1]+dA*dB),by simp [hol2],?_,?_,by omega,?_⟩
   .intro k hk3
    rw [List.getElem_set]
    split
    .omega
    .have:=Rm.get k (by simpa using hk3)
     omega
   .rw [Zzx hkl,htB.get]
    have e1:o2.length - 1 - (i+j+1)=(la - 1 - i)+(lb - (j+1)):=by omega
    rw [e1]
    have h1:=Z01 (A:=Yh ((Zi a).take i)) (B:=b) (da:=dA) (db:=dB) (P:=la - 1 - i) (Q:=Yh ((Zi b).take j)) (j:=lb - (j+1)) (w:=Zay o2) (by
     rw [Wr.get]
     have e2:la - 1 - i+1=la - i:=by omega
     have e3:lb - (j+1)+1=lb - j:=by omega
     rw [e2,e3])
    have e2:la - 1 - i+1=la - i:=by omega
    rw [e2] at h1
    rw [h1]
    congr 4
    omega
   .rw [show ((o2[i+j+1]:Nat):Int)+(dA:Int)*dB=((o2[i+j+1]+dA*dB:Nat):Int) by simp]
    rw [List.map_set]
  .have hjl:j=lb:=by omega
   subst hjl
   ((try simp (disch:=first|omega|(simp<;>omega)|fail) [*,Ze]);repeat'(first|refine Z8 ?_|refine Z9 ?_|refine Z0 ?_|refine Z1 fun _=>?_|refine Z2 fun _ _=>?_|refine Z3 (fun _=>?_) fun _ _=>?_|refine Z4 fun _=>?_|refine Z5 fun _=>?_|refine Z6 (fun _=>?_) fun _=>?_|refine Z7 (fun _=>?_) fun _=>?_)<;>(try simp (disch:=first|omega|(simp<;>omega)|fail) [*,Ze]))
   refine ⟨la - (i+1),by omega,i+1,rfl,by omega,o2,hol2,?_,?_,by omega,rfl⟩
   .intro x hx
    obtain ⟨k,hk,rfl⟩:=List.getElem_of_mem hx
    exact (Rm.get k hk).1
   .rw [Wr.get,htA.get]
    have e1:la - i=(la - (i+1))+1:=by omega
    have e2:la - 1 - i=la - (i+1):=by omega
    have e3:(Zi b).take j=Zi b:=List.take_of_length_le (by omega)
    rw [e1,e2,e3,Y8,Nat.sub_self,Nat.pow_zero,Nat.mul_one,Nat.pow_succ]
    generalize 10^(la - (i+1))=P
    rw [Nat.add_mul,Nat.add_mul]
    have e4:48+dA - 48=dA:=by omega
    rw [e4]
    congr 2
    rw [Nat.mul_assoc,Nat.mul_comm P]
 .have hi1:i=la:=by omega
  subst hi1
  have hw0:Zay o=a*b:=by
   rw [hw.get,List.take_of_length_le (by omega),Y8,Nat.sub_self,Nat.pow_zero,Nat.mul_one]
  have hL:o.length=i+lb:=hol
  generalize hLL:i+lb=L at *
  have hLc:(i:Int)+lb=L:=by omega
  ((try simp (disch:=first|omega|(simp<;>omega)|fail) [*,Ze]);repeat'(first|refine Z8 ?_|refine Z9 ?_|refine Z0 ?_|refine Z1 fun _=>?_|refine Z2 fun _ _=>?_|refine Z3 (fun _=>?_) fun _ _=>?_|refine Z4 fun _=>?_|refine Z5 fun _=>?_|refine Z6 (fun _=>?_) fun _=>?_|refine Z7 (fun _=>?_) fun _=>?_)<;>(try simp (disch:=first|omega|(simp<;>omega)|fail) [*,Ze]))
  generalize hv1:PH.stamp _ _=v1
  refine Ya [5,8] (fun n sl h=>∃ (m c:Nat) (Vz:Yp),n=L - m/\m<=L/\c<=100000000/\Vz.length=m/\Si Vz=true/\Yh Vz+c*10^m=Zay (o.drop (L - m))/\sl 9=some (.int .i64 c)/\sl 10=some (.int .i64 (L - 1 - m)) /\
   h.get (H.next+52)=some (v1,.row 5 true (List.replicate (L - m) (.int .u8 0)++Vz.map fun c:Nat=>.int .u8 c))/\h.get (H.next+17)=some (v0,.row 3 true (o.map fun x:Nat=>.int .i64 x))) L rfl ⟨0,0,[],by simp,by simp,by simp,rfl,rfl,?_,by simp,?_,?_,?_⟩ ?_
  .simp [Yh,V6,List.drop_eq_nil_of_le (Nat.le_of_eq hL),Zpl]
  .simp
  .simp
  .simp [hg]
  clear hg h6 hv1 hw hn'
  rintro n2 sl2 h2 hf2 ⟨m,c,Vz,hn2,hm,hc,Tj,hla,hv,h9,h10,hg2,hg⟩
  simp at hf2
  by_cases hmL:m < L
  .have hkl:L - 1 - m < o.length:=by omega
   have hob3:o[L - 1 - m]<=81*i:=Uz.get _ (List.getElem_mem hkl)
   have hdr:o.drop (L - (m+1))=o[L - 1 - m]::o.drop (L - m):=by
    have e1:L - (m+1)=L - 1 - m:=by omega
    have e2:L - m=L - 1 - m+1:=by omega
    rw [e1,e2]
    exact List.drop_eq_getElem_cons hkl
   have Xi:Yh ((48+(o[L - 1 - m]+c) % 10)::Vz)+(o[L - 1 - m]+c) / 10*10^(m+1)=Zay (o.drop (L - (m+1))):=by
    rw [hdr,Zcy,Sg,Tj,<- hv]
    have e1:(o.drop (L - m)).length=m:=by simp;omega
    have e2:48+(o[L - 1 - m]+c) % 10 - 48=(o[L - 1 - m]+c) % 10:=by omega
    rw [e1,e2,Nat.pow_succ]
    generalize o[L - 1 - m]=x
    generalize 10^m=P
    have e3:(x+c) / 10*(P*10)=(x+c) / 10*10*P:=by rw [Nat.mul_comm P,Nat.mul_assoc]
    have e4:(x+c) % 10*P+(x+c) / 10*10*P=(x+c)*P:=by
     rw [<- Nat.add_mul];congr 1;omega
    have e5:(x+c)*P=x*P+c*P:=Nat.add_mul _ _ _
    omega
   replace hv:=Hide.mk hv
   replace Xi:=Hide.mk Xi
   replace hdr:=Hide.mk hdr
   have hix:((L:Int) - 1 - m).toNat=L - 1 - m:=by omega
   have hq:∀ x:Nat,(x:Int).tmod 10=((x % 10:Nat):Int):=fun x=>by rw [Int.tmod_eq_emod_of_nonneg (by omega)];omega
   have hd:∀ x:Nat,(x:Int).tdiv 10=((x / 10:Nat):Int):=fun x=>by rw [Int.tdiv_eq_ediv_of_nonneg (by omega)];omega
   have hq2:((o[L - 1 - m]:Int)+c).tmod 10=(((o[L - 1 - m]+c) % 10:Nat):Int):=hq (o[L - 1 - m]+c)
   have hd2:((o[L - 1 - m]:Int)+c).tdiv 10=(((o[L - 1 - m]+c) / 10:Nat):Int):=hd (o[L - 1 - m]+c)
   clear hq hd
   generalize hx:o[L - 1 - m]=x at *
   ((try simp (disch:=first|omega|(simp<;>omega)|fail) [*,Ze,-Int.natCast_emod, -Int.natCast_ediv, -Int.natCast_add]);repeat'(first|refine Z8 ?_|refine Z9 ?_|refine Z0 ?_|refine Z1 fun _=>?_|refine Z2 fun _ _=>?_|refine Z3 (fun _=>?_) fun _ _=>?_|refine Z4 fun _=>?_|refine Z5 fun _=>?_|refine Z6 (fun _=>?_) fun _=>?_|refine Z7 (fun _=>?_) fun _=>?_)<;>(try simp (disch:=first|omega|(simp<;>omega)|fail) [*,Ze,-Int.natCast_emod, -Int.natCast_ediv, -Int.natCast_add]))
   refine ⟨L - (m+1),by omega,m+1,rfl,by omega,(x+c) / 10,by omega,(48+(x+c) % 10)::Vz,by simp;omega,?_,Xi.get,rfl,by omega,?_⟩
   .rw [Yk] at hla ⊢
    intro d hd
    rcases List.mem_cons.1 hd with rfl | hd
    .omega
    .exact hla d hd
   .rw [Zji (n:=L) hmL];simp
  .have hmL':m=L:=by omega
   subst hmL'
   have hc0:Yh Vz=a*b:=by
    have e1:m - m=0:=by omega
    rw [e1,List.drop_zero,hw0] at hv
    have h1:=Xx a
    have h2:=Xx b
    have h3:a*b < 10^(Zi a).length*10^(Zi b).length:=Nat.mul_lt_mul'' h1 h2
    rw [<- Nat.pow_add,hLa,hLb,hLL] at h3
    rcases Nat.eq_zero_or_pos c with rfl | h5
    .omega
    .have:1*10^m<=c*10^m:=Nat.mul_le_mul_right _ h5
     omega
   have hbp:Zj.bytesP (List.take m (Vz.map fun c:Nat=>PV.int .u8 (c:Int)))=some Vz:=by
    rw [List.take_of_length_le (by simp;omega)]
    exact Zbc fun d hd=>by have:=Yk.1 hla d hd;omega
   have Zap:=Zbd Vz (by omega)
   rw [V8 hla (by intro e;have:=Vp a;rw [e] at Tj;simp at Tj;omega),hc0] at Zap
   replace hv:=Hide.mk hv
   ((try simp (disch:=first|omega|(simp<;>omega)|fail) [*,Ze,hbp,Zap]);repeat'(first|refine Z8 ?_|refine Z9 ?_|refine Z0 ?_|refine Z1 fun _=>?_|refine Z2 fun _ _=>?_|refine Z3 (fun _=>?_) fun _ _=>?_|refine Z4 fun _=>?_|refine Z5 fun _=>?_|refine Z6 (fun _=>?_) fun _=>?_|refine Z7 (fun _=>?_) fun _=>?_)<;>(try simp (disch:=first|omega|(simp<;>omega)|fail) [*,Ze,hbp,Zap]))
end Go.Proofs.YtabcdhcpilpojaaGreatDoor
end
section
set_option maxRecDepth 20000
namespace Go.Proofs.YtabcdhcpilpojaaGreatDoor
open Go Go.Pure
open Go.Virt (Ex Ctx Ty TK)
theorem Z7q {a b:Nat} (h:b<=a):(0:Int)<=Zks a b:=by
 unfold Zks;split
 .omega
 .split<;>decide
theorem Z7p {a b:Nat} (h:a < b):¬ (0:Int)<=Zks a b:=by
 rw [Zks,if_pos h];decide
theorem Zw0 {R c:Nat} (hc:48<=c/\c<=57):Tm (Zi R++[c])=Zi (R*10+(c - 48)):=by
 rw [V8 _ (by simp),Ui,Y8]
 rw [Yk]
 intro d hd
 rcases List.mem_append.1 hd with h | h
 .exact Yk.1 (Wb R) d h
 .simp at h;omega
theorem Zoz (a b:Nat) (hb0:0 < b) (ha:(Zi a).length<=2^20) (hb:(Zi b).length<=2^20):Xy vE 190 [.str (Zi a),.str (Zi b)] (.tuple [.str (Zi (a / b)),.str (Zi (a % b))]):=by
 intro K H
 refine Zh (fn:=Tryz.f190) rfl Tryz.func190 rfl rfl (by simp) (by simp) ?_ (by simp [*])
 ((try simp (disch:=first|omega|(simp<;>omega)|fail) [*,Ze,Tryz.f190]);repeat'(first|refine Z8 ?_|refine Z9 ?_|refine Z0 ?_|refine Z1 fun _=>?_|refine Z2 fun _ _=>?_|refine Z3 (fun _=>?_) fun _ _=>?_|refine Z4 fun _=>?_|refine Z5 fun _=>?_|refine Z6 (fun _=>?_) fun _=>?_|refine Z7 (fun _=>?_) fun _=>?_)<;>(try simp (disch:=first|omega|(simp<;>omega)|fail) [*,Ze,Tryz.f190]))
 generalize hLa:(Zi a).length=la at *
 generalize hv0:PH.stamp _ _=v0
 refine Ya [0,1,6] (fun n sl h=>∃ (i R:Nat) (qs:Yp),n=la - i/\i<=la/\R < b/\qs.length=i/\Si qs=true/\Yh qs*b+R=Yh ((Zi a).take i)/\sl 8=some (.int .i64 i)/\sl 7=some (.str (Zi R)) /\
  h.get (H.next+12)=some (v0,.row 5 true ((qs.map fun c:Nat=>.int .u8 c)++List.replicate (la - i) (.int .u8 0)))) la rfl ⟨0,0,[],by simp,by simp,hb0,rfl,rfl,by simp [Yh,V6],by simp,by simp [Ve],by simp⟩ ?_
 rintro n sl h hf ⟨i,R,qs,hn',hi,hR,hql,hqa,hv,h8,h7,hg⟩
 simp at hf
 have hlen:∀ x,x < 10*b->(Zi x).length<=(Zi b).length+1:=fun x hx=>Zrw hx
 by_cases hia:i < la
 .have Ztx:i < (Zi a).length:=by omega
  have hc:=Yk.1 (Wb a) _ (List.getElem_mem Ztx)
  have htA:=Zgt Ztx
  have Zih:(List.drop i (Zi a)).take 1=[(Zi a)[i]]:=by
   rw [List.drop_eq_getElem_cons Ztx];rfl
  have Zap:=Zbd (Zi R++[(Zi a)[i]]) (by have:=hlen R (by omega);simp;omega)
  rw [Zw0 hc] at Zap
  have hRl:=hlen R (by omega)
  replace hlen:=Hide.mk hlen
  replace htA:=Hide.mk htA
  generalize hca:(Zi a)[i]=c at *
  ((try simp (disch:=first|omega|(simp<;>omega)|fail) [*,Ze,Zih,Zap]);repeat'(first|refine Z8 ?_|refine Z9 ?_|refine Z0 ?_|refine Z1 fun _=>?_|refine Z2 fun _ _=>?_|refine Z3 (fun _=>?_) fun _ _=>?_|refine Z4 fun _=>?_|refine Z5 fun _=>?_|refine Z6 (fun _=>?_) fun _=>?_|refine Z7 (fun _=>?_) fun _=>?_)<;>(try simp (disch:=first|omega|(simp<;>omega)|fail) [*,Ze,Zih,Zap]))
  have hX:R*10+(c - 48) < 10*b:=by omega
  generalize hXX:R*10+(c - 48)=X at *
  refine Ya [0,1,6,8] (fun n sl h'=>h'=h/\∃ (k R':Nat),n=R'/\R'+k*b=X/\k<=9/\sl 7=some (.str (Zi R'))/\sl 9=some (.int .u8 (48+(k:Int)))) X rfl ⟨rfl,0,X,rfl,by simp,by simp,by simp,by simp⟩ ?_
  rintro n2 sl2 h2 hf2 ⟨rfl,k,R',hn2,hk,hk9,h7',h9⟩
  simp [hf,h8] at hf2
  clear Zap Zih
  replace hv:=Hide.mk hv
  have hkb:0<=k*b:=Nat.zero_le _
  have hl1:=hlen.get R' (by omega)
  have Z7b:=Z8r R' b
  by_cases hge:b<=R'
  .have hcm:=Z7q hge
   have h174:=Z8q R' b hge (by omega)
   have hk8:k+1<=9:=by
    have h1:(k+1)*b < 10*b:=by rw [Nat.add_mul];omega
    have:=Nat.lt_of_mul_lt_mul_right h1
    omega
   have hkk:R' - b+(k+1)*b=X:=by rw [Nat.add_mul];omega
   replace hk:=Hide.mk hk
   replace hkk:=Hide.mk hkk
   ((try simp (disch:=first|omega|(simp<;>omega)|fail) [*,Ze,Z7b,h174]);repeat'(first|refine Z8 ?_|refine Z9 ?_|refine Z0 ?_|refine Z1 fun _=>?_|refine Z2 fun _ _=>?_|refine Z3 (fun _=>?_) fun _ _=>?_|refine Z4 fun _=>?_|refine Z5 fun _=>?_|refine Z6 (fun _=>?_) fun _=>?_|refine Z7 (fun _=>?_) fun _=>?_)<;>(try simp (disch:=first|omega|(simp<;>omega)|fail) [*,Ze,Z7b,h174]))
   refine ⟨R' - b,by omega,k+1,hkk.get,hk8,?_⟩
   exact ⟨rfl,by omega⟩
  .have hcm:=Z7p (Nat.lt_of_not_le hge)
   replace hk:=Hide.mk hk
   ((try simp (disch:=first|omega|(simp<;>omega)|fail) [*,Ze,Z7b]);repeat'(first|refine Z8 ?_|refine Z9 ?_|refine Z0 ?_|refine Z1 fun _=>?_|refine Z2 fun _ _=>?_|refine Z3 (fun _=>?_) fun _ _=>?_|refine Z4 fun _=>?_|refine Z5 fun _=>?_|refine Z6 (fun _=>?_) fun _=>?_|refine Z7 (fun _=>?_) fun _=>?_)<;>(try simp (disch:=first|omega|(simp<;>omega)|fail) [*,Ze,Z7b]))
   refine ⟨la - (i+1),by omega,i+1,rfl,by omega,R',by omega,qs++[48+k],by simp;omega,?_,?_,by omega,rfl,?_⟩
   .rw [Yk] at hqa ⊢
    intro d hd
    rcases List.mem_append.1 hd with h | h
    .exact hqa d h
    .simp at h;omega
   .rw [Ui,htA.get,<- hv.get]
    have e1:48+k - 48=k:=by omega
    have e2:(Yh qs*10+k)*b=Yh qs*b*10+k*b:=by rw [Nat.add_mul,Nat.mul_assoc,Nat.mul_comm 10,<- Nat.mul_assoc]
    rw [e1,e2]
    have:=hk.get
    omega
   .have e1:la - i=(la - (i+1))+1:=by omega
    rw [e1,List.replicate_succ]
    simp
 .have hi1:i=la:=by omega
  subst hi1
  have e1:(Zi a).take i=Zi a:=List.take_of_length_le (by omega)
  rw [e1,Y8] at hv
  have hq:a / b=Yh qs:=by
   rw [<- hv,Nat.add_comm,Nat.add_mul_div_right _ _ hb0,Nat.div_eq_of_lt hR,Nat.zero_add]
  have hr:a % b=R:=by
   rw [<- hv,Nat.add_comm,Nat.add_mul_mod_self_right,Nat.mod_eq_of_lt hR]
  have hbp:Zj.bytesP (List.take i (qs.map fun c:Nat=>PV.int .u8 (c:Int)))=some qs:=by
   rw [List.take_of_length_le (by simp;omega)]
   exact Zbc fun d hd=>by have:=Yk.1 hqa d hd;omega
  have Zap:=Zbd qs (by omega)
  rw [V8 hqa (by intro e;have:=Vp a;rw [e] at hql;simp at hql;omega),<- hq] at Zap
  replace hv:=Hide.mk hv
  ((try simp (disch:=first|omega|(simp<;>omega)|fail) [*,Ze,hbp,Zap]);repeat'(first|refine Z8 ?_|refine Z9 ?_|refine Z0 ?_|refine Z1 fun _=>?_|refine Z2 fun _ _=>?_|refine Z3 (fun _=>?_) fun _ _=>?_|refine Z4 fun _=>?_|refine Z5 fun _=>?_|refine Z6 (fun _=>?_) fun _=>?_|refine Z7 (fun _=>?_) fun _=>?_)<;>(try simp (disch:=first|omega|(simp<;>omega)|fail) [*,Ze,hbp,Zap]))
theorem Z8l (a b:Nat) (ha:(Zi a).length<=2^20) (hb:(Zi b).length<=2^20):Xy vE 189 [.str (Zi a),.str (Zi b)] (.str (Zi (Nat.gcd a b))):=by
 intro K H
 refine Zh (fn:=Tryz.f189) rfl Tryz.func189 rfl rfl (by simp) (by simp) ?_ (by simp [*])
 ((try simp (disch:=first|omega|(simp<;>omega)|fail) [*,Ze,Tryz.f189]);repeat'(first|refine Z8 ?_|refine Z9 ?_|refine Z0 ?_|refine Z1 fun _=>?_|refine Z2 fun _ _=>?_|refine Z3 (fun _=>?_) fun _ _=>?_|refine Z4 fun _=>?_|refine Z5 fun _=>?_|refine Z6 (fun _=>?_) fun _=>?_|refine Z7 (fun _=>?_) fun _=>?_)<;>(try simp (disch:=first|omega|(simp<;>omega)|fail) [*,Ze,Tryz.f189]))
 refine Ya [] (fun n sl h'=>∃ (x y:Nat),n=y/\(Zi x).length<=2^20/\(Zi y).length<=2^20/\Nat.gcd x y=Nat.gcd a b/\sl 0=some (.str (Zi x))/\sl 1=some (.str (Zi y))) b rfl ⟨a,b,rfl,ha,hb,rfl,by simp,by simp⟩ ?_
 rintro n sl h hf ⟨x,y,hn,hx,hy,hg,h0,h1⟩
 have he:(Zi y==[48])=decide (y=0):=by
  rw [Bool.eq_iff_iff]
  simp only [beq_iff_eq,decide_eq_true_eq]
  constructor
  .intro e;rw [<- Ve] at e;exact Zcq e
  .rintro rfl;exact Ve
 by_cases hy0:y=0
 .subst hy0
  rw [Nat.gcd_zero_right] at hg
  subst hg
  simp at he
  ((try simp (disch:=first|omega|(simp<;>omega)|fail) [*,Ze,he]);repeat'(first|refine Z8 ?_|refine Z9 ?_|refine Z0 ?_|refine Z1 fun _=>?_|refine Z2 fun _ _=>?_|refine Z3 (fun _=>?_) fun _ _=>?_|refine Z4 fun _=>?_|refine Z5 fun _=>?_|refine Z6 (fun _=>?_) fun _=>?_|refine Z7 (fun _=>?_) fun _=>?_)<;>(try simp (disch:=first|omega|(simp<;>omega)|fail) [*,Ze,he]))
 .have h190:=Zoz x y (by omega) hx hy
  have hml:(Zi (x % y)).length<=(Zi y).length:=X6 (Nat.le_of_lt (Nat.mod_lt _ (by omega)))
  have hgm:Nat.gcd y (x % y)=Nat.gcd a b:=by rw [<- hg,Nat.gcd_comm x y,Nat.gcd_rec y x,Nat.gcd_comm]
  have hlt:x % y < y:=Nat.mod_lt _ (by omega)
  replace hg:=Hide.mk hg
  simp [hy0] at he
  ((try simp (disch:=first|omega|(simp<;>omega)|fail) [*,Ze,he,h190]);repeat'(first|refine Z8 ?_|refine Z9 ?_|refine Z0 ?_|refine Z1 fun _=>?_|refine Z2 fun _ _=>?_|refine Z3 (fun _=>?_) fun _ _=>?_|refine Z4 fun _=>?_|refine Z5 fun _=>?_|refine Z6 (fun _=>?_) fun _=>?_|refine Z7 (fun _=>?_) fun _=>?_)<;>(try simp (disch:=first|omega|(simp<;>omega)|fail) [*,Ze,he,h190]))
  .rename_i h;exact absurd h he
  .exact ⟨x % y,hlt,y,hy,by omega,hgm,rfl,rfl⟩
structure Rt where
 neg:Bool
 num:Nat
 den:Nat
structure Rt.Ok (r:Rt):Prop where
 den:0 < r.den
 low:Nat.gcd r.num r.den=1
 sign:r.neg=true->r.num≠0
def Rt.mk' (neg:Bool) (n d:Nat):Rt:=⟨neg&&!(n==0),n / Nat.gcd n d,d / Nat.gcd n d⟩
def Rt.text (r:Rt):Yp:=(if r.neg then [45] else [])++Zi r.num++(if r.den=1 then [] else 47::Zi r.den)
abbrev Z7n (r:Rt):PV:=.agg [.bool r.neg,.str (Zi r.num),.str (Zi r.den)]
theorem Z7j {a b:Nat} (hb:0 < b):(Zi (Nat.gcd a b)).length<=(Zi b).length:=X6 (Nat.le_of_dvd hb (Nat.gcd_dvd_right a b))
theorem Nat.div_gcd_ne_zero' {n d:Nat} (h:0 < n):n / Nat.gcd n d≠0:=by
 have h1:Nat.gcd n d<=n:=Nat.gcd_le_left d h
 have h2:0 < Nat.gcd n d:=Nat.gcd_pos_of_pos_left _ h
 have:=Nat.div_pos h1 h2
 omega
theorem Zo1 (neg:Bool) (n d:Nat) (hd:0 < d) (hln:(Zi n).length<=2^20) (hld:(Zi d).length<=2^20):Xy vE 167 [.bool neg,.str (Zi n),.str (Zi d)] (Z7n (Rt.mk' neg n d)):=by
 have hg:0 < Nat.gcd n d:=Nat.gcd_pos_of_pos_right _ hd
 have h189:=Z8l n d hln hld
 have hgl:=Z7j (a:=n) hd
 have h1:=Zoz n (Nat.gcd n d) hg hln (by omega)
 have h2:=Zoz d (Nat.gcd n d) hg hld (by omega)
 intro K H
 refine Zh (fn:=Tryz.f167) rfl Tryz.func167 rfl rfl (by simp) (by simp) ?_ (by simp [*])
 ((try simp (disch:=first|omega|(simp<;>omega)|fail) [*,Ze,Tryz.f167,h189,h1,h2]);repeat'(first|refine Z8 ?_|refine Z9 ?_|refine Z0 ?_|refine Z1 fun _=>?_|refine Z2 fun _ _=>?_|refine Z3 (fun _=>?_) fun _ _=>?_|refine Z4 fun _=>?_|refine Z5 fun _=>?_|refine Z6 (fun _=>?_) fun _=>?_|refine Z7 (fun _=>?_) fun _=>?_)<;>(try simp (disch:=first|omega|(simp<;>omega)|fail) [*,Ze,Tryz.f167,h189,h1,h2]))
 .simp only [Rt.mk',Bool.true_and,true_and,and_self,and_true]
  by_cases h0:n=0
  .subst h0;simp [Ve]
  .have hg':n / Nat.gcd n d≠0:=Nat.div_gcd_ne_zero' (by omega)
   have e1:(Zi (n / Nat.gcd n d)==[48])=false:=by
    rw [beq_eq_false_iff_ne];intro e;exact hg' (Up.1 e)
   rw [e1];simp [h0]
 .simp [Rt.mk']
theorem Zo0 (r:Rt) (h1:(Zi r.num).length<=2^20) (h2:(Zi r.den).length<=2^20):Xy vE 168 [Z7n r] (.str r.text):=by
 intro K H
 refine Zh (fn:=Tryz.f168) rfl Tryz.func168 rfl rfl (by simp) (by simp) ?_ (by simp [*])
 ((try simp (disch:=first|omega|(simp<;>omega)|fail) [*,Ze,Tryz.f168]);repeat'(first|refine Z8 ?_|refine Z9 ?_|refine Z0 ?_|refine Z1 fun _=>?_|refine Z2 fun _ _=>?_|refine Z3 (fun _=>?_) fun _ _=>?_|refine Z4 fun _=>?_|refine Z5 fun _=>?_|refine Z6 (fun _=>?_) fun _=>?_|refine Z7 (fun _=>?_) fun _=>?_)<;>(try simp (disch:=first|omega|(simp<;>omega)|fail) [*,Ze,Tryz.f168]))
 all_goals simp_all [Rt.text,Zh6]
def Ur (a:Yp):Yp:=if a.head?=some 45 then a.tail else a
def U3 (a:Yp):Yp:=(Ur a).takeWhile (fun c=>!(c==47))
def V5 (a:Yp):Yp:=if 47∈Ur a then ((Ur a).dropWhile (fun c=>!(c==47))).tail else [49]
def Rf (a:Yp):Bool:=decide (a.head?=some 45)
def R1 (a:Yp):Bool:=Vq (U3 a)&&Vq (V5 a)&&!(V5 a==[48])&&(Tm (U3 a)==U3 a)&&(Tm (V5 a)==V5 a)&&((Rt.mk' (Rf a) (Yh (U3 a)) (Yh (V5 a))).text==a)
def R4 (a:Yp):PV:=if R1 a then .tuple [.agg [.bool (Rf a),.str (U3 a),.str (V5 a)],.bool true] else .tuple [.agg [.bool false,.str [],.str []],.bool false]
theorem Zi1 (a:Yp) (ha:a.length<=2^19):Xy vE 144 [.str a] (R4 a):=by
 have hbl:∀ m,below m 4 (R4 a)=true:=fun m=>by unfold R4;split<;>simp
 intro K H
 refine Zh (fn:=Tryz.f144) rfl Tryz.func144 rfl rfl (by simp) (by simp) ?_ (by simp [*])
 (refine Zil ?_;((try simp (disch:=first|omega|(simp<;>omega)|fail) [*,Ze]);repeat'(first|refine Z8 ?_|refine Z9 ?_|refine Z0 ?_|refine Z1 fun _=>?_|refine Z2 fun _ _=>?_|refine Z3 (fun _=>?_) fun _ _=>?_|refine Z4 fun _=>?_|refine Z5 fun _=>?_|refine Z6 (fun _=>?_) fun _=>?_|refine Z7 (fun _=>?_) fun _=>?_)<;>(try simp (disch:=first|omega|(simp<;>omega)|fail) [*,Ze]));all_goals try refine Zim ?_)
 (refine Zil ?_;((try simp (disch:=first|omega|(simp<;>omega)|fail) [*,Ze]);repeat'(first|refine Z8 ?_|refine Z9 ?_|refine Z0 ?_|refine Z1 fun _=>?_|refine Z2 fun _ _=>?_|refine Z3 (fun _=>?_) fun _ _=>?_|refine Z4 fun _=>?_|refine Z5 fun _=>?_|refine Z6 (fun _=>?_) fun _=>?_|refine Z7 (fun _=>?_) fun _=>?_)<;>(try simp (disch:=first|omega|(simp<;>omega)|fail) [*,Ze]));all_goals try refine Zim ?_)
 (refine Zil ?_;((try simp (disch:=first|omega|(simp<;>omega)|fail) [*,Ze]);repeat'(first|refine Z8 ?_|refine Z9 ?_|refine Z0 ?_|refine Z1 fun _=>?_|refine Z2 fun _ _=>?_|refine Z3 (fun _=>?_) fun _ _=>?_|refine Z4 fun _=>?_|refine Z5 fun _=>?_|refine Z6 (fun _=>?_) fun _=>?_|refine Z7 (fun _=>?_) fun _=>?_)<;>(try simp (disch:=first|omega|(simp<;>omega)|fail) [*,Ze]));all_goals try refine Zim ?_)
 generalize hv1:PH.stamp _ _=v1
 generalize hv2:PH.stamp _ _=v2
 refine Zz0 (fun sl h=>sl 0=some (.str a)/\sl 2=some (.ptr (H.next+2) v1 0)/\sl 4=some (.ptr (H.next+4) v2 0)/\sl 5=some (.str (Ur a))/\h.get (H.next+2)=some (v1,.cells [.bool false,.str [],.str []])/\h.get (H.next+4)=some (v2,.cells [.bool (Rf a),.str [],.str [49]])) ?_ ?_
 .cases a with
  | nil=>((try simp (disch:=first|omega|(simp<;>omega)|fail) [*,Ze,Ur,Rf]);repeat'(first|refine Z8 ?_|refine Z9 ?_|refine Z0 ?_|refine Z1 fun _=>?_|refine Z2 fun _ _=>?_|refine Z3 (fun _=>?_) fun _ _=>?_|refine Z4 fun _=>?_|refine Z5 fun _=>?_|refine Z6 (fun _=>?_) fun _=>?_|refine Z7 (fun _=>?_) fun _=>?_)<;>(try simp (disch:=first|omega|(simp<;>omega)|fail) [*,Ze,Ur,Rf]))
  | cons c r=>
    ((try simp (disch:=first|omega|(simp<;>omega)|fail) [*,Ze]);repeat'(first|refine Z8 ?_|refine Z9 ?_|refine Z0 ?_|refine Z1 fun _=>?_|refine Z2 fun _ _=>?_|refine Z3 (fun _=>?_) fun _ _=>?_|refine Z4 fun _=>?_|refine Z5 fun _=>?_|refine Z6 (fun _=>?_) fun _=>?_|refine Z7 (fun _=>?_) fun _=>?_)<;>(try simp (disch:=first|omega|(simp<;>omega)|fail) [*,Ze]))
    .rename_i h
     have:c=45:=by omega
     simp [Ur,Rf,this]
    .rename_i h0 h
     have:c≠45:=by omega
     simp [Ur,Rf,this]
 rintro sl h ⟨h0,h2,h4,h5,hg2,hg4⟩
 generalize hs:Ur a=s at *
 have hsl:s.length<=a.length:=by rw [<- hs,Ur];split<;>simp
 refine Zz0 (fun sl h=>sl 0=some (.str a)/\sl 2=some (.ptr (H.next+2) v1 0)/\sl 4=some (.ptr (H.next+4) v2 0)/\sl 5=some (.str (U3 a))/\h.get (H.next+2)=some (v1,.cells [.bool false,.str [],.str []])/\h.get (H.next+4)=some (v2,.cells [.bool (Rf a),.str [],.str (V5 a)])) ?_ ?_
 . ((try simp (disch:=first|omega|(simp<;>omega)|fail) [*,Ze]);repeat'(first|refine Z8 ?_|refine Z9 ?_|refine Z0 ?_|refine Z1 fun _=>?_|refine Z2 fun _ _=>?_|refine Z3 (fun _=>?_) fun _ _=>?_|refine Z4 fun _=>?_|refine Z5 fun _=>?_|refine Z6 (fun _=>?_) fun _=>?_|refine Z7 (fun _=>?_) fun _=>?_)<;>(try simp (disch:=first|omega|(simp<;>omega)|fail) [*,Ze]))
   refine Ya [0,2,4] (fun n sl h=>∃ i:Nat,n=s.length - i/\i<=s.length/\sl 6=some (.int .i64 i)/\sl 5=some (.str s)/\(∀ j (hj:j < s.length),j < i->s[j]≠47)/\h.get (H.next+2)=some (v1,.cells [.bool false,.str [],.str []])/\h.get (H.next+4)=some (v2,.cells [.bool (Rf a),.str [],.str [49]])) s.length rfl ⟨0,by simp [hg2,hg4,h5]⟩ ?_
   clear hg2 hg4
   rintro n sl2 hh hf ⟨i,hn,hi,h6,h5',hd,hg2,hg4⟩
   simp [h0,h2,h4] at hf
   replace hd:=Hide.mk hd
   replace hs:=Hide.mk hs
   by_cases hlt:i < s.length
   . ((try simp (disch:=first|omega|(simp<;>omega)|fail) [*,Ze]);repeat'(first|refine Z8 ?_|refine Z9 ?_|refine Z0 ?_|refine Z1 fun _=>?_|refine Z2 fun _ _=>?_|refine Z3 (fun _=>?_) fun _ _=>?_|refine Z4 fun _=>?_|refine Z5 fun _=>?_|refine Z6 (fun _=>?_) fun _=>?_|refine Z7 (fun _=>?_) fun _=>?_)<;>(try simp (disch:=first|omega|(simp<;>omega)|fail) [*,Ze]))
     .rename_i hc
      have hc':s[i]=47:=by omega
      have hsp:s=s.take i++47::s.drop (i+1):=by
       conv=>lhs;rw [<- List.take_append_drop i s,List.drop_eq_getElem_cons hlt,hc']
      have hno:∀ x∈s.take i,(!(x==47))=true:=fun x hx=>by
       obtain ⟨j,hj,rfl⟩:=List.getElem_of_mem hx
       rw [List.getElem_take]
       have:=hd.get j (by simp at hj;omega) (by simp at hj;omega)
       simpa using this
      have hm:47∈s:=by rw [hsp];simp
      have e1:U3 a=s.take i:=by
       rw [U3,hs.get]
       conv=>lhs;rw [hsp]
       rw [List.takeWhile_append_of_pos hno]
       simp
      have e2:V5 a=s.drop (i+1):=by
       rw [V5,hs.get,if_pos hm]
       conv=>lhs;rw [hsp]
       rw [List.dropWhile_append_of_pos hno]
       simp
      rw [e1,e2]
      exact ⟨rfl,List.take_of_length_le (by simp)⟩
     .rename_i hc0 hc
      refine ⟨_,by omega,i+1,rfl,by omega,rfl,fun j hj hji=>?_⟩
      by_cases e':j=i
      .subst e';omega
      .exact hd.get j hj (by omega)
   . ((try simp (disch:=first|omega|(simp<;>omega)|fail) [*,Ze]);repeat'(first|refine Z8 ?_|refine Z9 ?_|refine Z0 ?_|refine Z1 fun _=>?_|refine Z2 fun _ _=>?_|refine Z3 (fun _=>?_) fun _ _=>?_|refine Z4 fun _=>?_|refine Z5 fun _=>?_|refine Z6 (fun _=>?_) fun _=>?_|refine Z7 (fun _=>?_) fun _=>?_)<;>(try simp (disch:=first|omega|(simp<;>omega)|fail) [*,Ze]))
     have hno:∀ x∈s,(!(x==47))=true:=fun x hx=>by
      obtain ⟨j,hj,rfl⟩:=List.getElem_of_mem hx
      have:=hd.get j hj (by omega)
      simpa using this
     have hm:47∉s:=fun hm=>by have:=hno 47 hm;simp at this
     have e1:U3 a=s:=by
      rw [U3,hs.get]
      have:=List.takeWhile_append_of_pos (p:=fun c=>!(c==47)) (l₁:=s) (l₂:=[]) hno
      simpa using this
     rw [e1,V5,hs.get,if_neg hm]
     exact ⟨rfl,rfl⟩
 clear h0 h2 h4 h5 hg2 hg4
 rintro sl h ⟨h0,h2,h4,h5,hg2,hg4⟩
 have hln:(U3 a).length<=a.length:=by
  rw [U3]
  have:=(List.takeWhile_prefix (fun c=>!(c==47)) (l:=Ur a)).length_le
  have h2:(Ur a).length<=a.length:=by rw [Ur];split<;>simp
  omega
 have hld:(V5 a).length<=a.length+1:=by
  rw [V5]
  split
  .have:=(List.dropWhile_suffix (fun c=>!(c==47)) (l:=Ur a)).length_le
   have h2:(Ur a).length<=a.length:=by rw [Ur];split<;>simp
   simp;omega
  .simp
 have hX:Vq (U3 a)=true->Vq (V5 a)=true->(V5 a==[48])=false->Tm (U3 a)=U3 a->Tm (V5 a)=V5 a->∃ N D,0 < D/\U3 a=Zi N/\V5 a=Zi D/\N=Yh (U3 a)/\D=Yh (V5 a):=by
  intro h1 h2 h3 h4 h5
  rw [Zcr] at h1 h2
  refine ⟨Yh (U3 a),Yh (V5 a),?_,by rw [<- V8 h1.1 h1.2,h4],by rw [<- V8 h2.1 h2.2,h5],rfl,rfl⟩
  rcases Nat.eq_zero_or_pos (Yh (V5 a)) with hz | hz
  .have:=V8 h2.1 h2.2
   rw [h5,hz,Ve] at this
   rw [this] at h3
   simp at h3
  .exact hz
 have Zvy:=Zwh (U3 a) (by omega)
 have Zvx:=Zwh (V5 a) (by omega)
 have Zvw:=Zbd (U3 a) (by omega)
 have Zvv:=Zbd (V5 a) (by omega)
 have hP:R4 a=if R1 a then .tuple [.agg [.bool (Rf a),.str (U3 a),.str (V5 a)],.bool true] else .tuple [.agg [.bool false,.str [],.str []],.bool false]:=rfl
 have hRB:R1 a=(Vq (U3 a)&&Vq (V5 a)&&!(V5 a==[48])&&(Tm (U3 a)==U3 a)&&(Tm (V5 a)==V5 a)&&((Rt.mk' (Rf a) (Yh (U3 a)) (Yh (V5 a))).text==a)):=rfl
 rw [hP]
 clear hbl hP hs hsl
 replace hX:=Hide.mk hX
 replace hRB:=Hide.mk hRB
 generalize Rf a=sg at *
 generalize hnum:U3 a=num at *
 generalize hden:V5 a=den at *
 (refine Zil ?_;((try simp (disch:=first|omega|(simp<;>omega)|fail) [*,Ze]);repeat'(first|refine Z8 ?_|refine Z9 ?_|refine Z0 ?_|refine Z1 fun _=>?_|refine Z2 fun _ _=>?_|refine Z3 (fun _=>?_) fun _ _=>?_|refine Z4 fun _=>?_|refine Z5 fun _=>?_|refine Z6 (fun _=>?_) fun _=>?_|refine Z7 (fun _=>?_) fun _=>?_)<;>(try simp (disch:=first|omega|(simp<;>omega)|fail) [*,Ze]));all_goals try refine Zim ?_)
 by_cases Zaad:Vq num=true/\Vq den=true/\(den==[48])=false/\Tm num=num/\Tm den=den
 .obtain ⟨g1,g2,g3,g4,g5⟩:=Zaad
  obtain ⟨N,D,hD,e1,e2,e3,e4⟩:=hX.get g1 g2 g3 g4 g5
  have hNl:(Zi N).length<=2^20:=by rw [<- e1];omega
  have hDl:(Zi D).length<=2^20:=by rw [<- e2];omega
  have Z7c:=Zo1 sg N D hD hNl hDl
  have h168:=Zo0 (Rt.mk' sg N D) (by
   have:(Rt.mk' sg N D).num<=N:=Nat.div_le_self _ _
   have:=X6 this;omega) (by
   have:(Rt.mk' sg N D).den<=D:=Nat.div_le_self _ _
   have:=X6 this;omega)
  have hrb:R1 a=((Rt.mk' sg N D).text==a):=by
   rw [hRB.get,g1,g2,g3,g4,g5,<- e3,<- e4];simp
  replace hrb:=Hide.mk hrb
  subst e1
  subst e2
  clear e3 e4 hX hRB
  ((try simp (disch:=first|omega|(simp<;>omega)|fail) [*,Ze,Zvy,Zvx,Zvw,Zvv]);repeat'(first|refine Z8 ?_|refine Z9 ?_|refine Z0 ?_|refine Z1 fun _=>?_|refine Z2 fun _ _=>?_|refine Z3 (fun _=>?_) fun _ _=>?_|refine Z4 fun _=>?_|refine Z5 fun _=>?_|refine Z6 (fun _=>?_) fun _=>?_|refine Z7 (fun _=>?_) fun _=>?_)<;>(try simp (disch:=first|omega|(simp<;>omega)|fail) [*,Ze,Zvy,Zvx,Zvw,Zvv]))
  all_goals (rw [hrb.get];simp [*])
 . ((try simp (disch:=first|omega|(simp<;>omega)|fail) [*,Ze,Zvy,Zvx,Zvw,Zvv]);repeat'(first|refine Z8 ?_|refine Z9 ?_|refine Z0 ?_|refine Z1 fun _=>?_|refine Z2 fun _ _=>?_|refine Z3 (fun _=>?_) fun _ _=>?_|refine Z4 fun _=>?_|refine Z5 fun _=>?_|refine Z6 (fun _=>?_) fun _=>?_|refine Z7 (fun _=>?_) fun _=>?_)<;>(try simp (disch:=first|omega|(simp<;>omega)|fail) [*,Ze,Zvy,Zvx,Zvw,Zvv]))
   all_goals first
    | (exfalso;exact Zaad ⟨by assumption,by assumption,by assumption,by assumption,by assumption⟩)
    | (rw [hRB.get];simp [*];done)
    | trace_state
end Go.Proofs.YtabcdhcpilpojaaGreatDoor
end
section
set_option maxRecDepth 20000
namespace Go.Proofs.YtabcdhcpilpojaaGreatDoor
open Go Go.Pure
open Go.Virt (Ex Ctx Ty TK)
theorem Ziy {n c:Nat} (hc:c < 48\/57 < c):c∉Zi n:=fun h=>by
 have:=Yk.1 (Wb n) c h
 omega
theorem Zi7 (n:Nat):Tm (Zi n)=Zi n:=by rw [V8 (Wb n) (Qz n),Y8]
theorem Zgj (n:Nat):Vq (Zi n)=true:=by rw [Zcr];exact ⟨Wb n,Qz n⟩
theorem Zxm {r:Rt} (h:r.Ok):Rt.mk' r.neg r.num r.den=r:=by
 unfold Rt.mk'
 rw [h.low,Nat.div_one,Nat.div_one]
 have:(r.neg&&!(r.num==0))=r.neg:=by
  cases hn:r.neg with
  | false=>rfl
  | true=>have:=h.sign hn;simp [this]
 rw [this]
theorem Zth (neg:Bool) (n:Nat) {d:Nat} (hd:0 < d):(Rt.mk' neg n d).Ok where
 den:=Nat.div_pos (Nat.gcd_le_right n hd) (Nat.gcd_pos_of_pos_right n hd)
 low:=Nat.coprime_div_gcd_div_gcd (Nat.gcd_pos_of_pos_right n hd)
 sign:=by
  intro h
  simp only [Rt.mk',Bool.and_eq_true,Bool.not_eq_true',beq_eq_false_iff_ne] at h
  exact Nat.div_gcd_ne_zero' (by omega)
theorem U6 (r:Rt):Ur r.text=Zi r.num++(if r.den=1 then [] else 47::Zi r.den)/\Rf r.text=r.neg:=by
 obtain ⟨c,t,hc⟩:∃ c t,Zi r.num=c::t:=by
  cases h:Zi r.num with
  | nil=>exact absurd h (Qz _)
  | cons c t=>exact ⟨c,t,rfl⟩
 have h45:c≠45:=fun e=>Ziy (n:=r.num) (c:=45) (by omega) (by rw [hc,e];simp)
 cases hn:r.neg with
 | true=>simp [Ur,Rf,Rt.text,hn]
 | false=>simp [Ur,Rf,Rt.text,hn,hc,h45]
theorem Zi9 (r:Rt):U3 r.text=Zi r.num:=by
 rw [U3,(U6 r).1]
 have hno:∀ x∈Zi r.num,(!(x==47))=true:=fun x hx=>by
  have:x≠47:=fun e=>Ziy (n:=r.num) (c:=47) (by omega) (e ▸ hx)
  simpa using this
 rw [List.takeWhile_append_of_pos hno]
 split<;>simp
theorem Zja {r:Rt}:V5 r.text=Zi r.den:=by
 rw [V5,(U6 r).1]
 have hno:∀ x∈Zi r.num,(!(x==47))=true:=fun x hx=>by
  have:x≠47:=fun e=>Ziy (n:=r.num) (c:=47) (by omega) (e ▸ hx)
  simpa using this
 by_cases hd:r.den=1
 .rw [if_pos hd,if_neg,hd,Zgi]
  simp
  exact Ziy (by omega)
 .rw [if_neg hd,if_pos (by simp),List.dropWhile_append_of_pos hno]
  simp
theorem Zab {r:Rt} (h:r.Ok):R1 r.text=true:=by
 unfold R1
 rw [Zi9,Zja,(U6 r).2,Y8,Y8,Zxm h,Zgj,Zgj,Zi7,Zi7]
 have:(Zi r.den==[48])=false:=by
  rw [beq_eq_false_iff_ne]
  intro e
  have:=Up.1 e
  have:=h.den
  omega
 rw [this]
 simp
def Q5 (a:Yp):Rt:=⟨Rf a,Yh (U3 a),Yh (V5 a)⟩
theorem Sh (r:Rt):Q5 r.text=r:=by
 unfold Q5
 rw [Zi9,Zja,(U6 r).2,Y8,Y8]
theorem Zfk {a:Yp} (h:R1 a=true):(Q5 a).Ok/\a=(Q5 a).text/\U3 a=Zi (Q5 a).num/\V5 a=Zi (Q5 a).den:=by
 have h':=h
 unfold R1 at h
 simp only [Bool.and_eq_true,Bool.not_eq_true',beq_iff_eq,beq_eq_false_iff_ne] at h
 obtain ⟨⟨⟨⟨⟨h1,h2⟩,h3⟩,h4⟩,h5⟩,h6⟩:=h
 rw [Zcr] at h1 h2
 have hn:=V8 h1.1 h1.2
 have hd:=V8 h2.1 h2.2
 rw [h4] at hn
 rw [h5] at hd
 have U4:0 < Yh (V5 a):=by
  rcases Nat.eq_zero_or_pos (Yh (V5 a)) with hz | hz
  .rw [hz,Ve] at hd;exact absurd hd h3
  .exact hz
 have e:Q5 a=Rt.mk' (Rf a) (Yh (U3 a)) (Yh (V5 a)):=by
  conv=>lhs;rw [<- h6]
  exact Sh _
 refine ⟨by rw [e];exact Zth _ _ U4,by rw [e,h6],hn,hd⟩
theorem Zp2 {r s:Rt} (h:r.text=s.text):r=s:=by rw [<- Sh r,h,Sh]
theorem Z0q {r:Rt} (h:r.Ok):R4 r.text=.tuple [Z7n r,.bool true]:=by
 rw [R4,if_pos (Zab h),Zi9,Zja,(U6 r).2]
theorem Zg0 {a:Yp} (h:R1 a=false):R4 a=.tuple [.agg [.bool false,.str [],.str []],.bool false]:=by
 rw [R4,h];rfl
theorem Zgo {r:Rt} (h:r.Ok) (hl:r.text.length<=2^19):Xy vE 144 [.str r.text] (.tuple [Z7n r,.bool true]):=by
 have:=Zi1 r.text hl
 rwa [Z0q h] at this
def Zbz (a:Yp):Int:=if R1 a=false\/(Q5 a).num=0 then 0 else if (Q5 a).neg then -1 else 1
def Vv (a:Yp):Bool:=R1 a&&((Q5 a).den==1)
theorem Zwo (a:Yp) (ha:a.length<=2^19):Xy vE 123 [.str a] (.bool (R1 a)):=by
 have Qi:=Zi1 a ha
 intro K H
 refine Zh (fn:=Tryz.f123) rfl Tryz.func123 rfl rfl (by simp) (by simp) ?_ (by simp [*])
 by_cases h:R1 a=true
 .rw [R4,if_pos h] at Qi
  ((try simp (disch:=first|omega|(simp<;>omega)|fail) [*,Ze,Tryz.f123,Qi]);repeat'(first|refine Z8 ?_|refine Z9 ?_|refine Z0 ?_|refine Z1 fun _=>?_|refine Z2 fun _ _=>?_|refine Z3 (fun _=>?_) fun _ _=>?_|refine Z4 fun _=>?_|refine Z5 fun _=>?_|refine Z6 (fun _=>?_) fun _=>?_|refine Z7 (fun _=>?_) fun _=>?_)<;>(try simp (disch:=first|omega|(simp<;>omega)|fail) [*,Ze,Tryz.f123,Qi]))
 .simp only [Bool.not_eq_true] at h
  rw [Zg0 h] at Qi
  ((try simp (disch:=first|omega|(simp<;>omega)|fail) [*,Ze,Tryz.f123,Qi]);repeat'(first|refine Z8 ?_|refine Z9 ?_|refine Z0 ?_|refine Z1 fun _=>?_|refine Z2 fun _ _=>?_|refine Z3 (fun _=>?_) fun _ _=>?_|refine Z4 fun _=>?_|refine Z5 fun _=>?_|refine Z6 (fun _=>?_) fun _=>?_|refine Z7 (fun _=>?_) fun _=>?_)<;>(try simp (disch:=first|omega|(simp<;>omega)|fail) [*,Ze,Tryz.f123,Qi]))
theorem Zbe (a:Yp) (ha:a.length<=2^19):Xy vE 122 [.str a] (.bool (Vv a)):=by
 have Qi:=Zi1 a ha
 intro K H
 refine Zh (fn:=Tryz.f122) rfl Tryz.func122 rfl rfl (by simp) (by simp) ?_ (by simp [*])
 by_cases h:R1 a=true
 .have hd:=(Zfk h).2.2.2
  rw [R4,if_pos h,hd] at Qi
  ((try simp (disch:=first|omega|(simp<;>omega)|fail) [*,Ze,Tryz.f122,Qi]);repeat'(first|refine Z8 ?_|refine Z9 ?_|refine Z0 ?_|refine Z1 fun _=>?_|refine Z2 fun _ _=>?_|refine Z3 (fun _=>?_) fun _ _=>?_|refine Z4 fun _=>?_|refine Z5 fun _=>?_|refine Z6 (fun _=>?_) fun _=>?_|refine Z7 (fun _=>?_) fun _=>?_)<;>(try simp (disch:=first|omega|(simp<;>omega)|fail) [*,Ze,Tryz.f122,Qi]))
  rw [Vv,h,Bool.eq_iff_iff]
  simp [Zh6]
 .simp only [Bool.not_eq_true] at h
  rw [Zg0 h] at Qi
  ((try simp (disch:=first|omega|(simp<;>omega)|fail) [*,Ze,Tryz.f122,Qi]);repeat'(first|refine Z8 ?_|refine Z9 ?_|refine Z0 ?_|refine Z1 fun _=>?_|refine Z2 fun _ _=>?_|refine Z3 (fun _=>?_) fun _ _=>?_|refine Z4 fun _=>?_|refine Z5 fun _=>?_|refine Z6 (fun _=>?_) fun _=>?_|refine Z7 (fun _=>?_) fun _=>?_)<;>(try simp (disch:=first|omega|(simp<;>omega)|fail) [*,Ze,Tryz.f122,Qi]))
  simp [Vv,h]
theorem Z8y (a:Yp) (ha:a.length<=2^19):Xy vE 145 [.str a] (.int .i64 (Zbz a)):=by
 have Qi:=Zi1 a ha
 intro K H
 refine Zh (fn:=Tryz.f145) rfl Tryz.func145 rfl rfl (by simp) (by simp) ?_ (by simp [*])
 by_cases h:R1 a=true
 .have hd:=(Zfk h).2.2.1
  rw [R4,if_pos h,hd] at Qi
  ((try simp (disch:=first|omega|(simp<;>omega)|fail) [*,Ze,Tryz.f145,Qi]);repeat'(first|refine Z8 ?_|refine Z9 ?_|refine Z0 ?_|refine Z1 fun _=>?_|refine Z2 fun _ _=>?_|refine Z3 (fun _=>?_) fun _ _=>?_|refine Z4 fun _=>?_|refine Z5 fun _=>?_|refine Z6 (fun _=>?_) fun _=>?_|refine Z7 (fun _=>?_) fun _=>?_)<;>(try simp (disch:=first|omega|(simp<;>omega)|fail) [*,Ze,Tryz.f145,Qi]))
  .rename_i e
   rw [Zbz,if_pos (Or.inr (Up.1 e))]
  .rename_i _ e h45
   have hn:(Q5 a).neg=true:=by simp [Q5,Rf,h45]
   rw [Zbz,if_neg (by rw [h];rintro (hh | hh);cases hh;exact e (Up.2 hh)),if_pos hn]
  .rename_i _ e h45
   have hn:(Q5 a).neg=false:=by simp [Q5,Rf,h45]
   rw [Zbz,if_neg (by rw [h];rintro (hh | hh);cases hh;exact e (Up.2 hh)),hn]
   rfl
 .simp only [Bool.not_eq_true] at h
  rw [Zg0 h] at Qi
  ((try simp (disch:=first|omega|(simp<;>omega)|fail) [*,Ze,Tryz.f145,Qi]);repeat'(first|refine Z8 ?_|refine Z9 ?_|refine Z0 ?_|refine Z1 fun _=>?_|refine Z2 fun _ _=>?_|refine Z3 (fun _=>?_) fun _ _=>?_|refine Z4 fun _=>?_|refine Z5 fun _=>?_|refine Z6 (fun _=>?_) fun _=>?_|refine Z7 (fun _=>?_) fun _=>?_)<;>(try simp (disch:=first|omega|(simp<;>omega)|fail) [*,Ze,Tryz.f145,Qi]))
  all_goals simp [Zbz,h]
def Rt.mul (r s:Rt):Rt:=Rt.mk' (!(r.neg==s.neg)) (r.num*s.num) (r.den*s.den)
def Rt.div (r s:Rt):Rt:=Rt.mk' (!(r.neg==s.neg)) (r.num*s.den) (r.den*s.num)
def Rt.int (n:Int):Rt:=⟨decide (n < 0),n.natAbs,1⟩
theorem Zcd (n:Int):(Rt.int n).text=R8 n:=by
 unfold Rt.int Rt.text R8
 by_cases h:n < 0<;>simp [h]
theorem Zto (n:Int):(Rt.int n).Ok:=⟨by simp [Rt.int],by simp [Rt.int],by simp [Rt.int];omega⟩
theorem W0 (a b:Nat):(Zi (a*b)).length<=(Zi a).length+(Zi b).length:=by
 have h1:=Xx a
 have h2:=Xx b
 have h3:=Vp a
 refine Sy (by omega) ?_
 rw [Nat.pow_add]
 exact Nat.mul_lt_mul'' h1 h2
theorem Vb (r:Rt):(Zi r.num).length<=r.text.length/\(Zi r.den).length<=r.text.length:=by
 unfold Rt.text
 have:=Vp r.num
 constructor
 .simp;omega
 .by_cases h:r.den=1
  .rw [h,Zgi];simp;omega
  .simp [h];omega
theorem Ziq (neg:Bool) (n d:Nat):(Zi (Rt.mk' neg n d).num).length<=(Zi n).length/\(Zi (Rt.mk' neg n d).den).length<=(Zi d).length:=
 ⟨X6 (Nat.div_le_self _ _),X6 (Nat.div_le_self _ _)⟩
theorem Zuz (r:Rt):r.text.length<=(Zi r.num).length+(Zi r.den).length+2:=by
 unfold Rt.text
 cases r.neg<;>by_cases h:r.den=1<;>simp [h]<;>omega
theorem Z8x {r s:Rt} (h:r.Ok) (k:s.Ok) (hl:r.text.length<=2^19) (kl:s.text.length<=2^19):Xy vE 150 [.str r.text,.str s.text] (.str (r.mul s).text):=by
 have Qi:=Zgo h hl
 have k144:=Zgo k kl
 have h1:=Vb r
 have k1:=Vb s
 have m1:=W0 r.num s.num
 have m2:=W0 r.den s.den
 have a1:=Zi0 r.num s.num (by omega) (by omega)
 have a2:=Zi0 r.den s.den (by omega) (by omega)
 have hd:0 < r.den*s.den:=Nat.mul_pos h.den k.den
 have a3:=fun b=>Zo1 b (r.num*s.num) (r.den*s.den) hd (by omega) (by omega)
 have ml:=Ziq (!(r.neg==s.neg)) (r.num*s.num) (r.den*s.den)
 have a4:=Zo0 (Rt.mk' (!(r.neg==s.neg)) (r.num*s.num) (r.den*s.den)) (by show (Zi (Rt.mk' _ _ _).num).length<=_;omega) (by show (Zi (Rt.mk' _ _ _).den).length<=_;omega)
 clear h1 k1 m1 m2 hd ml hl kl h k
 intro K H
 refine Zh (fn:=Tryz.f150) rfl Tryz.func150 rfl rfl (by simp) (by simp) ?_ (by simp [*])
 ((try simp (disch:=first|omega|(simp<;>omega)|fail) [*,Ze,Tryz.f150]);repeat'(first|refine Z8 ?_|refine Z9 ?_|refine Z0 ?_|refine Z1 fun _=>?_|refine Z2 fun _ _=>?_|refine Z3 (fun _=>?_) fun _ _=>?_|refine Z4 fun _=>?_|refine Z5 fun _=>?_|refine Z6 (fun _=>?_) fun _=>?_|refine Z7 (fun _=>?_) fun _=>?_)<;>(try simp (disch:=first|omega|(simp<;>omega)|fail) [*,Ze,Tryz.f150]))
 rfl
theorem Z8s {r s:Rt} (h:r.Ok) (k:s.Ok) (hl:r.text.length<=2^19) (kl:s.text.length<=2^19) (hs:s.num≠0):Xy vE 164 [.str r.text,.str s.text] (.str (r.div s).text):=by
 have Qi:=Zgo h hl
 have k144:=Zgo k kl
 have h1:=Vb r
 have k1:=Vb s
 have m1:=W0 r.num s.den
 have m2:=W0 r.den s.num
 have a1:=Zi0 r.num s.den (by omega) (by omega)
 have a2:=Zi0 r.den s.num (by omega) (by omega)
 have hd:0 < r.den*s.num:=Nat.mul_pos h.den (by omega)
 have a3:=fun b=>Zo1 b (r.num*s.den) (r.den*s.num) hd (by omega) (by omega)
 have ml:=Ziq (!(r.neg==s.neg)) (r.num*s.den) (r.den*s.num)
 have a4:=Zo0 (Rt.mk' (!(r.neg==s.neg)) (r.num*s.den) (r.den*s.num)) (by show (Zi (Rt.mk' _ _ _).num).length<=_;omega) (by show (Zi (Rt.mk' _ _ _).den).length<=_;omega)
 have hs':¬ Zi s.num=[48]:=fun e=>hs (Up.1 e)
 clear h1 k1 m1 m2 hd ml hl kl h k
 intro K H
 refine Zh (fn:=Tryz.f164) rfl Tryz.func164 rfl rfl (by simp) (by simp) ?_ (by simp [*])
 ((try simp (disch:=first|omega|(simp<;>omega)|fail) [*,Ze,Tryz.f164]);repeat'(first|refine Z8 ?_|refine Z9 ?_|refine Z0 ?_|refine Z1 fun _=>?_|refine Z2 fun _ _=>?_|refine Z3 (fun _=>?_) fun _ _=>?_|refine Z4 fun _=>?_|refine Z5 fun _=>?_|refine Z6 (fun _=>?_) fun _=>?_|refine Z7 (fun _=>?_) fun _=>?_)<;>(try simp (disch:=first|omega|(simp<;>omega)|fail) [*,Ze,Tryz.f164]))
 .rename_i e;exact absurd e hs'
 .rfl
end Go.Proofs.YtabcdhcpilpojaaGreatDoor
end
