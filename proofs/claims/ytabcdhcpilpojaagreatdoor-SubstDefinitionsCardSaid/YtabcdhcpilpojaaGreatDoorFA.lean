/- Functions on names, each once. -/
import Derived.Test.YtabcdhcpilpojaaGreatDoorTm
import Derived.Lib.Bytealg
import Derived.Test.YtabcdhcpilpojaaGreatDoorPD
set_option linter.unusedSimpArgs false
set_option linter.unusedVariables false
section
set_option maxRecDepth 20000
namespace Go.Proofs.YtabcdhcpilpojaaGreatDoor
open Go Go.Pure
open Go.Virt (Ex Ctx Ty TK)
abbrev Yi:=List Nat
def Z46 (f:Nat):List Value->Option Value
 | [.string b,.int .u8 c]=>if Nat.beq f 230 then some (.int .i64 (Lib.indexByte b.data.toList c.toNat.toUInt8)) else none
 | _=>none
noncomputable def vE:Ctx:={vC with ext:=fun f a=>if Nat.beq f 19&&a.isEmpty then some (.bool true) else Z46 f a}
@[simp] theorem vE_T (t:Nat):vE.T t=vC.T t:=by simp only[vE]
@[simp] theorem Zaw4 (f:Nat):vE.raw f=vRaw f:=rfl
theorem Zaj4 (a b:Nat):Nat.beq a b=(a==b):=by rw[Bool.eq_iff_iff];simp
attribute [simp] vRaw Zaj4
theorem Zans:Xn vE 19 [] (.bool true):=by
 intro K H;rw[Zi9];rfl
theorem Zw5 (es:List Yi)(x:Yi):Vb (es.map fun s=>(.str s,.bool true)) (.str x)=some (if x∈es then some (.bool true) else none):=by
 induction es with
 |nil=>simp
 |cons e es ih=>
  simp only[List.map_cons,Vb,Vp,List.mem_cons];by_cases h:x=e
  .subst h;simp
  .have:(x==e)=false:=by simpa using h
   simp[this,h,ih]
theorem Zsd (es:List Yi)(x:Yi)(h:x∉es):Ur (es.map fun s=>(.str s,.bool true)) (.str x) (.bool true)=some ((es++[x]).map fun s=>(.str s,.bool true)):=by
 induction es with
 |nil=>simp
 |cons e es ih=>
  simp only[List.mem_cons,not_or]at h;have:(x==e)=false:=by simpa using h.1
  simp only[List.map_cons,Ur,Vp,this,ih h.2,Option.map_some,List.cons_append]
def Zif (c:Nat):Bool:=(decide (97<=c)&&decide (c<=122))||(decide (65<=c)&&decide (c<=90))
theorem Zang (c:Nat):Xn vE 88 [.int .u8 c] (.bool (Zif c)):=by
 intro K H;refine Wc Tryz.func88 ?_
 (refine Zm ?_;repeat'(first|(refine Zi fun _=>?_;try simp(disch:=first|exact Zq|fail)[*,Zs,Tryz.f88])|refine Ye ?_|refine Zx ?_|refine Zn ?_ ?_))
 all_goals (rw[Bool.eq_iff_iff];simp[Zif];omega)
theorem Zakr (b:Bool)(xs:List Yi)(s:Yi)(hn:xs.length < 2^62):Xn vE 84 [L 9 b (xs.map .str),.str s] (.bool (decide (s∈xs))):=by
 intro K H;refine Wc Tryz.func84 ?_
 (refine Zm ?_;repeat'(first|(refine Zi fun _=>?_;try simp(disch:=first|exact Zq|fail)[*,Zs,Tryz.f84])|refine Ye ?_|refine Zx ?_|refine Zn ?_ ?_))
 refine Zh [0,1] (fun n sl h=>∃i:Nat,n=xs.length - i/\i<=xs.length/\sl 5=some (.int .i64 i)/\∀j (hj:j < xs.length),j < i->xs[j]≠s) xs.length rfl ⟨0,by simp⟩ ?_;rintro n sl h hf ⟨i,hn',hi,h5,hd⟩;simp at hf;replace hd:=Hide.mk hd;by_cases hlt:i < xs.length
 . (refine Zm ?_;repeat'(first|(refine Zi fun _=>?_;try simp(disch:=first|exact Zq|fail)[*,Zs])|refine Ye ?_|refine Zx ?_|refine Zn ?_ ?_))
   .rename_i e;subst e;exact List.getElem_mem hlt
   .rename_i e;refine⟨_,by omega,i+1,rfl,by omega,rfl,fun j hj hji=>?_⟩;by_cases e':j=i
    .subst e';exact e
    .exact hd.get j hj (by omega)
 . (refine Zm ?_;repeat'(first|(refine Zi fun _=>?_;try simp(disch:=first|exact Zq|fail)[*,Zs])|refine Ye ?_|refine Zx ?_|refine Zn ?_ ?_))
   intro hm;obtain⟨j,hj,e⟩:=List.getElem_of_mem hm;exact hd.get j hj (by omega) e
theorem Zani (xs:List Yi)(s:Yi)(hn:xs.length < 2^62):Xn vE 84 [.lst 9 (xs.map .str),.str s] (.bool (decide (s∈xs))):=Zakr false xs s hn
def Sj:List Yi:=[[97,110,100],[111,114],[110,111,116],[105,116,101],[116,114,117,101],[102,97,108,115,101],[108,101,116],[102,111,114,97,108,108],[101,120,105,115,116,115],[100,105,115,116,105,110,99,116],[100,105,118],[109,111,100],[115,101,108,101,99,116],[115,116,111,114,101],[99,111,110,115,116],[66,111,111,108],[73,110,116],[82,101,97,108],[65,114,114,97,121]]
theorem Zanh:Xn vE 87 [] (.lst 9 (Sj.map .str)):=by
 intro K H;refine Wc Tryz.func87 ?_;simp[Tryz.f87,Znj];rfl
def Zkf (c:Nat):Bool:=Zif c||c==95||c==36||c==33
def okR (z:Bool)(c:Nat):Bool:=Zkf c||(!z&&((decide (48<=c)&&decide (c<=57))||c==46||c==64))
def Zh4:Nat->Yi->Bool
 | _,[]=>true
 |k,c::r=>okR (k==0) c&&Zh4 (k+1) r
def Tm (s:Yi):Bool:=!(s==[])&&decide (s.length<=40)&&!decide (s∈Sj)&&Zh4 0 s
theorem Z1d {k c:Nat}:okR (k==0) c=true↔Zif c=true\/c=95\/c=36\/c=33\/(k≠0/\((48<=c/\c<=57)\/c=46\/c=64)):=by
 simp[okR,Zkf];constructor
 .rintro ((((h | h) | h) | h) | h)<;>simp[h];rcases h.2 with (h | h) | h<;>simp[h]
 .rintro (h | h | h | h | ⟨h,h' | h' | h'⟩)<;>simp[*]
theorem Zqn (s:Yi)(i:Nat)(h:i < s.length):Zh4 i (s.drop i)=(okR (i==0) s[i]&&Zh4 (i+1) (s.drop (i+1))):=by
 rw[List.drop_eq_getElem_cons h];rfl
theorem Zabu (s:Yi)(hn:s.length < 2^62):Xn vE 30 [.str s] (.bool (Tm s)):=by
 intro K H;refine Wc Tryz.func30 ?_;have h84:∀s,Xn vE 84 [.lst 9 (Sj.map .str),.str s] (.bool (decide (s∈Sj))):=fun s=>Zani Sj s (by decide)
 (refine Zm ?_;repeat'(first|(refine Zi fun _=>?_;try simp(disch:=first|exact Zq|fail)[*,Zs,Tryz.f30,Zanh,h84])|refine Ye ?_|refine Zx ?_|refine Zn ?_ ?_))
 .simp [Tm, *]
 .rename_i h;have:¬ s.length<=40:=by omega
  simp[Tm,this]
 .simp [Tm, *]
 rename_i Yn hle hnr;clear h84;refine Zh [0] (fun n sl h=>∃i:Nat,n=s.length - i/\i<=s.length/\sl 3=some (.int .i64 i)/\Zh4 0 s=Zh4 i (s.drop i)) s.length rfl ⟨0,by simp⟩ ?_;rintro n sl h hf ⟨i,hn',hi,h3,hs⟩;simp at hf;have hle':s.length<=40:=by omega
 have Z84:s≠[]:=by (first|done|omega|(simp at *;done)|(simp at *;omega)|(simp at *;rw[Bool.eq_iff_iff];simp;omega))
 have Znx:Tm s=Zh4 i (s.drop i):=by simp[Tm,hle',Z84,hnr,hs]
 replace hs:=Hide.mk hs;clear Yn hnr;by_cases hlt:i < s.length
 .rw [Zqn s i hlt]at Znx;rw[Znx];have Xj:okR (i==0) s[i]=true->(∃m,m < s.length - i/\∃i_1:Nat,m=s.length - i_1/\i_1<=s.length/\(i:Int)+1=i_1/\Zh4 0 s=Zh4 i_1 (s.drop i_1)):=fun hk=>⟨s.length - (i+1),by omega,i+1,rfl,by omega,rfl,by rw[hs.get,Zqn s i hlt,hk];rfl⟩
  generalize hP:Zh4 (i+1) (s.drop (i+1))=P at *;clear Znx;replace Xj:=Hide.mk Xj
  (refine Zm ?_;repeat'(first|(refine Zi fun _=>?_;try simp(disch:=first|exact Zq|fail)[*,Zs,Zang])|refine Ye ?_|refine Zx ?_|refine Zn ?_ ?_))
  all_goals first
   | (exfalso;omega)
   | (refine Xj.get ?_
      rw[Z1d]
      first | (left;assumption) | (right;omega))
   | (have hk:¬ okR (i==0) s[i]=true:=by
       rw[Z1d];rintro (hh | hh)
       .simp_all
       .omega
      simp only[Bool.not_eq_true]at hk;simp[hk]
      done)
   |trace_state
 .have:s.drop i=[]:=List.drop_eq_nil_of_le (by omega);rw[this]at Znx
  (refine Zm ?_;repeat'(first|(refine Zi fun _=>?_;try simp(disch:=first|exact Zq|fail)[*,Zs,Znx,Zh4])|refine Ye ?_|refine Zx ?_|refine Zn ?_ ?_))
def Ze (n:Nat):Yi:=if n < 10 then [48+n] else Ze (n / 10)++[48+n % 10]
def Zgy (v:Int)(n:Nat):Nat:=(IntKind.u64.wrap v).toNat % n
theorem Zsj (v:Int){n:Nat}(h:0 < n):Zgy v n < n:=Nat.mod_lt _ h
theorem Zabv (v:Int)(n:Nat)(h0:0 < n)(hn:n < 2^62):Xn vE 27 [.int .i64 v,.int .i64 n] (.int .i64 (Zgy v n)):=by
 intro K H;refine Wc Tryz.func27 ?_;have h1:IntKind.u64.wrap n=n:=Zp7 (by omega) (by omega)
 have h2:(IntKind.u64.wrap v).tmod n=Zgy v n:=by
  have:=@Z6h v;rw[Int.tmod_eq_emod_of_nonneg this.1];unfold Zgy;rw[Int.natCast_emod,Int.toNat_of_nonneg this.1]
 have h3:IntKind.i64.wrap (Zgy v n)=Zgy v n:=Zuj (by omega) (by have:=Zsj v h0;omega);have h4:n≠0:=by omega
 (refine Zm ?_;repeat'(first|(refine Zi fun _=>?_;try simp(disch:=first|exact Zq|fail)[*,Zs,Tryz.f27,h1,h2,h3])|refine Ye ?_|refine Zx ?_|refine Zn ?_ ?_))
def Za8 (n:Int):Yi:=if n < 0 then 45::Ze n.natAbs else Ze n.natAbs
theorem Z78 (n:Nat):Za8 n=Ze n:=by simp[Za8]
theorem Z5d {N m:Nat}{s:Yi}(h1:s=[]->m=N)(h3:s=[]\/if m=0 then s=Ze N else Ze N=Ze m++s)(h:m≠0\/s=[]):
  if m / 10=0 then (48+m % 10)::s=Ze N else Ze N=Ze (m / 10)++(48+m % 10)::s:=by
 have hd:Ze N=Ze m++s:=by
  rcases h3 with h3 | h3
  .rw [h3,h1 h3];simp
  .by_cases hm:m=0
   .rcases h with h | h
    .exact absurd hm h
    .rw [h,h1 h];simp
   .simpa [hm]using h3
 split
 .rename_i hz;rw[hd,Ze,if_pos (by omega),Nat.mod_eq_of_lt (by omega)];rfl
 .rename_i hz;rw[hd]
  conv=>lhs;rw[Ze]
  rw[if_neg (by omega),List.append_assoc];rfl
theorem Rf (n:Int)(hn1 : -4611686018427387904 < n)(hn2:n < 4611686018427387904):Xn vE 38 [.int .i64 n] (.str (Za8 n)):=by
 intro K H;refine Wc Tryz.func38 ?_
 (refine Zm ?_;repeat'(first|(refine Zi fun _=>?_;try simp(disch:=first|exact Zq|fail)[*,Zs,Tryz.f38])|refine Ye ?_|refine Zx ?_|refine Zn ?_ ?_))
 refine Zh [0] (fun q sl h=>∃(m:Nat) (s:Yi),q=m+(if s=[] then 1 else 0)/\(s=[]->m=n.natAbs)/\m<=n.natAbs/\s.length+m < 2^62/\(s=[]\/(if m=0 then s=Ze n.natAbs else Ze n.natAbs=Ze m++s))/\sl 4=some (.int .i64 (if n < 0 then -(m:Int) else m))/\sl 3=some (.str s)) (n.natAbs+1) rfl ⟨n.natAbs,[],by simp,by simp,by simp,by simp;omega,by simp,?_,by simp⟩ ?_
 .simp;omega
 rintro q sl h hf ⟨m,s,hm,h1,h2,hb,h3,h4,h5⟩;simp at hf
 have hq:((if n < 0 then -(m:Int) else m)).tmod 10=(if n < 0 then -((m % 10:Nat):Int) else ((m % 10:Nat):Int)):=by
  split
  .rw [Int.neg_tmod,Int.tmod_eq_emod_of_nonneg (by omega)];omega
  .rw [Int.tmod_eq_emod_of_nonneg (by omega)];omega
 have hq4:((if n < 0 then -(m:Int) else m)).tdiv 10=(if n < 0 then -((m / 10:Nat):Int) else ((m / 10:Nat):Int)):=by
  split
  .rw [Int.neg_tdiv,Int.tdiv_eq_ediv_of_nonneg (by omega)];omega
  .rw [Int.tdiv_eq_ediv_of_nonneg (by omega)];omega
 have Zasm:(m≠0\/s=[])->(m / 10 < m+if s=[] then 1 else 0)/\(s.length+1)+m / 10 < 4611686018427387904/\(if m / 10=0 then (48+m % 10)::s=Ze n.natAbs else Ze n.natAbs=Ze (m / 10)++(48+m % 10)::s):=fun hh=>by
  refine⟨?_,?_,Z5d h1 h3 hh⟩
  .split
   .omega
   .rcases hh with hh | hh
    .omega
    .contradiction
  .rcases hh with hh | hh
   .omega
   .subst hh;simp at hb ⊢;omega
 generalize hv:(if n < 0 then -(m:Int) else m)=v at *;by_cases Zwj:n < 0
 all_goals (
  simp only[Zwj,if_true,if_false]at hv hq hq4
  (refine Zm ?_;repeat'(first|(refine Zi fun _=>?_;try simp(disch:=first|exact Zq|fail)[*,Zs,hq,hq4, -Int.natCast_emod, -Int.natCast_ediv])|refine Ye ?_|refine Zx ?_|refine Zn ?_ ?_))
  all_goals first
   | (obtain⟨F1,F2,F3⟩:=Zasm (by first | (left;omega) | (right;simp_all;done))
      refine⟨m / 10,F1,m / 10,(48+m % 10)::s,by simp,by simp,by omega,by simpa using F2,Or.inr F3,by omega,by congr 1;omega⟩)
   | (have hs0:s≠[]:=by simp_all
      have hm0:m=0:=by omega
      rcases h3 with h3 | h3
      .exact absurd h3 hs0
      .rw [if_pos hm0]at h3;simp[Za8,Zwj,h3])
   | (exfalso;omega)
   |trace_state)
theorem Zabs (n:Nat)(hn:n < 2^62):Xn vE 38 [.int .i64 n] (.str (Ze n)):=by
 have:=Rf n (by omega) (by omega)
 rwa [Z78]at this
theorem Z2x (c:Nat):Xn vE 126 [.int .u8 c] (.bool (Zkf c)):=by
 intro K H;refine Wc Tryz.func126 ?_
 (refine Zm ?_;repeat'(first|(refine Zi fun _=>?_;try simp(disch:=first|exact Zq|fail)[*,Zs,Tryz.f126])|refine Ye ?_|refine Zx ?_|refine Zn ?_ ?_))
 all_goals (rw[Bool.eq_iff_iff];simp[Zkf,Zif];omega)
theorem Zag5 (s:Yi):Xn vE 127 [.str s] (.bool (decide (s∈Sj))):=by
 intro K H;refine Wc Tryz.func127 ?_
 (refine Zm ?_;repeat'(first|(refine Zi fun _=>?_;try simp(disch:=first|exact Zq|fail)[*,Zs,Tryz.f127])|refine Ye ?_|refine Zx ?_|refine Zn ?_ ?_))
 all_goals simp_all[Sj]
theorem Z1e {c:Nat}:okR false c=true↔Zkf c=true\/(48<=c/\c<=57)\/c=46\/c=64:=by
 simp[okR,or_assoc]
theorem Z7i (s:Yi)(k:Nat):Zh4 (k+1) s=s.all (okR false):=by
 induction s generalizing k with
 |nil=>rfl
 |cons c s ih=>simp[Zh4,ih]
theorem Z3s (s:Yi):Tm s=true↔∃c r,s=c::r/\s.length<=40/\s∉Sj/\Zkf c=true/\∀d∈s,okR false d=true:=by
 cases s with
 |nil=>simp[Tm]
 |cons c r=>
  simp[Tm,Zh4,Z7i,okR,and_assoc]
  intros
  left;assumption
theorem Zabg (s:Yi)(hn:s.length < 2^62):Xn vE 85 [.str s] (.bool (Tm s)):=by
 intro K H;refine Wc Tryz.func85 ?_;cases s with
 |nil=>(refine Zm ?_;repeat'(first|(refine Zi fun _=>?_;try simp(disch:=first|exact Zq|fail)[*,Zs,Tryz.f85,Tm])|refine Ye ?_|refine Zx ?_|refine Zn ?_ ?_))
 |cons c0 s0=>
 have hn':s0.length+1 < 2^62:=hn
 have hno:∀ {P:Prop},(Tm (c0::s0)=true->P)->¬ P->Tm (c0::s0)=false:=fun h1 h2=>by
  cases hh:Tm (c0::s0) with
  |true=>exact absurd (h1 hh) h2
  |false=>rfl
 have hi:=Z3s (c0::s0);have hl:0 < (c0::s0).length:=by simp
 have h0:(c0::s0)[0]'hl=c0:=rfl;replace hi:=Hide.mk hi;replace hno:=Hide.mk @hno;have hS:∀c r,c0::s0=c::r->c=c0:=fun c r e=>by cases e;rfl
 have hE:(c0::s0).isEmpty=false:=rfl;generalize c0::s0=S at *;replace hS:=Hide.mk hS
 have Zco:∀(j:Nat) (hj:j < S.length),okR false S[j]=false->Tm S=false:=fun j hj h=>
  hno.get (fun h1=>(hi.get.1 h1)) (by rintro⟨c,r,_,_,_,_,h5⟩;rw[h5 _ (List.getElem_mem hj)]at h;cases h)
 replace Zco:=Hide.mk Zco
 (refine Zm ?_;repeat'(first|(refine Zi fun _=>?_;try simp(disch:=first|exact Zq|fail)[*,Zs,Tryz.f85,Z2x,Zag5])|refine Ye ?_|refine Zx ?_|refine Zn ?_ ?_))
 .exact hno.get (fun h1=>(hi.get.1 h1)) (by rintro⟨c,r,_,h2,_⟩;omega)
 .rename_i h1 h2 h3;exact hno.get (fun h1=>(hi.get.1 h1)) (by rintro⟨c,r,_,_,h4,_⟩;exact h4 h3)
 rotate_left 1
 .rename_i h1 h2;exact hno.get (fun h1=>(hi.get.1 h1)) (by rintro⟨c,r,e,_,_,h5,_⟩;rw[hS.get c r e,h2]at h5;cases h5)
 rename_i h1 h2 h3;refine Zh [0,23] (fun n sl h=>∃i:Nat,n=S.length - i/\i<=S.length/\sl 24=some (.int .i64 i)/\∀j (hj:j < S.length),j < i->okR false S[j]=true) S.length rfl ⟨0,by simp⟩ ?_;rintro n sl h hf ⟨i,hn',hi',h24,hd⟩;simp at hf;replace hd:=Hide.mk hd;by_cases hlt:i < S.length
 . (refine Zm ?_;repeat'(first|(refine Zi fun _=>?_;try simp(disch:=first|exact Zq|fail)[*,Zs,Z2x])|refine Ye ?_|refine Zx ?_|refine Zn ?_ ?_))
   all_goals first
    | (exfalso;omega)
    | (refine⟨_,by omega,i+1,rfl,by omega,rfl,fun j hj hji=>?_⟩
       by_cases e':j=i
       .subst e';rw[Z1e];first | (left;assumption) | (right;omega)
       .exact hd.get j hj (by omega))
    | (refine Zco.get i hlt ?_
       rw[Bool.eq_false_iff,Ne,Z1e];rintro (hh | hh)
       .simp_all
       .omega)
 . (refine Zm ?_;repeat'(first|(refine Zi fun _=>?_;try simp(disch:=first|exact Zq|fail)[*,Zs])|refine Ye ?_|refine Zx ?_|refine Zn ?_ ?_))
   rw[hi.get]
   obtain⟨c,r,rfl⟩:∃c r,S=c::r:=by
    cases S with
    |nil=>simp at hl
    |cons c r=>exact⟨c,r,rfl⟩
   refine⟨c,r,rfl,by omega,h3,?_,fun d hdm=>?_⟩
   .have:=hS.get c r rfl;rw[this];exact h2
   .obtain ⟨j,hj,rfl⟩:=List.getElem_of_mem hdm;exact hd.get j hj (by omega)
end Go.Proofs.YtabcdhcpilpojaaGreatDoor
end
section
namespace Go.Proofs.YtabcdhcpilpojaaGreatDoor
open Go
def digB (c:Nat):Bool:=decide (48<=c)&&decide (c<=57)
theorem Zaam {c:Nat}:digB c=true↔48<=c/\c<=57:=by simp[digB]
def R6 (s:Yi):Bool:=s.all digB
theorem Yr {s:Yi}:R6 s=true↔∀c∈s,48<=c/\c<=57:=by simp[R6,Zaam]
def Zlk (a:Nat)(s:Yi):Nat:=s.foldl (fun a c=>a*10+(c - 48)) a
theorem Uu (a:Nat):Zlk a []=a:=rfl
theorem Te (a c:Nat)(r:Yi):Zlk a (c::r)=Zlk (a*10+(c - 48)) r:=by simp only[Zlk,List.foldl_cons]
def Yq (s:Yi):Nat:=Zlk 0 s
theorem Zus (a:Nat)(s t:Yi):Zlk a (s++t)=Zlk (Zlk a s) t:=by
 induction s generalizing a with
 |nil=>rfl
 |cons c s ih=>rw[List.cons_append,Te,Te,ih]
theorem Z00 (a:Nat)(s:Yi):Zlk a s=a*10^s.length+Yq s:=by
 induction s generalizing a with
 |nil=>simp[Uu,Yq]
 |cons c s ih=>
  rw[Yq,Te,Te,ih,ih (0*10+(c - 48)),List.length_cons,Nat.pow_succ];generalize 10^s.length=P;rw[Nat.add_mul,Nat.zero_mul,Nat.zero_add,Nat.mul_assoc,Nat.mul_comm 10];omega
theorem Rw (c:Nat)(s:Yi):Yq (c::s)=(c - 48)*10^s.length+Yq s:=by
 rw[Yq,Te,Z00];simp
theorem Zkp (s t:Yi):Yq (s++t)=Yq s*10^t.length+Yq t:=by rw[Yq,Zus,Z00];rfl
theorem Td (s:Yi)(c:Nat):Yq (s++[c])=Yq s*10+(c - 48):=by rw[Zkp];simp[Yq,Uu,Te]
theorem Zhl {s:Yi}(h:R6 s=true):Yq s < 10^s.length:=by
 induction s with
 |nil=>simp[Yq,Uu,Te]
 |cons c s ih=>
  have hc:=(Yr.1 h) c List.mem_cons_self;have hs:R6 s=true:=Yr.2 fun d hd=>Yr.1 h d (List.mem_cons_of_mem _ hd)
  have h1:=ih hs;rw[Rw,List.length_cons,Nat.pow_succ];have h2:(c - 48)*10^s.length<=9*10^s.length:=Nat.mul_le_mul_right _ (by omega);omega
theorem Zbm (n:Nat):Ze n≠[]:=by rw[Ze];split<;>simp
theorem Ww (n:Nat):R6 (Ze n)=true:=by
 induction n using Nat.strongRecOn with
 | _ n ih=>
   rw[Ze];split
   .rw [Yr];intro c hc;simp at hc;omega
   .have:=ih (n / 10) (by omega);rw[Yr]at this ⊢;intro c hc;rcases List.mem_append.1 hc with h | h
    .exact this c h
    .simp at h;omega
theorem Xq (n:Nat):Yq (Ze n)=n:=by
 induction n using Nat.strongRecOn with
 | _ n ih=>
   rw[Ze];split
   .simp [Yq,Uu,Te]
   .rw [Td,ih (n / 10) (by omega)];omega
theorem Ze1 {a b:Nat}(h:Ze a=Ze b):a=b:=by rw[<- Xq a,<- Xq b,h]
theorem Zkj (n:Nat):n=0\/∃c r,Ze n=c::r/\49<=c/\c<=57:=by
 induction n using Nat.strongRecOn with
 | _ n ih=>
   rcases Nat.eq_zero_or_pos n with h | h
   .exact Or.inl h
   .right;rw[Ze];split
    .exact ⟨48+n,[],rfl,by omega,by omega⟩
    .rcases ih (n / 10) (by omega) with h' | ⟨c,r,h1,h2,h3⟩
     .omega
     .exact ⟨c,r++[48+n % 10],by rw[h1];rfl,h2,h3⟩
theorem V7:Ze 0=[48]:=by rw[Ze,if_pos (by omega)]
theorem Zi2:Ze 1=[49]:=by rw[Ze,if_pos (by omega)]
theorem Uh (n:Nat):1<=(Ze n).length:=by
 cases h:Ze n with
 |nil=>exact absurd h (Zbm n)
 |cons c r=>simp
theorem U7 {n k:Nat}(hk:0 < k)(h:n < 10^k):(Ze n).length<=k:=by
 induction k generalizing n with
 |zero=>omega
 |succ k ih=>
  rw[Ze];split
  .simp
  .rcases Nat.eq_zero_or_pos k with rfl | hk'
   .omega
   .rw [Nat.pow_succ]at h;have:=ih hk' (n:=n / 10) (by omega);simp only[List.length_append,List.length_cons,List.length_nil];omega
theorem Wf (n:Nat):n < 10^(Ze n).length:=by
 have:=Zhl (Ww n)
 rwa [Xq]at this
theorem Wr {a b:Nat}(h:a<=b):(Ze a).length<=(Ze b).length:=by
 rcases Nat.eq_zero_or_pos a with rfl | ha
 .rw [V7];exact Uh b
 .have h1:=Wf b;exact U7 (Uh b) (by omega)
def Sx:Yi->Yi
 | []=>[]
 | [c]=>[c]
 |c::d::r=>if c=48 then Sx (d::r) else c::d::r
theorem Zrl {s:Yi}(h:R6 s=true)(Yn:s≠[])(h0:s=[48]\/∀r,s≠48::r):Ze (Yq s)=s:=by
 have key:∀(k:Nat) (s:Yi),s.length=k->R6 s=true->s≠[]->(s=[48]\/∀r,s≠48::r)->Ze (Yq s)=s:=by
  intro k
  induction k with
  |zero=>intro s hl _ Yn _;exact absurd (List.length_eq_zero_iff.1 hl) Yn
  |succ k ih=>
   intro s hl hd Yn h0;rcases List.eq_nil_or_concat s with rfl | ⟨t,c,rfl⟩
   .exact absurd rfl Yn
   .rw [List.concat_eq_append]at *;have hc:=Yr.1 hd c (by simp);have ht:R6 t=true:=Yr.2 fun d hdd=>Yr.1 hd d (List.mem_append_left _ hdd)
    rw[Td];by_cases htn:t=[]
    .subst htn;simp only[Yq,Uu,Te,Nat.zero_mul,Nat.zero_add,List.nil_append];rw[Ze,if_pos (by omega)];congr 1;omega
    .have h0t:t=[48]\/∀r,t≠48::r:=by
      right;rintro r rfl;rcases h0 with h0 | h0
      .simp at h0
      .exact h0 (r++[c]) rfl
     have e:=ih t (by simp at hl;omega) ht htn h0t
     have Sr:1<=Yq t:=by
      rcases Nat.eq_zero_or_pos (Yq t) with hz | hz
      .rw [hz,V7]at e;rcases h0t with h0t | h0t
       .subst h0t;rcases h0 with h0 | h0
        .simp at h0
        .exact absurd rfl (h0 [c])
       .exact absurd e.symm (h0t [])
      .exact hz
     rw[Ze,if_neg (by omega)];have e1:(Yq t*10+(c - 48)) / 10=Yq t:=by omega
     have e2:48+(Yq t*10+(c - 48)) % 10=c:=by omega
     rw[e1,e2,e]
 exact key s.length s rfl h Yn h0
theorem Ux {s:Yi}(h:R6 s=true)(Yn:s≠[]):Sx s=Ze (Yq s):=by
 induction s with
 |nil=>exact absurd rfl Yn
 |cons c s ih=>
  cases s with
  |nil=>
   rw[Sx];refine (Zrl h Yn ?_).symm;by_cases hc:c=48
   .left;rw[hc]
   .right;rintro r e;cases e;exact hc rfl
  |cons d r=>
   rw[Sx];split
   .rename_i hc;subst hc;have hs:R6 (d::r)=true:=Yr.2 fun x hx=>Yr.1 h x (List.mem_cons_of_mem _ hx)
    rw[ih hs (by simp),Rw 48];simp
   .rename_i hc;refine (Zrl h Yn ?_).symm;right;rintro r' e;cases e;exact hc rfl
theorem Zadd {s:Yi}(hs:R6 s=true){i:Nat}(h:i < s.length):s[s.length - 1 - i]'(by omega)=48+Yq s / 10^i % 10:=by
 have key:∀(k:Nat) (s:Yi),s.length=k->R6 s=true->∀(i:Nat) (h:i < s.length),s[s.length - 1 - i]'(by omega)=48+Yq s / 10^i % 10:=by
  intro k
  induction k with
  |zero=>intro s hl _ i h;omega
  |succ k ih=>
   intro s hl hd i h;rcases List.eq_nil_or_concat s with rfl | ⟨t,c,rfl⟩
   .simp at h
   .simp only [List.concat_eq_append]at *;have hc:=Yr.1 hd c (by simp);have ht:R6 t=true:=Yr.2 fun d hdd=>Yr.1 hd d (List.mem_append_left _ hdd)
    have hlt:t.length=k:=by simpa using hl
    rw[Td];cases i with
    |zero=>
     have:(t++[c])[(t++[c]).length - 1 - 0]'(by omega)=c:=by simp
     rw[this,Nat.pow_zero,Nat.div_one];omega
    |succ i=>
     have hi:i < t.length:=by simp at h;omega
     have e:=ih t hlt ht i hi
     have e1:(t++[c])[(t++[c]).length - 1 - (i+1)]'(by omega)=t[t.length - 1 - i]'(by omega):=by
      rw[List.getElem_append_left (by simp;omega)];congr 1;simp;omega
     have e2:(Yq t*10+(c - 48)) / 10^(i+1)=(Yq t*10+(c - 48)) / 10 / 10^i:=by
      rw[Nat.pow_succ,Nat.mul_comm (10^i),Nat.div_div_eq_div_mul]
     have:(Yq t*10+(c - 48)) / 10=Yq t:=by omega
     rw[e1,e,e2,this]
 exact key s.length s rfl hs i h
theorem Zl9 {a i:Nat}(h:i < (Ze a).length):(Ze a)[(Ze a).length - 1 - i]'(by omega)=48+a / 10^i % 10:=by
 rw[Zadd (Ww a) h,Xq]
theorem Zki {a i:Nat}(h:(Ze a).length<=i):a / 10^i=0:=by
 have h1:=Wf a;exact Nat.div_eq_of_lt (Nat.lt_of_lt_of_le h1 (Nat.pow_le_pow_right (by omega) h))
theorem Q3 {a i:Nat}(h:(Ze a).length<=i):a % 10^i=a:=by
 have h1:=Wf a;exact Nat.mod_eq_of_lt (Nat.lt_of_lt_of_le h1 (Nat.pow_le_pow_right (by omega) h))
theorem Q2 (a i:Nat):a % 10^(i+1)=a % 10^i+(a / 10^i % 10)*10^i:=by
 rw[Nat.mod_pow_succ,Nat.mul_comm]
theorem Zab0 {a b c i v:Nat}(h:v+c*10^i=a % 10^i+b % 10^i):
  (c+a / 10^i % 10+b / 10^i % 10) % 10*10^i+v+(c+a / 10^i % 10+b / 10^i % 10) / 10*10^(i+1)=a % 10^(i+1)+b % 10^(i+1):=by
 rw[Q2,Q2,Nat.pow_succ];generalize 10^i=P at *;generalize a / P % 10=x;generalize b / P % 10=y;have e:(c+x+y) / 10*(P*10)=(c+x+y) / 10*10*P:=by rw[Nat.mul_comm P,Nat.mul_assoc]
 have e2:(c+x+y) % 10*P+(c+x+y) / 10*10*P=(c+x+y)*P:=by
  rw[<- Nat.add_mul];congr 1;omega
 have e3:(c+x+y)*P=c*P+x*P+y*P:=by rw[Nat.add_mul,Nat.add_mul]
 omega
theorem Zxa {x b:Nat}(h:x < 10*b):(Ze x).length<=(Ze b).length+1:=by
 have h1:=Wf b;refine U7 (by omega) ?_;rw[Nat.pow_succ];omega
theorem Zlc {d:Nat}:Ze d=[49]↔d=1:=by
 constructor
 .intro e;rw[<- Zi2]at e;exact Ze1 e
 .rintro rfl;exact Zi2
theorem Tk {d:Nat}:Ze d=[48]↔d=0:=by
 constructor
 .intro e;rw[<- V7]at e;exact Ze1 e
 .rintro rfl;exact V7
end Go.Proofs.YtabcdhcpilpojaaGreatDoor
end
section
set_option maxRecDepth 20000
namespace Go.Proofs.YtabcdhcpilpojaaGreatDoor
open Go Go.Pure
open Go.Virt (Ex Ctx Ty TK)
def Ui (s:Yi):Bool:=R6 s&&!(s==[])
theorem Zgg {s:Yi}{i:Nat}(hi:i < s.length)(h:s[i] < 48\/57 < s[i]):Ui s=false:=by
 have:R6 s=false:=by
  rw[<- Bool.not_eq_true,Yr];intro hh;have:=hh s[i] (List.getElem_mem hi);omega
 rw[Ui,this];rfl
theorem Ze2 {s:Yi}:Ui s=true↔R6 s=true/\s≠[]:=by simp[Ui]
theorem Z2s (s:Yi)(hn:s.length < 2^62):Xn vE 165 [.str s] (.bool (Ui s)):=by
 intro K H;refine Zhi (fn:=Tryz.f165) rfl Tryz.func165 rfl rfl rfl rfl ?_ rfl
 (refine Zm ?_;repeat'(first|(refine Zi fun _=>?_;try simp(disch:=first|exact Zq|fail)[*,Zs,Tryz.f165])|refine Ye ?_|refine Zx ?_|refine Zn ?_ ?_))
 refine Zh [0] (fun n sl h=>∃i:Nat,n=s.length - i/\i<=s.length/\sl 3=some (.int .i64 i)/\∀j (hj:j < s.length),j < i->48<=s[j]/\s[j]<=57) s.length rfl ⟨0,by simp⟩ ?_;rintro n sl h hf ⟨i,hn',hi,h3,hd⟩;simp at hf;replace hd:=Hide.mk hd;by_cases hlt:i < s.length
 . (refine Zm ?_;repeat'(first|(refine Zi fun _=>?_;try simp(disch:=first|exact Zq|fail)[*,Zs])|refine Ye ?_|refine Zx ?_|refine Zn ?_ ?_))
   .exact Zgg hlt (by omega)
   .exact Zgg hlt (by omega)
   .refine ⟨_,by omega,i+1,rfl,by omega,rfl,fun j hj hji=>?_⟩;by_cases e:j=i
    .subst e;omega
    .exact hd.get j hj (by omega)
 . (refine Zm ?_;repeat'(first|(refine Zi fun _=>?_;try simp(disch:=first|exact Zq|fail)[*,Zs])|refine Ye ?_|refine Zx ?_|refine Zn ?_ ?_))
   have:R6 s=true:=Yr.2 fun c hc=>by
    obtain⟨j,hj,rfl⟩:=List.getElem_of_mem hc;exact hd.get j hj (by omega)
   rw[Ui,this];cases s<;>rfl
theorem Zdh (s:Yi)(hn:s.length < 2^62):Xn vE 166 [.str s] (.str (Sx s)):=by
 intro K H;refine Zhi (fn:=Tryz.f166) rfl Tryz.func166 rfl rfl rfl rfl ?_ rfl
 (refine Zm ?_;repeat'(first|(refine Zi fun _=>?_;try simp(disch:=first|exact Zq|fail)[*,Zs,Tryz.f166])|refine Ye ?_|refine Zx ?_|refine Zn ?_ ?_))
 refine Zh [] (fun n sl h=>∃t:Yi,n=t.length/\t.length<=s.length/\Sx t=Sx s/\sl 0=some (.str t)) s.length rfl ⟨s,by simp⟩ ?_;rintro n sl h hf ⟨t,hn',hl,ht,h0⟩;replace ht:=Hide.mk ht;cases t with
 |nil=>(refine Zm ?_;repeat'(first|(refine Zi fun _=>?_;try simp(disch:=first|exact Zq|fail)[*,Zs])|refine Ye ?_|refine Zx ?_|refine Zn ?_ ?_));exact ht.get.symm
 |cons c t=>
  cases t with
  |nil=>(refine Zm ?_;repeat'(first|(refine Zi fun _=>?_;try simp(disch:=first|exact Zq|fail)[*,Zs])|refine Ye ?_|refine Zx ?_|refine Zn ?_ ?_));exact ht.get
  |cons d r=>
   (refine Zm ?_;repeat'(first|(refine Zi fun _=>?_;try simp(disch:=first|exact Zq|fail)[*,Zs])|refine Ye ?_|refine Zx ?_|refine Zn ?_ ?_))
   .have:=ht.get;rw[Sx,if_pos (by omega)]at this;exact⟨r.length+1,by omega,d::r,rfl,by simp at hl ⊢;omega,this,rfl⟩
   .have:=ht.get;rw[Sx,if_neg (by omega)]at this;exact this
theorem Zad2 {s t:Yi}(hl:s.length=t.length)(hs:R6 s=true)(ht:R6 t=true):ltL s t=decide (Yq s < Yq t):=by
 induction s generalizing t with
 |nil=>
  cases t with
  |nil=>simp[ltL]
  |cons d t=>simp at hl
 |cons c s ih=>
  cases t with
  |nil=>simp at hl
  |cons d t=>
   have hl':s.length=t.length:=by simpa using hl
   rw[Yr]at hs ht;have hc:=hs c List.mem_cons_self;have hd:=ht d List.mem_cons_self;have hs':R6 s=true:=Yr.2 fun x hx=>hs x (List.mem_cons_of_mem _ hx)
   have ht':R6 t=true:=Yr.2 fun x hx=>ht x (List.mem_cons_of_mem _ hx)
   have b1:=Zhl hs';have b2:=Zhl ht';rw[hl']at b1;rw[Rw,Rw,hl',ltL,ih hl' hs' ht'];generalize hP:10^t.length=P at *;by_cases h1:c < d
   .have e1:Nat.blt c d=true:=by simpa using h1
    rw[e1]
    have:(c - 48)*P+P<=(d - 48)*P:=by
     rw[<- Nat.succ_mul];exact Nat.mul_le_mul_right _ (by omega)
    have:Yq s+(c - 48)*P < (d - 48)*P+Yq t:=by omega
    simp;omega
   .have e1:Nat.blt c d=false:=by
     rw[<- Bool.not_eq_true,Nat.blt_eq];exact h1
    rw[e1];by_cases h2:d < c
    .have e2:Nat.blt d c=true:=by simpa using h2
     rw[e2]
     have:(d - 48)*P+P<=(c - 48)*P:=by
      rw[<- Nat.succ_mul];exact Nat.mul_le_mul_right _ (by omega)
     simp;omega
    .have e2:Nat.blt d c=false:=by
      rw[<- Bool.not_eq_true,Nat.blt_eq];exact h2
     rw[e2];have:c=d:=by omega
     subst this;simp
theorem Z2f {a b:Nat}(hl:(Ze a).length=(Ze b).length):ltL (Ze a) (Ze b)=decide (a < b):=by
 rw[Zad2 hl (Ww a) (Ww b),Xq,Xq]
theorem Zdr {a b:Nat}(hl:(Ze a).length < (Ze b).length):a < b:=by
 rcases Nat.lt_or_ge a b with h | h
 .exact h
 .have:=Wr h;omega
def Zom (a b:Nat):Int:=if a < b then -1 else if a=b then 0 else 1
theorem Zagt (a b:Nat):Xn vE 173 [.str (Ze a),.str (Ze b)] (.int .i64 (Zom a b)):=by
 intro K H;refine Zhi (fn:=Tryz.f173) rfl Tryz.func173 rfl rfl rfl rfl ?_ rfl
 (refine Zm ?_;repeat'(first|(refine Zi fun _=>?_;try simp(disch:=first|exact Zq|fail)[*,Zs,Tryz.f173])|refine Ye ?_|refine Zx ?_|refine Zn ?_ ?_))
 .rename_i h;rw[Zom,if_pos (Zdr h)]
 .rename_i h1 h2 h3;rw[Z2f (by omega)]at h3;rw[Zom,if_pos (by simpa using h3)]
 .rename_i h1 h2 h3 h4;have:=Ze1 h4;simp[Zom,this]
 .rename_i h1 h2 h3 h5 h4;rw[Z2f (by omega)]at h3;have:a≠b:=fun e=>h4 (by rw[e])
  simp at h3;simp[Zom,this];omega
 .rename_i h1 h2 h3 h4;have:=Ze1 h4;simp[Zom,this]
 .rename_i h1 h2 h3 h5 h4;have:b < a:=Zdr (by omega);rw[Zom,if_neg (by omega),if_neg (by omega)]
theorem Zmy {α:Type}{n i:Nat}{z x:α}(h:i < n):(List.replicate (n - i) z).set (n - 1 - i) x=List.replicate (n - (i+1)) z++[x]:=by
 obtain⟨k,rfl⟩:∃k,n=i+k+1:=⟨n - i - 1,by omega⟩
 have e1:i+k+1 - i=k+1:=by omega
 have e2:i+k+1 - 1 - i=k:=by omega
 have e3:i+k+1 - (i+1)=k:=by omega
 rw[e1,e2,e3,List.replicate_succ'];simp
theorem Zaw2 (a b:Nat)(ha:(Ze a).length<=2^20)(hb:(Ze b).length<=2^20):Xn vE 172 [.str (Ze a),.str (Ze b)] (.str (Ze (a+b))):=by
 intro K H;refine Zhi (fn:=Tryz.f172) rfl Tryz.func172 rfl rfl rfl rfl ?_ rfl
 (refine Zm ?_;repeat'(first|(refine Zi fun _=>?_;try simp(disch:=first|exact Zq|fail)[*,Zs,Tryz.f172])|refine Ye ?_|refine Zx ?_|refine Zn ?_ ?_))
 generalize hN:max (Ze a).length (Ze b).length=N at *;generalize hv0:H.stamp (H.next+17)=v0
 refine Zh [0,1,5,6] (fun n sl h=>∃(i c:Nat) (Up:Yi),n=N+1 - i/\i<=N+1/\c<=1/\Up.length=i/\R6 Up=true/\Yq Up+c*10^i=a % 10^i+b % 10^i/\sl 7=some (.int .i64 c)/\sl 8=some (.int .i64 i) /\
  h.get (H.next+17)=some (v0,.row 5 true (List.replicate (N+1 - i) (.int .u8 0)++Up.map fun c=>.int .u8 c))) (N+1) rfl ⟨0,0,[],by simp,by simp,by simp,rfl,rfl,by simp[Yq,Uu,Nat.mod_one],by simp,by simp,by simp⟩ ?_
 rintro n sl h hf ⟨i,c,Up,hn',hi,hc,Rc,hla,hv,h7,h8,hg⟩;simp at hf;by_cases hiN:i < N+1
 .have Xj:=Zab0 hv;replace hv:=Hide.mk hv;have hDA:a / 10^i % 10<=9:=by omega
  have hDB:b / 10^i % 10<=9:=by omega
  have hA:∀(hia:i < (Ze a).length),(Ze a)[(Ze a).length - 1 - i]'(by omega)=48+a / 10^i % 10:=fun hia=>Zl9 hia
  have hB:∀(hia:i < (Ze b).length),(Ze b)[(Ze b).length - 1 - i]'(by omega)=48+b / 10^i % 10:=fun hia=>Zl9 hia
  have X4:¬ i < (Ze a).length->a / 10^i % 10=0:=fun hia=>by rw[Zki (by omega)]
  have hB':¬ i < (Ze b).length->b / 10^i % 10=0:=fun hia=>by rw[Zki (by omega)]
  generalize a / 10^i % 10=dA at *;generalize b / 10^i % 10=dB at *;have hq:∀x:Nat,(x:Int).tmod 10=((x % 10:Nat):Int):=fun x=>by rw[Int.tmod_eq_emod_of_nonneg (by omega)];omega
  have hd:∀x:Nat,(x:Int).tdiv 10=((x / 10:Nat):Int):=fun x=>by rw[Int.tdiv_eq_ediv_of_nonneg (by omega)];omega
  have e1:∀x:Int,x=((c+dA+dB:Nat):Int)->IntKind.i64.wrap (x.tdiv 10)=(((c+dA+dB) / 10:Nat):Int):=fun x hx=>by
   rw[hx,hd,Zui (by omega) (by omega)]
  have e2:∀x:Int,x=((c+dA+dB:Nat):Int)->(List.replicate (N+1 - i) (PV.int IntKind.u8 0)).set (N+1 - 1 - i) (PV.int IntKind.u8 (IntKind.u8.wrap (IntKind.i64.wrap (48+x.tmod 10))))++List.map (fun c:Nat=>PV.int IntKind.u8 c) Up=List.replicate (N+1 - (i+1)) (.int .u8 0)++List.map (fun c:Nat=>PV.int IntKind.u8 c) ((48+(c+dA+dB) % 10)::Up):=fun x hx=>by
   rw[hx,hq,Zui (by omega) (by omega),Z6i (by omega) (by omega),Zmy (n:=N+1) (by omega)];simp
  have Xg:∀x y:Int,x=((c+dA+dB:Nat):Int)->y=((c+dA+dB:Nat):Int)->∃m,m < N+1 - i/\∃i_1:Nat,m=N+1 - i_1/\i_1<=N+1/\∃c1:Nat,c1<=1/\∃l1:Yi,l1.length=i_1/\R6 l1=true/\Yq l1+c1*10^i_1=a % 10^i_1+b % 10^i_1/\IntKind.i64.wrap (x.tdiv 10)=c1/\(i:Int)+1=i_1 /\
    (List.replicate (N+1 - i) (PV.int IntKind.u8 0)).set (N - i) (PV.int IntKind.u8 (IntKind.u8.wrap (IntKind.i64.wrap (48+y.tmod 10))))++List.map (fun c:Nat=>PV.int IntKind.u8 c) Up=List.replicate (N+1 - i_1) (.int .u8 0)++List.map (fun c:Nat=>PV.int IntKind.u8 c) l1:=fun x y hx hy=>
   ⟨N - i,by omega,i+1,by omega,by omega,(c+dA+dB) / 10,by omega,(48+(c+dA+dB) % 10)::Up,by simp;omega,by
    rw[Yr]at hla ⊢;intro d hd;rcases List.mem_cons.1 hd with rfl | hd
    .omega
    .exact hla d hd,by rw[Rw,Rc];have:=Xj;simpa using this,e1 x hx,by omega,e2 y hy⟩
  replace Xg:=Hide.mk Xg;clear e1 e2 hq hd Xj;by_cases hia:i < (Ze a).length
  .by_cases hib:i < (Ze b).length
   .have hA:=hA hia;have hB:=hB hib;clear X4 hB'
    (refine Zm ?_;repeat'(first|(refine Zi fun _=>?_;try simp(disch:=first|exact Zq|fail)[*,Zs])|refine Ye ?_|refine Zx ?_|refine Zn ?_ ?_))
    refine Xg.get _ _ ?_ ?_<;>omega
   .have hA:=hA hia;have hB:=hB' hib;clear X4 hB'
    (refine Zm ?_;repeat'(first|(refine Zi fun _=>?_;try simp(disch:=first|exact Zq|fail)[*,Zs])|refine Ye ?_|refine Zx ?_|refine Zn ?_ ?_))
    refine Xg.get _ _ ?_ ?_<;>omega
  .by_cases hib:i < (Ze b).length
   .have hA:=X4 hia;have hB:=hB hib;clear X4 hB'
    (refine Zm ?_;repeat'(first|(refine Zi fun _=>?_;try simp(disch:=first|exact Zq|fail)[*,Zs])|refine Ye ?_|refine Zx ?_|refine Zn ?_ ?_))
    refine Xg.get _ _ ?_ ?_<;>omega
   .have hA:=X4 hia;have hB:=hB' hib;clear X4 hB'
    (refine Zm ?_;repeat'(first|(refine Zi fun _=>?_;try simp(disch:=first|exact Zq|fail)[*,Zs])|refine Ye ?_|refine Zx ?_|refine Zn ?_ ?_))
    have hh:=Xg.get c c (by omega) (by omega);simpa (disch:=omega) [Zui,Z6i,Nat.sub_eq_zero_of_le]using hh
 .have hi1:i=N+1:=by omega
  subst hi1
  have hc0:Yq Up=a+b:=by
   rw[Q3 (by omega),Q3 (by omega)]at hv;have h1:=Wf a;have h2:=Wf b;have h3:10^(Ze a).length<=10^N:=Nat.pow_le_pow_right (by omega) (by omega);have h4:10^(Ze b).length<=10^N:=Nat.pow_le_pow_right (by omega) (by omega);rw[Nat.pow_succ]at hv;generalize 10^N=P at *;rcases Nat.eq_zero_or_pos c with rfl | h5
   .omega
   .have:c=1:=by omega
    subst this;omega
  have hbp:Zf.bytesP (List.take (N+1) (Up.map fun c:Nat=>PV.int .u8 (c:Int)))=some Up:=by
   rw[List.take_of_length_le (by simp;omega)];exact Zdg fun d hd=>by have:=Yr.1 hla d hd;omega
  have Zg8:=Zdh Up (by omega);rw[Ux hla (by intro e;rw[e]at Rc;simp at Rc),hc0]at Zg8;replace hv:=Hide.mk hv
  (refine Zm ?_;repeat'(first|(refine Zi fun _=>?_;try simp(disch:=first|exact Zq|fail)[*,Zs,hbp,Zg8])|refine Ye ?_|refine Zx ?_|refine Zn ?_ ?_))
theorem Z6s {a b c d e i v:Nat}(h:v+b % 10^i=a % 10^i+c*10^i)(he:d+b / 10^i % 10+c=a / 10^i % 10+10*e):
  d*10^i+v+b % 10^(i+1)=a % 10^(i+1)+e*10^(i+1):=by
 rw[Q2,Q2,Nat.pow_succ];generalize 10^i=P at *;generalize a / P % 10=x at *;generalize b / P % 10=y at *;have e1:e*(P*10)=10*e*P:=by rw[Nat.mul_comm P,<- Nat.mul_assoc,Nat.mul_comm e]
 have e2:(d+y+c)*P=d*P+y*P+c*P:=by rw[Nat.add_mul,Nat.add_mul]
 have e3:(x+10*e)*P=x*P+10*e*P:=by rw[Nat.add_mul]
 rw[he]at e2;omega
theorem Zags (a b:Nat)(hab:b<=a)(ha:(Ze a).length<=2^21):Xn vE 174 [.str (Ze a),.str (Ze b)] (.str (Ze (a - b))):=by
 have hb:=Wr hab;intro K H;refine Wc Tryz.func174 ?_
 (refine Zm ?_;repeat'(first|(refine Zi fun _=>?_;try simp(disch:=first|exact Zq|fail)[*,Zs,Tryz.f174])|refine Ye ?_|refine Zx ?_|refine Zn ?_ ?_))
 generalize hN:(Ze a).length=N at *;generalize hv0:PH.stamp _ _=v0
 refine Zh [0,1,5] (fun n sl h=>∃(i c:Nat) (Up:Yi),n=N - i/\i<=N/\c<=1/\Up.length=i/\R6 Up=true/\Yq Up+b % 10^i=a % 10^i+c*10^i/\sl 6=some (.int .i64 c)/\sl 7=some (.int .i64 i) /\
  h.get (H.next+11)=some (v0,.row 5 true (List.replicate (N - i) (.int .u8 0)++Up.map fun c:Nat=>.int .u8 c))) N rfl ⟨0,0,[],by simp,by simp,by simp,rfl,rfl,by simp[Yq,Uu,Nat.mod_one],by simp,by simp,by simp⟩ ?_
 rintro n sl h hf ⟨i,c,Up,hn',hi,hc,Rc,hla,hv,h6,h7,hg⟩;simp at hf;by_cases hiN:i < N
 .have Xj:=fun d e=>Z6s (d:=d) (e:=e) hv
  replace hv:=Hide.mk hv;replace Xj:=Hide.mk Xj
  have hA:(Ze a)[N - 1 - i]'(by omega)=48+a / 10^i % 10:=by
   have:=Zl9 (a:=a) (i:=i) (by omega);simpa[hN]using this
  have hB:∀(hia:i < (Ze b).length),(Ze b)[(Ze b).length - 1 - i]'(by omega)=48+b / 10^i % 10:=fun hia=>Zl9 hia
  have hB':¬ i < (Ze b).length->b / 10^i % 10=0:=fun hia=>by rw[Zki (by omega)]
  have hDA:a / 10^i % 10<=9:=by omega
  have hDB:b / 10^i % 10<=9:=by omega
  have Xg:∀(x E:Int) (d e:Nat),x=48+d->E=e->d<=9->e<=1->d+b / 10^i % 10+c=a / 10^i % 10+10*e->∃m,m < N - i/\∃i_1:Nat,m=N - i_1/\i_1<=N/\∃c1:Nat,c1<=1/\∃l1:Yi,l1.length=i_1/\R6 l1=true/\Yq l1+b % 10^i_1=a % 10^i_1+c1*10^i_1/\E=c1/\(i:Int)+1=i_1 /\
    (List.replicate (N - i) (PV.int IntKind.u8 0)).set (N - 1 - i) (PV.int IntKind.u8 x)++List.map (fun c:Nat=>PV.int IntKind.u8 c) Up=List.replicate (N - i_1) (.int .u8 0)++List.map (fun c:Nat=>PV.int IntKind.u8 c) l1:=fun x E d e hx hE hd he hde=>
   ⟨N - (i+1),by omega,i+1,rfl,by omega,e,he,(48+d)::Up,by simp;omega,by
    rw[Yr]at hla ⊢;intro d hd;rcases List.mem_cons.1 hd with rfl | hd
    .omega
    .exact hla d hd,by rw[Rw,Rc];have:=Xj.get d e hde;simpa using this,hE,by omega,by rw[hx,Zmy (n:=N) hiN];simp⟩
  replace Xg:=Hide.mk Xg;generalize a / 10^i % 10=dA at *;generalize b / 10^i % 10=dB at *;by_cases hib:i < (Ze b).length
  .have hB:=hB hib;clear hB'
   (refine Zm ?_;repeat'(first|(refine Zi fun _=>?_;try simp(disch:=first|exact Zq|fail)[*,Zs])|refine Ye ?_|refine Zx ?_|refine Zn ?_ ?_))
   .refine Xg.get _ _ (10+dA - c - dB) 1 ?_ ?_ ?_ ?_ ?_<;>omega
   .refine Xg.get _ _ (dA - c - dB) 0 ?_ ?_ ?_ ?_ ?_<;>omega
  .have hB:=hB' hib;clear hB'
   (refine Zm ?_;repeat'(first|(refine Zi fun _=>?_;try simp(disch:=first|exact Zq|fail)[*,Zs])|refine Ye ?_|refine Zx ?_|refine Zn ?_ ?_))
   .refine Xg.get _ _ (10+dA - c - dB) 1 ?_ ?_ ?_ ?_ ?_<;>omega
   .refine Xg.get _ _ (dA - c - dB) 0 ?_ ?_ ?_ ?_ ?_<;>omega
 .have hi1:i=N:=by omega
  subst hi1
  have hc0:Yq Up=a - b:=by
   rw[Q3 (by omega),Q3 (by omega)]at hv;have h1:=Zhl hla;rw[Rc]at h1;generalize 10^i=P at *;rcases Nat.eq_zero_or_pos c with rfl | h5
   .omega
   .have:c=1:=by omega
    subst this;omega
  have hbp:Zf.bytesP (List.take i (Up.map fun c:Nat=>PV.int .u8 (c:Int)))=some Up:=by
   rw[List.take_of_length_le (by simp;omega)];exact Zdg fun d hd=>by have:=Yr.1 hla d hd;omega
  have Zg8:=Zdh Up (by omega);rw[Ux hla (by intro e;have:=Uh a;rw[e]at Rc;simp at Rc;omega),hc0]at Zg8;replace hv:=Hide.mk hv
  (refine Zm ?_;repeat'(first|(refine Zi fun _=>?_;try simp(disch:=first|exact Zq|fail)[*,Zs,hbp,Zg8])|refine Ye ?_|refine Zx ?_|refine Zn ?_ ?_))
def Zcz (o:List Nat):Nat:=o.foldl (fun a x=>a*10+x) 0
theorem Zug:Zcz []=0:=rfl
theorem Zp6 (o:List Nat)(x:Nat):Zcz (o++[x])=Zcz o*10+x:=by simp only[Zcz,List.foldl_append,List.foldl_cons,List.foldl_nil]
theorem Zbc (o p:List Nat):Zcz (o++p)=Zcz o*10^p.length+Zcz p:=by
 rcases List.eq_nil_or_concat p with rfl | ⟨q,x,rfl⟩
 .simp [Zug]
 .rw [List.concat_eq_append,<- List.append_assoc,Zp6,Zbc o q,Zp6];simp only[List.length_append,List.length_cons,List.length_nil,Nat.zero_add,Nat.pow_succ];rw[Nat.add_mul,Nat.mul_assoc];omega
termination_by p.length
decreasing_by all_goals simp_all
theorem Ze8 (x:Nat)(o:List Nat):Zcz (x::o)=x*10^o.length+Zcz o:=by
 have:=Zbc [x] o;simpa[Zcz]using this
theorem Z6g {o:List Nat}{k d:Nat}(hk:k < o.length):Zcz (o.set k (o[k]+d))=Zcz o+d*10^(o.length - 1 - k):=by
 obtain⟨l,r,e,hl⟩:∃l r,o=l++o[k]::r/\l.length=k:=⟨o.take k,o.drop (k+1),by simp,by simp;omega⟩
 generalize o[k]=y at *;subst e;have:(l++y::r).set k (y+d)=l++(y+d)::r:=by subst hl;simp
 rw[this,Zbc,Zbc,Ze8,Ze8];simp only[List.length_append,List.length_cons];have e1:l.length+(r.length+1) - 1 - k=r.length:=by omega
 rw[e1,Nat.add_mul];omega
theorem Z25 (n:Nat):Zcz (List.replicate n 0)=0:=by
 induction n with
 |zero=>rfl
 |succ n ih=>rw[List.replicate_succ,Ze8,ih];simp
theorem Zjj {s:Yi}{i:Nat}(h:i < s.length):Yq (s.take (i+1))=Yq (s.take i)*10+(s[i] - 48):=by
 rw[List.take_succ_eq_append_getElem h,Td]
theorem Z7p {A B da db P Q j w:Nat}(h:w=A*10^(P+1)*B+da*10^P*(Q*10^(j+1))):
  w+da*db*10^(P+j)=A*10^(P+1)*B+da*10^P*((Q*10+db)*10^j):=by
 have e0:10^(j+1)=10^j*10:=Nat.pow_succ _ _;have e2:10^(P+j)=10^P*10^j:=Nat.pow_add _ _ _
 have e1:da*10^P*((Q*10+db)*10^j)=da*10^P*(Q*10^(j+1))+da*db*10^(P+j):=by
  rw[e0,e2,Nat.add_mul,Nat.mul_add];have a1:Q*10*10^j=Q*(10^j*10):=by rw[Nat.mul_assoc,Nat.mul_comm 10]
  have a2:da*10^P*(db*10^j)=da*db*(10^P*10^j):=by
   rw[Nat.mul_assoc,Nat.mul_assoc,Nat.mul_left_comm (10^P)]
  rw[a1,a2]
 omega
theorem Zmb (a b:Nat)(ha:(Ze a).length<=2^20)(hb:(Ze b).length<=2^20):Xn vE 171 [.str (Ze a),.str (Ze b)] (.str (Ze (a*b))):=by
 intro K H;refine Wc Tryz.func171 ?_
 (refine Zm ?_;repeat'(first|(refine Zi fun _=>?_;try simp(disch:=first|exact Zq|fail)[*,Zs,Tryz.f171])|refine Ye ?_|refine Zx ?_|refine Zn ?_ ?_))
 generalize hLa:(Ze a).length=la at *;generalize hLb:(Ze b).length=lb at *;generalize hv0:PH.stamp _ _=v0
 refine Zh [0,1,5] (fun n sl h=>∃(i:Nat) (o:List Nat),n=la - i/\i<=la/\o.length=la+lb/\(∀x,x∈o->x<=81*i)/\Zcz o=Yq ((Ze a).take i)*10^(la - i)*b/\sl 6=some (.int .i64 i) /\
  h.get (H.next+17)=some (v0,.row 3 true (o.map fun x:Nat=>.int .i64 x))) la rfl ⟨0,List.replicate (la+lb) 0,by simp,by simp,by simp,by simp,by simp[Z25,Yq,Uu],by simp,by simp⟩ ?_
 rintro n sl h hf ⟨i,o,hn',hi,hol,Tq,hw,h6,hg⟩;simp at hf;replace hw:=Hide.mk hw;replace Tq:=Hide.mk Tq;by_cases hia:i < la
 .have Zzs:i < (Ze a).length:=by omega
  obtain⟨dA,hA,hdA⟩:∃dA,(Ze a)[i]=48+dA/\dA<=9:=⟨(Ze a)[i] - 48,by have:=Yr.1 (Ww a) _ (List.getElem_mem Zzs);omega,by have:=Yr.1 (Ww a) _ (List.getElem_mem Zzs);omega⟩
  have htA:=Zjj Zzs;rw[hA]at htA;replace htA:=Hide.mk htA
  (refine Zm ?_;repeat'(first|(refine Zi fun _=>?_;try simp(disch:=first|exact Zq|fail)[*,Zs])|refine Ye ?_|refine Zx ?_|refine Zn ?_ ?_))
  refine Zh [0,1,5,6] (fun n sl h=>∃(j:Nat) (o:List Nat),n=lb - j/\j<=lb/\o.length=la+lb/\(∀k (hk:k < o.length),o[k]<=81*(i+1)/\(i+j+1<=k->o[k]<=81*i))/\Zcz o=Yq ((Ze a).take i)*10^(la - i)*b+dA*10^(la - 1 - i)*(Yq ((Ze b).take j)*10^(lb - j))/\sl 7=some (.int .i64 j) /\
   h.get (H.next+17)=some (v0,.row 3 true (o.map fun x:Nat=>.int .i64 x))) lb rfl ⟨0,o,by simp,by simp,hol,fun k hk=>by have:=Tq.get _ (List.getElem_mem hk);omega,by rw[hw.get];simp[Yq,Uu],by simp,by simp[hg]⟩ ?_
  clear hg;rintro n2 sl2 h2 hf2 ⟨j,o2,hn2,hj,Zwg,Q9,Vk,h7,hg⟩;simp[hf,h6]at hf2;replace Vk:=Hide.mk Vk;replace Q9:=Hide.mk Q9;by_cases hjb:j < lb
  .have hjb':j < (Ze b).length:=by omega
   obtain⟨dB,hB,hdB⟩:∃dB,(Ze b)[j]=48+dB/\dB<=9:=⟨(Ze b)[j] - 48,by have:=Yr.1 (Ww b) _ (List.getElem_mem hjb');omega,by have:=Yr.1 (Ww b) _ (List.getElem_mem hjb');omega⟩
   have htB:=Zjj hjb';rw[hB]at htB;replace htB:=Hide.mk htB;have hp:dA*dB<=81:=Nat.mul_le_mul hdA hdB;have hp1:(dA:Int)*dB<=81:=by exact_mod_cast hp
   have hp0:0<=(dA:Int)*dB:=by exact_mod_cast Nat.zero_le _
   have Qb:i+j+1 < o2.length:=by omega
   have hk:=(Q9.get (i+j+1) Qb).1;have hk2:=(Q9.get (i+j+1) Qb).2 (by omega);have hix:((i:Int)+j+1).toNat=i+j+1:=by omega
   (refine Zm ?_;repeat'(first|(refine Zi fun _=>?_;try simp(disch:=first|exact Zq|fail)[*,Zs])|refine Ye ?_|refine Zx ?_|refine Zn ?_ ?_))
   refine⟨lb - (j+1),by omega,j+1,rfl,by omega,o2.set (i+j+1) (o2[i+j+1]+dA*dB),by simp[Zwg],?_,?_,by omega,?_⟩
   .intro k hk3;rw[List.getElem_set];split
    .omega
    .have:=Q9.get k (by simpa using hk3);omega
   .rw [Z6g Qb,htB.get];have e1:o2.length - 1 - (i+j+1)=(la - 1 - i)+(lb - (j+1)):=by omega
    rw[e1]
    have h1:=Z7p (A:=Yq ((Ze a).take i)) (B:=b) (da:=dA) (db:=dB) (P:=la - 1 - i) (Q:=Yq ((Ze b).take j)) (j:=lb - (j+1)) (w:=Zcz o2) (by
     rw[Vk.get];have e2:la - 1 - i+1=la - i:=by omega
     have e3:lb - (j+1)+1=lb - j:=by omega
     rw[e2,e3])
    have e2:la - 1 - i+1=la - i:=by omega
    rw[e2]at h1;rw[h1];congr 4;omega
   .rw [show ((o2[i+j+1]:Nat):Int)+(dA:Int)*dB=((o2[i+j+1]+dA*dB:Nat):Int) by simp];rw[List.map_set]
  .have hjl:j=lb:=by omega
   subst hjl
   (refine Zm ?_;repeat'(first|(refine Zi fun _=>?_;try simp(disch:=first|exact Zq|fail)[*,Zs])|refine Ye ?_|refine Zx ?_|refine Zn ?_ ?_))
   refine⟨la - (i+1),by omega,i+1,rfl,by omega,o2,Zwg,?_,?_,by omega,rfl⟩
   .intro x hx;obtain⟨k,hk,rfl⟩:=List.getElem_of_mem hx;exact (Q9.get k hk).1
   .rw [Vk.get,htA.get];have e1:la - i=(la - (i+1))+1:=by omega
    have e2:la - 1 - i=la - (i+1):=by omega
    have e3:(Ze b).take j=Ze b:=List.take_of_length_le (by omega);rw[e1,e2,e3,Xq,Nat.sub_self,Nat.pow_zero,Nat.mul_one,Nat.pow_succ];generalize 10^(la - (i+1))=P;rw[Nat.add_mul,Nat.add_mul];have e4:48+dA - 48=dA:=by omega
    rw[e4];congr 2;rw[Nat.mul_assoc,Nat.mul_comm P]
 .have hi1:i=la:=by omega
  subst hi1
  have hw0:Zcz o=a*b:=by
   rw[hw.get,List.take_of_length_le (by omega),Xq,Nat.sub_self,Nat.pow_zero,Nat.mul_one]
  have hL:o.length=i+lb:=hol;generalize hLL:i+lb=L at *;have hLc:(i:Int)+lb=L:=by omega
  (refine Zm ?_;repeat'(first|(refine Zi fun _=>?_;try simp(disch:=first|exact Zq|fail)[*,Zs])|refine Ye ?_|refine Zx ?_|refine Zn ?_ ?_))
  generalize hv1:PH.stamp _ _=v1
  refine Zh [5,8] (fun n sl h=>∃(m c:Nat) (Up:Yi),n=L - m/\m<=L/\c<=100000000/\Up.length=m/\R6 Up=true/\Yq Up+c*10^m=Zcz (o.drop (L - m))/\sl 9=some (.int .i64 c)/\sl 10=some (.int .i64 (L - 1 - m)) /\
   h.get (H.next+52)=some (v1,.row 5 true (List.replicate (L - m) (.int .u8 0)++Up.map fun c:Nat=>.int .u8 c))/\h.get (H.next+17)=some (v0,.row 3 true (o.map fun x:Nat=>.int .i64 x))) L rfl ⟨0,0,[],by simp,by simp,by simp,rfl,rfl,?_,by simp,?_,?_,?_⟩ ?_
  .simp [Yq,Uu,List.drop_eq_nil_of_le (Nat.le_of_eq hL),Zug]
  .simp
  .simp
  .simp [hg]
  clear hg h6 hv1 hw hn';rintro n2 sl2 h2 hf2 ⟨m,c,Up,hn2,hm,hc,Rc,hla,hv,h9,h10,hg2,hg⟩;simp at hf2;by_cases hmL:m < L
  .have Qb:L - 1 - m < o.length:=by omega
   have hob3:o[L - 1 - m]<=81*i:=Tq.get _ (List.getElem_mem Qb)
   have hdr:o.drop (L - (m+1))=o[L - 1 - m]::o.drop (L - m):=by
    have e1:L - (m+1)=L - 1 - m:=by omega
    have e2:L - m=L - 1 - m+1:=by omega
    rw[e1,e2];exact List.drop_eq_getElem_cons Qb
   have Xj:Yq ((48+(o[L - 1 - m]+c) % 10)::Up)+(o[L - 1 - m]+c) / 10*10^(m+1)=Zcz (o.drop (L - (m+1))):=by
    rw[hdr,Ze8,Rw,Rc,<- hv];have e1:(o.drop (L - m)).length=m:=by simp;omega
    have e2:48+(o[L - 1 - m]+c) % 10 - 48=(o[L - 1 - m]+c) % 10:=by omega
    rw[e1,e2,Nat.pow_succ];generalize o[L - 1 - m]=x;generalize 10^m=P;have e3:(x+c) / 10*(P*10)=(x+c) / 10*10*P:=by rw[Nat.mul_comm P,Nat.mul_assoc]
    have e4:(x+c) % 10*P+(x+c) / 10*10*P=(x+c)*P:=by
     rw[<- Nat.add_mul];congr 1;omega
    have e5:(x+c)*P=x*P+c*P:=Nat.add_mul _ _ _;omega
   replace hv:=Hide.mk hv;replace Xj:=Hide.mk Xj;replace hdr:=Hide.mk hdr;have hix:((L:Int) - 1 - m).toNat=L - 1 - m:=by omega
   have hq:∀x:Nat,(x:Int).tmod 10=((x % 10:Nat):Int):=fun x=>by rw[Int.tmod_eq_emod_of_nonneg (by omega)];omega
   have hd:∀x:Nat,(x:Int).tdiv 10=((x / 10:Nat):Int):=fun x=>by rw[Int.tdiv_eq_ediv_of_nonneg (by omega)];omega
   have hq2:((o[L - 1 - m]:Int)+c).tmod 10=(((o[L - 1 - m]+c) % 10:Nat):Int):=hq (o[L - 1 - m]+c);have hd2:((o[L - 1 - m]:Int)+c).tdiv 10=(((o[L - 1 - m]+c) / 10:Nat):Int):=hd (o[L - 1 - m]+c);clear hq hd;generalize hx:o[L - 1 - m]=x at *
   (refine Zm ?_;repeat'(first|(refine Zi fun _=>?_;try simp(disch:=first|exact Zq|fail)[*,Zs,-Int.natCast_emod, -Int.natCast_ediv, -Int.natCast_add])|refine Ye ?_|refine Zx ?_|refine Zn ?_ ?_))
   refine⟨L - (m+1),by omega,m+1,rfl,by omega,(x+c) / 10,by omega,(48+(x+c) % 10)::Up,by simp;omega,?_,Xj.get,rfl,by omega,?_⟩
   .rw [Yr]at hla ⊢;intro d hd;rcases List.mem_cons.1 hd with rfl | hd
    .omega
    .exact hla d hd
   .rw [Zmy (n:=L) hmL];simp
  .have hmL':m=L:=by omega
   subst hmL'
   have hc0:Yq Up=a*b:=by
    have e1:m - m=0:=by omega
    rw[e1,List.drop_zero,hw0]at hv;have h1:=Wf a;have h2:=Wf b;have h3:a*b < 10^(Ze a).length*10^(Ze b).length:=Nat.mul_lt_mul'' h1 h2;rw[<- Nat.pow_add,hLa,hLb,hLL]at h3;rcases Nat.eq_zero_or_pos c with rfl | h5
    .omega
    .have:1*10^m<=c*10^m:=Nat.mul_le_mul_right _ h5;omega
   have hbp:Zf.bytesP (List.take m (Up.map fun c:Nat=>PV.int .u8 (c:Int)))=some Up:=by
    rw[List.take_of_length_le (by simp;omega)];exact Zdg fun d hd=>by have:=Yr.1 hla d hd;omega
   have Zg8:=Zdh Up (by omega);rw[Ux hla (by intro e;have:=Uh a;rw[e]at Rc;simp at Rc;omega),hc0]at Zg8;replace hv:=Hide.mk hv
   (refine Zm ?_;repeat'(first|(refine Zi fun _=>?_;try simp(disch:=first|exact Zq|fail)[*,Zs,hbp,Zg8])|refine Ye ?_|refine Zx ?_|refine Zn ?_ ?_))
theorem Zafn {a b:Nat}(h:b<=a):(0:Int)<=Zom a b:=by
 unfold Zom;split
 .omega
 .split<;>decide
theorem Zafm {a b:Nat}(h:a < b):¬ (0:Int)<=Zom a b:=by
 rw[Zom,if_pos h];decide
theorem Z26 {R c:Nat}(hc:48<=c/\c<=57):Sx (Ze R++[c])=Ze (R*10+(c - 48)):=by
 rw[Ux _ (by simp),Td,Xq];rw[Yr];intro d hd;rcases List.mem_append.1 hd with h | h
 .exact Yr.1 (Ww R) d h
 .simp at h;omega
theorem Ztq (a b:Nat)(hb0:0 < b)(ha:(Ze a).length<=2^20)(hb:(Ze b).length<=2^20):Xn vE 190 [.str (Ze a),.str (Ze b)] (.tuple [.str (Ze (a / b)),.str (Ze (a % b))]):=by
 intro K H;refine Wc Tryz.func190 ?_
 (refine Zm ?_;repeat'(first|(refine Zi fun _=>?_;try simp(disch:=first|exact Zq|fail)[*,Zs,Tryz.f190])|refine Ye ?_|refine Zx ?_|refine Zn ?_ ?_))
 generalize hLa:(Ze a).length=la at *;generalize hv0:PH.stamp _ _=v0
 refine Zh [0,1,6] (fun n sl h=>∃(i R:Nat) (qs:Yi),n=la - i/\i<=la/\R < b/\qs.length=i/\R6 qs=true/\Yq qs*b+R=Yq ((Ze a).take i)/\sl 8=some (.int .i64 i)/\sl 7=some (.str (Ze R)) /\
  h.get (H.next+12)=some (v0,.row 5 true ((qs.map fun c:Nat=>.int .u8 c)++List.replicate (la - i) (.int .u8 0)))) la rfl ⟨0,0,[],by simp,by simp,hb0,rfl,rfl,by simp[Yq,Uu],by simp,by simp[V7],by simp⟩ ?_
 rintro n sl h hf ⟨i,R,qs,hn',hi,hR,hql,hqa,hv,h8,h7,hg⟩;simp at hf;have hlen:∀x,x < 10*b->(Ze x).length<=(Ze b).length+1:=fun x hx=>Zxa hx
 by_cases hia:i < la
 .have Zzs:i < (Ze a).length:=by omega
  have hc:=Yr.1 (Ww a) _ (List.getElem_mem Zzs);have htA:=Zjj Zzs
  have Zds:(List.drop i (Ze a)).take 1=[(Ze a)[i]]:=by
   rw[List.drop_eq_getElem_cons Zzs];rfl
  have Zg8:=Zdh (Ze R++[(Ze a)[i]]) (by have:=hlen R (by omega);simp;omega);rw[Z26 hc]at Zg8;have hRl:=hlen R (by omega);replace hlen:=Hide.mk hlen;replace htA:=Hide.mk htA;generalize hca:(Ze a)[i]=c at *
  (refine Zm ?_;repeat'(first|(refine Zi fun _=>?_;try simp(disch:=first|exact Zq|fail)[*,Zs,Zds,Zg8])|refine Ye ?_|refine Zx ?_|refine Zn ?_ ?_))
  have hX:R*10+(c - 48) < 10*b:=by omega
  generalize hXX:R*10+(c - 48)=X at *;refine Zh [0,1,6,8] (fun n sl h'=>h'=h/\∃(k R':Nat),n=R'/\R'+k*b=X/\k<=9/\sl 7=some (.str (Ze R'))/\sl 9=some (.int .u8 (48+(k:Int)))) X rfl ⟨rfl,0,X,rfl,by simp,by simp,by simp,by simp⟩ ?_;rintro n2 sl2 h2 hf2 ⟨rfl,k,R',hn2,hk,hk9,h7',h9⟩;simp[hf,h8]at hf2;clear Zg8 Zds;replace hv:=Hide.mk hv;have hkb:0<=k*b:=Nat.zero_le _;have hl1:=hlen.get R' (by omega);have h173:=Zagt R' b;by_cases hge:b<=R'
  .have hcm:=Zafn hge;have h174:=Zags R' b hge (by omega)
   have hk8:k+1<=9:=by
    have h1:(k+1)*b < 10*b:=by rw[Nat.add_mul];omega
    have:=Nat.lt_of_mul_lt_mul_right h1;omega
   have hkk:R' - b+(k+1)*b=X:=by rw[Nat.add_mul];omega
   replace hk:=Hide.mk hk;replace hkk:=Hide.mk hkk
   (refine Zm ?_;repeat'(first|(refine Zi fun _=>?_;try simp(disch:=first|exact Zq|fail)[*,Zs,h173,h174])|refine Ye ?_|refine Zx ?_|refine Zn ?_ ?_))
   refine⟨R' - b,by omega,k+1,hkk.get,hk8,?_⟩;exact⟨rfl,by omega⟩
  .have hcm:=Zafm (Nat.lt_of_not_le hge);replace hk:=Hide.mk hk
   (refine Zm ?_;repeat'(first|(refine Zi fun _=>?_;try simp(disch:=first|exact Zq|fail)[*,Zs,h173])|refine Ye ?_|refine Zx ?_|refine Zn ?_ ?_))
   refine⟨la - (i+1),by omega,i+1,rfl,by omega,R',by omega,qs++[48+k],by simp;omega,?_,?_,by omega,rfl,?_⟩
   .rw [Yr]at hqa ⊢;intro d hd;rcases List.mem_append.1 hd with h | h
    .exact hqa d h
    .simp at h;omega
   .rw [Td,htA.get,<- hv.get];have e1:48+k - 48=k:=by omega
    have e2:(Yq qs*10+k)*b=Yq qs*b*10+k*b:=by rw[Nat.add_mul,Nat.mul_assoc,Nat.mul_comm 10,<- Nat.mul_assoc]
    rw[e1,e2];have:=hk.get;omega
   .have e1:la - i=(la - (i+1))+1:=by omega
    rw[e1,List.replicate_succ];simp
 .have hi1:i=la:=by omega
  subst hi1;have e1:(Ze a).take i=Ze a:=List.take_of_length_le (by omega);rw[e1,Xq]at hv
  have hq:a / b=Yq qs:=by
   rw[<- hv,Nat.add_comm,Nat.add_mul_div_right _ _ hb0,Nat.div_eq_of_lt hR,Nat.zero_add]
  have hr:a % b=R:=by
   rw[<- hv,Nat.add_comm,Nat.add_mul_mod_self_right,Nat.mod_eq_of_lt hR]
  have hbp:Zf.bytesP (List.take i (qs.map fun c:Nat=>PV.int .u8 (c:Int)))=some qs:=by
   rw[List.take_of_length_le (by simp;omega)];exact Zdg fun d hd=>by have:=Yr.1 hqa d hd;omega
  have Zg8:=Zdh qs (by omega);rw[Ux hqa (by intro e;have:=Uh a;rw[e]at hql;simp at hql;omega),<- hq]at Zg8;replace hv:=Hide.mk hv
  (refine Zm ?_;repeat'(first|(refine Zi fun _=>?_;try simp(disch:=first|exact Zq|fail)[*,Zs,hbp,Zg8])|refine Ye ?_|refine Zx ?_|refine Zn ?_ ?_))
theorem Zagn (a b:Nat)(ha:(Ze a).length<=2^20)(hb:(Ze b).length<=2^20):Xn vE 189 [.str (Ze a),.str (Ze b)] (.str (Ze (Nat.gcd a b))):=by
 intro K H;refine Wc Tryz.func189 ?_
 (refine Zm ?_;repeat'(first|(refine Zi fun _=>?_;try simp(disch:=first|exact Zq|fail)[*,Zs,Tryz.f189])|refine Ye ?_|refine Zx ?_|refine Zn ?_ ?_))
 refine Zh [] (fun n sl h'=>∃(x y:Nat),n=y/\(Ze x).length<=2^20/\(Ze y).length<=2^20/\Nat.gcd x y=Nat.gcd a b/\sl 0=some (.str (Ze x))/\sl 1=some (.str (Ze y))) b rfl ⟨a,b,rfl,ha,hb,rfl,by simp,by simp⟩ ?_;rintro n sl h hf ⟨x,y,hn,hx,hy,hg,h0,h1⟩
 have he:(Ze y==[48])=decide (y=0):=by
  rw[Bool.eq_iff_iff];simp only[beq_iff_eq,decide_eq_true_eq];constructor
  .intro e;rw[<- V7]at e;exact Ze1 e
  .rintro rfl;exact V7
 by_cases hy0:y=0
 .subst hy0;rw[Nat.gcd_zero_right]at hg;subst hg;simp at he
  (refine Zm ?_;repeat'(first|(refine Zi fun _=>?_;try simp(disch:=first|exact Zq|fail)[*,Zs,he])|refine Ye ?_|refine Zx ?_|refine Zn ?_ ?_))
 .have h190:=Ztq x y (by omega) hx hy;have hml:(Ze (x % y)).length<=(Ze y).length:=Wr (Nat.le_of_lt (Nat.mod_lt _ (by omega)));have hgm:Nat.gcd y (x % y)=Nat.gcd a b:=by rw[<- hg,Nat.gcd_comm x y,Nat.gcd_rec y x,Nat.gcd_comm]
  have hlt:x % y < y:=Nat.mod_lt _ (by omega);replace hg:=Hide.mk hg;simp[hy0]at he
  (refine Zm ?_;repeat'(first|(refine Zi fun _=>?_;try simp(disch:=first|exact Zq|fail)[*,Zs,he,h190])|refine Ye ?_|refine Zx ?_|refine Zn ?_ ?_))
  .rename_i h;exact absurd h he
  .exact ⟨x % y,hlt,y,hy,by omega,hgm,rfl,rfl⟩
structure Rt where
 neg:Bool
 num:Nat
 den:Nat
structure Rt.Ok (r:Rt):Prop where
 den:0 < r.den
 low:Nat.gcd r.num r.den=1
 sign:r.neg=true->r.num≠0
def Rt.mk' (neg:Bool)(n d:Nat):Rt:=⟨neg&&!(n==0),n / Nat.gcd n d,d / Nat.gcd n d⟩
def Rt.text (r:Rt):Yi:=(if r.neg then [45] else [])++Ze r.num++(if r.den=1 then [] else 47::Ze r.den)
abbrev encR (r:Rt):PV:=.agg [.bool r.neg,.str (Ze r.num),.str (Ze r.den)]
theorem Zafe {a b:Nat}(hb:0 < b):(Ze (Nat.gcd a b)).length<=(Ze b).length:=Wr (Nat.le_of_dvd hb (Nat.gcd_dvd_right a b))
theorem Nat.div_gcd_ne_zero' {n d:Nat}(h:0 < n):n / Nat.gcd n d≠0:=by
 have h1:Nat.gcd n d<=n:=Nat.gcd_le_left d h;have h2:0 < Nat.gcd n d:=Nat.gcd_pos_of_pos_left _ h;have:=Nat.div_pos h1 h2;omega
theorem Zts (neg:Bool)(n d:Nat)(hd:0 < d)(hln:(Ze n).length<=2^20)(hld:(Ze d).length<=2^20):Xn vE 167 [.bool neg,.str (Ze n),.str (Ze d)] (encR (Rt.mk' neg n d)):=by
 have hg:0 < Nat.gcd n d:=Nat.gcd_pos_of_pos_right _ hd;have h189:=Zagn n d hln hld;have hgl:=Zafe (a:=n) hd;have h1:=Ztq n (Nat.gcd n d) hg hln (by omega);have h2:=Ztq d (Nat.gcd n d) hg hld (by omega);intro K H;refine Wc Tryz.func167 ?_
 (refine Zm ?_;repeat'(first|(refine Zi fun _=>?_;try simp(disch:=first|exact Zq|fail)[*,Zs,Tryz.f167,h189,h1,h2])|refine Ye ?_|refine Zx ?_|refine Zn ?_ ?_))
 .simp only [Rt.mk',Bool.true_and,true_and,and_self,and_true];by_cases h0:n=0
  .subst h0;simp[V7]
  .have hg':n / Nat.gcd n d≠0:=Nat.div_gcd_ne_zero' (by omega)
   have e1:(Ze (n / Nat.gcd n d)==[48])=false:=by
    rw[beq_eq_false_iff_ne];intro e;exact hg' (Tk.1 e)
   rw[e1];simp[h0]
 .simp [Rt.mk']
theorem Ztr (r:Rt)(h1:(Ze r.num).length<=2^20)(h2:(Ze r.den).length<=2^20):Xn vE 168 [encR r] (.str r.text):=by
 intro K H;refine Wc Tryz.func168 ?_
 (refine Zm ?_;repeat'(first|(refine Zi fun _=>?_;try simp(disch:=first|exact Zq|fail)[*,Zs,Tryz.f168])|refine Ye ?_|refine Zx ?_|refine Zn ?_ ?_))
 all_goals simp_all[Rt.text,Zlc]
def Tw (a:Yi):Yi:=if a.head?=some 45 then a.tail else a
def Sb (a:Yi):Yi:=(Tw a).takeWhile (fun c=>!(c==47))
def Ut (a:Yi):Yi:=if 47∈Tw a then ((Tw a).dropWhile (fun c=>!(c==47))).tail else [49]
def Zau (a:Yi):Bool:=decide (a.head?=some 45)
def Zan (a:Yi):Bool:=Ui (Sb a)&&Ui (Ut a)&&!(Ut a==[48])&&(Sx (Sb a)==Sb a)&&(Sx (Ut a)==Ut a)&&((Rt.mk' (Zau a) (Yq (Sb a)) (Yq (Ut a))).text==a)
def Zaq (a:Yi):PV:=if Zan a then .tuple [.agg [.bool (Zau a),.str (Sb a),.str (Ut a)],.bool true] else .tuple [.agg [.bool false,.str [],.str []],.bool false]
theorem Zmc (a:Yi)(ha:a.length<=2^19):Xn vE 144 [.str a] (Zaq a):=by
 have hbl:∀m,below m 4 (Zaq a)=true:=fun m=>by unfold Zaq;split<;>simp
 intro K H;refine Wc Tryz.func144 ?_
 (refine Zlq ?_;((try simp(disch:=first|exact Zq|fail)[*,Zs]);repeat'(first|refine Z8 ?_|refine Z9 ?_|refine Z0 ?_|refine Z1 fun _=>?_|refine Z2 fun _ _=>?_|refine Z3 (fun _=>?_) fun _ _=>?_|refine Z4 fun _=>?_|refine Z5 fun _=>?_|refine Z6 (fun _=>?_) fun _=>?_|refine Z7 (fun _=>?_) fun _=>?_)<;>(try simp(disch:=first|exact Zq|fail)[*,Zs]));all_goals try refine Zls ?_)
 (refine Zlq ?_;((try simp(disch:=first|exact Zq|fail)[*,Zs]);repeat'(first|refine Z8 ?_|refine Z9 ?_|refine Z0 ?_|refine Z1 fun _=>?_|refine Z2 fun _ _=>?_|refine Z3 (fun _=>?_) fun _ _=>?_|refine Z4 fun _=>?_|refine Z5 fun _=>?_|refine Z6 (fun _=>?_) fun _=>?_|refine Z7 (fun _=>?_) fun _=>?_)<;>(try simp(disch:=first|exact Zq|fail)[*,Zs]));all_goals try refine Zls ?_)
 (refine Zlq ?_;((try simp(disch:=first|exact Zq|fail)[*,Zs]);repeat'(first|refine Z8 ?_|refine Z9 ?_|refine Z0 ?_|refine Z1 fun _=>?_|refine Z2 fun _ _=>?_|refine Z3 (fun _=>?_) fun _ _=>?_|refine Z4 fun _=>?_|refine Z5 fun _=>?_|refine Z6 (fun _=>?_) fun _=>?_|refine Z7 (fun _=>?_) fun _=>?_)<;>(try simp(disch:=first|exact Zq|fail)[*,Zs]));all_goals try refine Zls ?_)
 generalize hv1:PH.stamp _ _=v1;generalize hv2:PH.stamp _ _=v2;refine Zmh (fun sl h=>sl 0=some (.str a)/\sl 2=some (.ptr (H.next+2) v1 0)/\sl 4=some (.ptr (H.next+4) v2 0)/\sl 5=some (.str (Tw a))/\h.get (H.next+2)=some (v1,.cells [.bool false,.str [],.str []])/\h.get (H.next+4)=some (v2,.cells [.bool (Zau a),.str [],.str [49]])) ?_ ?_
 .cases a with
  |nil=>(refine Zm ?_;repeat'(first|(refine Zi fun _=>?_;try simp(disch:=first|exact Zq|fail)[*,Zs,Tw,Zau])|refine Ye ?_|refine Zx ?_|refine Zn ?_ ?_))
  |cons c r=>
   (refine Zm ?_;repeat'(first|(refine Zi fun _=>?_;try simp(disch:=first|exact Zq|fail)[*,Zs])|refine Ye ?_|refine Zx ?_|refine Zn ?_ ?_))
   .rename_i h;have:c=45:=by omega
    simp[Tw,Zau,this]
   .rename_i h0 h;have:c≠45:=by omega
    simp[Tw,Zau,this]
 rintro sl h ⟨h0,h2,h4,h5,hg2,hg4⟩;generalize hs:Tw a=s at *;have hsl:s.length<=a.length:=by rw[<- hs,Tw];split<;>simp
 refine Zmh (fun sl h=>sl 0=some (.str a)/\sl 2=some (.ptr (H.next+2) v1 0)/\sl 4=some (.ptr (H.next+4) v2 0)/\sl 5=some (.str (Sb a))/\h.get (H.next+2)=some (v1,.cells [.bool false,.str [],.str []])/\h.get (H.next+4)=some (v2,.cells [.bool (Zau a),.str [],.str (Ut a)])) ?_ ?_
 . (refine Zm ?_;repeat'(first|(refine Zi fun _=>?_;try simp(disch:=first|exact Zq|fail)[*,Zs])|refine Ye ?_|refine Zx ?_|refine Zn ?_ ?_))
   refine Zh [0,2,4] (fun n sl h=>∃i:Nat,n=s.length - i/\i<=s.length/\sl 6=some (.int .i64 i)/\sl 5=some (.str s)/\(∀j (hj:j < s.length),j < i->s[j]≠47)/\h.get (H.next+2)=some (v1,.cells [.bool false,.str [],.str []])/\h.get (H.next+4)=some (v2,.cells [.bool (Zau a),.str [],.str [49]])) s.length rfl ⟨0,by simp[hg2,hg4,h5]⟩ ?_;clear hg2 hg4;rintro n sl2 hh hf ⟨i,hn,hi,h6,h5',hd,hg2,hg4⟩;simp[h0,h2,h4]at hf;replace hd:=Hide.mk hd;replace hs:=Hide.mk hs;by_cases hlt:i < s.length
   . (refine Zm ?_;repeat'(first|(refine Zi fun _=>?_;try simp(disch:=first|exact Zq|fail)[*,Zs])|refine Ye ?_|refine Zx ?_|refine Zn ?_ ?_))
     .rename_i hc;have hc':s[i]=47:=by omega
      have hsp:s=s.take i++47::s.drop (i+1):=by
       conv=>lhs;rw[<- List.take_append_drop i s,List.drop_eq_getElem_cons hlt,hc']
      have hno:∀x∈s.take i,(!(x==47))=true:=fun x hx=>by
       obtain⟨j,hj,rfl⟩:=List.getElem_of_mem hx;rw[List.getElem_take];have:=hd.get j (by simp at hj;omega) (by simp at hj;omega);simpa using this
      have hm:47∈s:=by rw[hsp];simp
      have e1:Sb a=s.take i:=by
       rw[Sb,hs.get]
       conv=>lhs;rw[hsp]
       rw[List.takeWhile_append_of_pos hno];simp
      have e2:Ut a=s.drop (i+1):=by
       rw[Ut,hs.get,if_pos hm]
       conv=>lhs;rw[hsp]
       rw[List.dropWhile_append_of_pos hno];simp
      rw[e1,e2];exact⟨rfl,List.take_of_length_le (by simp)⟩
     .rename_i hc0 hc;refine⟨_,by omega,i+1,rfl,by omega,rfl,fun j hj hji=>?_⟩;by_cases e':j=i
      .subst e';omega
      .exact hd.get j hj (by omega)
   . (refine Zm ?_;repeat'(first|(refine Zi fun _=>?_;try simp(disch:=first|exact Zq|fail)[*,Zs])|refine Ye ?_|refine Zx ?_|refine Zn ?_ ?_))
     have hno:∀x∈s,(!(x==47))=true:=fun x hx=>by
      obtain⟨j,hj,rfl⟩:=List.getElem_of_mem hx;have:=hd.get j hj (by omega);simpa using this
     have hm:47∉s:=fun hm=>by have:=hno 47 hm;simp at this
     have e1:Sb a=s:=by
      rw[Sb,hs.get];have:=List.takeWhile_append_of_pos (p:=fun c=>!(c==47)) (l₁:=s) (l₂:=[]) hno;simpa using this
     rw[e1,Ut,hs.get,if_neg hm];exact⟨rfl,rfl⟩
 clear h0 h2 h4 h5 hg2 hg4;rintro sl h ⟨h0,h2,h4,h5,hg2,hg4⟩
 have hln:(Sb a).length<=a.length:=by
  rw[Sb];have:=(List.takeWhile_prefix (fun c=>!(c==47)) (l:=Tw a)).length_le;have h2:(Tw a).length<=a.length:=by rw[Tw];split<;>simp
  omega
 have hld:(Ut a).length<=a.length+1:=by
  rw[Ut];split
  .have:=(List.dropWhile_suffix (fun c=>!(c==47)) (l:=Tw a)).length_le;have h2:(Tw a).length<=a.length:=by rw[Tw];split<;>simp
   simp;omega
  .simp
 have hX:Ui (Sb a)=true->Ui (Ut a)=true->(Ut a==[48])=false->Sx (Sb a)=Sb a->Sx (Ut a)=Ut a->∃N D,0 < D/\Sb a=Ze N/\Ut a=Ze D/\N=Yq (Sb a)/\D=Yq (Ut a):=by
  intro h1 h2 h3 h4 h5;rw[Ze2]at h1 h2;refine⟨Yq (Sb a),Yq (Ut a),?_,by rw[<- Ux h1.1 h1.2,h4],by rw[<- Ux h2.1 h2.2,h5],rfl,rfl⟩;rcases Nat.eq_zero_or_pos (Yq (Ut a)) with hz | hz
  .have:=Ux h2.1 h2.2;rw[h5,hz,V7]at this;rw[this]at h3;simp at h3
  .exact hz
 have Zai8:=Z2s (Sb a) (by omega);have Zai7:=Z2s (Ut a) (by omega);have Zai6:=Zdh (Sb a) (by omega);have Zai5:=Zdh (Ut a) (by omega);have hP:Zaq a=if Zan a then .tuple [.agg [.bool (Zau a),.str (Sb a),.str (Ut a)],.bool true] else .tuple [.agg [.bool false,.str [],.str []],.bool false]:=rfl
 have hRB:Zan a=(Ui (Sb a)&&Ui (Ut a)&&!(Ut a==[48])&&(Sx (Sb a)==Sb a)&&(Sx (Ut a)==Ut a)&&((Rt.mk' (Zau a) (Yq (Sb a)) (Yq (Ut a))).text==a)):=rfl;rw[hP];clear hbl hP hs hsl;replace hX:=Hide.mk hX;replace hRB:=Hide.mk hRB;generalize Zau a=sg at *;generalize hnum:Sb a=num at *;generalize hden:Ut a=den at *
 (refine Zlq ?_;((try simp(disch:=first|exact Zq|fail)[*,Zs]);repeat'(first|refine Z8 ?_|refine Z9 ?_|refine Z0 ?_|refine Z1 fun _=>?_|refine Z2 fun _ _=>?_|refine Z3 (fun _=>?_) fun _ _=>?_|refine Z4 fun _=>?_|refine Z5 fun _=>?_|refine Z6 (fun _=>?_) fun _=>?_|refine Z7 (fun _=>?_) fun _=>?_)<;>(try simp(disch:=first|exact Zq|fail)[*,Zs]));all_goals try refine Zls ?_)
 by_cases Zk2:Ui num=true/\Ui den=true/\(den==[48])=false/\Sx num=num/\Sx den=den
 .obtain ⟨g1,g2,g3,g4,g5⟩:=Zk2;obtain⟨N,D,hD,e1,e2,e3,e4⟩:=hX.get g1 g2 g3 g4 g5;have hNl:(Ze N).length<=2^20:=by rw[<- e1];omega
  have hDl:(Ze D).length<=2^20:=by rw[<- e2];omega
  have h167:=Zts sg N D hD hNl hDl
  have h168:=Ztr (Rt.mk' sg N D) (by
   have:(Rt.mk' sg N D).num<=N:=Nat.div_le_self _ _;have:=Wr this;omega) (by
   have:(Rt.mk' sg N D).den<=D:=Nat.div_le_self _ _;have:=Wr this;omega)
  have hrb:Zan a=((Rt.mk' sg N D).text==a):=by
   rw[hRB.get,g1,g2,g3,g4,g5,<- e3,<- e4];simp
  replace hrb:=Hide.mk hrb;subst e1;subst e2;clear e3 e4 hX hRB
  (refine Zm ?_;repeat'(first|(refine Zi fun _=>?_;try simp(disch:=first|exact Zq|fail)[*,Zs,Zai8,Zai7,Zai6,Zai5])|refine Ye ?_|refine Zx ?_|refine Zn ?_ ?_))
  all_goals (rw[hrb.get];simp[*])
 . (refine Zm ?_;repeat'(first|(refine Zi fun _=>?_;try simp(disch:=first|exact Zq|fail)[*,Zs,Zai8,Zai7,Zai6,Zai5])|refine Ye ?_|refine Zx ?_|refine Zn ?_ ?_))
   all_goals first
    | (exfalso;exact Zk2 ⟨by assumption,by assumption,by assumption,by assumption,by assumption⟩)
    | (rw[hRB.get];simp[*];done)
    |trace_state
theorem Zl8 {n c:Nat}(hc:c < 48\/57 < c):c∉Ze n:=fun h=>by
 have:=Yr.1 (Ww n) c h;omega
theorem Zmn (n:Nat):Sx (Ze n)=Ze n:=by rw[Ux (Ww n) (Zbm n),Xq]
theorem Zi3 (n:Nat):Ui (Ze n)=true:=by rw[Ze2];exact⟨Ww n,Zbm n⟩
theorem Z3u {r:Rt}(h:r.Ok):Rt.mk' r.neg r.num r.den=r:=by
 unfold Rt.mk';rw[h.low,Nat.div_one,Nat.div_one]
 have:(r.neg&&!(r.num==0))=r.neg:=by
  cases hn:r.neg with
  |false=>rfl
  |true=>have:=h.sign hn;simp[this]
 rw[this]
theorem Zy8 (neg:Bool)(n:Nat){d:Nat}(hd:0 < d):(Rt.mk' neg n d).Ok where
 den:=Nat.div_pos (Nat.gcd_le_right n hd) (Nat.gcd_pos_of_pos_right n hd)
 low:=Nat.coprime_div_gcd_div_gcd (Nat.gcd_pos_of_pos_right n hd)
 sign:=by
  intro h;simp only[Rt.mk',Bool.and_eq_true,Bool.not_eq_true',beq_eq_false_iff_ne]at h;exact Nat.div_gcd_ne_zero' (by omega)
theorem Se (r:Rt):Tw r.text=Ze r.num++(if r.den=1 then [] else 47::Ze r.den)/\Zau r.text=r.neg:=by
 obtain⟨c,t,hc⟩:∃c t,Ze r.num=c::t:=by
  cases h:Ze r.num with
  |nil=>exact absurd h (Zbm _)
  |cons c t=>exact⟨c,t,rfl⟩
 have h45:c≠45:=fun e=>Zl8 (n:=r.num) (c:=45) (by omega) (by rw[hc,e];simp)
 cases hn:r.neg with
 |true=>simp[Tw,Zau,Rt.text,hn]
 |false=>simp[Tw,Zau,Rt.text,hn,hc,h45]
theorem Zmp (r:Rt):Sb r.text=Ze r.num:=by
 rw[Sb,(Se r).1]
 have hno:∀x∈Ze r.num,(!(x==47))=true:=fun x hx=>by
  have:x≠47:=fun e=>Zl8 (n:=r.num) (c:=47) (by omega) (e ▸ hx)
  simpa using this
 rw[List.takeWhile_append_of_pos hno];split<;>simp
theorem Zmq {r:Rt}:Ut r.text=Ze r.den:=by
 rw[Ut,(Se r).1]
 have hno:∀x∈Ze r.num,(!(x==47))=true:=fun x hx=>by
  have:x≠47:=fun e=>Zl8 (n:=r.num) (c:=47) (by omega) (e ▸ hx)
  simpa using this
 by_cases hd:r.den=1
 .rw [if_pos hd,if_neg,hd,Zi2];simp;exact Zl8 (by omega)
 .rw [if_neg hd,if_pos (by simp),List.dropWhile_append_of_pos hno];simp
theorem Zb3 {r:Rt}(h:r.Ok):Zan r.text=true:=by
 unfold Zan;rw[Zmp,Zmq,(Se r).2,Xq,Xq,Z3u h,Zi3,Zi3,Zmn,Zmn]
 have:(Ze r.den==[48])=false:=by
  rw[beq_eq_false_iff_ne];intro e;have:=Tk.1 e;have:=h.den;omega
 rw[this];simp
def Zbu (a:Yi):Rt:=⟨Zau a,Yq (Sb a),Yq (Ut a)⟩
theorem Rx (r:Rt):Zbu r.text=r:=by
 unfold Zbu;rw[Zmp,Zmq,(Se r).2,Xq,Xq]
theorem Zhz {a:Yi}(h:Zan a=true):(Zbu a).Ok/\a=(Zbu a).text/\Sb a=Ze (Zbu a).num/\Ut a=Ze (Zbu a).den:=by
 have h':=h;unfold Zan at h;simp only[Bool.and_eq_true,Bool.not_eq_true',beq_iff_eq,beq_eq_false_iff_ne]at h;obtain⟨⟨⟨⟨⟨h1,h2⟩,h3⟩,h4⟩,h5⟩,h6⟩:=h;rw[Ze2]at h1 h2;have hn:=Ux h1.1 h1.2;have hd:=Ux h2.1 h2.2;rw[h4]at hn;rw[h5]at hd
 have Sr:0 < Yq (Ut a):=by
  rcases Nat.eq_zero_or_pos (Yq (Ut a)) with hz | hz
  .rw [hz,V7]at hd;exact absurd hd h3
  .exact hz
 have e:Zbu a=Rt.mk' (Zau a) (Yq (Sb a)) (Yq (Ut a)):=by
  conv=>lhs;rw[<- h6]
  exact Rx _
 refine⟨by rw[e];exact Zy8 _ _ Sr,by rw[e,h6],hn,hd⟩
theorem Zuz {r s:Rt}(h:r.text=s.text):r=s:=by rw[<- Rx r,h,Rx]
theorem Z7c {r:Rt}(h:r.Ok):Zaq r.text=.tuple [encR r,.bool true]:=by
 rw[Zaq,if_pos (Zb3 h),Zmp,Zmq,(Se r).2]
theorem Zjt {a:Yi}(h:Zan a=false):Zaq a=.tuple [.agg [.bool false,.str [],.str []],.bool false]:=by
 rw[Zaq,h];rfl
theorem Zjd {r:Rt}(h:r.Ok)(hl:r.text.length<=2^19):Xn vE 144 [.str r.text] (.tuple [encR r,.bool true]):=by
 have:=Zmc r.text hl
 rwa [Z7c h]at this
def Zd7 (a:Yi):Int:=if Zan a=false\/(Zbu a).num=0 then 0 else if (Zbu a).neg then -1 else 1
def Ul (a:Yi):Bool:=Zan a&&((Zbu a).den==1)
theorem Z2y (a:Yi)(ha:a.length<=2^19):Xn vE 123 [.str a] (.bool (Zan a)):=by
 have Zfx:=Zmc a ha;intro K H;refine Wc Tryz.func123 ?_;by_cases h:Zan a=true
 .rw [Zaq,if_pos h]at Zfx
  (refine Zm ?_;repeat'(first|(refine Zi fun _=>?_;try simp(disch:=first|exact Zq|fail)[*,Zs,Tryz.f123,Zfx])|refine Ye ?_|refine Zx ?_|refine Zn ?_ ?_))
 .simp only [Bool.not_eq_true]at h;rw[Zjt h]at Zfx
  (refine Zm ?_;repeat'(first|(refine Zi fun _=>?_;try simp(disch:=first|exact Zq|fail)[*,Zs,Tryz.f123,Zfx])|refine Ye ?_|refine Zx ?_|refine Zn ?_ ?_))
theorem Zdi (a:Yi)(ha:a.length<=2^19):Xn vE 122 [.str a] (.bool (Ul a)):=by
 have Zfx:=Zmc a ha;intro K H;refine Wc Tryz.func122 ?_;by_cases h:Zan a=true
 .have hd:=(Zhz h).2.2.2;rw[Zaq,if_pos h,hd]at Zfx
  (refine Zm ?_;repeat'(first|(refine Zi fun _=>?_;try simp(disch:=first|exact Zq|fail)[*,Zs,Tryz.f122,Zfx])|refine Ye ?_|refine Zx ?_|refine Zn ?_ ?_))
  rw[Ul,h,Bool.eq_iff_iff];simp[Zlc]
 .simp only [Bool.not_eq_true]at h;rw[Zjt h]at Zfx
  (refine Zm ?_;repeat'(first|(refine Zi fun _=>?_;try simp(disch:=first|exact Zq|fail)[*,Zs,Tryz.f122,Zfx])|refine Ye ?_|refine Zx ?_|refine Zn ?_ ?_))
  simp[Ul,h]
theorem Zag1 (a:Yi)(ha:a.length<=2^19):Xn vE 145 [.str a] (.int .i64 (Zd7 a)):=by
 have Zfx:=Zmc a ha;intro K H;refine Wc Tryz.func145 ?_;by_cases h:Zan a=true
 .have hd:=(Zhz h).2.2.1;rw[Zaq,if_pos h,hd]at Zfx
  (refine Zm ?_;repeat'(first|(refine Zi fun _=>?_;try simp(disch:=first|exact Zq|fail)[*,Zs,Tryz.f145,Zfx])|refine Ye ?_|refine Zx ?_|refine Zn ?_ ?_))
  .rename_i e;rw[Zd7,if_pos (Or.inr (Tk.1 e))]
  .rename_i _ e h45;have hn:(Zbu a).neg=true:=by simp[Zbu,Zau,h45]
   rw[Zd7,if_neg (by rw[h];rintro (hh | hh);cases hh;exact e (Tk.2 hh)),if_pos hn]
  .rename_i _ e h45;have hn:(Zbu a).neg=false:=by simp[Zbu,Zau,h45]
   rw[Zd7,if_neg (by rw[h];rintro (hh | hh);cases hh;exact e (Tk.2 hh)),hn];rfl
 .simp only [Bool.not_eq_true]at h;rw[Zjt h]at Zfx
  (refine Zm ?_;repeat'(first|(refine Zi fun _=>?_;try simp(disch:=first|exact Zq|fail)[*,Zs,Tryz.f145,Zfx])|refine Ye ?_|refine Zx ?_|refine Zn ?_ ?_))
  all_goals simp[Zd7,h]
def Rt.mul (r s:Rt):Rt:=Rt.mk' (!(r.neg==s.neg)) (r.num*s.num) (r.den*s.den)
def Rt.div (r s:Rt):Rt:=Rt.mk' (!(r.neg==s.neg)) (r.num*s.den) (r.den*s.num)
def Rt.int (n:Int):Rt:=⟨decide (n < 0),n.natAbs,1⟩
theorem Zel (n:Int):(Rt.int n).text=Za8 n:=by
 unfold Rt.int Rt.text Za8;by_cases h:n < 0<;>simp[h]
theorem Zze (n:Int):(Rt.int n).Ok:=⟨by simp[Rt.int],by simp[Rt.int],by simp[Rt.int];omega⟩
theorem Vs (a b:Nat):(Ze (a*b)).length<=(Ze a).length+(Ze b).length:=by
 have h1:=Wf a;have h2:=Wf b;have h3:=Uh a;refine U7 (by omega) ?_;rw[Nat.pow_add];exact Nat.mul_lt_mul'' h1 h2
theorem V1 (r:Rt):(Ze r.num).length<=r.text.length/\(Ze r.den).length<=r.text.length:=by
 unfold Rt.text;have:=Uh r.num;constructor
 .simp;omega
 .by_cases h:r.den=1
  .rw [h,Zi2];simp;omega
  .simp [h];omega
theorem Zlx (neg:Bool)(n d:Nat):(Ze (Rt.mk' neg n d).num).length<=(Ze n).length/\(Ze (Rt.mk' neg n d).den).length<=(Ze d).length:=
 ⟨Wr (Nat.div_le_self _ _),Wr (Nat.div_le_self _ _)⟩
theorem Z04 (r:Rt):r.text.length<=(Ze r.num).length+(Ze r.den).length+2:=by
 unfold Rt.text;cases r.neg<;>by_cases h:r.den=1<;>simp[h]<;>omega
theorem Zag0 {r s:Rt}(h:r.Ok)(k:s.Ok)(hl:r.text.length<=2^19)(kl:s.text.length<=2^19):Xn vE 150 [.str r.text,.str s.text] (.str (r.mul s).text):=by
 have Zfx:=Zjd h hl;have k144:=Zjd k kl;have h1:=V1 r;have k1:=V1 s;have m1:=Vs r.num s.num;have m2:=Vs r.den s.den;have a1:=Zmb r.num s.num (by omega) (by omega);have a2:=Zmb r.den s.den (by omega) (by omega);have hd:0 < r.den*s.den:=Nat.mul_pos h.den k.den;have a3:=fun b=>Zts b (r.num*s.num) (r.den*s.den) hd (by omega) (by omega)
 have ml:=Zlx (!(r.neg==s.neg)) (r.num*s.num) (r.den*s.den);have a4:=Ztr (Rt.mk' (!(r.neg==s.neg)) (r.num*s.num) (r.den*s.den)) (by show (Ze (Rt.mk' _ _ _).num).length<=_;omega) (by show (Ze (Rt.mk' _ _ _).den).length<=_;omega);clear h1 k1 m1 m2 hd ml hl kl h k;intro K H;refine Wc Tryz.func150 ?_
 (refine Zm ?_;repeat'(first|(refine Zi fun _=>?_;try simp(disch:=first|exact Zq|fail)[*,Zs,Tryz.f150])|refine Ye ?_|refine Zx ?_|refine Zn ?_ ?_))
 rfl
theorem Zagu {r s:Rt}(h:r.Ok)(k:s.Ok)(hl:r.text.length<=2^19)(kl:s.text.length<=2^19)(hs:s.num≠0):Xn vE 164 [.str r.text,.str s.text] (.str (r.div s).text):=by
 have Zfx:=Zjd h hl;have k144:=Zjd k kl;have h1:=V1 r;have k1:=V1 s;have m1:=Vs r.num s.den;have m2:=Vs r.den s.num;have a1:=Zmb r.num s.den (by omega) (by omega);have a2:=Zmb r.den s.num (by omega) (by omega);have hd:0 < r.den*s.num:=Nat.mul_pos h.den (by omega);have a3:=fun b=>Zts b (r.num*s.den) (r.den*s.num) hd (by omega) (by omega)
 have ml:=Zlx (!(r.neg==s.neg)) (r.num*s.den) (r.den*s.num);have a4:=Ztr (Rt.mk' (!(r.neg==s.neg)) (r.num*s.den) (r.den*s.num)) (by show (Ze (Rt.mk' _ _ _).num).length<=_;omega) (by show (Ze (Rt.mk' _ _ _).den).length<=_;omega);have hs':¬ Ze s.num=[48]:=fun e=>hs (Tk.1 e)
 clear h1 k1 m1 m2 hd ml hl kl h k;intro K H;refine Wc Tryz.func164 ?_
 (refine Zm ?_;repeat'(first|(refine Zi fun _=>?_;try simp(disch:=first|exact Zq|fail)[*,Zs,Tryz.f164])|refine Ye ?_|refine Zx ?_|refine Zn ?_ ?_))
 .rename_i e;exact absurd e hs'
 .rfl
end Go.Proofs.YtabcdhcpilpojaaGreatDoor
end
