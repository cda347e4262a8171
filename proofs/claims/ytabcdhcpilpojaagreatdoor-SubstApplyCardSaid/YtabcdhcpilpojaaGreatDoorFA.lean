/- Functions on names, each once. -/
import Derived.Test.YtabcdhcpilpojaaGreatDoorTm
import Derived.Lib.Bytealg
import Derived.Test.YtabcdhcpilpojaaGreatDoorPD
set_option linter.unusedSimpArgs false
set_option linter.unusedVariables false
section
set_option maxRecDepth 20000
namespace Go.Proofs.YtabcdhcpilpojaaGreatDoor
open Go Go.Pure
open Go.Virt (Ex Ctx Ty TK)
abbrev Yt:=List Nat
def Z3b (f:Nat):List Value->Option Value
 | [.string b,.int .u8 c]=>if Nat.beq f 230 then some (.int .i64 (Lib.indexByte b.data.toList c.toNat.toUInt8)) else none
 | _=>none
noncomputable def vE:Ctx:={vC with ext:=fun f a=>if Nat.beq f 19&&a.isEmpty then some (.bool true) else Z3b f a}
@[simp] theorem vE_T (t:Nat):vE.T t=vC.T t:=by simp only[vE]
@[simp] theorem Zas6 (f:Nat):vE.raw f=vRaw f:=rfl
theorem Zag1 (a b:Nat):Nat.beq a b=(a==b):=by rw[Bool.eq_iff_iff];simp
attribute [simp] vRaw Zag1
theorem Zakl:Xw vE 19 [] (.bool true):=by
 intro K H;rw[Uj];rfl
theorem Zvo (es:List Yt)(x:Yt):Vz (es.map fun s=>(.str s,.bool true)) (.str x)=some (if x∈es then some (.bool true) else none):=by
 induction es with
 |nil=>simp
 |cons e es ih=>
  simp only[List.map_cons,Vz,Ug,List.mem_cons];by_cases h:x=e
  .subst h;simp
  .have:(x==e)=false:=by simpa using h
   simp[this,h,ih]
theorem Zzi (es:List Yt)(x:Yt)(h:x∉es):Ur (es.map fun s=>(.str s,.bool true)) (.str x) (.bool true)=some ((es++[x]).map fun s=>(.str s,.bool true)):=by
 induction es with
 |nil=>simp
 |cons e es ih=>
  simp only[List.mem_cons,not_or]at h;have:(x==e)=false:=by simpa using h.1
  simp only[List.map_cons,Ur,Ug,this,ih h.2,Option.map_some,List.cons_append]
def Zhs (c:Nat):Bool:=(decide (97<=c)&&decide (c<=122))||(decide (65<=c)&&decide (c<=90))
theorem Zaj5 (c:Nat):Xw vE 88 [.int .u8 c] (.bool (Zhs c)):=by
 intro K H;refine Zd (fn:=Tryz.f88) rfl Tryz.func88 rfl rfl (by simp) (by simp) ?_ (by simp[*])
 (refine Zm ?_;repeat'(first|(refine Zi fun _=>?_;try simp(disch:=first|exact Zq|fail)[*,Zz,Tryz.f88])|refine Yb ?_|refine Yc ?_|refine Yd ?_|refine Zt ?_|refine Zf ?_|refine Zb ?_ ?_))
 all_goals (rw[Bool.eq_iff_iff];simp[Zhs];omega)
theorem Zahl (b:Bool)(xs:List Yt)(s:Yt)(hn:xs.length < 2^62):Xw vE 84 [L 9 b (xs.map .str),.str s] (.bool (decide (s∈xs))):=by
 intro K H;refine Zd (fn:=Tryz.f84) rfl Tryz.func84 rfl rfl (by simp) (by simp) ?_ (by simp[*])
 (refine Zm ?_;repeat'(first|(refine Zi fun _=>?_;try simp(disch:=first|exact Zq|fail)[*,Zz,Tryz.f84])|refine Yb ?_|refine Yc ?_|refine Yd ?_|refine Zt ?_|refine Zf ?_|refine Zb ?_ ?_))
 refine Zn [0,1] (fun n sl h=>∃i:Nat,n=xs.length - i/\i<=xs.length/\sl 5=some (.int .i64 i)/\∀j (hj:j < xs.length),j < i->xs[j]≠s) xs.length rfl ⟨0,by simp⟩ ?_;rintro n sl h hf ⟨i,hn',hi,h5,hd⟩;simp at hf;replace hd:=Hide.mk hd;by_cases hlt:i < xs.length
 . (refine Zm ?_;repeat'(first|(refine Zi fun _=>?_;try simp(disch:=first|exact Zq|fail)[*,Zz])|refine Yb ?_|refine Yc ?_|refine Yd ?_|refine Zt ?_|refine Zf ?_|refine Zb ?_ ?_))
   .rename_i e;subst e;exact List.getElem_mem hlt
   .rename_i e;refine⟨_,by omega,i+1,rfl,by omega,rfl,fun j hj hji=>?_⟩;by_cases e':j=i
    .subst e';exact e
    .exact hd.get j hj (by omega)
 . (refine Zm ?_;repeat'(first|(refine Zi fun _=>?_;try simp(disch:=first|exact Zq|fail)[*,Zz])|refine Yb ?_|refine Yc ?_|refine Yd ?_|refine Zt ?_|refine Zf ?_|refine Zb ?_ ?_))
   intro hm;obtain⟨j,hj,e⟩:=List.getElem_of_mem hm;exact hd.get j hj (by omega) e
theorem Zaj7 (xs:List Yt)(s:Yt)(hn:xs.length < 2^62):Xw vE 84 [.lst 9 (xs.map .str),.str s] (.bool (decide (s∈xs))):=Zahl false xs s hn
def Sc:List Yt:=[[97,110,100],[111,114],[110,111,116],[105,116,101],[116,114,117,101],[102,97,108,115,101],[108,101,116],[102,111,114,97,108,108],[101,120,105,115,116,115],[100,105,115,116,105,110,99,116],[100,105,118],[109,111,100],[115,101,108,101,99,116],[115,116,111,114,101],[99,111,110,115,116],[66,111,111,108],[73,110,116],[82,101,97,108],[65,114,114,97,121]]
theorem Zaj6:Xw vE 87 [] (.lst 9 (Sc.map .str)):=by
 intro K H;refine Zd (fn:=Tryz.f87) rfl Tryz.func87 rfl rfl (by simp) (by simp) ?_ (by simp[*]);simp[Tryz.f87,Zmk];rfl
def Zjk (c:Nat):Bool:=Zhs c||c==95||c==36||c==33
def okR (z:Bool)(c:Nat):Bool:=Zjk c||(!z&&((decide (48<=c)&&decide (c<=57))||c==46||c==64))
def Zhh:Nat->Yt->Bool
 | _,[]=>true
 |k,c::r=>okR (k==0) c&&Zhh (k+1) r
def Uq (s:Yt):Bool:=!(s==[])&&decide (s.length<=40)&&!decide (s∈Sc)&&Zhh 0 s
theorem Zzm {k c:Nat}:okR (k==0) c=true↔Zhs c=true\/c=95\/c=36\/c=33\/(k≠0/\((48<=c/\c<=57)\/c=46\/c=64)):=by
 simp[okR,Zjk];constructor
 .rintro ((((h | h) | h) | h) | h)<;>simp[h];rcases h.2 with (h | h) | h<;>simp[h]
 .rintro (h | h | h | h | ⟨h,h' | h' | h'⟩)<;>simp[*]
theorem Zpk (s:Yt)(i:Nat)(h:i < s.length):Zhh i (s.drop i)=(okR (i==0) s[i]&&Zhh (i+1) (s.drop (i+1))):=by
 rw[List.drop_eq_getElem_cons h];rfl
theorem Z9e (s:Yt)(hn:s.length < 2^62):Xw vE 30 [.str s] (.bool (Uq s)):=by
 intro K H;refine Zd (fn:=Tryz.f30) rfl Tryz.func30 rfl rfl (by simp) (by simp) ?_ (by simp[*]);have h84:∀s,Xw vE 84 [.lst 9 (Sc.map .str),.str s] (.bool (decide (s∈Sc))):=fun s=>Zaj7 Sc s (by decide)
 (refine Zm ?_;repeat'(first|(refine Zi fun _=>?_;try simp(disch:=first|exact Zq|fail)[*,Zz,Tryz.f30,Zaj6,h84])|refine Yb ?_|refine Yc ?_|refine Yd ?_|refine Zt ?_|refine Zf ?_|refine Zb ?_ ?_))
 .simp [Uq, *]
 .rename_i h;have:¬ s.length<=40:=by omega
  simp[Uq,this]
 .simp [Uq, *]
 rename_i Yq hle hnr;clear h84;refine Zn [0] (fun n sl h=>∃i:Nat,n=s.length - i/\i<=s.length/\sl 3=some (.int .i64 i)/\Zhh 0 s=Zhh i (s.drop i)) s.length rfl ⟨0,by simp⟩ ?_;rintro n sl h hf ⟨i,hn',hi,h3,hs⟩;simp at hf;have hle':s.length<=40:=by omega
 have Zkr:s≠[]:=by (first|done|omega|(simp at *;done)|(simp at *;omega)|(simp at *;rw[Bool.eq_iff_iff];simp;omega))
 have Zmx:Uq s=Zhh i (s.drop i):=by simp[Uq,hle',Zkr,hnr,hs]
 replace hs:=Hide.mk hs;clear Yq hnr;by_cases hlt:i < s.length
 .rw [Zpk s i hlt]at Zmx;rw[Zmx];have X3:okR (i==0) s[i]=true->(∃m,m < s.length - i/\∃i_1:Nat,m=s.length - i_1/\i_1<=s.length/\(i:Int)+1=i_1/\Zhh 0 s=Zhh i_1 (s.drop i_1)):=fun hk=>⟨s.length - (i+1),by omega,i+1,rfl,by omega,rfl,by rw[hs.get,Zpk s i hlt,hk];rfl⟩
  generalize hP:Zhh (i+1) (s.drop (i+1))=P at *;clear Zmx;replace X3:=Hide.mk X3
  (refine Zm ?_;repeat'(first|(refine Zi fun _=>?_;try simp(disch:=first|exact Zq|fail)[*,Zz,Zaj5])|refine Yb ?_|refine Yc ?_|refine Yd ?_|refine Zt ?_|refine Zf ?_|refine Zb ?_ ?_))
  all_goals first
   | (exfalso;omega)
   | (refine X3.get ?_
      rw[Zzm]
      first | (left;assumption) | (right;omega))
   | (have hk:¬ okR (i==0) s[i]=true:=by
       rw[Zzm];rintro (hh | hh)
       .simp_all
       .omega
      simp only[Bool.not_eq_true]at hk;simp[hk]
      done)
   |trace_state
 .have:s.drop i=[]:=List.drop_eq_nil_of_le (by omega);rw[this]at Zmx
  (refine Zm ?_;repeat'(first|(refine Zi fun _=>?_;try simp(disch:=first|exact Zq|fail)[*,Zz,Zmx,Zhh])|refine Yb ?_|refine Yc ?_|refine Yd ?_|refine Zt ?_|refine Zf ?_|refine Zb ?_ ?_))
def Zg (n:Nat):Yt:=if n < 10 then [48+n] else Zg (n / 10)++[48+n % 10]
def Zxj (v:Int)(n:Nat):Nat:=(IntKind.u64.wrap v).toNat % n
theorem Zzq (v:Int){n:Nat}(h:0 < n):Zxj v n < n:=Nat.mod_lt _ h
theorem Zakk (v:Int)(n:Nat)(h0:0 < n)(hn:n < 2^62):Xw vE 27 [.int .i64 v,.int .i64 n] (.int .i64 (Zxj v n)):=by
 intro K H;refine Zd (fn:=Tryz.f27) rfl Tryz.func27 rfl rfl (by simp) (by simp) ?_ (by simp[*]);have h1:IntKind.u64.wrap n=n:=Zo6 (by omega) (by omega)
 have h2:(IntKind.u64.wrap v).tmod n=Zxj v n:=by
  have:=@wrap_u64 v;rw[Int.tmod_eq_emod_of_nonneg this.1];unfold Zxj;rw[Int.natCast_emod,Int.toNat_of_nonneg this.1]
 have h3:IntKind.i64.wrap (Zxj v n)=Zxj v n:=wrap_i64 (by omega) (by have:=Zzq v h0;omega);have h4:n≠0:=by omega
 (refine Zm ?_;repeat'(first|(refine Zi fun _=>?_;try simp(disch:=first|exact Zq|fail)[*,Zz,Tryz.f27,h1,h2,h3])|refine Yb ?_|refine Yc ?_|refine Yd ?_|refine Zt ?_|refine Zf ?_|refine Zb ?_ ?_))
def Zb8 (n:Int):Yt:=if n < 0 then 45::Zg n.natAbs else Zg n.natAbs
theorem Z3i {N m:Nat}{s:Yt}(h1:s=[]->m=N)(h3:s=[]\/if m=0 then s=Zg N else Zg N=Zg m++s)(h:m≠0\/s=[]):
  if m / 10=0 then (48+m % 10)::s=Zg N else Zg N=Zg (m / 10)++(48+m % 10)::s:=by
 have hd:Zg N=Zg m++s:=by
  rcases h3 with h3 | h3
  .rw [h3,h1 h3];simp
  .by_cases hm:m=0
   .rcases h with h | h
    .exact absurd hm h
    .rw [h,h1 h];simp
   .simpa [hm]using h3
 split
 .rename_i hz;rw[hd,Zg,if_pos (by omega),Nat.mod_eq_of_lt (by omega)];rfl
 .rename_i hz;rw[hd]
  conv=>lhs;rw[Zg]
  rw[if_neg (by omega),List.append_assoc];rfl
theorem Rz (n:Int)(hn1 : -4611686018427387904 < n)(hn2:n < 4611686018427387904):Xw vE 38 [.int .i64 n] (.str (Zb8 n)):=by
 intro K H;refine Zd (fn:=Tryz.f38) rfl Tryz.func38 rfl rfl (by simp) (by simp) ?_ (by simp[*])
 (refine Zm ?_;repeat'(first|(refine Zi fun _=>?_;try simp(disch:=first|exact Zq|fail)[*,Zz,Tryz.f38])|refine Yb ?_|refine Yc ?_|refine Yd ?_|refine Zt ?_|refine Zf ?_|refine Zb ?_ ?_))
 refine Zn [0] (fun q sl h=>∃(m:Nat) (s:Yt),q=m+(if s=[] then 1 else 0)/\(s=[]->m=n.natAbs)/\m<=n.natAbs/\s.length+m < 2^62/\(s=[]\/(if m=0 then s=Zg n.natAbs else Zg n.natAbs=Zg m++s))/\sl 4=some (.int .i64 (if n < 0 then -(m:Int) else m))/\sl 3=some (.str s)) (n.natAbs+1) rfl ⟨n.natAbs,[],by simp,by simp,by simp,by simp;omega,by simp,?_,by simp⟩ ?_
 .simp;omega
 rintro q sl h hf ⟨m,s,hm,h1,h2,hb,h3,h4,h5⟩;simp at hf
 have hq:((if n < 0 then -(m:Int) else m)).tmod 10=(if n < 0 then -((m % 10:Nat):Int) else ((m % 10:Nat):Int)):=by
  split
  .rw [Int.neg_tmod,Int.tmod_eq_emod_of_nonneg (by omega)];omega
  .rw [Int.tmod_eq_emod_of_nonneg (by omega)];omega
 have hq4:((if n < 0 then -(m:Int) else m)).tdiv 10=(if n < 0 then -((m / 10:Nat):Int) else ((m / 10:Nat):Int)):=by
  split
  .rw [Int.neg_tdiv,Int.tdiv_eq_ediv_of_nonneg (by omega)];omega
  .rw [Int.tdiv_eq_ediv_of_nonneg (by omega)];omega
 have Zao4:(m≠0\/s=[])->(m / 10 < m+if s=[] then 1 else 0)/\(s.length+1)+m / 10 < 4611686018427387904/\(if m / 10=0 then (48+m % 10)::s=Zg n.natAbs else Zg n.natAbs=Zg (m / 10)++(48+m % 10)::s):=fun hh=>by
  refine⟨?_,?_,Z3i h1 h3 hh⟩
  .split
   .omega
   .rcases hh with hh | hh
    .omega
    .contradiction
  .rcases hh with hh | hh
   .omega
   .subst hh;simp at hb ⊢;omega
 generalize hv:(if n < 0 then -(m:Int) else m)=v at *;by_cases Zu1:n < 0
 all_goals (
  simp only[Zu1,if_true,if_false]at hv hq hq4
  (refine Zm ?_;repeat'(first|(refine Zi fun _=>?_;try simp(disch:=first|exact Zq|fail)[*,Zz,hq,hq4, -Int.natCast_emod, -Int.natCast_ediv])|refine Yb ?_|refine Yc ?_|refine Yd ?_|refine Zt ?_|refine Zf ?_|refine Zb ?_ ?_))
  all_goals first
   | (obtain⟨F1,F2,F3⟩:=Zao4 (by first | (left;omega) | (right;simp_all;done))
      refine⟨m / 10,F1,m / 10,(48+m % 10)::s,by simp,by simp,by omega,by simpa using F2,Or.inr F3,by omega,by congr 1;omega⟩)
   | (have hs0:s≠[]:=by simp_all
      have hm0:m=0:=by omega
      rcases h3 with h3 | h3
      .exact absurd h3 hs0
      .rw [if_pos hm0]at h3;simp[Zb8,Zu1,h3])
   | (exfalso;omega)
   |trace_state)
theorem Z05 (c:Nat):Xw vE 126 [.int .u8 c] (.bool (Zjk c)):=by
 intro K H;refine Zd (fn:=Tryz.f126) rfl Tryz.func126 rfl rfl (by simp) (by simp) ?_ (by simp[*])
 (refine Zm ?_;repeat'(first|(refine Zi fun _=>?_;try simp(disch:=first|exact Zq|fail)[*,Zz,Tryz.f126])|refine Yb ?_|refine Yc ?_|refine Yd ?_|refine Zt ?_|refine Zf ?_|refine Zb ?_ ?_))
 all_goals (rw[Bool.eq_iff_iff];simp[Zjk,Zhs];omega)
theorem Zaec (s:Yt):Xw vE 127 [.str s] (.bool (decide (s∈Sc))):=by
 intro K H;refine Zd (fn:=Tryz.f127) rfl Tryz.func127 rfl rfl (by simp) (by simp) ?_ (by simp[*])
 (refine Zm ?_;repeat'(first|(refine Zi fun _=>?_;try simp(disch:=first|exact Zq|fail)[*,Zz,Tryz.f127])|refine Yb ?_|refine Yc ?_|refine Yd ?_|refine Zt ?_|refine Zf ?_|refine Zb ?_ ?_))
 all_goals simp_all[Sc]
theorem Zzn {c:Nat}:okR false c=true↔Zjk c=true\/(48<=c/\c<=57)\/c=46\/c=64:=by
 simp[okR,or_assoc]
theorem Z5l (s:Yt)(k:Nat):Zhh (k+1) s=s.all (okR false):=by
 induction s generalizing k with
 |nil=>rfl
 |cons c s ih=>simp[Zhh,ih]
theorem Z1z (s:Yt):Uq s=true↔∃c r,s=c::r/\s.length<=40/\s∉Sc/\Zjk c=true/\∀d∈s,okR false d=true:=by
 cases s with
 |nil=>simp[Uq]
 |cons c r=>
  simp[Uq,Zhh,Z5l,okR,and_assoc]
  intros
  left;assumption
theorem Z9a (s:Yt)(hn:s.length < 2^62):Xw vE 85 [.str s] (.bool (Uq s)):=by
 intro K H;refine Zd (fn:=Tryz.f85) rfl Tryz.func85 rfl rfl (by simp) (by simp) ?_ (by simp[*]);cases s with
 |nil=>(refine Zm ?_;repeat'(first|(refine Zi fun _=>?_;try simp(disch:=first|exact Zq|fail)[*,Zz,Tryz.f85,Uq])|refine Yb ?_|refine Yc ?_|refine Yd ?_|refine Zt ?_|refine Zf ?_|refine Zb ?_ ?_))
 |cons c0 s0=>
 have hn':s0.length+1 < 2^62:=hn
 have hno:∀ {P:Prop},(Uq (c0::s0)=true->P)->¬ P->Uq (c0::s0)=false:=fun h1 h2=>by
  cases hh:Uq (c0::s0) with
  |true=>exact absurd (h1 hh) h2
  |false=>rfl
 have hi:=Z1z (c0::s0);have hl:0 < (c0::s0).length:=by simp
 have h0:(c0::s0)[0]'hl=c0:=rfl;replace hi:=Hide.mk hi;replace hno:=Hide.mk @hno;have hS:∀c r,c0::s0=c::r->c=c0:=fun c r e=>by cases e;rfl
 have hE:(c0::s0).isEmpty=false:=rfl;generalize c0::s0=S at *;replace hS:=Hide.mk hS
 have hbad:∀(j:Nat) (hj:j < S.length),okR false S[j]=false->Uq S=false:=fun j hj h=>
  hno.get (fun h1=>(hi.get.1 h1)) (by rintro⟨c,r,_,_,_,_,h5⟩;rw[h5 _ (List.getElem_mem hj)]at h;cases h)
 replace hbad:=Hide.mk hbad
 (refine Zm ?_;repeat'(first|(refine Zi fun _=>?_;try simp(disch:=first|exact Zq|fail)[*,Zz,Tryz.f85,Z05,Zaec])|refine Yb ?_|refine Yc ?_|refine Yd ?_|refine Zt ?_|refine Zf ?_|refine Zb ?_ ?_))
 .exact hno.get (fun h1=>(hi.get.1 h1)) (by rintro⟨c,r,_,h2,_⟩;omega)
 .rename_i h1 h2 h3;exact hno.get (fun h1=>(hi.get.1 h1)) (by rintro⟨c,r,_,_,h4,_⟩;exact h4 h3)
 rotate_left 1
 .rename_i h1 h2;exact hno.get (fun h1=>(hi.get.1 h1)) (by rintro⟨c,r,e,_,_,h5,_⟩;rw[hS.get c r e,h2]at h5;cases h5)
 rename_i h1 h2 h3;refine Zn [0,23] (fun n sl h=>∃i:Nat,n=S.length - i/\i<=S.length/\sl 24=some (.int .i64 i)/\∀j (hj:j < S.length),j < i->okR false S[j]=true) S.length rfl ⟨0,by simp⟩ ?_;rintro n sl h hf ⟨i,hn',hi',h24,hd⟩;simp at hf;replace hd:=Hide.mk hd;by_cases hlt:i < S.length
 . (refine Zm ?_;repeat'(first|(refine Zi fun _=>?_;try simp(disch:=first|exact Zq|fail)[*,Zz,Z05])|refine Yb ?_|refine Yc ?_|refine Yd ?_|refine Zt ?_|refine Zf ?_|refine Zb ?_ ?_))
   all_goals first
    | (exfalso;omega)
    | (refine⟨_,by omega,i+1,rfl,by omega,rfl,fun j hj hji=>?_⟩
       by_cases e':j=i
       .subst e';rw[Zzn];first | (left;assumption) | (right;omega)
       .exact hd.get j hj (by omega))
    | (refine hbad.get i hlt ?_
       rw[Bool.eq_false_iff,Ne,Zzn];rintro (hh | hh)
       .simp_all
       .omega)
 . (refine Zm ?_;repeat'(first|(refine Zi fun _=>?_;try simp(disch:=first|exact Zq|fail)[*,Zz])|refine Yb ?_|refine Yc ?_|refine Yd ?_|refine Zt ?_|refine Zf ?_|refine Zb ?_ ?_))
   rw[hi.get]
   obtain⟨c,r,rfl⟩:∃c r,S=c::r:=by
    cases S with
    |nil=>simp at hl
    |cons c r=>exact⟨c,r,rfl⟩
   refine⟨c,r,rfl,by omega,h3,?_,fun d hdm=>?_⟩
   .have:=hS.get c r rfl;rw[this];exact h2
   .obtain ⟨j,hj,rfl⟩:=List.getElem_of_mem hdm;exact hd.get j hj (by omega)
end Go.Proofs.YtabcdhcpilpojaaGreatDoor
end
section
namespace Go.Proofs.YtabcdhcpilpojaaGreatDoor
open Go
def digB (c:Nat):Bool:=decide (48<=c)&&decide (c<=57)
theorem Z8l {c:Nat}:digB c=true↔48<=c/\c<=57:=by simp[digB]
def Rr (s:Yt):Bool:=s.all digB
theorem Yv {s:Yt}:Rr s=true↔∀c∈s,48<=c/\c<=57:=by simp[Rr,Z8l]
def Zkn (a:Nat)(s:Yt):Nat:=s.foldl (fun a c=>a*10+(c - 48)) a
theorem Uu (a:Nat):Zkn a []=a:=rfl
theorem Tb (a c:Nat)(r:Yt):Zkn a (c::r)=Zkn (a*10+(c - 48)) r:=by simp only[Zkn,List.foldl_cons]
def Yr (s:Yt):Nat:=Zkn 0 s
theorem Zte (a:Nat)(s t:Yt):Zkn a (s++t)=Zkn (Zkn a s) t:=by
 induction s generalizing a with
 |nil=>rfl
 |cons c s ih=>rw[List.cons_append,Tb,Tb,ih]
theorem Zy8 (a:Nat)(s:Yt):Zkn a s=a*10^s.length+Yr s:=by
 induction s generalizing a with
 |nil=>simp[Uu,Yr]
 |cons c s ih=>
  rw[Yr,Tb,Tb,ih,ih (0*10+(c - 48)),List.length_cons,Nat.pow_succ];generalize 10^s.length=P;rw[Nat.add_mul,Nat.zero_mul,Nat.zero_add,Nat.mul_assoc,Nat.mul_comm 10];omega
theorem Rk (c:Nat)(s:Yt):Yr (c::s)=(c - 48)*10^s.length+Yr s:=by
 rw[Yr,Tb,Zy8];simp
theorem Zjv (s t:Yt):Yr (s++t)=Yr s*10^t.length+Yr t:=by rw[Yr,Zte,Zy8];rfl
theorem Ta (s:Yt)(c:Nat):Yr (s++[c])=Yr s*10+(c - 48):=by rw[Zjv];simp[Yr,Uu,Tb]
theorem Zg1 {s:Yt}(h:Rr s=true):Yr s < 10^s.length:=by
 induction s with
 |nil=>simp[Yr,Uu,Tb]
 |cons c s ih=>
  have hc:=(Yv.1 h) c List.mem_cons_self;have hs:Rr s=true:=Yv.2 fun d hd=>Yv.1 h d (List.mem_cons_of_mem _ hd)
  have h1:=ih hs;rw[Rk,List.length_cons,Nat.pow_succ];have h2:(c - 48)*10^s.length<=9*10^s.length:=Nat.mul_le_mul_right _ (by omega);omega
theorem Zbi (n:Nat):Zg n≠[]:=by rw[Zg];split<;>simp
theorem Wt (n:Nat):Rr (Zg n)=true:=by
 induction n using Nat.strongRecOn with
 | _ n ih=>
   rw[Zg];split
   .rw [Yv];intro c hc;simp at hc;omega
   .have:=ih (n / 10) (by omega);rw[Yv]at this ⊢;intro c hc;rcases List.mem_append.1 hc with h | h
    .exact this c h
    .simp at h;omega
theorem Xt (n:Nat):Yr (Zg n)=n:=by
 induction n using Nat.strongRecOn with
 | _ n ih=>
   rw[Zg];split
   .simp [Yr,Uu,Tb]
   .rw [Ta,ih (n / 10) (by omega)];omega
theorem Zen {a b:Nat}(h:Zg a=Zg b):a=b:=by rw[<- Xt a,<- Xt b,h]
theorem Zjo (n:Nat):n=0\/∃c r,Zg n=c::r/\49<=c/\c<=57:=by
 induction n using Nat.strongRecOn with
 | _ n ih=>
   rcases Nat.eq_zero_or_pos n with h | h
   .exact Or.inl h
   .right;rw[Zg];split
    .exact ⟨48+n,[],rfl,by omega,by omega⟩
    .rcases ih (n / 10) (by omega) with h' | ⟨c,r,h1,h2,h3⟩
     .omega
     .exact ⟨c,r++[48+n % 10],by rw[h1];rfl,h2,h3⟩
theorem V3:Zg 0=[48]:=by rw[Zg,if_pos (by omega)]
theorem Zie:Zg 1=[49]:=by rw[Zg,if_pos (by omega)]
theorem Ue (n:Nat):1<=(Zg n).length:=by
 cases h:Zg n with
 |nil=>exact absurd h (Zbi n)
 |cons c r=>simp
theorem Qe {n k:Nat}(hk:0 < k)(h:n < 10^k):(Zg n).length<=k:=by
 induction k generalizing n with
 |zero=>omega
 |succ k ih=>
  rw[Zg];split
  .simp
  .rcases Nat.eq_zero_or_pos k with rfl | hk'
   .omega
   .rw [Nat.pow_succ]at h;have:=ih hk' (n:=n / 10) (by omega);simp only[List.length_append,List.length_cons,List.length_nil];omega
theorem Wf (n:Nat):n < 10^(Zg n).length:=by
 have:=Zg1 (Wt n)
 rwa [Xt]at this
theorem Wo {a b:Nat}(h:a<=b):(Zg a).length<=(Zg b).length:=by
 rcases Nat.eq_zero_or_pos a with rfl | ha
 .rw [V3];exact Ue b
 .have h1:=Wf b;exact Qe (Ue b) (by omega)
def So:Yt->Yt
 | []=>[]
 | [c]=>[c]
 |c::d::r=>if c=48 then So (d::r) else c::d::r
theorem Zqg {s:Yt}(h:Rr s=true)(Yq:s≠[])(h0:s=[48]\/∀r,s≠48::r):Zg (Yr s)=s:=by
 have key:∀(k:Nat) (s:Yt),s.length=k->Rr s=true->s≠[]->(s=[48]\/∀r,s≠48::r)->Zg (Yr s)=s:=by
  intro k
  induction k with
  |zero=>intro s hl _ Yq _;exact absurd (List.length_eq_zero_iff.1 hl) Yq
  |succ k ih=>
   intro s hl hd Yq h0;rcases List.eq_nil_or_concat s with rfl | ⟨t,c,rfl⟩
   .exact absurd rfl Yq
   .rw [List.concat_eq_append]at *;have hc:=Yv.1 hd c (by simp);have ht:Rr t=true:=Yv.2 fun d hdd=>Yv.1 hd d (List.mem_append_left _ hdd)
    rw[Ta];by_cases htn:t=[]
    .subst htn;simp only[Yr,Uu,Tb,Nat.zero_mul,Nat.zero_add,List.nil_append];rw[Zg,if_pos (by omega)];congr 1;omega
    .have h0t:t=[48]\/∀r,t≠48::r:=by
      right;rintro r rfl;rcases h0 with h0 | h0
      .simp at h0
      .exact h0 (r++[c]) rfl
     have e:=ih t (by simp at hl;omega) ht htn h0t
     have Si:1<=Yr t:=by
      rcases Nat.eq_zero_or_pos (Yr t) with hz | hz
      .rw [hz,V3]at e;rcases h0t with h0t | h0t
       .subst h0t;rcases h0 with h0 | h0
        .simp at h0
        .exact absurd rfl (h0 [c])
       .exact absurd e.symm (h0t [])
      .exact hz
     rw[Zg,if_neg (by omega)];have e1:(Yr t*10+(c - 48)) / 10=Yr t:=by omega
     have e2:48+(Yr t*10+(c - 48)) % 10=c:=by omega
     rw[e1,e2,e]
 exact key s.length s rfl h Yq h0
theorem Ux {s:Yt}(h:Rr s=true)(Yq:s≠[]):So s=Zg (Yr s):=by
 induction s with
 |nil=>exact absurd rfl Yq
 |cons c s ih=>
  cases s with
  |nil=>
   rw[So];refine (Zqg h Yq ?_).symm;by_cases hc:c=48
   .left;rw[hc]
   .right;rintro r e;cases e;exact hc rfl
  |cons d r=>
   rw[So];split
   .rename_i hc;subst hc;have hs:Rr (d::r)=true:=Yv.2 fun x hx=>Yv.1 h x (List.mem_cons_of_mem _ hx)
    rw[ih hs (by simp),Rk 48];simp
   .rename_i hc;refine (Zqg h Yq ?_).symm;right;rintro r' e;cases e;exact hc rfl
theorem Zaax {s:Yt}(hs:Rr s=true){i:Nat}(h:i < s.length):s[s.length - 1 - i]'(by omega)=48+Yr s / 10^i % 10:=by
 have key:∀(k:Nat) (s:Yt),s.length=k->Rr s=true->∀(i:Nat) (h:i < s.length),s[s.length - 1 - i]'(by omega)=48+Yr s / 10^i % 10:=by
  intro k
  induction k with
  |zero=>intro s hl _ i h;omega
  |succ k ih=>
   intro s hl hd i h;rcases List.eq_nil_or_concat s with rfl | ⟨t,c,rfl⟩
   .simp at h
   .simp only [List.concat_eq_append]at *;have hc:=Yv.1 hd c (by simp);have ht:Rr t=true:=Yv.2 fun d hdd=>Yv.1 hd d (List.mem_append_left _ hdd)
    have hlt:t.length=k:=by simpa using hl
    rw[Ta];cases i with
    |zero=>
     have:(t++[c])[(t++[c]).length - 1 - 0]'(by omega)=c:=by simp
     rw[this,Nat.pow_zero,Nat.div_one];omega
    |succ i=>
     have hi:i < t.length:=by simp at h;omega
     have e:=ih t hlt ht i hi
     have e1:(t++[c])[(t++[c]).length - 1 - (i+1)]'(by omega)=t[t.length - 1 - i]'(by omega):=by
      rw[List.getElem_append_left (by simp;omega)];congr 1;simp;omega
     have e2:(Yr t*10+(c - 48)) / 10^(i+1)=(Yr t*10+(c - 48)) / 10 / 10^i:=by
      rw[Nat.pow_succ,Nat.mul_comm (10^i),Nat.div_div_eq_div_mul]
     have:(Yr t*10+(c - 48)) / 10=Yr t:=by omega
     rw[e1,e,e2,this]
 exact key s.length s rfl hs i h
theorem Zld {a i:Nat}(h:i < (Zg a).length):(Zg a)[(Zg a).length - 1 - i]'(by omega)=48+a / 10^i % 10:=by
 rw[Zaax (Wt a) h,Xt]
theorem Zjn {a i:Nat}(h:(Zg a).length<=i):a / 10^i=0:=by
 have h1:=Wf a;exact Nat.div_eq_of_lt (Nat.lt_of_lt_of_le h1 (Nat.pow_le_pow_right (by omega) h))
theorem Qv {a i:Nat}(h:(Zg a).length<=i):a % 10^i=a:=by
 have h1:=Wf a;exact Nat.mod_eq_of_lt (Nat.lt_of_lt_of_le h1 (Nat.pow_le_pow_right (by omega) h))
theorem Qu (a i:Nat):a % 10^(i+1)=a % 10^i+(a / 10^i % 10)*10^i:=by
 rw[Nat.mod_pow_succ,Nat.mul_comm]
theorem Z9k {a b c i v:Nat}(h:v+c*10^i=a % 10^i+b % 10^i):
  (c+a / 10^i % 10+b / 10^i % 10) % 10*10^i+v+(c+a / 10^i % 10+b / 10^i % 10) / 10*10^(i+1)=a % 10^(i+1)+b % 10^(i+1):=by
 rw[Qu,Qu,Nat.pow_succ];generalize 10^i=P at *;generalize a / P % 10=x;generalize b / P % 10=y;have e:(c+x+y) / 10*(P*10)=(c+x+y) / 10*10*P:=by rw[Nat.mul_comm P,Nat.mul_assoc]
 have e2:(c+x+y) % 10*P+(c+x+y) / 10*10*P=(c+x+y)*P:=by
  rw[<- Nat.add_mul];congr 1;omega
 have e3:(c+x+y)*P=c*P+x*P+y*P:=by rw[Nat.add_mul,Nat.add_mul]
 omega
theorem Zvs {x b:Nat}(h:x < 10*b):(Zg x).length<=(Zg b).length+1:=by
 have h1:=Wf b;refine Qe (by omega) ?_;rw[Nat.pow_succ];omega
theorem Zkg {d:Nat}:Zg d=[49]↔d=1:=by
 constructor
 .intro e;rw[<- Zie]at e;exact Zen e
 .rintro rfl;exact Zie
theorem Tg {d:Nat}:Zg d=[48]↔d=0:=by
 constructor
 .intro e;rw[<- V3]at e;exact Zen e
 .rintro rfl;exact V3
end Go.Proofs.YtabcdhcpilpojaaGreatDoor
end
section
set_option maxRecDepth 20000
namespace Go.Proofs.YtabcdhcpilpojaaGreatDoor
open Go Go.Pure
open Go.Virt (Ex Ctx Ty TK)
def Uf (s:Yt):Bool:=Rr s&&!(s==[])
theorem Zf0 {s:Yt}{i:Nat}(hi:i < s.length)(h:s[i] < 48\/57 < s[i]):Uf s=false:=by
 have:Rr s=false:=by
  rw[<- Bool.not_eq_true,Yv];intro hh;have:=hh s[i] (List.getElem_mem hi);omega
 rw[Uf,this];rfl
theorem Zeo {s:Yt}:Uf s=true↔Rr s=true/\s≠[]:=by simp[Uf]
theorem Z00 (s:Yt)(hn:s.length < 2^62):Xw vE 165 [.str s] (.bool (Uf s)):=by
 intro K H;refine Zd (fn:=Tryz.f165) rfl Tryz.func165 rfl rfl rfl rfl ?_ rfl
 (refine Zm ?_;repeat'(first|(refine Zi fun _=>?_;try simp(disch:=first|exact Zq|fail)[*,Zz,Tryz.f165])|refine Yb ?_|refine Yc ?_|refine Yd ?_|refine Zt ?_|refine Zf ?_|refine Zb ?_ ?_))
 refine Zn [0] (fun n sl h=>∃i:Nat,n=s.length - i/\i<=s.length/\sl 3=some (.int .i64 i)/\∀j (hj:j < s.length),j < i->48<=s[j]/\s[j]<=57) s.length rfl ⟨0,by simp⟩ ?_;rintro n sl h hf ⟨i,hn',hi,h3,hd⟩;simp at hf;replace hd:=Hide.mk hd;by_cases hlt:i < s.length
 . (refine Zm ?_;repeat'(first|(refine Zi fun _=>?_;try simp(disch:=first|exact Zq|fail)[*,Zz])|refine Yb ?_|refine Yc ?_|refine Yd ?_|refine Zt ?_|refine Zf ?_|refine Zb ?_ ?_))
   .exact Zf0 hlt (by omega)
   .exact Zf0 hlt (by omega)
   .refine ⟨_,by omega,i+1,rfl,by omega,rfl,fun j hj hji=>?_⟩;by_cases e:j=i
    .subst e;omega
    .exact hd.get j hj (by omega)
 . (refine Zm ?_;repeat'(first|(refine Zi fun _=>?_;try simp(disch:=first|exact Zq|fail)[*,Zz])|refine Yb ?_|refine Yc ?_|refine Yd ?_|refine Zt ?_|refine Zf ?_|refine Zb ?_ ?_))
   have:Rr s=true:=Yv.2 fun c hc=>by
    obtain⟨j,hj,rfl⟩:=List.getElem_of_mem hc;exact hd.get j hj (by omega)
   rw[Uf,this];cases s<;>rfl
theorem Zc4 (s:Yt)(hn:s.length < 2^62):Xw vE 166 [.str s] (.str (So s)):=by
 intro K H;refine Zd (fn:=Tryz.f166) rfl Tryz.func166 rfl rfl rfl rfl ?_ rfl
 (refine Zm ?_;repeat'(first|(refine Zi fun _=>?_;try simp(disch:=first|exact Zq|fail)[*,Zz,Tryz.f166])|refine Yb ?_|refine Yc ?_|refine Yd ?_|refine Zt ?_|refine Zf ?_|refine Zb ?_ ?_))
 refine Zn [] (fun n sl h=>∃t:Yt,n=t.length/\t.length<=s.length/\So t=So s/\sl 0=some (.str t)) s.length rfl ⟨s,by simp⟩ ?_;rintro n sl h hf ⟨t,hn',hl,ht,h0⟩;replace ht:=Hide.mk ht;cases t with
 |nil=>(refine Zm ?_;repeat'(first|(refine Zi fun _=>?_;try simp(disch:=first|exact Zq|fail)[*,Zz])|refine Yb ?_|refine Yc ?_|refine Yd ?_|refine Zt ?_|refine Zf ?_|refine Zb ?_ ?_));exact ht.get.symm
 |cons c t=>
  cases t with
  |nil=>(refine Zm ?_;repeat'(first|(refine Zi fun _=>?_;try simp(disch:=first|exact Zq|fail)[*,Zz])|refine Yb ?_|refine Yc ?_|refine Yd ?_|refine Zt ?_|refine Zf ?_|refine Zb ?_ ?_));exact ht.get
  |cons d r=>
   (refine Zm ?_;repeat'(first|(refine Zi fun _=>?_;try simp(disch:=first|exact Zq|fail)[*,Zz])|refine Yb ?_|refine Yc ?_|refine Yd ?_|refine Zt ?_|refine Zf ?_|refine Zb ?_ ?_))
   .have:=ht.get;rw[So,if_pos (by omega)]at this;exact⟨r.length+1,by omega,d::r,rfl,by simp at hl ⊢;omega,this,rfl⟩
   .have:=ht.get;rw[So,if_neg (by omega)]at this;exact this
theorem Zabk {s t:Yt}(hl:s.length=t.length)(hs:Rr s=true)(ht:Rr t=true):ltL s t=decide (Yr s < Yr t):=by
 induction s generalizing t with
 |nil=>
  cases t with
  |nil=>simp[ltL]
  |cons d t=>simp at hl
 |cons c s ih=>
  cases t with
  |nil=>simp at hl
  |cons d t=>
   have hl':s.length=t.length:=by simpa using hl
   rw[Yv]at hs ht;have hc:=hs c List.mem_cons_self;have hd:=ht d List.mem_cons_self;have hs':Rr s=true:=Yv.2 fun x hx=>hs x (List.mem_cons_of_mem _ hx)
   have ht':Rr t=true:=Yv.2 fun x hx=>ht x (List.mem_cons_of_mem _ hx)
   have b1:=Zg1 hs';have b2:=Zg1 ht';rw[hl']at b1;rw[Rk,Rk,hl',ltL,ih hl' hs' ht'];generalize hP:10^t.length=P at *;by_cases h1:c < d
   .have e1:Nat.blt c d=true:=by simpa using h1
    rw[e1]
    have:(c - 48)*P+P<=(d - 48)*P:=by
     rw[<- Nat.succ_mul];exact Nat.mul_le_mul_right _ (by omega)
    have:Yr s+(c - 48)*P < (d - 48)*P+Yr t:=by omega
    simp;omega
   .have e1:Nat.blt c d=false:=by
     rw[<- Bool.not_eq_true,Nat.blt_eq];exact h1
    rw[e1];by_cases h2:d < c
    .have e2:Nat.blt d c=true:=by simpa using h2
     rw[e2]
     have:(d - 48)*P+P<=(c - 48)*P:=by
      rw[<- Nat.succ_mul];exact Nat.mul_le_mul_right _ (by omega)
     simp;omega
    .have e2:Nat.blt d c=false:=by
      rw[<- Bool.not_eq_true,Nat.blt_eq];exact h2
     rw[e2];have:c=d:=by omega
     subst this;simp
theorem Z0n {a b:Nat}(hl:(Zg a).length=(Zg b).length):ltL (Zg a) (Zg b)=decide (a < b):=by
 rw[Zabk hl (Wt a) (Wt b),Xt,Xt]
theorem Zde {a b:Nat}(hl:(Zg a).length < (Zg b).length):a < b:=by
 rcases Nat.lt_or_ge a b with h | h
 .exact h
 .have:=Wo h;omega
def Znm (a b:Nat):Int:=if a < b then -1 else if a=b then 0 else 1
theorem Zad0 (a b:Nat):Xw vE 173 [.str (Zg a),.str (Zg b)] (.int .i64 (Znm a b)):=by
 intro K H;refine Zd (fn:=Tryz.f173) rfl Tryz.func173 rfl rfl rfl rfl ?_ rfl
 (refine Zm ?_;repeat'(first|(refine Zi fun _=>?_;try simp(disch:=first|exact Zq|fail)[*,Zz,Tryz.f173])|refine Yb ?_|refine Yc ?_|refine Yd ?_|refine Zt ?_|refine Zf ?_|refine Zb ?_ ?_))
 .rename_i h;rw[Znm,if_pos (Zde h)]
 .rename_i h1 h2 h3;rw[Z0n (by omega)]at h3;rw[Znm,if_pos (by simpa using h3)]
 .rename_i h1 h2 h3 h4;have:=Zen h4;simp[Znm,this]
 .rename_i h1 h2 h3 h5 h4;rw[Z0n (by omega)]at h3;have:a≠b:=fun e=>h4 (by rw[e])
  simp at h3;simp[Znm,this];omega
 .rename_i h1 h2 h3 h4;have:=Zen h4;simp[Znm,this]
 .rename_i h1 h2 h3 h5 h4;have:b < a:=Zde (by omega);rw[Znm,if_neg (by omega),if_neg (by omega)]
theorem Zl2 {α:Type}{n i:Nat}{z x:α}(h:i < n):(List.replicate (n - i) z).set (n - 1 - i) x=List.replicate (n - (i+1)) z++[x]:=by
 obtain⟨k,rfl⟩:∃k,n=i+k+1:=⟨n - i - 1,by omega⟩
 have e1:i+k+1 - i=k+1:=by omega
 have e2:i+k+1 - 1 - i=k:=by omega
 have e3:i+k+1 - (i+1)=k:=by omega
 rw[e1,e2,e3,List.replicate_succ'];simp
theorem Zas4 (a b:Nat)(ha:(Zg a).length<=2^20)(hb:(Zg b).length<=2^20):Xw vE 172 [.str (Zg a),.str (Zg b)] (.str (Zg (a+b))):=by
 intro K H;refine Zd (fn:=Tryz.f172) rfl Tryz.func172 rfl rfl rfl rfl ?_ rfl
 (refine Zm ?_;repeat'(first|(refine Zi fun _=>?_;try simp(disch:=first|exact Zq|fail)[*,Zz,Tryz.f172])|refine Yb ?_|refine Yc ?_|refine Yd ?_|refine Zt ?_|refine Zf ?_|refine Zb ?_ ?_))
 generalize hN:max (Zg a).length (Zg b).length=N at *;generalize hv0:H.stamp (H.next+17)=v0
 refine Zn [0,1,5,6] (fun n sl h=>∃(i c:Nat) (Un:Yt),n=N+1 - i/\i<=N+1/\c<=1/\Un.length=i/\Rr Un=true/\Yr Un+c*10^i=a % 10^i+b % 10^i/\sl 7=some (.int .i64 c)/\sl 8=some (.int .i64 i) /\
  h.get (H.next+17)=some (v0,.row 5 true (List.replicate (N+1 - i) (.int .u8 0)++Un.map fun c=>.int .u8 c))) (N+1) rfl ⟨0,0,[],by simp,by simp,by simp,rfl,rfl,by simp[Yr,Uu,Nat.mod_one],by simp,by simp,by simp⟩ ?_
 rintro n sl h hf ⟨i,c,Un,hn',hi,hc,S4,hla,hv,h7,h8,hg⟩;simp at hf;by_cases hiN:i < N+1
 .have X3:=Z9k hv;replace hv:=Hide.mk hv;have hDA:a / 10^i % 10<=9:=by omega
  have hDB:b / 10^i % 10<=9:=by omega
  have hA:∀(hia:i < (Zg a).length),(Zg a)[(Zg a).length - 1 - i]'(by omega)=48+a / 10^i % 10:=fun hia=>Zld hia
  have hB:∀(hia:i < (Zg b).length),(Zg b)[(Zg b).length - 1 - i]'(by omega)=48+b / 10^i % 10:=fun hia=>Zld hia
  have Xv:¬ i < (Zg a).length->a / 10^i % 10=0:=fun hia=>by rw[Zjn (by omega)]
  have hB':¬ i < (Zg b).length->b / 10^i % 10=0:=fun hia=>by rw[Zjn (by omega)]
  generalize a / 10^i % 10=dA at *;generalize b / 10^i % 10=dB at *;have hq:∀x:Nat,(x:Int).tmod 10=((x % 10:Nat):Int):=fun x=>by rw[Int.tmod_eq_emod_of_nonneg (by omega)];omega
  have hd:∀x:Nat,(x:Int).tdiv 10=((x / 10:Nat):Int):=fun x=>by rw[Int.tdiv_eq_ediv_of_nonneg (by omega)];omega
  have e1:∀x:Int,x=((c+dA+dB:Nat):Int)->IntKind.i64.wrap (x.tdiv 10)=(((c+dA+dB) / 10:Nat):Int):=fun x hx=>by
   rw[hx,hd,Zs4 (by omega) (by omega)]
  have e2:∀x:Int,x=((c+dA+dB:Nat):Int)->(List.replicate (N+1 - i) (PV.int IntKind.u8 0)).set (N+1 - 1 - i) (PV.int IntKind.u8 (IntKind.u8.wrap (IntKind.i64.wrap (48+x.tmod 10))))++List.map (fun c:Nat=>PV.int IntKind.u8 c) Un=List.replicate (N+1 - (i+1)) (.int .u8 0)++List.map (fun c:Nat=>PV.int IntKind.u8 c) ((48+(c+dA+dB) % 10)::Un):=fun x hx=>by
   rw[hx,hq,Zs4 (by omega) (by omega),Z4j (by omega) (by omega),Zl2 (n:=N+1) (by omega)];simp
  have Xn:∀x y:Int,x=((c+dA+dB:Nat):Int)->y=((c+dA+dB:Nat):Int)->∃m,m < N+1 - i/\∃i_1:Nat,m=N+1 - i_1/\i_1<=N+1/\∃c1:Nat,c1<=1/\∃l1:Yt,l1.length=i_1/\Rr l1=true/\Yr l1+c1*10^i_1=a % 10^i_1+b % 10^i_1/\IntKind.i64.wrap (x.tdiv 10)=c1/\(i:Int)+1=i_1 /\
    (List.replicate (N+1 - i) (PV.int IntKind.u8 0)).set (N - i) (PV.int IntKind.u8 (IntKind.u8.wrap (IntKind.i64.wrap (48+y.tmod 10))))++List.map (fun c:Nat=>PV.int IntKind.u8 c) Un=List.replicate (N+1 - i_1) (.int .u8 0)++List.map (fun c:Nat=>PV.int IntKind.u8 c) l1:=fun x y hx hy=>
   ⟨N - i,by omega,i+1,by omega,by omega,(c+dA+dB) / 10,by omega,(48+(c+dA+dB) % 10)::Un,by simp;omega,by
    rw[Yv]at hla ⊢;intro d hd;rcases List.mem_cons.1 hd with rfl | hd
    .omega
    .exact hla d hd,by rw[Rk,S4];have:=X3;simpa using this,e1 x hx,by omega,e2 y hy⟩
  replace Xn:=Hide.mk Xn;clear e1 e2 hq hd X3;by_cases hia:i < (Zg a).length
  .by_cases hib:i < (Zg b).length
   .have hA:=hA hia;have hB:=hB hib;clear Xv hB'
    (refine Zm ?_;repeat'(first|(refine Zi fun _=>?_;try simp(disch:=first|exact Zq|fail)[*,Zz])|refine Yb ?_|refine Yc ?_|refine Yd ?_|refine Zt ?_|refine Zf ?_|refine Zb ?_ ?_))
    refine Xn.get _ _ ?_ ?_<;>omega
   .have hA:=hA hia;have hB:=hB' hib;clear Xv hB'
    (refine Zm ?_;repeat'(first|(refine Zi fun _=>?_;try simp(disch:=first|exact Zq|fail)[*,Zz])|refine Yb ?_|refine Yc ?_|refine Yd ?_|refine Zt ?_|refine Zf ?_|refine Zb ?_ ?_))
    refine Xn.get _ _ ?_ ?_<;>omega
  .by_cases hib:i < (Zg b).length
   .have hA:=Xv hia;have hB:=hB hib;clear Xv hB'
    (refine Zm ?_;repeat'(first|(refine Zi fun _=>?_;try simp(disch:=first|exact Zq|fail)[*,Zz])|refine Yb ?_|refine Yc ?_|refine Yd ?_|refine Zt ?_|refine Zf ?_|refine Zb ?_ ?_))
    refine Xn.get _ _ ?_ ?_<;>omega
   .have hA:=Xv hia;have hB:=hB' hib;clear Xv hB'
    (refine Zm ?_;repeat'(first|(refine Zi fun _=>?_;try simp(disch:=first|exact Zq|fail)[*,Zz])|refine Yb ?_|refine Yc ?_|refine Yd ?_|refine Zt ?_|refine Zf ?_|refine Zb ?_ ?_))
    have hh:=Xn.get c c (by omega) (by omega);simpa (disch:=omega) [Zs4,Z4j,Nat.sub_eq_zero_of_le]using hh
 .have hi1:i=N+1:=by omega
  subst hi1
  have hc0:Yr Un=a+b:=by
   rw[Qv (by omega),Qv (by omega)]at hv;have h1:=Wf a;have h2:=Wf b;have h3:10^(Zg a).length<=10^N:=Nat.pow_le_pow_right (by omega) (by omega);have h4:10^(Zg b).length<=10^N:=Nat.pow_le_pow_right (by omega) (by omega);rw[Nat.pow_succ]at hv;generalize 10^N=P at *;rcases Nat.eq_zero_or_pos c with rfl | h5
   .omega
   .have:c=1:=by omega
    subst this;omega
  have hbp:Zj.bytesP (List.take (N+1) (Un.map fun c:Nat=>PV.int .u8 (c:Int)))=some Un:=by
   rw[List.take_of_length_le (by simp;omega)];exact Zc3 fun d hd=>by have:=Yv.1 hla d hd;omega
  have Zgo:=Zc4 Un (by omega);rw[Ux hla (by intro e;rw[e]at S4;simp at S4),hc0]at Zgo;replace hv:=Hide.mk hv
  (refine Zm ?_;repeat'(first|(refine Zi fun _=>?_;try simp(disch:=first|exact Zq|fail)[*,Zz,hbp,Zgo])|refine Yb ?_|refine Yc ?_|refine Yd ?_|refine Zt ?_|refine Zf ?_|refine Zb ?_ ?_))
theorem Z4u {a b c d e i v:Nat}(h:v+b % 10^i=a % 10^i+c*10^i)(he:d+b / 10^i % 10+c=a / 10^i % 10+10*e):
  d*10^i+v+b % 10^(i+1)=a % 10^(i+1)+e*10^(i+1):=by
 rw[Qu,Qu,Nat.pow_succ];generalize 10^i=P at *;generalize a / P % 10=x at *;generalize b / P % 10=y at *;have e1:e*(P*10)=10*e*P:=by rw[Nat.mul_comm P,<- Nat.mul_assoc,Nat.mul_comm e]
 have e2:(d+y+c)*P=d*P+y*P+c*P:=by rw[Nat.add_mul,Nat.add_mul]
 have e3:(x+10*e)*P=x*P+10*e*P:=by rw[Nat.add_mul]
 rw[he]at e2;omega
theorem Zadz (a b:Nat)(hab:b<=a)(ha:(Zg a).length<=2^21):Xw vE 174 [.str (Zg a),.str (Zg b)] (.str (Zg (a - b))):=by
 have hb:=Wo hab;intro K H;refine Zd (fn:=Tryz.f174) rfl Tryz.func174 rfl rfl (by simp) (by simp) ?_ (by simp[*])
 (refine Zm ?_;repeat'(first|(refine Zi fun _=>?_;try simp(disch:=first|exact Zq|fail)[*,Zz,Tryz.f174])|refine Yb ?_|refine Yc ?_|refine Yd ?_|refine Zt ?_|refine Zf ?_|refine Zb ?_ ?_))
 generalize hN:(Zg a).length=N at *;generalize hv0:PH.stamp _ _=v0
 refine Zn [0,1,5] (fun n sl h=>∃(i c:Nat) (Un:Yt),n=N - i/\i<=N/\c<=1/\Un.length=i/\Rr Un=true/\Yr Un+b % 10^i=a % 10^i+c*10^i/\sl 6=some (.int .i64 c)/\sl 7=some (.int .i64 i) /\
  h.get (H.next+11)=some (v0,.row 5 true (List.replicate (N - i) (.int .u8 0)++Un.map fun c:Nat=>.int .u8 c))) N rfl ⟨0,0,[],by simp,by simp,by simp,rfl,rfl,by simp[Yr,Uu,Nat.mod_one],by simp,by simp,by simp⟩ ?_
 rintro n sl h hf ⟨i,c,Un,hn',hi,hc,S4,hla,hv,h6,h7,hg⟩;simp at hf;by_cases hiN:i < N
 .have X3:=fun d e=>Z4u (d:=d) (e:=e) hv
  replace hv:=Hide.mk hv;replace X3:=Hide.mk X3
  have hA:(Zg a)[N - 1 - i]'(by omega)=48+a / 10^i % 10:=by
   have:=Zld (a:=a) (i:=i) (by omega);simpa[hN]using this
  have hB:∀(hia:i < (Zg b).length),(Zg b)[(Zg b).length - 1 - i]'(by omega)=48+b / 10^i % 10:=fun hia=>Zld hia
  have hB':¬ i < (Zg b).length->b / 10^i % 10=0:=fun hia=>by rw[Zjn (by omega)]
  have hDA:a / 10^i % 10<=9:=by omega
  have hDB:b / 10^i % 10<=9:=by omega
  have Xn:∀(x E:Int) (d e:Nat),x=48+d->E=e->d<=9->e<=1->d+b / 10^i % 10+c=a / 10^i % 10+10*e->∃m,m < N - i/\∃i_1:Nat,m=N - i_1/\i_1<=N/\∃c1:Nat,c1<=1/\∃l1:Yt,l1.length=i_1/\Rr l1=true/\Yr l1+b % 10^i_1=a % 10^i_1+c1*10^i_1/\E=c1/\(i:Int)+1=i_1 /\
    (List.replicate (N - i) (PV.int IntKind.u8 0)).set (N - 1 - i) (PV.int IntKind.u8 x)++List.map (fun c:Nat=>PV.int IntKind.u8 c) Un=List.replicate (N - i_1) (.int .u8 0)++List.map (fun c:Nat=>PV.int IntKind.u8 c) l1:=fun x E d e hx hE hd he hde=>
   ⟨N - (i+1),by omega,i+1,rfl,by omega,e,he,(48+d)::Un,by simp;omega,by
    rw[Yv]at hla ⊢;intro d hd;rcases List.mem_cons.1 hd with rfl | hd
    .omega
    .exact hla d hd,by rw[Rk,S4];have:=X3.get d e hde;simpa using this,hE,by omega,by rw[hx,Zl2 (n:=N) hiN];simp⟩
  replace Xn:=Hide.mk Xn;generalize a / 10^i % 10=dA at *;generalize b / 10^i % 10=dB at *;by_cases hib:i < (Zg b).length
  .have hB:=hB hib;clear hB'
   (refine Zm ?_;repeat'(first|(refine Zi fun _=>?_;try simp(disch:=first|exact Zq|fail)[*,Zz])|refine Yb ?_|refine Yc ?_|refine Yd ?_|refine Zt ?_|refine Zf ?_|refine Zb ?_ ?_))
   .refine Xn.get _ _ (10+dA - c - dB) 1 ?_ ?_ ?_ ?_ ?_<;>omega
   .refine Xn.get _ _ (dA - c - dB) 0 ?_ ?_ ?_ ?_ ?_<;>omega
  .have hB:=hB' hib;clear hB'
   (refine Zm ?_;repeat'(first|(refine Zi fun _=>?_;try simp(disch:=first|exact Zq|fail)[*,Zz])|refine Yb ?_|refine Yc ?_|refine Yd ?_|refine Zt ?_|refine Zf ?_|refine Zb ?_ ?_))
   .refine Xn.get _ _ (10+dA - c - dB) 1 ?_ ?_ ?_ ?_ ?_<;>omega
   .refine Xn.get _ _ (dA - c - dB) 0 ?_ ?_ ?_ ?_ ?_<;>omega
 .have hi1:i=N:=by omega
  subst hi1
  have hc0:Yr Un=a - b:=by
   rw[Qv (by omega),Qv (by omega)]at hv;have h1:=Zg1 hla;rw[S4]at h1;generalize 10^i=P at *;rcases Nat.eq_zero_or_pos c with rfl | h5
   .omega
   .have:c=1:=by omega
    subst this;omega
  have hbp:Zj.bytesP (List.take i (Un.map fun c:Nat=>PV.int .u8 (c:Int)))=some Un:=by
   rw[List.take_of_length_le (by simp;omega)];exact Zc3 fun d hd=>by have:=Yv.1 hla d hd;omega
  have Zgo:=Zc4 Un (by omega);rw[Ux hla (by intro e;have:=Ue a;rw[e]at S4;simp at S4;omega),hc0]at Zgo;replace hv:=Hide.mk hv
  (refine Zm ?_;repeat'(first|(refine Zi fun _=>?_;try simp(disch:=first|exact Zq|fail)[*,Zz,hbp,Zgo])|refine Yb ?_|refine Yc ?_|refine Yd ?_|refine Zt ?_|refine Zf ?_|refine Zb ?_ ?_))
def Zcn (o:List Nat):Nat:=o.foldl (fun a x=>a*10+x) 0
theorem Zs2:Zcn []=0:=rfl
theorem Zo5 (o:List Nat)(x:Nat):Zcn (o++[x])=Zcn o*10+x:=by simp only[Zcn,List.foldl_append,List.foldl_cons,List.foldl_nil]
theorem Za8 (o p:List Nat):Zcn (o++p)=Zcn o*10^p.length+Zcn p:=by
 rcases List.eq_nil_or_concat p with rfl | ⟨q,x,rfl⟩
 .simp [Zs2]
 .rw [List.concat_eq_append,<- List.append_assoc,Zo5,Za8 o q,Zo5];simp only[List.length_append,List.length_cons,List.length_nil,Nat.zero_add,Nat.pow_succ];rw[Nat.add_mul,Nat.mul_assoc];omega
termination_by p.length
decreasing_by all_goals simp_all
theorem Zew (x:Nat)(o:List Nat):Zcn (x::o)=x*10^o.length+Zcn o:=by
 have:=Za8 [x] o;simpa[Zcn]using this
theorem Z4i {o:List Nat}{k d:Nat}(hk:k < o.length):Zcn (o.set k (o[k]+d))=Zcn o+d*10^(o.length - 1 - k):=by
 obtain⟨l,r,e,hl⟩:∃l r,o=l++o[k]::r/\l.length=k:=⟨o.take k,o.drop (k+1),by simp,by simp;omega⟩
 generalize o[k]=y at *;subst e;have:(l++y::r).set k (y+d)=l++(y+d)::r:=by subst hl;simp
 rw[this,Za8,Za8,Zew,Zew];simp only[List.length_append,List.length_cons];have e1:l.length+(r.length+1) - 1 - k=r.length:=by omega
 rw[e1,Nat.add_mul];omega
theorem Z1d (n:Nat):Zcn (List.replicate n 0)=0:=by
 induction n with
 |zero=>rfl
 |succ n ih=>rw[List.replicate_succ,Zew,ih];simp
theorem Zip {s:Yt}{i:Nat}(h:i < s.length):Yr (s.take (i+1))=Yr (s.take i)*10+(s[i] - 48):=by
 rw[List.take_succ_eq_append_getElem h,Ta]
theorem Z5r {A B da db P Q j w:Nat}(h:w=A*10^(P+1)*B+da*10^P*(Q*10^(j+1))):
  w+da*db*10^(P+j)=A*10^(P+1)*B+da*10^P*((Q*10+db)*10^j):=by
 have e0:10^(j+1)=10^j*10:=Nat.pow_succ _ _;have e2:10^(P+j)=10^P*10^j:=Nat.pow_add _ _ _
 have e1:da*10^P*((Q*10+db)*10^j)=da*10^P*(Q*10^(j+1))+da*db*10^(P+j):=by
  rw[e0,e2,Nat.add_mul,Nat.mul_add];have a1:Q*10*10^j=Q*(10^j*10):=by rw[Nat.mul_assoc,Nat.mul_comm 10]
  have a2:da*10^P*(db*10^j)=da*db*(10^P*10^j):=by
   rw[Nat.mul_assoc,Nat.mul_assoc,Nat.mul_left_comm (10^P)]
  rw[a1,a2]
 omega
theorem Zlf (a b:Nat)(ha:(Zg a).length<=2^20)(hb:(Zg b).length<=2^20):Xw vE 171 [.str (Zg a),.str (Zg b)] (.str (Zg (a*b))):=by
 intro K H;refine Zd (fn:=Tryz.f171) rfl Tryz.func171 rfl rfl (by simp) (by simp) ?_ (by simp[*])
 (refine Zm ?_;repeat'(first|(refine Zi fun _=>?_;try simp(disch:=first|exact Zq|fail)[*,Zz,Tryz.f171])|refine Yb ?_|refine Yc ?_|refine Yd ?_|refine Zt ?_|refine Zf ?_|refine Zb ?_ ?_))
 generalize hLa:(Zg a).length=la at *;generalize hLb:(Zg b).length=lb at *;generalize hv0:PH.stamp _ _=v0
 refine Zn [0,1,5] (fun n sl h=>∃(i:Nat) (o:List Nat),n=la - i/\i<=la/\o.length=la+lb/\(∀x,x∈o->x<=81*i)/\Zcn o=Yr ((Zg a).take i)*10^(la - i)*b/\sl 6=some (.int .i64 i) /\
  h.get (H.next+17)=some (v0,.row 3 true (o.map fun x:Nat=>.int .i64 x))) la rfl ⟨0,List.replicate (la+lb) 0,by simp,by simp,by simp,by simp,by simp[Z1d,Yr,Uu],by simp,by simp⟩ ?_
 rintro n sl h hf ⟨i,o,hn',hi,hol,Tl,hw,h6,hg⟩;simp at hf;replace hw:=Hide.mk hw;replace Tl:=Hide.mk Tl;by_cases hia:i < la
 .have Zx4:i < (Zg a).length:=by omega
  obtain⟨dA,hA,hdA⟩:∃dA,(Zg a)[i]=48+dA/\dA<=9:=⟨(Zg a)[i] - 48,by have:=Yv.1 (Wt a) _ (List.getElem_mem Zx4);omega,by have:=Yv.1 (Wt a) _ (List.getElem_mem Zx4);omega⟩
  have htA:=Zip Zx4;rw[hA]at htA;replace htA:=Hide.mk htA
  (refine Zm ?_;repeat'(first|(refine Zi fun _=>?_;try simp(disch:=first|exact Zq|fail)[*,Zz])|refine Yb ?_|refine Yc ?_|refine Yd ?_|refine Zt ?_|refine Zf ?_|refine Zb ?_ ?_))
  refine Zn [0,1,5,6] (fun n sl h=>∃(j:Nat) (o:List Nat),n=lb - j/\j<=lb/\o.length=la+lb/\(∀k (hk:k < o.length),o[k]<=81*(i+1)/\(i+j+1<=k->o[k]<=81*i))/\Zcn o=Yr ((Zg a).take i)*10^(la - i)*b+dA*10^(la - 1 - i)*(Yr ((Zg b).take j)*10^(lb - j))/\sl 7=some (.int .i64 j) /\
   h.get (H.next+17)=some (v0,.row 3 true (o.map fun x:Nat=>.int .i64 x))) lb rfl ⟨0,o,by simp,by simp,hol,fun k hk=>by have:=Tl.get _ (List.getElem_mem hk);omega,by rw[hw.get];simp[Yr,Uu],by simp,by simp[hg]⟩ ?_
  clear hg;rintro n2 sl2 h2 hf2 ⟨j,o2,hn2,hj,hol2,Qz,Vj,h7,hg⟩;simp[hf,h6]at hf2;replace Vj:=Hide.mk Vj;replace Qz:=Hide.mk Qz;by_cases hjb:j < lb
  .have hjb':j < (Zg b).length:=by omega
   obtain⟨dB,hB,hdB⟩:∃dB,(Zg b)[j]=48+dB/\dB<=9:=⟨(Zg b)[j] - 48,by have:=Yv.1 (Wt b) _ (List.getElem_mem hjb');omega,by have:=Yv.1 (Wt b) _ (List.getElem_mem hjb');omega⟩
   have htB:=Zip hjb';rw[hB]at htB;replace htB:=Hide.mk htB;have hp:dA*dB<=81:=Nat.mul_le_mul hdA hdB;have hp1:(dA:Int)*dB<=81:=by exact_mod_cast hp
   have hp0:0<=(dA:Int)*dB:=by exact_mod_cast Nat.zero_le _
   have hkl:i+j+1 < o2.length:=by omega
   have hk:=(Qz.get (i+j+1) hkl).1;have hk2:=(Qz.get (i+j+1) hkl).2 (by omega);have hix:((i:Int)+j+1).toNat=i+j+1:=by omega
   (refine Zm ?_;repeat'(first|(refine Zi fun _=>?_;try simp(disch:=first|exact Zq|fail)[*,Zz])|refine Yb ?_|refine Yc ?_|refine Yd ?_|refine Zt ?_|refine Zf ?_|refine Zb ?_ ?_))
   refine⟨lb - (j+1),by omega,j+1,rfl,by omega,o2.set (i+j+1) (o2[i+j+1]+dA*dB),by simp[hol2],?_,?_,by omega,?_⟩
   .intro k hk3;rw[List.getElem_set];split
    .omega
    .have:=Qz.get k (by simpa using hk3);omega
   .rw [Z4i hkl,htB.get];have e1:o2.length - 1 - (i+j+1)=(la - 1 - i)+(lb - (j+1)):=by omega
    rw[e1]
    have h1:=Z5r (A:=Yr ((Zg a).take i)) (B:=b) (da:=dA) (db:=dB) (P:=la - 1 - i) (Q:=Yr ((Zg b).take j)) (j:=lb - (j+1)) (w:=Zcn o2) (by
     rw[Vj.get];have e2:la - 1 - i+1=la - i:=by omega
     have e3:lb - (j+1)+1=lb - j:=by omega
     rw[e2,e3])
    have e2:la - 1 - i+1=la - i:=by omega
    rw[e2]at h1;rw[h1];congr 4;omega
   .rw [show ((o2[i+j+1]:Nat):Int)+(dA:Int)*dB=((o2[i+j+1]+dA*dB:Nat):Int) by simp];rw[List.map_set]
  .have hjl:j=lb:=by omega
   subst hjl
   (refine Zm ?_;repeat'(first|(refine Zi fun _=>?_;try simp(disch:=first|exact Zq|fail)[*,Zz])|refine Yb ?_|refine Yc ?_|refine Yd ?_|refine Zt ?_|refine Zf ?_|refine Zb ?_ ?_))
   refine⟨la - (i+1),by omega,i+1,rfl,by omega,o2,hol2,?_,?_,by omega,rfl⟩
   .intro x hx;obtain⟨k,hk,rfl⟩:=List.getElem_of_mem hx;exact (Qz.get k hk).1
   .rw [Vj.get,htA.get];have e1:la - i=(la - (i+1))+1:=by omega
    have e2:la - 1 - i=la - (i+1):=by omega
    have e3:(Zg b).take j=Zg b:=List.take_of_length_le (by omega);rw[e1,e2,e3,Xt,Nat.sub_self,Nat.pow_zero,Nat.mul_one,Nat.pow_succ];generalize 10^(la - (i+1))=P;rw[Nat.add_mul,Nat.add_mul];have e4:48+dA - 48=dA:=by omega
    rw[e4];congr 2;rw[Nat.mul_assoc,Nat.mul_comm P]
 .have hi1:i=la:=by omega
  subst hi1
  have hw0:Zcn o=a*b:=by
   rw[hw.get,List.take_of_length_le (by omega),Xt,Nat.sub_self,Nat.pow_zero,Nat.mul_one]
  have hL:o.length=i+lb:=hol;generalize hLL:i+lb=L at *;have hLc:(i:Int)+lb=L:=by omega
  (refine Zm ?_;repeat'(first|(refine Zi fun _=>?_;try simp(disch:=first|exact Zq|fail)[*,Zz])|refine Yb ?_|refine Yc ?_|refine Yd ?_|refine Zt ?_|refine Zf ?_|refine Zb ?_ ?_))
  generalize hv1:PH.stamp _ _=v1
  refine Zn [5,8] (fun n sl h=>∃(m c:Nat) (Un:Yt),n=L - m/\m<=L/\c<=100000000/\Un.length=m/\Rr Un=true/\Yr Un+c*10^m=Zcn (o.drop (L - m))/\sl 9=some (.int .i64 c)/\sl 10=some (.int .i64 (L - 1 - m)) /\
   h.get (H.next+52)=some (v1,.row 5 true (List.replicate (L - m) (.int .u8 0)++Un.map fun c:Nat=>.int .u8 c))/\h.get (H.next+17)=some (v0,.row 3 true (o.map fun x:Nat=>.int .i64 x))) L rfl ⟨0,0,[],by simp,by simp,by simp,rfl,rfl,?_,by simp,?_,?_,?_⟩ ?_
  .simp [Yr,Uu,List.drop_eq_nil_of_le (Nat.le_of_eq hL),Zs2]
  .simp
  .simp
  .simp [hg]
  clear hg h6 hv1 hw hn';rintro n2 sl2 h2 hf2 ⟨m,c,Un,hn2,hm,hc,S4,hla,hv,h9,h10,hg2,hg⟩;simp at hf2;by_cases hmL:m < L
  .have hkl:L - 1 - m < o.length:=by omega
   have hob3:o[L - 1 - m]<=81*i:=Tl.get _ (List.getElem_mem hkl)
   have hdr:o.drop (L - (m+1))=o[L - 1 - m]::o.drop (L - m):=by
    have e1:L - (m+1)=L - 1 - m:=by omega
    have e2:L - m=L - 1 - m+1:=by omega
    rw[e1,e2];exact List.drop_eq_getElem_cons hkl
   have X3:Yr ((48+(o[L - 1 - m]+c) % 10)::Un)+(o[L - 1 - m]+c) / 10*10^(m+1)=Zcn (o.drop (L - (m+1))):=by
    rw[hdr,Zew,Rk,S4,<- hv];have e1:(o.drop (L - m)).length=m:=by simp;omega
    have e2:48+(o[L - 1 - m]+c) % 10 - 48=(o[L - 1 - m]+c) % 10:=by omega
    rw[e1,e2,Nat.pow_succ];generalize o[L - 1 - m]=x;generalize 10^m=P;have e3:(x+c) / 10*(P*10)=(x+c) / 10*10*P:=by rw[Nat.mul_comm P,Nat.mul_assoc]
    have e4:(x+c) % 10*P+(x+c) / 10*10*P=(x+c)*P:=by
     rw[<- Nat.add_mul];congr 1;omega
    have e5:(x+c)*P=x*P+c*P:=Nat.add_mul _ _ _;omega
   replace hv:=Hide.mk hv;replace X3:=Hide.mk X3;replace hdr:=Hide.mk hdr;have hix:((L:Int) - 1 - m).toNat=L - 1 - m:=by omega
   have hq:∀x:Nat,(x:Int).tmod 10=((x % 10:Nat):Int):=fun x=>by rw[Int.tmod_eq_emod_of_nonneg (by omega)];omega
   have hd:∀x:Nat,(x:Int).tdiv 10=((x / 10:Nat):Int):=fun x=>by rw[Int.tdiv_eq_ediv_of_nonneg (by omega)];omega
   have hq2:((o[L - 1 - m]:Int)+c).tmod 10=(((o[L - 1 - m]+c) % 10:Nat):Int):=hq (o[L - 1 - m]+c);have hd2:((o[L - 1 - m]:Int)+c).tdiv 10=(((o[L - 1 - m]+c) / 10:Nat):Int):=hd (o[L - 1 - m]+c);clear hq hd;generalize hx:o[L - 1 - m]=x at *
   (refine Zm ?_;repeat'(first|(refine Zi fun _=>?_;try simp(disch:=first|exact Zq|fail)[*,Zz,-Int.natCast_emod, -Int.natCast_ediv, -Int.natCast_add])|refine Yb ?_|refine Yc ?_|refine Yd ?_|refine Zt ?_|refine Zf ?_|refine Zb ?_ ?_))
   refine⟨L - (m+1),by omega,m+1,rfl,by omega,(x+c) / 10,by omega,(48+(x+c) % 10)::Un,by simp;omega,?_,X3.get,rfl,by omega,?_⟩
   .rw [Yv]at hla ⊢;intro d hd;rcases List.mem_cons.1 hd with rfl | hd
    .omega
    .exact hla d hd
   .rw [Zl2 (n:=L) hmL];simp
  .have hmL':m=L:=by omega
   subst hmL'
   have hc0:Yr Un=a*b:=by
    have e1:m - m=0:=by omega
    rw[e1,List.drop_zero,hw0]at hv;have h1:=Wf a;have h2:=Wf b;have h3:a*b < 10^(Zg a).length*10^(Zg b).length:=Nat.mul_lt_mul'' h1 h2;rw[<- Nat.pow_add,hLa,hLb,hLL]at h3;rcases Nat.eq_zero_or_pos c with rfl | h5
    .omega
    .have:1*10^m<=c*10^m:=Nat.mul_le_mul_right _ h5;omega
   have hbp:Zj.bytesP (List.take m (Un.map fun c:Nat=>PV.int .u8 (c:Int)))=some Un:=by
    rw[List.take_of_length_le (by simp;omega)];exact Zc3 fun d hd=>by have:=Yv.1 hla d hd;omega
   have Zgo:=Zc4 Un (by omega);rw[Ux hla (by intro e;have:=Ue a;rw[e]at S4;simp at S4;omega),hc0]at Zgo;replace hv:=Hide.mk hv
   (refine Zm ?_;repeat'(first|(refine Zi fun _=>?_;try simp(disch:=first|exact Zq|fail)[*,Zz,hbp,Zgo])|refine Yb ?_|refine Yc ?_|refine Yd ?_|refine Zt ?_|refine Zf ?_|refine Zb ?_ ?_))
theorem Zacz {a b:Nat}(h:b<=a):(0:Int)<=Znm a b:=by
 unfold Znm;split
 .omega
 .split<;>decide
theorem Zacy {a b:Nat}(h:a < b):¬ (0:Int)<=Znm a b:=by
 rw[Znm,if_pos h];decide
theorem Z1e {R c:Nat}(hc:48<=c/\c<=57):So (Zg R++[c])=Zg (R*10+(c - 48)):=by
 rw[Ux _ (by simp),Ta,Xt];rw[Yv];intro d hd;rcases List.mem_append.1 hd with h | h
 .exact Yv.1 (Wt R) d h
 .simp at h;omega
theorem Zse (a b:Nat)(hb0:0 < b)(ha:(Zg a).length<=2^20)(hb:(Zg b).length<=2^20):Xw vE 190 [.str (Zg a),.str (Zg b)] (.tuple [.str (Zg (a / b)),.str (Zg (a % b))]):=by
 intro K H;refine Zd (fn:=Tryz.f190) rfl Tryz.func190 rfl rfl (by simp) (by simp) ?_ (by simp[*])
 (refine Zm ?_;repeat'(first|(refine Zi fun _=>?_;try simp(disch:=first|exact Zq|fail)[*,Zz,Tryz.f190])|refine Yb ?_|refine Yc ?_|refine Yd ?_|refine Zt ?_|refine Zf ?_|refine Zb ?_ ?_))
 generalize hLa:(Zg a).length=la at *;generalize hv0:PH.stamp _ _=v0
 refine Zn [0,1,6] (fun n sl h=>∃(i R:Nat) (qs:Yt),n=la - i/\i<=la/\R < b/\qs.length=i/\Rr qs=true/\Yr qs*b+R=Yr ((Zg a).take i)/\sl 8=some (.int .i64 i)/\sl 7=some (.str (Zg R)) /\
  h.get (H.next+12)=some (v0,.row 5 true ((qs.map fun c:Nat=>.int .u8 c)++List.replicate (la - i) (.int .u8 0)))) la rfl ⟨0,0,[],by simp,by simp,hb0,rfl,rfl,by simp[Yr,Uu],by simp,by simp[V3],by simp⟩ ?_
 rintro n sl h hf ⟨i,R,qs,hn',hi,hR,hql,hqa,hv,h8,h7,hg⟩;simp at hf;have hlen:∀x,x < 10*b->(Zg x).length<=(Zg b).length+1:=fun x hx=>Zvs hx
 by_cases hia:i < la
 .have Zx4:i < (Zg a).length:=by omega
  have hc:=Yv.1 (Wt a) _ (List.getElem_mem Zx4);have htA:=Zip Zx4
  have Zhy:(List.drop i (Zg a)).take 1=[(Zg a)[i]]:=by
   rw[List.drop_eq_getElem_cons Zx4];rfl
  have Zgo:=Zc4 (Zg R++[(Zg a)[i]]) (by have:=hlen R (by omega);simp;omega);rw[Z1e hc]at Zgo;have hRl:=hlen R (by omega);replace hlen:=Hide.mk hlen;replace htA:=Hide.mk htA;generalize hca:(Zg a)[i]=c at *
  (refine Zm ?_;repeat'(first|(refine Zi fun _=>?_;try simp(disch:=first|exact Zq|fail)[*,Zz,Zhy,Zgo])|refine Yb ?_|refine Yc ?_|refine Yd ?_|refine Zt ?_|refine Zf ?_|refine Zb ?_ ?_))
  have hX:R*10+(c - 48) < 10*b:=by omega
  generalize hXX:R*10+(c - 48)=X at *;refine Zn [0,1,6,8] (fun n sl h'=>h'=h/\∃(k R':Nat),n=R'/\R'+k*b=X/\k<=9/\sl 7=some (.str (Zg R'))/\sl 9=some (.int .u8 (48+(k:Int)))) X rfl ⟨rfl,0,X,rfl,by simp,by simp,by simp,by simp⟩ ?_;rintro n2 sl2 h2 hf2 ⟨rfl,k,R',hn2,hk,hk9,h7',h9⟩;simp[hf,h8]at hf2;clear Zgo Zhy;replace hv:=Hide.mk hv;have hkb:0<=k*b:=Nat.zero_le _;have hl1:=hlen.get R' (by omega);have h173:=Zad0 R' b;by_cases hge:b<=R'
  .have hcm:=Zacz hge;have h174:=Zadz R' b hge (by omega)
   have hk8:k+1<=9:=by
    have h1:(k+1)*b < 10*b:=by rw[Nat.add_mul];omega
    have:=Nat.lt_of_mul_lt_mul_right h1;omega
   have hkk:R' - b+(k+1)*b=X:=by rw[Nat.add_mul];omega
   replace hk:=Hide.mk hk;replace hkk:=Hide.mk hkk
   (refine Zm ?_;repeat'(first|(refine Zi fun _=>?_;try simp(disch:=first|exact Zq|fail)[*,Zz,h173,h174])|refine Yb ?_|refine Yc ?_|refine Yd ?_|refine Zt ?_|refine Zf ?_|refine Zb ?_ ?_))
   refine⟨R' - b,by omega,k+1,hkk.get,hk8,?_⟩;exact⟨rfl,by omega⟩
  .have hcm:=Zacy (Nat.lt_of_not_le hge);replace hk:=Hide.mk hk
   (refine Zm ?_;repeat'(first|(refine Zi fun _=>?_;try simp(disch:=first|exact Zq|fail)[*,Zz,h173])|refine Yb ?_|refine Yc ?_|refine Yd ?_|refine Zt ?_|refine Zf ?_|refine Zb ?_ ?_))
   refine⟨la - (i+1),by omega,i+1,rfl,by omega,R',by omega,qs++[48+k],by simp;omega,?_,?_,by omega,rfl,?_⟩
   .rw [Yv]at hqa ⊢;intro d hd;rcases List.mem_append.1 hd with h | h
    .exact hqa d h
    .simp at h;omega
   .rw [Ta,htA.get,<- hv.get];have e1:48+k - 48=k:=by omega
    have e2:(Yr qs*10+k)*b=Yr qs*b*10+k*b:=by rw[Nat.add_mul,Nat.mul_assoc,Nat.mul_comm 10,<- Nat.mul_assoc]
    rw[e1,e2];have:=hk.get;omega
   .have e1:la - i=(la - (i+1))+1:=by omega
    rw[e1,List.replicate_succ];simp
 .have hi1:i=la:=by omega
  subst hi1;have e1:(Zg a).take i=Zg a:=List.take_of_length_le (by omega);rw[e1,Xt]at hv
  have hq:a / b=Yr qs:=by
   rw[<- hv,Nat.add_comm,Nat.add_mul_div_right _ _ hb0,Nat.div_eq_of_lt hR,Nat.zero_add]
  have hr:a % b=R:=by
   rw[<- hv,Nat.add_comm,Nat.add_mul_mod_self_right,Nat.mod_eq_of_lt hR]
  have hbp:Zj.bytesP (List.take i (qs.map fun c:Nat=>PV.int .u8 (c:Int)))=some qs:=by
   rw[List.take_of_length_le (by simp;omega)];exact Zc3 fun d hd=>by have:=Yv.1 hqa d hd;omega
  have Zgo:=Zc4 qs (by omega);rw[Ux hqa (by intro e;have:=Ue a;rw[e]at hql;simp at hql;omega),<- hq]at Zgo;replace hv:=Hide.mk hv
  (refine Zm ?_;repeat'(first|(refine Zi fun _=>?_;try simp(disch:=first|exact Zq|fail)[*,Zz,hbp,Zgo])|refine Yb ?_|refine Yc ?_|refine Yd ?_|refine Zt ?_|refine Zf ?_|refine Zb ?_ ?_))
theorem Zadu (a b:Nat)(ha:(Zg a).length<=2^20)(hb:(Zg b).length<=2^20):Xw vE 189 [.str (Zg a),.str (Zg b)] (.str (Zg (Nat.gcd a b))):=by
 intro K H;refine Zd (fn:=Tryz.f189) rfl Tryz.func189 rfl rfl (by simp) (by simp) ?_ (by simp[*])
 (refine Zm ?_;repeat'(first|(refine Zi fun _=>?_;try simp(disch:=first|exact Zq|fail)[*,Zz,Tryz.f189])|refine Yb ?_|refine Yc ?_|refine Yd ?_|refine Zt ?_|refine Zf ?_|refine Zb ?_ ?_))
 refine Zn [] (fun n sl h'=>∃(x y:Nat),n=y/\(Zg x).length<=2^20/\(Zg y).length<=2^20/\Nat.gcd x y=Nat.gcd a b/\sl 0=some (.str (Zg x))/\sl 1=some (.str (Zg y))) b rfl ⟨a,b,rfl,ha,hb,rfl,by simp,by simp⟩ ?_;rintro n sl h hf ⟨x,y,hn,hx,hy,hg,h0,h1⟩
 have he:(Zg y==[48])=decide (y=0):=by
  rw[Bool.eq_iff_iff];simp only[beq_iff_eq,decide_eq_true_eq];constructor
  .intro e;rw[<- V3]at e;exact Zen e
  .rintro rfl;exact V3
 by_cases hy0:y=0
 .subst hy0;rw[Nat.gcd_zero_right]at hg;subst hg;simp at he
  (refine Zm ?_;repeat'(first|(refine Zi fun _=>?_;try simp(disch:=first|exact Zq|fail)[*,Zz,he])|refine Yb ?_|refine Yc ?_|refine Yd ?_|refine Zt ?_|refine Zf ?_|refine Zb ?_ ?_))
 .have h190:=Zse x y (by omega) hx hy;have hml:(Zg (x % y)).length<=(Zg y).length:=Wo (Nat.le_of_lt (Nat.mod_lt _ (by omega)));have hgm:Nat.gcd y (x % y)=Nat.gcd a b:=by rw[<- hg,Nat.gcd_comm x y,Nat.gcd_rec y x,Nat.gcd_comm]
  have hlt:x % y < y:=Nat.mod_lt _ (by omega);replace hg:=Hide.mk hg;simp[hy0]at he
  (refine Zm ?_;repeat'(first|(refine Zi fun _=>?_;try simp(disch:=first|exact Zq|fail)[*,Zz,he,h190])|refine Yb ?_|refine Yc ?_|refine Yd ?_|refine Zt ?_|refine Zf ?_|refine Zb ?_ ?_))
  .rename_i h;exact absurd h he
  .exact ⟨x % y,hlt,y,hy,by omega,hgm,rfl,rfl⟩
structure Rt where
 neg:Bool
 num:Nat
 den:Nat
structure Rt.Ok (r:Rt):Prop where
 den:0 < r.den
 low:Nat.gcd r.num r.den=1
 sign:r.neg=true->r.num≠0
def Rt.mk' (neg:Bool)(n d:Nat):Rt:=⟨neg&&!(n==0),n / Nat.gcd n d,d / Nat.gcd n d⟩
def Rt.text (r:Rt):Yt:=(if r.neg then [45] else [])++Zg r.num++(if r.den=1 then [] else 47::Zg r.den)
abbrev encR (r:Rt):PV:=.agg [.bool r.neg,.str (Zg r.num),.str (Zg r.den)]
theorem Zacs {a b:Nat}(hb:0 < b):(Zg (Nat.gcd a b)).length<=(Zg b).length:=Wo (Nat.le_of_dvd hb (Nat.gcd_dvd_right a b))
theorem Nat.div_gcd_ne_zero' {n d:Nat}(h:0 < n):n / Nat.gcd n d≠0:=by
 have h1:Nat.gcd n d<=n:=Nat.gcd_le_left d h;have h2:0 < Nat.gcd n d:=Nat.gcd_pos_of_pos_left _ h;have:=Nat.div_pos h1 h2;omega
theorem Zsg (neg:Bool)(n d:Nat)(hd:0 < d)(hln:(Zg n).length<=2^20)(hld:(Zg d).length<=2^20):Xw vE 167 [.bool neg,.str (Zg n),.str (Zg d)] (encR (Rt.mk' neg n d)):=by
 have hg:0 < Nat.gcd n d:=Nat.gcd_pos_of_pos_right _ hd;have h189:=Zadu n d hln hld;have hgl:=Zacs (a:=n) hd;have h1:=Zse n (Nat.gcd n d) hg hln (by omega);have h2:=Zse d (Nat.gcd n d) hg hld (by omega);intro K H;refine Zd (fn:=Tryz.f167) rfl Tryz.func167 rfl rfl (by simp) (by simp) ?_ (by simp[*])
 (refine Zm ?_;repeat'(first|(refine Zi fun _=>?_;try simp(disch:=first|exact Zq|fail)[*,Zz,Tryz.f167,h189,h1,h2])|refine Yb ?_|refine Yc ?_|refine Yd ?_|refine Zt ?_|refine Zf ?_|refine Zb ?_ ?_))
 .simp only [Rt.mk',Bool.true_and,true_and,and_self,and_true];by_cases h0:n=0
  .subst h0;simp[V3]
  .have hg':n / Nat.gcd n d≠0:=Nat.div_gcd_ne_zero' (by omega)
   have e1:(Zg (n / Nat.gcd n d)==[48])=false:=by
    rw[beq_eq_false_iff_ne];intro e;exact hg' (Tg.1 e)
   rw[e1];simp[h0]
 .simp [Rt.mk']
theorem Zsf (r:Rt)(h1:(Zg r.num).length<=2^20)(h2:(Zg r.den).length<=2^20):Xw vE 168 [encR r] (.str r.text):=by
 intro K H;refine Zd (fn:=Tryz.f168) rfl Tryz.func168 rfl rfl (by simp) (by simp) ?_ (by simp[*])
 (refine Zm ?_;repeat'(first|(refine Zi fun _=>?_;try simp(disch:=first|exact Zq|fail)[*,Zz,Tryz.f168])|refine Yb ?_|refine Yc ?_|refine Yd ?_|refine Zt ?_|refine Zf ?_|refine Zb ?_ ?_))
 all_goals simp_all[Rt.text,Zkg]
def Tn (a:Yt):Yt:=if a.head?=some 45 then a.tail else a
def Tw (a:Yt):Yt:=(Tn a).takeWhile (fun c=>!(c==47))
def Us (a:Yt):Yt:=if 47∈Tn a then ((Tn a).dropWhile (fun c=>!(c==47))).tail else [49]
def Zal (a:Yt):Bool:=decide (a.head?=some 45)
def Zae (a:Yt):Bool:=Uf (Tw a)&&Uf (Us a)&&!(Us a==[48])&&(So (Tw a)==Tw a)&&(So (Us a)==Us a)&&((Rt.mk' (Zal a) (Yr (Tw a)) (Yr (Us a))).text==a)
def Zah (a:Yt):PV:=if Zae a then .tuple [.agg [.bool (Zal a),.str (Tw a),.str (Us a)],.bool true] else .tuple [.agg [.bool false,.str [],.str []],.bool false]
theorem Zlg (a:Yt)(ha:a.length<=2^19):Xw vE 144 [.str a] (Zah a):=by
 have hbl:∀m,below m 4 (Zah a)=true:=fun m=>by unfold Zah;split<;>simp
 intro K H;refine Zd (fn:=Tryz.f144) rfl Tryz.func144 rfl rfl (by simp) (by simp) ?_ (by simp[*])
 (refine Zkw ?_;((try simp(disch:=first|exact Zq|fail)[*,Zz]);repeat'(first|refine Z8 ?_|refine Z9 ?_|refine Z0 ?_|refine Z1 fun _=>?_|refine Z2 fun _ _=>?_|refine Z3 (fun _=>?_) fun _ _=>?_|refine Z4 fun _=>?_|refine Z5 fun _=>?_|refine Z6 (fun _=>?_) fun _=>?_|refine Z7 (fun _=>?_) fun _=>?_)<;>(try simp(disch:=first|exact Zq|fail)[*,Zz]));all_goals try refine Zky ?_)
 (refine Zkw ?_;((try simp(disch:=first|exact Zq|fail)[*,Zz]);repeat'(first|refine Z8 ?_|refine Z9 ?_|refine Z0 ?_|refine Z1 fun _=>?_|refine Z2 fun _ _=>?_|refine Z3 (fun _=>?_) fun _ _=>?_|refine Z4 fun _=>?_|refine Z5 fun _=>?_|refine Z6 (fun _=>?_) fun _=>?_|refine Z7 (fun _=>?_) fun _=>?_)<;>(try simp(disch:=first|exact Zq|fail)[*,Zz]));all_goals try refine Zky ?_)
 (refine Zkw ?_;((try simp(disch:=first|exact Zq|fail)[*,Zz]);repeat'(first|refine Z8 ?_|refine Z9 ?_|refine Z0 ?_|refine Z1 fun _=>?_|refine Z2 fun _ _=>?_|refine Z3 (fun _=>?_) fun _ _=>?_|refine Z4 fun _=>?_|refine Z5 fun _=>?_|refine Z6 (fun _=>?_) fun _=>?_|refine Z7 (fun _=>?_) fun _=>?_)<;>(try simp(disch:=first|exact Zq|fail)[*,Zz]));all_goals try refine Zky ?_)
 generalize hv1:PH.stamp _ _=v1;generalize hv2:PH.stamp _ _=v2;refine Z4l (fun sl h=>sl 0=some (.str a)/\sl 2=some (.ptr (H.next+2) v1 0)/\sl 4=some (.ptr (H.next+4) v2 0)/\sl 5=some (.str (Tn a))/\h.get (H.next+2)=some (v1,.cells [.bool false,.str [],.str []])/\h.get (H.next+4)=some (v2,.cells [.bool (Zal a),.str [],.str [49]])) ?_ ?_
 .cases a with
  |nil=>(refine Zm ?_;repeat'(first|(refine Zi fun _=>?_;try simp(disch:=first|exact Zq|fail)[*,Zz,Tn,Zal])|refine Yb ?_|refine Yc ?_|refine Yd ?_|refine Zt ?_|refine Zf ?_|refine Zb ?_ ?_))
  |cons c r=>
   (refine Zm ?_;repeat'(first|(refine Zi fun _=>?_;try simp(disch:=first|exact Zq|fail)[*,Zz])|refine Yb ?_|refine Yc ?_|refine Yd ?_|refine Zt ?_|refine Zf ?_|refine Zb ?_ ?_))
   .rename_i h;have:c=45:=by omega
    simp[Tn,Zal,this]
   .rename_i h0 h;have:c≠45:=by omega
    simp[Tn,Zal,this]
 rintro sl h ⟨h0,h2,h4,h5,hg2,hg4⟩;generalize hs:Tn a=s at *;have hsl:s.length<=a.length:=by rw[<- hs,Tn];split<;>simp
 refine Z4l (fun sl h=>sl 0=some (.str a)/\sl 2=some (.ptr (H.next+2) v1 0)/\sl 4=some (.ptr (H.next+4) v2 0)/\sl 5=some (.str (Tw a))/\h.get (H.next+2)=some (v1,.cells [.bool false,.str [],.str []])/\h.get (H.next+4)=some (v2,.cells [.bool (Zal a),.str [],.str (Us a)])) ?_ ?_
 . (refine Zm ?_;repeat'(first|(refine Zi fun _=>?_;try simp(disch:=first|exact Zq|fail)[*,Zz])|refine Yb ?_|refine Yc ?_|refine Yd ?_|refine Zt ?_|refine Zf ?_|refine Zb ?_ ?_))
   refine Zn [0,2,4] (fun n sl h=>∃i:Nat,n=s.length - i/\i<=s.length/\sl 6=some (.int .i64 i)/\sl 5=some (.str s)/\(∀j (hj:j < s.length),j < i->s[j]≠47)/\h.get (H.next+2)=some (v1,.cells [.bool false,.str [],.str []])/\h.get (H.next+4)=some (v2,.cells [.bool (Zal a),.str [],.str [49]])) s.length rfl ⟨0,by simp[hg2,hg4,h5]⟩ ?_;clear hg2 hg4;rintro n sl2 hh hf ⟨i,hn,hi,h6,h5',hd,hg2,hg4⟩;simp[h0,h2,h4]at hf;replace hd:=Hide.mk hd;replace hs:=Hide.mk hs;by_cases hlt:i < s.length
   . (refine Zm ?_;repeat'(first|(refine Zi fun _=>?_;try simp(disch:=first|exact Zq|fail)[*,Zz])|refine Yb ?_|refine Yc ?_|refine Yd ?_|refine Zt ?_|refine Zf ?_|refine Zb ?_ ?_))
     .rename_i hc;have hc':s[i]=47:=by omega
      have hsp:s=s.take i++47::s.drop (i+1):=by
       conv=>lhs;rw[<- List.take_append_drop i s,List.drop_eq_getElem_cons hlt,hc']
      have hno:∀x∈s.take i,(!(x==47))=true:=fun x hx=>by
       obtain⟨j,hj,rfl⟩:=List.getElem_of_mem hx;rw[List.getElem_take];have:=hd.get j (by simp at hj;omega) (by simp at hj;omega);simpa using this
      have hm:47∈s:=by rw[hsp];simp
      have e1:Tw a=s.take i:=by
       rw[Tw,hs.get]
       conv=>lhs;rw[hsp]
       rw[List.takeWhile_append_of_pos hno];simp
      have e2:Us a=s.drop (i+1):=by
       rw[Us,hs.get,if_pos hm]
       conv=>lhs;rw[hsp]
       rw[List.dropWhile_append_of_pos hno];simp
      rw[e1,e2];exact⟨rfl,List.take_of_length_le (by simp)⟩
     .rename_i hc0 hc;refine⟨_,by omega,i+1,rfl,by omega,rfl,fun j hj hji=>?_⟩;by_cases e':j=i
      .subst e';omega
      .exact hd.get j hj (by omega)
   . (refine Zm ?_;repeat'(first|(refine Zi fun _=>?_;try simp(disch:=first|exact Zq|fail)[*,Zz])|refine Yb ?_|refine Yc ?_|refine Yd ?_|refine Zt ?_|refine Zf ?_|refine Zb ?_ ?_))
     have hno:∀x∈s,(!(x==47))=true:=fun x hx=>by
      obtain⟨j,hj,rfl⟩:=List.getElem_of_mem hx;have:=hd.get j hj (by omega);simpa using this
     have hm:47∉s:=fun hm=>by have:=hno 47 hm;simp at this
     have e1:Tw a=s:=by
      rw[Tw,hs.get];have:=List.takeWhile_append_of_pos (p:=fun c=>!(c==47)) (l₁:=s) (l₂:=[]) hno;simpa using this
     rw[e1,Us,hs.get,if_neg hm];exact⟨rfl,rfl⟩
 clear h0 h2 h4 h5 hg2 hg4;rintro sl h ⟨h0,h2,h4,h5,hg2,hg4⟩
 have hln:(Tw a).length<=a.length:=by
  rw[Tw];have:=(List.takeWhile_prefix (fun c=>!(c==47)) (l:=Tn a)).length_le;have h2:(Tn a).length<=a.length:=by rw[Tn];split<;>simp
  omega
 have hld:(Us a).length<=a.length+1:=by
  rw[Us];split
  .have:=(List.dropWhile_suffix (fun c=>!(c==47)) (l:=Tn a)).length_le;have h2:(Tn a).length<=a.length:=by rw[Tn];split<;>simp
   simp;omega
  .simp
 have hX:Uf (Tw a)=true->Uf (Us a)=true->(Us a==[48])=false->So (Tw a)=Tw a->So (Us a)=Us a->∃N D,0 < D/\Tw a=Zg N/\Us a=Zg D/\N=Yr (Tw a)/\D=Yr (Us a):=by
  intro h1 h2 h3 h4 h5;rw[Zeo]at h1 h2;refine⟨Yr (Tw a),Yr (Us a),?_,by rw[<- Ux h1.1 h1.2,h4],by rw[<- Ux h2.1 h2.2,h5],rfl,rfl⟩;rcases Nat.eq_zero_or_pos (Yr (Us a)) with hz | hz
  .have:=Ux h2.1 h2.2;rw[h5,hz,V3]at this;rw[this]at h3;simp at h3
  .exact hz
 have Zaf7:=Z00 (Tw a) (by omega);have Zaf6:=Z00 (Us a) (by omega);have Zaf5:=Zc4 (Tw a) (by omega);have Zaf4:=Zc4 (Us a) (by omega);have hP:Zah a=if Zae a then .tuple [.agg [.bool (Zal a),.str (Tw a),.str (Us a)],.bool true] else .tuple [.agg [.bool false,.str [],.str []],.bool false]:=rfl
 have hRB:Zae a=(Uf (Tw a)&&Uf (Us a)&&!(Us a==[48])&&(So (Tw a)==Tw a)&&(So (Us a)==Us a)&&((Rt.mk' (Zal a) (Yr (Tw a)) (Yr (Us a))).text==a)):=rfl;rw[hP];clear hbl hP hs hsl;replace hX:=Hide.mk hX;replace hRB:=Hide.mk hRB;generalize Zal a=sg at *;generalize hnum:Tw a=num at *;generalize hden:Us a=den at *
 (refine Zkw ?_;((try simp(disch:=first|exact Zq|fail)[*,Zz]);repeat'(first|refine Z8 ?_|refine Z9 ?_|refine Z0 ?_|refine Z1 fun _=>?_|refine Z2 fun _ _=>?_|refine Z3 (fun _=>?_) fun _ _=>?_|refine Z4 fun _=>?_|refine Z5 fun _=>?_|refine Z6 (fun _=>?_) fun _=>?_|refine Z7 (fun _=>?_) fun _=>?_)<;>(try simp(disch:=first|exact Zq|fail)[*,Zz]));all_goals try refine Zky ?_)
 by_cases Zj6:Uf num=true/\Uf den=true/\(den==[48])=false/\So num=num/\So den=den
 .obtain ⟨g1,g2,g3,g4,g5⟩:=Zj6;obtain⟨N,D,hD,e1,e2,e3,e4⟩:=hX.get g1 g2 g3 g4 g5;have hNl:(Zg N).length<=2^20:=by rw[<- e1];omega
  have hDl:(Zg D).length<=2^20:=by rw[<- e2];omega
  have h167:=Zsg sg N D hD hNl hDl
  have h168:=Zsf (Rt.mk' sg N D) (by
   have:(Rt.mk' sg N D).num<=N:=Nat.div_le_self _ _;have:=Wo this;omega) (by
   have:(Rt.mk' sg N D).den<=D:=Nat.div_le_self _ _;have:=Wo this;omega)
  have hrb:Zae a=((Rt.mk' sg N D).text==a):=by
   rw[hRB.get,g1,g2,g3,g4,g5,<- e3,<- e4];simp
  replace hrb:=Hide.mk hrb;subst e1;subst e2;clear e3 e4 hX hRB
  (refine Zm ?_;repeat'(first|(refine Zi fun _=>?_;try simp(disch:=first|exact Zq|fail)[*,Zz,Zaf7,Zaf6,Zaf5,Zaf4])|refine Yb ?_|refine Yc ?_|refine Yd ?_|refine Zt ?_|refine Zf ?_|refine Zb ?_ ?_))
  all_goals (rw[hrb.get];simp[*])
 . (refine Zm ?_;repeat'(first|(refine Zi fun _=>?_;try simp(disch:=first|exact Zq|fail)[*,Zz,Zaf7,Zaf6,Zaf5,Zaf4])|refine Yb ?_|refine Yc ?_|refine Yd ?_|refine Zt ?_|refine Zf ?_|refine Zb ?_ ?_))
   all_goals first
    | (exfalso;exact Zj6 ⟨by assumption,by assumption,by assumption,by assumption,by assumption⟩)
    | (rw[hRB.get];simp[*];done)
    |trace_state
theorem Zlc {n c:Nat}(hc:c < 48\/57 < c):c∉Zg n:=fun h=>by
 have:=Yv.1 (Wt n) c h;omega
theorem Zlq (n:Nat):So (Zg n)=Zg n:=by rw[Ux (Wt n) (Zbi n),Xt]
theorem Zif (n:Nat):Uf (Zg n)=true:=by rw[Zeo];exact⟨Wt n,Zbi n⟩
theorem Z11 {r:Rt}(h:r.Ok):Rt.mk' r.neg r.num r.den=r:=by
 unfold Rt.mk';rw[h.low,Nat.div_one,Nat.div_one]
 have:(r.neg&&!(r.num==0))=r.neg:=by
  cases hn:r.neg with
  |false=>rfl
  |true=>have:=h.sign hn;simp[this]
 rw[this]
theorem Zxl (neg:Bool)(n:Nat){d:Nat}(hd:0 < d):(Rt.mk' neg n d).Ok where
 den:=Nat.div_pos (Nat.gcd_le_right n hd) (Nat.gcd_pos_of_pos_right n hd)
 low:=Nat.coprime_div_gcd_div_gcd (Nat.gcd_pos_of_pos_right n hd)
 sign:=by
  intro h;simp only[Rt.mk',Bool.and_eq_true,Bool.not_eq_true',beq_eq_false_iff_ne]at h;exact Nat.div_gcd_ne_zero' (by omega)
theorem T6 (r:Rt):Tn r.text=Zg r.num++(if r.den=1 then [] else 47::Zg r.den)/\Zal r.text=r.neg:=by
 obtain⟨c,t,hc⟩:∃c t,Zg r.num=c::t:=by
  cases h:Zg r.num with
  |nil=>exact absurd h (Zbi _)
  |cons c t=>exact⟨c,t,rfl⟩
 have h45:c≠45:=fun e=>Zlc (n:=r.num) (c:=45) (by omega) (by rw[hc,e];simp)
 cases hn:r.neg with
 |true=>simp[Tn,Zal,Rt.text,hn]
 |false=>simp[Tn,Zal,Rt.text,hn,hc,h45]
theorem Zls (r:Rt):Tw r.text=Zg r.num:=by
 rw[Tw,(T6 r).1]
 have hno:∀x∈Zg r.num,(!(x==47))=true:=fun x hx=>by
  have:x≠47:=fun e=>Zlc (n:=r.num) (c:=47) (by omega) (e ▸ hx)
  simpa using this
 rw[List.takeWhile_append_of_pos hno];split<;>simp
theorem Zlt {r:Rt}:Us r.text=Zg r.den:=by
 rw[Us,(T6 r).1]
 have hno:∀x∈Zg r.num,(!(x==47))=true:=fun x hx=>by
  have:x≠47:=fun e=>Zlc (n:=r.num) (c:=47) (by omega) (e ▸ hx)
  simpa using this
 by_cases hd:r.den=1
 .rw [if_pos hd,if_neg,hd,Zie];simp;exact Zlc (by omega)
 .rw [if_neg hd,if_pos (by simp),List.dropWhile_append_of_pos hno];simp
theorem Zbw {r:Rt}(h:r.Ok):Zae r.text=true:=by
 unfold Zae;rw[Zls,Zlt,(T6 r).2,Xt,Xt,Z11 h,Zif,Zif,Zlq,Zlq]
 have:(Zg r.den==[48])=false:=by
  rw[beq_eq_false_iff_ne];intro e;have:=Tg.1 e;have:=h.den;omega
 rw[this];simp
def Zbp (a:Yt):Rt:=⟨Zal a,Yr (Tw a),Yr (Us a)⟩
theorem Rl (r:Rt):Zbp r.text=r:=by
 unfold Zbp;rw[Zls,Zlt,(T6 r).2,Xt,Xt]
theorem Zhd {a:Yt}(h:Zae a=true):(Zbp a).Ok/\a=(Zbp a).text/\Tw a=Zg (Zbp a).num/\Us a=Zg (Zbp a).den:=by
 have h':=h;unfold Zae at h;simp only[Bool.and_eq_true,Bool.not_eq_true',beq_iff_eq,beq_eq_false_iff_ne]at h;obtain⟨⟨⟨⟨⟨h1,h2⟩,h3⟩,h4⟩,h5⟩,h6⟩:=h;rw[Zeo]at h1 h2;have hn:=Ux h1.1 h1.2;have hd:=Ux h2.1 h2.2;rw[h4]at hn;rw[h5]at hd
 have Si:0 < Yr (Us a):=by
  rcases Nat.eq_zero_or_pos (Yr (Us a)) with hz | hz
  .rw [hz,V3]at hd;exact absurd hd h3
  .exact hz
 have e:Zbp a=Rt.mk' (Zal a) (Yr (Tw a)) (Yr (Us a)):=by
  conv=>lhs;rw[<- h6]
  exact Rl _
 refine⟨by rw[e];exact Zxl _ _ Si,by rw[e,h6],hn,hd⟩
theorem Ztm {r s:Rt}(h:r.text=s.text):r=s:=by rw[<- Rl r,h,Rl]
theorem Z5f {r:Rt}(h:r.Ok):Zah r.text=.tuple [encR r,.bool true]:=by
 rw[Zah,if_pos (Zbw h),Zls,Zlt,(T6 r).2]
theorem Ziy {a:Yt}(h:Zae a=false):Zah a=.tuple [.agg [.bool false,.str [],.str []],.bool false]:=by
 rw[Zah,h];rfl
theorem Zik {r:Rt}(h:r.Ok)(hl:r.text.length<=2^19):Xw vE 144 [.str r.text] (.tuple [encR r,.bool true]):=by
 have:=Zlg r.text hl
 rwa [Z5f h]at this
def Zdv (a:Yt):Int:=if Zae a=false\/(Zbp a).num=0 then 0 else if (Zbp a).neg then -1 else 1
def Ui (a:Yt):Bool:=Zae a&&((Zbp a).den==1)
theorem Z06 (a:Yt)(ha:a.length<=2^19):Xw vE 123 [.str a] (.bool (Zae a)):=by
 have Zfm:=Zlg a ha;intro K H;refine Zd (fn:=Tryz.f123) rfl Tryz.func123 rfl rfl (by simp) (by simp) ?_ (by simp[*]);by_cases h:Zae a=true
 .rw [Zah,if_pos h]at Zfm
  (refine Zm ?_;repeat'(first|(refine Zi fun _=>?_;try simp(disch:=first|exact Zq|fail)[*,Zz,Tryz.f123,Zfm])|refine Yb ?_|refine Yc ?_|refine Yd ?_|refine Zt ?_|refine Zf ?_|refine Zb ?_ ?_))
 .simp only [Bool.not_eq_true]at h;rw[Ziy h]at Zfm
  (refine Zm ?_;repeat'(first|(refine Zi fun _=>?_;try simp(disch:=first|exact Zq|fail)[*,Zz,Tryz.f123,Zfm])|refine Yb ?_|refine Yc ?_|refine Yd ?_|refine Zt ?_|refine Zf ?_|refine Zb ?_ ?_))
theorem Zc5 (a:Yt)(ha:a.length<=2^19):Xw vE 122 [.str a] (.bool (Ui a)):=by
 have Zfm:=Zlg a ha;intro K H;refine Zd (fn:=Tryz.f122) rfl Tryz.func122 rfl rfl (by simp) (by simp) ?_ (by simp[*]);by_cases h:Zae a=true
 .have hd:=(Zhd h).2.2.2;rw[Zah,if_pos h,hd]at Zfm
  (refine Zm ?_;repeat'(first|(refine Zi fun _=>?_;try simp(disch:=first|exact Zq|fail)[*,Zz,Tryz.f122,Zfm])|refine Yb ?_|refine Yc ?_|refine Yd ?_|refine Zt ?_|refine Zf ?_|refine Zb ?_ ?_))
  rw[Ui,h,Bool.eq_iff_iff];simp[Zkg]
 .simp only [Bool.not_eq_true]at h;rw[Ziy h]at Zfm
  (refine Zm ?_;repeat'(first|(refine Zi fun _=>?_;try simp(disch:=first|exact Zq|fail)[*,Zz,Tryz.f122,Zfm])|refine Yb ?_|refine Yc ?_|refine Yd ?_|refine Zt ?_|refine Zf ?_|refine Zb ?_ ?_))
  simp[Ui,h]
theorem Zad8 (a:Yt)(ha:a.length<=2^19):Xw vE 145 [.str a] (.int .i64 (Zdv a)):=by
 have Zfm:=Zlg a ha;intro K H;refine Zd (fn:=Tryz.f145) rfl Tryz.func145 rfl rfl (by simp) (by simp) ?_ (by simp[*]);by_cases h:Zae a=true
 .have hd:=(Zhd h).2.2.1;rw[Zah,if_pos h,hd]at Zfm
  (refine Zm ?_;repeat'(first|(refine Zi fun _=>?_;try simp(disch:=first|exact Zq|fail)[*,Zz,Tryz.f145,Zfm])|refine Yb ?_|refine Yc ?_|refine Yd ?_|refine Zt ?_|refine Zf ?_|refine Zb ?_ ?_))
  .rename_i e;rw[Zdv,if_pos (Or.inr (Tg.1 e))]
  .rename_i _ e h45;have hn:(Zbp a).neg=true:=by simp[Zbp,Zal,h45]
   rw[Zdv,if_neg (by rw[h];rintro (hh | hh);cases hh;exact e (Tg.2 hh)),if_pos hn]
  .rename_i _ e h45;have hn:(Zbp a).neg=false:=by simp[Zbp,Zal,h45]
   rw[Zdv,if_neg (by rw[h];rintro (hh | hh);cases hh;exact e (Tg.2 hh)),hn];rfl
 .simp only [Bool.not_eq_true]at h;rw[Ziy h]at Zfm
  (refine Zm ?_;repeat'(first|(refine Zi fun _=>?_;try simp(disch:=first|exact Zq|fail)[*,Zz,Tryz.f145,Zfm])|refine Yb ?_|refine Yc ?_|refine Yd ?_|refine Zt ?_|refine Zf ?_|refine Zb ?_ ?_))
  all_goals simp[Zdv,h]
def Rt.mul (r s:Rt):Rt:=Rt.mk' (!(r.neg==s.neg)) (r.num*s.num) (r.den*s.den)
def Rt.div (r s:Rt):Rt:=Rt.mk' (!(r.neg==s.neg)) (r.num*s.den) (r.den*s.num)
def Rt.int (n:Int):Rt:=⟨decide (n < 0),n.natAbs,1⟩
theorem Zd8 (n:Int):(Rt.int n).text=Zb8 n:=by
 unfold Rt.int Rt.text Zb8;by_cases h:n < 0<;>simp[h]
theorem Zxr (n:Int):(Rt.int n).Ok:=⟨by simp[Rt.int],by simp[Rt.int],by simp[Rt.int];omega⟩
theorem Vq (a b:Nat):(Zg (a*b)).length<=(Zg a).length+(Zg b).length:=by
 have h1:=Wf a;have h2:=Wf b;have h3:=Ue a;refine Qe (by omega) ?_;rw[Nat.pow_add];exact Nat.mul_lt_mul'' h1 h2
theorem Vx (r:Rt):(Zg r.num).length<=r.text.length/\(Zg r.den).length<=r.text.length:=by
 unfold Rt.text;have:=Ue r.num;constructor
 .simp;omega
 .by_cases h:r.den=1
  .rw [h,Zie];simp;omega
  .simp [h];omega
theorem Zk2 (neg:Bool)(n d:Nat):(Zg (Rt.mk' neg n d).num).length<=(Zg n).length/\(Zg (Rt.mk' neg n d).den).length<=(Zg d).length:=
 ⟨Wo (Nat.div_le_self _ _),Wo (Nat.div_le_self _ _)⟩
theorem Zzc (r:Rt):r.text.length<=(Zg r.num).length+(Zg r.den).length+2:=by
 unfold Rt.text;cases r.neg<;>by_cases h:r.den=1<;>simp[h]<;>omega
theorem Zad7 {r s:Rt}(h:r.Ok)(k:s.Ok)(hl:r.text.length<=2^19)(kl:s.text.length<=2^19):Xw vE 150 [.str r.text,.str s.text] (.str (r.mul s).text):=by
 have Zfm:=Zik h hl;have k144:=Zik k kl;have h1:=Vx r;have k1:=Vx s;have m1:=Vq r.num s.num;have m2:=Vq r.den s.den;have a1:=Zlf r.num s.num (by omega) (by omega);have a2:=Zlf r.den s.den (by omega) (by omega);have hd:0 < r.den*s.den:=Nat.mul_pos h.den k.den;have a3:=fun b=>Zsg b (r.num*s.num) (r.den*s.den) hd (by omega) (by omega)
 have ml:=Zk2 (!(r.neg==s.neg)) (r.num*s.num) (r.den*s.den);have a4:=Zsf (Rt.mk' (!(r.neg==s.neg)) (r.num*s.num) (r.den*s.den)) (by show (Zg (Rt.mk' _ _ _).num).length<=_;omega) (by show (Zg (Rt.mk' _ _ _).den).length<=_;omega);clear h1 k1 m1 m2 hd ml hl kl h k;intro K H;refine Zd (fn:=Tryz.f150) rfl Tryz.func150 rfl rfl (by simp) (by simp) ?_ (by simp[*])
 (refine Zm ?_;repeat'(first|(refine Zi fun _=>?_;try simp(disch:=first|exact Zq|fail)[*,Zz,Tryz.f150])|refine Yb ?_|refine Yc ?_|refine Yd ?_|refine Zt ?_|refine Zf ?_|refine Zb ?_ ?_))
 rfl
theorem Zad1 {r s:Rt}(h:r.Ok)(k:s.Ok)(hl:r.text.length<=2^19)(kl:s.text.length<=2^19)(hs:s.num≠0):Xw vE 164 [.str r.text,.str s.text] (.str (r.div s).text):=by
 have Zfm:=Zik h hl;have k144:=Zik k kl;have h1:=Vx r;have k1:=Vx s;have m1:=Vq r.num s.den;have m2:=Vq r.den s.num;have a1:=Zlf r.num s.den (by omega) (by omega);have a2:=Zlf r.den s.num (by omega) (by omega);have hd:0 < r.den*s.num:=Nat.mul_pos h.den (by omega);have a3:=fun b=>Zsg b (r.num*s.den) (r.den*s.num) hd (by omega) (by omega)
 have ml:=Zk2 (!(r.neg==s.neg)) (r.num*s.den) (r.den*s.num);have a4:=Zsf (Rt.mk' (!(r.neg==s.neg)) (r.num*s.den) (r.den*s.num)) (by show (Zg (Rt.mk' _ _ _).num).length<=_;omega) (by show (Zg (Rt.mk' _ _ _).den).length<=_;omega);have hs':¬ Zg s.num=[48]:=fun e=>hs (Tg.1 e)
 clear h1 k1 m1 m2 hd ml hl kl h k;intro K H;refine Zd (fn:=Tryz.f164) rfl Tryz.func164 rfl rfl (by simp) (by simp) ?_ (by simp[*])
 (refine Zm ?_;repeat'(first|(refine Zi fun _=>?_;try simp(disch:=first|exact Zq|fail)[*,Zz,Tryz.f164])|refine Yb ?_|refine Yc ?_|refine Yd ?_|refine Zt ?_|refine Zf ?_|refine Zb ?_ ?_))
 .rename_i e;exact absurd e hs'
 .rfl
end Go.Proofs.YtabcdhcpilpojaaGreatDoor
end
