/- Functions on names, each once. -/
import Derived.Test.YtabcdhcpilpojaaGreatDoorTm
import Derived.Lib.Bytealg
import Derived.Test.YtabcdhcpilpojaaGreatDoorPD
set_option linter.unusedSimpArgs false
set_option linter.unusedVariables false
section
set_option maxRecDepth 20000
namespace Go.Proofs.YtabcdhcpilpojaaGreatDoor
open Go Go.Pure
open Go.Virt (Ex Ctx Ty TK)
abbrev Y9:=List Nat
def Z4j (f:Nat):List Value->Option Value
 | [.string b,.int .u8 c]=>if Nat.beq f 230 then some (.int .i64 (Lib.indexByte b.data.toList c.toNat.toUInt8)) else none
 | _=>none
noncomputable def vE:Ctx:={vC with ext:=fun f a=>if Nat.beq f 19&&a.isEmpty then some (.bool true) else Z4j f a}
@[simp] theorem vE_T (t:Nat):vE.T t=vC.T t:=by simp only[vE]
@[simp] theorem Zavb (f:Nat):vE.raw f=vRaw f:=rfl
theorem Zaim (a b:Nat):Nat.beq a b=(a==b):=by rw[Bool.eq_iff_iff];simp
attribute [simp] vRaw Zaim
theorem Zal8:Xq vE 19 [] (.bool true):=by
 intro K H;rw[Zis];rfl
def Zhz (c:Nat):Bool:=(decide (97<=c)&&decide (c<=122))||(decide (65<=c)&&decide (c<=90))
theorem Zalu (c:Nat):Xq vE 88 [.int .u8 c] (.bool (Zhz c)):=by
 intro K H;refine Wc Tryz.func88 ?_
 (refine Zm ?_;repeat'(first|(refine Zi fun _=>?_;try simp(disch:=first|exact Zq|fail)[*,Yb,Tryz.f88])|refine Ye ?_|refine Zx ?_|refine Zn ?_ ?_))
 all_goals (rw[Bool.eq_iff_iff];simp[Zhz];omega)
theorem Zai7 (b:Bool)(xs:List Y9)(s:Y9)(hn:xs.length < 2^62):Xq vE 84 [L 9 b (xs.map .str),.str s] (.bool (decide (s∈xs))):=by
 intro K H;refine Wc Tryz.func84 ?_
 (refine Zm ?_;repeat'(first|(refine Zi fun _=>?_;try simp(disch:=first|exact Zq|fail)[*,Yb,Tryz.f84])|refine Ye ?_|refine Zx ?_|refine Zn ?_ ?_))
 refine Zv [0,1] (fun n sl h=>∃i:Nat,n=xs.length - i/\i<=xs.length/\sl 5=some (.int .i64 i)/\∀j (hj:j < xs.length),j < i->xs[j]≠s) xs.length rfl ⟨0,by simp⟩ ?_;rintro n sl h hf ⟨i,hn',hi,h5,hd⟩;simp at hf;replace hd:=Hide.mk hd;by_cases hlt:i < xs.length
 . (refine Zm ?_;repeat'(first|(refine Zi fun _=>?_;try simp(disch:=first|exact Zq|fail)[*,Yb])|refine Ye ?_|refine Zx ?_|refine Zn ?_ ?_))
   .rename_i e;subst e;exact List.getElem_mem hlt
   .rename_i e;refine⟨_,by omega,i+1,rfl,by omega,rfl,fun j hj hji=>?_⟩;by_cases e':j=i
    .subst e';exact e
    .exact hd.get j hj (by omega)
 . (refine Zm ?_;repeat'(first|(refine Zi fun _=>?_;try simp(disch:=first|exact Zq|fail)[*,Yb])|refine Ye ?_|refine Zx ?_|refine Zn ?_ ?_))
   intro hm;obtain⟨j,hj,e⟩:=List.getElem_of_mem hm;exact hd.get j hj (by omega) e
theorem Zalx (xs:List Y9)(s:Y9)(hn:xs.length < 2^62):Xq vE 84 [.lst 9 (xs.map .str),.str s] (.bool (decide (s∈xs))):=Zai7 false xs s hn
def Sd:List Y9:=[[97,110,100],[111,114],[110,111,116],[105,116,101],[116,114,117,101],[102,97,108,115,101],[108,101,116],[102,111,114,97,108,108],[101,120,105,115,116,115],[100,105,115,116,105,110,99,116],[100,105,118],[109,111,100],[115,101,108,101,99,116],[115,116,111,114,101],[99,111,110,115,116],[66,111,111,108],[73,110,116],[82,101,97,108],[65,114,114,97,121]]
theorem Zalv:Xq vE 87 [] (.lst 9 (Sd.map .str)):=by
 intro K H;refine Wc Tryz.func87 ?_;simp[Tryz.f87,Zmz];rfl
def Zj1 (c:Nat):Bool:=Zhz c||c==95||c==36||c==33
def okR (z:Bool)(c:Nat):Bool:=Zj1 c||(!z&&((decide (48<=c)&&decide (c<=57))||c==46||c==64))
def Zhn:Nat->Y9->Bool
 | _,[]=>true
 |k,c::r=>okR (k==0) c&&Zhn (k+1) r
def R8 (s:Y9):Bool:=!(s==[])&&decide (s.length<=40)&&!decide (s∈Sd)&&Zhn 0 s
theorem Z0n {k c:Nat}:okR (k==0) c=true↔Zhz c=true\/c=95\/c=36\/c=33\/(k≠0/\((48<=c/\c<=57)\/c=46\/c=64)):=by
 simp[okR,Zj1];constructor
 .rintro ((((h | h) | h) | h) | h)<;>simp[h];rcases h.2 with (h | h) | h<;>simp[h]
 .rintro (h | h | h | h | ⟨h,h' | h' | h'⟩)<;>simp[*]
theorem Zpv (s:Y9)(i:Nat)(h:i < s.length):Zhn i (s.drop i)=(okR (i==0) s[i]&&Zhn (i+1) (s.drop (i+1))):=by
 rw[List.drop_eq_getElem_cons h];rfl
theorem Zal7 (s:Y9)(hn:s.length < 2^62):Xq vE 30 [.str s] (.bool (R8 s)):=by
 intro K H;refine Wc Tryz.func30 ?_;have h84:∀s,Xq vE 84 [.lst 9 (Sd.map .str),.str s] (.bool (decide (s∈Sd))):=fun s=>Zalx Sd s (by decide)
 (refine Zm ?_;repeat'(first|(refine Zi fun _=>?_;try simp(disch:=first|exact Zq|fail)[*,Yb,Tryz.f30,Zalv,h84])|refine Ye ?_|refine Zx ?_|refine Zn ?_ ?_))
 .simp [R8, *]
 .rename_i h;have:¬ s.length<=40:=by omega
  simp[R8,this]
 .simp [R8, *]
 rename_i Yp hle hnr;clear h84;refine Zv [0] (fun n sl h=>∃i:Nat,n=s.length - i/\i<=s.length/\sl 3=some (.int .i64 i)/\Zhn 0 s=Zhn i (s.drop i)) s.length rfl ⟨0,by simp⟩ ?_;rintro n sl h hf ⟨i,hn',hi,h3,hs⟩;simp at hf;have hle':s.length<=40:=by omega
 have hne':s≠[]:=by (first|done|omega|(simp at *;done)|(simp at *;omega)|(simp at *;rw[Bool.eq_iff_iff];simp;omega))
 have Znf:R8 s=Zhn i (s.drop i):=by simp[R8,hle',hne',hnr,hs]
 replace hs:=Hide.mk hs;clear Yp hnr;by_cases hlt:i < s.length
 .rw [Zpv s i hlt]at Znf;rw[Znf];have Xr:okR (i==0) s[i]=true->(∃m,m < s.length - i/\∃i_1:Nat,m=s.length - i_1/\i_1<=s.length/\(i:Int)+1=i_1/\Zhn 0 s=Zhn i_1 (s.drop i_1)):=fun hk=>⟨s.length - (i+1),by omega,i+1,rfl,by omega,rfl,by rw[hs.get,Zpv s i hlt,hk];rfl⟩
  generalize hP:Zhn (i+1) (s.drop (i+1))=P at *;clear Znf;replace Xr:=Hide.mk Xr
  (refine Zm ?_;repeat'(first|(refine Zi fun _=>?_;try simp(disch:=first|exact Zq|fail)[*,Yb,Zalu])|refine Ye ?_|refine Zx ?_|refine Zn ?_ ?_))
  all_goals first
   | (exfalso;omega)
   | (refine Xr.get ?_
      rw[Z0n]
      first | (left;assumption) | (right;omega))
   | (have hk:¬ okR (i==0) s[i]=true:=by
       rw[Z0n];rintro (hh | hh)
       .simp_all
       .omega
      simp only[Bool.not_eq_true]at hk;simp[hk]
      done)
   |trace_state
 .have:s.drop i=[]:=List.drop_eq_nil_of_le (by omega);rw[this]at Znf
  (refine Zm ?_;repeat'(first|(refine Zi fun _=>?_;try simp(disch:=first|exact Zq|fail)[*,Yb,Znf,Zhn])|refine Ye ?_|refine Zx ?_|refine Zn ?_ ?_))
def Zf (n:Nat):Y9:=if n < 10 then [48+n] else Zf (n / 10)++[48+n % 10]
def Zu8 (v:Int)(n:Nat):Nat:=(IntKind.u64.wrap v).toNat % n
theorem Zrn (v:Int){n:Nat}(h:0 < n):Zu8 v n < n:=Nat.mod_lt _ h
theorem Zaaj (v:Int)(n:Nat)(h0:0 < n)(hn:n < 2^62):Xq vE 27 [.int .i64 v,.int .i64 n] (.int .i64 (Zu8 v n)):=by
 intro K H;refine Wc Tryz.func27 ?_;have h1:IntKind.u64.wrap n=n:=Zpf (by omega) (by omega)
 have h2:(IntKind.u64.wrap v).tmod n=Zu8 v n:=by
  have:=@Z50 v;rw[Int.tmod_eq_emod_of_nonneg this.1];unfold Zu8;rw[Int.natCast_emod,Int.toNat_of_nonneg this.1]
 have h3:IntKind.i64.wrap (Zu8 v n)=Zu8 v n:=Zto (by omega) (by have:=Zrn v h0;omega);have h4:n≠0:=by omega
 (refine Zm ?_;repeat'(first|(refine Zi fun _=>?_;try simp(disch:=first|exact Zq|fail)[*,Yb,Tryz.f27,h1,h2,h3])|refine Ye ?_|refine Zx ?_|refine Zn ?_ ?_))
def Zca (n:Int):Y9:=if n < 0 then 45::Zf n.natAbs else Zf n.natAbs
theorem Z4q {N m:Nat}{s:Y9}(h1:s=[]->m=N)(h3:s=[]\/if m=0 then s=Zf N else Zf N=Zf m++s)(h:m≠0\/s=[]):
  if m / 10=0 then (48+m % 10)::s=Zf N else Zf N=Zf (m / 10)++(48+m % 10)::s:=by
 have hd:Zf N=Zf m++s:=by
  rcases h3 with h3 | h3
  .rw [h3,h1 h3];simp
  .by_cases hm:m=0
   .rcases h with h | h
    .exact absurd hm h
    .rw [h,h1 h];simp
   .simpa [hm]using h3
 split
 .rename_i hz;rw[hd,Zf,if_pos (by omega),Nat.mod_eq_of_lt (by omega)];rfl
 .rename_i hz;rw[hd]
  conv=>lhs;rw[Zf]
  rw[if_neg (by omega),List.append_assoc];rfl
theorem Rz (n:Int)(hn1 : -4611686018427387904 < n)(hn2:n < 4611686018427387904):Xq vE 38 [.int .i64 n] (.str (Zca n)):=by
 intro K H;refine Wc Tryz.func38 ?_
 (refine Zm ?_;repeat'(first|(refine Zi fun _=>?_;try simp(disch:=first|exact Zq|fail)[*,Yb,Tryz.f38])|refine Ye ?_|refine Zx ?_|refine Zn ?_ ?_))
 refine Zv [0] (fun q sl h=>∃(m:Nat) (s:Y9),q=m+(if s=[] then 1 else 0)/\(s=[]->m=n.natAbs)/\m<=n.natAbs/\s.length+m < 2^62/\(s=[]\/(if m=0 then s=Zf n.natAbs else Zf n.natAbs=Zf m++s))/\sl 4=some (.int .i64 (if n < 0 then -(m:Int) else m))/\sl 3=some (.str s)) (n.natAbs+1) rfl ⟨n.natAbs,[],by simp,by simp,by simp,by simp;omega,by simp,?_,by simp⟩ ?_
 .simp;omega
 rintro q sl h hf ⟨m,s,hm,h1,h2,hb,h3,h4,h5⟩;simp at hf
 have hq:((if n < 0 then -(m:Int) else m)).tmod 10=(if n < 0 then -((m % 10:Nat):Int) else ((m % 10:Nat):Int)):=by
  split
  .rw [Int.neg_tmod,Int.tmod_eq_emod_of_nonneg (by omega)];omega
  .rw [Int.tmod_eq_emod_of_nonneg (by omega)];omega
 have hq4:((if n < 0 then -(m:Int) else m)).tdiv 10=(if n < 0 then -((m / 10:Nat):Int) else ((m / 10:Nat):Int)):=by
  split
  .rw [Int.neg_tdiv,Int.tdiv_eq_ediv_of_nonneg (by omega)];omega
  .rw [Int.tdiv_eq_ediv_of_nonneg (by omega)];omega
 have Zaqw:(m≠0\/s=[])->(m / 10 < m+if s=[] then 1 else 0)/\(s.length+1)+m / 10 < 4611686018427387904/\(if m / 10=0 then (48+m % 10)::s=Zf n.natAbs else Zf n.natAbs=Zf (m / 10)++(48+m % 10)::s):=fun hh=>by
  refine⟨?_,?_,Z4q h1 h3 hh⟩
  .split
   .omega
   .rcases hh with hh | hh
    .omega
    .contradiction
  .rcases hh with hh | hh
   .omega
   .subst hh;simp at hb ⊢;omega
 generalize hv:(if n < 0 then -(m:Int) else m)=v at *;by_cases hneg:n < 0
 all_goals (
  simp only[hneg,if_true,if_false]at hv hq hq4
  (refine Zm ?_;repeat'(first|(refine Zi fun _=>?_;try simp(disch:=first|exact Zq|fail)[*,Yb,hq,hq4, -Int.natCast_emod, -Int.natCast_ediv])|refine Ye ?_|refine Zx ?_|refine Zn ?_ ?_))
  all_goals first
   | (obtain⟨F1,F2,F3⟩:=Zaqw (by first | (left;omega) | (right;simp_all;done))
      refine⟨m / 10,F1,m / 10,(48+m % 10)::s,by simp,by simp,by omega,by simpa using F2,Or.inr F3,by omega,by congr 1;omega⟩)
   | (have hs0:s≠[]:=by simp_all
      have hm0:m=0:=by omega
      rcases h3 with h3 | h3
      .exact absurd h3 hs0
      .rw [if_pos hm0]at h3;simp[Zca,hneg,h3])
   | (exfalso;omega)
   |trace_state)
theorem Z19 (c:Nat):Xq vE 126 [.int .u8 c] (.bool (Zj1 c)):=by
 intro K H;refine Wc Tryz.func126 ?_
 (refine Zm ?_;repeat'(first|(refine Zi fun _=>?_;try simp(disch:=first|exact Zq|fail)[*,Yb,Tryz.f126])|refine Ye ?_|refine Zx ?_|refine Zn ?_ ?_))
 all_goals (rw[Bool.eq_iff_iff];simp[Zj1,Zhz];omega)
theorem Zaft (s:Y9):Xq vE 127 [.str s] (.bool (decide (s∈Sd))):=by
 intro K H;refine Wc Tryz.func127 ?_
 (refine Zm ?_;repeat'(first|(refine Zi fun _=>?_;try simp(disch:=first|exact Zq|fail)[*,Yb,Tryz.f127])|refine Ye ?_|refine Zx ?_|refine Zn ?_ ?_))
 all_goals simp_all[Sd]
theorem Z0o {c:Nat}:okR false c=true↔Zj1 c=true\/(48<=c/\c<=57)\/c=46\/c=64:=by
 simp[okR,or_assoc]
theorem Z6y (s:Y9)(k:Nat):Zhn (k+1) s=s.all (okR false):=by
 induction s generalizing k with
 |nil=>rfl
 |cons c s ih=>simp[Zhn,ih]
theorem Z23 (s:Y9):R8 s=true↔∃c r,s=c::r/\s.length<=40/\s∉Sd/\Zj1 c=true/\∀d∈s,okR false d=true:=by
 cases s with
 |nil=>simp[R8]
 |cons c r=>
  simp[R8,Zhn,Z6y,okR,and_assoc]
  intros
  left;assumption
theorem Zalw (s:Y9)(hn:s.length < 2^62):Xq vE 85 [.str s] (.bool (R8 s)):=by
 intro K H;refine Wc Tryz.func85 ?_;cases s with
 |nil=>(refine Zm ?_;repeat'(first|(refine Zi fun _=>?_;try simp(disch:=first|exact Zq|fail)[*,Yb,Tryz.f85,R8])|refine Ye ?_|refine Zx ?_|refine Zn ?_ ?_))
 |cons c0 s0=>
 have hn':s0.length+1 < 2^62:=hn
 have hno:∀ {P:Prop},(R8 (c0::s0)=true->P)->¬ P->R8 (c0::s0)=false:=fun h1 h2=>by
  cases hh:R8 (c0::s0) with
  |true=>exact absurd (h1 hh) h2
  |false=>rfl
 have hi:=Z23 (c0::s0);have hl:0 < (c0::s0).length:=by simp
 have h0:(c0::s0)[0]'hl=c0:=rfl;replace hi:=Hide.mk hi;replace hno:=Hide.mk @hno;have hS:∀c r,c0::s0=c::r->c=c0:=fun c r e=>by cases e;rfl
 have hE:(c0::s0).isEmpty=false:=rfl;generalize c0::s0=S at *;replace hS:=Hide.mk hS
 have Zar:∀(j:Nat) (hj:j < S.length),okR false S[j]=false->R8 S=false:=fun j hj h=>
  hno.get (fun h1=>(hi.get.1 h1)) (by rintro⟨c,r,_,_,_,_,h5⟩;rw[h5 _ (List.getElem_mem hj)]at h;cases h)
 replace Zar:=Hide.mk Zar
 (refine Zm ?_;repeat'(first|(refine Zi fun _=>?_;try simp(disch:=first|exact Zq|fail)[*,Yb,Tryz.f85,Z19,Zaft])|refine Ye ?_|refine Zx ?_|refine Zn ?_ ?_))
 .exact hno.get (fun h1=>(hi.get.1 h1)) (by rintro⟨c,r,_,h2,_⟩;omega)
 .rename_i h1 h2 h3;exact hno.get (fun h1=>(hi.get.1 h1)) (by rintro⟨c,r,_,_,h4,_⟩;exact h4 h3)
 rotate_left 1
 .rename_i h1 h2;exact hno.get (fun h1=>(hi.get.1 h1)) (by rintro⟨c,r,e,_,_,h5,_⟩;rw[hS.get c r e,h2]at h5;cases h5)
 rename_i h1 h2 h3;refine Zv [0,23] (fun n sl h=>∃i:Nat,n=S.length - i/\i<=S.length/\sl 24=some (.int .i64 i)/\∀j (hj:j < S.length),j < i->okR false S[j]=true) S.length rfl ⟨0,by simp⟩ ?_;rintro n sl h hf ⟨i,hn',hi',h24,hd⟩;simp at hf;replace hd:=Hide.mk hd;by_cases hlt:i < S.length
 . (refine Zm ?_;repeat'(first|(refine Zi fun _=>?_;try simp(disch:=first|exact Zq|fail)[*,Yb,Z19])|refine Ye ?_|refine Zx ?_|refine Zn ?_ ?_))
   all_goals first
    | (exfalso;omega)
    | (refine⟨_,by omega,i+1,rfl,by omega,rfl,fun j hj hji=>?_⟩
       by_cases e':j=i
       .subst e';rw[Z0o];first | (left;assumption) | (right;omega)
       .exact hd.get j hj (by omega))
    | (refine Zar.get i hlt ?_
       rw[Bool.eq_false_iff,Ne,Z0o];rintro (hh | hh)
       .simp_all
       .omega)
 . (refine Zm ?_;repeat'(first|(refine Zi fun _=>?_;try simp(disch:=first|exact Zq|fail)[*,Yb])|refine Ye ?_|refine Zx ?_|refine Zn ?_ ?_))
   rw[hi.get]
   obtain⟨c,r,rfl⟩:∃c r,S=c::r:=by
    cases S with
    |nil=>simp at hl
    |cons c r=>exact⟨c,r,rfl⟩
   refine⟨c,r,rfl,by omega,h3,?_,fun d hdm=>?_⟩
   .have:=hS.get c r rfl;rw[this];exact h2
   .obtain ⟨j,hj,rfl⟩:=List.getElem_of_mem hdm;exact hd.get j hj (by omega)
end Go.Proofs.YtabcdhcpilpojaaGreatDoor
end
section
namespace Go.Proofs.YtabcdhcpilpojaaGreatDoor
open Go
def digB (c:Nat):Bool:=decide (48<=c)&&decide (c<=57)
theorem Z9t {c:Nat}:digB c=true↔48<=c/\c<=57:=by simp[digB]
def Rq (s:Y9):Bool:=s.all digB
theorem Yr {s:Y9}:Rq s=true↔∀c∈s,48<=c/\c<=57:=by simp[Rq,Z9t]
def Zk2 (a:Nat)(s:Y9):Nat:=s.foldl (fun a c=>a*10+(c - 48)) a
theorem Uw (a:Nat):Zk2 a []=a:=rfl
theorem Tb (a c:Nat)(r:Y9):Zk2 a (c::r)=Zk2 (a*10+(c - 48)) r:=by simp only[Zk2,List.foldl_cons]
def Yo (s:Y9):Nat:=Zk2 0 s
theorem Ztx (a:Nat)(s t:Y9):Zk2 a (s++t)=Zk2 (Zk2 a s) t:=by
 induction s generalizing a with
 |nil=>rfl
 |cons c s ih=>rw[List.cons_append,Tb,Tb,ih]
theorem Zz7 (a:Nat)(s:Y9):Zk2 a s=a*10^s.length+Yo s:=by
 induction s generalizing a with
 |nil=>simp[Uw,Yo]
 |cons c s ih=>
  rw[Yo,Tb,Tb,ih,ih (0*10+(c - 48)),List.length_cons,Nat.pow_succ];generalize 10^s.length=P;rw[Nat.add_mul,Nat.zero_mul,Nat.zero_add,Nat.mul_assoc,Nat.mul_comm 10];omega
theorem Rk (c:Nat)(s:Y9):Yo (c::s)=(c - 48)*10^s.length+Yo s:=by
 rw[Yo,Tb,Zz7];simp
theorem Zkb (s t:Y9):Yo (s++t)=Yo s*10^t.length+Yo t:=by rw[Yo,Ztx,Zz7];rfl
theorem Ta (s:Y9)(c:Nat):Yo (s++[c])=Yo s*10+(c - 48):=by rw[Zkb];simp[Yo,Uw,Tb]
theorem Zg6 {s:Y9}(h:Rq s=true):Yo s < 10^s.length:=by
 induction s with
 |nil=>simp[Yo,Uw,Tb]
 |cons c s ih=>
  have hc:=(Yr.1 h) c List.mem_cons_self;have hs:Rq s=true:=Yr.2 fun d hd=>Yr.1 h d (List.mem_cons_of_mem _ hd)
  have h1:=ih hs;rw[Rk,List.length_cons,Nat.pow_succ];have h2:(c - 48)*10^s.length<=9*10^s.length:=Nat.mul_le_mul_right _ (by omega);omega
theorem Zbk (n:Nat):Zf n≠[]:=by rw[Zf];split<;>simp
theorem Wu (n:Nat):Rq (Zf n)=true:=by
 induction n using Nat.strongRecOn with
 | _ n ih=>
   rw[Zf];split
   .rw [Yr];intro c hc;simp at hc;omega
   .have:=ih (n / 10) (by omega);rw[Yr]at this ⊢;intro c hc;rcases List.mem_append.1 hc with h | h
    .exact this c h
    .simp at h;omega
theorem Xo (n:Nat):Yo (Zf n)=n:=by
 induction n using Nat.strongRecOn with
 | _ n ih=>
   rw[Zf];split
   .simp [Yo,Uw,Tb]
   .rw [Ta,ih (n / 10) (by omega)];omega
theorem Zer {a b:Nat}(h:Zf a=Zf b):a=b:=by rw[<- Xo a,<- Xo b,h]
theorem Zj5 (n:Nat):n=0\/∃c r,Zf n=c::r/\49<=c/\c<=57:=by
 induction n using Nat.strongRecOn with
 | _ n ih=>
   rcases Nat.eq_zero_or_pos n with h | h
   .exact Or.inl h
   .right;rw[Zf];split
    .exact ⟨48+n,[],rfl,by omega,by omega⟩
    .rcases ih (n / 10) (by omega) with h' | ⟨c,r,h1,h2,h3⟩
     .omega
     .exact ⟨c,r++[48+n % 10],by rw[h1];rfl,h2,h3⟩
theorem V6:Zf 0=[48]:=by rw[Zf,if_pos (by omega)]
theorem Zim:Zf 1=[49]:=by rw[Zf,if_pos (by omega)]
theorem Uh (n:Nat):1<=(Zf n).length:=by
 cases h:Zf n with
 |nil=>exact absurd h (Zbk n)
 |cons c r=>simp
theorem Qe {n k:Nat}(hk:0 < k)(h:n < 10^k):(Zf n).length<=k:=by
 induction k generalizing n with
 |zero=>omega
 |succ k ih=>
  rw[Zf];split
  .simp
  .rcases Nat.eq_zero_or_pos k with rfl | hk'
   .omega
   .rw [Nat.pow_succ]at h;have:=ih hk' (n:=n / 10) (by omega);simp only[List.length_append,List.length_cons,List.length_nil];omega
theorem Wd (n:Nat):n < 10^(Zf n).length:=by
 have:=Zg6 (Wu n)
 rwa [Xo]at this
theorem Wr {a b:Nat}(h:a<=b):(Zf a).length<=(Zf b).length:=by
 rcases Nat.eq_zero_or_pos a with rfl | ha
 .rw [V6];exact Uh b
 .have h1:=Wd b;exact Qe (Uh b) (by omega)
def So:Y9->Y9
 | []=>[]
 | [c]=>[c]
 |c::d::r=>if c=48 then So (d::r) else c::d::r
theorem Zqq {s:Y9}(h:Rq s=true)(Yp:s≠[])(h0:s=[48]\/∀r,s≠48::r):Zf (Yo s)=s:=by
 have key:∀(k:Nat) (s:Y9),s.length=k->Rq s=true->s≠[]->(s=[48]\/∀r,s≠48::r)->Zf (Yo s)=s:=by
  intro k
  induction k with
  |zero=>intro s hl _ Yp _;exact absurd (List.length_eq_zero_iff.1 hl) Yp
  |succ k ih=>
   intro s hl hd Yp h0;rcases List.eq_nil_or_concat s with rfl | ⟨t,c,rfl⟩
   .exact absurd rfl Yp
   .rw [List.concat_eq_append]at *;have hc:=Yr.1 hd c (by simp);have ht:Rq t=true:=Yr.2 fun d hdd=>Yr.1 hd d (List.mem_append_left _ hdd)
    rw[Ta];by_cases htn:t=[]
    .subst htn;simp only[Yo,Uw,Tb,Nat.zero_mul,Nat.zero_add,List.nil_append];rw[Zf,if_pos (by omega)];congr 1;omega
    .have h0t:t=[48]\/∀r,t≠48::r:=by
      right;rintro r rfl;rcases h0 with h0 | h0
      .simp at h0
      .exact h0 (r++[c]) rfl
     have e:=ih t (by simp at hl;omega) ht htn h0t
     have Tz:1<=Yo t:=by
      rcases Nat.eq_zero_or_pos (Yo t) with hz | hz
      .rw [hz,V6]at e;rcases h0t with h0t | h0t
       .subst h0t;rcases h0 with h0 | h0
        .simp at h0
        .exact absurd rfl (h0 [c])
       .exact absurd e.symm (h0t [])
      .exact hz
     rw[Zf,if_neg (by omega)];have e1:(Yo t*10+(c - 48)) / 10=Yo t:=by omega
     have e2:48+(Yo t*10+(c - 48)) % 10=c:=by omega
     rw[e1,e2,e]
 exact key s.length s rfl h Yp h0
theorem Uy {s:Y9}(h:Rq s=true)(Yp:s≠[]):So s=Zf (Yo s):=by
 induction s with
 |nil=>exact absurd rfl Yp
 |cons c s ih=>
  cases s with
  |nil=>
   rw[So];refine (Zqq h Yp ?_).symm;by_cases hc:c=48
   .left;rw[hc]
   .right;rintro r e;cases e;exact hc rfl
  |cons d r=>
   rw[So];split
   .rename_i hc;subst hc;have hs:Rq (d::r)=true:=Yr.2 fun x hx=>Yr.1 h x (List.mem_cons_of_mem _ hx)
    rw[ih hs (by simp),Rk 48];simp
   .rename_i hc;refine (Zqq h Yp ?_).symm;right;rintro r' e;cases e;exact hc rfl
theorem Zab6 {s:Y9}(hs:Rq s=true){i:Nat}(h:i < s.length):s[s.length - 1 - i]'(by omega)=48+Yo s / 10^i % 10:=by
 have key:∀(k:Nat) (s:Y9),s.length=k->Rq s=true->∀(i:Nat) (h:i < s.length),s[s.length - 1 - i]'(by omega)=48+Yo s / 10^i % 10:=by
  intro k
  induction k with
  |zero=>intro s hl _ i h;omega
  |succ k ih=>
   intro s hl hd i h;rcases List.eq_nil_or_concat s with rfl | ⟨t,c,rfl⟩
   .simp at h
   .simp only [List.concat_eq_append]at *;have hc:=Yr.1 hd c (by simp);have ht:Rq t=true:=Yr.2 fun d hdd=>Yr.1 hd d (List.mem_append_left _ hdd)
    have hlt:t.length=k:=by simpa using hl
    rw[Ta];cases i with
    |zero=>
     have:(t++[c])[(t++[c]).length - 1 - 0]'(by omega)=c:=by simp
     rw[this,Nat.pow_zero,Nat.div_one];omega
    |succ i=>
     have hi:i < t.length:=by simp at h;omega
     have e:=ih t hlt ht i hi
     have e1:(t++[c])[(t++[c]).length - 1 - (i+1)]'(by omega)=t[t.length - 1 - i]'(by omega):=by
      rw[List.getElem_append_left (by simp;omega)];congr 1;simp;omega
     have e2:(Yo t*10+(c - 48)) / 10^(i+1)=(Yo t*10+(c - 48)) / 10 / 10^i:=by
      rw[Nat.pow_succ,Nat.mul_comm (10^i),Nat.div_div_eq_div_mul]
     have:(Yo t*10+(c - 48)) / 10=Yo t:=by omega
     rw[e1,e,e2,this]
 exact key s.length s rfl hs i h
theorem Zls {a i:Nat}(h:i < (Zf a).length):(Zf a)[(Zf a).length - 1 - i]'(by omega)=48+a / 10^i % 10:=by
 rw[Zab6 (Wu a) h,Xo]
theorem Zj4 {a i:Nat}(h:(Zf a).length<=i):a / 10^i=0:=by
 have h1:=Wd a;exact Nat.div_eq_of_lt (Nat.lt_of_lt_of_le h1 (Nat.pow_le_pow_right (by omega) h))
theorem Qv {a i:Nat}(h:(Zf a).length<=i):a % 10^i=a:=by
 have h1:=Wd a;exact Nat.mod_eq_of_lt (Nat.lt_of_lt_of_le h1 (Nat.pow_le_pow_right (by omega) h))
theorem Qu (a i:Nat):a % 10^(i+1)=a % 10^i+(a / 10^i % 10)*10^i:=by
 rw[Nat.mod_pow_succ,Nat.mul_comm]
theorem Zaao {a b c i v:Nat}(h:v+c*10^i=a % 10^i+b % 10^i):
  (c+a / 10^i % 10+b / 10^i % 10) % 10*10^i+v+(c+a / 10^i % 10+b / 10^i % 10) / 10*10^(i+1)=a % 10^(i+1)+b % 10^(i+1):=by
 rw[Qu,Qu,Nat.pow_succ];generalize 10^i=P at *;generalize a / P % 10=x;generalize b / P % 10=y;have e:(c+x+y) / 10*(P*10)=(c+x+y) / 10*10*P:=by rw[Nat.mul_comm P,Nat.mul_assoc]
 have e2:(c+x+y) % 10*P+(c+x+y) / 10*10*P=(c+x+y)*P:=by
  rw[<- Nat.add_mul];congr 1;omega
 have e3:(c+x+y)*P=c*P+x*P+y*P:=by rw[Nat.add_mul,Nat.add_mul]
 omega
theorem Zwj {x b:Nat}(h:x < 10*b):(Zf x).length<=(Zf b).length+1:=by
 have h1:=Wd b;refine Qe (by omega) ?_;rw[Nat.pow_succ];omega
theorem Zku {d:Nat}:Zf d=[49]↔d=1:=by
 constructor
 .intro e;rw[<- Zim]at e;exact Zer e
 .rintro rfl;exact Zim
theorem Ti {d:Nat}:Zf d=[48]↔d=0:=by
 constructor
 .intro e;rw[<- V6]at e;exact Zer e
 .rintro rfl;exact V6
end Go.Proofs.YtabcdhcpilpojaaGreatDoor
end
section
set_option maxRecDepth 20000
namespace Go.Proofs.YtabcdhcpilpojaaGreatDoor
open Go Go.Pure
open Go.Virt (Ex Ctx Ty TK)
def Ui (s:Y9):Bool:=Rq s&&!(s==[])
theorem Zf1 {s:Y9}{i:Nat}(hi:i < s.length)(h:s[i] < 48\/57 < s[i]):Ui s=false:=by
 have:Rq s=false:=by
  rw[<- Bool.not_eq_true,Yr];intro hh;have:=hh s[i] (List.getElem_mem hi);omega
 rw[Ui,this];rfl
theorem Zes {s:Y9}:Ui s=true↔Rq s=true/\s≠[]:=by simp[Ui]
theorem Z14 (s:Y9)(hn:s.length < 2^62):Xq vE 165 [.str s] (.bool (Ui s)):=by
 intro K H;refine Zg4 (fn:=Tryz.f165) rfl Tryz.func165 rfl rfl rfl rfl ?_ rfl
 (refine Zm ?_;repeat'(first|(refine Zi fun _=>?_;try simp(disch:=first|exact Zq|fail)[*,Yb,Tryz.f165])|refine Ye ?_|refine Zx ?_|refine Zn ?_ ?_))
 refine Zv [0] (fun n sl h=>∃i:Nat,n=s.length - i/\i<=s.length/\sl 3=some (.int .i64 i)/\∀j (hj:j < s.length),j < i->48<=s[j]/\s[j]<=57) s.length rfl ⟨0,by simp⟩ ?_;rintro n sl h hf ⟨i,hn',hi,h3,hd⟩;simp at hf;replace hd:=Hide.mk hd;by_cases hlt:i < s.length
 . (refine Zm ?_;repeat'(first|(refine Zi fun _=>?_;try simp(disch:=first|exact Zq|fail)[*,Yb])|refine Ye ?_|refine Zx ?_|refine Zn ?_ ?_))
   .exact Zf1 hlt (by omega)
   .exact Zf1 hlt (by omega)
   .refine ⟨_,by omega,i+1,rfl,by omega,rfl,fun j hj hji=>?_⟩;by_cases e:j=i
    .subst e;omega
    .exact hd.get j hj (by omega)
 . (refine Zm ?_;repeat'(first|(refine Zi fun _=>?_;try simp(disch:=first|exact Zq|fail)[*,Yb])|refine Ye ?_|refine Zx ?_|refine Zn ?_ ?_))
   have:Rq s=true:=Yr.2 fun c hc=>by
    obtain⟨j,hj,rfl⟩:=List.getElem_of_mem hc;exact hd.get j hj (by omega)
   rw[Ui,this];cases s<;>rfl
theorem Zc6 (s:Y9)(hn:s.length < 2^62):Xq vE 166 [.str s] (.str (So s)):=by
 intro K H;refine Zg4 (fn:=Tryz.f166) rfl Tryz.func166 rfl rfl rfl rfl ?_ rfl
 (refine Zm ?_;repeat'(first|(refine Zi fun _=>?_;try simp(disch:=first|exact Zq|fail)[*,Yb,Tryz.f166])|refine Ye ?_|refine Zx ?_|refine Zn ?_ ?_))
 refine Zv [] (fun n sl h=>∃t:Y9,n=t.length/\t.length<=s.length/\So t=So s/\sl 0=some (.str t)) s.length rfl ⟨s,by simp⟩ ?_;rintro n sl h hf ⟨t,hn',hl,ht,h0⟩;replace ht:=Hide.mk ht;cases t with
 |nil=>(refine Zm ?_;repeat'(first|(refine Zi fun _=>?_;try simp(disch:=first|exact Zq|fail)[*,Yb])|refine Ye ?_|refine Zx ?_|refine Zn ?_ ?_));exact ht.get.symm
 |cons c t=>
  cases t with
  |nil=>(refine Zm ?_;repeat'(first|(refine Zi fun _=>?_;try simp(disch:=first|exact Zq|fail)[*,Yb])|refine Ye ?_|refine Zx ?_|refine Zn ?_ ?_));exact ht.get
  |cons d r=>
   (refine Zm ?_;repeat'(first|(refine Zi fun _=>?_;try simp(disch:=first|exact Zq|fail)[*,Yb])|refine Ye ?_|refine Zx ?_|refine Zn ?_ ?_))
   .have:=ht.get;rw[So,if_pos (by omega)]at this;exact⟨r.length+1,by omega,d::r,rfl,by simp at hl ⊢;omega,this,rfl⟩
   .have:=ht.get;rw[So,if_neg (by omega)]at this;exact this
theorem Zacw {s t:Y9}(hl:s.length=t.length)(hs:Rq s=true)(ht:Rq t=true):ltL s t=decide (Yo s < Yo t):=by
 induction s generalizing t with
 |nil=>
  cases t with
  |nil=>simp[ltL]
  |cons d t=>simp at hl
 |cons c s ih=>
  cases t with
  |nil=>simp at hl
  |cons d t=>
   have hl':s.length=t.length:=by simpa using hl
   rw[Yr]at hs ht;have hc:=hs c List.mem_cons_self;have hd:=ht d List.mem_cons_self;have hs':Rq s=true:=Yr.2 fun x hx=>hs x (List.mem_cons_of_mem _ hx)
   have ht':Rq t=true:=Yr.2 fun x hx=>ht x (List.mem_cons_of_mem _ hx)
   have b1:=Zg6 hs';have b2:=Zg6 ht';rw[hl']at b1;rw[Rk,Rk,hl',ltL,ih hl' hs' ht'];generalize hP:10^t.length=P at *;by_cases h1:c < d
   .have e1:Nat.blt c d=true:=by simpa using h1
    rw[e1]
    have:(c - 48)*P+P<=(d - 48)*P:=by
     rw[<- Nat.succ_mul];exact Nat.mul_le_mul_right _ (by omega)
    have:Yo s+(c - 48)*P < (d - 48)*P+Yo t:=by omega
    simp;omega
   .have e1:Nat.blt c d=false:=by
     rw[<- Bool.not_eq_true,Nat.blt_eq];exact h1
    rw[e1];by_cases h2:d < c
    .have e2:Nat.blt d c=true:=by simpa using h2
     rw[e2]
     have:(d - 48)*P+P<=(c - 48)*P:=by
      rw[<- Nat.succ_mul];exact Nat.mul_le_mul_right _ (by omega)
     simp;omega
    .have e2:Nat.blt d c=false:=by
      rw[<- Bool.not_eq_true,Nat.blt_eq];exact h2
     rw[e2];have:c=d:=by omega
     subst this;simp
theorem Z1q {a b:Nat}(hl:(Zf a).length=(Zf b).length):ltL (Zf a) (Zf b)=decide (a < b):=by
 rw[Zacw hl (Wu a) (Wu b),Xo,Xo]
theorem Zde {a b:Nat}(hl:(Zf a).length < (Zf b).length):a < b:=by
 rcases Nat.lt_or_ge a b with h | h
 .exact h
 .have:=Wr h;omega
def Zn6 (a b:Nat):Int:=if a < b then -1 else if a=b then 0 else 1
theorem Zafh (a b:Nat):Xq vE 173 [.str (Zf a),.str (Zf b)] (.int .i64 (Zn6 a b)):=by
 intro K H;refine Zg4 (fn:=Tryz.f173) rfl Tryz.func173 rfl rfl rfl rfl ?_ rfl
 (refine Zm ?_;repeat'(first|(refine Zi fun _=>?_;try simp(disch:=first|exact Zq|fail)[*,Yb,Tryz.f173])|refine Ye ?_|refine Zx ?_|refine Zn ?_ ?_))
 .rename_i h;rw[Zn6,if_pos (Zde h)]
 .rename_i h1 h2 h3;rw[Z1q (by omega)]at h3;rw[Zn6,if_pos (by simpa using h3)]
 .rename_i h1 h2 h3 h4;have:=Zer h4;simp[Zn6,this]
 .rename_i h1 h2 h3 h5 h4;rw[Z1q (by omega)]at h3;have:a≠b:=fun e=>h4 (by rw[e])
  simp at h3;simp[Zn6,this];omega
 .rename_i h1 h2 h3 h4;have:=Zer h4;simp[Zn6,this]
 .rename_i h1 h2 h3 h5 h4;have:b < a:=Zde (by omega);rw[Zn6,if_neg (by omega),if_neg (by omega)]
theorem Zmc {α:Type}{n i:Nat}{z x:α}(h:i < n):(List.replicate (n - i) z).set (n - 1 - i) x=List.replicate (n - (i+1)) z++[x]:=by
 obtain⟨k,rfl⟩:∃k,n=i+k+1:=⟨n - i - 1,by omega⟩
 have e1:i+k+1 - i=k+1:=by omega
 have e2:i+k+1 - 1 - i=k:=by omega
 have e3:i+k+1 - (i+1)=k:=by omega
 rw[e1,e2,e3,List.replicate_succ'];simp
theorem Zau8 (a b:Nat)(ha:(Zf a).length<=2^20)(hb:(Zf b).length<=2^20):Xq vE 172 [.str (Zf a),.str (Zf b)] (.str (Zf (a+b))):=by
 intro K H;refine Zg4 (fn:=Tryz.f172) rfl Tryz.func172 rfl rfl rfl rfl ?_ rfl
 (refine Zm ?_;repeat'(first|(refine Zi fun _=>?_;try simp(disch:=first|exact Zq|fail)[*,Yb,Tryz.f172])|refine Ye ?_|refine Zx ?_|refine Zn ?_ ?_))
 generalize hN:max (Zf a).length (Zf b).length=N at *;generalize hv0:H.stamp (H.next+17)=v0
 refine Zv [0,1,5,6] (fun n sl h=>∃(i c:Nat) (Uo:Y9),n=N+1 - i/\i<=N+1/\c<=1/\Uo.length=i/\Rq Uo=true/\Yo Uo+c*10^i=a % 10^i+b % 10^i/\sl 7=some (.int .i64 c)/\sl 8=some (.int .i64 i) /\
  h.get (H.next+17)=some (v0,.row 5 true (List.replicate (N+1 - i) (.int .u8 0)++Uo.map fun c=>.int .u8 c))) (N+1) rfl ⟨0,0,[],by simp,by simp,by simp,rfl,rfl,by simp[Yo,Uw,Nat.mod_one],by simp,by simp,by simp⟩ ?_
 rintro n sl h hf ⟨i,c,Uo,hn',hi,hc,S5,hla,hv,h7,h8,hg⟩;simp at hf;by_cases hiN:i < N+1
 .have Xr:=Zaao hv;replace hv:=Hide.mk hv;have hDA:a / 10^i % 10<=9:=by omega
  have hDB:b / 10^i % 10<=9:=by omega
  have hA:∀(hia:i < (Zf a).length),(Zf a)[(Zf a).length - 1 - i]'(by omega)=48+a / 10^i % 10:=fun hia=>Zls hia
  have hB:∀(hia:i < (Zf b).length),(Zf b)[(Zf b).length - 1 - i]'(by omega)=48+b / 10^i % 10:=fun hia=>Zls hia
  have Vb:¬ i < (Zf a).length->a / 10^i % 10=0:=fun hia=>by rw[Zj4 (by omega)]
  have hB':¬ i < (Zf b).length->b / 10^i % 10=0:=fun hia=>by rw[Zj4 (by omega)]
  generalize a / 10^i % 10=dA at *;generalize b / 10^i % 10=dB at *;have hq:∀x:Nat,(x:Int).tmod 10=((x % 10:Nat):Int):=fun x=>by rw[Int.tmod_eq_emod_of_nonneg (by omega)];omega
  have hd:∀x:Nat,(x:Int).tdiv 10=((x / 10:Nat):Int):=fun x=>by rw[Int.tdiv_eq_ediv_of_nonneg (by omega)];omega
  have e1:∀x:Int,x=((c+dA+dB:Nat):Int)->IntKind.i64.wrap (x.tdiv 10)=(((c+dA+dB) / 10:Nat):Int):=fun x hx=>by
   rw[hx,hd,Ztn (by omega) (by omega)]
  have e2:∀x:Int,x=((c+dA+dB:Nat):Int)->(List.replicate (N+1 - i) (PV.int IntKind.u8 0)).set (N+1 - 1 - i) (PV.int IntKind.u8 (IntKind.u8.wrap (IntKind.i64.wrap (48+x.tmod 10))))++List.map (fun c:Nat=>PV.int IntKind.u8 c) Uo=List.replicate (N+1 - (i+1)) (.int .u8 0)++List.map (fun c:Nat=>PV.int IntKind.u8 c) ((48+(c+dA+dB) % 10)::Uo):=fun x hx=>by
   rw[hx,hq,Ztn (by omega) (by omega),Z51 (by omega) (by omega),Zmc (n:=N+1) (by omega)];simp
  have Xx:∀x y:Int,x=((c+dA+dB:Nat):Int)->y=((c+dA+dB:Nat):Int)->∃m,m < N+1 - i/\∃i_1:Nat,m=N+1 - i_1/\i_1<=N+1/\∃c1:Nat,c1<=1/\∃l1:Y9,l1.length=i_1/\Rq l1=true/\Yo l1+c1*10^i_1=a % 10^i_1+b % 10^i_1/\IntKind.i64.wrap (x.tdiv 10)=c1/\(i:Int)+1=i_1 /\
    (List.replicate (N+1 - i) (PV.int IntKind.u8 0)).set (N - i) (PV.int IntKind.u8 (IntKind.u8.wrap (IntKind.i64.wrap (48+y.tmod 10))))++List.map (fun c:Nat=>PV.int IntKind.u8 c) Uo=List.replicate (N+1 - i_1) (.int .u8 0)++List.map (fun c:Nat=>PV.int IntKind.u8 c) l1:=fun x y hx hy=>
   ⟨N - i,by omega,i+1,by omega,by omega,(c+dA+dB) / 10,by omega,(48+(c+dA+dB) % 10)::Uo,by simp;omega,by
    rw[Yr]at hla ⊢;intro d hd;rcases List.mem_cons.1 hd with rfl | hd
    .omega
    .exact hla d hd,by rw[Rk,S5];have:=Xr;simpa using this,e1 x hx,by omega,e2 y hy⟩
  replace Xx:=Hide.mk Xx;clear e1 e2 hq hd Xr;by_cases hia:i < (Zf a).length
  .by_cases hib:i < (Zf b).length
   .have hA:=hA hia;have hB:=hB hib;clear Vb hB'
    (refine Zm ?_;repeat'(first|(refine Zi fun _=>?_;try simp(disch:=first|exact Zq|fail)[*,Yb])|refine Ye ?_|refine Zx ?_|refine Zn ?_ ?_))
    refine Xx.get _ _ ?_ ?_<;>omega
   .have hA:=hA hia;have hB:=hB' hib;clear Vb hB'
    (refine Zm ?_;repeat'(first|(refine Zi fun _=>?_;try simp(disch:=first|exact Zq|fail)[*,Yb])|refine Ye ?_|refine Zx ?_|refine Zn ?_ ?_))
    refine Xx.get _ _ ?_ ?_<;>omega
  .by_cases hib:i < (Zf b).length
   .have hA:=Vb hia;have hB:=hB hib;clear Vb hB'
    (refine Zm ?_;repeat'(first|(refine Zi fun _=>?_;try simp(disch:=first|exact Zq|fail)[*,Yb])|refine Ye ?_|refine Zx ?_|refine Zn ?_ ?_))
    refine Xx.get _ _ ?_ ?_<;>omega
   .have hA:=Vb hia;have hB:=hB' hib;clear Vb hB'
    (refine Zm ?_;repeat'(first|(refine Zi fun _=>?_;try simp(disch:=first|exact Zq|fail)[*,Yb])|refine Ye ?_|refine Zx ?_|refine Zn ?_ ?_))
    have hh:=Xx.get c c (by omega) (by omega);simpa (disch:=omega) [Ztn,Z51,Nat.sub_eq_zero_of_le]using hh
 .have hi1:i=N+1:=by omega
  subst hi1
  have hc0:Yo Uo=a+b:=by
   rw[Qv (by omega),Qv (by omega)]at hv;have h1:=Wd a;have h2:=Wd b;have h3:10^(Zf a).length<=10^N:=Nat.pow_le_pow_right (by omega) (by omega);have h4:10^(Zf b).length<=10^N:=Nat.pow_le_pow_right (by omega) (by omega);rw[Nat.pow_succ]at hv;generalize 10^N=P at *;rcases Nat.eq_zero_or_pos c with rfl | h5
   .omega
   .have:c=1:=by omega
    subst this;omega
  have hbp:Zh.bytesP (List.take (N+1) (Uo.map fun c:Nat=>PV.int .u8 (c:Int)))=some Uo:=by
   rw[List.take_of_length_le (by simp;omega)];exact Zc5 fun d hd=>by have:=Yr.1 hla d hd;omega
  have Zgr:=Zc6 Uo (by omega);rw[Uy hla (by intro e;rw[e]at S5;simp at S5),hc0]at Zgr;replace hv:=Hide.mk hv
  (refine Zm ?_;repeat'(first|(refine Zi fun _=>?_;try simp(disch:=first|exact Zq|fail)[*,Yb,hbp,Zgr])|refine Ye ?_|refine Zx ?_|refine Zn ?_ ?_))
theorem Z6c {a b c d e i v:Nat}(h:v+b % 10^i=a % 10^i+c*10^i)(he:d+b / 10^i % 10+c=a / 10^i % 10+10*e):
  d*10^i+v+b % 10^(i+1)=a % 10^(i+1)+e*10^(i+1):=by
 rw[Qu,Qu,Nat.pow_succ];generalize 10^i=P at *;generalize a / P % 10=x at *;generalize b / P % 10=y at *;have e1:e*(P*10)=10*e*P:=by rw[Nat.mul_comm P,<- Nat.mul_assoc,Nat.mul_comm e]
 have e2:(d+y+c)*P=d*P+y*P+c*P:=by rw[Nat.add_mul,Nat.add_mul]
 have e3:(x+10*e)*P=x*P+10*e*P:=by rw[Nat.add_mul]
 rw[he]at e2;omega
theorem Zafg (a b:Nat)(hab:b<=a)(ha:(Zf a).length<=2^21):Xq vE 174 [.str (Zf a),.str (Zf b)] (.str (Zf (a - b))):=by
 have hb:=Wr hab;intro K H;refine Wc Tryz.func174 ?_
 (refine Zm ?_;repeat'(first|(refine Zi fun _=>?_;try simp(disch:=first|exact Zq|fail)[*,Yb,Tryz.f174])|refine Ye ?_|refine Zx ?_|refine Zn ?_ ?_))
 generalize hN:(Zf a).length=N at *;generalize hv0:PH.stamp _ _=v0
 refine Zv [0,1,5] (fun n sl h=>∃(i c:Nat) (Uo:Y9),n=N - i/\i<=N/\c<=1/\Uo.length=i/\Rq Uo=true/\Yo Uo+b % 10^i=a % 10^i+c*10^i/\sl 6=some (.int .i64 c)/\sl 7=some (.int .i64 i) /\
  h.get (H.next+11)=some (v0,.row 5 true (List.replicate (N - i) (.int .u8 0)++Uo.map fun c:Nat=>.int .u8 c))) N rfl ⟨0,0,[],by simp,by simp,by simp,rfl,rfl,by simp[Yo,Uw,Nat.mod_one],by simp,by simp,by simp⟩ ?_
 rintro n sl h hf ⟨i,c,Uo,hn',hi,hc,S5,hla,hv,h6,h7,hg⟩;simp at hf;by_cases hiN:i < N
 .have Xr:=fun d e=>Z6c (d:=d) (e:=e) hv
  replace hv:=Hide.mk hv;replace Xr:=Hide.mk Xr
  have hA:(Zf a)[N - 1 - i]'(by omega)=48+a / 10^i % 10:=by
   have:=Zls (a:=a) (i:=i) (by omega);simpa[hN]using this
  have hB:∀(hia:i < (Zf b).length),(Zf b)[(Zf b).length - 1 - i]'(by omega)=48+b / 10^i % 10:=fun hia=>Zls hia
  have hB':¬ i < (Zf b).length->b / 10^i % 10=0:=fun hia=>by rw[Zj4 (by omega)]
  have hDA:a / 10^i % 10<=9:=by omega
  have hDB:b / 10^i % 10<=9:=by omega
  have Xx:∀(x E:Int) (d e:Nat),x=48+d->E=e->d<=9->e<=1->d+b / 10^i % 10+c=a / 10^i % 10+10*e->∃m,m < N - i/\∃i_1:Nat,m=N - i_1/\i_1<=N/\∃c1:Nat,c1<=1/\∃l1:Y9,l1.length=i_1/\Rq l1=true/\Yo l1+b % 10^i_1=a % 10^i_1+c1*10^i_1/\E=c1/\(i:Int)+1=i_1 /\
    (List.replicate (N - i) (PV.int IntKind.u8 0)).set (N - 1 - i) (PV.int IntKind.u8 x)++List.map (fun c:Nat=>PV.int IntKind.u8 c) Uo=List.replicate (N - i_1) (.int .u8 0)++List.map (fun c:Nat=>PV.int IntKind.u8 c) l1:=fun x E d e hx hE hd he hde=>
   ⟨N - (i+1),by omega,i+1,rfl,by omega,e,he,(48+d)::Uo,by simp;omega,by
    rw[Yr]at hla ⊢;intro d hd;rcases List.mem_cons.1 hd with rfl | hd
    .omega
    .exact hla d hd,by rw[Rk,S5];have:=Xr.get d e hde;simpa using this,hE,by omega,by rw[hx,Zmc (n:=N) hiN];simp⟩
  replace Xx:=Hide.mk Xx;generalize a / 10^i % 10=dA at *;generalize b / 10^i % 10=dB at *;by_cases hib:i < (Zf b).length
  .have hB:=hB hib;clear hB'
   (refine Zm ?_;repeat'(first|(refine Zi fun _=>?_;try simp(disch:=first|exact Zq|fail)[*,Yb])|refine Ye ?_|refine Zx ?_|refine Zn ?_ ?_))
   .refine Xx.get _ _ (10+dA - c - dB) 1 ?_ ?_ ?_ ?_ ?_<;>omega
   .refine Xx.get _ _ (dA - c - dB) 0 ?_ ?_ ?_ ?_ ?_<;>omega
  .have hB:=hB' hib;clear hB'
   (refine Zm ?_;repeat'(first|(refine Zi fun _=>?_;try simp(disch:=first|exact Zq|fail)[*,Yb])|refine Ye ?_|refine Zx ?_|refine Zn ?_ ?_))
   .refine Xx.get _ _ (10+dA - c - dB) 1 ?_ ?_ ?_ ?_ ?_<;>omega
   .refine Xx.get _ _ (dA - c - dB) 0 ?_ ?_ ?_ ?_ ?_<;>omega
 .have hi1:i=N:=by omega
  subst hi1
  have hc0:Yo Uo=a - b:=by
   rw[Qv (by omega),Qv (by omega)]at hv;have h1:=Zg6 hla;rw[S5]at h1;generalize 10^i=P at *;rcases Nat.eq_zero_or_pos c with rfl | h5
   .omega
   .have:c=1:=by omega
    subst this;omega
  have hbp:Zh.bytesP (List.take i (Uo.map fun c:Nat=>PV.int .u8 (c:Int)))=some Uo:=by
   rw[List.take_of_length_le (by simp;omega)];exact Zc5 fun d hd=>by have:=Yr.1 hla d hd;omega
  have Zgr:=Zc6 Uo (by omega);rw[Uy hla (by intro e;have:=Uh a;rw[e]at S5;simp at S5;omega),hc0]at Zgr;replace hv:=Hide.mk hv
  (refine Zm ?_;repeat'(first|(refine Zi fun _=>?_;try simp(disch:=first|exact Zq|fail)[*,Yb,hbp,Zgr])|refine Ye ?_|refine Zx ?_|refine Zn ?_ ?_))
def Zcn (o:List Nat):Nat:=o.foldl (fun a x=>a*10+x) 0
theorem Ztl:Zcn []=0:=rfl
theorem Zpe (o:List Nat)(x:Nat):Zcn (o++[x])=Zcn o*10+x:=by simp only[Zcn,List.foldl_append,List.foldl_cons,List.foldl_nil]
theorem Zba (o p:List Nat):Zcn (o++p)=Zcn o*10^p.length+Zcn p:=by
 rcases List.eq_nil_or_concat p with rfl | ⟨q,x,rfl⟩
 .simp [Ztl]
 .rw [List.concat_eq_append,<- List.append_assoc,Zpe,Zba o q,Zpe];simp only[List.length_append,List.length_cons,List.length_nil,Nat.zero_add,Nat.pow_succ];rw[Nat.add_mul,Nat.mul_assoc];omega
termination_by p.length
decreasing_by all_goals simp_all
theorem Zex (x:Nat)(o:List Nat):Zcn (x::o)=x*10^o.length+Zcn o:=by
 have:=Zba [x] o;simpa[Zcn]using this
theorem Z5z {o:List Nat}{k d:Nat}(hk:k < o.length):Zcn (o.set k (o[k]+d))=Zcn o+d*10^(o.length - 1 - k):=by
 obtain⟨l,r,e,hl⟩:∃l r,o=l++o[k]::r/\l.length=k:=⟨o.take k,o.drop (k+1),by simp,by simp;omega⟩
 generalize o[k]=y at *;subst e;have:(l++y::r).set k (y+d)=l++(y+d)::r:=by subst hl;simp
 rw[this,Zba,Zba,Zex,Zex];simp only[List.length_append,List.length_cons];have e1:l.length+(r.length+1) - 1 - k=r.length:=by omega
 rw[e1,Nat.add_mul];omega
theorem Z2h (n:Nat):Zcn (List.replicate n 0)=0:=by
 induction n with
 |zero=>rfl
 |succ n ih=>rw[List.replicate_succ,Zex,ih];simp
theorem Zi6 {s:Y9}{i:Nat}(h:i < s.length):Yo (s.take (i+1))=Yo (s.take i)*10+(s[i] - 48):=by
 rw[List.take_succ_eq_append_getElem h,Ta]
theorem Z65 {A B da db P Q j w:Nat}(h:w=A*10^(P+1)*B+da*10^P*(Q*10^(j+1))):
  w+da*db*10^(P+j)=A*10^(P+1)*B+da*10^P*((Q*10+db)*10^j):=by
 have e0:10^(j+1)=10^j*10:=Nat.pow_succ _ _;have e2:10^(P+j)=10^P*10^j:=Nat.pow_add _ _ _
 have e1:da*10^P*((Q*10+db)*10^j)=da*10^P*(Q*10^(j+1))+da*db*10^(P+j):=by
  rw[e0,e2,Nat.add_mul,Nat.mul_add];have a1:Q*10*10^j=Q*(10^j*10):=by rw[Nat.mul_assoc,Nat.mul_comm 10]
  have a2:da*10^P*(db*10^j)=da*db*(10^P*10^j):=by
   rw[Nat.mul_assoc,Nat.mul_assoc,Nat.mul_left_comm (10^P)]
  rw[a1,a2]
 omega
theorem Zlu (a b:Nat)(ha:(Zf a).length<=2^20)(hb:(Zf b).length<=2^20):Xq vE 171 [.str (Zf a),.str (Zf b)] (.str (Zf (a*b))):=by
 intro K H;refine Wc Tryz.func171 ?_
 (refine Zm ?_;repeat'(first|(refine Zi fun _=>?_;try simp(disch:=first|exact Zq|fail)[*,Yb,Tryz.f171])|refine Ye ?_|refine Zx ?_|refine Zn ?_ ?_))
 generalize hLa:(Zf a).length=la at *;generalize hLb:(Zf b).length=lb at *;generalize hv0:PH.stamp _ _=v0
 refine Zv [0,1,5] (fun n sl h=>∃(i:Nat) (o:List Nat),n=la - i/\i<=la/\o.length=la+lb/\(∀x,x∈o->x<=81*i)/\Zcn o=Yo ((Zf a).take i)*10^(la - i)*b/\sl 6=some (.int .i64 i) /\
  h.get (H.next+17)=some (v0,.row 3 true (o.map fun x:Nat=>.int .i64 x))) la rfl ⟨0,List.replicate (la+lb) 0,by simp,by simp,by simp,by simp,by simp[Z2h,Yo,Uw],by simp,by simp⟩ ?_
 rintro n sl h hf ⟨i,o,hn',hi,hol,Tn,hw,h6,hg⟩;simp at hf;replace hw:=Hide.mk hw;replace Tn:=Hide.mk Tn;by_cases hia:i < la
 .have Zyz:i < (Zf a).length:=by omega
  obtain⟨dA,hA,hdA⟩:∃dA,(Zf a)[i]=48+dA/\dA<=9:=⟨(Zf a)[i] - 48,by have:=Yr.1 (Wu a) _ (List.getElem_mem Zyz);omega,by have:=Yr.1 (Wu a) _ (List.getElem_mem Zyz);omega⟩
  have htA:=Zi6 Zyz;rw[hA]at htA;replace htA:=Hide.mk htA
  (refine Zm ?_;repeat'(first|(refine Zi fun _=>?_;try simp(disch:=first|exact Zq|fail)[*,Yb])|refine Ye ?_|refine Zx ?_|refine Zn ?_ ?_))
  refine Zv [0,1,5,6] (fun n sl h=>∃(j:Nat) (o:List Nat),n=lb - j/\j<=lb/\o.length=la+lb/\(∀k (hk:k < o.length),o[k]<=81*(i+1)/\(i+j+1<=k->o[k]<=81*i))/\Zcn o=Yo ((Zf a).take i)*10^(la - i)*b+dA*10^(la - 1 - i)*(Yo ((Zf b).take j)*10^(lb - j))/\sl 7=some (.int .i64 j) /\
   h.get (H.next+17)=some (v0,.row 3 true (o.map fun x:Nat=>.int .i64 x))) lb rfl ⟨0,o,by simp,by simp,hol,fun k hk=>by have:=Tn.get _ (List.getElem_mem hk);omega,by rw[hw.get];simp[Yo,Uw],by simp,by simp[hg]⟩ ?_
  clear hg;rintro n2 sl2 h2 hf2 ⟨j,o2,hn2,hj,hol2,Q0,Vj,h7,hg⟩;simp[hf,h6]at hf2;replace Vj:=Hide.mk Vj;replace Q0:=Hide.mk Q0;by_cases hjb:j < lb
  .have hjb':j < (Zf b).length:=by omega
   obtain⟨dB,hB,hdB⟩:∃dB,(Zf b)[j]=48+dB/\dB<=9:=⟨(Zf b)[j] - 48,by have:=Yr.1 (Wu b) _ (List.getElem_mem hjb');omega,by have:=Yr.1 (Wu b) _ (List.getElem_mem hjb');omega⟩
   have htB:=Zi6 hjb';rw[hB]at htB;replace htB:=Hide.mk htB;have hp:dA*dB<=81:=Nat.mul_le_mul hdA hdB;have hp1:(dA:Int)*dB<=81:=by exact_mod_cast hp
   have hp0:0<=(dA:Int)*dB:=by exact_mod_cast Nat.zero_le _
   have Q1:i+j+1 < o2.length:=by omega
   have hk:=(Q0.get (i+j+1) Q1).1;have hk2:=(Q0.get (i+j+1) Q1).2 (by omega);have hix:((i:Int)+j+1).toNat=i+j+1:=by omega
   (refine Zm ?_;repeat'(first|(refine Zi fun _=>?_;try simp(disch:=first|exact Zq|fail)[*,Yb])|refine Ye ?_|refine Zx ?_|refine Zn ?_ ?_))
   refine⟨lb - (j+1),by omega,j+1,rfl,by omega,o2.set (i+j+1) (o2[i+j+1]+dA*dB),by simp[hol2],?_,?_,by omega,?_⟩
   .intro k hk3;rw[List.getElem_set];split
    .omega
    .have:=Q0.get k (by simpa using hk3);omega
   .rw [Z5z Q1,htB.get];have e1:o2.length - 1 - (i+j+1)=(la - 1 - i)+(lb - (j+1)):=by omega
    rw[e1]
    have h1:=Z65 (A:=Yo ((Zf a).take i)) (B:=b) (da:=dA) (db:=dB) (P:=la - 1 - i) (Q:=Yo ((Zf b).take j)) (j:=lb - (j+1)) (w:=Zcn o2) (by
     rw[Vj.get];have e2:la - 1 - i+1=la - i:=by omega
     have e3:lb - (j+1)+1=lb - j:=by omega
     rw[e2,e3])
    have e2:la - 1 - i+1=la - i:=by omega
    rw[e2]at h1;rw[h1];congr 4;omega
   .rw [show ((o2[i+j+1]:Nat):Int)+(dA:Int)*dB=((o2[i+j+1]+dA*dB:Nat):Int) by simp];rw[List.map_set]
  .have hjl:j=lb:=by omega
   subst hjl
   (refine Zm ?_;repeat'(first|(refine Zi fun _=>?_;try simp(disch:=first|exact Zq|fail)[*,Yb])|refine Ye ?_|refine Zx ?_|refine Zn ?_ ?_))
   refine⟨la - (i+1),by omega,i+1,rfl,by omega,o2,hol2,?_,?_,by omega,rfl⟩
   .intro x hx;obtain⟨k,hk,rfl⟩:=List.getElem_of_mem hx;exact (Q0.get k hk).1
   .rw [Vj.get,htA.get];have e1:la - i=(la - (i+1))+1:=by omega
    have e2:la - 1 - i=la - (i+1):=by omega
    have e3:(Zf b).take j=Zf b:=List.take_of_length_le (by omega);rw[e1,e2,e3,Xo,Nat.sub_self,Nat.pow_zero,Nat.mul_one,Nat.pow_succ];generalize 10^(la - (i+1))=P;rw[Nat.add_mul,Nat.add_mul];have e4:48+dA - 48=dA:=by omega
    rw[e4];congr 2;rw[Nat.mul_assoc,Nat.mul_comm P]
 .have hi1:i=la:=by omega
  subst hi1
  have hw0:Zcn o=a*b:=by
   rw[hw.get,List.take_of_length_le (by omega),Xo,Nat.sub_self,Nat.pow_zero,Nat.mul_one]
  have hL:o.length=i+lb:=hol;generalize hLL:i+lb=L at *;have hLc:(i:Int)+lb=L:=by omega
  (refine Zm ?_;repeat'(first|(refine Zi fun _=>?_;try simp(disch:=first|exact Zq|fail)[*,Yb])|refine Ye ?_|refine Zx ?_|refine Zn ?_ ?_))
  generalize hv1:PH.stamp _ _=v1
  refine Zv [5,8] (fun n sl h=>∃(m c:Nat) (Uo:Y9),n=L - m/\m<=L/\c<=100000000/\Uo.length=m/\Rq Uo=true/\Yo Uo+c*10^m=Zcn (o.drop (L - m))/\sl 9=some (.int .i64 c)/\sl 10=some (.int .i64 (L - 1 - m)) /\
   h.get (H.next+52)=some (v1,.row 5 true (List.replicate (L - m) (.int .u8 0)++Uo.map fun c:Nat=>.int .u8 c))/\h.get (H.next+17)=some (v0,.row 3 true (o.map fun x:Nat=>.int .i64 x))) L rfl ⟨0,0,[],by simp,by simp,by simp,rfl,rfl,?_,by simp,?_,?_,?_⟩ ?_
  .simp [Yo,Uw,List.drop_eq_nil_of_le (Nat.le_of_eq hL),Ztl]
  .simp
  .simp
  .simp [hg]
  clear hg h6 hv1 hw hn';rintro n2 sl2 h2 hf2 ⟨m,c,Uo,hn2,hm,hc,S5,hla,hv,h9,h10,hg2,hg⟩;simp at hf2;by_cases hmL:m < L
  .have Q1:L - 1 - m < o.length:=by omega
   have hob3:o[L - 1 - m]<=81*i:=Tn.get _ (List.getElem_mem Q1)
   have hdr:o.drop (L - (m+1))=o[L - 1 - m]::o.drop (L - m):=by
    have e1:L - (m+1)=L - 1 - m:=by omega
    have e2:L - m=L - 1 - m+1:=by omega
    rw[e1,e2];exact List.drop_eq_getElem_cons Q1
   have Xr:Yo ((48+(o[L - 1 - m]+c) % 10)::Uo)+(o[L - 1 - m]+c) / 10*10^(m+1)=Zcn (o.drop (L - (m+1))):=by
    rw[hdr,Zex,Rk,S5,<- hv];have e1:(o.drop (L - m)).length=m:=by simp;omega
    have e2:48+(o[L - 1 - m]+c) % 10 - 48=(o[L - 1 - m]+c) % 10:=by omega
    rw[e1,e2,Nat.pow_succ];generalize o[L - 1 - m]=x;generalize 10^m=P;have e3:(x+c) / 10*(P*10)=(x+c) / 10*10*P:=by rw[Nat.mul_comm P,Nat.mul_assoc]
    have e4:(x+c) % 10*P+(x+c) / 10*10*P=(x+c)*P:=by
     rw[<- Nat.add_mul];congr 1;omega
    have e5:(x+c)*P=x*P+c*P:=Nat.add_mul _ _ _;omega
   replace hv:=Hide.mk hv;replace Xr:=Hide.mk Xr;replace hdr:=Hide.mk hdr;have hix:((L:Int) - 1 - m).toNat=L - 1 - m:=by omega
   have hq:∀x:Nat,(x:Int).tmod 10=((x % 10:Nat):Int):=fun x=>by rw[Int.tmod_eq_emod_of_nonneg (by omega)];omega
   have hd:∀x:Nat,(x:Int).tdiv 10=((x / 10:Nat):Int):=fun x=>by rw[Int.tdiv_eq_ediv_of_nonneg (by omega)];omega
   have hq2:((o[L - 1 - m]:Int)+c).tmod 10=(((o[L - 1 - m]+c) % 10:Nat):Int):=hq (o[L - 1 - m]+c);have hd2:((o[L - 1 - m]:Int)+c).tdiv 10=(((o[L - 1 - m]+c) / 10:Nat):Int):=hd (o[L - 1 - m]+c);clear hq hd;generalize hx:o[L - 1 - m]=x at *
   (refine Zm ?_;repeat'(first|(refine Zi fun _=>?_;try simp(disch:=first|exact Zq|fail)[*,Yb,-Int.natCast_emod, -Int.natCast_ediv, -Int.natCast_add])|refine Ye ?_|refine Zx ?_|refine Zn ?_ ?_))
   refine⟨L - (m+1),by omega,m+1,rfl,by omega,(x+c) / 10,by omega,(48+(x+c) % 10)::Uo,by simp;omega,?_,Xr.get,rfl,by omega,?_⟩
   .rw [Yr]at hla ⊢;intro d hd;rcases List.mem_cons.1 hd with rfl | hd
    .omega
    .exact hla d hd
   .rw [Zmc (n:=L) hmL];simp
  .have hmL':m=L:=by omega
   subst hmL'
   have hc0:Yo Uo=a*b:=by
    have e1:m - m=0:=by omega
    rw[e1,List.drop_zero,hw0]at hv;have h1:=Wd a;have h2:=Wd b;have h3:a*b < 10^(Zf a).length*10^(Zf b).length:=Nat.mul_lt_mul'' h1 h2;rw[<- Nat.pow_add,hLa,hLb,hLL]at h3;rcases Nat.eq_zero_or_pos c with rfl | h5
    .omega
    .have:1*10^m<=c*10^m:=Nat.mul_le_mul_right _ h5;omega
   have hbp:Zh.bytesP (List.take m (Uo.map fun c:Nat=>PV.int .u8 (c:Int)))=some Uo:=by
    rw[List.take_of_length_le (by simp;omega)];exact Zc5 fun d hd=>by have:=Yr.1 hla d hd;omega
   have Zgr:=Zc6 Uo (by omega);rw[Uy hla (by intro e;have:=Uh a;rw[e]at S5;simp at S5;omega),hc0]at Zgr;replace hv:=Hide.mk hv
   (refine Zm ?_;repeat'(first|(refine Zi fun _=>?_;try simp(disch:=first|exact Zq|fail)[*,Yb,hbp,Zgr])|refine Ye ?_|refine Zx ?_|refine Zn ?_ ?_))
theorem Zaeb {a b:Nat}(h:b<=a):(0:Int)<=Zn6 a b:=by
 unfold Zn6;split
 .omega
 .split<;>decide
theorem Zaea {a b:Nat}(h:a < b):¬ (0:Int)<=Zn6 a b:=by
 rw[Zn6,if_pos h];decide
theorem Z2j {R c:Nat}(hc:48<=c/\c<=57):So (Zf R++[c])=Zf (R*10+(c - 48)):=by
 rw[Uy _ (by simp),Ta,Xo];rw[Yr];intro d hd;rcases List.mem_append.1 hd with h | h
 .exact Yr.1 (Wu R) d h
 .simp at h;omega
theorem Zsx (a b:Nat)(hb0:0 < b)(ha:(Zf a).length<=2^20)(hb:(Zf b).length<=2^20):Xq vE 190 [.str (Zf a),.str (Zf b)] (.tuple [.str (Zf (a / b)),.str (Zf (a % b))]):=by
 intro K H;refine Wc Tryz.func190 ?_
 (refine Zm ?_;repeat'(first|(refine Zi fun _=>?_;try simp(disch:=first|exact Zq|fail)[*,Yb,Tryz.f190])|refine Ye ?_|refine Zx ?_|refine Zn ?_ ?_))
 generalize hLa:(Zf a).length=la at *;generalize hv0:PH.stamp _ _=v0
 refine Zv [0,1,6] (fun n sl h=>∃(i R:Nat) (qs:Y9),n=la - i/\i<=la/\R < b/\qs.length=i/\Rq qs=true/\Yo qs*b+R=Yo ((Zf a).take i)/\sl 8=some (.int .i64 i)/\sl 7=some (.str (Zf R)) /\
  h.get (H.next+12)=some (v0,.row 5 true ((qs.map fun c:Nat=>.int .u8 c)++List.replicate (la - i) (.int .u8 0)))) la rfl ⟨0,0,[],by simp,by simp,hb0,rfl,rfl,by simp[Yo,Uw],by simp,by simp[V6],by simp⟩ ?_
 rintro n sl h hf ⟨i,R,qs,hn',hi,hR,hql,hqa,hv,h8,h7,hg⟩;simp at hf;have hlen:∀x,x < 10*b->(Zf x).length<=(Zf b).length+1:=fun x hx=>Zwj hx
 by_cases hia:i < la
 .have Zyz:i < (Zf a).length:=by omega
  have hc:=Yr.1 (Wu a) _ (List.getElem_mem Zyz);have htA:=Zi6 Zyz
  have Zh6:(List.drop i (Zf a)).take 1=[(Zf a)[i]]:=by
   rw[List.drop_eq_getElem_cons Zyz];rfl
  have Zgr:=Zc6 (Zf R++[(Zf a)[i]]) (by have:=hlen R (by omega);simp;omega);rw[Z2j hc]at Zgr;have hRl:=hlen R (by omega);replace hlen:=Hide.mk hlen;replace htA:=Hide.mk htA;generalize hca:(Zf a)[i]=c at *
  (refine Zm ?_;repeat'(first|(refine Zi fun _=>?_;try simp(disch:=first|exact Zq|fail)[*,Yb,Zh6,Zgr])|refine Ye ?_|refine Zx ?_|refine Zn ?_ ?_))
  have hX:R*10+(c - 48) < 10*b:=by omega
  generalize hXX:R*10+(c - 48)=X at *;refine Zv [0,1,6,8] (fun n sl h'=>h'=h/\∃(k R':Nat),n=R'/\R'+k*b=X/\k<=9/\sl 7=some (.str (Zf R'))/\sl 9=some (.int .u8 (48+(k:Int)))) X rfl ⟨rfl,0,X,rfl,by simp,by simp,by simp,by simp⟩ ?_;rintro n2 sl2 h2 hf2 ⟨rfl,k,R',hn2,hk,hk9,h7',h9⟩;simp[hf,h8]at hf2;clear Zgr Zh6;replace hv:=Hide.mk hv;have hkb:0<=k*b:=Nat.zero_le _;have hl1:=hlen.get R' (by omega);have h173:=Zafh R' b;by_cases hge:b<=R'
  .have hcm:=Zaeb hge;have h174:=Zafg R' b hge (by omega)
   have hk8:k+1<=9:=by
    have h1:(k+1)*b < 10*b:=by rw[Nat.add_mul];omega
    have:=Nat.lt_of_mul_lt_mul_right h1;omega
   have hkk:R' - b+(k+1)*b=X:=by rw[Nat.add_mul];omega
   replace hk:=Hide.mk hk;replace hkk:=Hide.mk hkk
   (refine Zm ?_;repeat'(first|(refine Zi fun _=>?_;try simp(disch:=first|exact Zq|fail)[*,Yb,h173,h174])|refine Ye ?_|refine Zx ?_|refine Zn ?_ ?_))
   refine⟨R' - b,by omega,k+1,hkk.get,hk8,?_⟩;exact⟨rfl,by omega⟩
  .have hcm:=Zaea (Nat.lt_of_not_le hge);replace hk:=Hide.mk hk
   (refine Zm ?_;repeat'(first|(refine Zi fun _=>?_;try simp(disch:=first|exact Zq|fail)[*,Yb,h173])|refine Ye ?_|refine Zx ?_|refine Zn ?_ ?_))
   refine⟨la - (i+1),by omega,i+1,rfl,by omega,R',by omega,qs++[48+k],by simp;omega,?_,?_,by omega,rfl,?_⟩
   .rw [Yr]at hqa ⊢;intro d hd;rcases List.mem_append.1 hd with h | h
    .exact hqa d h
    .simp at h;omega
   .rw [Ta,htA.get,<- hv.get];have e1:48+k - 48=k:=by omega
    have e2:(Yo qs*10+k)*b=Yo qs*b*10+k*b:=by rw[Nat.add_mul,Nat.mul_assoc,Nat.mul_comm 10,<- Nat.mul_assoc]
    rw[e1,e2];have:=hk.get;omega
   .have e1:la - i=(la - (i+1))+1:=by omega
    rw[e1,List.replicate_succ];simp
 .have hi1:i=la:=by omega
  subst hi1;have e1:(Zf a).take i=Zf a:=List.take_of_length_le (by omega);rw[e1,Xo]at hv
  have hq:a / b=Yo qs:=by
   rw[<- hv,Nat.add_comm,Nat.add_mul_div_right _ _ hb0,Nat.div_eq_of_lt hR,Nat.zero_add]
  have hr:a % b=R:=by
   rw[<- hv,Nat.add_comm,Nat.add_mul_mod_self_right,Nat.mod_eq_of_lt hR]
  have hbp:Zh.bytesP (List.take i (qs.map fun c:Nat=>PV.int .u8 (c:Int)))=some qs:=by
   rw[List.take_of_length_le (by simp;omega)];exact Zc5 fun d hd=>by have:=Yr.1 hqa d hd;omega
  have Zgr:=Zc6 qs (by omega);rw[Uy hqa (by intro e;have:=Uh a;rw[e]at hql;simp at hql;omega),<- hq]at Zgr;replace hv:=Hide.mk hv
  (refine Zm ?_;repeat'(first|(refine Zi fun _=>?_;try simp(disch:=first|exact Zq|fail)[*,Yb,hbp,Zgr])|refine Ye ?_|refine Zx ?_|refine Zn ?_ ?_))
theorem Zafb (a b:Nat)(ha:(Zf a).length<=2^20)(hb:(Zf b).length<=2^20):Xq vE 189 [.str (Zf a),.str (Zf b)] (.str (Zf (Nat.gcd a b))):=by
 intro K H;refine Wc Tryz.func189 ?_
 (refine Zm ?_;repeat'(first|(refine Zi fun _=>?_;try simp(disch:=first|exact Zq|fail)[*,Yb,Tryz.f189])|refine Ye ?_|refine Zx ?_|refine Zn ?_ ?_))
 refine Zv [] (fun n sl h'=>∃(x y:Nat),n=y/\(Zf x).length<=2^20/\(Zf y).length<=2^20/\Nat.gcd x y=Nat.gcd a b/\sl 0=some (.str (Zf x))/\sl 1=some (.str (Zf y))) b rfl ⟨a,b,rfl,ha,hb,rfl,by simp,by simp⟩ ?_;rintro n sl h hf ⟨x,y,hn,hx,hy,hg,h0,h1⟩
 have he:(Zf y==[48])=decide (y=0):=by
  rw[Bool.eq_iff_iff];simp only[beq_iff_eq,decide_eq_true_eq];constructor
  .intro e;rw[<- V6]at e;exact Zer e
  .rintro rfl;exact V6
 by_cases hy0:y=0
 .subst hy0;rw[Nat.gcd_zero_right]at hg;subst hg;simp at he
  (refine Zm ?_;repeat'(first|(refine Zi fun _=>?_;try simp(disch:=first|exact Zq|fail)[*,Yb,he])|refine Ye ?_|refine Zx ?_|refine Zn ?_ ?_))
 .have h190:=Zsx x y (by omega) hx hy;have hml:(Zf (x % y)).length<=(Zf y).length:=Wr (Nat.le_of_lt (Nat.mod_lt _ (by omega)));have hgm:Nat.gcd y (x % y)=Nat.gcd a b:=by rw[<- hg,Nat.gcd_comm x y,Nat.gcd_rec y x,Nat.gcd_comm]
  have hlt:x % y < y:=Nat.mod_lt _ (by omega);replace hg:=Hide.mk hg;simp[hy0]at he
  (refine Zm ?_;repeat'(first|(refine Zi fun _=>?_;try simp(disch:=first|exact Zq|fail)[*,Yb,he,h190])|refine Ye ?_|refine Zx ?_|refine Zn ?_ ?_))
  .rename_i h;exact absurd h he
  .exact ⟨x % y,hlt,y,hy,by omega,hgm,rfl,rfl⟩
structure Rt where
 neg:Bool
 num:Nat
 den:Nat
structure Rt.Ok (r:Rt):Prop where
 den:0 < r.den
 low:Nat.gcd r.num r.den=1
 sign:r.neg=true->r.num≠0
def Rt.mk' (neg:Bool)(n d:Nat):Rt:=⟨neg&&!(n==0),n / Nat.gcd n d,d / Nat.gcd n d⟩
def Rt.text (r:Rt):Y9:=(if r.neg then [45] else [])++Zf r.num++(if r.den=1 then [] else 47::Zf r.den)
abbrev encR (r:Rt):PV:=.agg [.bool r.neg,.str (Zf r.num),.str (Zf r.den)]
theorem Zad2 {a b:Nat}(hb:0 < b):(Zf (Nat.gcd a b)).length<=(Zf b).length:=Wr (Nat.le_of_dvd hb (Nat.gcd_dvd_right a b))
theorem Nat.div_gcd_ne_zero' {n d:Nat}(h:0 < n):n / Nat.gcd n d≠0:=by
 have h1:Nat.gcd n d<=n:=Nat.gcd_le_left d h;have h2:0 < Nat.gcd n d:=Nat.gcd_pos_of_pos_left _ h;have:=Nat.div_pos h1 h2;omega
theorem Zsz (neg:Bool)(n d:Nat)(hd:0 < d)(hln:(Zf n).length<=2^20)(hld:(Zf d).length<=2^20):Xq vE 167 [.bool neg,.str (Zf n),.str (Zf d)] (encR (Rt.mk' neg n d)):=by
 have hg:0 < Nat.gcd n d:=Nat.gcd_pos_of_pos_right _ hd;have h189:=Zafb n d hln hld;have hgl:=Zad2 (a:=n) hd;have h1:=Zsx n (Nat.gcd n d) hg hln (by omega);have h2:=Zsx d (Nat.gcd n d) hg hld (by omega);intro K H;refine Wc Tryz.func167 ?_
 (refine Zm ?_;repeat'(first|(refine Zi fun _=>?_;try simp(disch:=first|exact Zq|fail)[*,Yb,Tryz.f167,h189,h1,h2])|refine Ye ?_|refine Zx ?_|refine Zn ?_ ?_))
 .simp only [Rt.mk',Bool.true_and,true_and,and_self,and_true];by_cases h0:n=0
  .subst h0;simp[V6]
  .have hg':n / Nat.gcd n d≠0:=Nat.div_gcd_ne_zero' (by omega)
   have e1:(Zf (n / Nat.gcd n d)==[48])=false:=by
    rw[beq_eq_false_iff_ne];intro e;exact hg' (Ti.1 e)
   rw[e1];simp[h0]
 .simp [Rt.mk']
theorem Zsy (r:Rt)(h1:(Zf r.num).length<=2^20)(h2:(Zf r.den).length<=2^20):Xq vE 168 [encR r] (.str r.text):=by
 intro K H;refine Wc Tryz.func168 ?_
 (refine Zm ?_;repeat'(first|(refine Zi fun _=>?_;try simp(disch:=first|exact Zq|fail)[*,Yb,Tryz.f168])|refine Ye ?_|refine Zx ?_|refine Zn ?_ ?_))
 all_goals simp_all[Rt.text,Zku]
def Tq (a:Y9):Y9:=if a.head?=some 45 then a.tail else a
def Tx (a:Y9):Y9:=(Tq a).takeWhile (fun c=>!(c==47))
def Uu (a:Y9):Y9:=if 47∈Tq a then ((Tq a).dropWhile (fun c=>!(c==47))).tail else [49]
def Zam (a:Y9):Bool:=decide (a.head?=some 45)
def Zae (a:Y9):Bool:=Ui (Tx a)&&Ui (Uu a)&&!(Uu a==[48])&&(So (Tx a)==Tx a)&&(So (Uu a)==Uu a)&&((Rt.mk' (Zam a) (Yo (Tx a)) (Yo (Uu a))).text==a)
def Zah (a:Y9):PV:=if Zae a then .tuple [.agg [.bool (Zam a),.str (Tx a),.str (Uu a)],.bool true] else .tuple [.agg [.bool false,.str [],.str []],.bool false]
theorem Zlv (a:Y9)(ha:a.length<=2^19):Xq vE 144 [.str a] (Zah a):=by
 have hbl:∀m,below m 4 (Zah a)=true:=fun m=>by unfold Zah;split<;>simp
 intro K H;refine Wc Tryz.func144 ?_
 (refine Zbb ?_;((try simp(disch:=first|exact Zq|fail)[*,Yb]);repeat'(first|refine Z8 ?_|refine Z9 ?_|refine Z0 ?_|refine Z1 fun _=>?_|refine Z2 fun _ _=>?_|refine Z3 (fun _=>?_) fun _ _=>?_|refine Z4 fun _=>?_|refine Z5 fun _=>?_|refine Z6 (fun _=>?_) fun _=>?_|refine Z7 (fun _=>?_) fun _=>?_)<;>(try simp(disch:=first|exact Zq|fail)[*,Yb]));all_goals try refine Ru ?_)
 (refine Zbb ?_;((try simp(disch:=first|exact Zq|fail)[*,Yb]);repeat'(first|refine Z8 ?_|refine Z9 ?_|refine Z0 ?_|refine Z1 fun _=>?_|refine Z2 fun _ _=>?_|refine Z3 (fun _=>?_) fun _ _=>?_|refine Z4 fun _=>?_|refine Z5 fun _=>?_|refine Z6 (fun _=>?_) fun _=>?_|refine Z7 (fun _=>?_) fun _=>?_)<;>(try simp(disch:=first|exact Zq|fail)[*,Yb]));all_goals try refine Ru ?_)
 (refine Zbb ?_;((try simp(disch:=first|exact Zq|fail)[*,Yb]);repeat'(first|refine Z8 ?_|refine Z9 ?_|refine Z0 ?_|refine Z1 fun _=>?_|refine Z2 fun _ _=>?_|refine Z3 (fun _=>?_) fun _ _=>?_|refine Z4 fun _=>?_|refine Z5 fun _=>?_|refine Z6 (fun _=>?_) fun _=>?_|refine Z7 (fun _=>?_) fun _=>?_)<;>(try simp(disch:=first|exact Zq|fail)[*,Yb]));all_goals try refine Ru ?_)
 generalize hv1:PH.stamp _ _=v1;generalize hv2:PH.stamp _ _=v2;refine Zxq (fun sl h=>sl 0=some (.str a)/\sl 2=some (.ptr (H.next+2) v1 0)/\sl 4=some (.ptr (H.next+4) v2 0)/\sl 5=some (.str (Tq a))/\h.get (H.next+2)=some (v1,.cells [.bool false,.str [],.str []])/\h.get (H.next+4)=some (v2,.cells [.bool (Zam a),.str [],.str [49]])) ?_ ?_
 .cases a with
  |nil=>(refine Zm ?_;repeat'(first|(refine Zi fun _=>?_;try simp(disch:=first|exact Zq|fail)[*,Yb,Tq,Zam])|refine Ye ?_|refine Zx ?_|refine Zn ?_ ?_))
  |cons c r=>
   (refine Zm ?_;repeat'(first|(refine Zi fun _=>?_;try simp(disch:=first|exact Zq|fail)[*,Yb])|refine Ye ?_|refine Zx ?_|refine Zn ?_ ?_))
   .rename_i h;have:c=45:=by omega
    simp[Tq,Zam,this]
   .rename_i h0 h;have:c≠45:=by omega
    simp[Tq,Zam,this]
 rintro sl h ⟨h0,h2,h4,h5,hg2,hg4⟩;generalize hs:Tq a=s at *;have hsl:s.length<=a.length:=by rw[<- hs,Tq];split<;>simp
 refine Zxq (fun sl h=>sl 0=some (.str a)/\sl 2=some (.ptr (H.next+2) v1 0)/\sl 4=some (.ptr (H.next+4) v2 0)/\sl 5=some (.str (Tx a))/\h.get (H.next+2)=some (v1,.cells [.bool false,.str [],.str []])/\h.get (H.next+4)=some (v2,.cells [.bool (Zam a),.str [],.str (Uu a)])) ?_ ?_
 . (refine Zm ?_;repeat'(first|(refine Zi fun _=>?_;try simp(disch:=first|exact Zq|fail)[*,Yb])|refine Ye ?_|refine Zx ?_|refine Zn ?_ ?_))
   refine Zv [0,2,4] (fun n sl h=>∃i:Nat,n=s.length - i/\i<=s.length/\sl 6=some (.int .i64 i)/\sl 5=some (.str s)/\(∀j (hj:j < s.length),j < i->s[j]≠47)/\h.get (H.next+2)=some (v1,.cells [.bool false,.str [],.str []])/\h.get (H.next+4)=some (v2,.cells [.bool (Zam a),.str [],.str [49]])) s.length rfl ⟨0,by simp[hg2,hg4,h5]⟩ ?_;clear hg2 hg4;rintro n sl2 hh hf ⟨i,hn,hi,h6,h5',hd,hg2,hg4⟩;simp[h0,h2,h4]at hf;replace hd:=Hide.mk hd;replace hs:=Hide.mk hs;by_cases hlt:i < s.length
   . (refine Zm ?_;repeat'(first|(refine Zi fun _=>?_;try simp(disch:=first|exact Zq|fail)[*,Yb])|refine Ye ?_|refine Zx ?_|refine Zn ?_ ?_))
     .rename_i hc;have hc':s[i]=47:=by omega
      have hsp:s=s.take i++47::s.drop (i+1):=by
       conv=>lhs;rw[<- List.take_append_drop i s,List.drop_eq_getElem_cons hlt,hc']
      have hno:∀x∈s.take i,(!(x==47))=true:=fun x hx=>by
       obtain⟨j,hj,rfl⟩:=List.getElem_of_mem hx;rw[List.getElem_take];have:=hd.get j (by simp at hj;omega) (by simp at hj;omega);simpa using this
      have hm:47∈s:=by rw[hsp];simp
      have e1:Tx a=s.take i:=by
       rw[Tx,hs.get]
       conv=>lhs;rw[hsp]
       rw[List.takeWhile_append_of_pos hno];simp
      have e2:Uu a=s.drop (i+1):=by
       rw[Uu,hs.get,if_pos hm]
       conv=>lhs;rw[hsp]
       rw[List.dropWhile_append_of_pos hno];simp
      rw[e1,e2];exact⟨rfl,List.take_of_length_le (by simp)⟩
     .rename_i hc0 hc;refine⟨_,by omega,i+1,rfl,by omega,rfl,fun j hj hji=>?_⟩;by_cases e':j=i
      .subst e';omega
      .exact hd.get j hj (by omega)
   . (refine Zm ?_;repeat'(first|(refine Zi fun _=>?_;try simp(disch:=first|exact Zq|fail)[*,Yb])|refine Ye ?_|refine Zx ?_|refine Zn ?_ ?_))
     have hno:∀x∈s,(!(x==47))=true:=fun x hx=>by
      obtain⟨j,hj,rfl⟩:=List.getElem_of_mem hx;have:=hd.get j hj (by omega);simpa using this
     have hm:47∉s:=fun hm=>by have:=hno 47 hm;simp at this
     have e1:Tx a=s:=by
      rw[Tx,hs.get];have:=List.takeWhile_append_of_pos (p:=fun c=>!(c==47)) (l₁:=s) (l₂:=[]) hno;simpa using this
     rw[e1,Uu,hs.get,if_neg hm];exact⟨rfl,rfl⟩
 clear h0 h2 h4 h5 hg2 hg4;rintro sl h ⟨h0,h2,h4,h5,hg2,hg4⟩
 have hln:(Tx a).length<=a.length:=by
  rw[Tx];have:=(List.takeWhile_prefix (fun c=>!(c==47)) (l:=Tq a)).length_le;have h2:(Tq a).length<=a.length:=by rw[Tq];split<;>simp
  omega
 have hld:(Uu a).length<=a.length+1:=by
  rw[Uu];split
  .have:=(List.dropWhile_suffix (fun c=>!(c==47)) (l:=Tq a)).length_le;have h2:(Tq a).length<=a.length:=by rw[Tq];split<;>simp
   simp;omega
  .simp
 have hX:Ui (Tx a)=true->Ui (Uu a)=true->(Uu a==[48])=false->So (Tx a)=Tx a->So (Uu a)=Uu a->∃N D,0 < D/\Tx a=Zf N/\Uu a=Zf D/\N=Yo (Tx a)/\D=Yo (Uu a):=by
  intro h1 h2 h3 h4 h5;rw[Zes]at h1 h2;refine⟨Yo (Tx a),Yo (Uu a),?_,by rw[<- Uy h1.1 h1.2,h4],by rw[<- Uy h2.1 h2.2,h5],rfl,rfl⟩;rcases Nat.eq_zero_or_pos (Yo (Uu a)) with hz | hz
  .have:=Uy h2.1 h2.2;rw[h5,hz,V6]at this;rw[this]at h3;simp at h3
  .exact hz
 have Zahq:=Z14 (Tx a) (by omega);have Zahp:=Z14 (Uu a) (by omega);have Zaho:=Zc6 (Tx a) (by omega);have Zahn:=Zc6 (Uu a) (by omega);have hP:Zah a=if Zae a then .tuple [.agg [.bool (Zam a),.str (Tx a),.str (Uu a)],.bool true] else .tuple [.agg [.bool false,.str [],.str []],.bool false]:=rfl
 have hRB:Zae a=(Ui (Tx a)&&Ui (Uu a)&&!(Uu a==[48])&&(So (Tx a)==Tx a)&&(So (Uu a)==Uu a)&&((Rt.mk' (Zam a) (Yo (Tx a)) (Yo (Uu a))).text==a)):=rfl;rw[hP];clear hbl hP hs hsl;replace hX:=Hide.mk hX;replace hRB:=Hide.mk hRB;generalize Zam a=sg at *;generalize hnum:Tx a=num at *;generalize hden:Uu a=den at *
 (refine Zbb ?_;((try simp(disch:=first|exact Zq|fail)[*,Yb]);repeat'(first|refine Z8 ?_|refine Z9 ?_|refine Z0 ?_|refine Z1 fun _=>?_|refine Z2 fun _ _=>?_|refine Z3 (fun _=>?_) fun _ _=>?_|refine Z4 fun _=>?_|refine Z5 fun _=>?_|refine Z6 (fun _=>?_) fun _=>?_|refine Z7 (fun _=>?_) fun _=>?_)<;>(try simp(disch:=first|exact Zq|fail)[*,Yb]));all_goals try refine Ru ?_)
 by_cases Ri:Ui num=true/\Ui den=true/\(den==[48])=false/\So num=num/\So den=den
 .obtain ⟨g1,g2,g3,g4,g5⟩:=Ri;obtain⟨N,D,hD,e1,e2,e3,e4⟩:=hX.get g1 g2 g3 g4 g5;have hNl:(Zf N).length<=2^20:=by rw[<- e1];omega
  have hDl:(Zf D).length<=2^20:=by rw[<- e2];omega
  have h167:=Zsz sg N D hD hNl hDl
  have h168:=Zsy (Rt.mk' sg N D) (by
   have:(Rt.mk' sg N D).num<=N:=Nat.div_le_self _ _;have:=Wr this;omega) (by
   have:(Rt.mk' sg N D).den<=D:=Nat.div_le_self _ _;have:=Wr this;omega)
  have hrb:Zae a=((Rt.mk' sg N D).text==a):=by
   rw[hRB.get,g1,g2,g3,g4,g5,<- e3,<- e4];simp
  replace hrb:=Hide.mk hrb;subst e1;subst e2;clear e3 e4 hX hRB
  (refine Zm ?_;repeat'(first|(refine Zi fun _=>?_;try simp(disch:=first|exact Zq|fail)[*,Yb,Zahq,Zahp,Zaho,Zahn])|refine Ye ?_|refine Zx ?_|refine Zn ?_ ?_))
  all_goals (rw[hrb.get];simp[*])
 . (refine Zm ?_;repeat'(first|(refine Zi fun _=>?_;try simp(disch:=first|exact Zq|fail)[*,Yb,Zahq,Zahp,Zaho,Zahn])|refine Ye ?_|refine Zx ?_|refine Zn ?_ ?_))
   all_goals first
    | (exfalso;exact Ri ⟨by assumption,by assumption,by assumption,by assumption,by assumption⟩)
    | (rw[hRB.get];simp[*];done)
    |trace_state
theorem Zlr {n c:Nat}(hc:c < 48\/57 < c):c∉Zf n:=fun h=>by
 have:=Yr.1 (Wu n) c h;omega
theorem Zl1 (n:Nat):So (Zf n)=Zf n:=by rw[Uy (Wu n) (Zbk n),Xo]
theorem Zin (n:Nat):Ui (Zf n)=true:=by rw[Zes];exact⟨Wu n,Zbk n⟩
theorem Z25 {r:Rt}(h:r.Ok):Rt.mk' r.neg r.num r.den=r:=by
 unfold Rt.mk';rw[h.low,Nat.div_one,Nat.div_one]
 have:(r.neg&&!(r.num==0))=r.neg:=by
  cases hn:r.neg with
  |false=>rfl
  |true=>have:=h.sign hn;simp[this]
 rw[this]
theorem Zyh (neg:Bool)(n:Nat){d:Nat}(hd:0 < d):(Rt.mk' neg n d).Ok where
 den:=Nat.div_pos (Nat.gcd_le_right n hd) (Nat.gcd_pos_of_pos_right n hd)
 low:=Nat.coprime_div_gcd_div_gcd (Nat.gcd_pos_of_pos_right n hd)
 sign:=by
  intro h;simp only[Rt.mk',Bool.and_eq_true,Bool.not_eq_true',beq_eq_false_iff_ne]at h;exact Nat.div_gcd_ne_zero' (by omega)
theorem T7 (r:Rt):Tq r.text=Zf r.num++(if r.den=1 then [] else 47::Zf r.den)/\Zam r.text=r.neg:=by
 obtain⟨c,t,hc⟩:∃c t,Zf r.num=c::t:=by
  cases h:Zf r.num with
  |nil=>exact absurd h (Zbk _)
  |cons c t=>exact⟨c,t,rfl⟩
 have h45:c≠45:=fun e=>Zlr (n:=r.num) (c:=45) (by omega) (by rw[hc,e];simp)
 cases hn:r.neg with
 |true=>simp[Tq,Zam,Rt.text,hn]
 |false=>simp[Tq,Zam,Rt.text,hn,hc,h45]
theorem Zl3 (r:Rt):Tx r.text=Zf r.num:=by
 rw[Tx,(T7 r).1]
 have hno:∀x∈Zf r.num,(!(x==47))=true:=fun x hx=>by
  have:x≠47:=fun e=>Zlr (n:=r.num) (c:=47) (by omega) (e ▸ hx)
  simpa using this
 rw[List.takeWhile_append_of_pos hno];split<;>simp
theorem Zl4 {r:Rt}:Uu r.text=Zf r.den:=by
 rw[Uu,(T7 r).1]
 have hno:∀x∈Zf r.num,(!(x==47))=true:=fun x hx=>by
  have:x≠47:=fun e=>Zlr (n:=r.num) (c:=47) (by omega) (e ▸ hx)
  simpa using this
 by_cases hd:r.den=1
 .rw [if_pos hd,if_neg,hd,Zim];simp;exact Zlr (by omega)
 .rw [if_neg hd,if_pos (by simp),List.dropWhile_append_of_pos hno];simp
theorem Zby {r:Rt}(h:r.Ok):Zae r.text=true:=by
 unfold Zae;rw[Zl3,Zl4,(T7 r).2,Xo,Xo,Z25 h,Zin,Zin,Zl1,Zl1]
 have:(Zf r.den==[48])=false:=by
  rw[beq_eq_false_iff_ne];intro e;have:=Ti.1 e;have:=h.den;omega
 rw[this];simp
def Zbq (a:Y9):Rt:=⟨Zam a,Yo (Tx a),Yo (Uu a)⟩
theorem Rl (r:Rt):Zbq r.text=r:=by
 unfold Zbq;rw[Zl3,Zl4,(T7 r).2,Xo,Xo]
theorem Zhi {a:Y9}(h:Zae a=true):(Zbq a).Ok/\a=(Zbq a).text/\Tx a=Zf (Zbq a).num/\Uu a=Zf (Zbq a).den:=by
 have h':=h;unfold Zae at h;simp only[Bool.and_eq_true,Bool.not_eq_true',beq_iff_eq,beq_eq_false_iff_ne]at h;obtain⟨⟨⟨⟨⟨h1,h2⟩,h3⟩,h4⟩,h5⟩,h6⟩:=h;rw[Zes]at h1 h2;have hn:=Uy h1.1 h1.2;have hd:=Uy h2.1 h2.2;rw[h4]at hn;rw[h5]at hd
 have Tz:0 < Yo (Uu a):=by
  rcases Nat.eq_zero_or_pos (Yo (Uu a)) with hz | hz
  .rw [hz,V6]at hd;exact absurd hd h3
  .exact hz
 have e:Zbq a=Rt.mk' (Zam a) (Yo (Tx a)) (Yo (Uu a)):=by
  conv=>lhs;rw[<- h6]
  exact Rl _
 refine⟨by rw[e];exact Zyh _ _ Tz,by rw[e,h6],hn,hd⟩
theorem Zt6 {r s:Rt}(h:r.text=s.text):r=s:=by rw[<- Rl r,h,Rl]
theorem Z6s {r:Rt}(h:r.Ok):Zah r.text=.tuple [encR r,.bool true]:=by
 rw[Zah,if_pos (Zby h),Zl3,Zl4,(T7 r).2]
theorem Zjf {a:Y9}(h:Zae a=false):Zah a=.tuple [.agg [.bool false,.str [],.str []],.bool false]:=by
 rw[Zah,h];rfl
theorem Ziw {r:Rt}(h:r.Ok)(hl:r.text.length<=2^19):Xq vE 144 [.str r.text] (.tuple [encR r,.bool true]):=by
 have:=Zlv r.text hl
 rwa [Z6s h]at this
def Zdx (a:Y9):Int:=if Zae a=false\/(Zbq a).num=0 then 0 else if (Zbq a).neg then -1 else 1
def Ul (a:Y9):Bool:=Zae a&&((Zbq a).den==1)
theorem Z2a (a:Y9)(ha:a.length<=2^19):Xq vE 123 [.str a] (.bool (Zae a)):=by
 have Zfk:=Zlv a ha;intro K H;refine Wc Tryz.func123 ?_;by_cases h:Zae a=true
 .rw [Zah,if_pos h]at Zfk
  (refine Zm ?_;repeat'(first|(refine Zi fun _=>?_;try simp(disch:=first|exact Zq|fail)[*,Yb,Tryz.f123,Zfk])|refine Ye ?_|refine Zx ?_|refine Zn ?_ ?_))
 .simp only [Bool.not_eq_true]at h;rw[Zjf h]at Zfk
  (refine Zm ?_;repeat'(first|(refine Zi fun _=>?_;try simp(disch:=first|exact Zq|fail)[*,Yb,Tryz.f123,Zfk])|refine Ye ?_|refine Zx ?_|refine Zn ?_ ?_))
theorem Zc7 (a:Y9)(ha:a.length<=2^19):Xq vE 122 [.str a] (.bool (Ul a)):=by
 have Zfk:=Zlv a ha;intro K H;refine Wc Tryz.func122 ?_;by_cases h:Zae a=true
 .have hd:=(Zhi h).2.2.2;rw[Zah,if_pos h,hd]at Zfk
  (refine Zm ?_;repeat'(first|(refine Zi fun _=>?_;try simp(disch:=first|exact Zq|fail)[*,Yb,Tryz.f122,Zfk])|refine Ye ?_|refine Zx ?_|refine Zn ?_ ?_))
  rw[Ul,h,Bool.eq_iff_iff];simp[Zku]
 .simp only [Bool.not_eq_true]at h;rw[Zjf h]at Zfk
  (refine Zm ?_;repeat'(first|(refine Zi fun _=>?_;try simp(disch:=first|exact Zq|fail)[*,Yb,Tryz.f122,Zfk])|refine Ye ?_|refine Zx ?_|refine Zn ?_ ?_))
  simp[Ul,h]
theorem Zafp (a:Y9)(ha:a.length<=2^19):Xq vE 145 [.str a] (.int .i64 (Zdx a)):=by
 have Zfk:=Zlv a ha;intro K H;refine Wc Tryz.func145 ?_;by_cases h:Zae a=true
 .have hd:=(Zhi h).2.2.1;rw[Zah,if_pos h,hd]at Zfk
  (refine Zm ?_;repeat'(first|(refine Zi fun _=>?_;try simp(disch:=first|exact Zq|fail)[*,Yb,Tryz.f145,Zfk])|refine Ye ?_|refine Zx ?_|refine Zn ?_ ?_))
  .rename_i e;rw[Zdx,if_pos (Or.inr (Ti.1 e))]
  .rename_i _ e h45;have hn:(Zbq a).neg=true:=by simp[Zbq,Zam,h45]
   rw[Zdx,if_neg (by rw[h];rintro (hh | hh);cases hh;exact e (Ti.2 hh)),if_pos hn]
  .rename_i _ e h45;have hn:(Zbq a).neg=false:=by simp[Zbq,Zam,h45]
   rw[Zdx,if_neg (by rw[h];rintro (hh | hh);cases hh;exact e (Ti.2 hh)),hn];rfl
 .simp only [Bool.not_eq_true]at h;rw[Zjf h]at Zfk
  (refine Zm ?_;repeat'(first|(refine Zi fun _=>?_;try simp(disch:=first|exact Zq|fail)[*,Yb,Tryz.f145,Zfk])|refine Ye ?_|refine Zx ?_|refine Zn ?_ ?_))
  all_goals simp[Zdx,h]
def Rt.mul (r s:Rt):Rt:=Rt.mk' (!(r.neg==s.neg)) (r.num*s.num) (r.den*s.den)
def Rt.div (r s:Rt):Rt:=Rt.mk' (!(r.neg==s.neg)) (r.num*s.den) (r.den*s.num)
def Rt.int (n:Int):Rt:=⟨decide (n < 0),n.natAbs,1⟩
theorem Zea (n:Int):(Rt.int n).text=Zca n:=by
 unfold Rt.int Rt.text Zca;by_cases h:n < 0<;>simp[h]
theorem Zyo (n:Int):(Rt.int n).Ok:=⟨by simp[Rt.int],by simp[Rt.int],by simp[Rt.int];omega⟩
theorem Vq (a b:Nat):(Zf (a*b)).length<=(Zf a).length+(Zf b).length:=by
 have h1:=Wd a;have h2:=Wd b;have h3:=Uh a;refine Qe (by omega) ?_;rw[Nat.pow_add];exact Nat.mul_lt_mul'' h1 h2
theorem V1 (r:Rt):(Zf r.num).length<=r.text.length/\(Zf r.den).length<=r.text.length:=by
 unfold Rt.text;have:=Uh r.num;constructor
 .simp;omega
 .by_cases h:r.den=1
  .rw [h,Zim];simp;omega
  .simp [h];omega
theorem Zle (neg:Bool)(n d:Nat):(Zf (Rt.mk' neg n d).num).length<=(Zf n).length/\(Zf (Rt.mk' neg n d).den).length<=(Zf d).length:=
 ⟨Wr (Nat.div_le_self _ _),Wr (Nat.div_le_self _ _)⟩
theorem Z0b (r:Rt):r.text.length<=(Zf r.num).length+(Zf r.den).length+2:=by
 unfold Rt.text;cases r.neg<;>by_cases h:r.den=1<;>simp[h]<;>omega
theorem Zafo {r s:Rt}(h:r.Ok)(k:s.Ok)(hl:r.text.length<=2^19)(kl:s.text.length<=2^19):Xq vE 150 [.str r.text,.str s.text] (.str (r.mul s).text):=by
 have Zfk:=Ziw h hl;have k144:=Ziw k kl;have h1:=V1 r;have k1:=V1 s;have m1:=Vq r.num s.num;have m2:=Vq r.den s.den;have a1:=Zlu r.num s.num (by omega) (by omega);have a2:=Zlu r.den s.den (by omega) (by omega);have hd:0 < r.den*s.den:=Nat.mul_pos h.den k.den;have a3:=fun b=>Zsz b (r.num*s.num) (r.den*s.den) hd (by omega) (by omega)
 have ml:=Zle (!(r.neg==s.neg)) (r.num*s.num) (r.den*s.den);have a4:=Zsy (Rt.mk' (!(r.neg==s.neg)) (r.num*s.num) (r.den*s.den)) (by show (Zf (Rt.mk' _ _ _).num).length<=_;omega) (by show (Zf (Rt.mk' _ _ _).den).length<=_;omega);clear h1 k1 m1 m2 hd ml hl kl h k;intro K H;refine Wc Tryz.func150 ?_
 (refine Zm ?_;repeat'(first|(refine Zi fun _=>?_;try simp(disch:=first|exact Zq|fail)[*,Yb,Tryz.f150])|refine Ye ?_|refine Zx ?_|refine Zn ?_ ?_))
 rfl
theorem Zafi {r s:Rt}(h:r.Ok)(k:s.Ok)(hl:r.text.length<=2^19)(kl:s.text.length<=2^19)(hs:s.num≠0):Xq vE 164 [.str r.text,.str s.text] (.str (r.div s).text):=by
 have Zfk:=Ziw h hl;have k144:=Ziw k kl;have h1:=V1 r;have k1:=V1 s;have m1:=Vq r.num s.den;have m2:=Vq r.den s.num;have a1:=Zlu r.num s.den (by omega) (by omega);have a2:=Zlu r.den s.num (by omega) (by omega);have hd:0 < r.den*s.num:=Nat.mul_pos h.den (by omega);have a3:=fun b=>Zsz b (r.num*s.den) (r.den*s.num) hd (by omega) (by omega)
 have ml:=Zle (!(r.neg==s.neg)) (r.num*s.den) (r.den*s.num);have a4:=Zsy (Rt.mk' (!(r.neg==s.neg)) (r.num*s.den) (r.den*s.num)) (by show (Zf (Rt.mk' _ _ _).num).length<=_;omega) (by show (Zf (Rt.mk' _ _ _).den).length<=_;omega);have hs':¬ Zf s.num=[48]:=fun e=>hs (Ti.1 e)
 clear h1 k1 m1 m2 hd ml hl kl h k;intro K H;refine Wc Tryz.func164 ?_
 (refine Zm ?_;repeat'(first|(refine Zi fun _=>?_;try simp(disch:=first|exact Zq|fail)[*,Yb,Tryz.f164])|refine Ye ?_|refine Zx ?_|refine Zn ?_ ?_))
 .rename_i e;exact absurd e hs'
 .rfl
end Go.Proofs.YtabcdhcpilpojaaGreatDoor
end
