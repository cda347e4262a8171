/- Functions on names, each once. -/
import Derived.Test.YtabcdhcpilpojaaGreatDoorTm
import Derived.Lib.Bytealg
import Derived.Test.YtabcdhcpilpojaaGreatDoorPD
set_option linter.unusedSimpArgs false
set_option linter.unusedVariables false
section
set_option maxRecDepth 20000
namespace Go.Proofs.YtabcdhcpilpojaaGreatDoor
open Go Go.Pure
open Go.Virt (Ex Ctx Ty TK)
abbrev Yk:=List Nat
def Zzu (f:Nat):List Value->Option Value
 | [.string b,.int .u8 c]=>if Nat.beq f 230 then some (.int .i64 (Lib.indexByte b.data.toList c.toNat.toUInt8)) else none
 | _=>none
noncomputable def vE:Ctx:={vC with ext:=fun f a=>if Nat.beq f 19&&a.isEmpty then some (.bool true) else Zzu f a}
@[simp] theorem vE_T (t:Nat):vE.T t=vC.T t:=by simp only [vE]
@[simp] theorem Zaoj (f:Nat):vE.raw f=vRaw f:=rfl
theorem Zacv (a b:Nat):Nat.beq a b=(a==b):=by rw [Bool.eq_iff_iff];simp
attribute [simp] vRaw Zacv
theorem Z5s:Xr vE 19 [] (.bool true):=by
 intro K H;rw [Vz];rfl
theorem Z4m (es:List Yk)(x:Yk):Vf (es.map fun s=>(.str s,.bool true)) (.str x)=some (if x∈es then some (.bool true) else none):=by
 induction es with
 | nil=>simp
 | cons e es ih=>
   simp only [List.map_cons,Vf,Vv,List.mem_cons];by_cases h:x=e
   .subst h;simp
   .have:(x==e)=false:=by simpa using h
    simp [this,h,ih]
theorem Z7e (es:List Yk)(x:Yk)(h:x∉es):V8 (es.map fun s=>(.str s,.bool true)) (.str x) (.bool true)=some ((es++[x]).map fun s=>(.str s,.bool true)):=by
 induction es with
 | nil=>simp
 | cons e es ih=>
   simp only [List.mem_cons,not_or] at h;have:(x==e)=false:=by simpa using h.1
   simp only [List.map_cons,V8,Vv,this,ih h.2,Option.map_some,List.cons_append]
def Zgd (c:Nat):Bool:=(decide (97<=c)&&decide (c<=122))||(decide (65<=c)&&decide (c<=90))
theorem Z5j (c:Nat):Xr vE 88 [.int .u8 c] (.bool (Zgd c)):=by
 intro K H;refine Zh (fn:=Tryz.f88) rfl Tryz.func88 rfl rfl (by simp) (by simp) ?_ (by simp [*])
 ((try simp (disch:=first|omega|(simp<;>omega)|fail) [*,Ze,Tryz.f88]);repeat'(first|refine Z8 ?_|refine Z9 ?_|refine Z0 ?_|refine Z1 fun _=>?_|refine Z2 fun _ _=>?_|refine Z3 (fun _=>?_) fun _ _=>?_|refine Z4 fun _=>?_|refine Z5 fun _=>?_|refine Z6 (fun _=>?_) fun _=>?_|refine Z7 (fun _=>?_) fun _=>?_)<;>(try simp (disch:=first|omega|(simp<;>omega)|fail) [*,Ze,Tryz.f88]))
 all_goals (rw [Bool.eq_iff_iff];simp [Zgd];omega)
theorem Z2u (b:Bool)(xs:List Yk)(s:Yk)(hn:xs.length < 2^62):Xr vE 84 [L 9 b (xs.map .str),.str s] (.bool (decide (s∈xs))):=by
 intro K H;refine Zh (fn:=Tryz.f84) rfl Tryz.func84 rfl rfl (by simp) (by simp) ?_ (by simp [*])
 ((try simp (disch:=first|omega|(simp<;>omega)|fail) [*,Ze,Tryz.f84]);repeat'(first|refine Z8 ?_|refine Z9 ?_|refine Z0 ?_|refine Z1 fun _=>?_|refine Z2 fun _ _=>?_|refine Z3 (fun _=>?_) fun _ _=>?_|refine Z4 fun _=>?_|refine Z5 fun _=>?_|refine Z6 (fun _=>?_) fun _=>?_|refine Z7 (fun _=>?_) fun _=>?_)<;>(try simp (disch:=first|omega|(simp<;>omega)|fail) [*,Ze,Tryz.f84]))
 refine Zz [0,1] (fun n sl h=>∃ i:Nat,n=xs.length - i/\i<=xs.length/\sl 5=some (.int .i64 i)/\∀ j (hj:j < xs.length),j < i->xs[j]≠s) xs.length rfl ⟨0,by simp⟩ ?_;rintro n sl h hf ⟨i,hn',hi,h5,hd⟩;simp at hf;replace hd:=Hide.mk hd;by_cases hlt:i < xs.length
 . ((try simp (disch:=first|omega|(simp<;>omega)|fail) [*,Ze]);repeat'(first|refine Z8 ?_|refine Z9 ?_|refine Z0 ?_|refine Z1 fun _=>?_|refine Z2 fun _ _=>?_|refine Z3 (fun _=>?_) fun _ _=>?_|refine Z4 fun _=>?_|refine Z5 fun _=>?_|refine Z6 (fun _=>?_) fun _=>?_|refine Z7 (fun _=>?_) fun _=>?_)<;>(try simp (disch:=first|omega|(simp<;>omega)|fail) [*,Ze]))
   .rename_i e;subst e;exact List.getElem_mem hlt
   .rename_i e;refine ⟨_,by omega,i+1,rfl,by omega,rfl,fun j hj hji=>?_⟩;by_cases e':j=i
    .subst e';exact e
    .exact hd.get j hj (by omega)
 . ((try simp (disch:=first|omega|(simp<;>omega)|fail) [*,Ze]);repeat'(first|refine Z8 ?_|refine Z9 ?_|refine Z0 ?_|refine Z1 fun _=>?_|refine Z2 fun _ _=>?_|refine Z3 (fun _=>?_) fun _ _=>?_|refine Z4 fun _=>?_|refine Z5 fun _=>?_|refine Z6 (fun _=>?_) fun _=>?_|refine Z7 (fun _=>?_) fun _=>?_)<;>(try simp (disch:=first|omega|(simp<;>omega)|fail) [*,Ze]))
   intro hm;obtain ⟨j,hj,e⟩:=List.getElem_of_mem hm;exact hd.get j hj (by omega) e
theorem Zaf0 (xs:List Yk)(s:Yk)(hn:xs.length < 2^62):Xr vE 84 [.lst 9 (xs.map .str),.str s] (.bool (decide (s∈xs))):=Z2u false xs s hn
def Ti:List Yk:=[[97,110,100],[111,114],[110,111,116],[105,116,101],[116,114,117,101],[102,97,108,115,101],[108,101,116],[102,111,114,97,108,108],[101,120,105,115,116,115],[100,105,115,116,105,110,99,116],[100,105,118],[109,111,100],[115,101,108,101,99,116],[115,116,111,114,101],[99,111,110,115,116],[66,111,111,108],[73,110,116],[82,101,97,108],[65,114,114,97,121]]
theorem Z5k:Xr vE 87 [] (.lst 9 (Ti.map .str)):=by
 intro K H;refine Zh (fn:=Tryz.f87) rfl Tryz.func87 rfl rfl (by simp) (by simp) ?_ (by simp [*]);simp [Tryz.f87,Zul];rfl
def Zhv (c:Nat):Bool:=Zgd c||c==95||c==36||c==33
def okR (z:Bool)(c:Nat):Bool:=Zhv c||(!z&&((decide (48<=c)&&decide (c<=57))||c==46||c==64))
def Zey:Nat->Yk->Bool
 | _,[]=>true
 | k,c::r=>okR (k==0) c&&Zey (k+1) r
def Yx (s:Yk):Bool:=!(s==[])&&decide (s.length<=40)&&!decide (s∈Ti)&&Zey 0 s
theorem Zv7 {k c:Nat}:okR (k==0) c=true↔Zgd c=true\/c=95\/c=36\/c=33\/(k≠0/\((48<=c/\c<=57)\/c=46\/c=64)):=by
 simp [okR,Zhv];constructor
 .rintro ((((h | h) | h) | h) | h)<;>simp [h];rcases h.2 with (h | h) | h<;>simp [h]
 .rintro (h | h | h | h | ⟨h,h' | h' | h'⟩)<;>simp [*]
theorem Zm2 (s:Yk)(i:Nat)(h:i < s.length):Zey i (s.drop i)=(okR (i==0) s[i]&&Zey (i+1) (s.drop (i+1))):=by
 rw [List.drop_eq_getElem_cons h];rfl
theorem Zvo (s:Yk)(hn:s.length < 2^62):Xr vE 30 [.str s] (.bool (Yx s)):=by
 intro K H;refine Zh (fn:=Tryz.f30) rfl Tryz.func30 rfl rfl (by simp) (by simp) ?_ (by simp [*]);have h84:∀ s,Xr vE 84 [.lst 9 (Ti.map .str),.str s] (.bool (decide (s∈Ti))):=fun s=>Zaf0 Ti s (by decide)
 ((try simp (disch:=first|omega|(simp<;>omega)|fail) [*,Ze,Tryz.f30,Z5k,h84]);repeat'(first|refine Z8 ?_|refine Z9 ?_|refine Z0 ?_|refine Z1 fun _=>?_|refine Z2 fun _ _=>?_|refine Z3 (fun _=>?_) fun _ _=>?_|refine Z4 fun _=>?_|refine Z5 fun _=>?_|refine Z6 (fun _=>?_) fun _=>?_|refine Z7 (fun _=>?_) fun _=>?_)<;>(try simp (disch:=first|omega|(simp<;>omega)|fail) [*,Ze,Tryz.f30,Z5k,h84]))
 .simp [Yx, *]
 .rename_i h;have:¬ s.length<=40:=by omega
  simp [Yx,this]
 .simp [Yx, *]
 rename_i Ys hle hnr;clear h84;refine Zz [0] (fun n sl h=>∃ i:Nat,n=s.length - i/\i<=s.length/\sl 3=some (.int .i64 i)/\Zey 0 s=Zey i (s.drop i)) s.length rfl ⟨0,by simp⟩ ?_;rintro n sl h hf ⟨i,hn',hi,h3,hs⟩;simp at hf;have hle':s.length<=40:=by omega
 have Zme:s≠[]:=by (first|done|omega|(simp at *;done)|(simp at *;omega)|(simp at *;rw [Bool.eq_iff_iff];simp;omega))
 have Zig:Yx s=Zey i (s.drop i):=by simp [Yx,hle',Zme,hnr,hs]
 replace hs:=Hide.mk hs;clear Ys hnr;by_cases hlt:i < s.length
 .rw [Zm2 s i hlt] at Zig;rw [Zig];have Xl:okR (i==0) s[i]=true->(∃ m,m < s.length - i/\∃ i_1:Nat,m=s.length - i_1/\i_1<=s.length/\(i:Int)+1=i_1/\Zey 0 s=Zey i_1 (s.drop i_1)):=fun hk=>⟨s.length - (i+1),by omega,i+1,rfl,by omega,rfl,by rw [hs.get,Zm2 s i hlt,hk];rfl⟩
  generalize hP:Zey (i+1) (s.drop (i+1))=P at *;clear Zig;replace Xl:=Hide.mk Xl
  ((try simp (disch:=first|omega|(simp<;>omega)|fail) [*,Ze,Z5j]);repeat'(first|refine Z8 ?_|refine Z9 ?_|refine Z0 ?_|refine Z1 fun _=>?_|refine Z2 fun _ _=>?_|refine Z3 (fun _=>?_) fun _ _=>?_|refine Z4 fun _=>?_|refine Z5 fun _=>?_|refine Z6 (fun _=>?_) fun _=>?_|refine Z7 (fun _=>?_) fun _=>?_)<;>(try simp (disch:=first|omega|(simp<;>omega)|fail) [*,Ze,Z5j]))
  all_goals first
   | (exfalso;omega)
   | (refine Xl.get ?_
      rw [Zv7]
      first | (left;assumption) | (right;omega))
   | (have hk:¬ okR (i==0) s[i]=true:=by
       rw [Zv7];rintro (hh | hh)
       .simp_all
       .omega
      simp only [Bool.not_eq_true] at hk;simp [hk]
      done)
   | trace_state
 .have:s.drop i=[]:=List.drop_eq_nil_of_le (by omega);rw [this] at Zig
  ((try simp (disch:=first|omega|(simp<;>omega)|fail) [*,Ze,Zig,Zey]);repeat'(first|refine Z8 ?_|refine Z9 ?_|refine Z0 ?_|refine Z1 fun _=>?_|refine Z2 fun _ _=>?_|refine Z3 (fun _=>?_) fun _ _=>?_|refine Z4 fun _=>?_|refine Z5 fun _=>?_|refine Z6 (fun _=>?_) fun _=>?_|refine Z7 (fun _=>?_) fun _=>?_)<;>(try simp (disch:=first|omega|(simp<;>omega)|fail) [*,Ze,Zig,Zey]))
end Go.Proofs.YtabcdhcpilpojaaGreatDoor
end
section
set_option maxRecDepth 20000
namespace Go.Proofs.YtabcdhcpilpojaaGreatDoor
open Go Go.Pure
open Go.Virt (Ex Ctx Ty TK)
def Zi (n:Nat):Yk:=if n < 10 then [48+n] else Zi (n / 10)++[48+n % 10]
def Zud (v:Int)(n:Nat):Nat:=(IntKind.u64.wrap v).toNat % n
theorem Zwa (v:Int){n:Nat}(h:0 < n):Zud v n < n:=Nat.mod_lt _ h
theorem Zaf8 (v:Int)(n:Nat)(h0:0 < n)(hn:n < 2^62):Xr vE 27 [.int .i64 v,.int .i64 n] (.int .i64 (Zud v n)):=by
 intro K H;refine Zh (fn:=Tryz.f27) rfl Tryz.func27 rfl rfl (by simp) (by simp) ?_ (by simp [*]);have h1:IntKind.u64.wrap n=n:=Zmq (by omega) (by omega)
 have h2:(IntKind.u64.wrap v).tmod n=Zud v n:=by
  have:=@wrap_u64 v;rw [Int.tmod_eq_emod_of_nonneg this.1];unfold Zud;rw [Int.natCast_emod,Int.toNat_of_nonneg this.1]
 have h3:IntKind.i64.wrap (Zud v n)=Zud v n:=wrap_i64 (by omega) (by have:=Zwa v h0;omega);have h4:n≠0:=by omega
 ((try simp (disch:=first|omega|(simp<;>omega)|fail) [*,Ze,Tryz.f27,h1,h2,h3]);repeat'(first|refine Z8 ?_|refine Z9 ?_|refine Z0 ?_|refine Z1 fun _=>?_|refine Z2 fun _ _=>?_|refine Z3 (fun _=>?_) fun _ _=>?_|refine Z4 fun _=>?_|refine Z5 fun _=>?_|refine Z6 (fun _=>?_) fun _=>?_|refine Z7 (fun _=>?_) fun _=>?_)<;>(try simp (disch:=first|omega|(simp<;>omega)|fail) [*,Ze,Tryz.f27,h1,h2,h3]))
def Qr (n:Int):Yk:=if n < 0 then 45::Zi n.natAbs else Zi n.natAbs
theorem Zz1 {N m:Nat}{s:Yk}(h1:s=[]->m=N)(h3:s=[]\/if m=0 then s=Zi N else Zi N=Zi m++s)(h:m≠0\/s=[]):
  if m / 10=0 then (48+m % 10)::s=Zi N else Zi N=Zi (m / 10)++(48+m % 10)::s:=by
 have hd:Zi N=Zi m++s:=by
  rcases h3 with h3 | h3
  .rw [h3,h1 h3];simp
  .by_cases hm:m=0
   .rcases h with h | h
    .exact absurd hm h
    .rw [h,h1 h];simp
   .simpa [hm] using h3
 split
 .rename_i hz;rw [hd,Zi,if_pos (by omega),Nat.mod_eq_of_lt (by omega)];rfl
 .rename_i hz;rw [hd]
  conv=>lhs;rw [Zi]
  rw [if_neg (by omega),List.append_assoc];rfl
theorem Sd (n:Int)(hn1 : -4611686018427387904 < n)(hn2:n < 4611686018427387904):Xr vE 38 [.int .i64 n] (.str (Qr n)):=by
 intro K H;refine Zh (fn:=Tryz.f38) rfl Tryz.func38 rfl rfl (by simp) (by simp) ?_ (by simp [*])
 ((try simp (disch:=first|omega|(simp<;>omega)|fail) [*,Ze,Tryz.f38]);repeat'(first|refine Z8 ?_|refine Z9 ?_|refine Z0 ?_|refine Z1 fun _=>?_|refine Z2 fun _ _=>?_|refine Z3 (fun _=>?_) fun _ _=>?_|refine Z4 fun _=>?_|refine Z5 fun _=>?_|refine Z6 (fun _=>?_) fun _=>?_|refine Z7 (fun _=>?_) fun _=>?_)<;>(try simp (disch:=first|omega|(simp<;>omega)|fail) [*,Ze,Tryz.f38]))
 refine Zz [0] (fun q sl h=>∃ (m:Nat) (s:Yk),q=m+(if s=[] then 1 else 0)/\(s=[]->m=n.natAbs)/\m<=n.natAbs/\s.length+m < 2^62/\(s=[]\/(if m=0 then s=Zi n.natAbs else Zi n.natAbs=Zi m++s))/\sl 4=some (.int .i64 (if n < 0 then -(m:Int) else m))/\sl 3=some (.str s)) (n.natAbs+1) rfl ⟨n.natAbs,[],by simp,by simp,by simp,by simp;omega,by simp,?_,by simp⟩ ?_
 .simp;omega
 rintro q sl h hf ⟨m,s,hm,h1,h2,hb,h3,h4,h5⟩;simp at hf
 have hq:((if n < 0 then -(m:Int) else m)).tmod 10=(if n < 0 then -((m % 10:Nat):Int) else ((m % 10:Nat):Int)):=by
  split
  .rw [Int.neg_tmod,Int.tmod_eq_emod_of_nonneg (by omega)];omega
  .rw [Int.tmod_eq_emod_of_nonneg (by omega)];omega
 have hq4:((if n < 0 then -(m:Int) else m)).tdiv 10=(if n < 0 then -((m / 10:Nat):Int) else ((m / 10:Nat):Int)):=by
  split
  .rw [Int.neg_tdiv,Int.tdiv_eq_ediv_of_nonneg (by omega)];omega
  .rw [Int.tdiv_eq_ediv_of_nonneg (by omega)];omega
 have Zakh:(m≠0\/s=[])->(m / 10 < m+if s=[] then 1 else 0)/\(s.length+1)+m / 10 < 4611686018427387904/\(if m / 10=0 then (48+m % 10)::s=Zi n.natAbs else Zi n.natAbs=Zi (m / 10)++(48+m % 10)::s):=fun hh=>by
  refine ⟨?_,?_,Zz1 h1 h3 hh⟩
  .split
   .omega
   .rcases hh with hh | hh
    .omega
    .contradiction
  .rcases hh with hh | hh
   .omega
   .subst hh;simp at hb ⊢;omega
 generalize hv:(if n < 0 then -(m:Int) else m)=v at *;by_cases hneg:n < 0
 all_goals (
  simp only [hneg,if_true,if_false] at hv hq hq4
  ((try simp (disch:=first|omega|(simp<;>omega)|fail) [*,Ze,hq,hq4, -Int.natCast_emod, -Int.natCast_ediv]);repeat'(first|refine Z8 ?_|refine Z9 ?_|refine Z0 ?_|refine Z1 fun _=>?_|refine Z2 fun _ _=>?_|refine Z3 (fun _=>?_) fun _ _=>?_|refine Z4 fun _=>?_|refine Z5 fun _=>?_|refine Z6 (fun _=>?_) fun _=>?_|refine Z7 (fun _=>?_) fun _=>?_)<;>(try simp (disch:=first|omega|(simp<;>omega)|fail) [*,Ze,hq,hq4, -Int.natCast_emod, -Int.natCast_ediv]))
  all_goals first
   | (obtain ⟨F1,F2,F3⟩:=Zakh (by first | (left;omega) | (right;simp_all;done))
      refine ⟨m / 10,F1,m / 10,(48+m % 10)::s,by simp,by simp,by omega,by simpa using F2,Or.inr F3,by omega,by congr 1;omega⟩)
   | (have hs0:s≠[]:=by simp_all
      have hm0:m=0:=by omega
      rcases h3 with h3 | h3
      .exact absurd h3 hs0
      .rw [if_pos hm0] at h3;simp [Qr,hneg,h3])
   | (exfalso;omega)
   | trace_state)
end Go.Proofs.YtabcdhcpilpojaaGreatDoor
end
section
set_option maxRecDepth 20000
namespace Go.Proofs.YtabcdhcpilpojaaGreatDoor
open Go Go.Pure
open Go.Virt (Ex Ctx Ty TK)
def Zbb (xs:List Yk):Bool:=xs.all (fun s=>decide (s.length<=60))&&decide (xs.length<=12)
theorem Z5o (b:Bool)(xs:List Yk)(hn:xs.length < 2^63):Xr vE 26 [L 9 b (xs.map .str)] (.bool (Zbb xs)):=by
 intro K H;refine Zh (fn:=Tryz.f26) rfl Tryz.func26 rfl rfl (by simp) (by simp) ?_ (by simp [*])
 ((try simp (disch:=first|omega|(simp<;>omega)|fail) [*,Ze,Tryz.f26]);repeat'(first|refine Z8 ?_|refine Z9 ?_|refine Z0 ?_|refine Z1 fun _=>?_|refine Z2 fun _ _=>?_|refine Z3 (fun _=>?_) fun _ _=>?_|refine Z4 fun _=>?_|refine Z5 fun _=>?_|refine Z6 (fun _=>?_) fun _=>?_|refine Z7 (fun _=>?_) fun _=>?_)<;>(try simp (disch:=first|omega|(simp<;>omega)|fail) [*,Ze,Tryz.f26]))
 refine Zz [0] (fun n sl h=>∃ i:Nat,n=xs.length - i/\i<=xs.length/\sl 3=some (.int .i64 i)/\∀ j (hj:j < xs.length),j < i->xs[j].length<=60) xs.length rfl ⟨0,by simp⟩ ?_;rintro n sl h hf ⟨i,hn',hi,h3,hd⟩;simp at hf;replace hd:=Hide.mk hd;by_cases hlt:i < xs.length
 . ((try simp (disch:=first|omega|(simp<;>omega)|fail) [*,Ze]);repeat'(first|refine Z8 ?_|refine Z9 ?_|refine Z0 ?_|refine Z1 fun _=>?_|refine Z2 fun _ _=>?_|refine Z3 (fun _=>?_) fun _ _=>?_|refine Z4 fun _=>?_|refine Z5 fun _=>?_|refine Z6 (fun _=>?_) fun _=>?_|refine Z7 (fun _=>?_) fun _=>?_)<;>(try simp (disch:=first|omega|(simp<;>omega)|fail) [*,Ze]))
   .rename_i hb
    have:¬ (xs.all fun s=>decide (s.length<=60))=true:=by
     simp only [List.all_eq_true,decide_eq_true_eq];intro hh;have:=hh xs[i] (List.getElem_mem hlt);omega
    simp [Zbb,this]
   .rename_i hb;refine ⟨_,by omega,i+1,rfl,by omega,rfl,fun j hj hji=>?_⟩;by_cases e':j=i
    .subst e';omega
    .exact hd.get j hj (by omega)
 . ((try simp (disch:=first|omega|(simp<;>omega)|fail) [*,Ze]);repeat'(first|refine Z8 ?_|refine Z9 ?_|refine Z0 ?_|refine Z1 fun _=>?_|refine Z2 fun _ _=>?_|refine Z3 (fun _=>?_) fun _ _=>?_|refine Z4 fun _=>?_|refine Z5 fun _=>?_|refine Z6 (fun _=>?_) fun _=>?_|refine Z7 (fun _=>?_) fun _=>?_)<;>(try simp (disch:=first|omega|(simp<;>omega)|fail) [*,Ze]))
   have:(xs.all fun s=>decide (s.length<=60))=true:=by
    simp only [List.all_eq_true,decide_eq_true_eq];intro c hc;obtain ⟨j,hj,rfl⟩:=List.getElem_of_mem hc;exact hd.get j hj (by omega)
   rw [Zbb,this];simp;omega
theorem Zjm (c:Nat):Xr vE 126 [.int .u8 c] (.bool (Zhv c)):=by
 intro K H;refine Zh (fn:=Tryz.f126) rfl Tryz.func126 rfl rfl (by simp) (by simp) ?_ (by simp [*])
 ((try simp (disch:=first|omega|(simp<;>omega)|fail) [*,Ze,Tryz.f126]);repeat'(first|refine Z8 ?_|refine Z9 ?_|refine Z0 ?_|refine Z1 fun _=>?_|refine Z2 fun _ _=>?_|refine Z3 (fun _=>?_) fun _ _=>?_|refine Z4 fun _=>?_|refine Z5 fun _=>?_|refine Z6 (fun _=>?_) fun _=>?_|refine Z7 (fun _=>?_) fun _=>?_)<;>(try simp (disch:=first|omega|(simp<;>omega)|fail) [*,Ze,Tryz.f126]))
 all_goals (rw [Bool.eq_iff_iff];simp [Zhv,Zgd];omega)
theorem Zxp (s:Yk):Xr vE 127 [.str s] (.bool (decide (s∈Ti))):=by
 intro K H;refine Zh (fn:=Tryz.f127) rfl Tryz.func127 rfl rfl (by simp) (by simp) ?_ (by simp [*])
 ((try simp (disch:=first|omega|(simp<;>omega)|fail) [*,Ze,Tryz.f127]);repeat'(first|refine Z8 ?_|refine Z9 ?_|refine Z0 ?_|refine Z1 fun _=>?_|refine Z2 fun _ _=>?_|refine Z3 (fun _=>?_) fun _ _=>?_|refine Z4 fun _=>?_|refine Z5 fun _=>?_|refine Z6 (fun _=>?_) fun _=>?_|refine Z7 (fun _=>?_) fun _=>?_)<;>(try simp (disch:=first|omega|(simp<;>omega)|fail) [*,Ze,Tryz.f127]))
 all_goals simp_all [Ti]
theorem Zv8 {c:Nat}:okR false c=true↔Zhv c=true\/(48<=c/\c<=57)\/c=46\/c=64:=by
 simp [okR,or_assoc]
theorem Z16 (s:Yk)(k:Nat):Zey (k+1) s=s.all (okR false):=by
 induction s generalizing k with
 | nil=>rfl
 | cons c s ih=>simp [Zey,ih]
theorem Zyo (s:Yk):Yx s=true↔∃ c r,s=c::r/\s.length<=40/\s∉Ti/\Zhv c=true/\∀ d∈s,okR false d=true:=by
 cases s with
 | nil=>simp [Yx]
 | cons c r=>
   simp [Yx,Zey,Z16,okR,and_assoc]
   intros
   left;assumption
theorem Z5l (s:Yk)(hn:s.length < 2^62):Xr vE 85 [.str s] (.bool (Yx s)):=by
 intro K H;refine Zh (fn:=Tryz.f85) rfl Tryz.func85 rfl rfl (by simp) (by simp) ?_ (by simp [*]);cases s with
 | nil=>((try simp (disch:=first|omega|(simp<;>omega)|fail) [*,Ze,Tryz.f85,Yx]);repeat'(first|refine Z8 ?_|refine Z9 ?_|refine Z0 ?_|refine Z1 fun _=>?_|refine Z2 fun _ _=>?_|refine Z3 (fun _=>?_) fun _ _=>?_|refine Z4 fun _=>?_|refine Z5 fun _=>?_|refine Z6 (fun _=>?_) fun _=>?_|refine Z7 (fun _=>?_) fun _=>?_)<;>(try simp (disch:=first|omega|(simp<;>omega)|fail) [*,Ze,Tryz.f85,Yx]))
 | cons c0 s0=>
 have hn':s0.length+1 < 2^62:=hn
 have hno:∀ {P:Prop},(Yx (c0::s0)=true->P)->¬ P->Yx (c0::s0)=false:=fun h1 h2=>by
  cases hh:Yx (c0::s0) with
  | true=>exact absurd (h1 hh) h2
  | false=>rfl
 have hi:=Zyo (c0::s0);have hl:0 < (c0::s0).length:=by simp
 have h0:(c0::s0)[0]'hl=c0:=rfl;replace hi:=Hide.mk hi;replace hno:=Hide.mk @hno;have hS:∀ c r,c0::s0=c::r->c=c0:=fun c r e=>by cases e;rfl
 have hE:(c0::s0).isEmpty=false:=rfl;generalize c0::s0=S at *;replace hS:=Hide.mk hS
 have Qs:∀ (j:Nat) (hj:j < S.length),okR false S[j]=false->Yx S=false:=fun j hj h=>
  hno.get (fun h1=>(hi.get.1 h1)) (by rintro ⟨c,r,_,_,_,_,h5⟩;rw [h5 _ (List.getElem_mem hj)] at h;cases h)
 replace Qs:=Hide.mk Qs
 ((try simp (disch:=first|omega|(simp<;>omega)|fail) [*,Ze,Tryz.f85,Zjm,Zxp]);repeat'(first|refine Z8 ?_|refine Z9 ?_|refine Z0 ?_|refine Z1 fun _=>?_|refine Z2 fun _ _=>?_|refine Z3 (fun _=>?_) fun _ _=>?_|refine Z4 fun _=>?_|refine Z5 fun _=>?_|refine Z6 (fun _=>?_) fun _=>?_|refine Z7 (fun _=>?_) fun _=>?_)<;>(try simp (disch:=first|omega|(simp<;>omega)|fail) [*,Ze,Tryz.f85,Zjm,Zxp]))
 .exact hno.get (fun h1=>(hi.get.1 h1)) (by rintro ⟨c,r,_,h2,_⟩;omega)
 .rename_i h1 h2 h3;exact hno.get (fun h1=>(hi.get.1 h1)) (by rintro ⟨c,r,_,_,h4,_⟩;exact h4 h3)
 rotate_left 1
 .rename_i h1 h2;exact hno.get (fun h1=>(hi.get.1 h1)) (by rintro ⟨c,r,e,_,_,h5,_⟩;rw [hS.get c r e,h2] at h5;cases h5)
 rename_i h1 h2 h3;refine Zz [0,23] (fun n sl h=>∃ i:Nat,n=S.length - i/\i<=S.length/\sl 24=some (.int .i64 i)/\∀ j (hj:j < S.length),j < i->okR false S[j]=true) S.length rfl ⟨0,by simp⟩ ?_;rintro n sl h hf ⟨i,hn',S7,h24,hd⟩;simp at hf;replace hd:=Hide.mk hd;by_cases hlt:i < S.length
 . ((try simp (disch:=first|omega|(simp<;>omega)|fail) [*,Ze,Zjm]);repeat'(first|refine Z8 ?_|refine Z9 ?_|refine Z0 ?_|refine Z1 fun _=>?_|refine Z2 fun _ _=>?_|refine Z3 (fun _=>?_) fun _ _=>?_|refine Z4 fun _=>?_|refine Z5 fun _=>?_|refine Z6 (fun _=>?_) fun _=>?_|refine Z7 (fun _=>?_) fun _=>?_)<;>(try simp (disch:=first|omega|(simp<;>omega)|fail) [*,Ze,Zjm]))
   all_goals first
    | (exfalso;omega)
    | (refine ⟨_,by omega,i+1,rfl,by omega,rfl,fun j hj hji=>?_⟩
       by_cases e':j=i
       .subst e';rw [Zv8];first | (left;assumption) | (right;omega)
       .exact hd.get j hj (by omega))
    | (refine Qs.get i hlt ?_
       rw [Bool.eq_false_iff,Ne,Zv8];rintro (hh | hh)
       .simp_all
       .omega)
 . ((try simp (disch:=first|omega|(simp<;>omega)|fail) [*,Ze]);repeat'(first|refine Z8 ?_|refine Z9 ?_|refine Z0 ?_|refine Z1 fun _=>?_|refine Z2 fun _ _=>?_|refine Z3 (fun _=>?_) fun _ _=>?_|refine Z4 fun _=>?_|refine Z5 fun _=>?_|refine Z6 (fun _=>?_) fun _=>?_|refine Z7 (fun _=>?_) fun _=>?_)<;>(try simp (disch:=first|omega|(simp<;>omega)|fail) [*,Ze]))
   rw [hi.get]
   obtain ⟨c,r,rfl⟩:∃ c r,S=c::r:=by
    cases S with
    | nil=>simp at hl
    | cons c r=>exact ⟨c,r,rfl⟩
   refine ⟨c,r,rfl,by omega,h3,?_,fun d hdm=>?_⟩
   .have:=hS.get c r rfl;rw [this];exact h2
   .obtain ⟨j,hj,rfl⟩:=List.getElem_of_mem hdm;exact hd.get j hj (by omega)
end Go.Proofs.YtabcdhcpilpojaaGreatDoor
end
section
namespace Go.Proofs.YtabcdhcpilpojaaGreatDoor
open Go
def Z86 (c:Nat):Bool:=decide (48<=c)&&decide (c<=57)
theorem Z4x {c:Nat}:Z86 c=true↔48<=c/\c<=57:=by simp [Z86]
def Ss (s:Yk):Bool:=s.all Z86
theorem Ym {s:Yk}:Ss s=true↔∀ c∈s,48<=c/\c<=57:=by simp [Ss,Z4x]
def Ziw (a:Nat)(s:Yk):Nat:=s.foldl (fun a c=>a*10+(c - 48)) a
theorem Ub (a:Nat):Ziw a []=a:=rfl
theorem Up (a c:Nat)(r:Yk):Ziw a (c::r)=Ziw (a*10+(c - 48)) r:=by simp only [Ziw,List.foldl_cons]
def Yj (s:Yk):Nat:=Ziw 0 s
theorem Zqk (a:Nat)(s t:Yk):Ziw a (s++t)=Ziw (Ziw a s) t:=by
 induction s generalizing a with
 | nil=>rfl
 | cons c s ih=>rw [List.cons_append,Up,Up,ih]
theorem Zvw (a:Nat)(s:Yk):Ziw a s=a*10^s.length+Yj s:=by
 induction s generalizing a with
 | nil=>simp [Ub,Yj]
 | cons c s ih=>
   rw [Yj,Up,Up,ih,ih (0*10+(c - 48)),List.length_cons,Nat.pow_succ];generalize 10^s.length=P;rw [Nat.add_mul,Nat.zero_mul,Nat.zero_add,Nat.mul_assoc,Nat.mul_comm 10];omega
theorem So (c:Nat)(s:Yk):Yj (c::s)=(c - 48)*10^s.length+Yj s:=by
 rw [Yj,Up,Zvw];simp
theorem Zh4 (s t:Yk):Yj (s++t)=Yj s*10^t.length+Yj t:=by rw [Yj,Zqk,Zvw];rfl
theorem Uo (s:Yk)(c:Nat):Yj (s++[c])=Yj s*10+(c - 48):=by rw [Zh4];simp [Yj,Ub,Up]
theorem Zfl {s:Yk}(h:Ss s=true):Yj s < 10^s.length:=by
 induction s with
 | nil=>simp [Yj,Ub,Up]
 | cons c s ih=>
   have hc:=(Ym.1 h) c List.mem_cons_self;have hs:Ss s=true:=Ym.2 fun d hd=>Ym.1 h d (List.mem_cons_of_mem _ hd)
   have h1:=ih hs;rw [So,List.length_cons,Nat.pow_succ];have h2:(c - 48)*10^s.length<=9*10^s.length:=Nat.mul_le_mul_right _ (by omega);omega
theorem Zab (n:Nat):Zi n≠[]:=by rw [Zi];split<;>simp
theorem We (n:Nat):Ss (Zi n)=true:=by
 induction n using Nat.strongRecOn with
 | _ n ih=>
   rw [Zi];split
   .rw [Ym];intro c hc;simp at hc;omega
   .have:=ih (n / 10) (by omega);rw [Ym] at this ⊢;intro c hc;rcases List.mem_append.1 hc with h | h
    .exact this c h
    .simp at h;omega
theorem Xa (n:Nat):Yj (Zi n)=n:=by
 induction n using Nat.strongRecOn with
 | _ n ih=>
   rw [Zi];split
   .simp [Yj,Ub,Up]
   .rw [Uo,ih (n / 10) (by omega)];omega
theorem Zc3 {a b:Nat}(h:Zi a=Zi b):a=b:=by rw [<- Xa a,<- Xa b,h]
theorem Zhz (n:Nat):n=0\/∃ c r,Zi n=c::r/\49<=c/\c<=57:=by
 induction n using Nat.strongRecOn with
 | _ n ih=>
   rcases Nat.eq_zero_or_pos n with h | h
   .exact Or.inl h
   .right;rw [Zi];split
    .exact ⟨48+n,[],rfl,by omega,by omega⟩
    .rcases ih (n / 10) (by omega) with h' | ⟨c,r,h1,h2,h3⟩
     .omega
     .exact ⟨c,r++[48+n % 10],by rw [h1];rfl,h2,h3⟩
theorem Vg:Zi 0=[48]:=by rw [Zi,if_pos (by omega)]
theorem Zgw:Zi 1=[49]:=by rw [Zi,if_pos (by omega)]
theorem Vr (n:Nat):1<=(Zi n).length:=by
 cases h:Zi n with
 | nil=>exact absurd h (Zab n)
 | cons c r=>simp
theorem S9 {n k:Nat}(hk:0 < k)(h:n < 10^k):(Zi n).length<=k:=by
 induction k generalizing n with
 | zero=>omega
 | succ k ih=>
   rw [Zi];split
   .simp
   .rcases Nat.eq_zero_or_pos k with rfl | hk'
    .omega
    .rw [Nat.pow_succ] at h;have:=ih hk' (n:=n / 10) (by omega);simp only [List.length_append,List.length_cons,List.length_nil];omega
theorem Xz (n:Nat):n < 10^(Zi n).length:=by
 have:=Zfl (We n)
 rwa [Xa] at this
theorem X9 {a b:Nat}(h:a<=b):(Zi a).length<=(Zi b).length:=by
 rcases Nat.eq_zero_or_pos a with rfl | ha
 .rw [Vg];exact Vr b
 .have h1:=Xz b;exact S9 (Vr b) (by omega)
def Ts:Yk->Yk
 | []=>[]
 | [c]=>[c]
 | c::d::r=>if c=48 then Ts (d::r) else c::d::r
theorem Zny {s:Yk}(h:Ss s=true)(Ys:s≠[])(h0:s=[48]\/∀ r,s≠48::r):Zi (Yj s)=s:=by
 have key:∀ (k:Nat) (s:Yk),s.length=k->Ss s=true->s≠[]->(s=[48]\/∀ r,s≠48::r)->Zi (Yj s)=s:=by
  intro k
  induction k with
  | zero=>intro s hl _ Ys _;exact absurd (List.length_eq_zero_iff.1 hl) Ys
  | succ k ih=>
    intro s hl hd Ys h0;rcases List.eq_nil_or_concat s with rfl | ⟨t,c,rfl⟩
    .exact absurd rfl Ys
    .rw [List.concat_eq_append] at *;have hc:=Ym.1 hd c (by simp);have ht:Ss t=true:=Ym.2 fun d hdd=>Ym.1 hd d (List.mem_append_left _ hdd)
     rw [Uo];by_cases htn:t=[]
     .subst htn;simp only [Yj,Ub,Up,Nat.zero_mul,Nat.zero_add,List.nil_append];rw [Zi,if_pos (by omega)];congr 1;omega
     .have h0t:t=[48]\/∀ r,t≠48::r:=by
       right;rintro r rfl;rcases h0 with h0 | h0
       .simp at h0
       .exact h0 (r++[c]) rfl
      have e:=ih t (by simp at hl;omega) ht htn h0t
      have U9:1<=Yj t:=by
       rcases Nat.eq_zero_or_pos (Yj t) with hz | hz
       .rw [hz,Vg] at e;rcases h0t with h0t | h0t
        .subst h0t;rcases h0 with h0 | h0
         .simp at h0
         .exact absurd rfl (h0 [c])
        .exact absurd e.symm (h0t [])
       .exact hz
      rw [Zi,if_neg (by omega)];have e1:(Yj t*10+(c - 48)) / 10=Yj t:=by omega
      have e2:48+(Yj t*10+(c - 48)) % 10=c:=by omega
      rw [e1,e2,e]
 exact key s.length s rfl h Ys h0
theorem Ud {s:Yk}(h:Ss s=true)(Ys:s≠[]):Ts s=Zi (Yj s):=by
 induction s with
 | nil=>exact absurd rfl Ys
 | cons c s ih=>
   cases s with
   | nil=>
     rw [Ts];refine (Zny h Ys ?_).symm;by_cases hc:c=48
     .left;rw [hc]
     .right;rintro r e;cases e;exact hc rfl
   | cons d r=>
     rw [Ts];split
     .rename_i hc;subst hc;have hs:Ss (d::r)=true:=Ym.2 fun x hx=>Ym.1 h x (List.mem_cons_of_mem _ hx)
      rw [ih hs (by simp),So 48];simp
     .rename_i hc;refine (Zny h Ys ?_).symm;right;rintro r' e;cases e;exact hc rfl
theorem Z64 {s:Yk}(hs:Ss s=true){i:Nat}(h:i < s.length):s[s.length - 1 - i]'(by omega)=48+Yj s / 10^i % 10:=by
 have key:∀ (k:Nat) (s:Yk),s.length=k->Ss s=true->∀ (i:Nat) (h:i < s.length),s[s.length - 1 - i]'(by omega)=48+Yj s / 10^i % 10:=by
  intro k
  induction k with
  | zero=>intro s hl _ i h;omega
  | succ k ih=>
    intro s hl hd i h;rcases List.eq_nil_or_concat s with rfl | ⟨t,c,rfl⟩
    .simp at h
    .simp only [List.concat_eq_append] at *;have hc:=Ym.1 hd c (by simp);have ht:Ss t=true:=Ym.2 fun d hdd=>Ym.1 hd d (List.mem_append_left _ hdd)
     have hlt:t.length=k:=by simpa using hl
     rw [Uo];cases i with
     | zero=>
       have:(t++[c])[(t++[c]).length - 1 - 0]'(by omega)=c:=by simp
       rw [this,Nat.pow_zero,Nat.div_one];omega
     | succ i=>
       have hi:i < t.length:=by simp at h;omega
       have e:=ih t hlt ht i hi
       have e1:(t++[c])[(t++[c]).length - 1 - (i+1)]'(by omega)=t[t.length - 1 - i]'(by omega):=by
        rw [List.getElem_append_left (by simp;omega)];congr 1;simp;omega
       have e2:(Yj t*10+(c - 48)) / 10^(i+1)=(Yj t*10+(c - 48)) / 10 / 10^i:=by
        rw [Nat.pow_succ,Nat.mul_comm (10^i),Nat.div_div_eq_div_mul]
       have:(Yj t*10+(c - 48)) / 10=Yj t:=by omega
       rw [e1,e,e2,this]
 exact key s.length s rfl hs i h
theorem Zjj {a i:Nat}(h:i < (Zi a).length):(Zi a)[(Zi a).length - 1 - i]'(by omega)=48+a / 10^i % 10:=by
 rw [Z64 (We a) h,Xa]
theorem Zhy {a i:Nat}(h:(Zi a).length<=i):a / 10^i=0:=by
 have h1:=Xz a;exact Nat.div_eq_of_lt (Nat.lt_of_lt_of_le h1 (Nat.pow_le_pow_right (by omega) h))
theorem Rp {a i:Nat}(h:(Zi a).length<=i):a % 10^i=a:=by
 have h1:=Xz a;exact Nat.mod_eq_of_lt (Nat.lt_of_lt_of_le h1 (Nat.pow_le_pow_right (by omega) h))
theorem Ro (a i:Nat):a % 10^(i+1)=a % 10^i+(a / 10^i % 10)*10^i:=by
 rw [Nat.mod_pow_succ,Nat.mul_comm]
theorem Z5v {a b c i v:Nat}(h:v+c*10^i=a % 10^i+b % 10^i):
  (c+a / 10^i % 10+b / 10^i % 10) % 10*10^i+v+(c+a / 10^i % 10+b / 10^i % 10) / 10*10^(i+1)=a % 10^(i+1)+b % 10^(i+1):=by
 rw [Ro,Ro,Nat.pow_succ];generalize 10^i=P at *;generalize a / P % 10=x;generalize b / P % 10=y;have e:(c+x+y) / 10*(P*10)=(c+x+y) / 10*10*P:=by rw [Nat.mul_comm P,Nat.mul_assoc]
 have e2:(c+x+y) % 10*P+(c+x+y) / 10*10*P=(c+x+y)*P:=by
  rw [<- Nat.add_mul];congr 1;omega
 have e3:(c+x+y)*P=c*P+x*P+y*P:=by rw [Nat.add_mul,Nat.add_mul]
 omega
theorem Zsr {x b:Nat}(h:x < 10*b):(Zi x).length<=(Zi b).length+1:=by
 have h1:=Xz b;refine S9 (by omega) ?_;rw [Nat.pow_succ];omega
theorem Zio {d:Nat}:Zi d=[49]↔d=1:=by
 constructor
 .intro e;rw [<- Zgw] at e;exact Zc3 e
 .rintro rfl;exact Zgw
theorem Uu {d:Nat}:Zi d=[48]↔d=0:=by
 constructor
 .intro e;rw [<- Vg] at e;exact Zc3 e
 .rintro rfl;exact Vg
end Go.Proofs.YtabcdhcpilpojaaGreatDoor
end
section
set_option maxRecDepth 20000
namespace Go.Proofs.YtabcdhcpilpojaaGreatDoor
open Go Go.Pure
open Go.Virt (Ex Ctx Ty TK)
def Vs (s:Yk):Bool:=Ss s&&!(s==[])
theorem Zek {s:Yk}{i:Nat}(hi:i < s.length)(h:s[i] < 48\/57 < s[i]):Vs s=false:=by
 have:Ss s=false:=by
  rw [<- Bool.not_eq_true,Ym];intro hh;have:=hh s[i] (List.getElem_mem hi);omega
 rw [Vs,this];rfl
theorem Zc4 {s:Yk}:Vs s=true↔Ss s=true/\s≠[]:=by simp [Vs]
theorem Zxj (s:Yk)(hn:s.length < 2^62):Xr vE 165 [.str s] (.bool (Vs s)):=by
 intro K H;refine Zh (fn:=Tryz.f165) rfl Tryz.func165 rfl rfl rfl rfl ?_ rfl
 ((try simp (disch:=first|omega|(simp<;>omega)|fail) [*,Ze,Tryz.f165]);repeat'(first|refine Z8 ?_|refine Z9 ?_|refine Z0 ?_|refine Z1 fun _=>?_|refine Z2 fun _ _=>?_|refine Z3 (fun _=>?_) fun _ _=>?_|refine Z4 fun _=>?_|refine Z5 fun _=>?_|refine Z6 (fun _=>?_) fun _=>?_|refine Z7 (fun _=>?_) fun _=>?_)<;>(try simp (disch:=first|omega|(simp<;>omega)|fail) [*,Ze,Tryz.f165]))
 refine Zz [0] (fun n sl h=>∃ i:Nat,n=s.length - i/\i<=s.length/\sl 3=some (.int .i64 i)/\∀ j (hj:j < s.length),j < i->48<=s[j]/\s[j]<=57) s.length rfl ⟨0,by simp⟩ ?_;rintro n sl h hf ⟨i,hn',hi,h3,hd⟩;simp at hf;replace hd:=Hide.mk hd;by_cases hlt:i < s.length
 . ((try simp (disch:=first|omega|(simp<;>omega)|fail) [*,Ze]);repeat'(first|refine Z8 ?_|refine Z9 ?_|refine Z0 ?_|refine Z1 fun _=>?_|refine Z2 fun _ _=>?_|refine Z3 (fun _=>?_) fun _ _=>?_|refine Z4 fun _=>?_|refine Z5 fun _=>?_|refine Z6 (fun _=>?_) fun _=>?_|refine Z7 (fun _=>?_) fun _=>?_)<;>(try simp (disch:=first|omega|(simp<;>omega)|fail) [*,Ze]))
   .exact Zek hlt (by omega)
   .exact Zek hlt (by omega)
   .refine ⟨_,by omega,i+1,rfl,by omega,rfl,fun j hj hji=>?_⟩;by_cases e:j=i
    .subst e;omega
    .exact hd.get j hj (by omega)
 . ((try simp (disch:=first|omega|(simp<;>omega)|fail) [*,Ze]);repeat'(first|refine Z8 ?_|refine Z9 ?_|refine Z0 ?_|refine Z1 fun _=>?_|refine Z2 fun _ _=>?_|refine Z3 (fun _=>?_) fun _ _=>?_|refine Z4 fun _=>?_|refine Z5 fun _=>?_|refine Z6 (fun _=>?_) fun _=>?_|refine Z7 (fun _=>?_) fun _=>?_)<;>(try simp (disch:=first|omega|(simp<;>omega)|fail) [*,Ze]))
   have:Ss s=true:=Ym.2 fun c hc=>by
    obtain ⟨j,hj,rfl⟩:=List.getElem_of_mem hc;exact hd.get j hj (by omega)
   rw [Vs,this];cases s<;>rfl
theorem Zbn (s:Yk)(hn:s.length < 2^62):Xr vE 166 [.str s] (.str (Ts s)):=by
 intro K H;refine Zh (fn:=Tryz.f166) rfl Tryz.func166 rfl rfl rfl rfl ?_ rfl
 ((try simp (disch:=first|omega|(simp<;>omega)|fail) [*,Ze,Tryz.f166]);repeat'(first|refine Z8 ?_|refine Z9 ?_|refine Z0 ?_|refine Z1 fun _=>?_|refine Z2 fun _ _=>?_|refine Z3 (fun _=>?_) fun _ _=>?_|refine Z4 fun _=>?_|refine Z5 fun _=>?_|refine Z6 (fun _=>?_) fun _=>?_|refine Z7 (fun _=>?_) fun _=>?_)<;>(try simp (disch:=first|omega|(simp<;>omega)|fail) [*,Ze,Tryz.f166]))
 refine Zz [] (fun n sl h=>∃ t:Yk,n=t.length/\t.length<=s.length/\Ts t=Ts s/\sl 0=some (.str t)) s.length rfl ⟨s,by simp⟩ ?_;rintro n sl h hf ⟨t,hn',hl,ht,h0⟩;replace ht:=Hide.mk ht;cases t with
 | nil=>((try simp (disch:=first|omega|(simp<;>omega)|fail) [*,Ze]);repeat'(first|refine Z8 ?_|refine Z9 ?_|refine Z0 ?_|refine Z1 fun _=>?_|refine Z2 fun _ _=>?_|refine Z3 (fun _=>?_) fun _ _=>?_|refine Z4 fun _=>?_|refine Z5 fun _=>?_|refine Z6 (fun _=>?_) fun _=>?_|refine Z7 (fun _=>?_) fun _=>?_)<;>(try simp (disch:=first|omega|(simp<;>omega)|fail) [*,Ze]));exact ht.get.symm
 | cons c t=>
   cases t with
   | nil=>((try simp (disch:=first|omega|(simp<;>omega)|fail) [*,Ze]);repeat'(first|refine Z8 ?_|refine Z9 ?_|refine Z0 ?_|refine Z1 fun _=>?_|refine Z2 fun _ _=>?_|refine Z3 (fun _=>?_) fun _ _=>?_|refine Z4 fun _=>?_|refine Z5 fun _=>?_|refine Z6 (fun _=>?_) fun _=>?_|refine Z7 (fun _=>?_) fun _=>?_)<;>(try simp (disch:=first|omega|(simp<;>omega)|fail) [*,Ze]));exact ht.get
   | cons d r=>
     ((try simp (disch:=first|omega|(simp<;>omega)|fail) [*,Ze]);repeat'(first|refine Z8 ?_|refine Z9 ?_|refine Z0 ?_|refine Z1 fun _=>?_|refine Z2 fun _ _=>?_|refine Z3 (fun _=>?_) fun _ _=>?_|refine Z4 fun _=>?_|refine Z5 fun _=>?_|refine Z6 (fun _=>?_) fun _=>?_|refine Z7 (fun _=>?_) fun _=>?_)<;>(try simp (disch:=first|omega|(simp<;>omega)|fail) [*,Ze]))
     .have:=ht.get;rw [Ts,if_pos (by omega)] at this;exact ⟨r.length+1,by omega,d::r,rfl,by simp at hl ⊢;omega,this,rfl⟩
     .have:=ht.get;rw [Ts,if_neg (by omega)] at this;exact this
theorem Z7s {s t:Yk}(hl:s.length=t.length)(hs:Ss s=true)(ht:Ss t=true):ltL s t=decide (Yj s < Yj t):=by
 induction s generalizing t with
 | nil=>
   cases t with
   | nil=>simp [ltL]
   | cons d t=>simp at hl
 | cons c s ih=>
   cases t with
   | nil=>simp at hl
   | cons d t=>
     have hl':s.length=t.length:=by simpa using hl
     rw [Ym] at hs ht;have hc:=hs c List.mem_cons_self;have hd:=ht d List.mem_cons_self;have hs':Ss s=true:=Ym.2 fun x hx=>hs x (List.mem_cons_of_mem _ hx)
     have ht':Ss t=true:=Ym.2 fun x hx=>ht x (List.mem_cons_of_mem _ hx)
     have b1:=Zfl hs';have b2:=Zfl ht';rw [hl'] at b1;rw [So,So,hl',ltL,ih hl' hs' ht'];generalize hP:10^t.length=P at *;by_cases h1:c < d
     .have e1:Nat.blt c d=true:=by simpa using h1
      rw [e1]
      have:(c - 48)*P+P<=(d - 48)*P:=by
       rw [<- Nat.succ_mul];exact Nat.mul_le_mul_right _ (by omega)
      have:Yj s+(c - 48)*P < (d - 48)*P+Yj t:=by omega
      simp;omega
     .have e1:Nat.blt c d=false:=by
       rw [<- Bool.not_eq_true,Nat.blt_eq];exact h1
      rw [e1];by_cases h2:d < c
      .have e2:Nat.blt d c=true:=by simpa using h2
       rw [e2]
       have:(d - 48)*P+P<=(c - 48)*P:=by
        rw [<- Nat.succ_mul];exact Nat.mul_le_mul_right _ (by omega)
       simp;omega
      .have e2:Nat.blt d c=false:=by
        rw [<- Bool.not_eq_true,Nat.blt_eq];exact h2
       rw [e2];have:c=d:=by omega
       subst this;simp
theorem Zw6 {a b:Nat}(hl:(Zi a).length=(Zi b).length):ltL (Zi a) (Zi b)=decide (a < b):=by
 rw [Z7s hl (We a) (We b),Xa,Xa]
theorem Zbx {a b:Nat}(hl:(Zi a).length < (Zi b).length):a < b:=by
 rcases Nat.lt_or_ge a b with h | h
 .exact h
 .have:=X9 h;omega
def Zlh (a b:Nat):Int:=if a < b then -1 else if a=b then 0 else 1
theorem Z99 (a b:Nat):Xr vE 173 [.str (Zi a),.str (Zi b)] (.int .i64 (Zlh a b)):=by
 intro K H;refine Zh (fn:=Tryz.f173) rfl Tryz.func173 rfl rfl rfl rfl ?_ rfl
 ((try simp (disch:=first|omega|(simp<;>omega)|fail) [*,Ze,Tryz.f173]);repeat'(first|refine Z8 ?_|refine Z9 ?_|refine Z0 ?_|refine Z1 fun _=>?_|refine Z2 fun _ _=>?_|refine Z3 (fun _=>?_) fun _ _=>?_|refine Z4 fun _=>?_|refine Z5 fun _=>?_|refine Z6 (fun _=>?_) fun _=>?_|refine Z7 (fun _=>?_) fun _=>?_)<;>(try simp (disch:=first|omega|(simp<;>omega)|fail) [*,Ze,Tryz.f173]))
 .rename_i h;rw [Zlh,if_pos (Zbx h)]
 .rename_i h1 h2 h3;rw [Zw6 (by omega)] at h3;rw [Zlh,if_pos (by simpa using h3)]
 .rename_i h1 h2 h3 h4;have:=Zc3 h4;simp [Zlh,this]
 .rename_i h1 h2 h3 h5 h4;rw [Zw6 (by omega)] at h3;have:a≠b:=fun e=>h4 (by rw [e])
  simp at h3;simp [Zlh,this];omega
 .rename_i h1 h2 h3 h4;have:=Zc3 h4;simp [Zlh,this]
 .rename_i h1 h2 h3 h5 h4;have:b < a:=Zbx (by omega);rw [Zlh,if_neg (by omega),if_neg (by omega)]
theorem Zj3 {α:Type}{n i:Nat}{z x:α}(h:i < n):(List.replicate (n - i) z).set (n - 1 - i) x=List.replicate (n - (i+1)) z++[x]:=by
 obtain ⟨k,rfl⟩:∃ k,n=i+k+1:=⟨n - i - 1,by omega⟩
 have e1:i+k+1 - i=k+1:=by omega
 have e2:i+k+1 - 1 - i=k:=by omega
 have e3:i+k+1 - (i+1)=k:=by omega
 rw [e1,e2,e3,List.replicate_succ'];simp
theorem Zaoh (a b:Nat)(ha:(Zi a).length<=2^20)(hb:(Zi b).length<=2^20):Xr vE 172 [.str (Zi a),.str (Zi b)] (.str (Zi (a+b))):=by
 intro K H;refine Zh (fn:=Tryz.f172) rfl Tryz.func172 rfl rfl rfl rfl ?_ rfl
 ((try simp (disch:=first|omega|(simp<;>omega)|fail) [*,Ze,Tryz.f172]);repeat'(first|refine Z8 ?_|refine Z9 ?_|refine Z0 ?_|refine Z1 fun _=>?_|refine Z2 fun _ _=>?_|refine Z3 (fun _=>?_) fun _ _=>?_|refine Z4 fun _=>?_|refine Z5 fun _=>?_|refine Z6 (fun _=>?_) fun _=>?_|refine Z7 (fun _=>?_) fun _=>?_)<;>(try simp (disch:=first|omega|(simp<;>omega)|fail) [*,Ze,Tryz.f172]))
 generalize hN:max (Zi a).length (Zi b).length=N at *;generalize hv0:H.stamp (H.next+17)=v0
 refine Zz [0,1,5,6] (fun n sl h=>∃ (i c:Nat) (V4:Yk),n=N+1 - i/\i<=N+1/\c<=1/\V4.length=i/\Ss V4=true/\Yj V4+c*10^i=a % 10^i+b % 10^i/\sl 7=some (.int .i64 c)/\sl 8=some (.int .i64 i) /\
  h.get (H.next+17)=some (v0,.row 5 true (List.replicate (N+1 - i) (.int .u8 0)++V4.map fun c=>.int .u8 c))) (N+1) rfl ⟨0,0,[],by simp,by simp,by simp,rfl,rfl,by simp [Yj,Ub,Nat.mod_one],by simp,by simp,by simp⟩ ?_
 rintro n sl h hf ⟨i,c,V4,hn',hi,hc,To,hla,hv,h7,h8,hg⟩;simp at hf;by_cases hiN:i < N+1
 .have Xl:=Z5v hv;replace hv:=Hide.mk hv;have hDA:a / 10^i % 10<=9:=by omega
  have hDB:b / 10^i % 10<=9:=by omega
  have hA:∀ (hia:i < (Zi a).length),(Zi a)[(Zi a).length - 1 - i]'(by omega)=48+a / 10^i % 10:=fun hia=>Zjj hia
  have hB:∀ (hia:i < (Zi b).length),(Zi b)[(Zi b).length - 1 - i]'(by omega)=48+b / 10^i % 10:=fun hia=>Zjj hia
  have Vi:¬ i < (Zi a).length->a / 10^i % 10=0:=fun hia=>by rw [Zhy (by omega)]
  have hB':¬ i < (Zi b).length->b / 10^i % 10=0:=fun hia=>by rw [Zhy (by omega)]
  generalize a / 10^i % 10=dA at *;generalize b / 10^i % 10=dB at *;have hq:∀ x:Nat,(x:Int).tmod 10=((x % 10:Nat):Int):=fun x=>by rw [Int.tmod_eq_emod_of_nonneg (by omega)];omega
  have hd:∀ x:Nat,(x:Int).tdiv 10=((x / 10:Nat):Int):=fun x=>by rw [Int.tdiv_eq_ediv_of_nonneg (by omega)];omega
  have e1:∀ x:Int,x=((c+dA+dB:Nat):Int)->IntKind.i64.wrap (x.tdiv 10)=(((c+dA+dB) / 10:Nat):Int):=fun x hx=>by
   rw [hx,hd,Zqb (by omega) (by omega)]
  have e2:∀ x:Int,x=((c+dA+dB:Nat):Int)->(List.replicate (N+1 - i) (PV.int IntKind.u8 0)).set (N+1 - 1 - i) (PV.int IntKind.u8 (IntKind.u8.wrap (IntKind.i64.wrap (48+x.tmod 10))))++List.map (fun c:Nat=>PV.int IntKind.u8 c) V4=List.replicate (N+1 - (i+1)) (.int .u8 0)++List.map (fun c:Nat=>PV.int IntKind.u8 c) ((48+(c+dA+dB) % 10)::V4):=fun x hx=>by
   rw [hx,hq,Zqb (by omega) (by omega),Z04 (by omega) (by omega),Zj3 (n:=N+1) (by omega)];simp
  have Wa:∀ x y:Int,x=((c+dA+dB:Nat):Int)->y=((c+dA+dB:Nat):Int)->∃ m,m < N+1 - i/\∃ i_1:Nat,m=N+1 - i_1/\i_1<=N+1/\∃ c1:Nat,c1<=1/\∃ l1:Yk,l1.length=i_1/\Ss l1=true/\Yj l1+c1*10^i_1=a % 10^i_1+b % 10^i_1/\IntKind.i64.wrap (x.tdiv 10)=c1/\(i:Int)+1=i_1 /\
    (List.replicate (N+1 - i) (PV.int IntKind.u8 0)).set (N - i) (PV.int IntKind.u8 (IntKind.u8.wrap (IntKind.i64.wrap (48+y.tmod 10))))++List.map (fun c:Nat=>PV.int IntKind.u8 c) V4=List.replicate (N+1 - i_1) (.int .u8 0)++List.map (fun c:Nat=>PV.int IntKind.u8 c) l1:=fun x y hx hy=>
   ⟨N - i,by omega,i+1,by omega,by omega,(c+dA+dB) / 10,by omega,(48+(c+dA+dB) % 10)::V4,by simp;omega,by
    rw [Ym] at hla ⊢;intro d hd;rcases List.mem_cons.1 hd with rfl | hd
    .omega
    .exact hla d hd,by rw [So,To];have:=Xl;simpa using this,e1 x hx,by omega,e2 y hy⟩
  replace Wa:=Hide.mk Wa;clear e1 e2 hq hd Xl;by_cases hia:i < (Zi a).length
  .by_cases hib:i < (Zi b).length
   .have hA:=hA hia;have hB:=hB hib;clear Vi hB'
    ((try simp (disch:=first|omega|(simp<;>omega)|fail) [*,Ze]);repeat'(first|refine Z8 ?_|refine Z9 ?_|refine Z0 ?_|refine Z1 fun _=>?_|refine Z2 fun _ _=>?_|refine Z3 (fun _=>?_) fun _ _=>?_|refine Z4 fun _=>?_|refine Z5 fun _=>?_|refine Z6 (fun _=>?_) fun _=>?_|refine Z7 (fun _=>?_) fun _=>?_)<;>(try simp (disch:=first|omega|(simp<;>omega)|fail) [*,Ze]))
    refine Wa.get _ _ ?_ ?_<;>omega
   .have hA:=hA hia;have hB:=hB' hib;clear Vi hB'
    ((try simp (disch:=first|omega|(simp<;>omega)|fail) [*,Ze]);repeat'(first|refine Z8 ?_|refine Z9 ?_|refine Z0 ?_|refine Z1 fun _=>?_|refine Z2 fun _ _=>?_|refine Z3 (fun _=>?_) fun _ _=>?_|refine Z4 fun _=>?_|refine Z5 fun _=>?_|refine Z6 (fun _=>?_) fun _=>?_|refine Z7 (fun _=>?_) fun _=>?_)<;>(try simp (disch:=first|omega|(simp<;>omega)|fail) [*,Ze]))
    refine Wa.get _ _ ?_ ?_<;>omega
  .by_cases hib:i < (Zi b).length
   .have hA:=Vi hia;have hB:=hB hib;clear Vi hB'
    ((try simp (disch:=first|omega|(simp<;>omega)|fail) [*,Ze]);repeat'(first|refine Z8 ?_|refine Z9 ?_|refine Z0 ?_|refine Z1 fun _=>?_|refine Z2 fun _ _=>?_|refine Z3 (fun _=>?_) fun _ _=>?_|refine Z4 fun _=>?_|refine Z5 fun _=>?_|refine Z6 (fun _=>?_) fun _=>?_|refine Z7 (fun _=>?_) fun _=>?_)<;>(try simp (disch:=first|omega|(simp<;>omega)|fail) [*,Ze]))
    refine Wa.get _ _ ?_ ?_<;>omega
   .have hA:=Vi hia;have hB:=hB' hib;clear Vi hB'
    ((try simp (disch:=first|omega|(simp<;>omega)|fail) [*,Ze]);repeat'(first|refine Z8 ?_|refine Z9 ?_|refine Z0 ?_|refine Z1 fun _=>?_|refine Z2 fun _ _=>?_|refine Z3 (fun _=>?_) fun _ _=>?_|refine Z4 fun _=>?_|refine Z5 fun _=>?_|refine Z6 (fun _=>?_) fun _=>?_|refine Z7 (fun _=>?_) fun _=>?_)<;>(try simp (disch:=first|omega|(simp<;>omega)|fail) [*,Ze]))
    have hh:=Wa.get c c (by omega) (by omega);simpa (disch:=omega) [Zqb,Z04,Nat.sub_eq_zero_of_le] using hh
 .have hi1:i=N+1:=by omega
  subst hi1
  have hc0:Yj V4=a+b:=by
   rw [Rp (by omega),Rp (by omega)] at hv;have h1:=Xz a;have h2:=Xz b;have h3:10^(Zi a).length<=10^N:=Nat.pow_le_pow_right (by omega) (by omega);have h4:10^(Zi b).length<=10^N:=Nat.pow_le_pow_right (by omega) (by omega);rw [Nat.pow_succ] at hv;generalize 10^N=P at *;rcases Nat.eq_zero_or_pos c with rfl | h5
   .omega
   .have:c=1:=by omega
    subst this;omega
  have hbp:Zk.bytesP (List.take (N+1) (V4.map fun c:Nat=>PV.int .u8 (c:Int)))=some V4:=by
   rw [List.take_of_length_le (by simp;omega)];exact Zbl fun d hd=>by have:=Ym.1 hla d hd;omega
  have Zay:=Zbn V4 (by omega);rw [Ud hla (by intro e;rw [e] at To;simp at To),hc0] at Zay;replace hv:=Hide.mk hv
  ((try simp (disch:=first|omega|(simp<;>omega)|fail) [*,Ze,hbp,Zay]);repeat'(first|refine Z8 ?_|refine Z9 ?_|refine Z0 ?_|refine Z1 fun _=>?_|refine Z2 fun _ _=>?_|refine Z3 (fun _=>?_) fun _ _=>?_|refine Z4 fun _=>?_|refine Z5 fun _=>?_|refine Z6 (fun _=>?_) fun _=>?_|refine Z7 (fun _=>?_) fun _=>?_)<;>(try simp (disch:=first|omega|(simp<;>omega)|fail) [*,Ze,hbp,Zay]))
theorem Z1h {a b c d e i v:Nat}(h:v+b % 10^i=a % 10^i+c*10^i)(he:d+b / 10^i % 10+c=a / 10^i % 10+10*e):
  d*10^i+v+b % 10^(i+1)=a % 10^(i+1)+e*10^(i+1):=by
 rw [Ro,Ro,Nat.pow_succ];generalize 10^i=P at *;generalize a / P % 10=x at *;generalize b / P % 10=y at *;have e1:e*(P*10)=10*e*P:=by rw [Nat.mul_comm P,<- Nat.mul_assoc,Nat.mul_comm e]
 have e2:(d+y+c)*P=d*P+y*P+c*P:=by rw [Nat.add_mul,Nat.add_mul]
 have e3:(x+10*e)*P=x*P+10*e*P:=by rw [Nat.add_mul]
 rw [he] at e2;omega
theorem Z98 (a b:Nat)(hab:b<=a)(ha:(Zi a).length<=2^21):Xr vE 174 [.str (Zi a),.str (Zi b)] (.str (Zi (a - b))):=by
 have hb:=X9 hab;intro K H;refine Zh (fn:=Tryz.f174) rfl Tryz.func174 rfl rfl (by simp) (by simp) ?_ (by simp [*])
 ((try simp (disch:=first|omega|(simp<;>omega)|fail) [*,Ze,Tryz.f174]);repeat'(first|refine Z8 ?_|refine Z9 ?_|refine Z0 ?_|refine Z1 fun _=>?_|refine Z2 fun _ _=>?_|refine Z3 (fun _=>?_) fun _ _=>?_|refine Z4 fun _=>?_|refine Z5 fun _=>?_|refine Z6 (fun _=>?_) fun _=>?_|refine Z7 (fun _=>?_) fun _=>?_)<;>(try simp (disch:=first|omega|(simp<;>omega)|fail) [*,Ze,Tryz.f174]))
 generalize hN:(Zi a).length=N at *;generalize hv0:PH.stamp _ _=v0
 refine Zz [0,1,5] (fun n sl h=>∃ (i c:Nat) (V4:Yk),n=N - i/\i<=N/\c<=1/\V4.length=i/\Ss V4=true/\Yj V4+b % 10^i=a % 10^i+c*10^i/\sl 6=some (.int .i64 c)/\sl 7=some (.int .i64 i) /\
  h.get (H.next+11)=some (v0,.row 5 true (List.replicate (N - i) (.int .u8 0)++V4.map fun c:Nat=>.int .u8 c))) N rfl ⟨0,0,[],by simp,by simp,by simp,rfl,rfl,by simp [Yj,Ub,Nat.mod_one],by simp,by simp,by simp⟩ ?_
 rintro n sl h hf ⟨i,c,V4,hn',hi,hc,To,hla,hv,h6,h7,hg⟩;simp at hf;by_cases hiN:i < N
 .have Xl:=fun d e=>Z1h (d:=d) (e:=e) hv
  replace hv:=Hide.mk hv;replace Xl:=Hide.mk Xl
  have hA:(Zi a)[N - 1 - i]'(by omega)=48+a / 10^i % 10:=by
   have:=Zjj (a:=a) (i:=i) (by omega);simpa [hN] using this
  have hB:∀ (hia:i < (Zi b).length),(Zi b)[(Zi b).length - 1 - i]'(by omega)=48+b / 10^i % 10:=fun hia=>Zjj hia
  have hB':¬ i < (Zi b).length->b / 10^i % 10=0:=fun hia=>by rw [Zhy (by omega)]
  have hDA:a / 10^i % 10<=9:=by omega
  have hDB:b / 10^i % 10<=9:=by omega
  have Wa:∀ (x E:Int) (d e:Nat),x=48+d->E=e->d<=9->e<=1->d+b / 10^i % 10+c=a / 10^i % 10+10*e->∃ m,m < N - i/\∃ i_1:Nat,m=N - i_1/\i_1<=N/\∃ c1:Nat,c1<=1/\∃ l1:Yk,l1.length=i_1/\Ss l1=true/\Yj l1+b % 10^i_1=a % 10^i_1+c1*10^i_1/\E=c1/\(i:Int)+1=i_1 /\
    (List.replicate (N - i) (PV.int IntKind.u8 0)).set (N - 1 - i) (PV.int IntKind.u8 x)++List.map (fun c:Nat=>PV.int IntKind.u8 c) V4=List.replicate (N - i_1) (.int .u8 0)++List.map (fun c:Nat=>PV.int IntKind.u8 c) l1:=fun x E d e hx hE hd he hde=>
   ⟨N - (i+1),by omega,i+1,rfl,by omega,e,he,(48+d)::V4,by simp;omega,by
    rw [Ym] at hla ⊢;intro d hd;rcases List.mem_cons.1 hd with rfl | hd
    .omega
    .exact hla d hd,by rw [So,To];have:=Xl.get d e hde;simpa using this,hE,by omega,by rw [hx,Zj3 (n:=N) hiN];simp⟩
  replace Wa:=Hide.mk Wa;generalize a / 10^i % 10=dA at *;generalize b / 10^i % 10=dB at *;by_cases hib:i < (Zi b).length
  .have hB:=hB hib;clear hB'
   ((try simp (disch:=first|omega|(simp<;>omega)|fail) [*,Ze]);repeat'(first|refine Z8 ?_|refine Z9 ?_|refine Z0 ?_|refine Z1 fun _=>?_|refine Z2 fun _ _=>?_|refine Z3 (fun _=>?_) fun _ _=>?_|refine Z4 fun _=>?_|refine Z5 fun _=>?_|refine Z6 (fun _=>?_) fun _=>?_|refine Z7 (fun _=>?_) fun _=>?_)<;>(try simp (disch:=first|omega|(simp<;>omega)|fail) [*,Ze]))
   .refine Wa.get _ _ (10+dA - c - dB) 1 ?_ ?_ ?_ ?_ ?_<;>omega
   .refine Wa.get _ _ (dA - c - dB) 0 ?_ ?_ ?_ ?_ ?_<;>omega
  .have hB:=hB' hib;clear hB'
   ((try simp (disch:=first|omega|(simp<;>omega)|fail) [*,Ze]);repeat'(first|refine Z8 ?_|refine Z9 ?_|refine Z0 ?_|refine Z1 fun _=>?_|refine Z2 fun _ _=>?_|refine Z3 (fun _=>?_) fun _ _=>?_|refine Z4 fun _=>?_|refine Z5 fun _=>?_|refine Z6 (fun _=>?_) fun _=>?_|refine Z7 (fun _=>?_) fun _=>?_)<;>(try simp (disch:=first|omega|(simp<;>omega)|fail) [*,Ze]))
   .refine Wa.get _ _ (10+dA - c - dB) 1 ?_ ?_ ?_ ?_ ?_<;>omega
   .refine Wa.get _ _ (dA - c - dB) 0 ?_ ?_ ?_ ?_ ?_<;>omega
 .have hi1:i=N:=by omega
  subst hi1
  have hc0:Yj V4=a - b:=by
   rw [Rp (by omega),Rp (by omega)] at hv;have h1:=Zfl hla;rw [To] at h1;generalize 10^i=P at *;rcases Nat.eq_zero_or_pos c with rfl | h5
   .omega
   .have:c=1:=by omega
    subst this;omega
  have hbp:Zk.bytesP (List.take i (V4.map fun c:Nat=>PV.int .u8 (c:Int)))=some V4:=by
   rw [List.take_of_length_le (by simp;omega)];exact Zbl fun d hd=>by have:=Ym.1 hla d hd;omega
  have Zay:=Zbn V4 (by omega);rw [Ud hla (by intro e;have:=Vr a;rw [e] at To;simp at To;omega),hc0] at Zay;replace hv:=Hide.mk hv
  ((try simp (disch:=first|omega|(simp<;>omega)|fail) [*,Ze,hbp,Zay]);repeat'(first|refine Z8 ?_|refine Z9 ?_|refine Z0 ?_|refine Z1 fun _=>?_|refine Z2 fun _ _=>?_|refine Z3 (fun _=>?_) fun _ _=>?_|refine Z4 fun _=>?_|refine Z5 fun _=>?_|refine Z6 (fun _=>?_) fun _=>?_|refine Z7 (fun _=>?_) fun _=>?_)<;>(try simp (disch:=first|omega|(simp<;>omega)|fail) [*,Ze,hbp,Zay]))
end Go.Proofs.YtabcdhcpilpojaaGreatDoor
end
section
set_option maxRecDepth 20000
namespace Go.Proofs.YtabcdhcpilpojaaGreatDoor
open Go Go.Pure
open Go.Virt (Ex Ctx Ty TK)
def Za7 (o:List Nat):Nat:=o.foldl (fun a x=>a*10+x) 0
theorem Zp9:Za7 []=0:=rfl
theorem Zmp (o:List Nat)(x:Nat):Za7 (o++[x])=Za7 o*10+x:=by simp only [Za7,List.foldl_append,List.foldl_cons,List.foldl_nil]
theorem Qy (o p:List Nat):Za7 (o++p)=Za7 o*10^p.length+Za7 p:=by
 rcases List.eq_nil_or_concat p with rfl | ⟨q,x,rfl⟩
 .simp [Zp9]
 .rw [List.concat_eq_append,<- List.append_assoc,Zmp,Qy o q,Zmp];simp only [List.length_append,List.length_cons,List.length_nil,Nat.zero_add,Nat.pow_succ];rw [Nat.add_mul,Nat.mul_assoc];omega
termination_by p.length
decreasing_by all_goals simp_all
theorem Zdc (x:Nat)(o:List Nat):Za7 (x::o)=x*10^o.length+Za7 o:=by
 have:=Qy [x] o;simpa [Za7] using this
theorem Z03 {o:List Nat}{k d:Nat}(hk:k < o.length):Za7 (o.set k (o[k]+d))=Za7 o+d*10^(o.length - 1 - k):=by
 obtain ⟨l,r,e,hl⟩:∃ l r,o=l++o[k]::r/\l.length=k:=⟨o.take k,o.drop (k+1),by simp,by simp;omega⟩
 generalize o[k]=y at *;subst e;have:(l++y::r).set k (y+d)=l++(y+d)::r:=by subst hl;simp
 rw [this,Qy,Qy,Zdc,Zdc];simp only [List.length_append,List.length_cons];have e1:l.length+(r.length+1) - 1 - k=r.length:=by omega
 rw [e1,Nat.add_mul];omega
theorem Zxy (n:Nat):Za7 (List.replicate n 0)=0:=by
 induction n with
 | zero=>rfl
 | succ n ih=>rw [List.replicate_succ,Zdc,ih];simp
theorem Zg8 {s:Yk}{i:Nat}(h:i < s.length):Yj (s.take (i+1))=Yj (s.take i)*10+(s[i] - 48):=by
 rw [List.take_succ_eq_append_getElem h,Uo]
theorem Z2b {A B da db P Q j w:Nat}(h:w=A*10^(P+1)*B+da*10^P*(Q*10^(j+1))):
  w+da*db*10^(P+j)=A*10^(P+1)*B+da*10^P*((Q*10+db)*10^j):=by
 have e0:10^(j+1)=10^j*10:=Nat.pow_succ _ _;have e2:10^(P+j)=10^P*10^j:=Nat.pow_add _ _ _
 have e1:da*10^P*((Q*10+db)*10^j)=da*10^P*(Q*10^(j+1))+da*db*10^(P+j):=by
  rw [e0,e2,Nat.add_mul,Nat.mul_add];have a1:Q*10*10^j=Q*(10^j*10):=by rw [Nat.mul_assoc,Nat.mul_comm 10]
  have a2:da*10^P*(db*10^j)=da*db*(10^P*10^j):=by
   rw [Nat.mul_assoc,Nat.mul_assoc,Nat.mul_left_comm (10^P)]
  rw [a1,a2]
 omega
theorem Zjk (a b:Nat)(ha:(Zi a).length<=2^20)(hb:(Zi b).length<=2^20):Xr vE 171 [.str (Zi a),.str (Zi b)] (.str (Zi (a*b))):=by
 intro K H;refine Zh (fn:=Tryz.f171) rfl Tryz.func171 rfl rfl (by simp) (by simp) ?_ (by simp [*])
 ((try simp (disch:=first|omega|(simp<;>omega)|fail) [*,Ze,Tryz.f171]);repeat'(first|refine Z8 ?_|refine Z9 ?_|refine Z0 ?_|refine Z1 fun _=>?_|refine Z2 fun _ _=>?_|refine Z3 (fun _=>?_) fun _ _=>?_|refine Z4 fun _=>?_|refine Z5 fun _=>?_|refine Z6 (fun _=>?_) fun _=>?_|refine Z7 (fun _=>?_) fun _=>?_)<;>(try simp (disch:=first|omega|(simp<;>omega)|fail) [*,Ze,Tryz.f171]))
 generalize hLa:(Zi a).length=la at *;generalize hLb:(Zi b).length=lb at *;generalize hv0:PH.stamp _ _=v0
 refine Zz [0,1,5] (fun n sl h=>∃ (i:Nat) (o:List Nat),n=la - i/\i<=la/\o.length=la+lb/\(∀ x,x∈o->x<=81*i)/\Za7 o=Yj ((Zi a).take i)*10^(la - i)*b/\sl 6=some (.int .i64 i) /\
  h.get (H.next+17)=some (v0,.row 3 true (o.map fun x:Nat=>.int .i64 x))) la rfl ⟨0,List.replicate (la+lb) 0,by simp,by simp,by simp,by simp,by simp [Zxy,Yj,Ub],by simp,by simp⟩ ?_
 rintro n sl h hf ⟨i,o,hn',hi,hol,U5,hw,h6,hg⟩;simp at hf;replace hw:=Hide.mk hw;replace U5:=Hide.mk U5;by_cases hia:i < la
 .have Zuv:i < (Zi a).length:=by omega
  obtain ⟨dA,hA,hdA⟩:∃ dA,(Zi a)[i]=48+dA/\dA<=9:=⟨(Zi a)[i] - 48,by have:=Ym.1 (We a) _ (List.getElem_mem Zuv);omega,by have:=Ym.1 (We a) _ (List.getElem_mem Zuv);omega⟩
  have htA:=Zg8 Zuv;rw [hA] at htA;replace htA:=Hide.mk htA
  ((try simp (disch:=first|omega|(simp<;>omega)|fail) [*,Ze]);repeat'(first|refine Z8 ?_|refine Z9 ?_|refine Z0 ?_|refine Z1 fun _=>?_|refine Z2 fun _ _=>?_|refine Z3 (fun _=>?_) fun _ _=>?_|refine Z4 fun _=>?_|refine Z5 fun _=>?_|refine Z6 (fun _=>?_) fun _=>?_|refine Z7 (fun _=>?_) fun _=>?_)<;>(try simp (disch:=first|omega|(simp<;>omega)|fail) [*,Ze]))
  refine Zz [0,1,5,6] (fun n sl h=>∃ (j:Nat) (o:List Nat),n=lb - j/\j<=lb/\o.length=la+lb/\(∀ k (hk:k < o.length),o[k]<=81*(i+1)/\(i+j+1<=k->o[k]<=81*i))/\Za7 o=Yj ((Zi a).take i)*10^(la - i)*b+dA*10^(la - 1 - i)*(Yj ((Zi b).take j)*10^(lb - j))/\sl 7=some (.int .i64 j) /\
   h.get (H.next+17)=some (v0,.row 3 true (o.map fun x:Nat=>.int .i64 x))) lb rfl ⟨0,o,by simp,by simp,hol,fun k hk=>by have:=U5.get _ (List.getElem_mem hk);omega,by rw [hw.get];simp [Yj,Ub],by simp,by simp [hg]⟩ ?_
  clear hg;rintro n2 sl2 h2 hf2 ⟨j,o2,hn2,hj,hol2,Rw,Wu,h7,hg⟩;simp [hf,h6] at hf2;replace Wu:=Hide.mk Wu;replace Rw:=Hide.mk Rw;by_cases hjb:j < lb
  .have hjb':j < (Zi b).length:=by omega
   obtain ⟨dB,hB,hdB⟩:∃ dB,(Zi b)[j]=48+dB/\dB<=9:=⟨(Zi b)[j] - 48,by have:=Ym.1 (We b) _ (List.getElem_mem hjb');omega,by have:=Ym.1 (We b) _ (List.getElem_mem hjb');omega⟩
   have htB:=Zg8 hjb';rw [hB] at htB;replace htB:=Hide.mk htB;have hp:dA*dB<=81:=Nat.mul_le_mul hdA hdB;have hp1:(dA:Int)*dB<=81:=by exact_mod_cast hp
   have hp0:0<=(dA:Int)*dB:=by exact_mod_cast Nat.zero_le _
   have hkl:i+j+1 < o2.length:=by omega
   have hk:=(Rw.get (i+j+1) hkl).1;have hk2:=(Rw.get (i+j+1) hkl).2 (by omega);have hix:((i:Int)+j+1).toNat=i+j+1:=by omega
   ((try simp (disch:=first|omega|(simp<;>omega)|fail) [*,Ze]);repeat'(first|refine Z8 ?_|refine Z9 ?_|refine Z0 ?_|refine Z1 fun _=>?_|refine Z2 fun _ _=>?_|refine Z3 (fun _=>?_) fun _ _=>?_|refine Z4 fun _=>?_|refine Z5 fun _=>?_|refine Z6 (fun _=>?_) fun _=>?_|refine Z7 (fun _=>?_) fun _=>?_)<;>(try simp (disch:=first|omega|(simp<;>omega)|fail) [*,Ze]))
   refine ⟨lb - (j+1),by omega,j+1,rfl,by omega,o2.set (i+j+1) (o2[i+j+1]+dA*dB),by simp [hol2],?_,?_,by omega,?_⟩
   .intro k hk3;rw [List.getElem_set];split
    .omega
    .have:=Rw.get k (by simpa using hk3);omega
   .rw [Z03 hkl,htB.get];have e1:o2.length - 1 - (i+j+1)=(la - 1 - i)+(lb - (j+1)):=by omega
    rw [e1]
    have h1:=Z2b (A:=Yj ((Zi a).take i)) (B:=b) (da:=dA) (db:=dB) (P:=la - 1 - i) (Q:=Yj ((Zi b).take j)) (j:=lb - (j+1)) (w:=Za7 o2) (by
     rw [Wu.get];have e2:la - 1 - i+1=la - i:=by omega
     have e3:lb - (j+1)+1=lb - j:=by omega
     rw [e2,e3])
    have e2:la - 1 - i+1=la - i:=by omega
    rw [e2] at h1;rw [h1];congr 4;omega
   .rw [show ((o2[i+j+1]:Nat):Int)+(dA:Int)*dB=((o2[i+j+1]+dA*dB:Nat):Int) by simp];rw [List.map_set]
  .have hjl:j=lb:=by omega
   subst hjl
   ((try simp (disch:=first|omega|(simp<;>omega)|fail) [*,Ze]);repeat'(first|refine Z8 ?_|refine Z9 ?_|refine Z0 ?_|refine Z1 fun _=>?_|refine Z2 fun _ _=>?_|refine Z3 (fun _=>?_) fun _ _=>?_|refine Z4 fun _=>?_|refine Z5 fun _=>?_|refine Z6 (fun _=>?_) fun _=>?_|refine Z7 (fun _=>?_) fun _=>?_)<;>(try simp (disch:=first|omega|(simp<;>omega)|fail) [*,Ze]))
   refine ⟨la - (i+1),by omega,i+1,rfl,by omega,o2,hol2,?_,?_,by omega,rfl⟩
   .intro x hx;obtain ⟨k,hk,rfl⟩:=List.getElem_of_mem hx;exact (Rw.get k hk).1
   .rw [Wu.get,htA.get];have e1:la - i=(la - (i+1))+1:=by omega
    have e2:la - 1 - i=la - (i+1):=by omega
    have e3:(Zi b).take j=Zi b:=List.take_of_length_le (by omega);rw [e1,e2,e3,Xa,Nat.sub_self,Nat.pow_zero,Nat.mul_one,Nat.pow_succ];generalize 10^(la - (i+1))=P;rw [Nat.add_mul,Nat.add_mul];have e4:48+dA - 48=dA:=by omega
    rw [e4];congr 2;rw [Nat.mul_assoc,Nat.mul_comm P]
 .have hi1:i=la:=by omega
  subst hi1
  have hw0:Za7 o=a*b:=by
   rw [hw.get,List.take_of_length_le (by omega),Xa,Nat.sub_self,Nat.pow_zero,Nat.mul_one]
  have hL:o.length=i+lb:=hol;generalize hLL:i+lb=L at *;have hLc:(i:Int)+lb=L:=by omega
  ((try simp (disch:=first|omega|(simp<;>omega)|fail) [*,Ze]);repeat'(first|refine Z8 ?_|refine Z9 ?_|refine Z0 ?_|refine Z1 fun _=>?_|refine Z2 fun _ _=>?_|refine Z3 (fun _=>?_) fun _ _=>?_|refine Z4 fun _=>?_|refine Z5 fun _=>?_|refine Z6 (fun _=>?_) fun _=>?_|refine Z7 (fun _=>?_) fun _=>?_)<;>(try simp (disch:=first|omega|(simp<;>omega)|fail) [*,Ze]))
  generalize hv1:PH.stamp _ _=v1
  refine Zz [5,8] (fun n sl h=>∃ (m c:Nat) (V4:Yk),n=L - m/\m<=L/\c<=100000000/\V4.length=m/\Ss V4=true/\Yj V4+c*10^m=Za7 (o.drop (L - m))/\sl 9=some (.int .i64 c)/\sl 10=some (.int .i64 (L - 1 - m)) /\
   h.get (H.next+52)=some (v1,.row 5 true (List.replicate (L - m) (.int .u8 0)++V4.map fun c:Nat=>.int .u8 c))/\h.get (H.next+17)=some (v0,.row 3 true (o.map fun x:Nat=>.int .i64 x))) L rfl ⟨0,0,[],by simp,by simp,by simp,rfl,rfl,?_,by simp,?_,?_,?_⟩ ?_
  .simp [Yj,Ub,List.drop_eq_nil_of_le (Nat.le_of_eq hL),Zp9]
  .simp
  .simp
  .simp [hg]
  clear hg h6 hv1 hw hn';rintro n2 sl2 h2 hf2 ⟨m,c,V4,hn2,hm,hc,To,hla,hv,h9,h10,hg2,hg⟩;simp at hf2;by_cases hmL:m < L
  .have hkl:L - 1 - m < o.length:=by omega
   have hob3:o[L - 1 - m]<=81*i:=U5.get _ (List.getElem_mem hkl)
   have hdr:o.drop (L - (m+1))=o[L - 1 - m]::o.drop (L - m):=by
    have e1:L - (m+1)=L - 1 - m:=by omega
    have e2:L - m=L - 1 - m+1:=by omega
    rw [e1,e2];exact List.drop_eq_getElem_cons hkl
   have Xl:Yj ((48+(o[L - 1 - m]+c) % 10)::V4)+(o[L - 1 - m]+c) / 10*10^(m+1)=Za7 (o.drop (L - (m+1))):=by
    rw [hdr,Zdc,So,To,<- hv];have e1:(o.drop (L - m)).length=m:=by simp;omega
    have e2:48+(o[L - 1 - m]+c) % 10 - 48=(o[L - 1 - m]+c) % 10:=by omega
    rw [e1,e2,Nat.pow_succ];generalize o[L - 1 - m]=x;generalize 10^m=P;have e3:(x+c) / 10*(P*10)=(x+c) / 10*10*P:=by rw [Nat.mul_comm P,Nat.mul_assoc]
    have e4:(x+c) % 10*P+(x+c) / 10*10*P=(x+c)*P:=by
     rw [<- Nat.add_mul];congr 1;omega
    have e5:(x+c)*P=x*P+c*P:=Nat.add_mul _ _ _;omega
   replace hv:=Hide.mk hv;replace Xl:=Hide.mk Xl;replace hdr:=Hide.mk hdr;have hix:((L:Int) - 1 - m).toNat=L - 1 - m:=by omega
   have hq:∀ x:Nat,(x:Int).tmod 10=((x % 10:Nat):Int):=fun x=>by rw [Int.tmod_eq_emod_of_nonneg (by omega)];omega
   have hd:∀ x:Nat,(x:Int).tdiv 10=((x / 10:Nat):Int):=fun x=>by rw [Int.tdiv_eq_ediv_of_nonneg (by omega)];omega
   have hq2:((o[L - 1 - m]:Int)+c).tmod 10=(((o[L - 1 - m]+c) % 10:Nat):Int):=hq (o[L - 1 - m]+c);have hd2:((o[L - 1 - m]:Int)+c).tdiv 10=(((o[L - 1 - m]+c) / 10:Nat):Int):=hd (o[L - 1 - m]+c);clear hq hd;generalize hx:o[L - 1 - m]=x at *
   ((try simp (disch:=first|omega|(simp<;>omega)|fail) [*,Ze,-Int.natCast_emod, -Int.natCast_ediv, -Int.natCast_add]);repeat'(first|refine Z8 ?_|refine Z9 ?_|refine Z0 ?_|refine Z1 fun _=>?_|refine Z2 fun _ _=>?_|refine Z3 (fun _=>?_) fun _ _=>?_|refine Z4 fun _=>?_|refine Z5 fun _=>?_|refine Z6 (fun _=>?_) fun _=>?_|refine Z7 (fun _=>?_) fun _=>?_)<;>(try simp (disch:=first|omega|(simp<;>omega)|fail) [*,Ze,-Int.natCast_emod, -Int.natCast_ediv, -Int.natCast_add]))
   refine ⟨L - (m+1),by omega,m+1,rfl,by omega,(x+c) / 10,by omega,(48+(x+c) % 10)::V4,by simp;omega,?_,Xl.get,rfl,by omega,?_⟩
   .rw [Ym] at hla ⊢;intro d hd;rcases List.mem_cons.1 hd with rfl | hd
    .omega
    .exact hla d hd
   .rw [Zj3 (n:=L) hmL];simp
  .have hmL':m=L:=by omega
   subst hmL'
   have hc0:Yj V4=a*b:=by
    have e1:m - m=0:=by omega
    rw [e1,List.drop_zero,hw0] at hv;have h1:=Xz a;have h2:=Xz b;have h3:a*b < 10^(Zi a).length*10^(Zi b).length:=Nat.mul_lt_mul'' h1 h2;rw [<- Nat.pow_add,hLa,hLb,hLL] at h3;rcases Nat.eq_zero_or_pos c with rfl | h5
    .omega
    .have:1*10^m<=c*10^m:=Nat.mul_le_mul_right _ h5;omega
   have hbp:Zk.bytesP (List.take m (V4.map fun c:Nat=>PV.int .u8 (c:Int)))=some V4:=by
    rw [List.take_of_length_le (by simp;omega)];exact Zbl fun d hd=>by have:=Ym.1 hla d hd;omega
   have Zay:=Zbn V4 (by omega);rw [Ud hla (by intro e;have:=Vr a;rw [e] at To;simp at To;omega),hc0] at Zay;replace hv:=Hide.mk hv
   ((try simp (disch:=first|omega|(simp<;>omega)|fail) [*,Ze,hbp,Zay]);repeat'(first|refine Z8 ?_|refine Z9 ?_|refine Z0 ?_|refine Z1 fun _=>?_|refine Z2 fun _ _=>?_|refine Z3 (fun _=>?_) fun _ _=>?_|refine Z4 fun _=>?_|refine Z5 fun _=>?_|refine Z6 (fun _=>?_) fun _=>?_|refine Z7 (fun _=>?_) fun _=>?_)<;>(try simp (disch:=first|omega|(simp<;>omega)|fail) [*,Ze,hbp,Zay]))
end Go.Proofs.YtabcdhcpilpojaaGreatDoor
end
section
set_option maxRecDepth 20000
namespace Go.Proofs.YtabcdhcpilpojaaGreatDoor
open Go Go.Pure
open Go.Virt (Ex Ctx Ty TK)
theorem Z88 {a b:Nat}(h:b<=a):(0:Int)<=Zlh a b:=by
 unfold Zlh;split
 .omega
 .split<;>decide
theorem Z87 {a b:Nat}(h:a < b):¬ (0:Int)<=Zlh a b:=by
 rw [Zlh,if_pos h];decide
theorem Zx1 {R c:Nat}(hc:48<=c/\c<=57):Ts (Zi R++[c])=Zi (R*10+(c - 48)):=by
 rw [Ud _ (by simp),Uo,Xa];rw [Ym];intro d hd;rcases List.mem_append.1 hd with h | h
 .exact Ym.1 (We R) d h
 .simp at h;omega
theorem Zpo (a b:Nat)(hb0:0 < b)(ha:(Zi a).length<=2^20)(hb:(Zi b).length<=2^20):Xr vE 190 [.str (Zi a),.str (Zi b)] (.tuple [.str (Zi (a / b)),.str (Zi (a % b))]):=by
 intro K H;refine Zh (fn:=Tryz.f190) rfl Tryz.func190 rfl rfl (by simp) (by simp) ?_ (by simp [*])
 ((try simp (disch:=first|omega|(simp<;>omega)|fail) [*,Ze,Tryz.f190]);repeat'(first|refine Z8 ?_|refine Z9 ?_|refine Z0 ?_|refine Z1 fun _=>?_|refine Z2 fun _ _=>?_|refine Z3 (fun _=>?_) fun _ _=>?_|refine Z4 fun _=>?_|refine Z5 fun _=>?_|refine Z6 (fun _=>?_) fun _=>?_|refine Z7 (fun _=>?_) fun _=>?_)<;>(try simp (disch:=first|omega|(simp<;>omega)|fail) [*,Ze,Tryz.f190]))
 generalize hLa:(Zi a).length=la at *;generalize hv0:PH.stamp _ _=v0
 refine Zz [0,1,6] (fun n sl h=>∃ (i R:Nat) (qs:Yk),n=la - i/\i<=la/\R < b/\qs.length=i/\Ss qs=true/\Yj qs*b+R=Yj ((Zi a).take i)/\sl 8=some (.int .i64 i)/\sl 7=some (.str (Zi R)) /\
  h.get (H.next+12)=some (v0,.row 5 true ((qs.map fun c:Nat=>.int .u8 c)++List.replicate (la - i) (.int .u8 0)))) la rfl ⟨0,0,[],by simp,by simp,hb0,rfl,rfl,by simp [Yj,Ub],by simp,by simp [Vg],by simp⟩ ?_
 rintro n sl h hf ⟨i,R,qs,hn',hi,hR,hql,hqa,hv,h8,h7,hg⟩;simp at hf;have hlen:∀ x,x < 10*b->(Zi x).length<=(Zi b).length+1:=fun x hx=>Zsr hx
 by_cases hia:i < la
 .have Zuv:i < (Zi a).length:=by omega
  have hc:=Ym.1 (We a) _ (List.getElem_mem Zuv);have htA:=Zg8 Zuv
  have Zi1:(List.drop i (Zi a)).take 1=[(Zi a)[i]]:=by
   rw [List.drop_eq_getElem_cons Zuv];rfl
  have Zay:=Zbn (Zi R++[(Zi a)[i]]) (by have:=hlen R (by omega);simp;omega);rw [Zx1 hc] at Zay;have hRl:=hlen R (by omega);replace hlen:=Hide.mk hlen;replace htA:=Hide.mk htA;generalize hca:(Zi a)[i]=c at *
  ((try simp (disch:=first|omega|(simp<;>omega)|fail) [*,Ze,Zi1,Zay]);repeat'(first|refine Z8 ?_|refine Z9 ?_|refine Z0 ?_|refine Z1 fun _=>?_|refine Z2 fun _ _=>?_|refine Z3 (fun _=>?_) fun _ _=>?_|refine Z4 fun _=>?_|refine Z5 fun _=>?_|refine Z6 (fun _=>?_) fun _=>?_|refine Z7 (fun _=>?_) fun _=>?_)<;>(try simp (disch:=first|omega|(simp<;>omega)|fail) [*,Ze,Zi1,Zay]))
  have hX:R*10+(c - 48) < 10*b:=by omega
  generalize hXX:R*10+(c - 48)=X at *;refine Zz [0,1,6,8] (fun n sl h'=>h'=h/\∃ (k R':Nat),n=R'/\R'+k*b=X/\k<=9/\sl 7=some (.str (Zi R'))/\sl 9=some (.int .u8 (48+(k:Int)))) X rfl ⟨rfl,0,X,rfl,by simp,by simp,by simp,by simp⟩ ?_;rintro n2 sl2 h2 hf2 ⟨rfl,k,R',hn2,hk,hk9,h7',h9⟩;simp [hf,h8] at hf2;clear Zay Zi1;replace hv:=Hide.mk hv;have hkb:0<=k*b:=Nat.zero_le _;have hl1:=hlen.get R' (by omega);have Z8t:=Z99 R' b;by_cases hge:b<=R'
  .have hcm:=Z88 hge;have h174:=Z98 R' b hge (by omega)
   have hk8:k+1<=9:=by
    have h1:(k+1)*b < 10*b:=by rw [Nat.add_mul];omega
    have:=Nat.lt_of_mul_lt_mul_right h1;omega
   have hkk:R' - b+(k+1)*b=X:=by rw [Nat.add_mul];omega
   replace hk:=Hide.mk hk;replace hkk:=Hide.mk hkk
   ((try simp (disch:=first|omega|(simp<;>omega)|fail) [*,Ze,Z8t,h174]);repeat'(first|refine Z8 ?_|refine Z9 ?_|refine Z0 ?_|refine Z1 fun _=>?_|refine Z2 fun _ _=>?_|refine Z3 (fun _=>?_) fun _ _=>?_|refine Z4 fun _=>?_|refine Z5 fun _=>?_|refine Z6 (fun _=>?_) fun _=>?_|refine Z7 (fun _=>?_) fun _=>?_)<;>(try simp (disch:=first|omega|(simp<;>omega)|fail) [*,Ze,Z8t,h174]))
   refine ⟨R' - b,by omega,k+1,hkk.get,hk8,?_⟩;exact ⟨rfl,by omega⟩
  .have hcm:=Z87 (Nat.lt_of_not_le hge);replace hk:=Hide.mk hk
   ((try simp (disch:=first|omega|(simp<;>omega)|fail) [*,Ze,Z8t]);repeat'(first|refine Z8 ?_|refine Z9 ?_|refine Z0 ?_|refine Z1 fun _=>?_|refine Z2 fun _ _=>?_|refine Z3 (fun _=>?_) fun _ _=>?_|refine Z4 fun _=>?_|refine Z5 fun _=>?_|refine Z6 (fun _=>?_) fun _=>?_|refine Z7 (fun _=>?_) fun _=>?_)<;>(try simp (disch:=first|omega|(simp<;>omega)|fail) [*,Ze,Z8t]))
   refine ⟨la - (i+1),by omega,i+1,rfl,by omega,R',by omega,qs++[48+k],by simp;omega,?_,?_,by omega,rfl,?_⟩
   .rw [Ym] at hqa ⊢;intro d hd;rcases List.mem_append.1 hd with h | h
    .exact hqa d h
    .simp at h;omega
   .rw [Uo,htA.get,<- hv.get];have e1:48+k - 48=k:=by omega
    have e2:(Yj qs*10+k)*b=Yj qs*b*10+k*b:=by rw [Nat.add_mul,Nat.mul_assoc,Nat.mul_comm 10,<- Nat.mul_assoc]
    rw [e1,e2];have:=hk.get;omega
   .have e1:la - i=(la - (i+1))+1:=by omega
    rw [e1,List.replicate_succ];simp
 .have hi1:i=la:=by omega
  subst hi1;have e1:(Zi a).take i=Zi a:=List.take_of_length_le (by omega);rw [e1,Xa] at hv
  have hq:a / b=Yj qs:=by
   rw [<- hv,Nat.add_comm,Nat.add_mul_div_right _ _ hb0,Nat.div_eq_of_lt hR,Nat.zero_add]
  have hr:a % b=R:=by
   rw [<- hv,Nat.add_comm,Nat.add_mul_mod_self_right,Nat.mod_eq_of_lt hR]
  have hbp:Zk.bytesP (List.take i (qs.map fun c:Nat=>PV.int .u8 (c:Int)))=some qs:=by
   rw [List.take_of_length_le (by simp;omega)];exact Zbl fun d hd=>by have:=Ym.1 hqa d hd;omega
  have Zay:=Zbn qs (by omega);rw [Ud hqa (by intro e;have:=Vr a;rw [e] at hql;simp at hql;omega),<- hq] at Zay;replace hv:=Hide.mk hv
  ((try simp (disch:=first|omega|(simp<;>omega)|fail) [*,Ze,hbp,Zay]);repeat'(first|refine Z8 ?_|refine Z9 ?_|refine Z0 ?_|refine Z1 fun _=>?_|refine Z2 fun _ _=>?_|refine Z3 (fun _=>?_) fun _ _=>?_|refine Z4 fun _=>?_|refine Z5 fun _=>?_|refine Z6 (fun _=>?_) fun _=>?_|refine Z7 (fun _=>?_) fun _=>?_)<;>(try simp (disch:=first|omega|(simp<;>omega)|fail) [*,Ze,hbp,Zay]))
theorem Z93 (a b:Nat)(ha:(Zi a).length<=2^20)(hb:(Zi b).length<=2^20):Xr vE 189 [.str (Zi a),.str (Zi b)] (.str (Zi (Nat.gcd a b))):=by
 intro K H;refine Zh (fn:=Tryz.f189) rfl Tryz.func189 rfl rfl (by simp) (by simp) ?_ (by simp [*])
 ((try simp (disch:=first|omega|(simp<;>omega)|fail) [*,Ze,Tryz.f189]);repeat'(first|refine Z8 ?_|refine Z9 ?_|refine Z0 ?_|refine Z1 fun _=>?_|refine Z2 fun _ _=>?_|refine Z3 (fun _=>?_) fun _ _=>?_|refine Z4 fun _=>?_|refine Z5 fun _=>?_|refine Z6 (fun _=>?_) fun _=>?_|refine Z7 (fun _=>?_) fun _=>?_)<;>(try simp (disch:=first|omega|(simp<;>omega)|fail) [*,Ze,Tryz.f189]))
 refine Zz [] (fun n sl h'=>∃ (x y:Nat),n=y/\(Zi x).length<=2^20/\(Zi y).length<=2^20/\Nat.gcd x y=Nat.gcd a b/\sl 0=some (.str (Zi x))/\sl 1=some (.str (Zi y))) b rfl ⟨a,b,rfl,ha,hb,rfl,by simp,by simp⟩ ?_;rintro n sl h hf ⟨x,y,hn,hx,hy,hg,h0,h1⟩
 have he:(Zi y==[48])=decide (y=0):=by
  rw [Bool.eq_iff_iff];simp only [beq_iff_eq,decide_eq_true_eq];constructor
  .intro e;rw [<- Vg] at e;exact Zc3 e
  .rintro rfl;exact Vg
 by_cases hy0:y=0
 .subst hy0;rw [Nat.gcd_zero_right] at hg;subst hg;simp at he
  ((try simp (disch:=first|omega|(simp<;>omega)|fail) [*,Ze,he]);repeat'(first|refine Z8 ?_|refine Z9 ?_|refine Z0 ?_|refine Z1 fun _=>?_|refine Z2 fun _ _=>?_|refine Z3 (fun _=>?_) fun _ _=>?_|refine Z4 fun _=>?_|refine Z5 fun _=>?_|refine Z6 (fun _=>?_) fun _=>?_|refine Z7 (fun _=>?_) fun _=>?_)<;>(try simp (disch:=first|omega|(simp<;>omega)|fail) [*,Ze,he]))
 .have h190:=Zpo x y (by omega) hx hy;have hml:(Zi (x % y)).length<=(Zi y).length:=X9 (Nat.le_of_lt (Nat.mod_lt _ (by omega)));have hgm:Nat.gcd y (x % y)=Nat.gcd a b:=by rw [<- hg,Nat.gcd_comm x y,Nat.gcd_rec y x,Nat.gcd_comm]
  have hlt:x % y < y:=Nat.mod_lt _ (by omega);replace hg:=Hide.mk hg;simp [hy0] at he
  ((try simp (disch:=first|omega|(simp<;>omega)|fail) [*,Ze,he,h190]);repeat'(first|refine Z8 ?_|refine Z9 ?_|refine Z0 ?_|refine Z1 fun _=>?_|refine Z2 fun _ _=>?_|refine Z3 (fun _=>?_) fun _ _=>?_|refine Z4 fun _=>?_|refine Z5 fun _=>?_|refine Z6 (fun _=>?_) fun _=>?_|refine Z7 (fun _=>?_) fun _=>?_)<;>(try simp (disch:=first|omega|(simp<;>omega)|fail) [*,Ze,he,h190]))
  .rename_i h;exact absurd h he
  .exact ⟨x % y,hlt,y,hy,by omega,hgm,rfl,rfl⟩
structure Rt where
 neg:Bool
 num:Nat
 den:Nat
structure Rt.Ok (r:Rt):Prop where
 den:0 < r.den
 low:Nat.gcd r.num r.den=1
 sign:r.neg=true->r.num≠0
def Rt.mk' (neg:Bool)(n d:Nat):Rt:=⟨neg&&!(n==0),n / Nat.gcd n d,d / Nat.gcd n d⟩
def Rt.text (r:Rt):Yk:=(if r.neg then [45] else [])++Zi r.num++(if r.den=1 then [] else 47::Zi r.den)
abbrev Z85 (r:Rt):PV:=.agg [.bool r.neg,.str (Zi r.num),.str (Zi r.den)]
theorem Z81 {a b:Nat}(hb:0 < b):(Zi (Nat.gcd a b)).length<=(Zi b).length:=X9 (Nat.le_of_dvd hb (Nat.gcd_dvd_right a b))
theorem Nat.div_gcd_ne_zero' {n d:Nat}(h:0 < n):n / Nat.gcd n d≠0:=by
 have h1:Nat.gcd n d<=n:=Nat.gcd_le_left d h;have h2:0 < Nat.gcd n d:=Nat.gcd_pos_of_pos_left _ h;have:=Nat.div_pos h1 h2;omega
theorem Zpq (neg:Bool)(n d:Nat)(hd:0 < d)(hln:(Zi n).length<=2^20)(hld:(Zi d).length<=2^20):Xr vE 167 [.bool neg,.str (Zi n),.str (Zi d)] (Z85 (Rt.mk' neg n d)):=by
 have hg:0 < Nat.gcd n d:=Nat.gcd_pos_of_pos_right _ hd;have h189:=Z93 n d hln hld;have hgl:=Z81 (a:=n) hd;have h1:=Zpo n (Nat.gcd n d) hg hln (by omega);have h2:=Zpo d (Nat.gcd n d) hg hld (by omega);intro K H;refine Zh (fn:=Tryz.f167) rfl Tryz.func167 rfl rfl (by simp) (by simp) ?_ (by simp [*])
 ((try simp (disch:=first|omega|(simp<;>omega)|fail) [*,Ze,Tryz.f167,h189,h1,h2]);repeat'(first|refine Z8 ?_|refine Z9 ?_|refine Z0 ?_|refine Z1 fun _=>?_|refine Z2 fun _ _=>?_|refine Z3 (fun _=>?_) fun _ _=>?_|refine Z4 fun _=>?_|refine Z5 fun _=>?_|refine Z6 (fun _=>?_) fun _=>?_|refine Z7 (fun _=>?_) fun _=>?_)<;>(try simp (disch:=first|omega|(simp<;>omega)|fail) [*,Ze,Tryz.f167,h189,h1,h2]))
 .simp only [Rt.mk',Bool.true_and,true_and,and_self,and_true];by_cases h0:n=0
  .subst h0;simp [Vg]
  .have hg':n / Nat.gcd n d≠0:=Nat.div_gcd_ne_zero' (by omega)
   have e1:(Zi (n / Nat.gcd n d)==[48])=false:=by
    rw [beq_eq_false_iff_ne];intro e;exact hg' (Uu.1 e)
   rw [e1];simp [h0]
 .simp [Rt.mk']
theorem Zpp (r:Rt)(h1:(Zi r.num).length<=2^20)(h2:(Zi r.den).length<=2^20):Xr vE 168 [Z85 r] (.str r.text):=by
 intro K H;refine Zh (fn:=Tryz.f168) rfl Tryz.func168 rfl rfl (by simp) (by simp) ?_ (by simp [*])
 ((try simp (disch:=first|omega|(simp<;>omega)|fail) [*,Ze,Tryz.f168]);repeat'(first|refine Z8 ?_|refine Z9 ?_|refine Z0 ?_|refine Z1 fun _=>?_|refine Z2 fun _ _=>?_|refine Z3 (fun _=>?_) fun _ _=>?_|refine Z4 fun _=>?_|refine Z5 fun _=>?_|refine Z6 (fun _=>?_) fun _=>?_|refine Z7 (fun _=>?_) fun _=>?_)<;>(try simp (disch:=first|omega|(simp<;>omega)|fail) [*,Ze,Tryz.f168]))
 all_goals simp_all [Rt.text,Zio]
def Uw (a:Yk):Yk:=if a.head?=some 45 then a.tail else a
def U8 (a:Yk):Yk:=(Uw a).takeWhile (fun c=>!(c==47))
def Ua (a:Yk):Yk:=if 47∈Uw a then ((Uw a).dropWhile (fun c=>!(c==47))).tail else [49]
def Rn (a:Yk):Bool:=decide (a.head?=some 45)
def Qb (a:Yk):Bool:=Vs (U8 a)&&Vs (Ua a)&&!(Ua a==[48])&&(Ts (U8 a)==U8 a)&&(Ts (Ua a)==Ua a)&&((Rt.mk' (Rn a) (Yj (U8 a)) (Yj (Ua a))).text==a)
def Qf (a:Yk):PV:=if Qb a then .tuple [.agg [.bool (Rn a),.str (U8 a),.str (Ua a)],.bool true] else .tuple [.agg [.bool false,.str [],.str []],.bool false]
theorem Zjl (a:Yk)(ha:a.length<=2^19):Xr vE 144 [.str a] (Qf a):=by
 have hbl:∀ m,below m 4 (Qf a)=true:=fun m=>by unfold Qf;split<;>simp
 intro K H;refine Zh (fn:=Tryz.f144) rfl Tryz.func144 rfl rfl (by simp) (by simp) ?_ (by simp [*])
 (refine Zi6 ?_;((try simp (disch:=first|omega|(simp<;>omega)|fail) [*,Ze]);repeat'(first|refine Z8 ?_|refine Z9 ?_|refine Z0 ?_|refine Z1 fun _=>?_|refine Z2 fun _ _=>?_|refine Z3 (fun _=>?_) fun _ _=>?_|refine Z4 fun _=>?_|refine Z5 fun _=>?_|refine Z6 (fun _=>?_) fun _=>?_|refine Z7 (fun _=>?_) fun _=>?_)<;>(try simp (disch:=first|omega|(simp<;>omega)|fail) [*,Ze]));all_goals try refine Zi7 ?_)
 (refine Zi6 ?_;((try simp (disch:=first|omega|(simp<;>omega)|fail) [*,Ze]);repeat'(first|refine Z8 ?_|refine Z9 ?_|refine Z0 ?_|refine Z1 fun _=>?_|refine Z2 fun _ _=>?_|refine Z3 (fun _=>?_) fun _ _=>?_|refine Z4 fun _=>?_|refine Z5 fun _=>?_|refine Z6 (fun _=>?_) fun _=>?_|refine Z7 (fun _=>?_) fun _=>?_)<;>(try simp (disch:=first|omega|(simp<;>omega)|fail) [*,Ze]));all_goals try refine Zi7 ?_)
 (refine Zi6 ?_;((try simp (disch:=first|omega|(simp<;>omega)|fail) [*,Ze]);repeat'(first|refine Z8 ?_|refine Z9 ?_|refine Z0 ?_|refine Z1 fun _=>?_|refine Z2 fun _ _=>?_|refine Z3 (fun _=>?_) fun _ _=>?_|refine Z4 fun _=>?_|refine Z5 fun _=>?_|refine Z6 (fun _=>?_) fun _=>?_|refine Z7 (fun _=>?_) fun _=>?_)<;>(try simp (disch:=first|omega|(simp<;>omega)|fail) [*,Ze]));all_goals try refine Zi7 ?_)
 generalize hv1:PH.stamp _ _=v1;generalize hv2:PH.stamp _ _=v2;refine Z06 (fun sl h=>sl 0=some (.str a)/\sl 2=some (.ptr (H.next+2) v1 0)/\sl 4=some (.ptr (H.next+4) v2 0)/\sl 5=some (.str (Uw a))/\h.get (H.next+2)=some (v1,.cells [.bool false,.str [],.str []])/\h.get (H.next+4)=some (v2,.cells [.bool (Rn a),.str [],.str [49]])) ?_ ?_
 .cases a with
  | nil=>((try simp (disch:=first|omega|(simp<;>omega)|fail) [*,Ze,Uw,Rn]);repeat'(first|refine Z8 ?_|refine Z9 ?_|refine Z0 ?_|refine Z1 fun _=>?_|refine Z2 fun _ _=>?_|refine Z3 (fun _=>?_) fun _ _=>?_|refine Z4 fun _=>?_|refine Z5 fun _=>?_|refine Z6 (fun _=>?_) fun _=>?_|refine Z7 (fun _=>?_) fun _=>?_)<;>(try simp (disch:=first|omega|(simp<;>omega)|fail) [*,Ze,Uw,Rn]))
  | cons c r=>
    ((try simp (disch:=first|omega|(simp<;>omega)|fail) [*,Ze]);repeat'(first|refine Z8 ?_|refine Z9 ?_|refine Z0 ?_|refine Z1 fun _=>?_|refine Z2 fun _ _=>?_|refine Z3 (fun _=>?_) fun _ _=>?_|refine Z4 fun _=>?_|refine Z5 fun _=>?_|refine Z6 (fun _=>?_) fun _=>?_|refine Z7 (fun _=>?_) fun _=>?_)<;>(try simp (disch:=first|omega|(simp<;>omega)|fail) [*,Ze]))
    .rename_i h;have:c=45:=by omega
     simp [Uw,Rn,this]
    .rename_i h0 h;have:c≠45:=by omega
     simp [Uw,Rn,this]
 rintro sl h ⟨h0,h2,h4,h5,hg2,hg4⟩;generalize hs:Uw a=s at *;have hsl:s.length<=a.length:=by rw [<- hs,Uw];split<;>simp
 refine Z06 (fun sl h=>sl 0=some (.str a)/\sl 2=some (.ptr (H.next+2) v1 0)/\sl 4=some (.ptr (H.next+4) v2 0)/\sl 5=some (.str (U8 a))/\h.get (H.next+2)=some (v1,.cells [.bool false,.str [],.str []])/\h.get (H.next+4)=some (v2,.cells [.bool (Rn a),.str [],.str (Ua a)])) ?_ ?_
 . ((try simp (disch:=first|omega|(simp<;>omega)|fail) [*,Ze]);repeat'(first|refine Z8 ?_|refine Z9 ?_|refine Z0 ?_|refine Z1 fun _=>?_|refine Z2 fun _ _=>?_|refine Z3 (fun _=>?_) fun _ _=>?_|refine Z4 fun _=>?_|refine Z5 fun _=>?_|refine Z6 (fun _=>?_) fun _=>?_|refine Z7 (fun _=>?_) fun _=>?_)<;>(try simp (disch:=first|omega|(simp<;>omega)|fail) [*,Ze]))
   refine Zz [0,2,4] (fun n sl h=>∃ i:Nat,n=s.length - i/\i<=s.length/\sl 6=some (.int .i64 i)/\sl 5=some (.str s)/\(∀ j (hj:j < s.length),j < i->s[j]≠47)/\h.get (H.next+2)=some (v1,.cells [.bool false,.str [],.str []])/\h.get (H.next+4)=some (v2,.cells [.bool (Rn a),.str [],.str [49]])) s.length rfl ⟨0,by simp [hg2,hg4,h5]⟩ ?_;clear hg2 hg4;rintro n sl2 hh hf ⟨i,hn,hi,h6,h5',hd,hg2,hg4⟩;simp [h0,h2,h4] at hf;replace hd:=Hide.mk hd;replace hs:=Hide.mk hs;by_cases hlt:i < s.length
   . ((try simp (disch:=first|omega|(simp<;>omega)|fail) [*,Ze]);repeat'(first|refine Z8 ?_|refine Z9 ?_|refine Z0 ?_|refine Z1 fun _=>?_|refine Z2 fun _ _=>?_|refine Z3 (fun _=>?_) fun _ _=>?_|refine Z4 fun _=>?_|refine Z5 fun _=>?_|refine Z6 (fun _=>?_) fun _=>?_|refine Z7 (fun _=>?_) fun _=>?_)<;>(try simp (disch:=first|omega|(simp<;>omega)|fail) [*,Ze]))
     .rename_i hc;have hc':s[i]=47:=by omega
      have hsp:s=s.take i++47::s.drop (i+1):=by
       conv=>lhs;rw [<- List.take_append_drop i s,List.drop_eq_getElem_cons hlt,hc']
      have hno:∀ x∈s.take i,(!(x==47))=true:=fun x hx=>by
       obtain ⟨j,hj,rfl⟩:=List.getElem_of_mem hx;rw [List.getElem_take];have:=hd.get j (by simp at hj;omega) (by simp at hj;omega);simpa using this
      have hm:47∈s:=by rw [hsp];simp
      have e1:U8 a=s.take i:=by
       rw [U8,hs.get]
       conv=>lhs;rw [hsp]
       rw [List.takeWhile_append_of_pos hno];simp
      have e2:Ua a=s.drop (i+1):=by
       rw [Ua,hs.get,if_pos hm]
       conv=>lhs;rw [hsp]
       rw [List.dropWhile_append_of_pos hno];simp
      rw [e1,e2];exact ⟨rfl,List.take_of_length_le (by simp)⟩
     .rename_i hc0 hc;refine ⟨_,by omega,i+1,rfl,by omega,rfl,fun j hj hji=>?_⟩;by_cases e':j=i
      .subst e';omega
      .exact hd.get j hj (by omega)
   . ((try simp (disch:=first|omega|(simp<;>omega)|fail) [*,Ze]);repeat'(first|refine Z8 ?_|refine Z9 ?_|refine Z0 ?_|refine Z1 fun _=>?_|refine Z2 fun _ _=>?_|refine Z3 (fun _=>?_) fun _ _=>?_|refine Z4 fun _=>?_|refine Z5 fun _=>?_|refine Z6 (fun _=>?_) fun _=>?_|refine Z7 (fun _=>?_) fun _=>?_)<;>(try simp (disch:=first|omega|(simp<;>omega)|fail) [*,Ze]))
     have hno:∀ x∈s,(!(x==47))=true:=fun x hx=>by
      obtain ⟨j,hj,rfl⟩:=List.getElem_of_mem hx;have:=hd.get j hj (by omega);simpa using this
     have hm:47∉s:=fun hm=>by have:=hno 47 hm;simp at this
     have e1:U8 a=s:=by
      rw [U8,hs.get];have:=List.takeWhile_append_of_pos (p:=fun c=>!(c==47)) (l₁:=s) (l₂:=[]) hno;simpa using this
     rw [e1,Ua,hs.get,if_neg hm];exact ⟨rfl,rfl⟩
 clear h0 h2 h4 h5 hg2 hg4;rintro sl h ⟨h0,h2,h4,h5,hg2,hg4⟩
 have hln:(U8 a).length<=a.length:=by
  rw [U8];have:=(List.takeWhile_prefix (fun c=>!(c==47)) (l:=Uw a)).length_le;have h2:(Uw a).length<=a.length:=by rw [Uw];split<;>simp
  omega
 have hld:(Ua a).length<=a.length+1:=by
  rw [Ua];split
  .have:=(List.dropWhile_suffix (fun c=>!(c==47)) (l:=Uw a)).length_le;have h2:(Uw a).length<=a.length:=by rw [Uw];split<;>simp
   simp;omega
  .simp
 have hX:Vs (U8 a)=true->Vs (Ua a)=true->(Ua a==[48])=false->Ts (U8 a)=U8 a->Ts (Ua a)=Ua a->∃ N D,0 < D/\U8 a=Zi N/\Ua a=Zi D/\N=Yj (U8 a)/\D=Yj (Ua a):=by
  intro h1 h2 h3 h4 h5;rw [Zc4] at h1 h2;refine ⟨Yj (U8 a),Yj (Ua a),?_,by rw [<- Ud h1.1 h1.2,h4],by rw [<- Ud h2.1 h2.2,h5],rfl,rfl⟩;rcases Nat.eq_zero_or_pos (Yj (Ua a)) with hz | hz
  .have:=Ud h2.1 h2.2;rw [h5,hz,Vg] at this;rw [this] at h3;simp at h3
  .exact hz
 have Zw0:=Zxj (U8 a) (by omega);have Zwz:=Zxj (Ua a) (by omega);have Zwy:=Zbn (U8 a) (by omega);have Zwx:=Zbn (Ua a) (by omega);have hP:Qf a=if Qb a then .tuple [.agg [.bool (Rn a),.str (U8 a),.str (Ua a)],.bool true] else .tuple [.agg [.bool false,.str [],.str []],.bool false]:=rfl
 have hRB:Qb a=(Vs (U8 a)&&Vs (Ua a)&&!(Ua a==[48])&&(Ts (U8 a)==U8 a)&&(Ts (Ua a)==Ua a)&&((Rt.mk' (Rn a) (Yj (U8 a)) (Yj (Ua a))).text==a)):=rfl;rw [hP];clear hbl hP hs hsl;replace hX:=Hide.mk hX;replace hRB:=Hide.mk hRB;generalize Rn a=sg at *;generalize hnum:U8 a=num at *;generalize hden:Ua a=den at *
 (refine Zi6 ?_;((try simp (disch:=first|omega|(simp<;>omega)|fail) [*,Ze]);repeat'(first|refine Z8 ?_|refine Z9 ?_|refine Z0 ?_|refine Z1 fun _=>?_|refine Z2 fun _ _=>?_|refine Z3 (fun _=>?_) fun _ _=>?_|refine Z4 fun _=>?_|refine Z5 fun _=>?_|refine Z6 (fun _=>?_) fun _=>?_|refine Z7 (fun _=>?_) fun _=>?_)<;>(try simp (disch:=first|omega|(simp<;>omega)|fail) [*,Ze]));all_goals try refine Zi7 ?_)
 by_cases Zni:Vs num=true/\Vs den=true/\(den==[48])=false/\Ts num=num/\Ts den=den
 .obtain ⟨g1,g2,g3,g4,g5⟩:=Zni;obtain ⟨N,D,hD,e1,e2,e3,e4⟩:=hX.get g1 g2 g3 g4 g5;have hNl:(Zi N).length<=2^20:=by rw [<- e1];omega
  have hDl:(Zi D).length<=2^20:=by rw [<- e2];omega
  have Z8u:=Zpq sg N D hD hNl hDl
  have h168:=Zpp (Rt.mk' sg N D) (by
   have:(Rt.mk' sg N D).num<=N:=Nat.div_le_self _ _;have:=X9 this;omega) (by
   have:(Rt.mk' sg N D).den<=D:=Nat.div_le_self _ _;have:=X9 this;omega)
  have hrb:Qb a=((Rt.mk' sg N D).text==a):=by
   rw [hRB.get,g1,g2,g3,g4,g5,<- e3,<- e4];simp
  replace hrb:=Hide.mk hrb;subst e1;subst e2;clear e3 e4 hX hRB
  ((try simp (disch:=first|omega|(simp<;>omega)|fail) [*,Ze,Zw0,Zwz,Zwy,Zwx]);repeat'(first|refine Z8 ?_|refine Z9 ?_|refine Z0 ?_|refine Z1 fun _=>?_|refine Z2 fun _ _=>?_|refine Z3 (fun _=>?_) fun _ _=>?_|refine Z4 fun _=>?_|refine Z5 fun _=>?_|refine Z6 (fun _=>?_) fun _=>?_|refine Z7 (fun _=>?_) fun _=>?_)<;>(try simp (disch:=first|omega|(simp<;>omega)|fail) [*,Ze,Zw0,Zwz,Zwy,Zwx]))
  all_goals (rw [hrb.get];simp [*])
 . ((try simp (disch:=first|omega|(simp<;>omega)|fail) [*,Ze,Zw0,Zwz,Zwy,Zwx]);repeat'(first|refine Z8 ?_|refine Z9 ?_|refine Z0 ?_|refine Z1 fun _=>?_|refine Z2 fun _ _=>?_|refine Z3 (fun _=>?_) fun _ _=>?_|refine Z4 fun _=>?_|refine Z5 fun _=>?_|refine Z6 (fun _=>?_) fun _=>?_|refine Z7 (fun _=>?_) fun _=>?_)<;>(try simp (disch:=first|omega|(simp<;>omega)|fail) [*,Ze,Zw0,Zwz,Zwy,Zwx]))
   all_goals first
    | (exfalso;exact Zni ⟨by assumption,by assumption,by assumption,by assumption,by assumption⟩)
    | (rw [hRB.get];simp [*];done)
    | trace_state
end Go.Proofs.YtabcdhcpilpojaaGreatDoor
end
section
set_option maxRecDepth 20000
namespace Go.Proofs.YtabcdhcpilpojaaGreatDoor
open Go Go.Pure
open Go.Virt (Ex Ctx Ty TK)
theorem Zji {n c:Nat}(hc:c < 48\/57 < c):c∉Zi n:=fun h=>by
 have:=Ym.1 (We n) c h;omega
theorem Zjr (n:Nat):Ts (Zi n)=Zi n:=by rw [Ud (We n) (Zab n),Xa]
theorem Zgx (n:Nat):Vs (Zi n)=true:=by rw [Zc4];exact ⟨We n,Zab n⟩
theorem Zyq {r:Rt}(h:r.Ok):Rt.mk' r.neg r.num r.den=r:=by
 unfold Rt.mk';rw [h.low,Nat.div_one,Nat.div_one]
 have:(r.neg&&!(r.num==0))=r.neg:=by
  cases hn:r.neg with
  | false=>rfl
  | true=>have:=h.sign hn;simp [this]
 rw [this]
theorem Zuf (neg:Bool)(n:Nat){d:Nat}(hd:0 < d):(Rt.mk' neg n d).Ok where
 den:=Nat.div_pos (Nat.gcd_le_right n hd) (Nat.gcd_pos_of_pos_right n hd)
 low:=Nat.coprime_div_gcd_div_gcd (Nat.gcd_pos_of_pos_right n hd)
 sign:=by
  intro h;simp only [Rt.mk',Bool.and_eq_true,Bool.not_eq_true',beq_eq_false_iff_ne] at h;exact Nat.div_gcd_ne_zero' (by omega)
theorem Tb (r:Rt):Uw r.text=Zi r.num++(if r.den=1 then [] else 47::Zi r.den)/\Rn r.text=r.neg:=by
 obtain ⟨c,t,hc⟩:∃ c t,Zi r.num=c::t:=by
  cases h:Zi r.num with
  | nil=>exact absurd h (Zab _)
  | cons c t=>exact ⟨c,t,rfl⟩
 have h45:c≠45:=fun e=>Zji (n:=r.num) (c:=45) (by omega) (by rw [hc,e];simp)
 cases hn:r.neg with
 | true=>simp [Uw,Rn,Rt.text,hn]
 | false=>simp [Uw,Rn,Rt.text,hn,hc,h45]
theorem Zjt (r:Rt):U8 r.text=Zi r.num:=by
 rw [U8,(Tb r).1]
 have hno:∀ x∈Zi r.num,(!(x==47))=true:=fun x hx=>by
  have:x≠47:=fun e=>Zji (n:=r.num) (c:=47) (by omega) (e ▸ hx)
  simpa using this
 rw [List.takeWhile_append_of_pos hno];split<;>simp
theorem Zju {r:Rt}:Ua r.text=Zi r.den:=by
 rw [Ua,(Tb r).1]
 have hno:∀ x∈Zi r.num,(!(x==47))=true:=fun x hx=>by
  have:x≠47:=fun e=>Zji (n:=r.num) (c:=47) (by omega) (e ▸ hx)
  simpa using this
 by_cases hd:r.den=1
 .rw [if_pos hd,if_neg,hd,Zgw];simp;exact Zji (by omega)
 .rw [if_neg hd,if_pos (by simp),List.dropWhile_append_of_pos hno];simp
theorem Zal {r:Rt}(h:r.Ok):Qb r.text=true:=by
 unfold Qb;rw [Zjt,Zju,(Tb r).2,Xa,Xa,Zyq h,Zgx,Zgx,Zjr,Zjr]
 have:(Zi r.den==[48])=false:=by
  rw [beq_eq_false_iff_ne];intro e;have:=Uu.1 e;have:=h.den;omega
 rw [this];simp
def Zah (a:Yk):Rt:=⟨Rn a,Yj (U8 a),Yj (Ua a)⟩
theorem Sq (r:Rt):Zah r.text=r:=by
 unfold Zah;rw [Zjt,Zju,(Tb r).2,Xa,Xa]
theorem Zfy {a:Yk}(h:Qb a=true):(Zah a).Ok/\a=(Zah a).text/\U8 a=Zi (Zah a).num/\Ua a=Zi (Zah a).den:=by
 have h':=h;unfold Qb at h;simp only [Bool.and_eq_true,Bool.not_eq_true',beq_iff_eq,beq_eq_false_iff_ne] at h;obtain ⟨⟨⟨⟨⟨h1,h2⟩,h3⟩,h4⟩,h5⟩,h6⟩:=h;rw [Zc4] at h1 h2;have hn:=Ud h1.1 h1.2;have hd:=Ud h2.1 h2.2;rw [h4] at hn;rw [h5] at hd
 have U9:0 < Yj (Ua a):=by
  rcases Nat.eq_zero_or_pos (Yj (Ua a)) with hz | hz
  .rw [hz,Vg] at hd;exact absurd hd h3
  .exact hz
 have e:Zah a=Rt.mk' (Rn a) (Yj (U8 a)) (Yj (Ua a)):=by
  conv=>lhs;rw [<- h6]
  exact Sq _
 refine ⟨by rw [e];exact Zuf _ _ U9,by rw [e,h6],hn,hd⟩
theorem Zqq {r s:Rt}(h:r.text=s.text):r=s:=by rw [<- Sq r,h,Sq]
theorem Z10 {r:Rt}(h:r.Ok):Qf r.text=.tuple [Z85 r,.bool true]:=by
 rw [Qf,if_pos (Zal h),Zjt,Zju,(Tb r).2]
theorem Zhf {a:Yk}(h:Qb a=false):Qf a=.tuple [.agg [.bool false,.str [],.str []],.bool false]:=by
 rw [Qf,h];rfl
theorem Zg2 {r:Rt}(h:r.Ok)(hl:r.text.length<=2^19):Xr vE 144 [.str r.text] (.tuple [Z85 r,.bool true]):=by
 have:=Zjl r.text hl
 rwa [Z10 h] at this
def Zcc (a:Yk):Int:=if Qb a=false\/(Zah a).num=0 then 0 else if (Zah a).neg then -1 else 1
def Vy (a:Yk):Bool:=Qb a&&((Zah a).den==1)
theorem Zxq (a:Yk)(ha:a.length<=2^19):Xr vE 123 [.str a] (.bool (Qb a)):=by
 have Qt:=Zjl a ha;intro K H;refine Zh (fn:=Tryz.f123) rfl Tryz.func123 rfl rfl (by simp) (by simp) ?_ (by simp [*]);by_cases h:Qb a=true
 .rw [Qf,if_pos h] at Qt
  ((try simp (disch:=first|omega|(simp<;>omega)|fail) [*,Ze,Tryz.f123,Qt]);repeat'(first|refine Z8 ?_|refine Z9 ?_|refine Z0 ?_|refine Z1 fun _=>?_|refine Z2 fun _ _=>?_|refine Z3 (fun _=>?_) fun _ _=>?_|refine Z4 fun _=>?_|refine Z5 fun _=>?_|refine Z6 (fun _=>?_) fun _=>?_|refine Z7 (fun _=>?_) fun _=>?_)<;>(try simp (disch:=first|omega|(simp<;>omega)|fail) [*,Ze,Tryz.f123,Qt]))
 .simp only [Bool.not_eq_true] at h;rw [Zhf h] at Qt
  ((try simp (disch:=first|omega|(simp<;>omega)|fail) [*,Ze,Tryz.f123,Qt]);repeat'(first|refine Z8 ?_|refine Z9 ?_|refine Z0 ?_|refine Z1 fun _=>?_|refine Z2 fun _ _=>?_|refine Z3 (fun _=>?_) fun _ _=>?_|refine Z4 fun _=>?_|refine Z5 fun _=>?_|refine Z6 (fun _=>?_) fun _=>?_|refine Z7 (fun _=>?_) fun _=>?_)<;>(try simp (disch:=first|omega|(simp<;>omega)|fail) [*,Ze,Tryz.f123,Qt]))
theorem Zbo (a:Yk)(ha:a.length<=2^19):Xr vE 122 [.str a] (.bool (Vy a)):=by
 have Qt:=Zjl a ha;intro K H;refine Zh (fn:=Tryz.f122) rfl Tryz.func122 rfl rfl (by simp) (by simp) ?_ (by simp [*]);by_cases h:Qb a=true
 .have hd:=(Zfy h).2.2.2;rw [Qf,if_pos h,hd] at Qt
  ((try simp (disch:=first|omega|(simp<;>omega)|fail) [*,Ze,Tryz.f122,Qt]);repeat'(first|refine Z8 ?_|refine Z9 ?_|refine Z0 ?_|refine Z1 fun _=>?_|refine Z2 fun _ _=>?_|refine Z3 (fun _=>?_) fun _ _=>?_|refine Z4 fun _=>?_|refine Z5 fun _=>?_|refine Z6 (fun _=>?_) fun _=>?_|refine Z7 (fun _=>?_) fun _=>?_)<;>(try simp (disch:=first|omega|(simp<;>omega)|fail) [*,Ze,Tryz.f122,Qt]))
  rw [Vy,h,Bool.eq_iff_iff];simp [Zio]
 .simp only [Bool.not_eq_true] at h;rw [Zhf h] at Qt
  ((try simp (disch:=first|omega|(simp<;>omega)|fail) [*,Ze,Tryz.f122,Qt]);repeat'(first|refine Z8 ?_|refine Z9 ?_|refine Z0 ?_|refine Z1 fun _=>?_|refine Z2 fun _ _=>?_|refine Z3 (fun _=>?_) fun _ _=>?_|refine Z4 fun _=>?_|refine Z5 fun _=>?_|refine Z6 (fun _=>?_) fun _=>?_|refine Z7 (fun _=>?_) fun _=>?_)<;>(try simp (disch:=first|omega|(simp<;>omega)|fail) [*,Ze,Tryz.f122,Qt]))
  simp [Vy,h]
theorem Zaag (a:Yk)(ha:a.length<=2^19):Xr vE 145 [.str a] (.int .i64 (Zcc a)):=by
 have Qt:=Zjl a ha;intro K H;refine Zh (fn:=Tryz.f145) rfl Tryz.func145 rfl rfl (by simp) (by simp) ?_ (by simp [*]);by_cases h:Qb a=true
 .have hd:=(Zfy h).2.2.1;rw [Qf,if_pos h,hd] at Qt
  ((try simp (disch:=first|omega|(simp<;>omega)|fail) [*,Ze,Tryz.f145,Qt]);repeat'(first|refine Z8 ?_|refine Z9 ?_|refine Z0 ?_|refine Z1 fun _=>?_|refine Z2 fun _ _=>?_|refine Z3 (fun _=>?_) fun _ _=>?_|refine Z4 fun _=>?_|refine Z5 fun _=>?_|refine Z6 (fun _=>?_) fun _=>?_|refine Z7 (fun _=>?_) fun _=>?_)<;>(try simp (disch:=first|omega|(simp<;>omega)|fail) [*,Ze,Tryz.f145,Qt]))
  .rename_i e;rw [Zcc,if_pos (Or.inr (Uu.1 e))]
  .rename_i _ e h45;have hn:(Zah a).neg=true:=by simp [Zah,Rn,h45]
   rw [Zcc,if_neg (by rw [h];rintro (hh | hh);cases hh;exact e (Uu.2 hh)),if_pos hn]
  .rename_i _ e h45;have hn:(Zah a).neg=false:=by simp [Zah,Rn,h45]
   rw [Zcc,if_neg (by rw [h];rintro (hh | hh);cases hh;exact e (Uu.2 hh)),hn];rfl
 .simp only [Bool.not_eq_true] at h;rw [Zhf h] at Qt
  ((try simp (disch:=first|omega|(simp<;>omega)|fail) [*,Ze,Tryz.f145,Qt]);repeat'(first|refine Z8 ?_|refine Z9 ?_|refine Z0 ?_|refine Z1 fun _=>?_|refine Z2 fun _ _=>?_|refine Z3 (fun _=>?_) fun _ _=>?_|refine Z4 fun _=>?_|refine Z5 fun _=>?_|refine Z6 (fun _=>?_) fun _=>?_|refine Z7 (fun _=>?_) fun _=>?_)<;>(try simp (disch:=first|omega|(simp<;>omega)|fail) [*,Ze,Tryz.f145,Qt]))
  all_goals simp [Zcc,h]
def Rt.mul (r s:Rt):Rt:=Rt.mk' (!(r.neg==s.neg)) (r.num*s.num) (r.den*s.den)
def Rt.div (r s:Rt):Rt:=Rt.mk' (!(r.neg==s.neg)) (r.num*s.den) (r.den*s.num)
def Rt.int (n:Int):Rt:=⟨decide (n < 0),n.natAbs,1⟩
theorem Zcp (n:Int):(Rt.int n).text=Qr n:=by
 unfold Rt.int Rt.text Qr;by_cases h:n < 0<;>simp [h]
theorem Zun (n:Int):(Rt.int n).Ok:=⟨by simp [Rt.int],by simp [Rt.int],by simp [Rt.int];omega⟩
theorem W3 (a b:Nat):(Zi (a*b)).length<=(Zi a).length+(Zi b).length:=by
 have h1:=Xz a;have h2:=Xz b;have h3:=Vr a;refine S9 (by omega) ?_;rw [Nat.pow_add];exact Nat.mul_lt_mul'' h1 h2
theorem Vd (r:Rt):(Zi r.num).length<=r.text.length/\(Zi r.den).length<=r.text.length:=by
 unfold Rt.text;have:=Vr r.num;constructor
 .simp;omega
 .by_cases h:r.den=1
  .rw [h,Zgw];simp;omega
  .simp [h];omega
theorem Zjc (neg:Bool)(n d:Nat):(Zi (Rt.mk' neg n d).num).length<=(Zi n).length/\(Zi (Rt.mk' neg n d).den).length<=(Zi d).length:=
 ⟨X9 (Nat.div_le_self _ _),X9 (Nat.div_le_self _ _)⟩
theorem Zv1 (r:Rt):r.text.length<=(Zi r.num).length+(Zi r.den).length+2:=by
 unfold Rt.text;cases r.neg<;>by_cases h:r.den=1<;>simp [h]<;>omega
theorem Zaaf {r s:Rt}(h:r.Ok)(k:s.Ok)(hl:r.text.length<=2^19)(kl:s.text.length<=2^19):Xr vE 150 [.str r.text,.str s.text] (.str (r.mul s).text):=by
 have Qt:=Zg2 h hl;have k144:=Zg2 k kl;have h1:=Vd r;have k1:=Vd s;have m1:=W3 r.num s.num;have m2:=W3 r.den s.den;have a1:=Zjk r.num s.num (by omega) (by omega);have a2:=Zjk r.den s.den (by omega) (by omega);have hd:0 < r.den*s.den:=Nat.mul_pos h.den k.den;have a3:=fun b=>Zpq b (r.num*s.num) (r.den*s.den) hd (by omega) (by omega)
 have ml:=Zjc (!(r.neg==s.neg)) (r.num*s.num) (r.den*s.den);have a4:=Zpp (Rt.mk' (!(r.neg==s.neg)) (r.num*s.num) (r.den*s.den)) (by show (Zi (Rt.mk' _ _ _).num).length<=_;omega) (by show (Zi (Rt.mk' _ _ _).den).length<=_;omega);clear h1 k1 m1 m2 hd ml hl kl h k;intro K H;refine Zh (fn:=Tryz.f150) rfl Tryz.func150 rfl rfl (by simp) (by simp) ?_ (by simp [*])
 ((try simp (disch:=first|omega|(simp<;>omega)|fail) [*,Ze,Tryz.f150]);repeat'(first|refine Z8 ?_|refine Z9 ?_|refine Z0 ?_|refine Z1 fun _=>?_|refine Z2 fun _ _=>?_|refine Z3 (fun _=>?_) fun _ _=>?_|refine Z4 fun _=>?_|refine Z5 fun _=>?_|refine Z6 (fun _=>?_) fun _=>?_|refine Z7 (fun _=>?_) fun _=>?_)<;>(try simp (disch:=first|omega|(simp<;>omega)|fail) [*,Ze,Tryz.f150]))
 rfl
theorem Zaaa {r s:Rt}(h:r.Ok)(k:s.Ok)(hl:r.text.length<=2^19)(kl:s.text.length<=2^19)(hs:s.num≠0):Xr vE 164 [.str r.text,.str s.text] (.str (r.div s).text):=by
 have Qt:=Zg2 h hl;have k144:=Zg2 k kl;have h1:=Vd r;have k1:=Vd s;have m1:=W3 r.num s.den;have m2:=W3 r.den s.num;have a1:=Zjk r.num s.den (by omega) (by omega);have a2:=Zjk r.den s.num (by omega) (by omega);have hd:0 < r.den*s.num:=Nat.mul_pos h.den (by omega);have a3:=fun b=>Zpq b (r.num*s.den) (r.den*s.num) hd (by omega) (by omega)
 have ml:=Zjc (!(r.neg==s.neg)) (r.num*s.den) (r.den*s.num);have a4:=Zpp (Rt.mk' (!(r.neg==s.neg)) (r.num*s.den) (r.den*s.num)) (by show (Zi (Rt.mk' _ _ _).num).length<=_;omega) (by show (Zi (Rt.mk' _ _ _).den).length<=_;omega);have hs':¬ Zi s.num=[48]:=fun e=>hs (Uu.1 e)
 clear h1 k1 m1 m2 hd ml hl kl h k;intro K H;refine Zh (fn:=Tryz.f164) rfl Tryz.func164 rfl rfl (by simp) (by simp) ?_ (by simp [*])
 ((try simp (disch:=first|omega|(simp<;>omega)|fail) [*,Ze,Tryz.f164]);repeat'(first|refine Z8 ?_|refine Z9 ?_|refine Z0 ?_|refine Z1 fun _=>?_|refine Z2 fun _ _=>?_|refine Z3 (fun _=>?_) fun _ _=>?_|refine Z4 fun _=>?_|refine Z5 fun _=>?_|refine Z6 (fun _=>?_) fun _=>?_|refine Z7 (fun _=>?_) fun _=>?_)<;>(try simp (disch:=first|omega|(simp<;>omega)|fail) [*,Ze,Tryz.f164]))
 .rename_i e;exact absurd e hs'
 .rfl
end Go.Proofs.YtabcdhcpilpojaaGreatDoor
end
