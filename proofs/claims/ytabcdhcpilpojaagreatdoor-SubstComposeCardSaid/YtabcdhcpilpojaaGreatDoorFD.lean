/- The program's numbers: cutting texts. -/
import Derived.Test.YtabcdhcpilpojaaGreatDoorFA
import Derived.Test.YtabcdhcpilpojaaGreatDoorPD
set_option linter.unusedSimpArgs false
set_option linter.unusedVariables false
section
set_option maxRecDepth 20000
namespace Go.Proofs.YtabcdhcpilpojaaGreatDoor
open Go Go.Pure
open Go.Virt (Ex Ctx Ty TK)
theorem Z77 {p:Yn}(hp:∀c∈p,c < 256/\c≠47):Lib.indexByte (p.map Nat.toUInt8) 47 = -1:=by
 induction p with
 |nil=>rfl
 |cons c p ih=>
  have h1:=hp c (by simp)
  have Yi:(Nat.toUInt8 c==47)=false:=by
   rw[beq_eq_false_iff_ne];intro e;have:=congrArg UInt8.toNat e;simp at this;omega
  simp[Lib.indexByte,Yi,ih fun c hc=>hp c (by simp[hc])]
theorem Z76 {p q:Yn}(hp:∀c∈p,c < 256/\c≠47):Lib.indexByte ((p++47::q).map Nat.toUInt8) 47=p.length:=by
 induction p with
 |nil=>simp[Lib.indexByte]
 |cons c p ih=>
  have h1:=hp c (by simp)
  have Yi:(Nat.toUInt8 c==47)=false:=by
   rw[beq_eq_false_iff_ne];intro e;have:=congrArg UInt8.toNat e;simp at this;omega
  have h2:=ih fun c hc=>hp c (by simp[hc])
  have hge:((p.length:Int)== -1)=false:=by
   rw[beq_eq_false_iff_ne];omega
  rw[List.cons_append,List.map_cons,Lib.indexByte,Yi,h2];simp[hge]
theorem Zae9 (s:Yn):Xn vE 230 [.str s,.int .u8 47] (.int .i64 (Lib.indexByte (s.map Nat.toUInt8) 47)):=by
 intro K H;rw[Uo];rfl
theorem Z2f (s:Yn)(hl:s.length < 2^30):Xn vE 220 [.str s,.str [47]] (.int .i64 (Lib.indexByte (s.map Nat.toUInt8) 47)):=by
 have h:=Zae9 s;intro K H;refine Wc Tryz.func220 ?_
 (refine Zm ?_;repeat'(first|(refine Zi fun _=>?_;try simp(disch:=first|exact Zq|fail)[*,Zs,Tryz.f220])|refine Ye ?_|refine Zx ?_|refine Zn ?_ ?_))
 rename_i e;subst e;rfl
theorem Zafg (p q:Yn)(hp:∀c∈p,c < 256/\c≠47)(hl:(p++47::q).length < 2^30):Xn vE 215 [.str (p++47::q),.str [47]] (.tuple [.str p,.str q,.bool true]):=by
 have h:=Z2f (p++47::q) hl;rw[Z76 hp]at h;generalize hs:p++47::q=s at *;have e1:s.take p.length=p:=by rw[<- hs];simp
 have e2:s.drop (p.length+1)=q:=by rw[<- hs];simp
 have hpl:p.length < s.length:=by rw[<- hs];simp
 have e3:List.take (s.length - (p.length+1)) q=q:=List.take_of_length_le (by rw[<- hs];simp;omega);have e1':(p.length:Int).toNat=p.length:=by omega
 have e2':((p.length:Int)+1).toNat=p.length+1:=by omega
 intro K H;refine Wc Tryz.func215 ?_
 (refine Zm ?_;repeat'(first|(refine Zi fun _=>?_;try simp(disch:=first|exact Zq|fail)[*,Zs,Tryz.f215])|refine Ye ?_|refine Zx ?_|refine Zn ?_ ?_))
theorem Zaa4 (s:Yn)(hp:∀c∈s,c < 256/\c≠47)(hl:s.length < 2^30):Xn vE 215 [.str s,.str [47]] (.tuple [.str s,.str [],.bool false]):=by
 have h:=Z2f s hl;rw[Z77 hp]at h;intro K H;refine Wc Tryz.func215 ?_
 (refine Zm ?_;repeat'(first|(refine Zi fun _=>?_;try simp(disch:=first|exact Zq|fail)[*,Zs,Tryz.f215])|refine Ye ?_|refine Zx ?_|refine Zn ?_ ?_))
theorem Ztf (p q:Yn)(hp:∀c∈p,c < 256/\c≠47)(hl:(p++47::q).length < 2^30):Xn vE 208 [.str (p++47::q),.str [47]] (.tuple [.str p,.str q,.bool true]):=by
 have h:=Zafg p q hp hl;generalize p++47::q=s at *;intro K H;refine Wc Tryz.func208 ?_
 (refine Zm ?_;repeat'(first|(refine Zi fun _=>?_;try simp(disch:=first|exact Zq|fail)[*,Zs,Tryz.f208])|refine Ye ?_|refine Zx ?_|refine Zn ?_ ?_))
theorem Zoz (s:Yn)(hp:∀c∈s,c < 256/\c≠47)(hl:s.length < 2^30):Xn vE 208 [.str s,.str [47]] (.tuple [.str s,.str [],.bool false]):=by
 have h:=Zaa4 s hp hl;intro K H;refine Wc Tryz.func208 ?_
 (refine Zm ?_;repeat'(first|(refine Zi fun _=>?_;try simp(disch:=first|exact Zq|fail)[*,Zs,Tryz.f208])|refine Ye ?_|refine Zx ?_|refine Zn ?_ ?_))
theorem Zafh (s:Yn)(hl:s.length < 2^30):Xn vE 214 [.str s,.str [45]] (.bool (Zay s)):=by
 unfold Zay;cases s with
 |nil=>
  intro K H;refine Wc Tryz.func214 ?_
  (refine Zm ?_;repeat'(first|(refine Zi fun _=>?_;try simp(disch:=first|exact Zq|fail)[*,Zs,Tryz.f214])|refine Ye ?_|refine Zx ?_|refine Zn ?_ ?_))
 |cons c s=>
  intro K H;refine Wc Tryz.func214 ?_
  (refine Zm ?_;repeat'(first|(refine Zi fun _=>?_;try simp(disch:=first|exact Zq|fail)[*,Zs,Tryz.f214])|refine Ye ?_|refine Zx ?_|refine Zn ?_ ?_))
  rw[Bool.eq_iff_iff];simp
theorem Zafl (s:Yn)(hl:s.length < 2^30):Xn vE 206 [.str s,.str [45]] (.tuple [.str (Tv s),.bool (Zay s)]):=by
 have h:=Zafh s hl;unfold Tv;unfold Zay at *;by_cases h1:s.head?=some 45
 .cases s with
  |nil=>simp at h1
  |cons c s=>
   simp only[h1,decide_true,if_true,List.tail_cons]at *;intro K H;refine Wc Tryz.func206 ?_
   (refine Zm ?_;repeat'(first|(refine Zi fun _=>?_;try simp(disch:=first|exact Zq|fail)[*,Zs,Tryz.f206])|refine Ye ?_|refine Zx ?_|refine Zn ?_ ?_))
 .simp only [h1,decide_false,if_false]at *;intro K H;refine Wc Tryz.func206 ?_
  (refine Zm ?_;repeat'(first|(refine Zi fun _=>?_;try simp(disch:=first|exact Zq|fail)[*,Zs,Tryz.f206])|refine Ye ?_|refine Zx ?_|refine Zn ?_ ?_))
theorem Ztg (s:Yn)(hl:s.length < 2^30):Xn vE 198 [.str s,.str [45]] (.tuple [.str (Tv s),.bool (Zay s)]):=by
 have h:=Zafl s hl;intro K H;refine Wc Tryz.func198 ?_
 (refine Zm ?_;repeat'(first|(refine Zi fun _=>?_;try simp(disch:=first|exact Zq|fail)[*,Zs,Tryz.f198])|refine Ye ?_|refine Zx ?_|refine Zn ?_ ?_))
theorem Zafo (s:Yn)(hd:∀c∈s,48<=c/\c<=57)(hl:s.length < 2^30)(h0:s=[48]\/(s≠[]/\s.head?≠some 48)):Xn vE 199 [.str s] (.bool true):=by
 have hl':s.length<=Virt.maxLenV:=by rw[R4];omega
 intro K H;refine Wc Tryz.func199 ?_
 (refine Zm ?_;repeat'(first|(refine Zi fun _=>?_;try simp(disch:=first|exact Zq|fail)[*,Zs,Tryz.f199])|refine Ye ?_|refine Zx ?_|refine Zn ?_ ?_))
 generalize hv6:H.stamp (H.next+6)=v6;refine Zl [0,6,7] (fun n sl h=>∃i:Nat,n=s.length - i/\i<=s.length/\sl 8=some (.int .i64 i)/\h.get (H.next+6)=some (v6,.row 5 true (s.map fun b:Nat=>PV.int IntKind.u8 (b:Int)))) s.length rfl ⟨0,by simp,by simp,by simp,by simp[*]⟩ ?_;rintro n sl h hf ⟨i,hn,hi,h8,h6⟩;simp at hf;by_cases hlt:i < s.length
 .have hc:=hd s[i] (List.getElem_mem hlt);generalize hsi:s[i]=c at *;clear hd h0
  (refine Zm ?_;repeat'(first|(refine Zi fun _=>?_;try simp(disch:=first|exact Zq|fail)[*,Zs])|refine Ye ?_|refine Zx ?_|refine Zn ?_ ?_))
  exact⟨_,by omega,i+1,rfl,by omega,by omega⟩
 .have hi':i=s.length:=by omega
  subst hi';rcases h0 with rfl | ⟨h1,h2⟩
  .clear hd
   (refine Zm ?_;repeat'(first|(refine Zi fun _=>?_;try simp(disch:=first|exact Zq|fail)[*,Zs])|refine Ye ?_|refine Zx ?_|refine Zn ?_ ?_))
  .cases s with
   |nil=>exact absurd rfl h1
   |cons c s=>
    have hc:c≠48:=by simpa using h2
    have hc1:(c==48)=false:=by simpa using hc
    have hc2:((c:Int)==48)=false:=by simp;omega
    clear hd h1 h2
    (refine Zm ?_;repeat'(first|(refine Zi fun _=>?_;try simp(disch:=first|exact Zq|fail)[*,Zs])|refine Ye ?_|refine Zx ?_|refine Zn ?_ ?_))
theorem Zcx (n:Nat):(∀c∈Zf n,48<=c/\c<=57)/\(Zf n=[48]\/(Zf n≠[]/\(Zf n).head?≠some 48)):=by
 refine⟨fun c hc=>?_,?_⟩
 .have:=List.all_eq_true.1 (Wx n) c hc;simpa[digB]using this
 .rcases Zkg n with rfl | ⟨c,r,e,h1,h2⟩
  .exact .inl V8
  .right;rw[e];simp;omega
theorem Zfa (n:Nat)(hl:(Zf n).length < 2^30):Xn vE 199 [.str (Zf n)] (.bool true):=Zafo _ (Zcx n).1 hl (Zcx n).2
theorem Zuk {s:Yn}(hd:∀c∈s,48<=c/\c<=57):∀i,i<=s.length->Yp (s.take i) < 10^i:=by
 intro i
 induction i with
 |zero=>intro _;simp[Yp,Zlh]
 |succ i ih=>
  intro hi;rw[List.take_add_one,List.getElem?_eq_getElem (by omega:i < s.length),Option.toList,Ti];have h1:=ih (by omega);have h2:=hd s[i] (List.getElem_mem _);rw[Nat.pow_succ];omega
set_option maxHeartbeats 4000000 in
theorem Zafc (s:Yn)(hd:∀c∈s,48<=c/\c<=57)(Yi:s≠[])(hl:s.length<=18):Xn vE 221 [.str s,.int .i64 10,.int .i64 64] (.tuple [.int .u64 (Yp s),.nili]):=by
 have hl':s.length<=Virt.maxLenV:=by rw[R4];omega
 have hb:∀i,i<=s.length->Yp (s.take i) < 10^18:=fun i hi=>Nat.lt_of_lt_of_le (Zuk hd i hi) (Nat.pow_le_pow_right (by omega) (by omega))
 have Sx:0 < s.length:=List.length_pos_iff.2 Yi;intro K H;refine Wc Tryz.func221 ?_
 (refine Zm ?_;repeat'(first|(refine Zi fun _=>?_;try simp(disch:=first|exact Zq|fail)[*,Zs,Tryz.f221])|refine Ye ?_|refine Zx ?_|refine Zn ?_ ?_))
 .rename_i e;exact absurd (List.isEmpty_iff.1 e) Yi
 generalize hv6:H.stamp (H.next+99)=v6;refine Zl [1,8,9,10,11,99,100] (fun n sl h=>∃i:Nat,n=s.length - i/\i<=s.length/\sl 101=some (.int .i64 i)/\sl 12=some (.bool false)/\sl 13=some (.int .u64 (Yp (s.take i)))/\h.get (H.next+99)=some (v6,.row 5 true (s.map fun b:Nat=>PV.int IntKind.u8 (b:Int)))) s.length rfl ⟨0,by simp,by simp,by simp,by simp,by simp[Yp,Zlh],by simp[*]⟩ ?_;rintro n sl h hf ⟨i,hn,hi,h101,h12,h13,h6⟩;simp at hf;by_cases hlt:i < s.length
 .have hc:=hd s[i] (List.getElem_mem hlt);have hbi:=hb i hi;have hbi2:=hb (i+1) hlt
  have X2:Yp (s.take (i+1))=Yp (s.take i)*10+(s[i] - 48):=by
   rw[List.take_add_one,List.getElem?_eq_getElem hlt,Option.toList,Ti]
  generalize hsi:s[i]=c at *;generalize hA:Yp (s.take i)=A at *;generalize hB:Yp (s.take (i+1))=B at *;have hB':(A:Int)*10+((c:Int) - 48)=B:=by omega
  clear hd hb;have hmx:IntKind.u64.wrap (IntKind.u64.wrap (2^min 64 IntKind.u64.bits) - 1)=18446744073709551615:=by decide +kernel
  (refine Zm ?_;repeat'(first|(refine Zi fun _=>?_;try simp(disch:=first|exact Zq|fail)[*,Zs])|refine Ye ?_|refine Zx ?_|refine Zn ?_ ?_))
  exact⟨_,by omega,i+1,rfl,by omega,by omega,by rw[hB];omega⟩
 .have hi':i=s.length:=by omega
  subst hi';rw[List.take_length]at h13;clear hd hb
  (refine Zm ?_;repeat'(first|(refine Zi fun _=>?_;try simp(disch:=first|exact Zq|fail)[*,Zs])|refine Ye ?_|refine Zx ?_|refine Zn ?_ ?_))
set_option maxHeartbeats 2000000 in
theorem Zaff (s:Yn)(hd:∀c∈s,48<=c/\c<=57)(Yi:s≠[])(hl:s.length<=18):Xn vE 216 [.str s,.int .i64 10,.int .i64 64] (.tuple [.int .i64 (Yp s),.nili]):=by
 have h:=Zafc s hd Yi hl;have hb:Yp s < 10^18:=Nat.lt_of_lt_of_le (Zhl (Yt.2 hd)) (Nat.pow_le_pow_right (by omega) hl);generalize Yp s=A at *;cases s with
 |nil=>exact absurd rfl Yi
 |cons c s=>
  have hc:=hd c (by simp);have hmx:IntKind.u64.wrap (2^min 63 IntKind.u64.bits)=9223372036854775808:=by decide +kernel
  clear hd Yi;intro K H;refine Wc Tryz.func216 ?_
  (refine Zm ?_;repeat'(first|(refine Zi fun _=>?_;try simp(disch:=first|exact Zq|fail)[*,Zs,Tryz.f216])|refine Ye ?_|refine Zx ?_|refine Zn ?_ ?_))
theorem Z2h (s:Yn)(hd:∀c∈s,48<=c/\c<=57)(Yi:s≠[])(hl:s.length<=18):Xn vE 209 [.str s,.int .i64 10,.int .i64 64] (.tuple [.int .i64 (Yp s),.nili]):=by
 have h:=Zaff s hd Yi hl;intro K H;refine Wc Tryz.func209 ?_
 (refine Zm ?_;repeat'(first|(refine Zi fun _=>?_;try simp(disch:=first|exact Zq|fail)[*,Zs,Tryz.f209])|refine Ye ?_|refine Zx ?_|refine Zn ?_ ?_))
theorem Za7 {n:Nat}(h:n≠0):Zf n≠[48]:=by
 rcases Zkg n with e | ⟨c,r,e,h1,h2⟩
 .exact absurd e h
 .rw [e];simp;omega
theorem Zai (n:Nat):∀c∈Zf n,c < 256/\c≠47:=fun c hc=>by
 have:=(Zcx n).1 c hc;omega
theorem Zafr {r:Rt}(h:r.Ok)(hd:r.den=1)(hl:r.text.length < 2^29):Xn vE 183 [.str r.text] (.bool true):=by
 obtain⟨e1,e2⟩:=Si r;rw[if_pos hd,List.append_nil]at e1;have Zn2:=Ztg r.text (by omega);have h199:=Zfa r.num (by have:=(V3 r).1;omega);rw[e1,e2]at Zn2;have hs:r.neg=true->Zf r.num≠[48]:=fun hn=>Za7 (h.sign hn)
 generalize r.text=s at *;generalize Zf r.num=q at *;generalize r.neg=ng at *;clear h hd e1 e2;cases ng with
 |false=>
  intro K H;refine Wc Tryz.func183 ?_
  (refine Zm ?_;repeat'(first|(refine Zi fun _=>?_;try simp(disch:=first|exact Zq|fail)[*,Zs,Tryz.f183])|refine Ye ?_|refine Zx ?_|refine Zn ?_ ?_))
 |true=>
  have hs':=hs rfl;have hs2:(q==[48])=false:=by simpa using hs'
  clear hs;intro K H;refine Wc Tryz.func183 ?_
  (refine Zm ?_;repeat'(first|(refine Zi fun _=>?_;try simp(disch:=first|exact Zq|fail)[*,Zs,Tryz.f183])|refine Ye ?_|refine Zx ?_|refine Zn ?_ ?_))
theorem Zafk (a b:Nat)(ha:a < 2^62)(hb:b < 2^62):Xn vE 210 [.int .i64 a,.int .i64 b] (.int .i64 (Nat.gcd a b)):=by
 intro K H;refine Wc Tryz.func210 ?_
 (refine Zm ?_;repeat'(first|(refine Zi fun _=>?_;try simp(disch:=first|exact Zq|fail)[*,Zs,Tryz.f210])|refine Ye ?_|refine Zx ?_|refine Zn ?_ ?_))
 refine Zl [] (fun n sl h=>∃x y:Nat,n=y/\x < 2^62/\y < 2^62/\sl 0=some (.int .i64 x)/\sl 1=some (.int .i64 y)/\Nat.gcd x y=Nat.gcd a b) b rfl ⟨a,b,rfl,ha,hb,by simp,by simp,rfl⟩ ?_;rintro n sl h hf ⟨x,y,hn,hx,hy,h0,h1,hg⟩;simp at hf;by_cases h0':y=0
 .subst h0';rw[Nat.gcd_zero_right]at hg
  (refine Zm ?_;repeat'(first|(refine Zi fun _=>?_;try simp(disch:=first|exact Zq|fail)[*,Zs])|refine Ye ?_|refine Zx ?_|refine Zn ?_ ?_))
 .have hm:Int.tmod (x:Int) (y:Int)=((x % y:Nat):Int):=by
   rw[Int.tmod_eq_emod_of_nonneg (by omega)];rfl
  have hlt:x % y < y:=Nat.mod_lt _ (by omega)
  (refine Zm ?_;repeat'(first|(refine Zi fun _=>?_;try simp(disch:=first|exact Zq|fail)[*,Zs])|refine Ye ?_|refine Zx ?_|refine Zn ?_ ?_))
  exact⟨x % y,hlt,y,by omega,by omega,rfl,by simp,by rw[Nat.gcd_comm y,<- Nat.gcd_rec,Nat.gcd_comm,hg]⟩
set_option maxHeartbeats 4000000 in
theorem Zafn {r:Rt}(h:r.Ok)(hl:r.text.length < 2^20):∃(n d:Int) (b:Bool),Xn vE 204 [.str r.text] (.tuple [.agg [.int .i64 n,.int .i64 d],.bool b]):=by
 obtain⟨e1,e2⟩:=Si r;have hl1:=(V3 r).1;have hl2:=(V3 r).2;have Zn2:=Ztg r.text (by omega);rw[e1,e2]at Zn2;have h199:=Zfa r.num (by omega);have Z9s:=Zfa r.den (by omega);have hs:r.neg=true->Zf r.num≠[48]:=fun hn=>Za7 (h.sign hn)
 by_cases h9:9 < (Zf r.num).length
 .refine ⟨0,0,false,?_⟩;by_cases hd:r.den=1
  .rw [if_pos hd,List.append_nil]at Zn2;have Z9r:=Zoz (Zf r.num) (Zai _) (by omega);generalize r.text=s at *;generalize Zf r.num=q at *;generalize r.neg=ng at *;clear h hd e1 e2 hs Z9s hl2;intro K H;refine Wc Tryz.func204 ?_
   (refine Zm ?_;repeat'(first|(refine Zi fun _=>?_;try simp(disch:=first|exact Zq|fail)[*,Zs,Tryz.f204])|refine Ye ?_|refine Zx ?_|refine Zn ?_ ?_))
  .rw [if_neg hd]at Zn2 e1;have Z9r:=Ztf (Zf r.num) (Zf r.den) (Zai _) (by simp;omega);generalize hqq:Zf r.num++47::Zf r.den=qq at *;generalize r.text=s at *;generalize Zf r.num=q at *;generalize Zf r.den=q2 at *;generalize r.neg=ng at *;clear h hd e1 e2 hs;intro K H;refine Wc Tryz.func204 ?_
   (refine Zm ?_;repeat'(first|(refine Zi fun _=>?_;try simp(disch:=first|exact Zq|fail)[*,Zs,Tryz.f204])|refine Ye ?_|refine Zx ?_|refine Zn ?_ ?_))
 .have hq1:=Zcx r.num;have hn1:Yp (Zf r.num)=r.num:=Xv _;have h209:=Z2h (Zf r.num) hq1.1 (Zbv _) (by omega);rw[hn1]at h209;have Ss:r.num < 10^9:=Nat.lt_of_lt_of_le (Wf _) (Nat.pow_le_pow_right (by omega) (by omega));by_cases hd:r.den=1
  .refine ⟨if r.neg then -r.num else r.num,1,true,?_⟩;rw[if_pos hd,List.append_nil]at Zn2;have Z9r:=Zoz (Zf r.num) (Zai _) (by omega);generalize r.text=s at *;generalize Zf r.num=q at *;generalize r.num=N at *;generalize r.neg=ng at *;clear h hd e1 e2 Z9s hl2 hq1 hn1;cases ng with
   |false=>
    clear hs;by_cases hq0:q=[48]
    .subst hq0;intro K H;refine Wc Tryz.func204 ?_
     (refine Zm ?_;repeat'(first|(refine Zi fun _=>?_;try simp(disch:=first|exact Zq|fail)[*,Zs,Tryz.f204])|refine Ye ?_|refine Zx ?_|refine Zn ?_ ?_))
    .have hq0':(q==[48])=false:=by simpa using hq0
     intro K H;refine Wc Tryz.func204 ?_
     (refine Zm ?_;repeat'(first|(refine Zi fun _=>?_;try simp(disch:=first|exact Zq|fail)[*,Zs,Tryz.f204])|refine Ye ?_|refine Zx ?_|refine Zn ?_ ?_))
   |true=>
    have hs':(q==[48])=false:=by simpa using hs rfl
    clear hs;intro K H;refine Wc Tryz.func204 ?_
    (refine Zm ?_;repeat'(first|(refine Zi fun _=>?_;try simp(disch:=first|exact Zq|fail)[*,Zs,Tryz.f204])|refine Ye ?_|refine Zx ?_|refine Zn ?_ ?_))
  .rw [if_neg hd]at Zn2 e1;have Z9r:=Ztf (Zf r.num) (Zf r.den) (Zai _) (by simp;omega);by_cases h9d:9 < (Zf r.den).length
   .refine ⟨0,0,false,?_⟩;generalize hqq:Zf r.num++47::Zf r.den=qq at *;generalize r.text=s at *;generalize Zf r.num=q at *;generalize Zf r.den=q2 at *;generalize r.neg=ng at *;clear h hd e1 e2 hs h209;intro K H;refine Wc Tryz.func204 ?_
    (refine Zm ?_;repeat'(first|(refine Zi fun _=>?_;try simp(disch:=first|exact Zq|fail)[*,Zs,Tryz.f204])|refine Ye ?_|refine Zx ?_|refine Zn ?_ ?_))
   .have hq2:=Zcx r.den;have hn2:Yp (Zf r.den)=r.den:=Xv _;have Zas1:=Z2h (Zf r.den) hq2.1 (Zbv _) (by omega);rw[hn2]at Zas1;have Qu:r.den < 10^9:=Nat.lt_of_lt_of_le (Wf _) (Nat.pow_le_pow_right (by omega) (by omega));have h210:=Zafk r.num r.den (by omega) (by omega);rw[h.low]at h210;have hdp:=h.den
    have Zv6:Zf r.num≠[48]:=by
     refine Za7 fun e=>?_
     have:=h.low;rw[e,Nat.gcd_zero_left]at this;exact hd this
    have Zake:(Zf r.num==[48])=false:=by simpa using Zv6
    refine⟨if r.neg then -r.num else r.num,r.den,true,?_⟩;generalize hqq:Zf r.num++47::Zf r.den=qq at *;generalize r.text=s at *;generalize Zf r.num=q at *;generalize Zf r.den=q2 at *;generalize r.neg=ng at *;generalize r.num=N at *;generalize r.den=D at *;clear h e1 e2 hs hq1 hq2 hn1 hn2 Zv6;cases ng with
    |false=>
     intro K H;refine Wc Tryz.func204 ?_
     (refine Zm ?_;repeat'(first|(refine Zi fun _=>?_;try simp(disch:=first|exact Zq|fail)[*,Zs,Tryz.f204])|refine Ye ?_|refine Zx ?_|refine Zn ?_ ?_))
    |true=>
     intro K H;refine Wc Tryz.func204 ?_
     (refine Zm ?_;repeat'(first|(refine Zi fun _=>?_;try simp(disch:=first|exact Zq|fail)[*,Zs,Tryz.f204])|refine Ye ?_|refine Zx ?_|refine Zn ?_ ?_))
def Yl (n:Nat):List Nat:=if h:n=0 then [] else n % 1000000000::Yl (n / 1000000000)
 decreasing_by omega
def V1:List Nat->Nat
 | []=>0
 |x::r=>x+1000000000*V1 r
theorem Wk:Yl 0=[]:=by rw[Yl];simp
theorem Up {n:Nat}(h:0 < n):Yl n=n % 1000000000::Yl (n / 1000000000):=by rw[Yl,dif_neg (by omega)]
theorem Z3s:∀n,V1 (Yl n)=n:=by
 intro n
 induction n using Nat.strongRecOn with
 | _ n ih=>
   rcases Nat.eq_zero_or_pos n with rfl | h
   .rw [Wk];rfl
   .rw [Up h,V1,ih _ (by omega)];omega
theorem Z7q:∀n,∀x∈Yl n,x < 1000000000:=by
 intro n
 induction n using Nat.strongRecOn with
 | _ n ih=>
   rcases Nat.eq_zero_or_pos n with rfl | h
   .rw [Wk];simp
   .rw [Up h];intro x hx;rcases List.mem_cons.1 hx with rfl | hx
    .omega
    .exact ih _ (by omega) x hx
theorem Zy1:∀n,∀h:Yl n≠[],(Yl n).getLast h≠0:=by
 intro n
 induction n using Nat.strongRecOn with
 | _ n ih=>
   intro h;rcases Nat.eq_zero_or_pos n with rfl | hp
   .exact absurd Wk h
   .revert h
    rw[Up hp];intro h;rcases Nat.eq_zero_or_pos (n / 1000000000) with h0 | h0
    .have:Yl (n / 1000000000)=[]:=by rw[h0,Wk]
     simp only[this,List.getLast_singleton];omega
    .have Yi:Yl (n / 1000000000)≠[]:=by rw[Up h0];simp
     rw[List.getLast_cons Yi];exact ih _ (by omega) Yi
theorem Zqn:∀xs:List Nat,(∀x∈xs,x < 1000000000)->∃k,xs=Yl (V1 xs)++List.replicate k 0
 | [],_=>⟨0,by simp[V1,Wk]⟩
 |x::r,h=>by
  obtain⟨k,hk⟩:=Zqn r fun y hy=>h y (by simp[hy])
  have hx:=h x (by simp);rw[V1];rcases Nat.eq_zero_or_pos (x+1000000000*V1 r) with h0 | h0
  .have h1:x=0:=by omega
   have h2:V1 r=0:=by omega
   rw[h2,Wk,List.nil_append]at hk;rw[h0,Wk,h1];exact⟨k+1,by rw[List.nil_append,List.replicate_succ,<- hk]⟩
  .rw [Up h0];have h1:(x+1000000000*V1 r) % 1000000000=x:=by omega
   have h2:(x+1000000000*V1 r) / 1000000000=V1 r:=by omega
   rw[h1,h2];exact⟨k,by rw[List.cons_append,<- hk]⟩
theorem Zuj (a b:List Nat):V1 (a++b)=V1 a+1000000000^a.length*V1 b:=by
 induction a with
 |nil=>simp[V1]
 |cons x a ih=>
  rw[List.cons_append,V1,V1,ih,List.length_cons,Nat.pow_succ,Nat.mul_add];rw[<- Nat.mul_assoc,Nat.mul_comm 1000000000 (1000000000^a.length)];omega
abbrev U (b:Bool)(xs:List Nat):PV:=L 216 b (xs.map fun x:Nat=>PV.int .u32 (x:Int))
theorem Zafe (N k:Nat)(b:Bool)(hl:(Yl N).length+k < 2^30):Xn vE 218 [U b (Yl N++List.replicate k 0)] (U (b&&(Yl N++List.replicate k 0).isEmpty) (Yl N)):=by
 have Z1l:=Zy1 N;have htk:(Yl N++List.replicate k 0).take (Yl N).length=Yl N:=by simp
 have hz:∀j (h:j < (Yl N++List.replicate k 0).length),(Yl N).length<=j->(Yl N++List.replicate k 0)[j]=0:=fun j h h2=>by
  rw[List.getElem_append_right h2];simp
 have hnz:∀h:0 < (Yl N).length,∀h2:(Yl N).length - 1 < (Yl N++List.replicate k 0).length,(Yl N++List.replicate k 0)[(Yl N).length - 1]≠0:=fun h h2=>by
  rw[List.getElem_append_left (by omega),<- List.getLast_eq_getElem (List.length_pos_iff.1 h)];exact Z1l _
 have hlen:(Yl N++List.replicate k 0).length=(Yl N).length+k:=by simp
 generalize Yl N++List.replicate k 0=xs at *;generalize hM:Yl N=ys at *;intro K H;refine Wc Tryz.func218 ?_
 (refine Zm ?_;repeat'(first|(refine Zi fun _=>?_;try simp(disch:=first|exact Zq|fail)[*,Zs,Tryz.f218])|refine Ye ?_|refine Zx ?_|refine Zn ?_ ?_))
 refine Zl [0] (fun n sl h=>∃j:Nat,n=j/\ys.length<=j/\j<=xs.length/\sl 3=some (.int .i64 j)) xs.length rfl ⟨xs.length,rfl,by omega,by omega,by simp;omega⟩ ?_;rintro n sl h hf ⟨j,hn,hj1,hj2,h3⟩;simp at hf;by_cases hlt:ys.length < j
 .have h0:=hz (j - 1) (by omega) (by omega);have e1:((j:Int) - 1).toNat=j - 1:=by omega
  clear hz hnz Z1l htk
  (refine Zm ?_;repeat'(first|(refine Zi fun _=>?_;try simp(disch:=first|exact Zq|fail)[*,Zs])|refine Ye ?_|refine Zx ?_|refine Zn ?_ ?_))
  exact⟨j - 1,by omega,by omega,by omega,by omega⟩
 .have hj:j=ys.length:=by omega
  subst hj;by_cases hy:ys.length=0
  .have hy':ys=[]:=List.length_eq_zero_iff.1 hy;subst hy';clear hz hnz Z1l
   (refine Zm ?_;repeat'(first|(refine Zi fun _=>?_;try simp(disch:=first|exact Zq|fail)[*,Zs])|refine Ye ?_|refine Zx ?_|refine Zn ?_ ?_))
   rfl
  .have h0:=hnz (by omega) (by omega);have e1:((ys.length:Int) - 1).toNat=ys.length - 1:=by omega
   have htk':(xs.map fun x:Nat=>PV.int .u32 (x:Int)).take ys.length=ys.map fun x:Nat=>PV.int .u32 (x:Int):=by
    rw[<- List.map_take,htk]
   clear hz hnz Z1l
   (refine Zm ?_;repeat'(first|(refine Zi fun _=>?_;try simp(disch:=first|exact Zq|fail)[*,Zs])|refine Ye ?_|refine Zx ?_|refine Zn ?_ ?_))
theorem Zoy (xs:List Nat)(b:Bool)(hx:∀x∈xs,x < 1000000000)(hl:xs.length < 2^30):Xn vE 218 [U b xs] (U (b&&xs.isEmpty) (Yl (V1 xs))):=by
 obtain⟨k,hk⟩:=Zqn xs hx
 have hle:(Yl (V1 xs)).length+k=xs.length:=by
  have:=congrArg List.length hk;simp at this;omega
 have:=Zafe (V1 xs) k b (by omega)
 rwa [<- hk]at this
set_option maxHeartbeats 4000000 in
theorem Z2g (n:Nat)(hl:(Zf n).length < 2^20):Xn vE 211 [.str (Zf n)] (U false (Yl n)):=by
 have hd:=(Zcx n).1;have hn:=Xv n;have Sx:0 < (Zf n).length:=List.length_pos_iff.2 (Zbv n);generalize Zf n=s at *;intro K H;refine Wc Tryz.func211 ?_
 (refine Zm ?_;repeat'(first|(refine Zi fun _=>?_;try simp(disch:=first|exact Zq|fail)[*,Zs,Tryz.f211])|refine Ye ?_|refine Zx ?_|refine Zn ?_ ?_))
 refine Zl [0] (fun m sl h=>∃(e:Nat) (q:Int) (xs:List Nat) (w:PV),m=e/\(q=e\/e=0 /\ -9<=q/\q<=0)/\e<=s.length/\sl 4=some (.int .i64 q)/\sl 3=some w/\Acc [36] ⟨H.next,H.next,[]⟩ h 216 w (xs.map fun x:Nat=>PV.int .u32 (x:Int))/\(∀x∈xs,x < 1000000000)/\xs.length<=s.length - e/\n=V1 xs+1000000000^xs.length*Yp (s.take e)/\(xs=[]->e=s.length)) s.length rfl ⟨s.length,s.length,[],.nils,rfl,Or.inl rfl,by omega,by simp,by simp,Acc.nil,by simp,by simp,by simp[V1,hn],by simp⟩ ?_;rintro m sl h hf ⟨e,q,xs,w,hm,hq,he,h4,h3,hA,hx,hxl,hv,Yi⟩;simp at hf;by_cases h0:e=0
 .subst h0;have hq0:q<=0:=by omega
  rw[List.take_zero,show Yp []=0 from rfl,Nat.mul_zero,Nat.add_zero]at hv;have hxne:xs≠[]:=fun e=>by have:=Yi e;omega
  have Z4l:=Zoy xs true hx (by omega);rw[<- hv]at Z4l;have Uq:(true&&xs.isEmpty)=false:=by simpa using hxne
  rw[Uq]at Z4l;obtain⟨h',hc,U7,hg⟩:=hA.callF (C:=vE) (f:=218) rfl rfl [] [] Z4l (fun _=>by simp) rfl rfl;simp only[List.nil_append]at hc;clear hn Yi hx hxl hv hd
  (refine Zm ?_;repeat'(first|(refine Zi fun _=>?_;try simp(disch:=first|exact Zq|fail)[*,Zs])|refine Ye ?_|refine Zx ?_|refine Zn ?_ ?_))
 .have hqe:q=e:=by omega
  subst hqe;obtain⟨c0,hc0⟩:∃c0,c0=e - 9:=⟨_,rfl⟩
  have hmx:max ((e:Int) - 9) 0=c0:=by omega
  have hcl:e<=Virt.maxLenV+c0:=by rw[R4];omega
  have hce:c0 < e:=by omega
  have htk:s.take e=s.take c0++(s.drop c0).take (e - c0):=by
   rw[<- List.take_add];congr 1;omega
  have hchl:((s.drop c0).take (e - c0)).length=e - c0:=by simp;omega
  have hchd:∀c∈(s.drop c0).take (e - c0),48<=c/\c<=57:=fun c hc=>hd c (List.drop_subset _ _ (List.take_subset _ _ hc))
  have hmp:List.take (e - c0) (List.drop c0 (s.map fun b:Nat=>PV.int IntKind.u8 (b:Int)))=((s.drop c0).take (e - c0)).map fun b:Nat=>PV.int IntKind.u8 (b:Int):=by rw[List.map_take,List.map_drop]
  generalize hch:(s.drop c0).take (e - c0)=ch at *;have hbv:∀i,i<=ch.length->Yp (ch.take i) < 10^9:=fun i hi=>Nat.lt_of_lt_of_le (Zuk hchd i hi) (Nat.pow_le_pow_right (by omega) (by omega))
  rw[htk,Zko]at hv;have h9:9<=e->ch.length=9:=fun h=>by omega
  have h9':e < 9->c0=0:=fun h=>by omega
  replace hc0:=Hide.mk hc0;replace hv:=Hide.mk hv;replace hch:=Hide.mk hch;replace htk:=Hide.mk htk;clear hd
  (refine Zm ?_;repeat'(first|(refine Zi fun _=>?_;try simp(disch:=first|exact Zq|fail)[*,Zs])|refine Ye ?_|refine Zx ?_|refine Zn ?_ ?_))
  generalize hhh:h.put (H.next+20) (h.stamp (H.next+20)) (.row 5 true (ch.map fun b:Nat=>PV.int IntKind.u8 (b:Int)))=hh;generalize hv20:h.stamp (H.next+20)=v20 at *;have hg20:hh.get (H.next+20)=some (v20,.row 5 true (ch.map fun b:Nat=>PV.int IntKind.u8 (b:Int))):=by rw[<- hhh];simp
  have hA2:Acc [36] ⟨H.next,H.next,[]⟩ hh 216 w (xs.map fun x:Nat=>PV.int .u32 (x:Int)):=hA.frame fun d hd=>by simp at hd;subst hd;rw[<- hhh];simp
  clear hA hhh;refine Zl [0,3,4,20,21] (fun m sl h=>∃i:Nat,m=ch.length - i/\i<=ch.length/\sl 22=some (.int .i64 i)/\sl 5=some (.int .u32 (Yp (ch.take i)))/\h=hh) ch.length rfl ⟨0,by simp,by simp,by simp,by simp[Yp,Zlh],rfl⟩ ?_;rintro m2 sl2 h2 hf2 ⟨i,hm2,hi,h22,h5,rfl⟩;simp[hf]at hf2;by_cases hlt:i < ch.length
  .have hc:=hchd ch[i] (List.getElem_mem hlt);have hbi:=hbv i hi;have hbi2:=hbv (i+1) hlt
   have X2:Yp (ch.take (i+1))=Yp (ch.take i)*10+(ch[i] - 48):=by
    rw[List.take_add_one,List.getElem?_eq_getElem hlt,Option.toList,Ti]
   generalize hsi:ch[i]=c at *;generalize hAA:Yp (ch.take i)=A at *;generalize hB:Yp (ch.take (i+1))=B at *;clear hchd hbv hx hxl Yi hm he
   (refine Zm ?_;repeat'(first|(refine Zi fun _=>?_;try simp(disch:=first|exact Zq|fail)[*,Zs])|refine Ye ?_|refine Zx ?_|refine Zn ?_ ?_))
   exact⟨_,by omega,i+1,rfl,by omega,by omega,by rw[hB];omega⟩
  .have hi':i=ch.length:=by omega
   subst hi';rw[List.take_length]at h5;have Qu:=hbv ch.length (Nat.le_refl _);rw[List.take_length]at Qu;obtain⟨w',h',Te,Xj,Tw,Zk⟩:=hA2.app (dd:=36) (ys:=[PV.int .u32 (Yp ch)]) (T:={k:=.int .u32,size:=1,bytes:=4,zero:=[.int .u32 0]}) (by simp) rfl (by simp only[List.length_map,List.length_cons,List.length_nil];omega) (by decide) (by decide) (by simp);simp only[List.length_cons,List.length_nil]at Te;have Ww:=hA2.same (n:=3);have Zc9:=Xj.same (n:=3)
   have hA'':Acc [36] ⟨H.next,H.next,[]⟩ h' 216 w' ((xs++[Yp ch]).map fun x:Nat=>PV.int .u32 (x:Int)):=by
    rw[List.map_append];exact Xj
   have hv':n=V1 (xs++[Yp ch])+1000000000^(xs++[Yp ch]).length*Yp (s.take c0):=by
    rw[hv.get,Zuj,List.length_append,List.length_cons,List.length_nil,Nat.pow_succ];by_cases h99:9<=e
    .rw [h9 h99];simp only[V1];rw[Nat.mul_add,show (10:Nat)^9=1000000000 from rfl,Nat.mul_zero,Nat.add_zero,Nat.mul_assoc,Nat.mul_comm 1000000000 (Yp _)];omega
    .rw [h9' (by omega)];simp[V1,show Yp []=0 from rfl]
   have hx':∀x∈xs++[Yp ch],x < 1000000000:=by
    intro x hxx;rcases List.mem_append.1 hxx with h | h
    .exact hx x h
    .simp at h;omega
   replace hA'':=Hide.mk hA'';replace hv':=Hide.mk hv';replace hx':=Hide.mk hx';clear hchd hbv hx Yi Zk Xj hA2
   (refine Zm ?_;repeat'(first|(refine Zi fun _=>?_;try simp(disch:=first|exact Zq|fail)[*,Zs])|refine Ye ?_|refine Zx ?_|refine Zn ?_ ?_))
   have hc0':=hc0.get;refine⟨c0,by omega,?_⟩;by_cases h99:9<=e
   .exact .inl ⟨by omega,by omega,_,hA''.get,hx'.get,by simp;omega,hv'.get,by simp⟩
   .exact .inr ⟨_,⟨by omega,by omega,by omega⟩,by omega,rfl,_,hA''.get,hx'.get,by simp;omega,hv'.get,by simp⟩
theorem Zcj {d:Nat}(h0:0 < d)(h:d < 1000000000):Yl d=[d]:=by
 rw[Up h0];have:d / 1000000000=0:=by omega
 rw[this,Wk];congr 1;omega
theorem Zqm {n:Nat}(h:1000000000<=n):2<=(Yl n).length:=by
 rw[Up (by omega),Up (by omega:0 < n / 1000000000)];simp
theorem Zafb (n d:Nat)(h0:0 < d)(hd:d < 1000000000)(hl:(Yl n).length < 2^30):∃c:Int,(c < 0↔n < d)/\Xn vE 226 [U false (Yl n),U false [d]] (.int .i64 c):=by
 rcases Nat.eq_zero_or_pos n with rfl | hp
 .refine ⟨-1,by simp;omega,?_⟩;rw[Wk];intro K H;refine Wc Tryz.func226 ?_
  (refine Zm ?_;repeat'(first|(refine Zi fun _=>?_;try simp(disch:=first|exact Zq|fail)[*,Zs,Tryz.f226])|refine Ye ?_|refine Zx ?_|refine Zn ?_ ?_))
 .rcases Nat.lt_or_ge n 1000000000 with hn | hn
  .refine ⟨(n:Int) - d,by omega,?_⟩;rw[Zcj hp hn];intro K H;refine Wc Tryz.func226 ?_
   (refine Zm ?_;repeat'(first|(refine Zi fun _=>?_;try simp(disch:=first|exact Zq|fail)[*,Zs,Tryz.f226])|refine Ye ?_|refine Zx ?_|refine Zn ?_ ?_))
   refine Zl [0,1] (fun m sl h=>m=1/\sl 5=some (.int .i64 0)\/m=0/\n=d/\sl 5=some (.int .i64 (-1))) 1 rfl (Or.inl ⟨rfl,by simp⟩) ?_;rintro m sl h hf (⟨rfl,h5⟩ | ⟨rfl,rfl,h5⟩)
   .simp at hf
    (refine Zm ?_;repeat'(first|(refine Zi fun _=>?_;try simp(disch:=first|exact Zq|fail)[*,Zs])|refine Ye ?_|refine Zx ?_|refine Zn ?_ ?_))
    omega
   .simp at hf
    (refine Zm ?_;repeat'(first|(refine Zi fun _=>?_;try simp(disch:=first|exact Zq|fail)[*,Zs])|refine Ye ?_|refine Zx ?_|refine Zn ?_ ?_))
  .refine ⟨((Yl n).length:Int) - 1,by have:=Zqm hn;omega,?_⟩;have h2:=Zqm hn;generalize Yl n=xs at *;intro K H;refine Wc Tryz.func226 ?_
   (refine Zm ?_;repeat'(first|(refine Zi fun _=>?_;try simp(disch:=first|exact Zq|fail)[*,Zs,Tryz.f226])|refine Ye ?_|refine Zx ?_|refine Zn ?_ ?_))
theorem Zp2 {xs:List Nat}{i:Nat}(h:i < xs.length):V1 (xs.drop i)=xs[i]+1000000000*V1 (xs.drop (i+1)):=by
 rw[List.drop_eq_getElem_cons h,V1]
theorem Z98 (r x Q d B:Nat)(hd:0 < d):(r*B+x) / d*d+B*Q*d+(r*B+x) % d=x+B*(Q*d+r):=by
 have h1:=Nat.div_add_mod (r*B+x) d;have h2:(r*B+x) / d*d=d*((r*B+x) / d):=Nat.mul_comm _ _;have h3:B*(Q*d+r)=B*Q*d+r*B:=by rw[Nat.mul_add,Nat.mul_assoc,Nat.mul_comm B r]
 omega
set_option maxHeartbeats 4000000 in
theorem Zafa (n d:Nat)(h0:0 < d)(hd:d < 1000000000)(hn:0 < n)(hl:(Yl n).length < 2^29):Xn vE 227 [U false (Yl n),.int .u32 d] (.tuple [U false (Yl (n / d)),U false (Yl (n % d))]):=by
 have hxs:=Z7q n;have hv:=Z3s n;have Yi:(Yl n).length≠0:=by rw[Up hn];simp
 have hl':(Yl n).length<=Virt.maxLenV:=by rw[R4];omega
 generalize Yl n=xs at *;have hl2:((xs.length:Int)).toNat=xs.length:=by omega
 intro K H;refine Wc Tryz.func227 ?_
 (refine Zm ?_;repeat'(first|(refine Zi fun _=>?_;try simp(disch:=first|exact Zq|fail)[*,Zs,Tryz.f227])|refine Ye ?_|refine Zx ?_|refine Zn ?_ ?_))
 generalize hv12:H.stamp (H.next+12)=v12;refine Zl [0,1,6] (fun m sl h=>∃(i:Nat) (q:List Nat) (r:Nat),m=i/\i<=xs.length/\sl 8=some (.int .i64 ((i:Int) - 1))/\sl 7=some (.int .u64 r)/\h.get (H.next+12)=some (v12,.row 216 true (q.map fun x:Nat=>PV.int .u32 (x:Int)))/\q.length=xs.length/\r < d/\V1 (q.drop i)*d+r=V1 (xs.drop i)/\∀x∈q,x < 1000000000) xs.length rfl ⟨xs.length,List.replicate xs.length 0,0,rfl,Nat.le_refl _,by simp,by simp,by simp[*],by simp,h0,by simp[V1],by simp⟩ ?_;rintro m sl h hf ⟨i,q,r,hm,hi,h8,h7,h12,hql,hr,hq,hqB⟩;simp at hf;by_cases hlt:0 < i
 .obtain ⟨j,rfl⟩:∃j,i=j+1:=⟨i - 1,by omega⟩
  have hx:=hxs xs[j] (List.getElem_mem (by omega:j < xs.length));have hqj:j < q.length:=by omega
  have hvs:V1 (xs.drop j)=xs[j]+1000000000*V1 (xs.drop (j+1)):=Zp2 (by omega);generalize hxj:xs[j]=x at *;have Zcp:=Z98 r x (V1 (q.drop (j+1))) d 1000000000 h0;rw[hq,<- hvs]at Zcp
  have hvd:(r*1000000000+x) / d < 1000000000:=by
   rw[Nat.div_lt_iff_lt_mul h0];have:r*1000000000+1000000000<=d*1000000000:=by omega
   omega
  have hvm:(r*1000000000+x) % d < d:=Nat.mod_lt _ h0;generalize hV:r*1000000000+x=V at *;have hVi:(r:Int)*1000000000+x=V:=by omega
  have hVb:V < 1000000000*1000000000+1000000000:=by omega
  have htd:Int.tdiv (V:Int) (d:Int)=((V / d:Nat):Int):=by
   rw[Int.tdiv_eq_ediv_of_nonneg (by omega)];rfl
  have htm:Int.tmod (V:Int) (d:Int)=((V % d:Nat):Int):=by
   rw[Int.tmod_eq_emod_of_nonneg (by omega)];rfl
  have Zaz:∀x∈q.set j (V / d),x < 1000000000:=fun y hy=>by
   rcases List.mem_or_eq_of_mem_set hy with h | rfl
   .exact hqB y h
   .exact hvd
  have hdr:V1 ((q.set j (V / d)).drop j)=V / d+1000000000*V1 (q.drop (j+1)):=by
   rw[Zp2 (by simpa using hqj),List.drop_set_of_lt (by omega)];simp
  have Xa:V1 ((q.set j (V / d)).drop j)*d+V % d=V1 (xs.drop j):=by
   rw[hdr,Nat.add_mul];omega
  have hd0:d≠0:=by omega
  have hW:(V:Int) / (d:Int)=((V / d:Nat):Int):=rfl;have hM:(V:Int) % (d:Int)=((V % d:Nat):Int):=rfl;generalize V / d=W at *;generalize V % d=M at *;replace Zaz:=Hide.mk Zaz;replace Xa:=Hide.mk Xa;clear Zcp hdr hqB hq hxs hvs;have e1:((j:Int)+1 - 1)=j:=by omega
  (refine Zm ?_;repeat'(first|(refine Zi fun _=>?_;try simp(disch:=first|exact Zq|fail)[*,Zs])|refine Ye ?_|refine Zx ?_|refine Zn ?_ ?_))
  exact⟨j,by omega,by omega,rfl,q.set j W,M,rfl,by rw[List.map_set],by simp[hql],hvm,Xa.get,Zaz.get⟩
 .have hi0:i=0:=by omega
  subst hi0;simp only[List.drop_zero]at hq;rw[hv]at hq
  have hqn:V1 q=n / d:=by
   rw[<- hq,Nat.mul_comm,Nat.mul_add_div h0,Nat.div_eq_of_lt hr];simp
  have hrn:r=n % d:=by
   rw[<- hq,Nat.mul_comm,Nat.mul_add_mod,Nat.mod_eq_of_lt hr]
  have hqne:q≠[]:=fun e=>by rw[e]at hql;exact Yi hql.symm
  have Z4l:=Zoy q true hqB (by omega);have Uq:(true&&q.isEmpty)=false:=by simpa using hqne
  rw[Uq,hqn]at Z4l;have Z9q:=Zoy [r] false (by simp;omega) (by simp);have hvr:V1 [r]=r:=by simp[V1]
  rw[hvr]at Z9q;simp only[U,List.isEmpty_cons,Bool.and_false,List.map_cons,List.map_nil,Xs,Bool.and_self]at Z9q;rw[hrn]at Z9q h7;have hA:Acc [12] ⟨H.next,H.next,[]⟩ h 216 (.own (H.next+12) v12 216 0 xs.length) (q.map fun x:Nat=>PV.int .u32 (x:Int)):=Or.inr ⟨12,v12,by simpa using hqne,by simp,by simp[hql],h12⟩;obtain⟨h',hc,U7,hg⟩:=hA.callF (C:=vE) (f:=218) rfl rfl [] [] Z4l (fun _=>by simp) rfl rfl;simp only[List.nil_append]at hc;have hmd:n % d < d:=Nat.mod_lt _ h0;have hM:(n:Int) % (d:Int)=((n % d:Nat):Int):=rfl;generalize n % d=M at *;generalize n / d=W at *;clear hq hxs hA hqB hv hn hrn hqn hg
  (refine Zm ?_;repeat'(first|(refine Zi fun _=>?_;try simp(disch:=first|exact Zq|fail)[*,Zs])|refine Ye ?_|refine Zx ?_|refine Zn ?_ ?_))
theorem Zvm (a m n:Nat):(a+m).blt (a+n)=m.blt n:=by
 rw[Bool.eq_iff_iff,Nat.blt_eq,Nat.blt_eq];omega
theorem Zafd (n d:Nat)(h0:0 < d)(hd:d < 1000000000)(hl:(Yl n).length < 2^29):Xn vE 219 [U false (Yl n),U false [d]] (.tuple [U (decide (n < d)) (Yl (n / d)),U false (Yl (n % d))]):=by
 obtain⟨c,hc,h226⟩:=Zafb n d h0 hd (by omega);by_cases hlt:n < d
 .have hc':=hc.2 hlt;rw[Nat.div_eq_of_lt hlt,Nat.mod_eq_of_lt hlt,Wk,decide_eq_true hlt];generalize Yl n=xs at *;simp only[U,List.map_nil,List.map_cons,Wi,Xs,Zbz]at *;intro K H;refine Wc Tryz.func219 ?_
  (refine Zm ?_;repeat'(first|(refine Zi fun _=>?_;try simp(disch:=first|exact Zq|fail)[*,Zs,Tryz.f219])|refine Ye ?_|refine Zx ?_|refine Zn ?_ ?_))
 .have hc':¬ c < 0:=fun h=>hlt (hc.1 h)
  have h227:=Zafa n d h0 hd (by omega) hl;rw[decide_eq_false hlt];generalize Yl n=xs at *;generalize Yl (n / d)=qs at *;generalize Yl (n % d)=rs at *;simp only[U,List.map_nil,List.map_cons,Wi,Xs,Zbz]at *;clear hc;intro K H;refine Wc Tryz.func219 ?_
  (refine Zm ?_;repeat'(first|(refine Zi fun _=>?_;try simp(disch:=first|exact Zq|fail)[*,Zs,Tryz.f219])|refine Ye ?_|refine Zx ?_|refine Zn ?_ ?_))
theorem Zpg (n:Nat):(Yl n).length<=(Zf n).length:=by
 induction n using Nat.strongRecOn with
 | _ n ih=>
   rcases Nat.eq_zero_or_pos n with rfl | hn
   .rw [Wk];simp
   .rw [Up hn];rcases Nat.lt_or_ge n 1000000000 with h | h
    .have:n / 1000000000=0:=by omega
     rw[this,Wk];have:=List.length_pos_iff.2 (Zbv n);simp;omega
    .have h1:=ih (n / 1000000000) (by omega);have h2:(Zf (n / 1000000000)).length<=(Zf (n / 10)).length:=Ws (by omega)
     have h3:(Zf n).length=(Zf (n / 10)).length+1:=by
      conv=>lhs;rw[Zf]
      rw[if_neg (by omega)];simp
     simp;omega
theorem Zafj (n d:Nat)(hd:d < 1000000000)(hl:(Yl n).length < 2^28):Xn vE 212 [U false (Yl n),U false (Yl d)] (U false (Yl (Nat.gcd n d))):=by
 intro K H;refine Wc Tryz.func212 ?_
 (refine Zm ?_;repeat'(first|(refine Zi fun _=>?_;try simp(disch:=first|exact Zq|fail)[*,Zs,Tryz.f212])|refine Ye ?_|refine Zx ?_|refine Zn ?_ ?_))
 refine Zl [] (fun m sl h=>∃x y:Nat,m=y/\y < 1000000000/\(Yl x).length < 2^29/\sl 0=some (U false (Yl x))/\sl 1=some (U false (Yl y))/\Nat.gcd x y=Nat.gcd n d) d rfl ⟨n,d,rfl,hd,by omega,by simp,by simp,rfl⟩ ?_;rintro m sl h hf ⟨x,y,hm,hy,hx,h0,h1,hg⟩;simp at hf;by_cases hy0:y=0
 .subst hy0;rw[Nat.gcd_zero_right]at hg;rw[Wk]at h1;rw[hg]at h0;generalize Yl (Nat.gcd n d)=r at *;simp only[U,List.map_nil,List.map_cons,Wi,Xs,Zbz]at *
  (refine Zm ?_;repeat'(first|(refine Zi fun _=>?_;try simp(disch:=first|exact Zq|fail)[*,Zs])|refine Ye ?_|refine Zx ?_|refine Zn ?_ ?_))
 .have h219:=Zafd x y (by omega) hy hx;have hlt:x % y < y:=Nat.mod_lt _ (by omega);have hly:(Yl y).length < 2^29:=by rw[Zcj (by omega) hy];simp
  have hgn:Nat.gcd y (x % y)=Nat.gcd n d:=by rw[Nat.gcd_comm y,<- Nat.gcd_rec,Nat.gcd_comm,hg]
  rw[Zcj (by omega) hy]at h1;have e1:PV.lst 216 [.int .u32 y]=U false (Yl y):=by rw[Zcj (by omega) hy];rfl
  generalize hrs:Yl (x % y)=rs at *;generalize Yl (x / y)=qs at *;generalize Yl x=xs at *;replace hrs:=Hide.mk hrs;replace e1:=Hide.mk e1;simp only[U,List.map_nil,List.map_cons,Wi,Xs,Zbz]at h219 h0 h1;clear hg
  (refine Zm ?_;repeat'(first|(refine Zi fun _=>?_;try simp(disch:=first|exact Zq|fail)[*,Zs])|refine Ye ?_|refine Zx ?_|refine Zn ?_ ?_))
  exact⟨x % y,hlt,by omega,y,by omega,e1.get,by rw[hrs.get];rfl,hgn⟩
theorem Zafi:Xn vE 213 [.lst 216 [.int .u32 1]] (.bool true):=by
 intro K H;refine Wc Tryz.func213 ?_
 (refine Zm ?_;repeat'(first|(refine Zi fun _=>?_;try simp(disch:=first|exact Zq|fail)[*,Zs,Tryz.f213])|refine Ye ?_|refine Zx ?_|refine Zn ?_ ?_))
set_option maxHeartbeats 4000000 in
theorem Zafm {r:Rt}(h:r.Ok)(hl:r.text.length < 2^20)(hd:r.den < 1000000000):∃(ng:Bool) (xs ys:List PV),Xn vE 205 [.str r.text] (.tuple [.agg [.bool ng,.lst 216 xs,.lst 216 ys],.bool true]):=by
 obtain⟨e1,e2⟩:=Si r;have hl1:=(V3 r).1;have hl2:=(V3 r).2;have Zn2:=Ztg r.text (by omega);rw[e1,e2]at Zn2;have h199:=Zfa r.num (by omega);have h211:=Z2g r.num (by omega);have hs:r.neg=true->Zf r.num≠[48]:=fun hn=>Za7 (h.sign hn)
 by_cases hd1:r.den=1
 .refine ⟨r.neg,(Yl r.num).map fun x:Nat=>PV.int .u32 (x:Int),[.int .u32 1],?_⟩;rw[if_pos hd1,List.append_nil]at Zn2;have Z9r:=Zoz (Zf r.num) (Zai _) (by omega);generalize Yl r.num=xs at *;generalize r.text=s at *;generalize Zf r.num=q at *;generalize r.neg=ng at *;simp only[U,List.map_nil,List.map_cons,Wi,Xs,Zbz]at *;clear h hd1 e1 e2 hl2;cases ng with
  |false=>
   clear hs;by_cases hq0:q=[48]
   .subst hq0;intro K H;refine Wc Tryz.func205 ?_
    (refine Zm ?_;repeat'(first|(refine Zi fun _=>?_;try simp(disch:=first|exact Zq|fail)[*,Zs,Tryz.f205])|refine Ye ?_|refine Zx ?_|refine Zn ?_ ?_))
   .have hq0':(q==[48])=false:=by simpa using hq0
    intro K H;refine Wc Tryz.func205 ?_
    (refine Zm ?_;repeat'(first|(refine Zi fun _=>?_;try simp(disch:=first|exact Zq|fail)[*,Zs,Tryz.f205])|refine Ye ?_|refine Zx ?_|refine Zn ?_ ?_))
  |true=>
   have hs':(q==[48])=false:=by simpa using hs rfl
   clear hs;intro K H;refine Wc Tryz.func205 ?_
   (refine Zm ?_;repeat'(first|(refine Zi fun _=>?_;try simp(disch:=first|exact Zq|fail)[*,Zs,Tryz.f205])|refine Ye ?_|refine Zx ?_|refine Zn ?_ ?_))
 .refine ⟨r.neg,(Yl r.num).map fun x:Nat=>PV.int .u32 (x:Int),(Yl r.den).map fun x:Nat=>PV.int .u32 (x:Int),?_⟩;rw[if_neg hd1]at Zn2 e1;have Z9r:=Ztf (Zf r.num) (Zf r.den) (Zai _) (by simp;omega);have Z9s:=Zfa r.den (by omega);have Za2k:=Z2g r.den (by omega);have hnl:(Yl r.num).length < 2^28:=Nat.lt_of_le_of_lt (Zpg _) (by omega);have h212:=Zafj r.num r.den hd hnl;rw[h.low]at h212;have hl1:Yl 1=[1]:=Zcj (by omega) (by omega);rw[hl1]at h212;have h213:=Zafi
  have Zv6:Zf r.num≠[48]:=by
   refine Za7 fun e=>?_
   have:=h.low;rw[e,Nat.gcd_zero_left]at this;exact hd1 this
  have Zake:(Zf r.num==[48])=false:=by simpa using Zv6
  have Za12:(Zf r.den==[48])=false:=by simpa using Za7 (n:=r.den) (by have:=h.den;omega)
  have Za11:(Zf r.den==[49])=false:=by
   rw[beq_eq_false_iff_ne];intro e;have h1:=Xv r.den;rw[e]at h1;exact hd1 (by rw[<- h1];rfl)
  generalize hqq:Zf r.num++47::Zf r.den=qq at *;generalize Yl r.num=xs at *;generalize Yl r.den=ys at *;generalize r.text=s at *;generalize Zf r.num=q at *;generalize Zf r.den=q2 at *;generalize r.neg=ng at *;simp only[U,List.map_nil,List.map_cons,Wi,Xs,Zbz]at *;clear h hd1 e1 e2 hs Zv6;cases ng with
  |false=>
   intro K H;refine Wc Tryz.func205 ?_
   (refine Zm ?_;repeat'(first|(refine Zi fun _=>?_;try simp(disch:=first|exact Zw|fail)[*,Zz,Tryz.f205])|refine Zx ?_|refine Zn ?_ ?_))
   refine Yd false false [] [58] [H.next+9] [63,64] true (by decide +kernel) ?_
   (refine Zm ?_;repeat'(first|(refine Zi fun _=>?_;try simp(disch:=first|exact Zw|fail)[*,Zz,reach,refsO,Zvm])|refine Zx ?_|refine Zn ?_ ?_))
   exact absurd ‹Nat.blt 9 65=false› (by decide)
  |true=>
   intro K H;refine Wc Tryz.func205 ?_
   (refine Zm ?_;repeat'(first|(refine Zi fun _=>?_;try simp(disch:=first|exact Zw|fail)[*,Zz,Tryz.f205])|refine Zx ?_|refine Zn ?_ ?_))
   refine Yd false false [] [58] [H.next+9] [63,64] true (by decide +kernel) ?_
   (refine Zm ?_;repeat'(first|(refine Zi fun _=>?_;try simp(disch:=first|exact Zw|fail)[*,Zz,reach,refsO,Zvm])|refine Zx ?_|refine Zn ?_ ?_))
   exact absurd ‹Nat.blt 9 65=false› (by decide)
theorem Z2i {r:Rt}(h:r.Ok)(hl:r.text.length < 2^20)(hd:r.den < 1000000000):Xn vE 197 [.str r.text] (.bool true):=by
 obtain⟨n,d,b,h204⟩:=Zafn h hl;obtain⟨ng,xs,ys,h205⟩:=Zafm h hl hd;generalize r.text=s at *;cases b with
 |true=>
  intro K H;refine Wc Tryz.func197 ?_
  (refine Zm ?_;repeat'(first|(refine Zi fun _=>?_;try simp(disch:=first|exact Zq|fail)[*,Zs,Tryz.f197])|refine Ye ?_|refine Zx ?_|refine Zn ?_ ?_))
 |false=>
  intro K H;refine Wc Tryz.func197 ?_
  (refine Zm ?_;repeat'(first|(refine Zi fun _=>?_;try simp(disch:=first|exact Zq|fail)[*,Zs,Tryz.f197])|refine Ye ?_|refine Zx ?_|refine Zn ?_ ?_))
theorem Zafq {r:Rt}(h:r.Ok)(hl:r.text.length < 2^20)(hd:r.den=1)(hn:r.neg=false)(hn0:r.num≠0):Xn vE 184 [.str r.text] (.int .i64 1):=by
 have h197:=Z2i h hl (by omega);have e1:=Za7 hn0;have e:r.text=Zf r.num:=by unfold Rt.text;rw[hn,hd];simp
 rw[e]at h197 ⊢
 obtain⟨c,q,e2,e3,e4⟩:∃c q,Zf r.num=c::q/\49<=c/\c<=57:=by
  rcases Zkg r.num with h | h
  .exact absurd h hn0
  .exact h
 rw[e2]at h197 ⊢;have e5:((c::q)==[48])=false:=by simp;omega
 clear e hn hn0 hd h e1;intro K H;refine Wc Tryz.func184 ?_
 (refine Zm ?_;repeat'(first|(refine Zi fun _=>?_;try simp(disch:=first|exact Zq|fail)[*,Zs,Tryz.f184])|refine Ye ?_|refine Zx ?_|refine Zn ?_ ?_))
end Go.Proofs.YtabcdhcpilpojaaGreatDoor
end
