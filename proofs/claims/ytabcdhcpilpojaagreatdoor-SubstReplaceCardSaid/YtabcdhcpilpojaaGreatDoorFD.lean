/- The program's numbers: cutting texts. -/
import Derived.Test.YtabcdhcpilpojaaGreatDoorFA
import Derived.Test.YtabcdhcpilpojaaGreatDoorPD
set_option linter.unusedSimpArgs false
set_option linter.unusedVariables false
section
set_option maxRecDepth 20000
namespace Go.Proofs.YtabcdhcpilpojaaGreatDoor
open Go Go.Pure
open Go.Virt (Ex Ctx Ty TK)
theorem Z7t {p:Y9}(hp:∀c∈p,c < 256/\c≠47):Lib.indexByte (p.map Nat.toUInt8) 47 = -1:=by
 induction p with
 |nil=>rfl
 |cons c p ih=>
  have h1:=hp c (by simp)
  have Yp:(Nat.toUInt8 c==47)=false:=by
   rw[beq_eq_false_iff_ne];intro e;have:=congrArg UInt8.toNat e;simp at this;omega
  simp[Lib.indexByte,Yp,ih fun c hc=>hp c (by simp[hc])]
theorem Z7s {p q:Y9}(hp:∀c∈p,c < 256/\c≠47):Lib.indexByte ((p++47::q).map Nat.toUInt8) 47=p.length:=by
 induction p with
 |nil=>simp[Lib.indexByte]
 |cons c p ih=>
  have h1:=hp c (by simp)
  have Yp:(Nat.toUInt8 c==47)=false:=by
   rw[beq_eq_false_iff_ne];intro e;have:=congrArg UInt8.toNat e;simp at this;omega
  have h2:=ih fun c hc=>hp c (by simp[hc])
  have hge:((p.length:Int)== -1)=false:=by
   rw[beq_eq_false_iff_ne];omega
  rw[List.cons_append,List.map_cons,Lib.indexByte,Yp,h2];simp[hge]
theorem Zaev (s:Y9):Xq vE 230 [.str s,.int .u8 47] (.int .i64 (Lib.indexByte (s.map Nat.toUInt8) 47)):=by
 intro K H;rw[Zis];rfl
theorem Z1y (s:Y9)(hl:s.length < 2^30):Xq vE 220 [.str s,.str [47]] (.int .i64 (Lib.indexByte (s.map Nat.toUInt8) 47)):=by
 have h:=Zaev s;intro K H;refine Wc Tryz.func220 ?_
 (refine Zm ?_;repeat'(first|(refine Zi fun _=>?_;try simp(disch:=first|exact Zq|fail)[*,Yb,Tryz.f220])|refine Ye ?_|refine Zx ?_|refine Zn ?_ ?_))
 rename_i e;subst e;rfl
theorem Zae2 (p q:Y9)(hp:∀c∈p,c < 256/\c≠47)(hl:(p++47::q).length < 2^30):Xq vE 215 [.str (p++47::q),.str [47]] (.tuple [.str p,.str q,.bool true]):=by
 have h:=Z1y (p++47::q) hl;rw[Z7s hp]at h;generalize hs:p++47::q=s at *;have e1:s.take p.length=p:=by rw[<- hs];simp
 have e2:s.drop (p.length+1)=q:=by rw[<- hs];simp
 have hpl:p.length < s.length:=by rw[<- hs];simp
 have e3:List.take (s.length - (p.length+1)) q=q:=List.take_of_length_le (by rw[<- hs];simp;omega);have e1':(p.length:Int).toNat=p.length:=by omega
 have e2':((p.length:Int)+1).toNat=p.length+1:=by omega
 intro K H;refine Wc Tryz.func215 ?_
 (refine Zm ?_;repeat'(first|(refine Zi fun _=>?_;try simp(disch:=first|exact Zq|fail)[*,Yb,Tryz.f215])|refine Ye ?_|refine Zx ?_|refine Zn ?_ ?_))
theorem Zaal (s:Y9)(hp:∀c∈s,c < 256/\c≠47)(hl:s.length < 2^30):Xq vE 215 [.str s,.str [47]] (.tuple [.str s,.str [],.bool false]):=by
 have h:=Z1y s hl;rw[Z7t hp]at h;intro K H;refine Wc Tryz.func215 ?_
 (refine Zm ?_;repeat'(first|(refine Zi fun _=>?_;try simp(disch:=first|exact Zq|fail)[*,Yb,Tryz.f215])|refine Ye ?_|refine Zx ?_|refine Zn ?_ ?_))
theorem Zsv (p q:Y9)(hp:∀c∈p,c < 256/\c≠47)(hl:(p++47::q).length < 2^30):Xq vE 208 [.str (p++47::q),.str [47]] (.tuple [.str p,.str q,.bool true]):=by
 have h:=Zae2 p q hp hl;generalize p++47::q=s at *;intro K H;refine Wc Tryz.func208 ?_
 (refine Zm ?_;repeat'(first|(refine Zi fun _=>?_;try simp(disch:=first|exact Zq|fail)[*,Yb,Tryz.f208])|refine Ye ?_|refine Zx ?_|refine Zn ?_ ?_))
theorem Zoi (s:Y9)(hp:∀c∈s,c < 256/\c≠47)(hl:s.length < 2^30):Xq vE 208 [.str s,.str [47]] (.tuple [.str s,.str [],.bool false]):=by
 have h:=Zaal s hp hl;intro K H;refine Wc Tryz.func208 ?_
 (refine Zm ?_;repeat'(first|(refine Zi fun _=>?_;try simp(disch:=first|exact Zq|fail)[*,Yb,Tryz.f208])|refine Ye ?_|refine Zx ?_|refine Zn ?_ ?_))
theorem Zae3 (s:Y9)(hl:s.length < 2^30):Xq vE 214 [.str s,.str [45]] (.bool (Zam s)):=by
 unfold Zam;cases s with
 |nil=>
  intro K H;refine Wc Tryz.func214 ?_
  (refine Zm ?_;repeat'(first|(refine Zi fun _=>?_;try simp(disch:=first|exact Zq|fail)[*,Yb,Tryz.f214])|refine Ye ?_|refine Zx ?_|refine Zn ?_ ?_))
 |cons c s=>
  intro K H;refine Wc Tryz.func214 ?_
  (refine Zm ?_;repeat'(first|(refine Zi fun _=>?_;try simp(disch:=first|exact Zq|fail)[*,Yb,Tryz.f214])|refine Ye ?_|refine Zx ?_|refine Zn ?_ ?_))
  rw[Bool.eq_iff_iff];simp
theorem Zae7 (s:Y9)(hl:s.length < 2^30):Xq vE 206 [.str s,.str [45]] (.tuple [.str (Tq s),.bool (Zam s)]):=by
 have h:=Zae3 s hl;unfold Tq;unfold Zam at *;by_cases h1:s.head?=some 45
 .cases s with
  |nil=>simp at h1
  |cons c s=>
   simp only[h1,decide_true,if_true,List.tail_cons]at *;intro K H;refine Wc Tryz.func206 ?_
   (refine Zm ?_;repeat'(first|(refine Zi fun _=>?_;try simp(disch:=first|exact Zq|fail)[*,Yb,Tryz.f206])|refine Ye ?_|refine Zx ?_|refine Zn ?_ ?_))
 .simp only [h1,decide_false,if_false]at *;intro K H;refine Wc Tryz.func206 ?_
  (refine Zm ?_;repeat'(first|(refine Zi fun _=>?_;try simp(disch:=first|exact Zq|fail)[*,Yb,Tryz.f206])|refine Ye ?_|refine Zx ?_|refine Zn ?_ ?_))
theorem Zsw (s:Y9)(hl:s.length < 2^30):Xq vE 198 [.str s,.str [45]] (.tuple [.str (Tq s),.bool (Zam s)]):=by
 have h:=Zae7 s hl;intro K H;refine Wc Tryz.func198 ?_
 (refine Zm ?_;repeat'(first|(refine Zi fun _=>?_;try simp(disch:=first|exact Zq|fail)[*,Yb,Tryz.f198])|refine Ye ?_|refine Zx ?_|refine Zn ?_ ?_))
theorem Zafa (s:Y9)(hd:∀c∈s,48<=c/\c<=57)(hl:s.length < 2^30)(h0:s=[48]\/(s≠[]/\s.head?≠some 48)):Xq vE 199 [.str s] (.bool true):=by
 have hl':s.length<=Virt.maxLenV:=by rw[Rm];omega
 intro K H;refine Wc Tryz.func199 ?_
 (refine Zm ?_;repeat'(first|(refine Zi fun _=>?_;try simp(disch:=first|exact Zq|fail)[*,Yb,Tryz.f199])|refine Ye ?_|refine Zx ?_|refine Zn ?_ ?_))
 generalize hv6:H.stamp (H.next+6)=v6;refine Zv [0,6,7] (fun n sl h=>∃i:Nat,n=s.length - i/\i<=s.length/\sl 8=some (.int .i64 i)/\h.get (H.next+6)=some (v6,.row 5 true (s.map fun b:Nat=>PV.int IntKind.u8 (b:Int)))) s.length rfl ⟨0,by simp,by simp,by simp,by simp[*]⟩ ?_;rintro n sl h hf ⟨i,hn,hi,h8,h6⟩;simp at hf;by_cases hlt:i < s.length
 .have hc:=hd s[i] (List.getElem_mem hlt);generalize hsi:s[i]=c at *;clear hd h0
  (refine Zm ?_;repeat'(first|(refine Zi fun _=>?_;try simp(disch:=first|exact Zq|fail)[*,Yb])|refine Ye ?_|refine Zx ?_|refine Zn ?_ ?_))
  exact⟨_,by omega,i+1,rfl,by omega,by omega⟩
 .have hi':i=s.length:=by omega
  subst hi';rcases h0 with rfl | ⟨h1,h2⟩
  .clear hd
   (refine Zm ?_;repeat'(first|(refine Zi fun _=>?_;try simp(disch:=first|exact Zq|fail)[*,Yb])|refine Ye ?_|refine Zx ?_|refine Zn ?_ ?_))
  .cases s with
   |nil=>exact absurd rfl h1
   |cons c s=>
    have hc:c≠48:=by simpa using h2
    have hc1:(c==48)=false:=by simpa using hc
    have hc2:((c:Int)==48)=false:=by simp;omega
    clear hd h1 h2
    (refine Zm ?_;repeat'(first|(refine Zi fun _=>?_;try simp(disch:=first|exact Zq|fail)[*,Yb])|refine Ye ?_|refine Zx ?_|refine Zn ?_ ?_))
theorem Zck (n:Nat):(∀c∈Zf n,48<=c/\c<=57)/\(Zf n=[48]\/(Zf n≠[]/\(Zf n).head?≠some 48)):=by
 refine⟨fun c hc=>?_,?_⟩
 .have:=List.all_eq_true.1 (Wu n) c hc;simpa[digB]using this
 .rcases Zj5 n with rfl | ⟨c,r,e,h1,h2⟩
  .exact .inl V6
  .right;rw[e];simp;omega
theorem Zev (n:Nat)(hl:(Zf n).length < 2^30):Xq vE 199 [.str (Zf n)] (.bool true):=Zafa _ (Zck n).1 hl (Zck n).2
theorem Ztw {s:Y9}(hd:∀c∈s,48<=c/\c<=57):∀i,i<=s.length->Yo (s.take i) < 10^i:=by
 intro i
 induction i with
 |zero=>intro _;simp[Yo,Zk2]
 |succ i ih=>
  intro hi;rw[List.take_add_one,List.getElem?_eq_getElem (by omega:i < s.length),Option.toList,Ta];have h1:=ih (by omega);have h2:=hd s[i] (List.getElem_mem _);rw[Nat.pow_succ];omega
set_option maxHeartbeats 4000000 in
theorem Zaey (s:Y9)(hd:∀c∈s,48<=c/\c<=57)(Yp:s≠[])(hl:s.length<=18):Xq vE 221 [.str s,.int .i64 10,.int .i64 64] (.tuple [.int .u64 (Yo s),.nili]):=by
 have hl':s.length<=Virt.maxLenV:=by rw[Rm];omega
 have hb:∀i,i<=s.length->Yo (s.take i) < 10^18:=fun i hi=>Nat.lt_of_lt_of_le (Ztw hd i hi) (Nat.pow_le_pow_right (by omega) (by omega))
 have Tz:0 < s.length:=List.length_pos_iff.2 Yp;intro K H;refine Wc Tryz.func221 ?_
 (refine Zm ?_;repeat'(first|(refine Zi fun _=>?_;try simp(disch:=first|exact Zq|fail)[*,Yb,Tryz.f221])|refine Ye ?_|refine Zx ?_|refine Zn ?_ ?_))
 .rename_i e;exact absurd (List.isEmpty_iff.1 e) Yp
 generalize hv6:H.stamp (H.next+99)=v6;refine Zv [1,8,9,10,11,99,100] (fun n sl h=>∃i:Nat,n=s.length - i/\i<=s.length/\sl 101=some (.int .i64 i)/\sl 12=some (.bool false)/\sl 13=some (.int .u64 (Yo (s.take i)))/\h.get (H.next+99)=some (v6,.row 5 true (s.map fun b:Nat=>PV.int IntKind.u8 (b:Int)))) s.length rfl ⟨0,by simp,by simp,by simp,by simp,by simp[Yo,Zk2],by simp[*]⟩ ?_;rintro n sl h hf ⟨i,hn,hi,h101,h12,h13,h6⟩;simp at hf;by_cases hlt:i < s.length
 .have hc:=hd s[i] (List.getElem_mem hlt);have hbi:=hb i hi;have hbi2:=hb (i+1) hlt
  have Xr:Yo (s.take (i+1))=Yo (s.take i)*10+(s[i] - 48):=by
   rw[List.take_add_one,List.getElem?_eq_getElem hlt,Option.toList,Ta]
  generalize hsi:s[i]=c at *;generalize hA:Yo (s.take i)=A at *;generalize hB:Yo (s.take (i+1))=B at *;have hB':(A:Int)*10+((c:Int) - 48)=B:=by omega
  clear hd hb;have hmx:IntKind.u64.wrap (IntKind.u64.wrap (2^min 64 IntKind.u64.bits) - 1)=18446744073709551615:=by decide +kernel
  (refine Zm ?_;repeat'(first|(refine Zi fun _=>?_;try simp(disch:=first|exact Zq|fail)[*,Yb])|refine Ye ?_|refine Zx ?_|refine Zn ?_ ?_))
  exact⟨_,by omega,i+1,rfl,by omega,by omega,by rw[hB];omega⟩
 .have hi':i=s.length:=by omega
  subst hi';rw[List.take_length]at h13;clear hd hb
  (refine Zm ?_;repeat'(first|(refine Zi fun _=>?_;try simp(disch:=first|exact Zq|fail)[*,Yb])|refine Ye ?_|refine Zx ?_|refine Zn ?_ ?_))
set_option maxHeartbeats 2000000 in
theorem Zae1 (s:Y9)(hd:∀c∈s,48<=c/\c<=57)(Yp:s≠[])(hl:s.length<=18):Xq vE 216 [.str s,.int .i64 10,.int .i64 64] (.tuple [.int .i64 (Yo s),.nili]):=by
 have h:=Zaey s hd Yp hl;have hb:Yo s < 10^18:=Nat.lt_of_lt_of_le (Zg6 (Yr.2 hd)) (Nat.pow_le_pow_right (by omega) hl);generalize Yo s=A at *;cases s with
 |nil=>exact absurd rfl Yp
 |cons c s=>
  have hc:=hd c (by simp);have hmx:IntKind.u64.wrap (2^min 63 IntKind.u64.bits)=9223372036854775808:=by decide +kernel
  clear hd Yp;intro K H;refine Wc Tryz.func216 ?_
  (refine Zm ?_;repeat'(first|(refine Zi fun _=>?_;try simp(disch:=first|exact Zq|fail)[*,Yb,Tryz.f216])|refine Ye ?_|refine Zx ?_|refine Zn ?_ ?_))
theorem Z10 (s:Y9)(hd:∀c∈s,48<=c/\c<=57)(Yp:s≠[])(hl:s.length<=18):Xq vE 209 [.str s,.int .i64 10,.int .i64 64] (.tuple [.int .i64 (Yo s),.nili]):=by
 have h:=Zae1 s hd Yp hl;intro K H;refine Wc Tryz.func209 ?_
 (refine Zm ?_;repeat'(first|(refine Zi fun _=>?_;try simp(disch:=first|exact Zq|fail)[*,Yb,Tryz.f209])|refine Ye ?_|refine Zx ?_|refine Zn ?_ ?_))
theorem Zaw {n:Nat}(h:n≠0):Zf n≠[48]:=by
 rcases Zj5 n with e | ⟨c,r,e,h1,h2⟩
 .exact absurd e h
 .rw [e];simp;omega
theorem Q6 (n:Nat):∀c∈Zf n,c < 256/\c≠47:=fun c hc=>by
 have:=(Zck n).1 c hc;omega
theorem Zafd {r:Rt}(h:r.Ok)(hd:r.den=1)(hl:r.text.length < 2^29):Xq vE 183 [.str r.text] (.bool true):=by
 obtain⟨e1,e2⟩:=T7 r;rw[if_pos hd,List.append_nil]at e1;have Znj:=Zsw r.text (by omega);have h199:=Zev r.num (by have:=(V1 r).1;omega);rw[e1,e2]at Znj;have hs:r.neg=true->Zf r.num≠[48]:=fun hn=>Zaw (h.sign hn)
 generalize r.text=s at *;generalize Zf r.num=q at *;generalize r.neg=ng at *;clear h hd e1 e2;cases ng with
 |false=>
  intro K H;refine Wc Tryz.func183 ?_
  (refine Zm ?_;repeat'(first|(refine Zi fun _=>?_;try simp(disch:=first|exact Zq|fail)[*,Yb,Tryz.f183])|refine Ye ?_|refine Zx ?_|refine Zn ?_ ?_))
 |true=>
  have hs':=hs rfl;have hs2:(q==[48])=false:=by simpa using hs'
  clear hs;intro K H;refine Wc Tryz.func183 ?_
  (refine Zm ?_;repeat'(first|(refine Zi fun _=>?_;try simp(disch:=first|exact Zq|fail)[*,Yb,Tryz.f183])|refine Ye ?_|refine Zx ?_|refine Zn ?_ ?_))
theorem Zae6 (a b:Nat)(ha:a < 2^62)(hb:b < 2^62):Xq vE 210 [.int .i64 a,.int .i64 b] (.int .i64 (Nat.gcd a b)):=by
 intro K H;refine Wc Tryz.func210 ?_
 (refine Zm ?_;repeat'(first|(refine Zi fun _=>?_;try simp(disch:=first|exact Zq|fail)[*,Yb,Tryz.f210])|refine Ye ?_|refine Zx ?_|refine Zn ?_ ?_))
 refine Zv [] (fun n sl h=>∃x y:Nat,n=y/\x < 2^62/\y < 2^62/\sl 0=some (.int .i64 x)/\sl 1=some (.int .i64 y)/\Nat.gcd x y=Nat.gcd a b) b rfl ⟨a,b,rfl,ha,hb,by simp,by simp,rfl⟩ ?_;rintro n sl h hf ⟨x,y,hn,hx,hy,h0,h1,hg⟩;simp at hf;by_cases h0':y=0
 .subst h0';rw[Nat.gcd_zero_right]at hg
  (refine Zm ?_;repeat'(first|(refine Zi fun _=>?_;try simp(disch:=first|exact Zq|fail)[*,Yb])|refine Ye ?_|refine Zx ?_|refine Zn ?_ ?_))
 .have hm:Int.tmod (x:Int) (y:Int)=((x % y:Nat):Int):=by
   rw[Int.tmod_eq_emod_of_nonneg (by omega)];rfl
  have hlt:x % y < y:=Nat.mod_lt _ (by omega)
  (refine Zm ?_;repeat'(first|(refine Zi fun _=>?_;try simp(disch:=first|exact Zq|fail)[*,Yb])|refine Ye ?_|refine Zx ?_|refine Zn ?_ ?_))
  exact⟨x % y,hlt,y,by omega,by omega,rfl,by simp,by rw[Nat.gcd_comm y,<- Nat.gcd_rec,Nat.gcd_comm,hg]⟩
set_option maxHeartbeats 4000000 in
theorem Zae9 {r:Rt}(h:r.Ok)(hl:r.text.length < 2^20):∃(n d:Int) (b:Bool),Xq vE 204 [.str r.text] (.tuple [.agg [.int .i64 n,.int .i64 d],.bool b]):=by
 obtain⟨e1,e2⟩:=T7 r;have hl1:=(V1 r).1;have hl2:=(V1 r).2;have Znj:=Zsw r.text (by omega);rw[e1,e2]at Znj;have h199:=Zev r.num (by omega);have Z9c:=Zev r.den (by omega);have hs:r.neg=true->Zf r.num≠[48]:=fun hn=>Zaw (h.sign hn)
 by_cases h9:9 < (Zf r.num).length
 .refine ⟨0,0,false,?_⟩;by_cases hd:r.den=1
  .rw [if_pos hd,List.append_nil]at Znj;have Z9b:=Zoi (Zf r.num) (Q6 _) (by omega);generalize r.text=s at *;generalize Zf r.num=q at *;generalize r.neg=ng at *;clear h hd e1 e2 hs Z9c hl2;intro K H;refine Wc Tryz.func204 ?_
   (refine Zm ?_;repeat'(first|(refine Zi fun _=>?_;try simp(disch:=first|exact Zq|fail)[*,Yb,Tryz.f204])|refine Ye ?_|refine Zx ?_|refine Zn ?_ ?_))
  .rw [if_neg hd]at Znj e1;have Z9b:=Zsv (Zf r.num) (Zf r.den) (Q6 _) (by simp;omega);generalize hqq:Zf r.num++47::Zf r.den=qq at *;generalize r.text=s at *;generalize Zf r.num=q at *;generalize Zf r.den=q2 at *;generalize r.neg=ng at *;clear h hd e1 e2 hs;intro K H;refine Wc Tryz.func204 ?_
   (refine Zm ?_;repeat'(first|(refine Zi fun _=>?_;try simp(disch:=first|exact Zq|fail)[*,Yb,Tryz.f204])|refine Ye ?_|refine Zx ?_|refine Zn ?_ ?_))
 .have hq1:=Zck r.num;have hn1:Yo (Zf r.num)=r.num:=Xo _;have h209:=Z10 (Zf r.num) hq1.1 (Zbk _) (by omega);rw[hn1]at h209;have Sk:r.num < 10^9:=Nat.lt_of_lt_of_le (Wd _) (Nat.pow_le_pow_right (by omega) (by omega));by_cases hd:r.den=1
  .refine ⟨if r.neg then -r.num else r.num,1,true,?_⟩;rw[if_pos hd,List.append_nil]at Znj;have Z9b:=Zoi (Zf r.num) (Q6 _) (by omega);generalize r.text=s at *;generalize Zf r.num=q at *;generalize r.num=N at *;generalize r.neg=ng at *;clear h hd e1 e2 Z9c hl2 hq1 hn1;cases ng with
   |false=>
    clear hs;by_cases hq0:q=[48]
    .subst hq0;intro K H;refine Wc Tryz.func204 ?_
     (refine Zm ?_;repeat'(first|(refine Zi fun _=>?_;try simp(disch:=first|exact Zq|fail)[*,Yb,Tryz.f204])|refine Ye ?_|refine Zx ?_|refine Zn ?_ ?_))
    .have hq0':(q==[48])=false:=by simpa using hq0
     intro K H;refine Wc Tryz.func204 ?_
     (refine Zm ?_;repeat'(first|(refine Zi fun _=>?_;try simp(disch:=first|exact Zq|fail)[*,Yb,Tryz.f204])|refine Ye ?_|refine Zx ?_|refine Zn ?_ ?_))
   |true=>
    have hs':(q==[48])=false:=by simpa using hs rfl
    clear hs;intro K H;refine Wc Tryz.func204 ?_
    (refine Zm ?_;repeat'(first|(refine Zi fun _=>?_;try simp(disch:=first|exact Zq|fail)[*,Yb,Tryz.f204])|refine Ye ?_|refine Zx ?_|refine Zn ?_ ?_))
  .rw [if_neg hd]at Znj e1;have Z9b:=Zsv (Zf r.num) (Zf r.den) (Q6 _) (by simp;omega);by_cases h9d:9 < (Zf r.den).length
   .refine ⟨0,0,false,?_⟩;generalize hqq:Zf r.num++47::Zf r.den=qq at *;generalize r.text=s at *;generalize Zf r.num=q at *;generalize Zf r.den=q2 at *;generalize r.neg=ng at *;clear h hd e1 e2 hs h209;intro K H;refine Wc Tryz.func204 ?_
    (refine Zm ?_;repeat'(first|(refine Zi fun _=>?_;try simp(disch:=first|exact Zq|fail)[*,Yb,Tryz.f204])|refine Ye ?_|refine Zx ?_|refine Zn ?_ ?_))
   .have hq2:=Zck r.den;have hn2:Yo (Zf r.den)=r.den:=Xo _;have Zasl:=Z10 (Zf r.den) hq2.1 (Zbk _) (by omega);rw[hn2]at Zasl;have hb2:r.den < 10^9:=Nat.lt_of_lt_of_le (Wd _) (Nat.pow_le_pow_right (by omega) (by omega));have h210:=Zae6 r.num r.den (by omega) (by omega);rw[h.low]at h210;have hdp:=h.den
    have Zvw:Zf r.num≠[48]:=by
     refine Zaw fun e=>?_
     have:=h.low;rw[e,Nat.gcd_zero_left]at this;exact hd this
    have Zajw:(Zf r.num==[48])=false:=by simpa using Zvw
    refine⟨if r.neg then -r.num else r.num,r.den,true,?_⟩;generalize hqq:Zf r.num++47::Zf r.den=qq at *;generalize r.text=s at *;generalize Zf r.num=q at *;generalize Zf r.den=q2 at *;generalize r.neg=ng at *;generalize r.num=N at *;generalize r.den=D at *;clear h e1 e2 hs hq1 hq2 hn1 hn2 Zvw;cases ng with
    |false=>
     intro K H;refine Wc Tryz.func204 ?_
     (refine Zm ?_;repeat'(first|(refine Zi fun _=>?_;try simp(disch:=first|exact Zq|fail)[*,Yb,Tryz.f204])|refine Ye ?_|refine Zx ?_|refine Zn ?_ ?_))
    |true=>
     intro K H;refine Wc Tryz.func204 ?_
     (refine Zm ?_;repeat'(first|(refine Zi fun _=>?_;try simp(disch:=first|exact Zq|fail)[*,Yb,Tryz.f204])|refine Ye ?_|refine Zx ?_|refine Zn ?_ ?_))
def Yk (n:Nat):List Nat:=if h:n=0 then [] else n % 1000000000::Yk (n / 1000000000)
 decreasing_by omega
def Vz:List Nat->Nat
 | []=>0
 |x::r=>x+1000000000*Vz r
theorem Wh:Yk 0=[]:=by rw[Yk];simp
theorem Um {n:Nat}(h:0 < n):Yk n=n % 1000000000::Yk (n / 1000000000):=by rw[Yk,dif_neg (by omega)]
theorem Z28:∀n,Vz (Yk n)=n:=by
 intro n
 induction n using Nat.strongRecOn with
 | _ n ih=>
   rcases Nat.eq_zero_or_pos n with rfl | h
   .rw [Wh];rfl
   .rw [Um h,Vz,ih _ (by omega)];omega
theorem Z7e:∀n,∀x∈Yk n,x < 1000000000:=by
 intro n
 induction n using Nat.strongRecOn with
 | _ n ih=>
   rcases Nat.eq_zero_or_pos n with rfl | h
   .rw [Wh];simp
   .rw [Um h];intro x hx;rcases List.mem_cons.1 hx with rfl | hx
    .omega
    .exact ih _ (by omega) x hx
theorem Zym:∀n,∀h:Yk n≠[],(Yk n).getLast h≠0:=by
 intro n
 induction n using Nat.strongRecOn with
 | _ n ih=>
   intro h;rcases Nat.eq_zero_or_pos n with rfl | hp
   .exact absurd Wh h
   .revert h
    rw[Um hp];intro h;rcases Nat.eq_zero_or_pos (n / 1000000000) with h0 | h0
    .have:Yk (n / 1000000000)=[]:=by rw[h0,Wh]
     simp only[this,List.getLast_singleton];omega
    .have Yp:Yk (n / 1000000000)≠[]:=by rw[Um h0];simp
     rw[List.getLast_cons Yp];exact ih _ (by omega) Yp
theorem Zp2:∀xs:List Nat,(∀x∈xs,x < 1000000000)->∃k,xs=Yk (Vz xs)++List.replicate k 0
 | [],_=>⟨0,by simp[Vz,Wh]⟩
 |x::r,h=>by
  obtain⟨k,hk⟩:=Zp2 r fun y hy=>h y (by simp[hy])
  have hx:=h x (by simp);rw[Vz];rcases Nat.eq_zero_or_pos (x+1000000000*Vz r) with h0 | h0
  .have h1:x=0:=by omega
   have h2:Vz r=0:=by omega
   rw[h2,Wh,List.nil_append]at hk;rw[h0,Wh,h1];exact⟨k+1,by rw[List.nil_append,List.replicate_succ,<- hk]⟩
  .rw [Um h0];have h1:(x+1000000000*Vz r) % 1000000000=x:=by omega
   have h2:(x+1000000000*Vz r) / 1000000000=Vz r:=by omega
   rw[h1,h2];exact⟨k,by rw[List.cons_append,<- hk]⟩
theorem Ztv (a b:List Nat):Vz (a++b)=Vz a+1000000000^a.length*Vz b:=by
 induction a with
 |nil=>simp[Vz]
 |cons x a ih=>
  rw[List.cons_append,Vz,Vz,ih,List.length_cons,Nat.pow_succ,Nat.mul_add];rw[<- Nat.mul_assoc,Nat.mul_comm 1000000000 (1000000000^a.length)];omega
abbrev U (b:Bool)(xs:List Nat):PV:=L 216 b (xs.map fun x:Nat=>PV.int .u32 (x:Int))
theorem Zae0 (N k:Nat)(b:Bool)(hl:(Yk N).length+k < 2^30):Xq vE 218 [U b (Yk N++List.replicate k 0)] (U (b&&(Yk N++List.replicate k 0).isEmpty) (Yk N)):=by
 have Z05:=Zym N;have htk:(Yk N++List.replicate k 0).take (Yk N).length=Yk N:=by simp
 have hz:∀j (h:j < (Yk N++List.replicate k 0).length),(Yk N).length<=j->(Yk N++List.replicate k 0)[j]=0:=fun j h h2=>by
  rw[List.getElem_append_right h2];simp
 have hnz:∀h:0 < (Yk N).length,∀h2:(Yk N).length - 1 < (Yk N++List.replicate k 0).length,(Yk N++List.replicate k 0)[(Yk N).length - 1]≠0:=fun h h2=>by
  rw[List.getElem_append_left (by omega),<- List.getLast_eq_getElem (List.length_pos_iff.1 h)];exact Z05 _
 have hlen:(Yk N++List.replicate k 0).length=(Yk N).length+k:=by simp
 generalize Yk N++List.replicate k 0=xs at *;generalize hM:Yk N=ys at *;intro K H;refine Wc Tryz.func218 ?_
 (refine Zm ?_;repeat'(first|(refine Zi fun _=>?_;try simp(disch:=first|exact Zq|fail)[*,Yb,Tryz.f218])|refine Ye ?_|refine Zx ?_|refine Zn ?_ ?_))
 refine Zv [0] (fun n sl h=>∃j:Nat,n=j/\ys.length<=j/\j<=xs.length/\sl 3=some (.int .i64 j)) xs.length rfl ⟨xs.length,rfl,by omega,by omega,by simp;omega⟩ ?_;rintro n sl h hf ⟨j,hn,hj1,hj2,h3⟩;simp at hf;by_cases hlt:ys.length < j
 .have h0:=hz (j - 1) (by omega) (by omega);have e1:((j:Int) - 1).toNat=j - 1:=by omega
  clear hz hnz Z05 htk
  (refine Zm ?_;repeat'(first|(refine Zi fun _=>?_;try simp(disch:=first|exact Zq|fail)[*,Yb])|refine Ye ?_|refine Zx ?_|refine Zn ?_ ?_))
  exact⟨j - 1,by omega,by omega,by omega,by omega⟩
 .have hj:j=ys.length:=by omega
  subst hj;by_cases hy:ys.length=0
  .have hy':ys=[]:=List.length_eq_zero_iff.1 hy;subst hy';clear hz hnz Z05
   (refine Zm ?_;repeat'(first|(refine Zi fun _=>?_;try simp(disch:=first|exact Zq|fail)[*,Yb])|refine Ye ?_|refine Zx ?_|refine Zn ?_ ?_))
   rfl
  .have h0:=hnz (by omega) (by omega);have e1:((ys.length:Int) - 1).toNat=ys.length - 1:=by omega
   have htk':(xs.map fun x:Nat=>PV.int .u32 (x:Int)).take ys.length=ys.map fun x:Nat=>PV.int .u32 (x:Int):=by
    rw[<- List.map_take,htk]
   clear hz hnz Z05
   (refine Zm ?_;repeat'(first|(refine Zi fun _=>?_;try simp(disch:=first|exact Zq|fail)[*,Yb])|refine Ye ?_|refine Zx ?_|refine Zn ?_ ?_))
theorem Zoh (xs:List Nat)(b:Bool)(hx:∀x∈xs,x < 1000000000)(hl:xs.length < 2^30):Xq vE 218 [U b xs] (U (b&&xs.isEmpty) (Yk (Vz xs))):=by
 obtain⟨k,hk⟩:=Zp2 xs hx
 have hle:(Yk (Vz xs)).length+k=xs.length:=by
  have:=congrArg List.length hk;simp at this;omega
 have:=Zae0 (Vz xs) k b (by omega)
 rwa [<- hk]at this
set_option maxHeartbeats 4000000 in
theorem Z1z (n:Nat)(hl:(Zf n).length < 2^20):Xq vE 211 [.str (Zf n)] (U false (Yk n)):=by
 have hd:=(Zck n).1;have hn:=Xo n;have Tz:0 < (Zf n).length:=List.length_pos_iff.2 (Zbk n);generalize Zf n=s at *;intro K H;refine Wc Tryz.func211 ?_
 (refine Zm ?_;repeat'(first|(refine Zi fun _=>?_;try simp(disch:=first|exact Zq|fail)[*,Yb,Tryz.f211])|refine Ye ?_|refine Zx ?_|refine Zn ?_ ?_))
 refine Zv [0] (fun m sl h=>∃(e:Nat) (q:Int) (xs:List Nat) (w:PV),m=e/\(q=e\/e=0 /\ -9<=q/\q<=0)/\e<=s.length/\sl 4=some (.int .i64 q)/\sl 3=some w/\Acc [36] ⟨H.next,H.next,[]⟩ h 216 w (xs.map fun x:Nat=>PV.int .u32 (x:Int))/\(∀x∈xs,x < 1000000000)/\xs.length<=s.length - e/\n=Vz xs+1000000000^xs.length*Yo (s.take e)/\(xs=[]->e=s.length)) s.length rfl ⟨s.length,s.length,[],.nils,rfl,Or.inl rfl,by omega,by simp,by simp,Acc.nil,by simp,by simp,by simp[Vz,hn],by simp⟩ ?_;rintro m sl h hf ⟨e,q,xs,w,hm,hq,he,h4,h3,hA,hx,hxl,hv,Yp⟩;simp at hf;by_cases h0:e=0
 .subst h0;have hq0:q<=0:=by omega
  rw[List.take_zero,show Yo []=0 from rfl,Nat.mul_zero,Nat.add_zero]at hv;have hxne:xs≠[]:=fun e=>by have:=Yp e;omega
  have Z37:=Zoh xs true hx (by omega);rw[<- hv]at Z37;have Uq:(true&&xs.isEmpty)=false:=by simpa using hxne
  rw[Uq]at Z37;obtain⟨h',hc,Sj,hg⟩:=hA.callF (C:=vE) (f:=218) rfl rfl [] [] Z37 (fun _=>by simp) rfl rfl;simp only[List.nil_append]at hc;clear hn Yp hx hxl hv hd
  (refine Zm ?_;repeat'(first|(refine Zi fun _=>?_;try simp(disch:=first|exact Zq|fail)[*,Yb])|refine Ye ?_|refine Zx ?_|refine Zn ?_ ?_))
 .have hqe:q=e:=by omega
  subst hqe;obtain⟨c0,hc0⟩:∃c0,c0=e - 9:=⟨_,rfl⟩
  have hmx:max ((e:Int) - 9) 0=c0:=by omega
  have hcl:e<=Virt.maxLenV+c0:=by rw[Rm];omega
  have hce:c0 < e:=by omega
  have htk:s.take e=s.take c0++(s.drop c0).take (e - c0):=by
   rw[<- List.take_add];congr 1;omega
  have hchl:((s.drop c0).take (e - c0)).length=e - c0:=by simp;omega
  have hchd:∀c∈(s.drop c0).take (e - c0),48<=c/\c<=57:=fun c hc=>hd c (List.drop_subset _ _ (List.take_subset _ _ hc))
  have hmp:List.take (e - c0) (List.drop c0 (s.map fun b:Nat=>PV.int IntKind.u8 (b:Int)))=((s.drop c0).take (e - c0)).map fun b:Nat=>PV.int IntKind.u8 (b:Int):=by rw[List.map_take,List.map_drop]
  generalize hch:(s.drop c0).take (e - c0)=ch at *;have hbv:∀i,i<=ch.length->Yo (ch.take i) < 10^9:=fun i hi=>Nat.lt_of_lt_of_le (Ztw hchd i hi) (Nat.pow_le_pow_right (by omega) (by omega))
  rw[htk,Zkb]at hv;have h9:9<=e->ch.length=9:=fun h=>by omega
  have h9':e < 9->c0=0:=fun h=>by omega
  replace hc0:=Hide.mk hc0;replace hv:=Hide.mk hv;replace hch:=Hide.mk hch;replace htk:=Hide.mk htk;clear hd
  (refine Zm ?_;repeat'(first|(refine Zi fun _=>?_;try simp(disch:=first|exact Zq|fail)[*,Yb])|refine Ye ?_|refine Zx ?_|refine Zn ?_ ?_))
  generalize hhh:h.put (H.next+20) (h.stamp (H.next+20)) (.row 5 true (ch.map fun b:Nat=>PV.int IntKind.u8 (b:Int)))=hh;generalize hv20:h.stamp (H.next+20)=v20 at *;have hg20:hh.get (H.next+20)=some (v20,.row 5 true (ch.map fun b:Nat=>PV.int IntKind.u8 (b:Int))):=by rw[<- hhh];simp
  have hA2:Acc [36] ⟨H.next,H.next,[]⟩ hh 216 w (xs.map fun x:Nat=>PV.int .u32 (x:Int)):=hA.frame fun d hd=>by simp at hd;subst hd;rw[<- hhh];simp
  clear hA hhh;refine Zv [0,3,4,20,21] (fun m sl h=>∃i:Nat,m=ch.length - i/\i<=ch.length/\sl 22=some (.int .i64 i)/\sl 5=some (.int .u32 (Yo (ch.take i)))/\h=hh) ch.length rfl ⟨0,by simp,by simp,by simp,by simp[Yo,Zk2],rfl⟩ ?_;rintro m2 sl2 h2 hf2 ⟨i,hm2,hi,h22,h5,rfl⟩;simp[hf]at hf2;by_cases hlt:i < ch.length
  .have hc:=hchd ch[i] (List.getElem_mem hlt);have hbi:=hbv i hi;have hbi2:=hbv (i+1) hlt
   have Xr:Yo (ch.take (i+1))=Yo (ch.take i)*10+(ch[i] - 48):=by
    rw[List.take_add_one,List.getElem?_eq_getElem hlt,Option.toList,Ta]
   generalize hsi:ch[i]=c at *;generalize hAA:Yo (ch.take i)=A at *;generalize hB:Yo (ch.take (i+1))=B at *;clear hchd hbv hx hxl Yp hm he
   (refine Zm ?_;repeat'(first|(refine Zi fun _=>?_;try simp(disch:=first|exact Zq|fail)[*,Yb])|refine Ye ?_|refine Zx ?_|refine Zn ?_ ?_))
   exact⟨_,by omega,i+1,rfl,by omega,by omega,by rw[hB];omega⟩
  .have hi':i=ch.length:=by omega
   subst hi';rw[List.take_length]at h5;have hb2:=hbv ch.length (Nat.le_refl _);rw[List.take_length]at hb2;obtain⟨w',h',hap,Vb,Zgn,Zk⟩:=hA2.app (dd:=36) (ys:=[PV.int .u32 (Yo ch)]) (T:={k:=.int .u32,size:=1,bytes:=4,zero:=[.int .u32 0]}) (by simp) rfl (by simp only[List.length_map,List.length_cons,List.length_nil];omega) (by decide) (by decide) (by simp);simp only[List.length_cons,List.length_nil]at hap;have Vu:=hA2.same (n:=3);have Zm9:=Vb.same (n:=3)
   have hA'':Acc [36] ⟨H.next,H.next,[]⟩ h' 216 w' ((xs++[Yo ch]).map fun x:Nat=>PV.int .u32 (x:Int)):=by
    rw[List.map_append];exact Vb
   have hv':n=Vz (xs++[Yo ch])+1000000000^(xs++[Yo ch]).length*Yo (s.take c0):=by
    rw[hv.get,Ztv,List.length_append,List.length_cons,List.length_nil,Nat.pow_succ];by_cases h99:9<=e
    .rw [h9 h99];simp only[Vz];rw[Nat.mul_add,show (10:Nat)^9=1000000000 from rfl,Nat.mul_zero,Nat.add_zero,Nat.mul_assoc,Nat.mul_comm 1000000000 (Yo _)];omega
    .rw [h9' (by omega)];simp[Vz,show Yo []=0 from rfl]
   have hx':∀x∈xs++[Yo ch],x < 1000000000:=by
    intro x hxx;rcases List.mem_append.1 hxx with h | h
    .exact hx x h
    .simp at h;omega
   replace hA'':=Hide.mk hA'';replace hv':=Hide.mk hv';replace hx':=Hide.mk hx';clear hchd hbv hx Yp Zk Vb hA2
   (refine Zm ?_;repeat'(first|(refine Zi fun _=>?_;try simp(disch:=first|exact Zq|fail)[*,Yb])|refine Ye ?_|refine Zx ?_|refine Zn ?_ ?_))
   have hc0':=hc0.get;refine⟨c0,by omega,?_⟩;by_cases h99:9<=e
   .exact .inl ⟨by omega,by omega,_,hA''.get,hx'.get,by simp;omega,hv'.get,by simp⟩
   .exact .inr ⟨_,⟨by omega,by omega,by omega⟩,by omega,rfl,_,hA''.get,hx'.get,by simp;omega,hv'.get,by simp⟩
theorem Zb6 {d:Nat}(h0:0 < d)(h:d < 1000000000):Yk d=[d]:=by
 rw[Um h0];have:d / 1000000000=0:=by omega
 rw[this,Wh];congr 1;omega
theorem Zp1 {n:Nat}(h:1000000000<=n):2<=(Yk n).length:=by
 rw[Um (by omega),Um (by omega:0 < n / 1000000000)];simp
theorem Zaex (n d:Nat)(h0:0 < d)(hd:d < 1000000000)(hl:(Yk n).length < 2^30):∃c:Int,(c < 0↔n < d)/\Xq vE 226 [U false (Yk n),U false [d]] (.int .i64 c):=by
 rcases Nat.eq_zero_or_pos n with rfl | hp
 .refine ⟨-1,by simp;omega,?_⟩;rw[Wh];intro K H;refine Wc Tryz.func226 ?_
  (refine Zm ?_;repeat'(first|(refine Zi fun _=>?_;try simp(disch:=first|exact Zq|fail)[*,Yb,Tryz.f226])|refine Ye ?_|refine Zx ?_|refine Zn ?_ ?_))
 .rcases Nat.lt_or_ge n 1000000000 with hn | hn
  .refine ⟨(n:Int) - d,by omega,?_⟩;rw[Zb6 hp hn];intro K H;refine Wc Tryz.func226 ?_
   (refine Zm ?_;repeat'(first|(refine Zi fun _=>?_;try simp(disch:=first|exact Zq|fail)[*,Yb,Tryz.f226])|refine Ye ?_|refine Zx ?_|refine Zn ?_ ?_))
   refine Zv [0,1] (fun m sl h=>m=1/\sl 5=some (.int .i64 0)\/m=0/\n=d/\sl 5=some (.int .i64 (-1))) 1 rfl (Or.inl ⟨rfl,by simp⟩) ?_;rintro m sl h hf (⟨rfl,h5⟩ | ⟨rfl,rfl,h5⟩)
   .simp at hf
    (refine Zm ?_;repeat'(first|(refine Zi fun _=>?_;try simp(disch:=first|exact Zq|fail)[*,Yb])|refine Ye ?_|refine Zx ?_|refine Zn ?_ ?_))
    omega
   .simp at hf
    (refine Zm ?_;repeat'(first|(refine Zi fun _=>?_;try simp(disch:=first|exact Zq|fail)[*,Yb])|refine Ye ?_|refine Zx ?_|refine Zn ?_ ?_))
  .refine ⟨((Yk n).length:Int) - 1,by have:=Zp1 hn;omega,?_⟩;have h2:=Zp1 hn;generalize Yk n=xs at *;intro K H;refine Wc Tryz.func226 ?_
   (refine Zm ?_;repeat'(first|(refine Zi fun _=>?_;try simp(disch:=first|exact Zq|fail)[*,Yb,Tryz.f226])|refine Ye ?_|refine Zx ?_|refine Zn ?_ ?_))
theorem Zpg {xs:List Nat}{i:Nat}(h:i < xs.length):Vz (xs.drop i)=xs[i]+1000000000*Vz (xs.drop (i+1)):=by
 rw[List.drop_eq_getElem_cons h,Vz]
theorem Z9s (r x Q d B:Nat)(hd:0 < d):(r*B+x) / d*d+B*Q*d+(r*B+x) % d=x+B*(Q*d+r):=by
 have h1:=Nat.div_add_mod (r*B+x) d;have h2:(r*B+x) / d*d=d*((r*B+x) / d):=Nat.mul_comm _ _;have h3:B*(Q*d+r)=B*Q*d+r*B:=by rw[Nat.mul_add,Nat.mul_assoc,Nat.mul_comm B r]
 omega
set_option maxHeartbeats 4000000 in
theorem Zaew (n d:Nat)(h0:0 < d)(hd:d < 1000000000)(hn:0 < n)(hl:(Yk n).length < 2^29):Xq vE 227 [U false (Yk n),.int .u32 d] (.tuple [U false (Yk (n / d)),U false (Yk (n % d))]):=by
 have hxs:=Z7e n;have hv:=Z28 n;have Yp:(Yk n).length≠0:=by rw[Um hn];simp
 have hl':(Yk n).length<=Virt.maxLenV:=by rw[Rm];omega
 generalize Yk n=xs at *;have hl2:((xs.length:Int)).toNat=xs.length:=by omega
 intro K H;refine Wc Tryz.func227 ?_
 (refine Zm ?_;repeat'(first|(refine Zi fun _=>?_;try simp(disch:=first|exact Zq|fail)[*,Yb,Tryz.f227])|refine Ye ?_|refine Zx ?_|refine Zn ?_ ?_))
 generalize hv12:H.stamp (H.next+12)=v12;refine Zv [0,1,6] (fun m sl h=>∃(i:Nat) (q:List Nat) (r:Nat),m=i/\i<=xs.length/\sl 8=some (.int .i64 ((i:Int) - 1))/\sl 7=some (.int .u64 r)/\h.get (H.next+12)=some (v12,.row 216 true (q.map fun x:Nat=>PV.int .u32 (x:Int)))/\q.length=xs.length/\r < d/\Vz (q.drop i)*d+r=Vz (xs.drop i)/\∀x∈q,x < 1000000000) xs.length rfl ⟨xs.length,List.replicate xs.length 0,0,rfl,Nat.le_refl _,by simp,by simp,by simp[*],by simp,h0,by simp[Vz],by simp⟩ ?_;rintro m sl h hf ⟨i,q,r,hm,hi,h8,h7,h12,hql,hr,hq,hqB⟩;simp at hf;by_cases hlt:0 < i
 .obtain ⟨j,rfl⟩:∃j,i=j+1:=⟨i - 1,by omega⟩
  have hx:=hxs xs[j] (List.getElem_mem (by omega:j < xs.length));have hqj:j < q.length:=by omega
  have hvs:Vz (xs.drop j)=xs[j]+1000000000*Vz (xs.drop (j+1)):=Zpg (by omega);generalize hxj:xs[j]=x at *;have Zcc:=Z9s r x (Vz (q.drop (j+1))) d 1000000000 h0;rw[hq,<- hvs]at Zcc
  have hvd:(r*1000000000+x) / d < 1000000000:=by
   rw[Nat.div_lt_iff_lt_mul h0];have:r*1000000000+1000000000<=d*1000000000:=by omega
   omega
  have hvm:(r*1000000000+x) % d < d:=Nat.mod_lt _ h0;generalize hV:r*1000000000+x=V at *;have hVi:(r:Int)*1000000000+x=V:=by omega
  have hVb:V < 1000000000*1000000000+1000000000:=by omega
  have htd:Int.tdiv (V:Int) (d:Int)=((V / d:Nat):Int):=by
   rw[Int.tdiv_eq_ediv_of_nonneg (by omega)];rfl
  have htm:Int.tmod (V:Int) (d:Int)=((V % d:Nat):Int):=by
   rw[Int.tmod_eq_emod_of_nonneg (by omega)];rfl
  have Tm:∀x∈q.set j (V / d),x < 1000000000:=fun y hy=>by
   rcases List.mem_or_eq_of_mem_set hy with h | rfl
   .exact hqB y h
   .exact hvd
  have hdr:Vz ((q.set j (V / d)).drop j)=V / d+1000000000*Vz (q.drop (j+1)):=by
   rw[Zpg (by simpa using hqj),List.drop_set_of_lt (by omega)];simp
  have Xx:Vz ((q.set j (V / d)).drop j)*d+V % d=Vz (xs.drop j):=by
   rw[hdr,Nat.add_mul];omega
  have hd0:d≠0:=by omega
  have hW:(V:Int) / (d:Int)=((V / d:Nat):Int):=rfl;have hM:(V:Int) % (d:Int)=((V % d:Nat):Int):=rfl;generalize V / d=W at *;generalize V % d=M at *;replace Tm:=Hide.mk Tm;replace Xx:=Hide.mk Xx;clear Zcc hdr hqB hq hxs hvs;have e1:((j:Int)+1 - 1)=j:=by omega
  (refine Zm ?_;repeat'(first|(refine Zi fun _=>?_;try simp(disch:=first|exact Zq|fail)[*,Yb])|refine Ye ?_|refine Zx ?_|refine Zn ?_ ?_))
  exact⟨j,by omega,by omega,rfl,q.set j W,M,rfl,by rw[List.map_set],by simp[hql],hvm,Xx.get,Tm.get⟩
 .have hi0:i=0:=by omega
  subst hi0;simp only[List.drop_zero]at hq;rw[hv]at hq
  have hqn:Vz q=n / d:=by
   rw[<- hq,Nat.mul_comm,Nat.mul_add_div h0,Nat.div_eq_of_lt hr];simp
  have hrn:r=n % d:=by
   rw[<- hq,Nat.mul_comm,Nat.mul_add_mod,Nat.mod_eq_of_lt hr]
  have hqne:q≠[]:=fun e=>by rw[e]at hql;exact Yp hql.symm
  have Z37:=Zoh q true hqB (by omega);have Uq:(true&&q.isEmpty)=false:=by simpa using hqne
  rw[Uq,hqn]at Z37;have Z9a:=Zoh [r] false (by simp;omega) (by simp);have hvr:Vz [r]=r:=by simp[Vz]
  rw[hvr]at Z9a;simp only[U,List.isEmpty_cons,Bool.and_false,List.map_cons,List.map_nil,Xe,Bool.and_self]at Z9a;rw[hrn]at Z9a h7;have hA:Acc [12] ⟨H.next,H.next,[]⟩ h 216 (.own (H.next+12) v12 216 0 xs.length) (q.map fun x:Nat=>PV.int .u32 (x:Int)):=Or.inr ⟨12,v12,by simpa using hqne,by simp,by simp[hql],h12⟩;obtain⟨h',hc,Sj,hg⟩:=hA.callF (C:=vE) (f:=218) rfl rfl [] [] Z37 (fun _=>by simp) rfl rfl;simp only[List.nil_append]at hc;have hmd:n % d < d:=Nat.mod_lt _ h0;have hM:(n:Int) % (d:Int)=((n % d:Nat):Int):=rfl;generalize n % d=M at *;generalize n / d=W at *;clear hq hxs hA hqB hv hn hrn hqn hg
  (refine Zm ?_;repeat'(first|(refine Zi fun _=>?_;try simp(disch:=first|exact Zq|fail)[*,Yb])|refine Ye ?_|refine Zx ?_|refine Zn ?_ ?_))
theorem Zu7 (a m n:Nat):(a+m).blt (a+n)=m.blt n:=by
 rw[Bool.eq_iff_iff,Nat.blt_eq,Nat.blt_eq];omega
theorem Zaez (n d:Nat)(h0:0 < d)(hd:d < 1000000000)(hl:(Yk n).length < 2^29):Xq vE 219 [U false (Yk n),U false [d]] (.tuple [U (decide (n < d)) (Yk (n / d)),U false (Yk (n % d))]):=by
 obtain⟨c,hc,h226⟩:=Zaex n d h0 hd (by omega);by_cases hlt:n < d
 .have hc':=hc.2 hlt;rw[Nat.div_eq_of_lt hlt,Nat.mod_eq_of_lt hlt,Wh,decide_eq_true hlt];generalize Yk n=xs at *;simp only[U,List.map_nil,List.map_cons,Wn,Xe,Tv]at *;intro K H;refine Wc Tryz.func219 ?_
  (refine Zm ?_;repeat'(first|(refine Zi fun _=>?_;try simp(disch:=first|exact Zq|fail)[*,Yb,Tryz.f219])|refine Ye ?_|refine Zx ?_|refine Zn ?_ ?_))
 .have hc':¬ c < 0:=fun h=>hlt (hc.1 h)
  have h227:=Zaew n d h0 hd (by omega) hl;rw[decide_eq_false hlt];generalize Yk n=xs at *;generalize Yk (n / d)=qs at *;generalize Yk (n % d)=rs at *;simp only[U,List.map_nil,List.map_cons,Wn,Xe,Tv]at *;clear hc;intro K H;refine Wc Tryz.func219 ?_
  (refine Zm ?_;repeat'(first|(refine Zi fun _=>?_;try simp(disch:=first|exact Zq|fail)[*,Yb,Tryz.f219])|refine Ye ?_|refine Zx ?_|refine Zn ?_ ?_))
theorem Zo3 (n:Nat):(Yk n).length<=(Zf n).length:=by
 induction n using Nat.strongRecOn with
 | _ n ih=>
   rcases Nat.eq_zero_or_pos n with rfl | hn
   .rw [Wh];simp
   .rw [Um hn];rcases Nat.lt_or_ge n 1000000000 with h | h
    .have:n / 1000000000=0:=by omega
     rw[this,Wh];have:=List.length_pos_iff.2 (Zbk n);simp;omega
    .have h1:=ih (n / 1000000000) (by omega);have h2:(Zf (n / 1000000000)).length<=(Zf (n / 10)).length:=Wr (by omega)
     have h3:(Zf n).length=(Zf (n / 10)).length+1:=by
      conv=>lhs;rw[Zf]
      rw[if_neg (by omega)];simp
     simp;omega
theorem Zae5 (n d:Nat)(hd:d < 1000000000)(hl:(Yk n).length < 2^28):Xq vE 212 [U false (Yk n),U false (Yk d)] (U false (Yk (Nat.gcd n d))):=by
 intro K H;refine Wc Tryz.func212 ?_
 (refine Zm ?_;repeat'(first|(refine Zi fun _=>?_;try simp(disch:=first|exact Zq|fail)[*,Yb,Tryz.f212])|refine Ye ?_|refine Zx ?_|refine Zn ?_ ?_))
 refine Zv [] (fun m sl h=>∃x y:Nat,m=y/\y < 1000000000/\(Yk x).length < 2^29/\sl 0=some (U false (Yk x))/\sl 1=some (U false (Yk y))/\Nat.gcd x y=Nat.gcd n d) d rfl ⟨n,d,rfl,hd,by omega,by simp,by simp,rfl⟩ ?_;rintro m sl h hf ⟨x,y,hm,hy,hx,h0,h1,hg⟩;simp at hf;by_cases hy0:y=0
 .subst hy0;rw[Nat.gcd_zero_right]at hg;rw[Wh]at h1;rw[hg]at h0;generalize Yk (Nat.gcd n d)=r at *;simp only[U,List.map_nil,List.map_cons,Wn,Xe,Tv]at *
  (refine Zm ?_;repeat'(first|(refine Zi fun _=>?_;try simp(disch:=first|exact Zq|fail)[*,Yb])|refine Ye ?_|refine Zx ?_|refine Zn ?_ ?_))
 .have h219:=Zaez x y (by omega) hy hx;have hlt:x % y < y:=Nat.mod_lt _ (by omega);have hly:(Yk y).length < 2^29:=by rw[Zb6 (by omega) hy];simp
  have hgn:Nat.gcd y (x % y)=Nat.gcd n d:=by rw[Nat.gcd_comm y,<- Nat.gcd_rec,Nat.gcd_comm,hg]
  rw[Zb6 (by omega) hy]at h1;have e1:PV.lst 216 [.int .u32 y]=U false (Yk y):=by rw[Zb6 (by omega) hy];rfl
  generalize hrs:Yk (x % y)=rs at *;generalize Yk (x / y)=qs at *;generalize Yk x=xs at *;replace hrs:=Hide.mk hrs;replace e1:=Hide.mk e1;simp only[U,List.map_nil,List.map_cons,Wn,Xe,Tv]at h219 h0 h1;clear hg
  (refine Zm ?_;repeat'(first|(refine Zi fun _=>?_;try simp(disch:=first|exact Zq|fail)[*,Yb])|refine Ye ?_|refine Zx ?_|refine Zn ?_ ?_))
  exact⟨x % y,hlt,by omega,y,by omega,e1.get,by rw[hrs.get];rfl,hgn⟩
theorem Zae4:Xq vE 213 [.lst 216 [.int .u32 1]] (.bool true):=by
 intro K H;refine Wc Tryz.func213 ?_
 (refine Zm ?_;repeat'(first|(refine Zi fun _=>?_;try simp(disch:=first|exact Zq|fail)[*,Yb,Tryz.f213])|refine Ye ?_|refine Zx ?_|refine Zn ?_ ?_))
set_option maxHeartbeats 4000000 in
theorem Zae8 {r:Rt}(h:r.Ok)(hl:r.text.length < 2^20)(hd:r.den < 1000000000):∃(ng:Bool) (xs ys:List PV),Xq vE 205 [.str r.text] (.tuple [.agg [.bool ng,.lst 216 xs,.lst 216 ys],.bool true]):=by
 obtain⟨e1,e2⟩:=T7 r;have hl1:=(V1 r).1;have hl2:=(V1 r).2;have Znj:=Zsw r.text (by omega);rw[e1,e2]at Znj;have h199:=Zev r.num (by omega);have h211:=Z1z r.num (by omega);have hs:r.neg=true->Zf r.num≠[48]:=fun hn=>Zaw (h.sign hn)
 by_cases hd1:r.den=1
 .refine ⟨r.neg,(Yk r.num).map fun x:Nat=>PV.int .u32 (x:Int),[.int .u32 1],?_⟩;rw[if_pos hd1,List.append_nil]at Znj;have Z9b:=Zoi (Zf r.num) (Q6 _) (by omega);generalize Yk r.num=xs at *;generalize r.text=s at *;generalize Zf r.num=q at *;generalize r.neg=ng at *;simp only[U,List.map_nil,List.map_cons,Wn,Xe,Tv]at *;clear h hd1 e1 e2 hl2;cases ng with
  |false=>
   clear hs;by_cases hq0:q=[48]
   .subst hq0;intro K H;refine Wc Tryz.func205 ?_
    (refine Zm ?_;repeat'(first|(refine Zi fun _=>?_;try simp(disch:=first|exact Zq|fail)[*,Yb,Tryz.f205])|refine Ye ?_|refine Zx ?_|refine Zn ?_ ?_))
   .have hq0':(q==[48])=false:=by simpa using hq0
    intro K H;refine Wc Tryz.func205 ?_
    (refine Zm ?_;repeat'(first|(refine Zi fun _=>?_;try simp(disch:=first|exact Zq|fail)[*,Yb,Tryz.f205])|refine Ye ?_|refine Zx ?_|refine Zn ?_ ?_))
  |true=>
   have hs':(q==[48])=false:=by simpa using hs rfl
   clear hs;intro K H;refine Wc Tryz.func205 ?_
   (refine Zm ?_;repeat'(first|(refine Zi fun _=>?_;try simp(disch:=first|exact Zq|fail)[*,Yb,Tryz.f205])|refine Ye ?_|refine Zx ?_|refine Zn ?_ ?_))
 .refine ⟨r.neg,(Yk r.num).map fun x:Nat=>PV.int .u32 (x:Int),(Yk r.den).map fun x:Nat=>PV.int .u32 (x:Int),?_⟩;rw[if_neg hd1]at Znj e1;have Z9b:=Zsv (Zf r.num) (Zf r.den) (Q6 _) (by simp;omega);have Z9c:=Zev r.den (by omega);have Za19:=Z1z r.den (by omega);have hnl:(Yk r.num).length < 2^28:=Nat.lt_of_le_of_lt (Zo3 _) (by omega);have h212:=Zae5 r.num r.den hd hnl;rw[h.low]at h212;have hl1:Yk 1=[1]:=Zb6 (by omega) (by omega);rw[hl1]at h212;have h213:=Zae4
  have Zvw:Zf r.num≠[48]:=by
   refine Zaw fun e=>?_
   have:=h.low;rw[e,Nat.gcd_zero_left]at this;exact hd1 this
  have Zajw:(Zf r.num==[48])=false:=by simpa using Zvw
  have Za1n:(Zf r.den==[48])=false:=by simpa using Zaw (n:=r.den) (by have:=h.den;omega)
  have Za1m:(Zf r.den==[49])=false:=by
   rw[beq_eq_false_iff_ne];intro e;have h1:=Xo r.den;rw[e]at h1;exact hd1 (by rw[<- h1];rfl)
  generalize hqq:Zf r.num++47::Zf r.den=qq at *;generalize Yk r.num=xs at *;generalize Yk r.den=ys at *;generalize r.text=s at *;generalize Zf r.num=q at *;generalize Zf r.den=q2 at *;generalize r.neg=ng at *;simp only[U,List.map_nil,List.map_cons,Wn,Xe,Tv]at *;clear h hd1 e1 e2 hs Zvw;cases ng with
  |false=>
   intro K H;refine Wc Tryz.func205 ?_
   (refine Zm ?_;repeat'(first|(refine Zi fun _=>?_;try simp(disch:=first|exact Zw|fail)[*,Yd,Tryz.f205])|refine Zx ?_|refine Zn ?_ ?_))
   refine Yw false false [] [58] [H.next+9] [63,64] true (by decide +kernel) ?_
   (refine Zm ?_;repeat'(first|(refine Zi fun _=>?_;try simp(disch:=first|exact Zw|fail)[*,Yd,reach,refsO,Zu7])|refine Zx ?_|refine Zn ?_ ?_))
   exact absurd ‹Nat.blt 9 65=false› (by decide)
  |true=>
   intro K H;refine Wc Tryz.func205 ?_
   (refine Zm ?_;repeat'(first|(refine Zi fun _=>?_;try simp(disch:=first|exact Zw|fail)[*,Yd,Tryz.f205])|refine Zx ?_|refine Zn ?_ ?_))
   refine Yw false false [] [58] [H.next+9] [63,64] true (by decide +kernel) ?_
   (refine Zm ?_;repeat'(first|(refine Zi fun _=>?_;try simp(disch:=first|exact Zw|fail)[*,Yd,reach,refsO,Zu7])|refine Zx ?_|refine Zn ?_ ?_))
   exact absurd ‹Nat.blt 9 65=false› (by decide)
theorem Z11 {r:Rt}(h:r.Ok)(hl:r.text.length < 2^20)(hd:r.den < 1000000000):Xq vE 197 [.str r.text] (.bool true):=by
 obtain⟨n,d,b,h204⟩:=Zae9 h hl;obtain⟨ng,xs,ys,h205⟩:=Zae8 h hl hd;generalize r.text=s at *;cases b with
 |true=>
  intro K H;refine Wc Tryz.func197 ?_
  (refine Zm ?_;repeat'(first|(refine Zi fun _=>?_;try simp(disch:=first|exact Zq|fail)[*,Yb,Tryz.f197])|refine Ye ?_|refine Zx ?_|refine Zn ?_ ?_))
 |false=>
  intro K H;refine Wc Tryz.func197 ?_
  (refine Zm ?_;repeat'(first|(refine Zi fun _=>?_;try simp(disch:=first|exact Zq|fail)[*,Yb,Tryz.f197])|refine Ye ?_|refine Zx ?_|refine Zn ?_ ?_))
theorem Zafc {r:Rt}(h:r.Ok)(hl:r.text.length < 2^20)(hd:r.den=1)(hn:r.neg=false)(hn0:r.num≠0):Xq vE 184 [.str r.text] (.int .i64 1):=by
 have h197:=Z11 h hl (by omega);have e1:=Zaw hn0;have e:r.text=Zf r.num:=by unfold Rt.text;rw[hn,hd];simp
 rw[e]at h197 ⊢
 obtain⟨c,q,e2,e3,e4⟩:∃c q,Zf r.num=c::q/\49<=c/\c<=57:=by
  rcases Zj5 r.num with h | h
  .exact absurd h hn0
  .exact h
 rw[e2]at h197 ⊢;have e5:((c::q)==[48])=false:=by simp;omega
 clear e hn hn0 hd h e1;intro K H;refine Wc Tryz.func184 ?_
 (refine Zm ?_;repeat'(first|(refine Zi fun _=>?_;try simp(disch:=first|exact Zq|fail)[*,Yb,Tryz.f184])|refine Ye ?_|refine Zx ?_|refine Zn ?_ ?_))
end Go.Proofs.YtabcdhcpilpojaaGreatDoor
end
