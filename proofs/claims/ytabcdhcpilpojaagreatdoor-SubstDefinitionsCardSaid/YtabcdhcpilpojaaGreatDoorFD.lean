/- The program's numbers: cutting texts. -/
import Derived.Test.YtabcdhcpilpojaaGreatDoorFA
import Derived.Test.YtabcdhcpilpojaaGreatDoorPD
set_option linter.unusedSimpArgs false
set_option linter.unusedVariables false
section
set_option maxRecDepth 20000
namespace Go.Proofs.YtabcdhcpilpojaaGreatDoor
open Go Go.Pure
open Go.Virt (Ex Ctx Ty TK)
theorem Z8g {p:Yi}(hp:∀c∈p,c < 256/\c≠47):Lib.indexByte (p.map Nat.toUInt8) 47 = -1:=by
 induction p with
 |nil=>rfl
 |cons c p ih=>
  have h1:=hp c (by simp)
  have Yn:(Nat.toUInt8 c==47)=false:=by
   rw[beq_eq_false_iff_ne];intro e;have:=congrArg UInt8.toNat e;simp at this;omega
  simp[Lib.indexByte,Yn,ih fun c hc=>hp c (by simp[hc])]
theorem Z8f {p q:Yi}(hp:∀c∈p,c < 256/\c≠47):Lib.indexByte ((p++47::q).map Nat.toUInt8) 47=p.length:=by
 induction p with
 |nil=>simp[Lib.indexByte]
 |cons c p ih=>
  have h1:=hp c (by simp)
  have Yn:(Nat.toUInt8 c==47)=false:=by
   rw[beq_eq_false_iff_ne];intro e;have:=congrArg UInt8.toNat e;simp at this;omega
  have h2:=ih fun c hc=>hp c (by simp[hc])
  have hge:((p.length:Int)== -1)=false:=by
   rw[beq_eq_false_iff_ne];omega
  rw[List.cons_append,List.map_cons,Lib.indexByte,Yn,h2];simp[hge]
theorem Zaf7 (s:Yi):Xn vE 230 [.str s,.int .u8 47] (.int .i64 (Lib.indexByte (s.map Nat.toUInt8) 47)):=by
 intro K H;rw[Zi9];rfl
theorem Z2m (s:Yi)(hl:s.length < 2^30):Xn vE 220 [.str s,.str [47]] (.int .i64 (Lib.indexByte (s.map Nat.toUInt8) 47)):=by
 have h:=Zaf7 s;intro K H;refine Wc Tryz.func220 ?_
 (refine Zm ?_;repeat'(first|(refine Zi fun _=>?_;try simp(disch:=first|exact Zq|fail)[*,Zs,Tryz.f220])|refine Ye ?_|refine Zx ?_|refine Zn ?_ ?_))
 rename_i e;subst e;rfl
theorem Zage (p q:Yi)(hp:∀c∈p,c < 256/\c≠47)(hl:(p++47::q).length < 2^30):Xn vE 215 [.str (p++47::q),.str [47]] (.tuple [.str p,.str q,.bool true]):=by
 have h:=Z2m (p++47::q) hl;rw[Z8f hp]at h;generalize hs:p++47::q=s at *;have e1:s.take p.length=p:=by rw[<- hs];simp
 have e2:s.drop (p.length+1)=q:=by rw[<- hs];simp
 have hpl:p.length < s.length:=by rw[<- hs];simp
 have e3:List.take (s.length - (p.length+1)) q=q:=List.take_of_length_le (by rw[<- hs];simp;omega);have e1':(p.length:Int).toNat=p.length:=by omega
 have e2':((p.length:Int)+1).toNat=p.length+1:=by omega
 intro K H;refine Wc Tryz.func215 ?_
 (refine Zm ?_;repeat'(first|(refine Zi fun _=>?_;try simp(disch:=first|exact Zq|fail)[*,Zs,Tryz.f215])|refine Ye ?_|refine Zx ?_|refine Zn ?_ ?_))
theorem Zabw (s:Yi)(hp:∀c∈s,c < 256/\c≠47)(hl:s.length < 2^30):Xn vE 215 [.str s,.str [47]] (.tuple [.str s,.str [],.bool false]):=by
 have h:=Z2m s hl;rw[Z8g hp]at h;intro K H;refine Wc Tryz.func215 ?_
 (refine Zm ?_;repeat'(first|(refine Zi fun _=>?_;try simp(disch:=first|exact Zq|fail)[*,Zs,Tryz.f215])|refine Ye ?_|refine Zx ?_|refine Zn ?_ ?_))
theorem Zto (p q:Yi)(hp:∀c∈p,c < 256/\c≠47)(hl:(p++47::q).length < 2^30):Xn vE 208 [.str (p++47::q),.str [47]] (.tuple [.str p,.str q,.bool true]):=by
 have h:=Zage p q hp hl;generalize p++47::q=s at *;intro K H;refine Wc Tryz.func208 ?_
 (refine Zm ?_;repeat'(first|(refine Zi fun _=>?_;try simp(disch:=first|exact Zq|fail)[*,Zs,Tryz.f208])|refine Ye ?_|refine Zx ?_|refine Zn ?_ ?_))
theorem Zo2 (s:Yi)(hp:∀c∈s,c < 256/\c≠47)(hl:s.length < 2^30):Xn vE 208 [.str s,.str [47]] (.tuple [.str s,.str [],.bool false]):=by
 have h:=Zabw s hp hl;intro K H;refine Wc Tryz.func208 ?_
 (refine Zm ?_;repeat'(first|(refine Zi fun _=>?_;try simp(disch:=first|exact Zq|fail)[*,Zs,Tryz.f208])|refine Ye ?_|refine Zx ?_|refine Zn ?_ ?_))
theorem Zagf (s:Yi)(hl:s.length < 2^30):Xn vE 214 [.str s,.str [45]] (.bool (Zau s)):=by
 unfold Zau;cases s with
 |nil=>
  intro K H;refine Wc Tryz.func214 ?_
  (refine Zm ?_;repeat'(first|(refine Zi fun _=>?_;try simp(disch:=first|exact Zq|fail)[*,Zs,Tryz.f214])|refine Ye ?_|refine Zx ?_|refine Zn ?_ ?_))
 |cons c s=>
  intro K H;refine Wc Tryz.func214 ?_
  (refine Zm ?_;repeat'(first|(refine Zi fun _=>?_;try simp(disch:=first|exact Zq|fail)[*,Zs,Tryz.f214])|refine Ye ?_|refine Zx ?_|refine Zn ?_ ?_))
  rw[Bool.eq_iff_iff];simp
theorem Zagj (s:Yi)(hl:s.length < 2^30):Xn vE 206 [.str s,.str [45]] (.tuple [.str (Tw s),.bool (Zau s)]):=by
 have h:=Zagf s hl;unfold Tw;unfold Zau at *;by_cases h1:s.head?=some 45
 .cases s with
  |nil=>simp at h1
  |cons c s=>
   simp only[h1,decide_true,if_true,List.tail_cons]at *;intro K H;refine Wc Tryz.func206 ?_
   (refine Zm ?_;repeat'(first|(refine Zi fun _=>?_;try simp(disch:=first|exact Zq|fail)[*,Zs,Tryz.f206])|refine Ye ?_|refine Zx ?_|refine Zn ?_ ?_))
 .simp only [h1,decide_false,if_false]at *;intro K H;refine Wc Tryz.func206 ?_
  (refine Zm ?_;repeat'(first|(refine Zi fun _=>?_;try simp(disch:=first|exact Zq|fail)[*,Zs,Tryz.f206])|refine Ye ?_|refine Zx ?_|refine Zn ?_ ?_))
theorem Ztp (s:Yi)(hl:s.length < 2^30):Xn vE 198 [.str s,.str [45]] (.tuple [.str (Tw s),.bool (Zau s)]):=by
 have h:=Zagj s hl;intro K H;refine Wc Tryz.func198 ?_
 (refine Zm ?_;repeat'(first|(refine Zi fun _=>?_;try simp(disch:=first|exact Zq|fail)[*,Zs,Tryz.f198])|refine Ye ?_|refine Zx ?_|refine Zn ?_ ?_))
theorem Zagm (s:Yi)(hd:∀c∈s,48<=c/\c<=57)(hl:s.length < 2^30)(h0:s=[48]\/(s≠[]/\s.head?≠some 48)):Xn vE 199 [.str s] (.bool true):=by
 have hl':s.length<=Virt.maxLenV:=by rw[Rz];omega
 intro K H;refine Wc Tryz.func199 ?_
 (refine Zm ?_;repeat'(first|(refine Zi fun _=>?_;try simp(disch:=first|exact Zq|fail)[*,Zs,Tryz.f199])|refine Ye ?_|refine Zx ?_|refine Zn ?_ ?_))
 generalize hv6:H.stamp (H.next+6)=v6;refine Zh [0,6,7] (fun n sl h=>∃i:Nat,n=s.length - i/\i<=s.length/\sl 8=some (.int .i64 i)/\h.get (H.next+6)=some (v6,.row 5 true (s.map fun b:Nat=>PV.int IntKind.u8 (b:Int)))) s.length rfl ⟨0,by simp,by simp,by simp,by simp[*]⟩ ?_;rintro n sl h hf ⟨i,hn,hi,h8,h6⟩;simp at hf;by_cases hlt:i < s.length
 .have hc:=hd s[i] (List.getElem_mem hlt);generalize hsi:s[i]=c at *;clear hd h0
  (refine Zm ?_;repeat'(first|(refine Zi fun _=>?_;try simp(disch:=first|exact Zq|fail)[*,Zs])|refine Ye ?_|refine Zx ?_|refine Zn ?_ ?_))
  exact⟨_,by omega,i+1,rfl,by omega,by omega⟩
 .have hi':i=s.length:=by omega
  subst hi';rcases h0 with rfl | ⟨h1,h2⟩
  .clear hd
   (refine Zm ?_;repeat'(first|(refine Zi fun _=>?_;try simp(disch:=first|exact Zq|fail)[*,Zs])|refine Ye ?_|refine Zx ?_|refine Zn ?_ ?_))
  .cases s with
   |nil=>exact absurd rfl h1
   |cons c s=>
    have hc:c≠48:=by simpa using h2
    have hc1:(c==48)=false:=by simpa using hc
    have hc2:((c:Int)==48)=false:=by simp;omega
    clear hd h1 h2
    (refine Zm ?_;repeat'(first|(refine Zi fun _=>?_;try simp(disch:=first|exact Zq|fail)[*,Zs])|refine Ye ?_|refine Zx ?_|refine Zn ?_ ?_))
theorem Zcu (n:Nat):(∀c∈Ze n,48<=c/\c<=57)/\(Ze n=[48]\/(Ze n≠[]/\(Ze n).head?≠some 48)):=by
 refine⟨fun c hc=>?_,?_⟩
 .have:=List.all_eq_true.1 (Ww n) c hc;simpa[digB]using this
 .rcases Zkj n with rfl | ⟨c,r,e,h1,h2⟩
  .exact .inl V7
  .right;rw[e];simp;omega
theorem Ze6 (n:Nat)(hl:(Ze n).length < 2^30):Xn vE 199 [.str (Ze n)] (.bool true):=Zagm _ (Zcu n).1 hl (Zcu n).2
theorem Zur {s:Yi}(hd:∀c∈s,48<=c/\c<=57):∀i,i<=s.length->Yq (s.take i) < 10^i:=by
 intro i
 induction i with
 |zero=>intro _;simp[Yq,Zlk]
 |succ i ih=>
  intro hi;rw[List.take_add_one,List.getElem?_eq_getElem (by omega:i < s.length),Option.toList,Td];have h1:=ih (by omega);have h2:=hd s[i] (List.getElem_mem _);rw[Nat.pow_succ];omega
set_option maxHeartbeats 4000000 in
theorem Zaga (s:Yi)(hd:∀c∈s,48<=c/\c<=57)(Yn:s≠[])(hl:s.length<=18):Xn vE 221 [.str s,.int .i64 10,.int .i64 64] (.tuple [.int .u64 (Yq s),.nili]):=by
 have hl':s.length<=Virt.maxLenV:=by rw[Rz];omega
 have hb:∀i,i<=s.length->Yq (s.take i) < 10^18:=fun i hi=>Nat.lt_of_lt_of_le (Zur hd i hi) (Nat.pow_le_pow_right (by omega) (by omega))
 have Sr:0 < s.length:=List.length_pos_iff.2 Yn;intro K H;refine Wc Tryz.func221 ?_
 (refine Zm ?_;repeat'(first|(refine Zi fun _=>?_;try simp(disch:=first|exact Zq|fail)[*,Zs,Tryz.f221])|refine Ye ?_|refine Zx ?_|refine Zn ?_ ?_))
 .rename_i e;exact absurd (List.isEmpty_iff.1 e) Yn
 generalize hv6:H.stamp (H.next+99)=v6;refine Zh [1,8,9,10,11,99,100] (fun n sl h=>∃i:Nat,n=s.length - i/\i<=s.length/\sl 101=some (.int .i64 i)/\sl 12=some (.bool false)/\sl 13=some (.int .u64 (Yq (s.take i)))/\h.get (H.next+99)=some (v6,.row 5 true (s.map fun b:Nat=>PV.int IntKind.u8 (b:Int)))) s.length rfl ⟨0,by simp,by simp,by simp,by simp,by simp[Yq,Zlk],by simp[*]⟩ ?_;rintro n sl h hf ⟨i,hn,hi,h101,h12,h13,h6⟩;simp at hf;by_cases hlt:i < s.length
 .have hc:=hd s[i] (List.getElem_mem hlt);have hbi:=hb i hi;have hbi2:=hb (i+1) hlt
  have Xj:Yq (s.take (i+1))=Yq (s.take i)*10+(s[i] - 48):=by
   rw[List.take_add_one,List.getElem?_eq_getElem hlt,Option.toList,Td]
  generalize hsi:s[i]=c at *;generalize hA:Yq (s.take i)=A at *;generalize hB:Yq (s.take (i+1))=B at *;have hB':(A:Int)*10+((c:Int) - 48)=B:=by omega
  clear hd hb;have hmx:IntKind.u64.wrap (IntKind.u64.wrap (2^min 64 IntKind.u64.bits) - 1)=18446744073709551615:=by decide +kernel
  (refine Zm ?_;repeat'(first|(refine Zi fun _=>?_;try simp(disch:=first|exact Zq|fail)[*,Zs])|refine Ye ?_|refine Zx ?_|refine Zn ?_ ?_))
  exact⟨_,by omega,i+1,rfl,by omega,by omega,by rw[hB];omega⟩
 .have hi':i=s.length:=by omega
  subst hi';rw[List.take_length]at h13;clear hd hb
  (refine Zm ?_;repeat'(first|(refine Zi fun _=>?_;try simp(disch:=first|exact Zq|fail)[*,Zs])|refine Ye ?_|refine Zx ?_|refine Zn ?_ ?_))
set_option maxHeartbeats 2000000 in
theorem Zagd (s:Yi)(hd:∀c∈s,48<=c/\c<=57)(Yn:s≠[])(hl:s.length<=18):Xn vE 216 [.str s,.int .i64 10,.int .i64 64] (.tuple [.int .i64 (Yq s),.nili]):=by
 have h:=Zaga s hd Yn hl;have hb:Yq s < 10^18:=Nat.lt_of_lt_of_le (Zhl (Yr.2 hd)) (Nat.pow_le_pow_right (by omega) hl);generalize Yq s=A at *;cases s with
 |nil=>exact absurd rfl Yn
 |cons c s=>
  have hc:=hd c (by simp);have hmx:IntKind.u64.wrap (2^min 63 IntKind.u64.bits)=9223372036854775808:=by decide +kernel
  clear hd Yn;intro K H;refine Wc Tryz.func216 ?_
  (refine Zm ?_;repeat'(first|(refine Zi fun _=>?_;try simp(disch:=first|exact Zq|fail)[*,Zs,Tryz.f216])|refine Ye ?_|refine Zx ?_|refine Zn ?_ ?_))
theorem Z2o (s:Yi)(hd:∀c∈s,48<=c/\c<=57)(Yn:s≠[])(hl:s.length<=18):Xn vE 209 [.str s,.int .i64 10,.int .i64 64] (.tuple [.int .i64 (Yq s),.nili]):=by
 have h:=Zagd s hd Yn hl;intro K H;refine Wc Tryz.func209 ?_
 (refine Zm ?_;repeat'(first|(refine Zi fun _=>?_;try simp(disch:=first|exact Zq|fail)[*,Zs,Tryz.f209])|refine Ye ?_|refine Zx ?_|refine Zn ?_ ?_))
theorem Za1 {n:Nat}(h:n≠0):Ze n≠[48]:=by
 rcases Zkj n with e | ⟨c,r,e,h1,h2⟩
 .exact absurd e h
 .rw [e];simp;omega
theorem Zaf (n:Nat):∀c∈Ze n,c < 256/\c≠47:=fun c hc=>by
 have:=(Zcu n).1 c hc;omega
theorem Zagp {r:Rt}(h:r.Ok)(hd:r.den=1)(hl:r.text.length < 2^29):Xn vE 183 [.str r.text] (.bool true):=by
 obtain⟨e1,e2⟩:=Se r;rw[if_pos hd,List.append_nil]at e1;have Zn5:=Ztp r.text (by omega);have h199:=Ze6 r.num (by have:=(V1 r).1;omega);rw[e1,e2]at Zn5;have hs:r.neg=true->Ze r.num≠[48]:=fun hn=>Za1 (h.sign hn)
 generalize r.text=s at *;generalize Ze r.num=q at *;generalize r.neg=ng at *;clear h hd e1 e2;cases ng with
 |false=>
  intro K H;refine Wc Tryz.func183 ?_
  (refine Zm ?_;repeat'(first|(refine Zi fun _=>?_;try simp(disch:=first|exact Zq|fail)[*,Zs,Tryz.f183])|refine Ye ?_|refine Zx ?_|refine Zn ?_ ?_))
 |true=>
  have hs':=hs rfl;have hs2:(q==[48])=false:=by simpa using hs'
  clear hs;intro K H;refine Wc Tryz.func183 ?_
  (refine Zm ?_;repeat'(first|(refine Zi fun _=>?_;try simp(disch:=first|exact Zq|fail)[*,Zs,Tryz.f183])|refine Ye ?_|refine Zx ?_|refine Zn ?_ ?_))
theorem Zagi (a b:Nat)(ha:a < 2^62)(hb:b < 2^62):Xn vE 210 [.int .i64 a,.int .i64 b] (.int .i64 (Nat.gcd a b)):=by
 intro K H;refine Wc Tryz.func210 ?_
 (refine Zm ?_;repeat'(first|(refine Zi fun _=>?_;try simp(disch:=first|exact Zq|fail)[*,Zs,Tryz.f210])|refine Ye ?_|refine Zx ?_|refine Zn ?_ ?_))
 refine Zh [] (fun n sl h=>∃x y:Nat,n=y/\x < 2^62/\y < 2^62/\sl 0=some (.int .i64 x)/\sl 1=some (.int .i64 y)/\Nat.gcd x y=Nat.gcd a b) b rfl ⟨a,b,rfl,ha,hb,by simp,by simp,rfl⟩ ?_;rintro n sl h hf ⟨x,y,hn,hx,hy,h0,h1,hg⟩;simp at hf;by_cases h0':y=0
 .subst h0';rw[Nat.gcd_zero_right]at hg
  (refine Zm ?_;repeat'(first|(refine Zi fun _=>?_;try simp(disch:=first|exact Zq|fail)[*,Zs])|refine Ye ?_|refine Zx ?_|refine Zn ?_ ?_))
 .have hm:Int.tmod (x:Int) (y:Int)=((x % y:Nat):Int):=by
   rw[Int.tmod_eq_emod_of_nonneg (by omega)];rfl
  have hlt:x % y < y:=Nat.mod_lt _ (by omega)
  (refine Zm ?_;repeat'(first|(refine Zi fun _=>?_;try simp(disch:=first|exact Zq|fail)[*,Zs])|refine Ye ?_|refine Zx ?_|refine Zn ?_ ?_))
  exact⟨x % y,hlt,y,by omega,by omega,rfl,by simp,by rw[Nat.gcd_comm y,<- Nat.gcd_rec,Nat.gcd_comm,hg]⟩
set_option maxHeartbeats 4000000 in
theorem Zagl {r:Rt}(h:r.Ok)(hl:r.text.length < 2^20):∃(n d:Int) (b:Bool),Xn vE 204 [.str r.text] (.tuple [.agg [.int .i64 n,.int .i64 d],.bool b]):=by
 obtain⟨e1,e2⟩:=Se r;have hl1:=(V1 r).1;have hl2:=(V1 r).2;have Zn5:=Ztp r.text (by omega);rw[e1,e2]at Zn5;have h199:=Ze6 r.num (by omega);have Z96:=Ze6 r.den (by omega);have hs:r.neg=true->Ze r.num≠[48]:=fun hn=>Za1 (h.sign hn)
 by_cases h9:9 < (Ze r.num).length
 .refine ⟨0,0,false,?_⟩;by_cases hd:r.den=1
  .rw [if_pos hd,List.append_nil]at Zn5;have Z95:=Zo2 (Ze r.num) (Zaf _) (by omega);generalize r.text=s at *;generalize Ze r.num=q at *;generalize r.neg=ng at *;clear h hd e1 e2 hs Z96 hl2;intro K H;refine Wc Tryz.func204 ?_
   (refine Zm ?_;repeat'(first|(refine Zi fun _=>?_;try simp(disch:=first|exact Zq|fail)[*,Zs,Tryz.f204])|refine Ye ?_|refine Zx ?_|refine Zn ?_ ?_))
  .rw [if_neg hd]at Zn5 e1;have Z95:=Zto (Ze r.num) (Ze r.den) (Zaf _) (by simp;omega);generalize hqq:Ze r.num++47::Ze r.den=qq at *;generalize r.text=s at *;generalize Ze r.num=q at *;generalize Ze r.den=q2 at *;generalize r.neg=ng at *;clear h hd e1 e2 hs;intro K H;refine Wc Tryz.func204 ?_
   (refine Zm ?_;repeat'(first|(refine Zi fun _=>?_;try simp(disch:=first|exact Zq|fail)[*,Zs,Tryz.f204])|refine Ye ?_|refine Zx ?_|refine Zn ?_ ?_))
 .have hq1:=Zcu r.num;have hn1:Yq (Ze r.num)=r.num:=Xq _;have h209:=Z2o (Ze r.num) hq1.1 (Zbm _) (by omega);rw[hn1]at h209;have Rv:r.num < 10^9:=Nat.lt_of_lt_of_le (Wf _) (Nat.pow_le_pow_right (by omega) (by omega));by_cases hd:r.den=1
  .refine ⟨if r.neg then -r.num else r.num,1,true,?_⟩;rw[if_pos hd,List.append_nil]at Zn5;have Z95:=Zo2 (Ze r.num) (Zaf _) (by omega);generalize r.text=s at *;generalize Ze r.num=q at *;generalize r.num=N at *;generalize r.neg=ng at *;clear h hd e1 e2 Z96 hl2 hq1 hn1;cases ng with
   |false=>
    clear hs;by_cases hq0:q=[48]
    .subst hq0;intro K H;refine Wc Tryz.func204 ?_
     (refine Zm ?_;repeat'(first|(refine Zi fun _=>?_;try simp(disch:=first|exact Zq|fail)[*,Zs,Tryz.f204])|refine Ye ?_|refine Zx ?_|refine Zn ?_ ?_))
    .have hq0':(q==[48])=false:=by simpa using hq0
     intro K H;refine Wc Tryz.func204 ?_
     (refine Zm ?_;repeat'(first|(refine Zi fun _=>?_;try simp(disch:=first|exact Zq|fail)[*,Zs,Tryz.f204])|refine Ye ?_|refine Zx ?_|refine Zn ?_ ?_))
   |true=>
    have hs':(q==[48])=false:=by simpa using hs rfl
    clear hs;intro K H;refine Wc Tryz.func204 ?_
    (refine Zm ?_;repeat'(first|(refine Zi fun _=>?_;try simp(disch:=first|exact Zq|fail)[*,Zs,Tryz.f204])|refine Ye ?_|refine Zx ?_|refine Zn ?_ ?_))
  .rw [if_neg hd]at Zn5 e1;have Z95:=Zto (Ze r.num) (Ze r.den) (Zaf _) (by simp;omega);by_cases h9d:9 < (Ze r.den).length
   .refine ⟨0,0,false,?_⟩;generalize hqq:Ze r.num++47::Ze r.den=qq at *;generalize r.text=s at *;generalize Ze r.num=q at *;generalize Ze r.den=q2 at *;generalize r.neg=ng at *;clear h hd e1 e2 hs h209;intro K H;refine Wc Tryz.func204 ?_
    (refine Zm ?_;repeat'(first|(refine Zi fun _=>?_;try simp(disch:=first|exact Zq|fail)[*,Zs,Tryz.f204])|refine Ye ?_|refine Zx ?_|refine Zn ?_ ?_))
   .have hq2:=Zcu r.den;have hn2:Yq (Ze r.den)=r.den:=Xq _;have Zaug:=Z2o (Ze r.den) hq2.1 (Zbm _) (by omega);rw[hn2]at Zaug;have hb2:r.den < 10^9:=Nat.lt_of_lt_of_le (Wf _) (Nat.pow_le_pow_right (by omega) (by omega));have h210:=Zagi r.num r.den (by omega) (by omega);rw[h.low]at h210;have hdp:=h.den
    have Zwh:Ze r.num≠[48]:=by
     refine Za1 fun e=>?_
     have:=h.low;rw[e,Nat.gcd_zero_left]at this;exact hd this
    have Zalk:(Ze r.num==[48])=false:=by simpa using Zwh
    refine⟨if r.neg then -r.num else r.num,r.den,true,?_⟩;generalize hqq:Ze r.num++47::Ze r.den=qq at *;generalize r.text=s at *;generalize Ze r.num=q at *;generalize Ze r.den=q2 at *;generalize r.neg=ng at *;generalize r.num=N at *;generalize r.den=D at *;clear h e1 e2 hs hq1 hq2 hn1 hn2 Zwh;cases ng with
    |false=>
     intro K H;refine Wc Tryz.func204 ?_
     (refine Zm ?_;repeat'(first|(refine Zi fun _=>?_;try simp(disch:=first|exact Zq|fail)[*,Zs,Tryz.f204])|refine Ye ?_|refine Zx ?_|refine Zn ?_ ?_))
    |true=>
     intro K H;refine Wc Tryz.func204 ?_
     (refine Zm ?_;repeat'(first|(refine Zi fun _=>?_;try simp(disch:=first|exact Zq|fail)[*,Zs,Tryz.f204])|refine Ye ?_|refine Zx ?_|refine Zn ?_ ?_))
def Ym (n:Nat):List Nat:=if h:n=0 then [] else n % 1000000000::Ym (n / 1000000000)
 decreasing_by omega
def Vz:List Nat->Nat
 | []=>0
 |x::r=>x+1000000000*Vz r
theorem Wj:Ym 0=[]:=by rw[Ym];simp
theorem Um {n:Nat}(h:0 < n):Ym n=n % 1000000000::Ym (n / 1000000000):=by rw[Ym,dif_neg (by omega)]
theorem Z3x:∀n,Vz (Ym n)=n:=by
 intro n
 induction n using Nat.strongRecOn with
 | _ n ih=>
   rcases Nat.eq_zero_or_pos n with rfl | h
   .rw [Wj];rfl
   .rw [Um h,Vz,ih _ (by omega)];omega
theorem Z7y:∀n,∀x∈Ym n,x < 1000000000:=by
 intro n
 induction n using Nat.strongRecOn with
 | _ n ih=>
   rcases Nat.eq_zero_or_pos n with rfl | h
   .rw [Wj];simp
   .rw [Um h];intro x hx;rcases List.mem_cons.1 hx with rfl | hx
    .omega
    .exact ih _ (by omega) x hx
theorem Zzd:∀n,∀h:Ym n≠[],(Ym n).getLast h≠0:=by
 intro n
 induction n using Nat.strongRecOn with
 | _ n ih=>
   intro h;rcases Nat.eq_zero_or_pos n with rfl | hp
   .exact absurd Wj h
   .revert h
    rw[Um hp];intro h;rcases Nat.eq_zero_or_pos (n / 1000000000) with h0 | h0
    .have:Ym (n / 1000000000)=[]:=by rw[h0,Wj]
     simp only[this,List.getLast_singleton];omega
    .have Yn:Ym (n / 1000000000)≠[]:=by rw[Um h0];simp
     rw[List.getLast_cons Yn];exact ih _ (by omega) Yn
theorem Zqw:∀xs:List Nat,(∀x∈xs,x < 1000000000)->∃k,xs=Ym (Vz xs)++List.replicate k 0
 | [],_=>⟨0,by simp[Vz,Wj]⟩
 |x::r,h=>by
  obtain⟨k,hk⟩:=Zqw r fun y hy=>h y (by simp[hy])
  have hx:=h x (by simp);rw[Vz];rcases Nat.eq_zero_or_pos (x+1000000000*Vz r) with h0 | h0
  .have h1:x=0:=by omega
   have h2:Vz r=0:=by omega
   rw[h2,Wj,List.nil_append]at hk;rw[h0,Wj,h1];exact⟨k+1,by rw[List.nil_append,List.replicate_succ,<- hk]⟩
  .rw [Um h0];have h1:(x+1000000000*Vz r) % 1000000000=x:=by omega
   have h2:(x+1000000000*Vz r) / 1000000000=Vz r:=by omega
   rw[h1,h2];exact⟨k,by rw[List.cons_append,<- hk]⟩
theorem Zuq (a b:List Nat):Vz (a++b)=Vz a+1000000000^a.length*Vz b:=by
 induction a with
 |nil=>simp[Vz]
 |cons x a ih=>
  rw[List.cons_append,Vz,Vz,ih,List.length_cons,Nat.pow_succ,Nat.mul_add];rw[<- Nat.mul_assoc,Nat.mul_comm 1000000000 (1000000000^a.length)];omega
abbrev U (b:Bool)(xs:List Nat):PV:=L 216 b (xs.map fun x:Nat=>PV.int .u32 (x:Int))
theorem Zagc (N k:Nat)(b:Bool)(hl:(Ym N).length+k < 2^30):Xn vE 218 [U b (Ym N++List.replicate k 0)] (U (b&&(Ym N++List.replicate k 0).isEmpty) (Ym N)):=by
 have Z1w:=Zzd N;have htk:(Ym N++List.replicate k 0).take (Ym N).length=Ym N:=by simp
 have hz:∀j (h:j < (Ym N++List.replicate k 0).length),(Ym N).length<=j->(Ym N++List.replicate k 0)[j]=0:=fun j h h2=>by
  rw[List.getElem_append_right h2];simp
 have hnz:∀h:0 < (Ym N).length,∀h2:(Ym N).length - 1 < (Ym N++List.replicate k 0).length,(Ym N++List.replicate k 0)[(Ym N).length - 1]≠0:=fun h h2=>by
  rw[List.getElem_append_left (by omega),<- List.getLast_eq_getElem (List.length_pos_iff.1 h)];exact Z1w _
 have hlen:(Ym N++List.replicate k 0).length=(Ym N).length+k:=by simp
 generalize Ym N++List.replicate k 0=xs at *;generalize hM:Ym N=ys at *;intro K H;refine Wc Tryz.func218 ?_
 (refine Zm ?_;repeat'(first|(refine Zi fun _=>?_;try simp(disch:=first|exact Zq|fail)[*,Zs,Tryz.f218])|refine Ye ?_|refine Zx ?_|refine Zn ?_ ?_))
 refine Zh [0] (fun n sl h=>∃j:Nat,n=j/\ys.length<=j/\j<=xs.length/\sl 3=some (.int .i64 j)) xs.length rfl ⟨xs.length,rfl,by omega,by omega,by simp;omega⟩ ?_;rintro n sl h hf ⟨j,hn,hj1,hj2,h3⟩;simp at hf;by_cases hlt:ys.length < j
 .have h0:=hz (j - 1) (by omega) (by omega);have e1:((j:Int) - 1).toNat=j - 1:=by omega
  clear hz hnz Z1w htk
  (refine Zm ?_;repeat'(first|(refine Zi fun _=>?_;try simp(disch:=first|exact Zq|fail)[*,Zs])|refine Ye ?_|refine Zx ?_|refine Zn ?_ ?_))
  exact⟨j - 1,by omega,by omega,by omega,by omega⟩
 .have hj:j=ys.length:=by omega
  subst hj;by_cases hy:ys.length=0
  .have hy':ys=[]:=List.length_eq_zero_iff.1 hy;subst hy';clear hz hnz Z1w
   (refine Zm ?_;repeat'(first|(refine Zi fun _=>?_;try simp(disch:=first|exact Zq|fail)[*,Zs])|refine Ye ?_|refine Zx ?_|refine Zn ?_ ?_))
   rfl
  .have h0:=hnz (by omega) (by omega);have e1:((ys.length:Int) - 1).toNat=ys.length - 1:=by omega
   have htk':(xs.map fun x:Nat=>PV.int .u32 (x:Int)).take ys.length=ys.map fun x:Nat=>PV.int .u32 (x:Int):=by
    rw[<- List.map_take,htk]
   clear hz hnz Z1w
   (refine Zm ?_;repeat'(first|(refine Zi fun _=>?_;try simp(disch:=first|exact Zq|fail)[*,Zs])|refine Ye ?_|refine Zx ?_|refine Zn ?_ ?_))
theorem Zo1 (xs:List Nat)(b:Bool)(hx:∀x∈xs,x < 1000000000)(hl:xs.length < 2^30):Xn vE 218 [U b xs] (U (b&&xs.isEmpty) (Ym (Vz xs))):=by
 obtain⟨k,hk⟩:=Zqw xs hx
 have hle:(Ym (Vz xs)).length+k=xs.length:=by
  have:=congrArg List.length hk;simp at this;omega
 have:=Zagc (Vz xs) k b (by omega)
 rwa [<- hk]at this
set_option maxHeartbeats 4000000 in
theorem Z2n (n:Nat)(hl:(Ze n).length < 2^20):Xn vE 211 [.str (Ze n)] (U false (Ym n)):=by
 have hd:=(Zcu n).1;have hn:=Xq n;have Sr:0 < (Ze n).length:=List.length_pos_iff.2 (Zbm n);generalize Ze n=s at *;intro K H;refine Wc Tryz.func211 ?_
 (refine Zm ?_;repeat'(first|(refine Zi fun _=>?_;try simp(disch:=first|exact Zq|fail)[*,Zs,Tryz.f211])|refine Ye ?_|refine Zx ?_|refine Zn ?_ ?_))
 refine Zh [0] (fun m sl h=>∃(e:Nat) (q:Int) (xs:List Nat) (w:PV),m=e/\(q=e\/e=0 /\ -9<=q/\q<=0)/\e<=s.length/\sl 4=some (.int .i64 q)/\sl 3=some w/\Acc [36] ⟨H.next,H.next,[]⟩ h 216 w (xs.map fun x:Nat=>PV.int .u32 (x:Int))/\(∀x∈xs,x < 1000000000)/\xs.length<=s.length - e/\n=Vz xs+1000000000^xs.length*Yq (s.take e)/\(xs=[]->e=s.length)) s.length rfl ⟨s.length,s.length,[],.nils,rfl,Or.inl rfl,by omega,by simp,by simp,Acc.nil,by simp,by simp,by simp[Vz,hn],by simp⟩ ?_;rintro m sl h hf ⟨e,q,xs,w,hm,hq,he,h4,h3,hA,hx,hxl,hv,Yn⟩;simp at hf;by_cases h0:e=0
 .subst h0;have hq0:q<=0:=by omega
  rw[List.take_zero,show Yq []=0 from rfl,Nat.mul_zero,Nat.add_zero]at hv;have hxne:xs≠[]:=fun e=>by have:=Yn e;omega
  have Z4s:=Zo1 xs true hx (by omega);rw[<- hv]at Z4s;have Un:(true&&xs.isEmpty)=false:=by simpa using hxne
  rw[Un]at Z4s;obtain⟨h',hc,Uf,hg⟩:=hA.callF (C:=vE) (f:=218) rfl rfl [] [] Z4s (fun _=>by simp) rfl rfl;simp only[List.nil_append]at hc;clear hn Yn hx hxl hv hd
  (refine Zm ?_;repeat'(first|(refine Zi fun _=>?_;try simp(disch:=first|exact Zq|fail)[*,Zs])|refine Ye ?_|refine Zx ?_|refine Zn ?_ ?_))
 .have hqe:q=e:=by omega
  subst hqe;obtain⟨c0,hc0⟩:∃c0,c0=e - 9:=⟨_,rfl⟩
  have hmx:max ((e:Int) - 9) 0=c0:=by omega
  have hcl:e<=Virt.maxLenV+c0:=by rw[Rz];omega
  have hce:c0 < e:=by omega
  have htk:s.take e=s.take c0++(s.drop c0).take (e - c0):=by
   rw[<- List.take_add];congr 1;omega
  have hchl:((s.drop c0).take (e - c0)).length=e - c0:=by simp;omega
  have hchd:∀c∈(s.drop c0).take (e - c0),48<=c/\c<=57:=fun c hc=>hd c (List.drop_subset _ _ (List.take_subset _ _ hc))
  have hmp:List.take (e - c0) (List.drop c0 (s.map fun b:Nat=>PV.int IntKind.u8 (b:Int)))=((s.drop c0).take (e - c0)).map fun b:Nat=>PV.int IntKind.u8 (b:Int):=by rw[List.map_take,List.map_drop]
  generalize hch:(s.drop c0).take (e - c0)=ch at *;have hbv:∀i,i<=ch.length->Yq (ch.take i) < 10^9:=fun i hi=>Nat.lt_of_lt_of_le (Zur hchd i hi) (Nat.pow_le_pow_right (by omega) (by omega))
  rw[htk,Zkp]at hv;have h9:9<=e->ch.length=9:=fun h=>by omega
  have h9':e < 9->c0=0:=fun h=>by omega
  replace hc0:=Hide.mk hc0;replace hv:=Hide.mk hv;replace hch:=Hide.mk hch;replace htk:=Hide.mk htk;clear hd
  (refine Zm ?_;repeat'(first|(refine Zi fun _=>?_;try simp(disch:=first|exact Zq|fail)[*,Zs])|refine Ye ?_|refine Zx ?_|refine Zn ?_ ?_))
  generalize hhh:h.put (H.next+20) (h.stamp (H.next+20)) (.row 5 true (ch.map fun b:Nat=>PV.int IntKind.u8 (b:Int)))=hh;generalize hv20:h.stamp (H.next+20)=v20 at *;have hg20:hh.get (H.next+20)=some (v20,.row 5 true (ch.map fun b:Nat=>PV.int IntKind.u8 (b:Int))):=by rw[<- hhh];simp
  have hA2:Acc [36] ⟨H.next,H.next,[]⟩ hh 216 w (xs.map fun x:Nat=>PV.int .u32 (x:Int)):=hA.frame fun d hd=>by simp at hd;subst hd;rw[<- hhh];simp
  clear hA hhh;refine Zh [0,3,4,20,21] (fun m sl h=>∃i:Nat,m=ch.length - i/\i<=ch.length/\sl 22=some (.int .i64 i)/\sl 5=some (.int .u32 (Yq (ch.take i)))/\h=hh) ch.length rfl ⟨0,by simp,by simp,by simp,by simp[Yq,Zlk],rfl⟩ ?_;rintro m2 sl2 h2 hf2 ⟨i,hm2,hi,h22,h5,rfl⟩;simp[hf]at hf2;by_cases hlt:i < ch.length
  .have hc:=hchd ch[i] (List.getElem_mem hlt);have hbi:=hbv i hi;have hbi2:=hbv (i+1) hlt
   have Xj:Yq (ch.take (i+1))=Yq (ch.take i)*10+(ch[i] - 48):=by
    rw[List.take_add_one,List.getElem?_eq_getElem hlt,Option.toList,Td]
   generalize hsi:ch[i]=c at *;generalize hAA:Yq (ch.take i)=A at *;generalize hB:Yq (ch.take (i+1))=B at *;clear hchd hbv hx hxl Yn hm he
   (refine Zm ?_;repeat'(first|(refine Zi fun _=>?_;try simp(disch:=first|exact Zq|fail)[*,Zs])|refine Ye ?_|refine Zx ?_|refine Zn ?_ ?_))
   exact⟨_,by omega,i+1,rfl,by omega,by omega,by rw[hB];omega⟩
  .have hi':i=ch.length:=by omega
   subst hi';rw[List.take_length]at h5;have hb2:=hbv ch.length (Nat.le_refl _);rw[List.take_length]at hb2;obtain⟨w',h',Sv,X4,Ts,Zk⟩:=hA2.app (dd:=36) (ys:=[PV.int .u32 (Yq ch)]) (T:={k:=.int .u32,size:=1,bytes:=4,zero:=[.int .u32 0]}) (by simp) rfl (by simp only[List.length_map,List.length_cons,List.length_nil];omega) (by decide) (by decide) (by simp);simp only[List.length_cons,List.length_nil]at Sv;have Ws:=hA2.same (n:=3);have Zda:=X4.same (n:=3)
   have hA'':Acc [36] ⟨H.next,H.next,[]⟩ h' 216 w' ((xs++[Yq ch]).map fun x:Nat=>PV.int .u32 (x:Int)):=by
    rw[List.map_append];exact X4
   have hv':n=Vz (xs++[Yq ch])+1000000000^(xs++[Yq ch]).length*Yq (s.take c0):=by
    rw[hv.get,Zuq,List.length_append,List.length_cons,List.length_nil,Nat.pow_succ];by_cases h99:9<=e
    .rw [h9 h99];simp only[Vz];rw[Nat.mul_add,show (10:Nat)^9=1000000000 from rfl,Nat.mul_zero,Nat.add_zero,Nat.mul_assoc,Nat.mul_comm 1000000000 (Yq _)];omega
    .rw [h9' (by omega)];simp[Vz,show Yq []=0 from rfl]
   have hx':∀x∈xs++[Yq ch],x < 1000000000:=by
    intro x hxx;rcases List.mem_append.1 hxx with h | h
    .exact hx x h
    .simp at h;omega
   replace hA'':=Hide.mk hA'';replace hv':=Hide.mk hv';replace hx':=Hide.mk hx';clear hchd hbv hx Yn Zk X4 hA2
   (refine Zm ?_;repeat'(first|(refine Zi fun _=>?_;try simp(disch:=first|exact Zq|fail)[*,Zs])|refine Ye ?_|refine Zx ?_|refine Zn ?_ ?_))
   have hc0':=hc0.get;refine⟨c0,by omega,?_⟩;by_cases h99:9<=e
   .exact .inl ⟨by omega,by omega,_,hA''.get,hx'.get,by simp;omega,hv'.get,by simp⟩
   .exact .inr ⟨_,⟨by omega,by omega,by omega⟩,by omega,rfl,_,hA''.get,hx'.get,by simp;omega,hv'.get,by simp⟩
theorem Zce {d:Nat}(h0:0 < d)(h:d < 1000000000):Ym d=[d]:=by
 rw[Um h0];have:d / 1000000000=0:=by omega
 rw[this,Wj];congr 1;omega
theorem Zqv {n:Nat}(h:1000000000<=n):2<=(Ym n).length:=by
 rw[Um (by omega),Um (by omega:0 < n / 1000000000)];simp
theorem Zaf9 (n d:Nat)(h0:0 < d)(hd:d < 1000000000)(hl:(Ym n).length < 2^30):∃c:Int,(c < 0↔n < d)/\Xn vE 226 [U false (Ym n),U false [d]] (.int .i64 c):=by
 rcases Nat.eq_zero_or_pos n with rfl | hp
 .refine ⟨-1,by simp;omega,?_⟩;rw[Wj];intro K H;refine Wc Tryz.func226 ?_
  (refine Zm ?_;repeat'(first|(refine Zi fun _=>?_;try simp(disch:=first|exact Zq|fail)[*,Zs,Tryz.f226])|refine Ye ?_|refine Zx ?_|refine Zn ?_ ?_))
 .rcases Nat.lt_or_ge n 1000000000 with hn | hn
  .refine ⟨(n:Int) - d,by omega,?_⟩;rw[Zce hp hn];intro K H;refine Wc Tryz.func226 ?_
   (refine Zm ?_;repeat'(first|(refine Zi fun _=>?_;try simp(disch:=first|exact Zq|fail)[*,Zs,Tryz.f226])|refine Ye ?_|refine Zx ?_|refine Zn ?_ ?_))
   refine Zh [0,1] (fun m sl h=>m=1/\sl 5=some (.int .i64 0)\/m=0/\n=d/\sl 5=some (.int .i64 (-1))) 1 rfl (Or.inl ⟨rfl,by simp⟩) ?_;rintro m sl h hf (⟨rfl,h5⟩ | ⟨rfl,rfl,h5⟩)
   .simp at hf
    (refine Zm ?_;repeat'(first|(refine Zi fun _=>?_;try simp(disch:=first|exact Zq|fail)[*,Zs])|refine Ye ?_|refine Zx ?_|refine Zn ?_ ?_))
    omega
   .simp at hf
    (refine Zm ?_;repeat'(first|(refine Zi fun _=>?_;try simp(disch:=first|exact Zq|fail)[*,Zs])|refine Ye ?_|refine Zx ?_|refine Zn ?_ ?_))
  .refine ⟨((Ym n).length:Int) - 1,by have:=Zqv hn;omega,?_⟩;have h2:=Zqv hn;generalize Ym n=xs at *;intro K H;refine Wc Tryz.func226 ?_
   (refine Zm ?_;repeat'(first|(refine Zi fun _=>?_;try simp(disch:=first|exact Zq|fail)[*,Zs,Tryz.f226])|refine Ye ?_|refine Zx ?_|refine Zn ?_ ?_))
theorem Zp8 {xs:List Nat}{i:Nat}(h:i < xs.length):Vz (xs.drop i)=xs[i]+1000000000*Vz (xs.drop (i+1)):=by
 rw[List.drop_eq_getElem_cons h,Vz]
theorem Zaal (r x Q d B:Nat)(hd:0 < d):(r*B+x) / d*d+B*Q*d+(r*B+x) % d=x+B*(Q*d+r):=by
 have h1:=Nat.div_add_mod (r*B+x) d;have h2:(r*B+x) / d*d=d*((r*B+x) / d):=Nat.mul_comm _ _;have h3:B*(Q*d+r)=B*Q*d+r*B:=by rw[Nat.mul_add,Nat.mul_assoc,Nat.mul_comm B r]
 omega
set_option maxHeartbeats 4000000 in
theorem Zaf8 (n d:Nat)(h0:0 < d)(hd:d < 1000000000)(hn:0 < n)(hl:(Ym n).length < 2^29):Xn vE 227 [U false (Ym n),.int .u32 d] (.tuple [U false (Ym (n / d)),U false (Ym (n % d))]):=by
 have hxs:=Z7y n;have hv:=Z3x n;have Yn:(Ym n).length≠0:=by rw[Um hn];simp
 have hl':(Ym n).length<=Virt.maxLenV:=by rw[Rz];omega
 generalize Ym n=xs at *;have hl2:((xs.length:Int)).toNat=xs.length:=by omega
 intro K H;refine Wc Tryz.func227 ?_
 (refine Zm ?_;repeat'(first|(refine Zi fun _=>?_;try simp(disch:=first|exact Zq|fail)[*,Zs,Tryz.f227])|refine Ye ?_|refine Zx ?_|refine Zn ?_ ?_))
 generalize hv12:H.stamp (H.next+12)=v12;refine Zh [0,1,6] (fun m sl h=>∃(i:Nat) (q:List Nat) (r:Nat),m=i/\i<=xs.length/\sl 8=some (.int .i64 ((i:Int) - 1))/\sl 7=some (.int .u64 r)/\h.get (H.next+12)=some (v12,.row 216 true (q.map fun x:Nat=>PV.int .u32 (x:Int)))/\q.length=xs.length/\r < d/\Vz (q.drop i)*d+r=Vz (xs.drop i)/\∀x∈q,x < 1000000000) xs.length rfl ⟨xs.length,List.replicate xs.length 0,0,rfl,Nat.le_refl _,by simp,by simp,by simp[*],by simp,h0,by simp[Vz],by simp⟩ ?_;rintro m sl h hf ⟨i,q,r,hm,hi,h8,h7,h12,hql,hr,hq,hqB⟩;simp at hf;by_cases hlt:0 < i
 .obtain ⟨j,rfl⟩:∃j,i=j+1:=⟨i - 1,by omega⟩
  have hx:=hxs xs[j] (List.getElem_mem (by omega:j < xs.length));have hqj:j < q.length:=by omega
  have hvs:Vz (xs.drop j)=xs[j]+1000000000*Vz (xs.drop (j+1)):=Zp8 (by omega);generalize hxj:xs[j]=x at *;have Zcj:=Zaal r x (Vz (q.drop (j+1))) d 1000000000 h0;rw[hq,<- hvs]at Zcj
  have hvd:(r*1000000000+x) / d < 1000000000:=by
   rw[Nat.div_lt_iff_lt_mul h0];have:r*1000000000+1000000000<=d*1000000000:=by omega
   omega
  have hvm:(r*1000000000+x) % d < d:=Nat.mod_lt _ h0;generalize hV:r*1000000000+x=V at *;have hVi:(r:Int)*1000000000+x=V:=by omega
  have hVb:V < 1000000000*1000000000+1000000000:=by omega
  have htd:Int.tdiv (V:Int) (d:Int)=((V / d:Nat):Int):=by
   rw[Int.tdiv_eq_ediv_of_nonneg (by omega)];rfl
  have htm:Int.tmod (V:Int) (d:Int)=((V % d:Nat):Int):=by
   rw[Int.tmod_eq_emod_of_nonneg (by omega)];rfl
  have Zaw:∀x∈q.set j (V / d),x < 1000000000:=fun y hy=>by
   rcases List.mem_or_eq_of_mem_set hy with h | rfl
   .exact hqB y h
   .exact hvd
  have hdr:Vz ((q.set j (V / d)).drop j)=V / d+1000000000*Vz (q.drop (j+1)):=by
   rw[Zp8 (by simpa using hqj),List.drop_set_of_lt (by omega)];simp
  have Xg:Vz ((q.set j (V / d)).drop j)*d+V % d=Vz (xs.drop j):=by
   rw[hdr,Nat.add_mul];omega
  have hd0:d≠0:=by omega
  have hW:(V:Int) / (d:Int)=((V / d:Nat):Int):=rfl;have hM:(V:Int) % (d:Int)=((V % d:Nat):Int):=rfl;generalize V / d=W at *;generalize V % d=M at *;replace Zaw:=Hide.mk Zaw;replace Xg:=Hide.mk Xg;clear Zcj hdr hqB hq hxs hvs;have e1:((j:Int)+1 - 1)=j:=by omega
  (refine Zm ?_;repeat'(first|(refine Zi fun _=>?_;try simp(disch:=first|exact Zq|fail)[*,Zs])|refine Ye ?_|refine Zx ?_|refine Zn ?_ ?_))
  exact⟨j,by omega,by omega,rfl,q.set j W,M,rfl,by rw[List.map_set],by simp[hql],hvm,Xg.get,Zaw.get⟩
 .have hi0:i=0:=by omega
  subst hi0;simp only[List.drop_zero]at hq;rw[hv]at hq
  have hqn:Vz q=n / d:=by
   rw[<- hq,Nat.mul_comm,Nat.mul_add_div h0,Nat.div_eq_of_lt hr];simp
  have hrn:r=n % d:=by
   rw[<- hq,Nat.mul_comm,Nat.mul_add_mod,Nat.mod_eq_of_lt hr]
  have hqne:q≠[]:=fun e=>by rw[e]at hql;exact Yn hql.symm
  have Z4s:=Zo1 q true hqB (by omega);have Un:(true&&q.isEmpty)=false:=by simpa using hqne
  rw[Un,hqn]at Z4s;have Z94:=Zo1 [r] false (by simp;omega) (by simp);have hvr:Vz [r]=r:=by simp[Vz]
  rw[hvr]at Z94;simp only[U,List.isEmpty_cons,Bool.and_false,List.map_cons,List.map_nil,Xs,Bool.and_self]at Z94;rw[hrn]at Z94 h7;have hA:Acc [12] ⟨H.next,H.next,[]⟩ h 216 (.own (H.next+12) v12 216 0 xs.length) (q.map fun x:Nat=>PV.int .u32 (x:Int)):=Or.inr ⟨12,v12,by simpa using hqne,by simp,by simp[hql],h12⟩;obtain⟨h',hc,Uf,hg⟩:=hA.callF (C:=vE) (f:=218) rfl rfl [] [] Z4s (fun _=>by simp) rfl rfl;simp only[List.nil_append]at hc;have hmd:n % d < d:=Nat.mod_lt _ h0;have hM:(n:Int) % (d:Int)=((n % d:Nat):Int):=rfl;generalize n % d=M at *;generalize n / d=W at *;clear hq hxs hA hqB hv hn hrn hqn hg
  (refine Zm ?_;repeat'(first|(refine Zi fun _=>?_;try simp(disch:=first|exact Zq|fail)[*,Zs])|refine Ye ?_|refine Zx ?_|refine Zn ?_ ?_))
theorem Zvv (a m n:Nat):(a+m).blt (a+n)=m.blt n:=by
 rw[Bool.eq_iff_iff,Nat.blt_eq,Nat.blt_eq];omega
theorem Zagb (n d:Nat)(h0:0 < d)(hd:d < 1000000000)(hl:(Ym n).length < 2^29):Xn vE 219 [U false (Ym n),U false [d]] (.tuple [U (decide (n < d)) (Ym (n / d)),U false (Ym (n % d))]):=by
 obtain⟨c,hc,h226⟩:=Zaf9 n d h0 hd (by omega);by_cases hlt:n < d
 .have hc':=hc.2 hlt;rw[Nat.div_eq_of_lt hlt,Nat.mod_eq_of_lt hlt,Wj,decide_eq_true hlt];generalize Ym n=xs at *;simp only[U,List.map_nil,List.map_cons,Wh,Xs,Zab]at *;intro K H;refine Wc Tryz.func219 ?_
  (refine Zm ?_;repeat'(first|(refine Zi fun _=>?_;try simp(disch:=first|exact Zq|fail)[*,Zs,Tryz.f219])|refine Ye ?_|refine Zx ?_|refine Zn ?_ ?_))
 .have hc':¬ c < 0:=fun h=>hlt (hc.1 h)
  have h227:=Zaf8 n d h0 hd (by omega) hl;rw[decide_eq_false hlt];generalize Ym n=xs at *;generalize Ym (n / d)=qs at *;generalize Ym (n % d)=rs at *;simp only[U,List.map_nil,List.map_cons,Wh,Xs,Zab]at *;clear hc;intro K H;refine Wc Tryz.func219 ?_
  (refine Zm ?_;repeat'(first|(refine Zi fun _=>?_;try simp(disch:=first|exact Zq|fail)[*,Zs,Tryz.f219])|refine Ye ?_|refine Zx ?_|refine Zn ?_ ?_))
theorem Zpk (n:Nat):(Ym n).length<=(Ze n).length:=by
 induction n using Nat.strongRecOn with
 | _ n ih=>
   rcases Nat.eq_zero_or_pos n with rfl | hn
   .rw [Wj];simp
   .rw [Um hn];rcases Nat.lt_or_ge n 1000000000 with h | h
    .have:n / 1000000000=0:=by omega
     rw[this,Wj];have:=List.length_pos_iff.2 (Zbm n);simp;omega
    .have h1:=ih (n / 1000000000) (by omega);have h2:(Ze (n / 1000000000)).length<=(Ze (n / 10)).length:=Wr (by omega)
     have h3:(Ze n).length=(Ze (n / 10)).length+1:=by
      conv=>lhs;rw[Ze]
      rw[if_neg (by omega)];simp
     simp;omega
theorem Zagh (n d:Nat)(hd:d < 1000000000)(hl:(Ym n).length < 2^28):Xn vE 212 [U false (Ym n),U false (Ym d)] (U false (Ym (Nat.gcd n d))):=by
 intro K H;refine Wc Tryz.func212 ?_
 (refine Zm ?_;repeat'(first|(refine Zi fun _=>?_;try simp(disch:=first|exact Zq|fail)[*,Zs,Tryz.f212])|refine Ye ?_|refine Zx ?_|refine Zn ?_ ?_))
 refine Zh [] (fun m sl h=>∃x y:Nat,m=y/\y < 1000000000/\(Ym x).length < 2^29/\sl 0=some (U false (Ym x))/\sl 1=some (U false (Ym y))/\Nat.gcd x y=Nat.gcd n d) d rfl ⟨n,d,rfl,hd,by omega,by simp,by simp,rfl⟩ ?_;rintro m sl h hf ⟨x,y,hm,hy,hx,h0,h1,hg⟩;simp at hf;by_cases hy0:y=0
 .subst hy0;rw[Nat.gcd_zero_right]at hg;rw[Wj]at h1;rw[hg]at h0;generalize Ym (Nat.gcd n d)=r at *;simp only[U,List.map_nil,List.map_cons,Wh,Xs,Zab]at *
  (refine Zm ?_;repeat'(first|(refine Zi fun _=>?_;try simp(disch:=first|exact Zq|fail)[*,Zs])|refine Ye ?_|refine Zx ?_|refine Zn ?_ ?_))
 .have h219:=Zagb x y (by omega) hy hx;have hlt:x % y < y:=Nat.mod_lt _ (by omega);have hly:(Ym y).length < 2^29:=by rw[Zce (by omega) hy];simp
  have hgn:Nat.gcd y (x % y)=Nat.gcd n d:=by rw[Nat.gcd_comm y,<- Nat.gcd_rec,Nat.gcd_comm,hg]
  rw[Zce (by omega) hy]at h1;have e1:PV.lst 216 [.int .u32 y]=U false (Ym y):=by rw[Zce (by omega) hy];rfl
  generalize hrs:Ym (x % y)=rs at *;generalize Ym (x / y)=qs at *;generalize Ym x=xs at *;replace hrs:=Hide.mk hrs;replace e1:=Hide.mk e1;simp only[U,List.map_nil,List.map_cons,Wh,Xs,Zab]at h219 h0 h1;clear hg
  (refine Zm ?_;repeat'(first|(refine Zi fun _=>?_;try simp(disch:=first|exact Zq|fail)[*,Zs])|refine Ye ?_|refine Zx ?_|refine Zn ?_ ?_))
  exact⟨x % y,hlt,by omega,y,by omega,e1.get,by rw[hrs.get];rfl,hgn⟩
theorem Zagg:Xn vE 213 [.lst 216 [.int .u32 1]] (.bool true):=by
 intro K H;refine Wc Tryz.func213 ?_
 (refine Zm ?_;repeat'(first|(refine Zi fun _=>?_;try simp(disch:=first|exact Zq|fail)[*,Zs,Tryz.f213])|refine Ye ?_|refine Zx ?_|refine Zn ?_ ?_))
set_option maxHeartbeats 4000000 in
theorem Zagk {r:Rt}(h:r.Ok)(hl:r.text.length < 2^20)(hd:r.den < 1000000000):∃(ng:Bool) (xs ys:List PV),Xn vE 205 [.str r.text] (.tuple [.agg [.bool ng,.lst 216 xs,.lst 216 ys],.bool true]):=by
 obtain⟨e1,e2⟩:=Se r;have hl1:=(V1 r).1;have hl2:=(V1 r).2;have Zn5:=Ztp r.text (by omega);rw[e1,e2]at Zn5;have h199:=Ze6 r.num (by omega);have h211:=Z2n r.num (by omega);have hs:r.neg=true->Ze r.num≠[48]:=fun hn=>Za1 (h.sign hn)
 by_cases hd1:r.den=1
 .refine ⟨r.neg,(Ym r.num).map fun x:Nat=>PV.int .u32 (x:Int),[.int .u32 1],?_⟩;rw[if_pos hd1,List.append_nil]at Zn5;have Z95:=Zo2 (Ze r.num) (Zaf _) (by omega);generalize Ym r.num=xs at *;generalize r.text=s at *;generalize Ze r.num=q at *;generalize r.neg=ng at *;simp only[U,List.map_nil,List.map_cons,Wh,Xs,Zab]at *;clear h hd1 e1 e2 hl2;cases ng with
  |false=>
   clear hs;by_cases hq0:q=[48]
   .subst hq0;intro K H;refine Wc Tryz.func205 ?_
    (refine Zm ?_;repeat'(first|(refine Zi fun _=>?_;try simp(disch:=first|exact Zq|fail)[*,Zs,Tryz.f205])|refine Ye ?_|refine Zx ?_|refine Zn ?_ ?_))
   .have hq0':(q==[48])=false:=by simpa using hq0
    intro K H;refine Wc Tryz.func205 ?_
    (refine Zm ?_;repeat'(first|(refine Zi fun _=>?_;try simp(disch:=first|exact Zq|fail)[*,Zs,Tryz.f205])|refine Ye ?_|refine Zx ?_|refine Zn ?_ ?_))
  |true=>
   have hs':(q==[48])=false:=by simpa using hs rfl
   clear hs;intro K H;refine Wc Tryz.func205 ?_
   (refine Zm ?_;repeat'(first|(refine Zi fun _=>?_;try simp(disch:=first|exact Zq|fail)[*,Zs,Tryz.f205])|refine Ye ?_|refine Zx ?_|refine Zn ?_ ?_))
 .refine ⟨r.neg,(Ym r.num).map fun x:Nat=>PV.int .u32 (x:Int),(Ym r.den).map fun x:Nat=>PV.int .u32 (x:Int),?_⟩;rw[if_neg hd1]at Zn5 e1;have Z95:=Zto (Ze r.num) (Ze r.den) (Zaf _) (by simp;omega);have Z96:=Ze6 r.den (by omega);have Za33:=Z2n r.den (by omega);have hnl:(Ym r.num).length < 2^28:=Nat.lt_of_le_of_lt (Zpk _) (by omega);have h212:=Zagh r.num r.den hd hnl;rw[h.low]at h212;have hl1:Ym 1=[1]:=Zce (by omega) (by omega);rw[hl1]at h212;have h213:=Zagg
  have Zwh:Ze r.num≠[48]:=by
   refine Za1 fun e=>?_
   have:=h.low;rw[e,Nat.gcd_zero_left]at this;exact hd1 this
  have Zalk:(Ze r.num==[48])=false:=by simpa using Zwh
  have Za3f:(Ze r.den==[48])=false:=by simpa using Za1 (n:=r.den) (by have:=h.den;omega)
  have Za3e:(Ze r.den==[49])=false:=by
   rw[beq_eq_false_iff_ne];intro e;have h1:=Xq r.den;rw[e]at h1;exact hd1 (by rw[<- h1];rfl)
  generalize hqq:Ze r.num++47::Ze r.den=qq at *;generalize Ym r.num=xs at *;generalize Ym r.den=ys at *;generalize r.text=s at *;generalize Ze r.num=q at *;generalize Ze r.den=q2 at *;generalize r.neg=ng at *;simp only[U,List.map_nil,List.map_cons,Wh,Xs,Zab]at *;clear h hd1 e1 e2 hs Zwh;cases ng with
  |false=>
   intro K H;refine Wc Tryz.func205 ?_
   (refine Zm ?_;repeat'(first|(refine Zi fun _=>?_;try simp(disch:=first|exact Zw|fail)[*,Zu,Tryz.f205])|refine Zx ?_|refine Zn ?_ ?_))
   refine Yj false false [] [58] [H.next+9] [63,64] true (by decide +kernel) ?_
   (refine Zm ?_;repeat'(first|(refine Zi fun _=>?_;try simp(disch:=first|exact Zw|fail)[*,Zu,reach,refsO,Zvv])|refine Zx ?_|refine Zn ?_ ?_))
   exact absurd ‹Nat.blt 9 65=false› (by decide)
  |true=>
   intro K H;refine Wc Tryz.func205 ?_
   (refine Zm ?_;repeat'(first|(refine Zi fun _=>?_;try simp(disch:=first|exact Zw|fail)[*,Zu,Tryz.f205])|refine Zx ?_|refine Zn ?_ ?_))
   refine Yj false false [] [58] [H.next+9] [63,64] true (by decide +kernel) ?_
   (refine Zm ?_;repeat'(first|(refine Zi fun _=>?_;try simp(disch:=first|exact Zw|fail)[*,Zu,reach,refsO,Zvv])|refine Zx ?_|refine Zn ?_ ?_))
   exact absurd ‹Nat.blt 9 65=false› (by decide)
theorem Z2p {r:Rt}(h:r.Ok)(hl:r.text.length < 2^20)(hd:r.den < 1000000000):Xn vE 197 [.str r.text] (.bool true):=by
 obtain⟨n,d,b,h204⟩:=Zagl h hl;obtain⟨ng,xs,ys,h205⟩:=Zagk h hl hd;generalize r.text=s at *;cases b with
 |true=>
  intro K H;refine Wc Tryz.func197 ?_
  (refine Zm ?_;repeat'(first|(refine Zi fun _=>?_;try simp(disch:=first|exact Zq|fail)[*,Zs,Tryz.f197])|refine Ye ?_|refine Zx ?_|refine Zn ?_ ?_))
 |false=>
  intro K H;refine Wc Tryz.func197 ?_
  (refine Zm ?_;repeat'(first|(refine Zi fun _=>?_;try simp(disch:=first|exact Zq|fail)[*,Zs,Tryz.f197])|refine Ye ?_|refine Zx ?_|refine Zn ?_ ?_))
theorem Zago {r:Rt}(h:r.Ok)(hl:r.text.length < 2^20)(hd:r.den=1)(hn:r.neg=false)(hn0:r.num≠0):Xn vE 184 [.str r.text] (.int .i64 1):=by
 have h197:=Z2p h hl (by omega);have e1:=Za1 hn0;have e:r.text=Ze r.num:=by unfold Rt.text;rw[hn,hd];simp
 rw[e]at h197 ⊢
 obtain⟨c,q,e2,e3,e4⟩:∃c q,Ze r.num=c::q/\49<=c/\c<=57:=by
  rcases Zkj r.num with h | h
  .exact absurd h hn0
  .exact h
 rw[e2]at h197 ⊢;have e5:((c::q)==[48])=false:=by simp;omega
 clear e hn hn0 hd h e1;intro K H;refine Wc Tryz.func184 ?_
 (refine Zm ?_;repeat'(first|(refine Zi fun _=>?_;try simp(disch:=first|exact Zq|fail)[*,Zs,Tryz.f184])|refine Ye ?_|refine Zx ?_|refine Zn ?_ ?_))
end Go.Proofs.YtabcdhcpilpojaaGreatDoor
end
