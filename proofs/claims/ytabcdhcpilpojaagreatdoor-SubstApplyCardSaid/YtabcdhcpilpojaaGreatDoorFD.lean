/- The program's numbers: cutting texts. -/
import Derived.Test.YtabcdhcpilpojaaGreatDoorFA
import Derived.Test.YtabcdhcpilpojaaGreatDoorPD
set_option linter.unusedSimpArgs false
set_option linter.unusedVariables false
section
set_option maxRecDepth 20000
namespace Go.Proofs.YtabcdhcpilpojaaGreatDoor
open Go Go.Pure
open Go.Virt (Ex Ctx Ty TK)
theorem Z6h {p:Yt}(hp:∀c∈p,c < 256/\c≠47):Lib.indexByte (p.map Nat.toUInt8) 47 = -1:=by
 induction p with
 |nil=>rfl
 |cons c p ih=>
  have h1:=hp c (by simp)
  have Yq:(Nat.toUInt8 c==47)=false:=by
   rw[beq_eq_false_iff_ne];intro e;have:=congrArg UInt8.toNat e;simp at this;omega
  simp[Lib.indexByte,Yq,ih fun c hc=>hp c (by simp[hc])]
theorem Z6g {p q:Yt}(hp:∀c∈p,c < 256/\c≠47):Lib.indexByte ((p++47::q).map Nat.toUInt8) 47=p.length:=by
 induction p with
 |nil=>simp[Lib.indexByte]
 |cons c p ih=>
  have h1:=hp c (by simp)
  have Yq:(Nat.toUInt8 c==47)=false:=by
   rw[beq_eq_false_iff_ne];intro e;have:=congrArg UInt8.toNat e;simp at this;omega
  have h2:=ih fun c hc=>hp c (by simp[hc])
  have hge:((p.length:Int)== -1)=false:=by
   rw[beq_eq_false_iff_ne];omega
  rw[List.cons_append,List.map_cons,Lib.indexByte,Yq,h2];simp[hge]
theorem Zade (s:Yt):Xw vE 230 [.str s,.int .u8 47] (.int .i64 (Lib.indexByte (s.map Nat.toUInt8) 47)):=by
 intro K H;rw[Uj];rfl
theorem Z0u (s:Yt)(hl:s.length < 2^30):Xw vE 220 [.str s,.str [47]] (.int .i64 (Lib.indexByte (s.map Nat.toUInt8) 47)):=by
 have h:=Zade s;intro K H;refine Zd (fn:=Tryz.f220) rfl Tryz.func220 rfl rfl (by simp) (by simp) ?_ (by simp[*])
 (refine Zm ?_;repeat'(first|(refine Zi fun _=>?_;try simp(disch:=first|exact Zq|fail)[*,Zz,Tryz.f220])|refine Yb ?_|refine Yc ?_|refine Yd ?_|refine Zt ?_|refine Zf ?_|refine Zb ?_ ?_))
 rename_i e;subst e;rfl
theorem Zadl (p q:Yt)(hp:∀c∈p,c < 256/\c≠47)(hl:(p++47::q).length < 2^30):Xw vE 215 [.str (p++47::q),.str [47]] (.tuple [.str p,.str q,.bool true]):=by
 have h:=Z0u (p++47::q) hl;rw[Z6g hp]at h;generalize hs:p++47::q=s at *;have e1:s.take p.length=p:=by rw[<- hs];simp
 have e2:s.drop (p.length+1)=q:=by rw[<- hs];simp
 have hpl:p.length < s.length:=by rw[<- hs];simp
 have e3:List.take (s.length - (p.length+1)) q=q:=List.take_of_length_le (by rw[<- hs];simp;omega);have e1':(p.length:Int).toNat=p.length:=by omega
 have e2':((p.length:Int)+1).toNat=p.length+1:=by omega
 intro K H;refine Zd (fn:=Tryz.f215) rfl Tryz.func215 rfl rfl (by simp) (by simp) ?_ (by simp[*])
 (refine Zm ?_;repeat'(first|(refine Zi fun _=>?_;try simp(disch:=first|exact Zq|fail)[*,Zz,Tryz.f215])|refine Yb ?_|refine Yc ?_|refine Yd ?_|refine Zt ?_|refine Zf ?_|refine Zb ?_ ?_))
theorem Z9g (s:Yt)(hp:∀c∈s,c < 256/\c≠47)(hl:s.length < 2^30):Xw vE 215 [.str s,.str [47]] (.tuple [.str s,.str [],.bool false]):=by
 have h:=Z0u s hl;rw[Z6h hp]at h;intro K H;refine Zd (fn:=Tryz.f215) rfl Tryz.func215 rfl rfl (by simp) (by simp) ?_ (by simp[*])
 (refine Zm ?_;repeat'(first|(refine Zi fun _=>?_;try simp(disch:=first|exact Zq|fail)[*,Zz,Tryz.f215])|refine Yb ?_|refine Yc ?_|refine Yd ?_|refine Zt ?_|refine Zf ?_|refine Zb ?_ ?_))
theorem Zsc (p q:Yt)(hp:∀c∈p,c < 256/\c≠47)(hl:(p++47::q).length < 2^30):Xw vE 208 [.str (p++47::q),.str [47]] (.tuple [.str p,.str q,.bool true]):=by
 have h:=Zadl p q hp hl;generalize p++47::q=s at *;intro K H;refine Zd (fn:=Tryz.f208) rfl Tryz.func208 rfl rfl (by simp) (by simp) ?_ (by simp[*])
 (refine Zm ?_;repeat'(first|(refine Zi fun _=>?_;try simp(disch:=first|exact Zq|fail)[*,Zz,Tryz.f208])|refine Yb ?_|refine Yc ?_|refine Yd ?_|refine Zt ?_|refine Zf ?_|refine Zb ?_ ?_))
theorem Znz (s:Yt)(hp:∀c∈s,c < 256/\c≠47)(hl:s.length < 2^30):Xw vE 208 [.str s,.str [47]] (.tuple [.str s,.str [],.bool false]):=by
 have h:=Z9g s hp hl;intro K H;refine Zd (fn:=Tryz.f208) rfl Tryz.func208 rfl rfl (by simp) (by simp) ?_ (by simp[*])
 (refine Zm ?_;repeat'(first|(refine Zi fun _=>?_;try simp(disch:=first|exact Zq|fail)[*,Zz,Tryz.f208])|refine Yb ?_|refine Yc ?_|refine Yd ?_|refine Zt ?_|refine Zf ?_|refine Zb ?_ ?_))
theorem Zadm (s:Yt)(hl:s.length < 2^30):Xw vE 214 [.str s,.str [45]] (.bool (Zal s)):=by
 unfold Zal;cases s with
 |nil=>
  intro K H;refine Zd (fn:=Tryz.f214) rfl Tryz.func214 rfl rfl (by simp) (by simp) ?_ (by simp[*])
  (refine Zm ?_;repeat'(first|(refine Zi fun _=>?_;try simp(disch:=first|exact Zq|fail)[*,Zz,Tryz.f214])|refine Yb ?_|refine Yc ?_|refine Yd ?_|refine Zt ?_|refine Zf ?_|refine Zb ?_ ?_))
 |cons c s=>
  intro K H;refine Zd (fn:=Tryz.f214) rfl Tryz.func214 rfl rfl (by simp) (by simp) ?_ (by simp[*])
  (refine Zm ?_;repeat'(first|(refine Zi fun _=>?_;try simp(disch:=first|exact Zq|fail)[*,Zz,Tryz.f214])|refine Yb ?_|refine Yc ?_|refine Yd ?_|refine Zt ?_|refine Zf ?_|refine Zb ?_ ?_))
  rw[Bool.eq_iff_iff];simp
theorem Zadq (s:Yt)(hl:s.length < 2^30):Xw vE 206 [.str s,.str [45]] (.tuple [.str (Tn s),.bool (Zal s)]):=by
 have h:=Zadm s hl;unfold Tn;unfold Zal at *;by_cases h1:s.head?=some 45
 .cases s with
  |nil=>simp at h1
  |cons c s=>
   simp only[h1,decide_true,if_true,List.tail_cons]at *;intro K H;refine Zd (fn:=Tryz.f206) rfl Tryz.func206 rfl rfl (by simp) (by simp) ?_ (by simp[*])
   (refine Zm ?_;repeat'(first|(refine Zi fun _=>?_;try simp(disch:=first|exact Zq|fail)[*,Zz,Tryz.f206])|refine Yb ?_|refine Yc ?_|refine Yd ?_|refine Zt ?_|refine Zf ?_|refine Zb ?_ ?_))
 .simp only [h1,decide_false,if_false]at *;intro K H;refine Zd (fn:=Tryz.f206) rfl Tryz.func206 rfl rfl (by simp) (by simp) ?_ (by simp[*])
  (refine Zm ?_;repeat'(first|(refine Zi fun _=>?_;try simp(disch:=first|exact Zq|fail)[*,Zz,Tryz.f206])|refine Yb ?_|refine Yc ?_|refine Yd ?_|refine Zt ?_|refine Zf ?_|refine Zb ?_ ?_))
theorem Zsd (s:Yt)(hl:s.length < 2^30):Xw vE 198 [.str s,.str [45]] (.tuple [.str (Tn s),.bool (Zal s)]):=by
 have h:=Zadq s hl;intro K H;refine Zd (fn:=Tryz.f198) rfl Tryz.func198 rfl rfl (by simp) (by simp) ?_ (by simp[*])
 (refine Zm ?_;repeat'(first|(refine Zi fun _=>?_;try simp(disch:=first|exact Zq|fail)[*,Zz,Tryz.f198])|refine Yb ?_|refine Yc ?_|refine Yd ?_|refine Zt ?_|refine Zf ?_|refine Zb ?_ ?_))
theorem Zadt (s:Yt)(hd:∀c∈s,48<=c/\c<=57)(hl:s.length < 2^30)(h0:s=[48]\/(s≠[]/\s.head?≠some 48)):Xw vE 199 [.str s] (.bool true):=by
 have hl':s.length<=Virt.maxLenV:=by rw[Rm];omega
 intro K H;refine Zd (fn:=Tryz.f199) rfl Tryz.func199 rfl rfl (by simp) (by simp) ?_ (by simp[*])
 (refine Zm ?_;repeat'(first|(refine Zi fun _=>?_;try simp(disch:=first|exact Zq|fail)[*,Zz,Tryz.f199])|refine Yb ?_|refine Yc ?_|refine Yd ?_|refine Zt ?_|refine Zf ?_|refine Zb ?_ ?_))
 generalize hv6:H.stamp (H.next+6)=v6;refine Zn [0,6,7] (fun n sl h=>∃i:Nat,n=s.length - i/\i<=s.length/\sl 8=some (.int .i64 i)/\h.get (H.next+6)=some (v6,.row 5 true (s.map fun b:Nat=>PV.int IntKind.u8 (b:Int)))) s.length rfl ⟨0,by simp,by simp,by simp,by simp[*]⟩ ?_;rintro n sl h hf ⟨i,hn,hi,h8,h6⟩;simp at hf;by_cases hlt:i < s.length
 .have hc:=hd s[i] (List.getElem_mem hlt);generalize hsi:s[i]=c at *;clear hd h0
  (refine Zm ?_;repeat'(first|(refine Zi fun _=>?_;try simp(disch:=first|exact Zq|fail)[*,Zz])|refine Yb ?_|refine Yc ?_|refine Yd ?_|refine Zt ?_|refine Zf ?_|refine Zb ?_ ?_))
  exact⟨_,by omega,i+1,rfl,by omega,by omega⟩
 .have hi':i=s.length:=by omega
  subst hi';rcases h0 with rfl | ⟨h1,h2⟩
  .clear hd
   (refine Zm ?_;repeat'(first|(refine Zi fun _=>?_;try simp(disch:=first|exact Zq|fail)[*,Zz])|refine Yb ?_|refine Yc ?_|refine Yd ?_|refine Zt ?_|refine Zf ?_|refine Zb ?_ ?_))
  .cases s with
   |nil=>exact absurd rfl h1
   |cons c s=>
    have hc:c≠48:=by simpa using h2
    have hc1:(c==48)=false:=by simpa using hc
    have hc2:((c:Int)==48)=false:=by simp;omega
    clear hd h1 h2
    (refine Zm ?_;repeat'(first|(refine Zi fun _=>?_;try simp(disch:=first|exact Zq|fail)[*,Zz])|refine Yb ?_|refine Yc ?_|refine Yd ?_|refine Zt ?_|refine Zf ?_|refine Zb ?_ ?_))
theorem Zck (n:Nat):(∀c∈Zg n,48<=c/\c<=57)/\(Zg n=[48]\/(Zg n≠[]/\(Zg n).head?≠some 48)):=by
 refine⟨fun c hc=>?_,?_⟩
 .have:=List.all_eq_true.1 (Wt n) c hc;simpa[digB]using this
 .rcases Zjo n with rfl | ⟨c,r,e,h1,h2⟩
  .exact .inl V3
  .right;rw[e];simp;omega
theorem Zes (n:Nat)(hl:(Zg n).length < 2^30):Xw vE 199 [.str (Zg n)] (.bool true):=Zadt _ (Zck n).1 hl (Zck n).2
theorem Ztd {s:Yt}(hd:∀c∈s,48<=c/\c<=57):∀i,i<=s.length->Yr (s.take i) < 10^i:=by
 intro i
 induction i with
 |zero=>intro _;simp[Yr,Zkn]
 |succ i ih=>
  intro hi;rw[List.take_add_one,List.getElem?_eq_getElem (by omega:i < s.length),Option.toList,Ta];have h1:=ih (by omega);have h2:=hd s[i] (List.getElem_mem _);rw[Nat.pow_succ];omega
set_option maxHeartbeats 4000000 in
theorem Zadh (s:Yt)(hd:∀c∈s,48<=c/\c<=57)(Yq:s≠[])(hl:s.length<=18):Xw vE 221 [.str s,.int .i64 10,.int .i64 64] (.tuple [.int .u64 (Yr s),.nili]):=by
 have hl':s.length<=Virt.maxLenV:=by rw[Rm];omega
 have hb:∀i,i<=s.length->Yr (s.take i) < 10^18:=fun i hi=>Nat.lt_of_lt_of_le (Ztd hd i hi) (Nat.pow_le_pow_right (by omega) (by omega))
 have Si:0 < s.length:=List.length_pos_iff.2 Yq;intro K H;refine Zd (fn:=Tryz.f221) rfl Tryz.func221 rfl rfl (by simp) (by simp) ?_ (by simp[*])
 (refine Zm ?_;repeat'(first|(refine Zi fun _=>?_;try simp(disch:=first|exact Zq|fail)[*,Zz,Tryz.f221])|refine Yb ?_|refine Yc ?_|refine Yd ?_|refine Zt ?_|refine Zf ?_|refine Zb ?_ ?_))
 .rename_i e;exact absurd (List.isEmpty_iff.1 e) Yq
 generalize hv6:H.stamp (H.next+99)=v6;refine Zn [1,8,9,10,11,99,100] (fun n sl h=>∃i:Nat,n=s.length - i/\i<=s.length/\sl 101=some (.int .i64 i)/\sl 12=some (.bool false)/\sl 13=some (.int .u64 (Yr (s.take i)))/\h.get (H.next+99)=some (v6,.row 5 true (s.map fun b:Nat=>PV.int IntKind.u8 (b:Int)))) s.length rfl ⟨0,by simp,by simp,by simp,by simp,by simp[Yr,Zkn],by simp[*]⟩ ?_;rintro n sl h hf ⟨i,hn,hi,h101,h12,h13,h6⟩;simp at hf;by_cases hlt:i < s.length
 .have hc:=hd s[i] (List.getElem_mem hlt);have hbi:=hb i hi;have hbi2:=hb (i+1) hlt
  have X3:Yr (s.take (i+1))=Yr (s.take i)*10+(s[i] - 48):=by
   rw[List.take_add_one,List.getElem?_eq_getElem hlt,Option.toList,Ta]
  generalize hsi:s[i]=c at *;generalize hA:Yr (s.take i)=A at *;generalize hB:Yr (s.take (i+1))=B at *;have hB':(A:Int)*10+((c:Int) - 48)=B:=by omega
  clear hd hb;have hmx:IntKind.u64.wrap (IntKind.u64.wrap (2^min 64 IntKind.u64.bits) - 1)=18446744073709551615:=by decide +kernel
  (refine Zm ?_;repeat'(first|(refine Zi fun _=>?_;try simp(disch:=first|exact Zq|fail)[*,Zz])|refine Yb ?_|refine Yc ?_|refine Yd ?_|refine Zt ?_|refine Zf ?_|refine Zb ?_ ?_))
  exact⟨_,by omega,i+1,rfl,by omega,by omega,by rw[hB];omega⟩
 .have hi':i=s.length:=by omega
  subst hi';rw[List.take_length]at h13;clear hd hb
  (refine Zm ?_;repeat'(first|(refine Zi fun _=>?_;try simp(disch:=first|exact Zq|fail)[*,Zz])|refine Yb ?_|refine Yc ?_|refine Yd ?_|refine Zt ?_|refine Zf ?_|refine Zb ?_ ?_))
set_option maxHeartbeats 2000000 in
theorem Zadk (s:Yt)(hd:∀c∈s,48<=c/\c<=57)(Yq:s≠[])(hl:s.length<=18):Xw vE 216 [.str s,.int .i64 10,.int .i64 64] (.tuple [.int .i64 (Yr s),.nili]):=by
 have h:=Zadh s hd Yq hl;have hb:Yr s < 10^18:=Nat.lt_of_lt_of_le (Zg1 (Yv.2 hd)) (Nat.pow_le_pow_right (by omega) hl);generalize Yr s=A at *;cases s with
 |nil=>exact absurd rfl Yq
 |cons c s=>
  have hc:=hd c (by simp);have hmx:IntKind.u64.wrap (2^min 63 IntKind.u64.bits)=9223372036854775808:=by decide +kernel
  clear hd Yq;intro K H;refine Zd (fn:=Tryz.f216) rfl Tryz.func216 rfl rfl (by simp) (by simp) ?_ (by simp[*])
  (refine Zm ?_;repeat'(first|(refine Zi fun _=>?_;try simp(disch:=first|exact Zq|fail)[*,Zz,Tryz.f216])|refine Yb ?_|refine Yc ?_|refine Yd ?_|refine Zt ?_|refine Zf ?_|refine Zb ?_ ?_))
theorem Z0w (s:Yt)(hd:∀c∈s,48<=c/\c<=57)(Yq:s≠[])(hl:s.length<=18):Xw vE 209 [.str s,.int .i64 10,.int .i64 64] (.tuple [.int .i64 (Yr s),.nili]):=by
 have h:=Zadk s hd Yq hl;intro K H;refine Zd (fn:=Tryz.f209) rfl Tryz.func209 rfl rfl (by simp) (by simp) ?_ (by simp[*])
 (refine Zm ?_;repeat'(first|(refine Zi fun _=>?_;try simp(disch:=first|exact Zq|fail)[*,Zz,Tryz.f209])|refine Yb ?_|refine Yc ?_|refine Yd ?_|refine Zt ?_|refine Zf ?_|refine Zb ?_ ?_))
theorem Zat {n:Nat}(h:n≠0):Zg n≠[48]:=by
 rcases Zjo n with e | ⟨c,r,e,h1,h2⟩
 .exact absurd e h
 .rw [e];simp;omega
theorem Q5 (n:Nat):∀c∈Zg n,c < 256/\c≠47:=fun c hc=>by
 have:=(Zck n).1 c hc;omega
theorem Zadw {r:Rt}(h:r.Ok)(hd:r.den=1)(hl:r.text.length < 2^29):Xw vE 183 [.str r.text] (.bool true):=by
 obtain⟨e1,e2⟩:=T6 r;rw[if_pos hd,List.append_nil]at e1;have Zm6:=Zsd r.text (by omega);have h199:=Zes r.num (by have:=(Vx r).1;omega);rw[e1,e2]at Zm6;have hs:r.neg=true->Zg r.num≠[48]:=fun hn=>Zat (h.sign hn)
 generalize r.text=s at *;generalize Zg r.num=q at *;generalize r.neg=ng at *;clear h hd e1 e2;cases ng with
 |false=>
  intro K H;refine Zd (fn:=Tryz.f183) rfl Tryz.func183 rfl rfl (by simp) (by simp) ?_ (by simp[*])
  (refine Zm ?_;repeat'(first|(refine Zi fun _=>?_;try simp(disch:=first|exact Zq|fail)[*,Zz,Tryz.f183])|refine Yb ?_|refine Yc ?_|refine Yd ?_|refine Zt ?_|refine Zf ?_|refine Zb ?_ ?_))
 |true=>
  have hs':=hs rfl;have hs2:(q==[48])=false:=by simpa using hs'
  clear hs;intro K H;refine Zd (fn:=Tryz.f183) rfl Tryz.func183 rfl rfl (by simp) (by simp) ?_ (by simp[*])
  (refine Zm ?_;repeat'(first|(refine Zi fun _=>?_;try simp(disch:=first|exact Zq|fail)[*,Zz,Tryz.f183])|refine Yb ?_|refine Yc ?_|refine Yd ?_|refine Zt ?_|refine Zf ?_|refine Zb ?_ ?_))
theorem Zadp (a b:Nat)(ha:a < 2^62)(hb:b < 2^62):Xw vE 210 [.int .i64 a,.int .i64 b] (.int .i64 (Nat.gcd a b)):=by
 intro K H;refine Zd (fn:=Tryz.f210) rfl Tryz.func210 rfl rfl (by simp) (by simp) ?_ (by simp[*])
 (refine Zm ?_;repeat'(first|(refine Zi fun _=>?_;try simp(disch:=first|exact Zq|fail)[*,Zz,Tryz.f210])|refine Yb ?_|refine Yc ?_|refine Yd ?_|refine Zt ?_|refine Zf ?_|refine Zb ?_ ?_))
 refine Zn [] (fun n sl h=>∃x y:Nat,n=y/\x < 2^62/\y < 2^62/\sl 0=some (.int .i64 x)/\sl 1=some (.int .i64 y)/\Nat.gcd x y=Nat.gcd a b) b rfl ⟨a,b,rfl,ha,hb,by simp,by simp,rfl⟩ ?_;rintro n sl h hf ⟨x,y,hn,hx,hy,h0,h1,hg⟩;simp at hf;by_cases h0':y=0
 .subst h0';rw[Nat.gcd_zero_right]at hg
  (refine Zm ?_;repeat'(first|(refine Zi fun _=>?_;try simp(disch:=first|exact Zq|fail)[*,Zz])|refine Yb ?_|refine Yc ?_|refine Yd ?_|refine Zt ?_|refine Zf ?_|refine Zb ?_ ?_))
 .have hm:Int.tmod (x:Int) (y:Int)=((x % y:Nat):Int):=by
   rw[Int.tmod_eq_emod_of_nonneg (by omega)];rfl
  have hlt:x % y < y:=Nat.mod_lt _ (by omega)
  (refine Zm ?_;repeat'(first|(refine Zi fun _=>?_;try simp(disch:=first|exact Zq|fail)[*,Zz])|refine Yb ?_|refine Yc ?_|refine Yd ?_|refine Zt ?_|refine Zf ?_|refine Zb ?_ ?_))
  exact⟨x % y,hlt,y,by omega,by omega,rfl,by simp,by rw[Nat.gcd_comm y,<- Nat.gcd_rec,Nat.gcd_comm,hg]⟩
set_option maxHeartbeats 4000000 in
theorem Zads {r:Rt}(h:r.Ok)(hl:r.text.length < 2^20):∃(n d:Int) (b:Bool),Xw vE 204 [.str r.text] (.tuple [.agg [.int .i64 n,.int .i64 d],.bool b]):=by
 obtain⟨e1,e2⟩:=T6 r;have hl1:=(Vx r).1;have hl2:=(Vx r).2;have Zm6:=Zsd r.text (by omega);rw[e1,e2]at Zm6;have h199:=Zes r.num (by omega);have Z75:=Zes r.den (by omega);have hs:r.neg=true->Zg r.num≠[48]:=fun hn=>Zat (h.sign hn)
 by_cases h9:9 < (Zg r.num).length
 .refine ⟨0,0,false,?_⟩;by_cases hd:r.den=1
  .rw [if_pos hd,List.append_nil]at Zm6;have Z74:=Znz (Zg r.num) (Q5 _) (by omega);generalize r.text=s at *;generalize Zg r.num=q at *;generalize r.neg=ng at *;clear h hd e1 e2 hs Z75 hl2;intro K H;refine Zd (fn:=Tryz.f204) rfl Tryz.func204 rfl rfl (by simp) (by simp) ?_ (by simp[*])
   (refine Zm ?_;repeat'(first|(refine Zi fun _=>?_;try simp(disch:=first|exact Zq|fail)[*,Zz,Tryz.f204])|refine Yb ?_|refine Yc ?_|refine Yd ?_|refine Zt ?_|refine Zf ?_|refine Zb ?_ ?_))
  .rw [if_neg hd]at Zm6 e1;have Z74:=Zsc (Zg r.num) (Zg r.den) (Q5 _) (by simp;omega);generalize hqq:Zg r.num++47::Zg r.den=qq at *;generalize r.text=s at *;generalize Zg r.num=q at *;generalize Zg r.den=q2 at *;generalize r.neg=ng at *;clear h hd e1 e2 hs;intro K H;refine Zd (fn:=Tryz.f204) rfl Tryz.func204 rfl rfl (by simp) (by simp) ?_ (by simp[*])
   (refine Zm ?_;repeat'(first|(refine Zi fun _=>?_;try simp(disch:=first|exact Zq|fail)[*,Zz,Tryz.f204])|refine Yb ?_|refine Yc ?_|refine Yd ?_|refine Zt ?_|refine Zf ?_|refine Zb ?_ ?_))
 .have hq1:=Zck r.num;have hn1:Yr (Zg r.num)=r.num:=Xt _;have h209:=Z0w (Zg r.num) hq1.1 (Zbi _) (by omega);rw[hn1]at h209;have Se:r.num < 10^9:=Nat.lt_of_lt_of_le (Wf _) (Nat.pow_le_pow_right (by omega) (by omega));by_cases hd:r.den=1
  .refine ⟨if r.neg then -r.num else r.num,1,true,?_⟩;rw[if_pos hd,List.append_nil]at Zm6;have Z74:=Znz (Zg r.num) (Q5 _) (by omega);generalize r.text=s at *;generalize Zg r.num=q at *;generalize r.num=N at *;generalize r.neg=ng at *;clear h hd e1 e2 Z75 hl2 hq1 hn1;cases ng with
   |false=>
    clear hs;by_cases hq0:q=[48]
    .subst hq0;intro K H;refine Zd (fn:=Tryz.f204) rfl Tryz.func204 rfl rfl (by simp) (by simp) ?_ (by simp[*])
     (refine Zm ?_;repeat'(first|(refine Zi fun _=>?_;try simp(disch:=first|exact Zq|fail)[*,Zz,Tryz.f204])|refine Yb ?_|refine Yc ?_|refine Yd ?_|refine Zt ?_|refine Zf ?_|refine Zb ?_ ?_))
    .have hq0':(q==[48])=false:=by simpa using hq0
     intro K H;refine Zd (fn:=Tryz.f204) rfl Tryz.func204 rfl rfl (by simp) (by simp) ?_ (by simp[*])
     (refine Zm ?_;repeat'(first|(refine Zi fun _=>?_;try simp(disch:=first|exact Zq|fail)[*,Zz,Tryz.f204])|refine Yb ?_|refine Yc ?_|refine Yd ?_|refine Zt ?_|refine Zf ?_|refine Zb ?_ ?_))
   |true=>
    have hs':(q==[48])=false:=by simpa using hs rfl
    clear hs;intro K H;refine Zd (fn:=Tryz.f204) rfl Tryz.func204 rfl rfl (by simp) (by simp) ?_ (by simp[*])
    (refine Zm ?_;repeat'(first|(refine Zi fun _=>?_;try simp(disch:=first|exact Zq|fail)[*,Zz,Tryz.f204])|refine Yb ?_|refine Yc ?_|refine Yd ?_|refine Zt ?_|refine Zf ?_|refine Zb ?_ ?_))
  .rw [if_neg hd]at Zm6 e1;have Z74:=Zsc (Zg r.num) (Zg r.den) (Q5 _) (by simp;omega);by_cases h9d:9 < (Zg r.den).length
   .refine ⟨0,0,false,?_⟩;generalize hqq:Zg r.num++47::Zg r.den=qq at *;generalize r.text=s at *;generalize Zg r.num=q at *;generalize Zg r.den=q2 at *;generalize r.neg=ng at *;clear h hd e1 e2 hs h209;intro K H;refine Zd (fn:=Tryz.f204) rfl Tryz.func204 rfl rfl (by simp) (by simp) ?_ (by simp[*])
    (refine Zm ?_;repeat'(first|(refine Zi fun _=>?_;try simp(disch:=first|exact Zq|fail)[*,Zz,Tryz.f204])|refine Yb ?_|refine Yc ?_|refine Yd ?_|refine Zt ?_|refine Zf ?_|refine Zb ?_ ?_))
   .have hq2:=Zck r.den;have hn2:Yr (Zg r.den)=r.den:=Xt _;have Zaqp:=Z0w (Zg r.den) hq2.1 (Zbi _) (by omega);rw[hn2]at Zaqp;have Qg:r.den < 10^9:=Nat.lt_of_lt_of_le (Wf _) (Nat.pow_le_pow_right (by omega) (by omega));have h210:=Zadp r.num r.den (by omega) (by omega);rw[h.low]at h210;have hdp:=h.den
    have Zuz:Zg r.num≠[48]:=by
     refine Zat fun e=>?_
     have:=h.low;rw[e,Nat.gcd_zero_left]at this;exact hd this
    have Zaic:(Zg r.num==[48])=false:=by simpa using Zuz
    refine⟨if r.neg then -r.num else r.num,r.den,true,?_⟩;generalize hqq:Zg r.num++47::Zg r.den=qq at *;generalize r.text=s at *;generalize Zg r.num=q at *;generalize Zg r.den=q2 at *;generalize r.neg=ng at *;generalize r.num=N at *;generalize r.den=D at *;clear h e1 e2 hs hq1 hq2 hn1 hn2 Zuz;cases ng with
    |false=>
     intro K H;refine Zd (fn:=Tryz.f204) rfl Tryz.func204 rfl rfl (by simp) (by simp) ?_ (by simp[*])
     (refine Zm ?_;repeat'(first|(refine Zi fun _=>?_;try simp(disch:=first|exact Zq|fail)[*,Zz,Tryz.f204])|refine Yb ?_|refine Yc ?_|refine Yd ?_|refine Zt ?_|refine Zf ?_|refine Zb ?_ ?_))
    |true=>
     intro K H;refine Zd (fn:=Tryz.f204) rfl Tryz.func204 rfl rfl (by simp) (by simp) ?_ (by simp[*])
     (refine Zm ?_;repeat'(first|(refine Zi fun _=>?_;try simp(disch:=first|exact Zq|fail)[*,Zz,Tryz.f204])|refine Yb ?_|refine Yc ?_|refine Yd ?_|refine Zt ?_|refine Zf ?_|refine Zb ?_ ?_))
def Yo (n:Nat):List Nat:=if h:n=0 then [] else n % 1000000000::Yo (n / 1000000000)
 decreasing_by omega
def Vw:List Nat->Nat
 | []=>0
 |x::r=>x+1000000000*Vw r
theorem Wj:Yo 0=[]:=by rw[Yo];simp
theorem Uk {n:Nat}(h:0 < n):Yo n=n % 1000000000::Yo (n / 1000000000):=by rw[Yo,dif_neg (by omega)]
theorem Z13:∀n,Vw (Yo n)=n:=by
 intro n
 induction n using Nat.strongRecOn with
 | _ n ih=>
   rcases Nat.eq_zero_or_pos n with rfl | h
   .rw [Wj];rfl
   .rw [Uk h,Vw,ih _ (by omega)];omega
theorem Z50:∀n,∀x∈Yo n,x < 1000000000:=by
 intro n
 induction n using Nat.strongRecOn with
 | _ n ih=>
   rcases Nat.eq_zero_or_pos n with rfl | h
   .rw [Wj];simp
   .rw [Uk h];intro x hx;rcases List.mem_cons.1 hx with rfl | hx
    .omega
    .exact ih _ (by omega) x hx
theorem Zxq:∀n,∀h:Yo n≠[],(Yo n).getLast h≠0:=by
 intro n
 induction n using Nat.strongRecOn with
 | _ n ih=>
   intro h;rcases Nat.eq_zero_or_pos n with rfl | hp
   .exact absurd Wj h
   .revert h
    rw[Uk hp];intro h;rcases Nat.eq_zero_or_pos (n / 1000000000) with h0 | h0
    .have:Yo (n / 1000000000)=[]:=by rw[h0,Wj]
     simp only[this,List.getLast_singleton];omega
    .have Yq:Yo (n / 1000000000)≠[]:=by rw[Uk h0];simp
     rw[List.getLast_cons Yq];exact ih _ (by omega) Yq
theorem Zpr:∀xs:List Nat,(∀x∈xs,x < 1000000000)->∃k,xs=Yo (Vw xs)++List.replicate k 0
 | [],_=>⟨0,by simp[Vw,Wj]⟩
 |x::r,h=>by
  obtain⟨k,hk⟩:=Zpr r fun y hy=>h y (by simp[hy])
  have hx:=h x (by simp);rw[Vw];rcases Nat.eq_zero_or_pos (x+1000000000*Vw r) with h0 | h0
  .have h1:x=0:=by omega
   have h2:Vw r=0:=by omega
   rw[h2,Wj,List.nil_append]at hk;rw[h0,Wj,h1];exact⟨k+1,by rw[List.nil_append,List.replicate_succ,<- hk]⟩
  .rw [Uk h0];have h1:(x+1000000000*Vw r) % 1000000000=x:=by omega
   have h2:(x+1000000000*Vw r) / 1000000000=Vw r:=by omega
   rw[h1,h2];exact⟨k,by rw[List.cons_append,<- hk]⟩
theorem Ztc (a b:List Nat):Vw (a++b)=Vw a+1000000000^a.length*Vw b:=by
 induction a with
 |nil=>simp[Vw]
 |cons x a ih=>
  rw[List.cons_append,Vw,Vw,ih,List.length_cons,Nat.pow_succ,Nat.mul_add];rw[<- Nat.mul_assoc,Nat.mul_comm 1000000000 (1000000000^a.length)];omega
abbrev U (b:Bool)(xs:List Nat):PV:=L 216 b (xs.map fun x:Nat=>PV.int .u32 (x:Int))
theorem Zadj (N k:Nat)(b:Bool)(hl:(Yo N).length+k < 2^30):Xw vE 218 [U b (Yo N++List.replicate k 0)] (U (b&&(Yo N++List.replicate k 0).isEmpty) (Yo N)):=by
 have Zz3:=Zxq N;have htk:(Yo N++List.replicate k 0).take (Yo N).length=Yo N:=by simp
 have hz:∀j (h:j < (Yo N++List.replicate k 0).length),(Yo N).length<=j->(Yo N++List.replicate k 0)[j]=0:=fun j h h2=>by
  rw[List.getElem_append_right h2];simp
 have hnz:∀h:0 < (Yo N).length,∀h2:(Yo N).length - 1 < (Yo N++List.replicate k 0).length,(Yo N++List.replicate k 0)[(Yo N).length - 1]≠0:=fun h h2=>by
  rw[List.getElem_append_left (by omega),<- List.getLast_eq_getElem (List.length_pos_iff.1 h)];exact Zz3 _
 have hlen:(Yo N++List.replicate k 0).length=(Yo N).length+k:=by simp
 generalize Yo N++List.replicate k 0=xs at *;generalize hM:Yo N=ys at *;intro K H;refine Zd (fn:=Tryz.f218) rfl Tryz.func218 rfl rfl (by simp) (by simp) ?_ (by simp[*])
 (refine Zm ?_;repeat'(first|(refine Zi fun _=>?_;try simp(disch:=first|exact Zq|fail)[*,Zz,Tryz.f218])|refine Yb ?_|refine Yc ?_|refine Yd ?_|refine Zt ?_|refine Zf ?_|refine Zb ?_ ?_))
 refine Zn [0] (fun n sl h=>∃j:Nat,n=j/\ys.length<=j/\j<=xs.length/\sl 3=some (.int .i64 j)) xs.length rfl ⟨xs.length,rfl,by omega,by omega,by simp;omega⟩ ?_;rintro n sl h hf ⟨j,hn,hj1,hj2,h3⟩;simp at hf;by_cases hlt:ys.length < j
 .have h0:=hz (j - 1) (by omega) (by omega);have e1:((j:Int) - 1).toNat=j - 1:=by omega
  clear hz hnz Zz3 htk
  (refine Zm ?_;repeat'(first|(refine Zi fun _=>?_;try simp(disch:=first|exact Zq|fail)[*,Zz])|refine Yb ?_|refine Yc ?_|refine Yd ?_|refine Zt ?_|refine Zf ?_|refine Zb ?_ ?_))
  exact⟨j - 1,by omega,by omega,by omega,by omega⟩
 .have hj:j=ys.length:=by omega
  subst hj;by_cases hy:ys.length=0
  .have hy':ys=[]:=List.length_eq_zero_iff.1 hy;subst hy';clear hz hnz Zz3
   (refine Zm ?_;repeat'(first|(refine Zi fun _=>?_;try simp(disch:=first|exact Zq|fail)[*,Zz])|refine Yb ?_|refine Yc ?_|refine Yd ?_|refine Zt ?_|refine Zf ?_|refine Zb ?_ ?_))
   rfl
  .have h0:=hnz (by omega) (by omega);have e1:((ys.length:Int) - 1).toNat=ys.length - 1:=by omega
   have htk':(xs.map fun x:Nat=>PV.int .u32 (x:Int)).take ys.length=ys.map fun x:Nat=>PV.int .u32 (x:Int):=by
    rw[<- List.map_take,htk]
   clear hz hnz Zz3
   (refine Zm ?_;repeat'(first|(refine Zi fun _=>?_;try simp(disch:=first|exact Zq|fail)[*,Zz])|refine Yb ?_|refine Yc ?_|refine Yd ?_|refine Zt ?_|refine Zf ?_|refine Zb ?_ ?_))
theorem Zny (xs:List Nat)(b:Bool)(hx:∀x∈xs,x < 1000000000)(hl:xs.length < 2^30):Xw vE 218 [U b xs] (U (b&&xs.isEmpty) (Yo (Vw xs))):=by
 obtain⟨k,hk⟩:=Zpr xs hx
 have hle:(Yo (Vw xs)).length+k=xs.length:=by
  have:=congrArg List.length hk;simp at this;omega
 have:=Zadj (Vw xs) k b (by omega)
 rwa [<- hk]at this
set_option maxHeartbeats 4000000 in
theorem Z0v (n:Nat)(hl:(Zg n).length < 2^20):Xw vE 211 [.str (Zg n)] (U false (Yo n)):=by
 have hd:=(Zck n).1;have hn:=Xt n;have Si:0 < (Zg n).length:=List.length_pos_iff.2 (Zbi n);generalize Zg n=s at *;intro K H;refine Zd (fn:=Tryz.f211) rfl Tryz.func211 rfl rfl (by simp) (by simp) ?_ (by simp[*])
 (refine Zm ?_;repeat'(first|(refine Zi fun _=>?_;try simp(disch:=first|exact Zq|fail)[*,Zz,Tryz.f211])|refine Yb ?_|refine Yc ?_|refine Yd ?_|refine Zt ?_|refine Zf ?_|refine Zb ?_ ?_))
 refine Zn [0] (fun m sl h=>∃(e:Nat) (q:Int) (xs:List Nat) (w:PV),m=e/\(q=e\/e=0 /\ -9<=q/\q<=0)/\e<=s.length/\sl 4=some (.int .i64 q)/\sl 3=some w/\Acc [36] ⟨H.next,H.next,[]⟩ h 216 w (xs.map fun x:Nat=>PV.int .u32 (x:Int))/\(∀x∈xs,x < 1000000000)/\xs.length<=s.length - e/\n=Vw xs+1000000000^xs.length*Yr (s.take e)/\(xs=[]->e=s.length)) s.length rfl ⟨s.length,s.length,[],.nils,rfl,Or.inl rfl,by omega,by simp,by simp,Acc.nil,by simp,by simp,by simp[Vw,hn],by simp⟩ ?_;rintro m sl h hf ⟨e,q,xs,w,hm,hq,he,h4,h3,hA,hx,hxl,hv,Yq⟩;simp at hf;by_cases h0:e=0
 .subst h0;have hq0:q<=0:=by omega
  rw[List.take_zero,show Yr []=0 from rfl,Nat.mul_zero,Nat.add_zero]at hv;have hxne:xs≠[]:=fun e=>by have:=Yq e;omega
  have Z2x:=Zny xs true hx (by omega);rw[<- hv]at Z2x;have Ul:(true&&xs.isEmpty)=false:=by simpa using hxne
  rw[Ul]at Z2x;obtain⟨h',hc,To,hg⟩:=hA.callF (C:=vE) (f:=218) rfl rfl [] [] Z2x (fun _=>by simp) rfl rfl;simp only[List.nil_append]at hc;clear hn Yq hx hxl hv hd
  (refine Zm ?_;repeat'(first|(refine Zi fun _=>?_;try simp(disch:=first|exact Zq|fail)[*,Zz])|refine Yb ?_|refine Yc ?_|refine Yd ?_|refine Zt ?_|refine Zf ?_|refine Zb ?_ ?_))
 .have hqe:q=e:=by omega
  subst hqe;obtain⟨c0,hc0⟩:∃c0,c0=e - 9:=⟨_,rfl⟩
  have hmx:max ((e:Int) - 9) 0=c0:=by omega
  have hcl:e<=Virt.maxLenV+c0:=by rw[Rm];omega
  have hce:c0 < e:=by omega
  have htk:s.take e=s.take c0++(s.drop c0).take (e - c0):=by
   rw[<- List.take_add];congr 1;omega
  have hchl:((s.drop c0).take (e - c0)).length=e - c0:=by simp;omega
  have hchd:∀c∈(s.drop c0).take (e - c0),48<=c/\c<=57:=fun c hc=>hd c (List.drop_subset _ _ (List.take_subset _ _ hc))
  have hmp:List.take (e - c0) (List.drop c0 (s.map fun b:Nat=>PV.int IntKind.u8 (b:Int)))=((s.drop c0).take (e - c0)).map fun b:Nat=>PV.int IntKind.u8 (b:Int):=by rw[List.map_take,List.map_drop]
  generalize hch:(s.drop c0).take (e - c0)=ch at *;have hbv:∀i,i<=ch.length->Yr (ch.take i) < 10^9:=fun i hi=>Nat.lt_of_lt_of_le (Ztd hchd i hi) (Nat.pow_le_pow_right (by omega) (by omega))
  rw[htk,Zjv]at hv;have h9:9<=e->ch.length=9:=fun h=>by omega
  have h9':e < 9->c0=0:=fun h=>by omega
  replace hc0:=Hide.mk hc0;replace hv:=Hide.mk hv;replace hch:=Hide.mk hch;replace htk:=Hide.mk htk;clear hd
  (refine Zm ?_;repeat'(first|(refine Zi fun _=>?_;try simp(disch:=first|exact Zq|fail)[*,Zz])|refine Yb ?_|refine Yc ?_|refine Yd ?_|refine Zt ?_|refine Zf ?_|refine Zb ?_ ?_))
  generalize hhh:h.put (H.next+20) (h.stamp (H.next+20)) (.row 5 true (ch.map fun b:Nat=>PV.int IntKind.u8 (b:Int)))=hh;generalize hv20:h.stamp (H.next+20)=v20 at *;have hg20:hh.get (H.next+20)=some (v20,.row 5 true (ch.map fun b:Nat=>PV.int IntKind.u8 (b:Int))):=by rw[<- hhh];simp
  have hA2:Acc [36] ⟨H.next,H.next,[]⟩ hh 216 w (xs.map fun x:Nat=>PV.int .u32 (x:Int)):=hA.frame fun d hd=>by simp at hd;subst hd;rw[<- hhh];simp
  clear hA hhh;refine Zn [0,3,4,20,21] (fun m sl h=>∃i:Nat,m=ch.length - i/\i<=ch.length/\sl 22=some (.int .i64 i)/\sl 5=some (.int .u32 (Yr (ch.take i)))/\h=hh) ch.length rfl ⟨0,by simp,by simp,by simp,by simp[Yr,Zkn],rfl⟩ ?_;rintro m2 sl2 h2 hf2 ⟨i,hm2,hi,h22,h5,rfl⟩;simp[hf]at hf2;by_cases hlt:i < ch.length
  .have hc:=hchd ch[i] (List.getElem_mem hlt);have hbi:=hbv i hi;have hbi2:=hbv (i+1) hlt
   have X3:Yr (ch.take (i+1))=Yr (ch.take i)*10+(ch[i] - 48):=by
    rw[List.take_add_one,List.getElem?_eq_getElem hlt,Option.toList,Ta]
   generalize hsi:ch[i]=c at *;generalize hAA:Yr (ch.take i)=A at *;generalize hB:Yr (ch.take (i+1))=B at *;clear hchd hbv hx hxl Yq hm he
   (refine Zm ?_;repeat'(first|(refine Zi fun _=>?_;try simp(disch:=first|exact Zq|fail)[*,Zz])|refine Yb ?_|refine Yc ?_|refine Yd ?_|refine Zt ?_|refine Zf ?_|refine Zb ?_ ?_))
   exact⟨_,by omega,i+1,rfl,by omega,by omega,by rw[hB];omega⟩
  .have hi':i=ch.length:=by omega
   subst hi';rw[List.take_length]at h5;have Qg:=hbv ch.length (Nat.le_refl _);rw[List.take_length]at Qg;obtain⟨w',h',Sf,Xv,Q0,Zl⟩:=hA2.app (dd:=36) (ys:=[PV.int .u32 (Yr ch)]) (T:={k:=.int .u32,size:=1,bytes:=4,zero:=[.int .u32 0]}) (by simp) rfl (by simp only[List.length_map,List.length_cons,List.length_nil];omega) (by decide) (by decide) (by simp);simp only[List.length_cons,List.length_nil]at Sf;have Ws:=hA2.same (n:=3);have Zcw:=Xv.same (n:=3)
   have hA'':Acc [36] ⟨H.next,H.next,[]⟩ h' 216 w' ((xs++[Yr ch]).map fun x:Nat=>PV.int .u32 (x:Int)):=by
    rw[List.map_append];exact Xv
   have hv':n=Vw (xs++[Yr ch])+1000000000^(xs++[Yr ch]).length*Yr (s.take c0):=by
    rw[hv.get,Ztc,List.length_append,List.length_cons,List.length_nil,Nat.pow_succ];by_cases h99:9<=e
    .rw [h9 h99];simp only[Vw];rw[Nat.mul_add,show (10:Nat)^9=1000000000 from rfl,Nat.mul_zero,Nat.add_zero,Nat.mul_assoc,Nat.mul_comm 1000000000 (Yr _)];omega
    .rw [h9' (by omega)];simp[Vw,show Yr []=0 from rfl]
   have hx':∀x∈xs++[Yr ch],x < 1000000000:=by
    intro x hxx;rcases List.mem_append.1 hxx with h | h
    .exact hx x h
    .simp at h;omega
   replace hA'':=Hide.mk hA'';replace hv':=Hide.mk hv';replace hx':=Hide.mk hx';clear hchd hbv hx Yq Zl Xv hA2
   (refine Zm ?_;repeat'(first|(refine Zi fun _=>?_;try simp(disch:=first|exact Zq|fail)[*,Zz])|refine Yb ?_|refine Yc ?_|refine Yd ?_|refine Zt ?_|refine Zf ?_|refine Zb ?_ ?_))
   have hc0':=hc0.get;refine⟨c0,by omega,?_⟩;by_cases h99:9<=e
   .exact .inl ⟨by omega,by omega,_,hA''.get,hx'.get,by simp;omega,hv'.get,by simp⟩
   .exact .inr ⟨_,⟨by omega,by omega,by omega⟩,by omega,rfl,_,hA''.get,hx'.get,by simp;omega,hv'.get,by simp⟩
theorem Zb5 {d:Nat}(h0:0 < d)(h:d < 1000000000):Yo d=[d]:=by
 rw[Uk h0];have:d / 1000000000=0:=by omega
 rw[this,Wj];congr 1;omega
theorem Zpq {n:Nat}(h:1000000000<=n):2<=(Yo n).length:=by
 rw[Uk (by omega),Uk (by omega:0 < n / 1000000000)];simp
theorem Zadg (n d:Nat)(h0:0 < d)(hd:d < 1000000000)(hl:(Yo n).length < 2^30):∃c:Int,(c < 0↔n < d)/\Xw vE 226 [U false (Yo n),U false [d]] (.int .i64 c):=by
 rcases Nat.eq_zero_or_pos n with rfl | hp
 .refine ⟨-1,by simp;omega,?_⟩;rw[Wj];intro K H;refine Zd (fn:=Tryz.f226) rfl Tryz.func226 rfl rfl (by simp) (by simp) ?_ (by simp[*])
  (refine Zm ?_;repeat'(first|(refine Zi fun _=>?_;try simp(disch:=first|exact Zq|fail)[*,Zz,Tryz.f226])|refine Yb ?_|refine Yc ?_|refine Yd ?_|refine Zt ?_|refine Zf ?_|refine Zb ?_ ?_))
 .rcases Nat.lt_or_ge n 1000000000 with hn | hn
  .refine ⟨(n:Int) - d,by omega,?_⟩;rw[Zb5 hp hn];intro K H;refine Zd (fn:=Tryz.f226) rfl Tryz.func226 rfl rfl (by simp) (by simp) ?_ (by simp[*])
   (refine Zm ?_;repeat'(first|(refine Zi fun _=>?_;try simp(disch:=first|exact Zq|fail)[*,Zz,Tryz.f226])|refine Yb ?_|refine Yc ?_|refine Yd ?_|refine Zt ?_|refine Zf ?_|refine Zb ?_ ?_))
   refine Zn [0,1] (fun m sl h=>m=1/\sl 5=some (.int .i64 0)\/m=0/\n=d/\sl 5=some (.int .i64 (-1))) 1 rfl (Or.inl ⟨rfl,by simp⟩) ?_;rintro m sl h hf (⟨rfl,h5⟩ | ⟨rfl,rfl,h5⟩)
   .simp at hf
    (refine Zm ?_;repeat'(first|(refine Zi fun _=>?_;try simp(disch:=first|exact Zq|fail)[*,Zz])|refine Yb ?_|refine Yc ?_|refine Yd ?_|refine Zt ?_|refine Zf ?_|refine Zb ?_ ?_))
    omega
   .simp at hf
    (refine Zm ?_;repeat'(first|(refine Zi fun _=>?_;try simp(disch:=first|exact Zq|fail)[*,Zz])|refine Yb ?_|refine Yc ?_|refine Yd ?_|refine Zt ?_|refine Zf ?_|refine Zb ?_ ?_))
  .refine ⟨((Yo n).length:Int) - 1,by have:=Zpq hn;omega,?_⟩;have h2:=Zpq hn;generalize Yo n=xs at *;intro K H;refine Zd (fn:=Tryz.f226) rfl Tryz.func226 rfl rfl (by simp) (by simp) ?_ (by simp[*])
   (refine Zm ?_;repeat'(first|(refine Zi fun _=>?_;try simp(disch:=first|exact Zq|fail)[*,Zz,Tryz.f226])|refine Yb ?_|refine Yc ?_|refine Yd ?_|refine Zt ?_|refine Zf ?_|refine Zb ?_ ?_))
theorem Zo7 {xs:List Nat}{i:Nat}(h:i < xs.length):Vw (xs.drop i)=xs[i]+1000000000*Vw (xs.drop (i+1)):=by
 rw[List.drop_eq_getElem_cons h,Vw]
theorem Z8k (r x Q d B:Nat)(hd:0 < d):(r*B+x) / d*d+B*Q*d+(r*B+x) % d=x+B*(Q*d+r):=by
 have h1:=Nat.div_add_mod (r*B+x) d;have h2:(r*B+x) / d*d=d*((r*B+x) / d):=Nat.mul_comm _ _;have h3:B*(Q*d+r)=B*Q*d+r*B:=by rw[Nat.mul_add,Nat.mul_assoc,Nat.mul_comm B r]
 omega
set_option maxHeartbeats 4000000 in
theorem Zadf (n d:Nat)(h0:0 < d)(hd:d < 1000000000)(hn:0 < n)(hl:(Yo n).length < 2^29):Xw vE 227 [U false (Yo n),.int .u32 d] (.tuple [U false (Yo (n / d)),U false (Yo (n % d))]):=by
 have hxs:=Z50 n;have hv:=Z13 n;have Yq:(Yo n).length≠0:=by rw[Uk hn];simp
 have hl':(Yo n).length<=Virt.maxLenV:=by rw[Rm];omega
 generalize Yo n=xs at *;have hl2:((xs.length:Int)).toNat=xs.length:=by omega
 intro K H;refine Zd (fn:=Tryz.f227) rfl Tryz.func227 rfl rfl (by simp) (by simp) ?_ (by simp[*])
 (refine Zm ?_;repeat'(first|(refine Zi fun _=>?_;try simp(disch:=first|exact Zq|fail)[*,Zz,Tryz.f227])|refine Yb ?_|refine Yc ?_|refine Yd ?_|refine Zt ?_|refine Zf ?_|refine Zb ?_ ?_))
 generalize hv12:H.stamp (H.next+12)=v12;refine Zn [0,1,6] (fun m sl h=>∃(i:Nat) (q:List Nat) (r:Nat),m=i/\i<=xs.length/\sl 8=some (.int .i64 ((i:Int) - 1))/\sl 7=some (.int .u64 r)/\h.get (H.next+12)=some (v12,.row 216 true (q.map fun x:Nat=>PV.int .u32 (x:Int)))/\q.length=xs.length/\r < d/\Vw (q.drop i)*d+r=Vw (xs.drop i)/\∀x∈q,x < 1000000000) xs.length rfl ⟨xs.length,List.replicate xs.length 0,0,rfl,Nat.le_refl _,by simp,by simp,by simp[*],by simp,h0,by simp[Vw],by simp⟩ ?_;rintro m sl h hf ⟨i,q,r,hm,hi,h8,h7,h12,hql,hr,hq,hqB⟩;simp at hf;by_cases hlt:0 < i
 .obtain ⟨j,rfl⟩:∃j,i=j+1:=⟨i - 1,by omega⟩
  have hx:=hxs xs[j] (List.getElem_mem (by omega:j < xs.length));have hqj:j < q.length:=by omega
  have hvs:Vw (xs.drop j)=xs[j]+1000000000*Vw (xs.drop (j+1)):=Zo7 (by omega);generalize hxj:xs[j]=x at *;have Zcb:=Z8k r x (Vw (q.drop (j+1))) d 1000000000 h0;rw[hq,<- hvs]at Zcb
  have hvd:(r*1000000000+x) / d < 1000000000:=by
   rw[Nat.div_lt_iff_lt_mul h0];have:r*1000000000+1000000000<=d*1000000000:=by omega
   omega
  have hvm:(r*1000000000+x) % d < d:=Nat.mod_lt _ h0;generalize hV:r*1000000000+x=V at *;have hVi:(r:Int)*1000000000+x=V:=by omega
  have hVb:V < 1000000000*1000000000+1000000000:=by omega
  have htd:Int.tdiv (V:Int) (d:Int)=((V / d:Nat):Int):=by
   rw[Int.tdiv_eq_ediv_of_nonneg (by omega)];rfl
  have htm:Int.tmod (V:Int) (d:Int)=((V % d:Nat):Int):=by
   rw[Int.tmod_eq_emod_of_nonneg (by omega)];rfl
  have Zam:∀x∈q.set j (V / d),x < 1000000000:=fun y hy=>by
   rcases List.mem_or_eq_of_mem_set hy with h | rfl
   .exact hqB y h
   .exact hvd
  have hdr:Vw ((q.set j (V / d)).drop j)=V / d+1000000000*Vw (q.drop (j+1)):=by
   rw[Zo7 (by simpa using hqj),List.drop_set_of_lt (by omega)];simp
  have Xn:Vw ((q.set j (V / d)).drop j)*d+V % d=Vw (xs.drop j):=by
   rw[hdr,Nat.add_mul];omega
  have hd0:d≠0:=by omega
  have hW:(V:Int) / (d:Int)=((V / d:Nat):Int):=rfl;have hM:(V:Int) % (d:Int)=((V % d:Nat):Int):=rfl;generalize V / d=W at *;generalize V % d=M at *;replace Zam:=Hide.mk Zam;replace Xn:=Hide.mk Xn;clear Zcb hdr hqB hq hxs hvs;have e1:((j:Int)+1 - 1)=j:=by omega
  (refine Zm ?_;repeat'(first|(refine Zi fun _=>?_;try simp(disch:=first|exact Zq|fail)[*,Zz])|refine Yb ?_|refine Yc ?_|refine Yd ?_|refine Zt ?_|refine Zf ?_|refine Zb ?_ ?_))
  exact⟨j,by omega,by omega,rfl,q.set j W,M,rfl,by rw[List.map_set],by simp[hql],hvm,Xn.get,Zam.get⟩
 .have hi0:i=0:=by omega
  subst hi0;simp only[List.drop_zero]at hq;rw[hv]at hq
  have hqn:Vw q=n / d:=by
   rw[<- hq,Nat.mul_comm,Nat.mul_add_div h0,Nat.div_eq_of_lt hr];simp
  have hrn:r=n % d:=by
   rw[<- hq,Nat.mul_comm,Nat.mul_add_mod,Nat.mod_eq_of_lt hr]
  have hqne:q≠[]:=fun e=>by rw[e]at hql;exact Yq hql.symm
  have Z2x:=Zny q true hqB (by omega);have Ul:(true&&q.isEmpty)=false:=by simpa using hqne
  rw[Ul,hqn]at Z2x;have Z73:=Zny [r] false (by simp;omega) (by simp);have hvr:Vw [r]=r:=by simp[Vw]
  rw[hvr]at Z73;simp only[U,List.isEmpty_cons,Bool.and_false,List.map_cons,List.map_nil,Xq,Bool.and_self]at Z73;rw[hrn]at Z73 h7;have hA:Acc [12] ⟨H.next,H.next,[]⟩ h 216 (.own (H.next+12) v12 216 0 xs.length) (q.map fun x:Nat=>PV.int .u32 (x:Int)):=Or.inr ⟨12,v12,by simpa using hqne,by simp,by simp[hql],h12⟩;obtain⟨h',hc,To,hg⟩:=hA.callF (C:=vE) (f:=218) rfl rfl [] [] Z2x (fun _=>by simp) rfl rfl;simp only[List.nil_append]at hc;have hmd:n % d < d:=Nat.mod_lt _ h0;have hM:(n:Int) % (d:Int)=((n % d:Nat):Int):=rfl;generalize n % d=M at *;generalize n / d=W at *;clear hq hxs hA hqB hv hn hrn hqn hg
  (refine Zm ?_;repeat'(first|(refine Zi fun _=>?_;try simp(disch:=first|exact Zq|fail)[*,Zz])|refine Yb ?_|refine Yc ?_|refine Yd ?_|refine Zt ?_|refine Zf ?_|refine Zb ?_ ?_))
theorem Zue (a m n:Nat):(a+m).blt (a+n)=m.blt n:=by
 rw[Bool.eq_iff_iff,Nat.blt_eq,Nat.blt_eq];omega
theorem Zadi (n d:Nat)(h0:0 < d)(hd:d < 1000000000)(hl:(Yo n).length < 2^29):Xw vE 219 [U false (Yo n),U false [d]] (.tuple [U (decide (n < d)) (Yo (n / d)),U false (Yo (n % d))]):=by
 obtain⟨c,hc,h226⟩:=Zadg n d h0 hd (by omega);by_cases hlt:n < d
 .have hc':=hc.2 hlt;rw[Nat.div_eq_of_lt hlt,Nat.mod_eq_of_lt hlt,Wj,decide_eq_true hlt];generalize Yo n=xs at *;simp only[U,List.map_nil,List.map_cons,Wi,Xq,Zbl]at *;intro K H;refine Zd (fn:=Tryz.f219) rfl Tryz.func219 rfl rfl (by simp) (by simp) ?_ (by simp[*])
  (refine Zm ?_;repeat'(first|(refine Zi fun _=>?_;try simp(disch:=first|exact Zq|fail)[*,Zz,Tryz.f219])|refine Yb ?_|refine Yc ?_|refine Yd ?_|refine Zt ?_|refine Zf ?_|refine Zb ?_ ?_))
 .have hc':¬ c < 0:=fun h=>hlt (hc.1 h)
  have h227:=Zadf n d h0 hd (by omega) hl;rw[decide_eq_false hlt];generalize Yo n=xs at *;generalize Yo (n / d)=qs at *;generalize Yo (n % d)=rs at *;simp only[U,List.map_nil,List.map_cons,Wi,Xq,Zbl]at *;clear hc;intro K H;refine Zd (fn:=Tryz.f219) rfl Tryz.func219 rfl rfl (by simp) (by simp) ?_ (by simp[*])
  (refine Zm ?_;repeat'(first|(refine Zi fun _=>?_;try simp(disch:=first|exact Zq|fail)[*,Zz,Tryz.f219])|refine Yb ?_|refine Yc ?_|refine Yd ?_|refine Zt ?_|refine Zf ?_|refine Zb ?_ ?_))
theorem Zoj (n:Nat):(Yo n).length<=(Zg n).length:=by
 induction n using Nat.strongRecOn with
 | _ n ih=>
   rcases Nat.eq_zero_or_pos n with rfl | hn
   .rw [Wj];simp
   .rw [Uk hn];rcases Nat.lt_or_ge n 1000000000 with h | h
    .have:n / 1000000000=0:=by omega
     rw[this,Wj];have:=List.length_pos_iff.2 (Zbi n);simp;omega
    .have h1:=ih (n / 1000000000) (by omega);have h2:(Zg (n / 1000000000)).length<=(Zg (n / 10)).length:=Wo (by omega)
     have h3:(Zg n).length=(Zg (n / 10)).length+1:=by
      conv=>lhs;rw[Zg]
      rw[if_neg (by omega)];simp
     simp;omega
theorem Zado (n d:Nat)(hd:d < 1000000000)(hl:(Yo n).length < 2^28):Xw vE 212 [U false (Yo n),U false (Yo d)] (U false (Yo (Nat.gcd n d))):=by
 intro K H;refine Zd (fn:=Tryz.f212) rfl Tryz.func212 rfl rfl (by simp) (by simp) ?_ (by simp[*])
 (refine Zm ?_;repeat'(first|(refine Zi fun _=>?_;try simp(disch:=first|exact Zq|fail)[*,Zz,Tryz.f212])|refine Yb ?_|refine Yc ?_|refine Yd ?_|refine Zt ?_|refine Zf ?_|refine Zb ?_ ?_))
 refine Zn [] (fun m sl h=>∃x y:Nat,m=y/\y < 1000000000/\(Yo x).length < 2^29/\sl 0=some (U false (Yo x))/\sl 1=some (U false (Yo y))/\Nat.gcd x y=Nat.gcd n d) d rfl ⟨n,d,rfl,hd,by omega,by simp,by simp,rfl⟩ ?_;rintro m sl h hf ⟨x,y,hm,hy,hx,h0,h1,hg⟩;simp at hf;by_cases hy0:y=0
 .subst hy0;rw[Nat.gcd_zero_right]at hg;rw[Wj]at h1;rw[hg]at h0;generalize Yo (Nat.gcd n d)=r at *;simp only[U,List.map_nil,List.map_cons,Wi,Xq,Zbl]at *
  (refine Zm ?_;repeat'(first|(refine Zi fun _=>?_;try simp(disch:=first|exact Zq|fail)[*,Zz])|refine Yb ?_|refine Yc ?_|refine Yd ?_|refine Zt ?_|refine Zf ?_|refine Zb ?_ ?_))
 .have h219:=Zadi x y (by omega) hy hx;have hlt:x % y < y:=Nat.mod_lt _ (by omega);have hly:(Yo y).length < 2^29:=by rw[Zb5 (by omega) hy];simp
  have hgn:Nat.gcd y (x % y)=Nat.gcd n d:=by rw[Nat.gcd_comm y,<- Nat.gcd_rec,Nat.gcd_comm,hg]
  rw[Zb5 (by omega) hy]at h1;have e1:PV.lst 216 [.int .u32 y]=U false (Yo y):=by rw[Zb5 (by omega) hy];rfl
  generalize hrs:Yo (x % y)=rs at *;generalize Yo (x / y)=qs at *;generalize Yo x=xs at *;replace hrs:=Hide.mk hrs;replace e1:=Hide.mk e1;simp only[U,List.map_nil,List.map_cons,Wi,Xq,Zbl]at h219 h0 h1;clear hg
  (refine Zm ?_;repeat'(first|(refine Zi fun _=>?_;try simp(disch:=first|exact Zq|fail)[*,Zz])|refine Yb ?_|refine Yc ?_|refine Yd ?_|refine Zt ?_|refine Zf ?_|refine Zb ?_ ?_))
  exact⟨x % y,hlt,by omega,y,by omega,e1.get,by rw[hrs.get];rfl,hgn⟩
theorem Zadn:Xw vE 213 [.lst 216 [.int .u32 1]] (.bool true):=by
 intro K H;refine Zd (fn:=Tryz.f213) rfl Tryz.func213 rfl rfl (by simp) (by simp) ?_ (by simp[*])
 (refine Zm ?_;repeat'(first|(refine Zi fun _=>?_;try simp(disch:=first|exact Zq|fail)[*,Zz,Tryz.f213])|refine Yb ?_|refine Yc ?_|refine Yd ?_|refine Zt ?_|refine Zf ?_|refine Zb ?_ ?_))
set_option maxHeartbeats 4000000 in
theorem Zadr {r:Rt}(h:r.Ok)(hl:r.text.length < 2^20)(hd:r.den < 1000000000):∃(ng:Bool) (xs ys:List PV),Xw vE 205 [.str r.text] (.tuple [.agg [.bool ng,.lst 216 xs,.lst 216 ys],.bool true]):=by
 obtain⟨e1,e2⟩:=T6 r;have hl1:=(Vx r).1;have hl2:=(Vx r).2;have Zm6:=Zsd r.text (by omega);rw[e1,e2]at Zm6;have h199:=Zes r.num (by omega);have h211:=Z0v r.num (by omega);have hs:r.neg=true->Zg r.num≠[48]:=fun hn=>Zat (h.sign hn)
 by_cases hd1:r.den=1
 .refine ⟨r.neg,(Yo r.num).map fun x:Nat=>PV.int .u32 (x:Int),[.int .u32 1],?_⟩;rw[if_pos hd1,List.append_nil]at Zm6;have Z74:=Znz (Zg r.num) (Q5 _) (by omega);generalize Yo r.num=xs at *;generalize r.text=s at *;generalize Zg r.num=q at *;generalize r.neg=ng at *;simp only[U,List.map_nil,List.map_cons,Wi,Xq,Zbl]at *;clear h hd1 e1 e2 hl2;cases ng with
  |false=>
   clear hs;by_cases hq0:q=[48]
   .subst hq0;intro K H;refine Zd (fn:=Tryz.f205) rfl Tryz.func205 rfl rfl (by simp) (by simp) ?_ (by simp[*])
    (refine Zm ?_;repeat'(first|(refine Zi fun _=>?_;try simp(disch:=first|exact Zq|fail)[*,Zz,Tryz.f205])|refine Yb ?_|refine Yc ?_|refine Yd ?_|refine Zt ?_|refine Zf ?_|refine Zb ?_ ?_))
   .have hq0':(q==[48])=false:=by simpa using hq0
    intro K H;refine Zd (fn:=Tryz.f205) rfl Tryz.func205 rfl rfl (by simp) (by simp) ?_ (by simp[*])
    (refine Zm ?_;repeat'(first|(refine Zi fun _=>?_;try simp(disch:=first|exact Zq|fail)[*,Zz,Tryz.f205])|refine Yb ?_|refine Yc ?_|refine Yd ?_|refine Zt ?_|refine Zf ?_|refine Zb ?_ ?_))
  |true=>
   have hs':(q==[48])=false:=by simpa using hs rfl
   clear hs;intro K H;refine Zd (fn:=Tryz.f205) rfl Tryz.func205 rfl rfl (by simp) (by simp) ?_ (by simp[*])
   (refine Zm ?_;repeat'(first|(refine Zi fun _=>?_;try simp(disch:=first|exact Zq|fail)[*,Zz,Tryz.f205])|refine Yb ?_|refine Yc ?_|refine Yd ?_|refine Zt ?_|refine Zf ?_|refine Zb ?_ ?_))
 .refine ⟨r.neg,(Yo r.num).map fun x:Nat=>PV.int .u32 (x:Int),(Yo r.den).map fun x:Nat=>PV.int .u32 (x:Int),?_⟩;rw[if_neg hd1]at Zm6 e1;have Z74:=Zsc (Zg r.num) (Zg r.den) (Q5 _) (by simp;omega);have Z75:=Zes r.den (by omega);have Zaz0:=Z0v r.den (by omega);have hnl:(Yo r.num).length < 2^28:=Nat.lt_of_le_of_lt (Zoj _) (by omega);have h212:=Zado r.num r.den hd hnl;rw[h.low]at h212;have hl1:Yo 1=[1]:=Zb5 (by omega) (by omega);rw[hl1]at h212;have h213:=Zadn
  have Zuz:Zg r.num≠[48]:=by
   refine Zat fun e=>?_
   have:=h.low;rw[e,Nat.gcd_zero_left]at this;exact hd1 this
  have Zaic:(Zg r.num==[48])=false:=by simpa using Zuz
  have Zazi:(Zg r.den==[48])=false:=by simpa using Zat (n:=r.den) (by have:=h.den;omega)
  have Zazh:(Zg r.den==[49])=false:=by
   rw[beq_eq_false_iff_ne];intro e;have h1:=Xt r.den;rw[e]at h1;exact hd1 (by rw[<- h1];rfl)
  generalize hqq:Zg r.num++47::Zg r.den=qq at *;generalize Yo r.num=xs at *;generalize Yo r.den=ys at *;generalize r.text=s at *;generalize Zg r.num=q at *;generalize Zg r.den=q2 at *;generalize r.neg=ng at *;simp only[U,List.map_nil,List.map_cons,Wi,Xq,Zbl]at *;clear h hd1 e1 e2 hs Zuz;cases ng with
  |false=>
   intro K H;refine Zd (fn:=Tryz.f205) rfl Tryz.func205 rfl rfl (by simp) (by simp) ?_ (by simp[*])
   (refine Zm ?_;repeat'(first|(refine Zi fun _=>?_;try simp(disch:=first|exact Zw|fail)[*,Yi,Tryz.f205])|refine Zt ?_|refine Zf ?_|refine Zb ?_ ?_))
   refine Yk false false [] [58] [H.next+9] [63,64] true (by decide +kernel) ?_
   (refine Zm ?_;repeat'(first|(refine Zi fun _=>?_;try simp(disch:=first|exact Zw|fail)[*,Yi,reach,refsO,Zue])|refine Zt ?_|refine Zf ?_|refine Zb ?_ ?_))
   exact absurd ‹Nat.blt 9 65=false› (by decide)
  |true=>
   intro K H;refine Zd (fn:=Tryz.f205) rfl Tryz.func205 rfl rfl (by simp) (by simp) ?_ (by simp[*])
   (refine Zm ?_;repeat'(first|(refine Zi fun _=>?_;try simp(disch:=first|exact Zw|fail)[*,Yi,Tryz.f205])|refine Zt ?_|refine Zf ?_|refine Zb ?_ ?_))
   refine Yk false false [] [58] [H.next+9] [63,64] true (by decide +kernel) ?_
   (refine Zm ?_;repeat'(first|(refine Zi fun _=>?_;try simp(disch:=first|exact Zw|fail)[*,Yi,reach,refsO,Zue])|refine Zt ?_|refine Zf ?_|refine Zb ?_ ?_))
   exact absurd ‹Nat.blt 9 65=false› (by decide)
theorem Z0x {r:Rt}(h:r.Ok)(hl:r.text.length < 2^20)(hd:r.den < 1000000000):Xw vE 197 [.str r.text] (.bool true):=by
 obtain⟨n,d,b,h204⟩:=Zads h hl;obtain⟨ng,xs,ys,h205⟩:=Zadr h hl hd;generalize r.text=s at *;cases b with
 |true=>
  intro K H;refine Zd (fn:=Tryz.f197) rfl Tryz.func197 rfl rfl (by simp) (by simp) ?_ (by simp[*])
  (refine Zm ?_;repeat'(first|(refine Zi fun _=>?_;try simp(disch:=first|exact Zq|fail)[*,Zz,Tryz.f197])|refine Yb ?_|refine Yc ?_|refine Yd ?_|refine Zt ?_|refine Zf ?_|refine Zb ?_ ?_))
 |false=>
  intro K H;refine Zd (fn:=Tryz.f197) rfl Tryz.func197 rfl rfl (by simp) (by simp) ?_ (by simp[*])
  (refine Zm ?_;repeat'(first|(refine Zi fun _=>?_;try simp(disch:=first|exact Zq|fail)[*,Zz,Tryz.f197])|refine Yb ?_|refine Yc ?_|refine Yd ?_|refine Zt ?_|refine Zf ?_|refine Zb ?_ ?_))
theorem Zadv {r:Rt}(h:r.Ok)(hl:r.text.length < 2^20)(hd:r.den=1)(hn:r.neg=false)(hn0:r.num≠0):Xw vE 184 [.str r.text] (.int .i64 1):=by
 have h197:=Z0x h hl (by omega);have e1:=Zat hn0;have e:r.text=Zg r.num:=by unfold Rt.text;rw[hn,hd];simp
 rw[e]at h197 ⊢
 obtain⟨c,q,e2,e3,e4⟩:∃c q,Zg r.num=c::q/\49<=c/\c<=57:=by
  rcases Zjo r.num with h | h
  .exact absurd h hn0
  .exact h
 rw[e2]at h197 ⊢;have e5:((c::q)==[48])=false:=by simp;omega
 clear e hn hn0 hd h e1;intro K H;refine Zd (fn:=Tryz.f184) rfl Tryz.func184 rfl rfl (by simp) (by simp) ?_ (by simp[*])
 (refine Zm ?_;repeat'(first|(refine Zi fun _=>?_;try simp(disch:=first|exact Zq|fail)[*,Zz,Tryz.f184])|refine Yb ?_|refine Yc ?_|refine Yd ?_|refine Zt ?_|refine Zf ?_|refine Zb ?_ ?_))
end Go.Proofs.YtabcdhcpilpojaaGreatDoor
end
