/- The program's numbers: cutting texts. -/
import Derived.Test.YtabcdhcpilpojaaGreatDoorFA
import Derived.Test.YtabcdhcpilpojaaGreatDoorPD
set_option linter.unusedSimpArgs false
set_option linter.unusedVariables false
section
set_option maxRecDepth 20000
namespace Go.Proofs.YtabcdhcpilpojaaGreatDoor
open Go Go.Pure
open Go.Virt (Ex Ctx Ty TK)
theorem Z21 {p:Yk}(hp:∀ c∈p,c < 256/\c≠47):Lib.indexByte (p.map Nat.toUInt8) 47 = -1:=by
 induction p with
 | nil=>rfl
 | cons c p ih=>
   have h1:=hp c (by simp)
   have Ys:(Nat.toUInt8 c==47)=false:=by
    rw [beq_eq_false_iff_ne];intro e;have:=congrArg UInt8.toNat e;simp at this;omega
   simp [Lib.indexByte,Ys,ih fun c hc=>hp c (by simp [hc])]
theorem Z20 {p q:Yk}(hp:∀ c∈p,c < 256/\c≠47):Lib.indexByte ((p++47::q).map Nat.toUInt8) 47=p.length:=by
 induction p with
 | nil=>simp [Lib.indexByte]
 | cons c p ih=>
   have h1:=hp c (by simp)
   have Ys:(Nat.toUInt8 c==47)=false:=by
    rw [beq_eq_false_iff_ne];intro e;have:=congrArg UInt8.toNat e;simp at this;omega
   have h2:=ih fun c hc=>hp c (by simp [hc])
   have hge:((p.length:Int)== -1)=false:=by
    rw [beq_eq_false_iff_ne];omega
   rw [List.cons_append,List.map_cons,Lib.indexByte,Ys,h2];simp [hge]
theorem Z9n (s:Yk):Xr vE 230 [.str s,.int .u8 47] (.int .i64 (Lib.indexByte (s.map Nat.toUInt8) 47)):=by
 intro K H;rw [Vz];rfl
theorem Zxd (s:Yk)(hl:s.length < 2^30):Xr vE 220 [.str s,.str [47]] (.int .i64 (Lib.indexByte (s.map Nat.toUInt8) 47)):=by
 have h:=Z9n s;intro K H;refine Zh (fn:=Tryz.f220) rfl Tryz.func220 rfl rfl (by simp) (by simp) ?_ (by simp [*])
 ((try simp (disch:=first|omega|(simp<;>omega)|fail) [*,Ze,Tryz.f220]);repeat'(first|refine Z8 ?_|refine Z9 ?_|refine Z0 ?_|refine Z1 fun _=>?_|refine Z2 fun _ _=>?_|refine Z3 (fun _=>?_) fun _ _=>?_|refine Z4 fun _=>?_|refine Z5 fun _=>?_|refine Z6 (fun _=>?_) fun _=>?_|refine Z7 (fun _=>?_) fun _=>?_)<;>(try simp (disch:=first|omega|(simp<;>omega)|fail) [*,Ze,Tryz.f220]))
 rename_i e;subst e;rfl
theorem Z9u (p q:Yk)(hp:∀ c∈p,c < 256/\c≠47)(hl:(p++47::q).length < 2^30):Xr vE 215 [.str (p++47::q),.str [47]] (.tuple [.str p,.str q,.bool true]):=by
 have h:=Zxd (p++47::q) hl;rw [Z20 hp] at h;generalize hs:p++47::q=s at *;have e1:s.take p.length=p:=by rw [<- hs];simp
 have e2:s.drop (p.length+1)=q:=by rw [<- hs];simp
 have hpl:p.length < s.length:=by rw [<- hs];simp
 have e3:List.take (s.length - (p.length+1)) q=q:=List.take_of_length_le (by rw [<- hs];simp;omega);have e1':(p.length:Int).toNat=p.length:=by omega
 have e2':((p.length:Int)+1).toNat=p.length+1:=by omega
 intro K H;refine Zh (fn:=Tryz.f215) rfl Tryz.func215 rfl rfl (by simp) (by simp) ?_ (by simp [*])
 ((try simp (disch:=first|omega|(simp<;>omega)|fail) [*,Ze,Tryz.f215]);repeat'(first|refine Z8 ?_|refine Z9 ?_|refine Z0 ?_|refine Z1 fun _=>?_|refine Z2 fun _ _=>?_|refine Z3 (fun _=>?_) fun _ _=>?_|refine Z4 fun _=>?_|refine Z5 fun _=>?_|refine Z6 (fun _=>?_) fun _=>?_|refine Z7 (fun _=>?_) fun _=>?_)<;>(try simp (disch:=first|omega|(simp<;>omega)|fail) [*,Ze,Tryz.f215]))
theorem Z5q (s:Yk)(hp:∀ c∈s,c < 256/\c≠47)(hl:s.length < 2^30):Xr vE 215 [.str s,.str [47]] (.tuple [.str s,.str [],.bool false]):=by
 have h:=Zxd s hl;rw [Z21 hp] at h;intro K H;refine Zh (fn:=Tryz.f215) rfl Tryz.func215 rfl rfl (by simp) (by simp) ?_ (by simp [*])
 ((try simp (disch:=first|omega|(simp<;>omega)|fail) [*,Ze,Tryz.f215]);repeat'(first|refine Z8 ?_|refine Z9 ?_|refine Z0 ?_|refine Z1 fun _=>?_|refine Z2 fun _ _=>?_|refine Z3 (fun _=>?_) fun _ _=>?_|refine Z4 fun _=>?_|refine Z5 fun _=>?_|refine Z6 (fun _=>?_) fun _=>?_|refine Z7 (fun _=>?_) fun _=>?_)<;>(try simp (disch:=first|omega|(simp<;>omega)|fail) [*,Ze,Tryz.f215]))
theorem Zpm (p q:Yk)(hp:∀ c∈p,c < 256/\c≠47)(hl:(p++47::q).length < 2^30):Xr vE 208 [.str (p++47::q),.str [47]] (.tuple [.str p,.str q,.bool true]):=by
 have h:=Z9u p q hp hl;generalize p++47::q=s at *;intro K H;refine Zh (fn:=Tryz.f208) rfl Tryz.func208 rfl rfl (by simp) (by simp) ?_ (by simp [*])
 ((try simp (disch:=first|omega|(simp<;>omega)|fail) [*,Ze,Tryz.f208]);repeat'(first|refine Z8 ?_|refine Z9 ?_|refine Z0 ?_|refine Z1 fun _=>?_|refine Z2 fun _ _=>?_|refine Z3 (fun _=>?_) fun _ _=>?_|refine Z4 fun _=>?_|refine Z5 fun _=>?_|refine Z6 (fun _=>?_) fun _=>?_|refine Z7 (fun _=>?_) fun _=>?_)<;>(try simp (disch:=first|omega|(simp<;>omega)|fail) [*,Ze,Tryz.f208]))
theorem Zls (s:Yk)(hp:∀ c∈s,c < 256/\c≠47)(hl:s.length < 2^30):Xr vE 208 [.str s,.str [47]] (.tuple [.str s,.str [],.bool false]):=by
 have h:=Z5q s hp hl;intro K H;refine Zh (fn:=Tryz.f208) rfl Tryz.func208 rfl rfl (by simp) (by simp) ?_ (by simp [*])
 ((try simp (disch:=first|omega|(simp<;>omega)|fail) [*,Ze,Tryz.f208]);repeat'(first|refine Z8 ?_|refine Z9 ?_|refine Z0 ?_|refine Z1 fun _=>?_|refine Z2 fun _ _=>?_|refine Z3 (fun _=>?_) fun _ _=>?_|refine Z4 fun _=>?_|refine Z5 fun _=>?_|refine Z6 (fun _=>?_) fun _=>?_|refine Z7 (fun _=>?_) fun _=>?_)<;>(try simp (disch:=first|omega|(simp<;>omega)|fail) [*,Ze,Tryz.f208]))
theorem Z9v (s:Yk)(hl:s.length < 2^30):Xr vE 214 [.str s,.str [45]] (.bool (Rn s)):=by
 unfold Rn;cases s with
 | nil=>
   intro K H;refine Zh (fn:=Tryz.f214) rfl Tryz.func214 rfl rfl (by simp) (by simp) ?_ (by simp [*])
   ((try simp (disch:=first|omega|(simp<;>omega)|fail) [*,Ze,Tryz.f214]);repeat'(first|refine Z8 ?_|refine Z9 ?_|refine Z0 ?_|refine Z1 fun _=>?_|refine Z2 fun _ _=>?_|refine Z3 (fun _=>?_) fun _ _=>?_|refine Z4 fun _=>?_|refine Z5 fun _=>?_|refine Z6 (fun _=>?_) fun _=>?_|refine Z7 (fun _=>?_) fun _=>?_)<;>(try simp (disch:=first|omega|(simp<;>omega)|fail) [*,Ze,Tryz.f214]))
 | cons c s=>
   intro K H;refine Zh (fn:=Tryz.f214) rfl Tryz.func214 rfl rfl (by simp) (by simp) ?_ (by simp [*])
   ((try simp (disch:=first|omega|(simp<;>omega)|fail) [*,Ze,Tryz.f214]);repeat'(first|refine Z8 ?_|refine Z9 ?_|refine Z0 ?_|refine Z1 fun _=>?_|refine Z2 fun _ _=>?_|refine Z3 (fun _=>?_) fun _ _=>?_|refine Z4 fun _=>?_|refine Z5 fun _=>?_|refine Z6 (fun _=>?_) fun _=>?_|refine Z7 (fun _=>?_) fun _=>?_)<;>(try simp (disch:=first|omega|(simp<;>omega)|fail) [*,Ze,Tryz.f214]))
   rw [Bool.eq_iff_iff];simp
theorem Z9z (s:Yk)(hl:s.length < 2^30):Xr vE 206 [.str s,.str [45]] (.tuple [.str (Uw s),.bool (Rn s)]):=by
 have h:=Z9v s hl;unfold Uw;unfold Rn at *;by_cases h1:s.head?=some 45
 .cases s with
  | nil=>simp at h1
  | cons c s=>
    simp only [h1,decide_true,if_true,List.tail_cons] at *;intro K H;refine Zh (fn:=Tryz.f206) rfl Tryz.func206 rfl rfl (by simp) (by simp) ?_ (by simp [*])
    ((try simp (disch:=first|omega|(simp<;>omega)|fail) [*,Ze,Tryz.f206]);repeat'(first|refine Z8 ?_|refine Z9 ?_|refine Z0 ?_|refine Z1 fun _=>?_|refine Z2 fun _ _=>?_|refine Z3 (fun _=>?_) fun _ _=>?_|refine Z4 fun _=>?_|refine Z5 fun _=>?_|refine Z6 (fun _=>?_) fun _=>?_|refine Z7 (fun _=>?_) fun _=>?_)<;>(try simp (disch:=first|omega|(simp<;>omega)|fail) [*,Ze,Tryz.f206]))
 .simp only [h1,decide_false,if_false] at *;intro K H;refine Zh (fn:=Tryz.f206) rfl Tryz.func206 rfl rfl (by simp) (by simp) ?_ (by simp [*])
  ((try simp (disch:=first|omega|(simp<;>omega)|fail) [*,Ze,Tryz.f206]);repeat'(first|refine Z8 ?_|refine Z9 ?_|refine Z0 ?_|refine Z1 fun _=>?_|refine Z2 fun _ _=>?_|refine Z3 (fun _=>?_) fun _ _=>?_|refine Z4 fun _=>?_|refine Z5 fun _=>?_|refine Z6 (fun _=>?_) fun _=>?_|refine Z7 (fun _=>?_) fun _=>?_)<;>(try simp (disch:=first|omega|(simp<;>omega)|fail) [*,Ze,Tryz.f206]))
theorem Zpn (s:Yk)(hl:s.length < 2^30):Xr vE 198 [.str s,.str [45]] (.tuple [.str (Uw s),.bool (Rn s)]):=by
 have h:=Z9z s hl;intro K H;refine Zh (fn:=Tryz.f198) rfl Tryz.func198 rfl rfl (by simp) (by simp) ?_ (by simp [*])
 ((try simp (disch:=first|omega|(simp<;>omega)|fail) [*,Ze,Tryz.f198]);repeat'(first|refine Z8 ?_|refine Z9 ?_|refine Z0 ?_|refine Z1 fun _=>?_|refine Z2 fun _ _=>?_|refine Z3 (fun _=>?_) fun _ _=>?_|refine Z4 fun _=>?_|refine Z5 fun _=>?_|refine Z6 (fun _=>?_) fun _=>?_|refine Z7 (fun _=>?_) fun _=>?_)<;>(try simp (disch:=first|omega|(simp<;>omega)|fail) [*,Ze,Tryz.f198]))
end Go.Proofs.YtabcdhcpilpojaaGreatDoor
end
section
set_option maxRecDepth 20000
namespace Go.Proofs.YtabcdhcpilpojaaGreatDoor
open Go Go.Pure
open Go.Virt (Ex Ctx Ty TK)
theorem Z92 (s:Yk)(hd:∀ c∈s,48<=c/\c<=57)(hl:s.length < 2^30)(h0:s=[48]\/(s≠[]/\s.head?≠some 48)):Xr vE 199 [.str s] (.bool true):=by
 have hl':s.length<=Virt.maxLenV:=by rw [Qi];omega
 intro K H;refine Zh (fn:=Tryz.f199) rfl Tryz.func199 rfl rfl (by simp) (by simp) ?_ (by simp [*])
 ((try simp (disch:=first|omega|(simp<;>omega)|fail) [*,Ze,Tryz.f199]);repeat'(first|refine Z8 ?_|refine Z9 ?_|refine Z0 ?_|refine Z1 fun _=>?_|refine Z2 fun _ _=>?_|refine Z3 (fun _=>?_) fun _ _=>?_|refine Z4 fun _=>?_|refine Z5 fun _=>?_|refine Z6 (fun _=>?_) fun _=>?_|refine Z7 (fun _=>?_) fun _=>?_)<;>(try simp (disch:=first|omega|(simp<;>omega)|fail) [*,Ze,Tryz.f199]))
 generalize hv6:H.stamp (H.next+6)=v6;refine Zz [0,6,7] (fun n sl h=>∃ i:Nat,n=s.length - i/\i<=s.length/\sl 8=some (.int .i64 i)/\h.get (H.next+6)=some (v6,.row 5 true (s.map fun b:Nat=>PV.int IntKind.u8 (b:Int)))) s.length rfl ⟨0,by simp,by simp,by simp,by simp [*]⟩ ?_;rintro n sl h hf ⟨i,hn,hi,h8,h6⟩;simp at hf;by_cases hlt:i < s.length
 .have hc:=hd s[i] (List.getElem_mem hlt);generalize hsi:s[i]=c at *;clear hd h0
  ((try simp (disch:=first|omega|(simp<;>omega)|fail) [*,Ze]);repeat'(first|refine Z8 ?_|refine Z9 ?_|refine Z0 ?_|refine Z1 fun _=>?_|refine Z2 fun _ _=>?_|refine Z3 (fun _=>?_) fun _ _=>?_|refine Z4 fun _=>?_|refine Z5 fun _=>?_|refine Z6 (fun _=>?_) fun _=>?_|refine Z7 (fun _=>?_) fun _=>?_)<;>(try simp (disch:=first|omega|(simp<;>omega)|fail) [*,Ze]))
  exact ⟨_,by omega,i+1,rfl,by omega,by omega⟩
 .have S7:i=s.length:=by omega
  subst S7;rcases h0 with rfl | ⟨h1,h2⟩
  .clear hd
   ((try simp (disch:=first|omega|(simp<;>omega)|fail) [*,Ze]);repeat'(first|refine Z8 ?_|refine Z9 ?_|refine Z0 ?_|refine Z1 fun _=>?_|refine Z2 fun _ _=>?_|refine Z3 (fun _=>?_) fun _ _=>?_|refine Z4 fun _=>?_|refine Z5 fun _=>?_|refine Z6 (fun _=>?_) fun _=>?_|refine Z7 (fun _=>?_) fun _=>?_)<;>(try simp (disch:=first|omega|(simp<;>omega)|fail) [*,Ze]))
  .cases s with
   | nil=>exact absurd rfl h1
   | cons c s=>
     have hc:c≠48:=by simpa using h2
     have hc1:(c==48)=false:=by simpa using hc
     have hc2:((c:Int)==48)=false:=by simp;omega
     clear hd h1 h2
     ((try simp (disch:=first|omega|(simp<;>omega)|fail) [*,Ze]);repeat'(first|refine Z8 ?_|refine Z9 ?_|refine Z0 ?_|refine Z1 fun _=>?_|refine Z2 fun _ _=>?_|refine Z3 (fun _=>?_) fun _ _=>?_|refine Z4 fun _=>?_|refine Z5 fun _=>?_|refine Z6 (fun _=>?_) fun _=>?_|refine Z7 (fun _=>?_) fun _=>?_)<;>(try simp (disch:=first|omega|(simp<;>omega)|fail) [*,Ze]))
theorem Za3 (n:Nat):(∀ c∈Zi n,48<=c/\c<=57)/\(Zi n=[48]\/(Zi n≠[]/\(Zi n).head?≠some 48)):=by
 refine ⟨fun c hc=>?_,?_⟩
 .have:=List.all_eq_true.1 (We n) c hc;simpa [Z86] using this
 .rcases Zhz n with rfl | ⟨c,r,e,h1,h2⟩
  .exact .inl Vg
  .right;rw [e];simp;omega
theorem Zc8 (n:Nat)(hl:(Zi n).length < 2^30):Xr vE 199 [.str (Zi n)] (.bool true):=Z92 _ (Za3 n).1 hl (Za3 n).2
end Go.Proofs.YtabcdhcpilpojaaGreatDoor
end
section
set_option maxRecDepth 20000
namespace Go.Proofs.YtabcdhcpilpojaaGreatDoor
open Go Go.Pure
open Go.Virt (Ex Ctx Ty TK)
theorem Zqj {s:Yk}(hd:∀ c∈s,48<=c/\c<=57):∀ i,i<=s.length->Yj (s.take i) < 10^i:=by
 intro i
 induction i with
 | zero=>intro _;simp [Yj,Ziw]
 | succ i ih=>
   intro hi;rw [List.take_add_one,List.getElem?_eq_getElem (by omega:i < s.length),Option.toList,Uo];have h1:=ih (by omega);have h2:=hd s[i] (List.getElem_mem _);rw [Nat.pow_succ];omega
set_option maxHeartbeats 4000000 in
theorem Z9q (s:Yk)(hd:∀ c∈s,48<=c/\c<=57)(Ys:s≠[])(hl:s.length<=18):Xr vE 221 [.str s,.int .i64 10,.int .i64 64] (.tuple [.int .u64 (Yj s),.nili]):=by
 have hl':s.length<=Virt.maxLenV:=by rw [Qi];omega
 have hb:∀ i,i<=s.length->Yj (s.take i) < 10^18:=fun i hi=>Nat.lt_of_lt_of_le (Zqj hd i hi) (Nat.pow_le_pow_right (by omega) (by omega))
 have U9:0 < s.length:=List.length_pos_iff.2 Ys;intro K H;refine Zh (fn:=Tryz.f221) rfl Tryz.func221 rfl rfl (by simp) (by simp) ?_ (by simp [*])
 ((try simp (disch:=first|omega|(simp<;>omega)|fail) [*,Ze,Tryz.f221]);repeat'(first|refine Z8 ?_|refine Z9 ?_|refine Z0 ?_|refine Z1 fun _=>?_|refine Z2 fun _ _=>?_|refine Z3 (fun _=>?_) fun _ _=>?_|refine Z4 fun _=>?_|refine Z5 fun _=>?_|refine Z6 (fun _=>?_) fun _=>?_|refine Z7 (fun _=>?_) fun _=>?_)<;>(try simp (disch:=first|omega|(simp<;>omega)|fail) [*,Ze,Tryz.f221]))
 .rename_i e;exact absurd (List.isEmpty_iff.1 e) Ys
 generalize hv6:H.stamp (H.next+99)=v6;refine Zz [1,8,9,10,11,99,100] (fun n sl h=>∃ i:Nat,n=s.length - i/\i<=s.length/\sl 101=some (.int .i64 i)/\sl 12=some (.bool false)/\sl 13=some (.int .u64 (Yj (s.take i)))/\h.get (H.next+99)=some (v6,.row 5 true (s.map fun b:Nat=>PV.int IntKind.u8 (b:Int)))) s.length rfl ⟨0,by simp,by simp,by simp,by simp,by simp [Yj,Ziw],by simp [*]⟩ ?_;rintro n sl h hf ⟨i,hn,hi,h101,h12,h13,h6⟩;simp at hf;by_cases hlt:i < s.length
 .have hc:=hd s[i] (List.getElem_mem hlt);have hbi:=hb i hi;have hbi2:=hb (i+1) hlt
  have Xl:Yj (s.take (i+1))=Yj (s.take i)*10+(s[i] - 48):=by
   rw [List.take_add_one,List.getElem?_eq_getElem hlt,Option.toList,Uo]
  generalize hsi:s[i]=c at *;generalize hA:Yj (s.take i)=A at *;generalize hB:Yj (s.take (i+1))=B at *;have hB':(A:Int)*10+((c:Int) - 48)=B:=by omega
  clear hd hb;have hmx:IntKind.u64.wrap (IntKind.u64.wrap (2^min 64 IntKind.u64.bits) - 1)=18446744073709551615:=by decide +kernel
  ((try simp (disch:=first|omega|(simp<;>omega)|fail) [*,Ze]);repeat'(first|refine Z8 ?_|refine Z9 ?_|refine Z0 ?_|refine Z1 fun _=>?_|refine Z2 fun _ _=>?_|refine Z3 (fun _=>?_) fun _ _=>?_|refine Z4 fun _=>?_|refine Z5 fun _=>?_|refine Z6 (fun _=>?_) fun _=>?_|refine Z7 (fun _=>?_) fun _=>?_)<;>(try simp (disch:=first|omega|(simp<;>omega)|fail) [*,Ze]))
  exact ⟨_,by omega,i+1,rfl,by omega,by omega,by rw [hB];omega⟩
 .have S7:i=s.length:=by omega
  subst S7;rw [List.take_length] at h13;clear hd hb
  ((try simp (disch:=first|omega|(simp<;>omega)|fail) [*,Ze]);repeat'(first|refine Z8 ?_|refine Z9 ?_|refine Z0 ?_|refine Z1 fun _=>?_|refine Z2 fun _ _=>?_|refine Z3 (fun _=>?_) fun _ _=>?_|refine Z4 fun _=>?_|refine Z5 fun _=>?_|refine Z6 (fun _=>?_) fun _=>?_|refine Z7 (fun _=>?_) fun _=>?_)<;>(try simp (disch:=first|omega|(simp<;>omega)|fail) [*,Ze]))
set_option maxHeartbeats 2000000 in
theorem Z9t (s:Yk)(hd:∀ c∈s,48<=c/\c<=57)(Ys:s≠[])(hl:s.length<=18):Xr vE 216 [.str s,.int .i64 10,.int .i64 64] (.tuple [.int .i64 (Yj s),.nili]):=by
 have h:=Z9q s hd Ys hl;have hb:Yj s < 10^18:=Nat.lt_of_lt_of_le (Zfl (Ym.2 hd)) (Nat.pow_le_pow_right (by omega) hl);generalize Yj s=A at *;cases s with
 | nil=>exact absurd rfl Ys
 | cons c s=>
   have hc:=hd c (by simp);have hmx:IntKind.u64.wrap (2^min 63 IntKind.u64.bits)=9223372036854775808:=by decide +kernel
   clear hd Ys;intro K H;refine Zh (fn:=Tryz.f216) rfl Tryz.func216 rfl rfl (by simp) (by simp) ?_ (by simp [*])
   ((try simp (disch:=first|omega|(simp<;>omega)|fail) [*,Ze,Tryz.f216]);repeat'(first|refine Z8 ?_|refine Z9 ?_|refine Z0 ?_|refine Z1 fun _=>?_|refine Z2 fun _ _=>?_|refine Z3 (fun _=>?_) fun _ _=>?_|refine Z4 fun _=>?_|refine Z5 fun _=>?_|refine Z6 (fun _=>?_) fun _=>?_|refine Z7 (fun _=>?_) fun _=>?_)<;>(try simp (disch:=first|omega|(simp<;>omega)|fail) [*,Ze,Tryz.f216]))
theorem Zxf (s:Yk)(hd:∀ c∈s,48<=c/\c<=57)(Ys:s≠[])(hl:s.length<=18):Xr vE 209 [.str s,.int .i64 10,.int .i64 64] (.tuple [.int .i64 (Yj s),.nili]):=by
 have h:=Z9t s hd Ys hl;intro K H;refine Zh (fn:=Tryz.f209) rfl Tryz.func209 rfl rfl (by simp) (by simp) ?_ (by simp [*])
 ((try simp (disch:=first|omega|(simp<;>omega)|fail) [*,Ze,Tryz.f209]);repeat'(first|refine Z8 ?_|refine Z9 ?_|refine Z0 ?_|refine Z1 fun _=>?_|refine Z2 fun _ _=>?_|refine Z3 (fun _=>?_) fun _ _=>?_|refine Z4 fun _=>?_|refine Z5 fun _=>?_|refine Z6 (fun _=>?_) fun _=>?_|refine Z7 (fun _=>?_) fun _=>?_)<;>(try simp (disch:=first|omega|(simp<;>omega)|fail) [*,Ze,Tryz.f209]))
end Go.Proofs.YtabcdhcpilpojaaGreatDoor
end
section
set_option maxRecDepth 20000
namespace Go.Proofs.YtabcdhcpilpojaaGreatDoor
open Go Go.Pure
open Go.Virt (Ex Ctx Ty TK)
theorem Ql {n:Nat}(h:n≠0):Zi n≠[48]:=by
 rcases Zhz n with e | ⟨c,r,e,h1,h2⟩
 .exact absurd e h
 .rw [e];simp;omega
theorem R5 (n:Nat):∀ c∈Zi n,c < 256/\c≠47:=fun c hc=>by
 have:=(Za3 n).1 c hc;omega
theorem Z95 {r:Rt}(h:r.Ok)(hd:r.den=1)(hl:r.text.length < 2^29):Xr vE 183 [.str r.text] (.bool true):=by
 obtain ⟨e1,e2⟩:=Tb r;rw [if_pos hd,List.append_nil] at e1;have Zk3:=Zpn r.text (by omega);have h199:=Zc8 r.num (by have:=(Vd r).1;omega);rw [e1,e2] at Zk3;have hs:r.neg=true->Zi r.num≠[48]:=fun hn=>Ql (h.sign hn)
 generalize r.text=s at *;generalize Zi r.num=q at *;generalize r.neg=ng at *;clear h hd e1 e2;cases ng with
 | false=>
   intro K H;refine Zh (fn:=Tryz.f183) rfl Tryz.func183 rfl rfl (by simp) (by simp) ?_ (by simp [*])
   ((try simp (disch:=first|omega|(simp<;>omega)|fail) [*,Ze,Tryz.f183]);repeat'(first|refine Z8 ?_|refine Z9 ?_|refine Z0 ?_|refine Z1 fun _=>?_|refine Z2 fun _ _=>?_|refine Z3 (fun _=>?_) fun _ _=>?_|refine Z4 fun _=>?_|refine Z5 fun _=>?_|refine Z6 (fun _=>?_) fun _=>?_|refine Z7 (fun _=>?_) fun _=>?_)<;>(try simp (disch:=first|omega|(simp<;>omega)|fail) [*,Ze,Tryz.f183]))
 | true=>
   have hs':=hs rfl;have hs2:(q==[48])=false:=by simpa using hs'
   clear hs;intro K H;refine Zh (fn:=Tryz.f183) rfl Tryz.func183 rfl rfl (by simp) (by simp) ?_ (by simp [*])
   ((try simp (disch:=first|omega|(simp<;>omega)|fail) [*,Ze,Tryz.f183]);repeat'(first|refine Z8 ?_|refine Z9 ?_|refine Z0 ?_|refine Z1 fun _=>?_|refine Z2 fun _ _=>?_|refine Z3 (fun _=>?_) fun _ _=>?_|refine Z4 fun _=>?_|refine Z5 fun _=>?_|refine Z6 (fun _=>?_) fun _=>?_|refine Z7 (fun _=>?_) fun _=>?_)<;>(try simp (disch:=first|omega|(simp<;>omega)|fail) [*,Ze,Tryz.f183]))
theorem Z9y (a b:Nat)(ha:a < 2^62)(hb:b < 2^62):Xr vE 210 [.int .i64 a,.int .i64 b] (.int .i64 (Nat.gcd a b)):=by
 intro K H;refine Zh (fn:=Tryz.f210) rfl Tryz.func210 rfl rfl (by simp) (by simp) ?_ (by simp [*])
 ((try simp (disch:=first|omega|(simp<;>omega)|fail) [*,Ze,Tryz.f210]);repeat'(first|refine Z8 ?_|refine Z9 ?_|refine Z0 ?_|refine Z1 fun _=>?_|refine Z2 fun _ _=>?_|refine Z3 (fun _=>?_) fun _ _=>?_|refine Z4 fun _=>?_|refine Z5 fun _=>?_|refine Z6 (fun _=>?_) fun _=>?_|refine Z7 (fun _=>?_) fun _=>?_)<;>(try simp (disch:=first|omega|(simp<;>omega)|fail) [*,Ze,Tryz.f210]))
 refine Zz [] (fun n sl h=>∃ x y:Nat,n=y/\x < 2^62/\y < 2^62/\sl 0=some (.int .i64 x)/\sl 1=some (.int .i64 y)/\Nat.gcd x y=Nat.gcd a b) b rfl ⟨a,b,rfl,ha,hb,by simp,by simp,rfl⟩ ?_;rintro n sl h hf ⟨x,y,hn,hx,hy,h0,h1,hg⟩;simp at hf;by_cases h0':y=0
 .subst h0';rw [Nat.gcd_zero_right] at hg
  ((try simp (disch:=first|omega|(simp<;>omega)|fail) [*,Ze]);repeat'(first|refine Z8 ?_|refine Z9 ?_|refine Z0 ?_|refine Z1 fun _=>?_|refine Z2 fun _ _=>?_|refine Z3 (fun _=>?_) fun _ _=>?_|refine Z4 fun _=>?_|refine Z5 fun _=>?_|refine Z6 (fun _=>?_) fun _=>?_|refine Z7 (fun _=>?_) fun _=>?_)<;>(try simp (disch:=first|omega|(simp<;>omega)|fail) [*,Ze]))
 .have hm:Int.tmod (x:Int) (y:Int)=((x % y:Nat):Int):=by
   rw [Int.tmod_eq_emod_of_nonneg (by omega)];rfl
  have hlt:x % y < y:=Nat.mod_lt _ (by omega)
  ((try simp (disch:=first|omega|(simp<;>omega)|fail) [*,Ze]);repeat'(first|refine Z8 ?_|refine Z9 ?_|refine Z0 ?_|refine Z1 fun _=>?_|refine Z2 fun _ _=>?_|refine Z3 (fun _=>?_) fun _ _=>?_|refine Z4 fun _=>?_|refine Z5 fun _=>?_|refine Z6 (fun _=>?_) fun _=>?_|refine Z7 (fun _=>?_) fun _=>?_)<;>(try simp (disch:=first|omega|(simp<;>omega)|fail) [*,Ze]))
  exact ⟨x % y,hlt,y,by omega,by omega,rfl,by simp,by rw [Nat.gcd_comm y,<- Nat.gcd_rec,Nat.gcd_comm,hg]⟩
set_option maxHeartbeats 4000000 in
theorem Z91 {r:Rt}(h:r.Ok)(hl:r.text.length < 2^20):∃ (n d:Int) (b:Bool),Xr vE 204 [.str r.text] (.tuple [.agg [.int .i64 n,.int .i64 d],.bool b]):=by
 obtain ⟨e1,e2⟩:=Tb r;have hl1:=(Vd r).1;have hl2:=(Vd r).2;have Zk3:=Zpn r.text (by omega);rw [e1,e2] at Zk3;have h199:=Zc8 r.num (by omega);have Z4i:=Zc8 r.den (by omega);have hs:r.neg=true->Zi r.num≠[48]:=fun hn=>Ql (h.sign hn)
 by_cases h9:9 < (Zi r.num).length
 .refine ⟨0,0,false,?_⟩;by_cases hd:r.den=1
  .rw [if_pos hd,List.append_nil] at Zk3;have Z4h:=Zls (Zi r.num) (R5 _) (by omega);generalize r.text=s at *;generalize Zi r.num=q at *;generalize r.neg=ng at *;clear h hd e1 e2 hs Z4i hl2;intro K H;refine Zh (fn:=Tryz.f204) rfl Tryz.func204 rfl rfl (by simp) (by simp) ?_ (by simp [*])
   ((try simp (disch:=first|omega|(simp<;>omega)|fail) [*,Ze,Tryz.f204]);repeat'(first|refine Z8 ?_|refine Z9 ?_|refine Z0 ?_|refine Z1 fun _=>?_|refine Z2 fun _ _=>?_|refine Z3 (fun _=>?_) fun _ _=>?_|refine Z4 fun _=>?_|refine Z5 fun _=>?_|refine Z6 (fun _=>?_) fun _=>?_|refine Z7 (fun _=>?_) fun _=>?_)<;>(try simp (disch:=first|omega|(simp<;>omega)|fail) [*,Ze,Tryz.f204]))
  .rw [if_neg hd] at Zk3 e1;have Z4h:=Zpm (Zi r.num) (Zi r.den) (R5 _) (by simp;omega);generalize hqq:Zi r.num++47::Zi r.den=qq at *;generalize r.text=s at *;generalize Zi r.num=q at *;generalize Zi r.den=q2 at *;generalize r.neg=ng at *;clear h hd e1 e2 hs;intro K H;refine Zh (fn:=Tryz.f204) rfl Tryz.func204 rfl rfl (by simp) (by simp) ?_ (by simp [*])
   ((try simp (disch:=first|omega|(simp<;>omega)|fail) [*,Ze,Tryz.f204]);repeat'(first|refine Z8 ?_|refine Z9 ?_|refine Z0 ?_|refine Z1 fun _=>?_|refine Z2 fun _ _=>?_|refine Z3 (fun _=>?_) fun _ _=>?_|refine Z4 fun _=>?_|refine Z5 fun _=>?_|refine Z6 (fun _=>?_) fun _=>?_|refine Z7 (fun _=>?_) fun _=>?_)<;>(try simp (disch:=first|omega|(simp<;>omega)|fail) [*,Ze,Tryz.f204]))
 .have hq1:=Za3 r.num;have hn1:Yj (Zi r.num)=r.num:=Xa _;have h209:=Zxf (Zi r.num) hq1.1 (Zab _) (by omega);rw [hn1] at h209;have Sn:r.num < 10^9:=Nat.lt_of_lt_of_le (Xz _) (Nat.pow_le_pow_right (by omega) (by omega));by_cases hd:r.den=1
  .refine ⟨if r.neg then -r.num else r.num,1,true,?_⟩;rw [if_pos hd,List.append_nil] at Zk3;have Z4h:=Zls (Zi r.num) (R5 _) (by omega);generalize r.text=s at *;generalize Zi r.num=q at *;generalize r.num=N at *;generalize r.neg=ng at *;clear h hd e1 e2 Z4i hl2 hq1 hn1;cases ng with
   | false=>
     clear hs;by_cases hq0:q=[48]
     .subst hq0;intro K H;refine Zh (fn:=Tryz.f204) rfl Tryz.func204 rfl rfl (by simp) (by simp) ?_ (by simp [*])
      ((try simp (disch:=first|omega|(simp<;>omega)|fail) [*,Ze,Tryz.f204]);repeat'(first|refine Z8 ?_|refine Z9 ?_|refine Z0 ?_|refine Z1 fun _=>?_|refine Z2 fun _ _=>?_|refine Z3 (fun _=>?_) fun _ _=>?_|refine Z4 fun _=>?_|refine Z5 fun _=>?_|refine Z6 (fun _=>?_) fun _=>?_|refine Z7 (fun _=>?_) fun _=>?_)<;>(try simp (disch:=first|omega|(simp<;>omega)|fail) [*,Ze,Tryz.f204]))
     .have hq0':(q==[48])=false:=by simpa using hq0
      intro K H;refine Zh (fn:=Tryz.f204) rfl Tryz.func204 rfl rfl (by simp) (by simp) ?_ (by simp [*])
      ((try simp (disch:=first|omega|(simp<;>omega)|fail) [*,Ze,Tryz.f204]);repeat'(first|refine Z8 ?_|refine Z9 ?_|refine Z0 ?_|refine Z1 fun _=>?_|refine Z2 fun _ _=>?_|refine Z3 (fun _=>?_) fun _ _=>?_|refine Z4 fun _=>?_|refine Z5 fun _=>?_|refine Z6 (fun _=>?_) fun _=>?_|refine Z7 (fun _=>?_) fun _=>?_)<;>(try simp (disch:=first|omega|(simp<;>omega)|fail) [*,Ze,Tryz.f204]))
   | true=>
     have hs':(q==[48])=false:=by simpa using hs rfl
     clear hs;intro K H;refine Zh (fn:=Tryz.f204) rfl Tryz.func204 rfl rfl (by simp) (by simp) ?_ (by simp [*])
     ((try simp (disch:=first|omega|(simp<;>omega)|fail) [*,Ze,Tryz.f204]);repeat'(first|refine Z8 ?_|refine Z9 ?_|refine Z0 ?_|refine Z1 fun _=>?_|refine Z2 fun _ _=>?_|refine Z3 (fun _=>?_) fun _ _=>?_|refine Z4 fun _=>?_|refine Z5 fun _=>?_|refine Z6 (fun _=>?_) fun _=>?_|refine Z7 (fun _=>?_) fun _=>?_)<;>(try simp (disch:=first|omega|(simp<;>omega)|fail) [*,Ze,Tryz.f204]))
  .rw [if_neg hd] at Zk3 e1;have Z4h:=Zpm (Zi r.num) (Zi r.den) (R5 _) (by simp;omega);by_cases h9d:9 < (Zi r.den).length
   .refine ⟨0,0,false,?_⟩;generalize hqq:Zi r.num++47::Zi r.den=qq at *;generalize r.text=s at *;generalize Zi r.num=q at *;generalize Zi r.den=q2 at *;generalize r.neg=ng at *;clear h hd e1 e2 hs h209;intro K H;refine Zh (fn:=Tryz.f204) rfl Tryz.func204 rfl rfl (by simp) (by simp) ?_ (by simp [*])
    ((try simp (disch:=first|omega|(simp<;>omega)|fail) [*,Ze,Tryz.f204]);repeat'(first|refine Z8 ?_|refine Z9 ?_|refine Z0 ?_|refine Z1 fun _=>?_|refine Z2 fun _ _=>?_|refine Z3 (fun _=>?_) fun _ _=>?_|refine Z4 fun _=>?_|refine Z5 fun _=>?_|refine Z6 (fun _=>?_) fun _=>?_|refine Z7 (fun _=>?_) fun _=>?_)<;>(try simp (disch:=first|omega|(simp<;>omega)|fail) [*,Ze,Tryz.f204]))
   .have hq2:=Za3 r.den;have hn2:Yj (Zi r.den)=r.den:=Xa _;have Zaly:=Zxf (Zi r.den) hq2.1 (Zab _) (by omega);rw [hn2] at Zaly;have hb2:r.den < 10^9:=Nat.lt_of_lt_of_le (Xz _) (Nat.pow_le_pow_right (by omega) (by omega));have h210:=Z9y r.num r.den (by omega) (by omega);rw [h.low] at h210;have hdp:=h.den
    have Zr2:Zi r.num≠[48]:=by
     refine Ql fun e=>?_
     have:=h.low;rw [e,Nat.gcd_zero_left] at this;exact hd this
    have Zad2:(Zi r.num==[48])=false:=by simpa using Zr2
    refine ⟨if r.neg then -r.num else r.num,r.den,true,?_⟩;generalize hqq:Zi r.num++47::Zi r.den=qq at *;generalize r.text=s at *;generalize Zi r.num=q at *;generalize Zi r.den=q2 at *;generalize r.neg=ng at *;generalize r.num=N at *;generalize r.den=D at *;clear h e1 e2 hs hq1 hq2 hn1 hn2 Zr2;cases ng with
    | false=>
      intro K H;refine Zh (fn:=Tryz.f204) rfl Tryz.func204 rfl rfl (by simp) (by simp) ?_ (by simp [*])
      ((try simp (disch:=first|omega|(simp<;>omega)|fail) [*,Ze,Tryz.f204]);repeat'(first|refine Z8 ?_|refine Z9 ?_|refine Z0 ?_|refine Z1 fun _=>?_|refine Z2 fun _ _=>?_|refine Z3 (fun _=>?_) fun _ _=>?_|refine Z4 fun _=>?_|refine Z5 fun _=>?_|refine Z6 (fun _=>?_) fun _=>?_|refine Z7 (fun _=>?_) fun _=>?_)<;>(try simp (disch:=first|omega|(simp<;>omega)|fail) [*,Ze,Tryz.f204]))
    | true=>
      intro K H;refine Zh (fn:=Tryz.f204) rfl Tryz.func204 rfl rfl (by simp) (by simp) ?_ (by simp [*])
      ((try simp (disch:=first|omega|(simp<;>omega)|fail) [*,Ze,Tryz.f204]);repeat'(first|refine Z8 ?_|refine Z9 ?_|refine Z0 ?_|refine Z1 fun _=>?_|refine Z2 fun _ _=>?_|refine Z3 (fun _=>?_) fun _ _=>?_|refine Z4 fun _=>?_|refine Z5 fun _=>?_|refine Z6 (fun _=>?_) fun _=>?_|refine Z7 (fun _=>?_) fun _=>?_)<;>(try simp (disch:=first|omega|(simp<;>omega)|fail) [*,Ze,Tryz.f204]))
end Go.Proofs.YtabcdhcpilpojaaGreatDoor
end
section
set_option maxRecDepth 20000
namespace Go.Proofs.YtabcdhcpilpojaaGreatDoor
open Go Go.Pure
open Go.Virt (Ex Ctx Ty TK)
def Yg (n:Nat):List Nat:=if h:n=0 then [] else n % 1000000000::Yg (n / 1000000000)
 decreasing_by omega
def Vc:List Nat->Nat
 | []=>0
 | x::r=>x+1000000000*Vc r
theorem X2:Yg 0=[]:=by rw [Yg];simp
theorem V1 {n:Nat}(h:0 < n):Yg n=n % 1000000000::Yg (n / 1000000000):=by rw [Yg,dif_neg (by omega)]
theorem Zys:∀ n,Vc (Yg n)=n:=by
 intro n
 induction n using Nat.strongRecOn with
 | _ n ih=>
   rcases Nat.eq_zero_or_pos n with rfl | h
   .rw [X2];rfl
   .rw [V1 h,Vc,ih _ (by omega)];omega
theorem Z2k:∀ n,∀ x∈Yg n,x < 1000000000:=by
 intro n
 induction n using Nat.strongRecOn with
 | _ n ih=>
   rcases Nat.eq_zero_or_pos n with rfl | h
   .rw [X2];simp
   .rw [V1 h];intro x hx;rcases List.mem_cons.1 hx with rfl | hx
    .omega
    .exact ih _ (by omega) x hx
theorem Zum:∀ n,∀ h:Yg n≠[],(Yg n).getLast h≠0:=by
 intro n
 induction n using Nat.strongRecOn with
 | _ n ih=>
   intro h;rcases Nat.eq_zero_or_pos n with rfl | hp
   .exact absurd X2 h
   .revert h
    rw [V1 hp];intro h;rcases Nat.eq_zero_or_pos (n / 1000000000) with h0 | h0
    .have:Yg (n / 1000000000)=[]:=by rw [h0,X2]
     simp only [this,List.getLast_singleton];omega
    .have Ys:Yg (n / 1000000000)≠[]:=by rw [V1 h0];simp
     rw [List.getLast_cons Ys];exact ih _ (by omega) Ys
theorem Zm9:∀ xs:List Nat,(∀ x∈xs,x < 1000000000)->∃ k,xs=Yg (Vc xs)++List.replicate k 0
 | [],_=>⟨0,by simp [Vc,X2]⟩
 | x::r,h=>by
   obtain ⟨k,hk⟩:=Zm9 r fun y hy=>h y (by simp [hy])
   have hx:=h x (by simp);rw [Vc];rcases Nat.eq_zero_or_pos (x+1000000000*Vc r) with h0 | h0
   .have h1:x=0:=by omega
    have h2:Vc r=0:=by omega
    rw [h2,X2,List.nil_append] at hk;rw [h0,X2,h1];exact ⟨k+1,by rw [List.nil_append,List.replicate_succ,<- hk]⟩
   .rw [V1 h0];have h1:(x+1000000000*Vc r) % 1000000000=x:=by omega
    have h2:(x+1000000000*Vc r) / 1000000000=Vc r:=by omega
    rw [h1,h2];exact ⟨k,by rw [List.cons_append,<- hk]⟩
theorem Zqi (a b:List Nat):Vc (a++b)=Vc a+1000000000^a.length*Vc b:=by
 induction a with
 | nil=>simp [Vc]
 | cons x a ih=>
   rw [List.cons_append,Vc,Vc,ih,List.length_cons,Nat.pow_succ,Nat.mul_add];rw [<- Nat.mul_assoc,Nat.mul_comm 1000000000 (1000000000^a.length)];omega
abbrev U (b:Bool)(xs:List Nat):PV:=L 216 b (xs.map fun x:Nat=>PV.int .u32 (x:Int))
theorem Z9s (N k:Nat)(b:Bool)(hl:(Yg N).length+k < 2^30):Xr vE 218 [U b (Yg N++List.replicate k 0)] (U (b&&(Yg N++List.replicate k 0).isEmpty) (Yg N)):=by
 have Zwl:=Zum N;have htk:(Yg N++List.replicate k 0).take (Yg N).length=Yg N:=by simp
 have hz:∀ j (h:j < (Yg N++List.replicate k 0).length),(Yg N).length<=j->(Yg N++List.replicate k 0)[j]=0:=fun j h h2=>by
  rw [List.getElem_append_right h2];simp
 have hnz:∀ h:0 < (Yg N).length,∀ h2:(Yg N).length - 1 < (Yg N++List.replicate k 0).length,(Yg N++List.replicate k 0)[(Yg N).length - 1]≠0:=fun h h2=>by
  rw [List.getElem_append_left (by omega),<- List.getLast_eq_getElem (List.length_pos_iff.1 h)];exact Zwl _
 have hlen:(Yg N++List.replicate k 0).length=(Yg N).length+k:=by simp
 generalize Yg N++List.replicate k 0=xs at *;generalize hM:Yg N=ys at *;intro K H;refine Zh (fn:=Tryz.f218) rfl Tryz.func218 rfl rfl (by simp) (by simp) ?_ (by simp [*])
 ((try simp (disch:=first|omega|(simp<;>omega)|fail) [*,Ze,Tryz.f218]);repeat'(first|refine Z8 ?_|refine Z9 ?_|refine Z0 ?_|refine Z1 fun _=>?_|refine Z2 fun _ _=>?_|refine Z3 (fun _=>?_) fun _ _=>?_|refine Z4 fun _=>?_|refine Z5 fun _=>?_|refine Z6 (fun _=>?_) fun _=>?_|refine Z7 (fun _=>?_) fun _=>?_)<;>(try simp (disch:=first|omega|(simp<;>omega)|fail) [*,Ze,Tryz.f218]))
 refine Zz [0] (fun n sl h=>∃ j:Nat,n=j/\ys.length<=j/\j<=xs.length/\sl 3=some (.int .i64 j)) xs.length rfl ⟨xs.length,rfl,by omega,by omega,by simp;omega⟩ ?_;rintro n sl h hf ⟨j,hn,hj1,hj2,h3⟩;simp at hf;by_cases hlt:ys.length < j
 .have h0:=hz (j - 1) (by omega) (by omega);have e1:((j:Int) - 1).toNat=j - 1:=by omega
  clear hz hnz Zwl htk
  ((try simp (disch:=first|omega|(simp<;>omega)|fail) [*,Ze]);repeat'(first|refine Z8 ?_|refine Z9 ?_|refine Z0 ?_|refine Z1 fun _=>?_|refine Z2 fun _ _=>?_|refine Z3 (fun _=>?_) fun _ _=>?_|refine Z4 fun _=>?_|refine Z5 fun _=>?_|refine Z6 (fun _=>?_) fun _=>?_|refine Z7 (fun _=>?_) fun _=>?_)<;>(try simp (disch:=first|omega|(simp<;>omega)|fail) [*,Ze]))
  exact ⟨j - 1,by omega,by omega,by omega,by omega⟩
 .have hj:j=ys.length:=by omega
  subst hj;by_cases hy:ys.length=0
  .have hy':ys=[]:=List.length_eq_zero_iff.1 hy;subst hy';clear hz hnz Zwl
   ((try simp (disch:=first|omega|(simp<;>omega)|fail) [*,Ze]);repeat'(first|refine Z8 ?_|refine Z9 ?_|refine Z0 ?_|refine Z1 fun _=>?_|refine Z2 fun _ _=>?_|refine Z3 (fun _=>?_) fun _ _=>?_|refine Z4 fun _=>?_|refine Z5 fun _=>?_|refine Z6 (fun _=>?_) fun _=>?_|refine Z7 (fun _=>?_) fun _=>?_)<;>(try simp (disch:=first|omega|(simp<;>omega)|fail) [*,Ze]))
   rfl
  .have h0:=hnz (by omega) (by omega);have e1:((ys.length:Int) - 1).toNat=ys.length - 1:=by omega
   have htk':(xs.map fun x:Nat=>PV.int .u32 (x:Int)).take ys.length=ys.map fun x:Nat=>PV.int .u32 (x:Int):=by
    rw [<- List.map_take,htk]
   clear hz hnz Zwl
   ((try simp (disch:=first|omega|(simp<;>omega)|fail) [*,Ze]);repeat'(first|refine Z8 ?_|refine Z9 ?_|refine Z0 ?_|refine Z1 fun _=>?_|refine Z2 fun _ _=>?_|refine Z3 (fun _=>?_) fun _ _=>?_|refine Z4 fun _=>?_|refine Z5 fun _=>?_|refine Z6 (fun _=>?_) fun _=>?_|refine Z7 (fun _=>?_) fun _=>?_)<;>(try simp (disch:=first|omega|(simp<;>omega)|fail) [*,Ze]))
theorem Zlr (xs:List Nat)(b:Bool)(hx:∀ x∈xs,x < 1000000000)(hl:xs.length < 2^30):Xr vE 218 [U b xs] (U (b&&xs.isEmpty) (Yg (Vc xs))):=by
 obtain ⟨k,hk⟩:=Zm9 xs hx
 have hle:(Yg (Vc xs)).length+k=xs.length:=by
  have:=congrArg List.length hk;simp at this;omega
 have:=Z9s (Vc xs) k b (by omega)
 rwa [<- hk] at this
set_option maxHeartbeats 4000000 in
theorem Zxe (n:Nat)(hl:(Zi n).length < 2^20):Xr vE 211 [.str (Zi n)] (U false (Yg n)):=by
 have hd:=(Za3 n).1;have hn:=Xa n;have U9:0 < (Zi n).length:=List.length_pos_iff.2 (Zab n);generalize Zi n=s at *;intro K H;refine Zh (fn:=Tryz.f211) rfl Tryz.func211 rfl rfl (by simp) (by simp) ?_ (by simp [*])
 ((try simp (disch:=first|omega|(simp<;>omega)|fail) [*,Ze,Tryz.f211]);repeat'(first|refine Z8 ?_|refine Z9 ?_|refine Z0 ?_|refine Z1 fun _=>?_|refine Z2 fun _ _=>?_|refine Z3 (fun _=>?_) fun _ _=>?_|refine Z4 fun _=>?_|refine Z5 fun _=>?_|refine Z6 (fun _=>?_) fun _=>?_|refine Z7 (fun _=>?_) fun _=>?_)<;>(try simp (disch:=first|omega|(simp<;>omega)|fail) [*,Ze,Tryz.f211]))
 refine Zz [0] (fun m sl h=>∃ (e:Nat) (q:Int) (xs:List Nat) (w:PV),m=e/\(q=e\/e=0 /\ -9<=q/\q<=0)/\e<=s.length/\sl 4=some (.int .i64 q)/\sl 3=some w/\Acc [36] ⟨H.next,H.next,[]⟩ h 216 w (xs.map fun x:Nat=>PV.int .u32 (x:Int))/\(∀ x∈xs,x < 1000000000)/\xs.length<=s.length - e/\n=Vc xs+1000000000^xs.length*Yj (s.take e)/\(xs=[]->e=s.length)) s.length rfl ⟨s.length,s.length,[],.nils,rfl,Or.inl rfl,by omega,by simp,by simp,Acc.nil,by simp,by simp,by simp [Vc,hn],by simp⟩ ?_;rintro m sl h hf ⟨e,q,xs,w,hm,hq,he,h4,h3,hA,hx,hxl,hv,Ys⟩;simp at hf;by_cases h0:e=0
 .subst h0;have hq0:q<=0:=by omega
  rw [List.take_zero,show Yj []=0 from rfl,Nat.mul_zero,Nat.add_zero] at hv;have hxne:xs≠[]:=fun e=>by have:=Ys e;omega
  have Zzj:=Zlr xs true hx (by omega);rw [<- hv] at Zzj;have Tk:(true&&xs.isEmpty)=false:=by simpa using hxne
  rw [Tk] at Zzj;obtain ⟨h',hc,Rg,hg⟩:=hA.callF (C:=vE) (f:=218) rfl rfl [] [] Zzj (fun _=>by simp) rfl rfl;simp only [List.nil_append] at hc;clear hn Ys hx hxl hv hd
  ((try simp (disch:=first|omega|(simp<;>omega)|fail) [*,Ze]);repeat'(first|refine Z8 ?_|refine Z9 ?_|refine Z0 ?_|refine Z1 fun _=>?_|refine Z2 fun _ _=>?_|refine Z3 (fun _=>?_) fun _ _=>?_|refine Z4 fun _=>?_|refine Z5 fun _=>?_|refine Z6 (fun _=>?_) fun _=>?_|refine Z7 (fun _=>?_) fun _=>?_)<;>(try simp (disch:=first|omega|(simp<;>omega)|fail) [*,Ze]))
 .have hqe:q=e:=by omega
  subst hqe;obtain ⟨c0,hc0⟩:∃ c0,c0=e - 9:=⟨_,rfl⟩
  have hmx:max ((e:Int) - 9) 0=c0:=by omega
  have hcl:e<=Virt.maxLenV+c0:=by rw [Qi];omega
  have hce:c0 < e:=by omega
  have htk:s.take e=s.take c0++(s.drop c0).take (e - c0):=by
   rw [<- List.take_add];congr 1;omega
  have hchl:((s.drop c0).take (e - c0)).length=e - c0:=by simp;omega
  have Z8k:∀ c∈(s.drop c0).take (e - c0),48<=c/\c<=57:=fun c hc=>hd c (List.drop_subset _ _ (List.take_subset _ _ hc))
  have hmp:List.take (e - c0) (List.drop c0 (s.map fun b:Nat=>PV.int IntKind.u8 (b:Int)))=((s.drop c0).take (e - c0)).map fun b:Nat=>PV.int IntKind.u8 (b:Int):=by rw [List.map_take,List.map_drop]
  generalize hch:(s.drop c0).take (e - c0)=ch at *;have hbv:∀ i,i<=ch.length->Yj (ch.take i) < 10^9:=fun i hi=>Nat.lt_of_lt_of_le (Zqj Z8k i hi) (Nat.pow_le_pow_right (by omega) (by omega))
  rw [htk,Zh4] at hv;have h9:9<=e->ch.length=9:=fun h=>by omega
  have h9':e < 9->c0=0:=fun h=>by omega
  replace hc0:=Hide.mk hc0;replace hv:=Hide.mk hv;replace hch:=Hide.mk hch;replace htk:=Hide.mk htk;clear hd
  ((try simp (disch:=first|omega|(simp<;>omega)|fail) [*,Ze]);repeat'(first|refine Z8 ?_|refine Z9 ?_|refine Z0 ?_|refine Z1 fun _=>?_|refine Z2 fun _ _=>?_|refine Z3 (fun _=>?_) fun _ _=>?_|refine Z4 fun _=>?_|refine Z5 fun _=>?_|refine Z6 (fun _=>?_) fun _=>?_|refine Z7 (fun _=>?_) fun _=>?_)<;>(try simp (disch:=first|omega|(simp<;>omega)|fail) [*,Ze]))
  generalize hhh:h.put (H.next+20) (h.stamp (H.next+20)) (.row 5 true (ch.map fun b:Nat=>PV.int IntKind.u8 (b:Int)))=hh;generalize hv20:h.stamp (H.next+20)=v20 at *;have hg20:hh.get (H.next+20)=some (v20,.row 5 true (ch.map fun b:Nat=>PV.int IntKind.u8 (b:Int))):=by rw [<- hhh];simp
  have hA2:Acc [36] ⟨H.next,H.next,[]⟩ hh 216 w (xs.map fun x:Nat=>PV.int .u32 (x:Int)):=hA.frame fun d hd=>by simp at hd;subst hd;rw [<- hhh];simp
  clear hA hhh;refine Zz [0,3,4,20,21] (fun m sl h=>∃ i:Nat,m=ch.length - i/\i<=ch.length/\sl 22=some (.int .i64 i)/\sl 5=some (.int .u32 (Yj (ch.take i)))/\h=hh) ch.length rfl ⟨0,by simp,by simp,by simp,by simp [Yj,Ziw],rfl⟩ ?_;rintro m2 sl2 h2 hf2 ⟨i,hm2,hi,h22,h5,rfl⟩;simp [hf] at hf2;by_cases hlt:i < ch.length
  .have hc:=Z8k ch[i] (List.getElem_mem hlt);have hbi:=hbv i hi;have hbi2:=hbv (i+1) hlt
   have Xl:Yj (ch.take (i+1))=Yj (ch.take i)*10+(ch[i] - 48):=by
    rw [List.take_add_one,List.getElem?_eq_getElem hlt,Option.toList,Uo]
   generalize hsi:ch[i]=c at *;generalize hAA:Yj (ch.take i)=A at *;generalize hB:Yj (ch.take (i+1))=B at *;clear Z8k hbv hx hxl Ys hm he
   ((try simp (disch:=first|omega|(simp<;>omega)|fail) [*,Ze]);repeat'(first|refine Z8 ?_|refine Z9 ?_|refine Z0 ?_|refine Z1 fun _=>?_|refine Z2 fun _ _=>?_|refine Z3 (fun _=>?_) fun _ _=>?_|refine Z4 fun _=>?_|refine Z5 fun _=>?_|refine Z6 (fun _=>?_) fun _=>?_|refine Z7 (fun _=>?_) fun _=>?_)<;>(try simp (disch:=first|omega|(simp<;>omega)|fail) [*,Ze]))
   exact ⟨_,by omega,i+1,rfl,by omega,by omega,by rw [hB];omega⟩
  .have S7:i=ch.length:=by omega
   subst S7;rw [List.take_length] at h5;have hb2:=hbv ch.length (Nat.le_refl _);rw [List.take_length] at hb2;obtain ⟨w',h',hap,Vi,Zb1,Zm⟩:=hA2.app (dd:=36) (ys:=[PV.int .u32 (Yj ch)]) (T:={k:=.int .u32,size:=1,bytes:=4,zero:=[.int .u32 0]}) (by simp) rfl (by simp only [List.length_map,List.length_cons,List.length_nil];omega) (by decide) (by decide) (by simp);simp only [List.length_cons,List.length_nil] at hap;have Wp:=hA2.same (n:=3);have Zkq:=Vi.same (n:=3)
   have Z8o:Acc [36] ⟨H.next,H.next,[]⟩ h' 216 w' ((xs++[Yj ch]).map fun x:Nat=>PV.int .u32 (x:Int)):=by
    rw [List.map_append];exact Vi
   have hv':n=Vc (xs++[Yj ch])+1000000000^(xs++[Yj ch]).length*Yj (s.take c0):=by
    rw [hv.get,Zqi,List.length_append,List.length_cons,List.length_nil,Nat.pow_succ];by_cases h99:9<=e
    .rw [h9 h99];simp only [Vc];rw [Nat.mul_add,show (10:Nat)^9=1000000000 from rfl,Nat.mul_zero,Nat.add_zero,Nat.mul_assoc,Nat.mul_comm 1000000000 (Yj _)];omega
    .rw [h9' (by omega)];simp [Vc,show Yj []=0 from rfl]
   have hx':∀ x∈xs++[Yj ch],x < 1000000000:=by
    intro x hxx;rcases List.mem_append.1 hxx with h | h
    .exact hx x h
    .simp at h;omega
   replace Z8o:=Hide.mk Z8o;replace hv':=Hide.mk hv';replace hx':=Hide.mk hx';clear Z8k hbv hx Ys Zm Vi hA2
   ((try simp (disch:=first|omega|(simp<;>omega)|fail) [*,Ze]);repeat'(first|refine Z8 ?_|refine Z9 ?_|refine Z0 ?_|refine Z1 fun _=>?_|refine Z2 fun _ _=>?_|refine Z3 (fun _=>?_) fun _ _=>?_|refine Z4 fun _=>?_|refine Z5 fun _=>?_|refine Z6 (fun _=>?_) fun _=>?_|refine Z7 (fun _=>?_) fun _=>?_)<;>(try simp (disch:=first|omega|(simp<;>omega)|fail) [*,Ze]))
   have hc0':=hc0.get;refine ⟨c0,by omega,?_⟩;by_cases h99:9<=e
   .exact .inl ⟨by omega,by omega,_,Z8o.get,hx'.get,by simp;omega,hv'.get,by simp⟩
   .exact .inr ⟨_,⟨by omega,by omega,by omega⟩,by omega,rfl,_,Z8o.get,hx'.get,by simp;omega,hv'.get,by simp⟩
end Go.Proofs.YtabcdhcpilpojaaGreatDoor
end
section
set_option maxRecDepth 20000
namespace Go.Proofs.YtabcdhcpilpojaaGreatDoor
open Go Go.Pure
open Go.Virt (Ex Ctx Ty TK)
theorem Zas {d:Nat}(h0:0 < d)(h:d < 1000000000):Yg d=[d]:=by
 rw [V1 h0];have:d / 1000000000=0:=by omega
 rw [this,X2];congr 1;omega
theorem Zm8 {n:Nat}(h:1000000000<=n):2<=(Yg n).length:=by
 rw [V1 (by omega),V1 (by omega:0 < n / 1000000000)];simp
theorem Z9p (n d:Nat)(h0:0 < d)(hd:d < 1000000000)(hl:(Yg n).length < 2^30):∃ c:Int,(c < 0↔n < d)/\Xr vE 226 [U false (Yg n),U false [d]] (.int .i64 c):=by
 rcases Nat.eq_zero_or_pos n with rfl | hp
 .refine ⟨-1,by simp;omega,?_⟩;rw [X2];intro K H;refine Zh (fn:=Tryz.f226) rfl Tryz.func226 rfl rfl (by simp) (by simp) ?_ (by simp [*])
  ((try simp (disch:=first|omega|(simp<;>omega)|fail) [*,Ze,Tryz.f226]);repeat'(first|refine Z8 ?_|refine Z9 ?_|refine Z0 ?_|refine Z1 fun _=>?_|refine Z2 fun _ _=>?_|refine Z3 (fun _=>?_) fun _ _=>?_|refine Z4 fun _=>?_|refine Z5 fun _=>?_|refine Z6 (fun _=>?_) fun _=>?_|refine Z7 (fun _=>?_) fun _=>?_)<;>(try simp (disch:=first|omega|(simp<;>omega)|fail) [*,Ze,Tryz.f226]))
 .rcases Nat.lt_or_ge n 1000000000 with hn | hn
  .refine ⟨(n:Int) - d,by omega,?_⟩;rw [Zas hp hn];intro K H;refine Zh (fn:=Tryz.f226) rfl Tryz.func226 rfl rfl (by simp) (by simp) ?_ (by simp [*])
   ((try simp (disch:=first|omega|(simp<;>omega)|fail) [*,Ze,Tryz.f226]);repeat'(first|refine Z8 ?_|refine Z9 ?_|refine Z0 ?_|refine Z1 fun _=>?_|refine Z2 fun _ _=>?_|refine Z3 (fun _=>?_) fun _ _=>?_|refine Z4 fun _=>?_|refine Z5 fun _=>?_|refine Z6 (fun _=>?_) fun _=>?_|refine Z7 (fun _=>?_) fun _=>?_)<;>(try simp (disch:=first|omega|(simp<;>omega)|fail) [*,Ze,Tryz.f226]))
   refine Zz [0,1] (fun m sl h=>m=1/\sl 5=some (.int .i64 0)\/m=0/\n=d/\sl 5=some (.int .i64 (-1))) 1 rfl (Or.inl ⟨rfl,by simp⟩) ?_;rintro m sl h hf (⟨rfl,h5⟩ | ⟨rfl,rfl,h5⟩)
   .simp at hf
    ((try simp (disch:=first|omega|(simp<;>omega)|fail) [*,Ze]);repeat'(first|refine Z8 ?_|refine Z9 ?_|refine Z0 ?_|refine Z1 fun _=>?_|refine Z2 fun _ _=>?_|refine Z3 (fun _=>?_) fun _ _=>?_|refine Z4 fun _=>?_|refine Z5 fun _=>?_|refine Z6 (fun _=>?_) fun _=>?_|refine Z7 (fun _=>?_) fun _=>?_)<;>(try simp (disch:=first|omega|(simp<;>omega)|fail) [*,Ze]))
    omega
   .simp at hf
    ((try simp (disch:=first|omega|(simp<;>omega)|fail) [*,Ze]);repeat'(first|refine Z8 ?_|refine Z9 ?_|refine Z0 ?_|refine Z1 fun _=>?_|refine Z2 fun _ _=>?_|refine Z3 (fun _=>?_) fun _ _=>?_|refine Z4 fun _=>?_|refine Z5 fun _=>?_|refine Z6 (fun _=>?_) fun _=>?_|refine Z7 (fun _=>?_) fun _=>?_)<;>(try simp (disch:=first|omega|(simp<;>omega)|fail) [*,Ze]))
  .refine ⟨((Yg n).length:Int) - 1,by have:=Zm8 hn;omega,?_⟩;have h2:=Zm8 hn;generalize Yg n=xs at *;intro K H;refine Zh (fn:=Tryz.f226) rfl Tryz.func226 rfl rfl (by simp) (by simp) ?_ (by simp [*])
   ((try simp (disch:=first|omega|(simp<;>omega)|fail) [*,Ze,Tryz.f226]);repeat'(first|refine Z8 ?_|refine Z9 ?_|refine Z0 ?_|refine Z1 fun _=>?_|refine Z2 fun _ _=>?_|refine Z3 (fun _=>?_) fun _ _=>?_|refine Z4 fun _=>?_|refine Z5 fun _=>?_|refine Z6 (fun _=>?_) fun _=>?_|refine Z7 (fun _=>?_) fun _=>?_)<;>(try simp (disch:=first|omega|(simp<;>omega)|fail) [*,Ze,Tryz.f226]))
theorem Zmr {xs:List Nat}{i:Nat}(h:i < xs.length):Vc (xs.drop i)=xs[i]+1000000000*Vc (xs.drop (i+1)):=by
 rw [List.drop_eq_getElem_cons h,Vc]
theorem Z4w (r x Q d B:Nat)(hd:0 < d):(r*B+x) / d*d+B*Q*d+(r*B+x) % d=x+B*(Q*d+r):=by
 have h1:=Nat.div_add_mod (r*B+x) d;have h2:(r*B+x) / d*d=d*((r*B+x) / d):=Nat.mul_comm _ _;have h3:B*(Q*d+r)=B*Q*d+r*B:=by rw [Nat.mul_add,Nat.mul_assoc,Nat.mul_comm B r]
 omega
set_option maxHeartbeats 4000000 in
theorem Z9o (n d:Nat)(h0:0 < d)(hd:d < 1000000000)(hn:0 < n)(hl:(Yg n).length < 2^29):Xr vE 227 [U false (Yg n),.int .u32 d] (.tuple [U false (Yg (n / d)),U false (Yg (n % d))]):=by
 have hxs:=Z2k n;have hv:=Zys n;have Ys:(Yg n).length≠0:=by rw [V1 hn];simp
 have hl':(Yg n).length<=Virt.maxLenV:=by rw [Qi];omega
 generalize Yg n=xs at *;have hl2:((xs.length:Int)).toNat=xs.length:=by omega
 intro K H;refine Zh (fn:=Tryz.f227) rfl Tryz.func227 rfl rfl (by simp) (by simp) ?_ (by simp [*])
 ((try simp (disch:=first|omega|(simp<;>omega)|fail) [*,Ze,Tryz.f227]);repeat'(first|refine Z8 ?_|refine Z9 ?_|refine Z0 ?_|refine Z1 fun _=>?_|refine Z2 fun _ _=>?_|refine Z3 (fun _=>?_) fun _ _=>?_|refine Z4 fun _=>?_|refine Z5 fun _=>?_|refine Z6 (fun _=>?_) fun _=>?_|refine Z7 (fun _=>?_) fun _=>?_)<;>(try simp (disch:=first|omega|(simp<;>omega)|fail) [*,Ze,Tryz.f227]))
 generalize hv12:H.stamp (H.next+12)=v12;refine Zz [0,1,6] (fun m sl h=>∃ (i:Nat) (q:List Nat) (r:Nat),m=i/\i<=xs.length/\sl 8=some (.int .i64 ((i:Int) - 1))/\sl 7=some (.int .u64 r)/\h.get (H.next+12)=some (v12,.row 216 true (q.map fun x:Nat=>PV.int .u32 (x:Int)))/\q.length=xs.length/\r < d/\Vc (q.drop i)*d+r=Vc (xs.drop i)/\∀ x∈q,x < 1000000000) xs.length rfl ⟨xs.length,List.replicate xs.length 0,0,rfl,Nat.le_refl _,by simp,by simp,by simp [*],by simp,h0,by simp [Vc],by simp⟩ ?_;rintro m sl h hf ⟨i,q,r,hm,hi,h8,h7,h12,hql,hr,hq,hqB⟩;simp at hf;by_cases hlt:0 < i
 .obtain ⟨j,rfl⟩:∃ j,i=j+1:=⟨i - 1,by omega⟩
  have hx:=hxs xs[j] (List.getElem_mem (by omega:j < xs.length));have hqj:j < q.length:=by omega
  have hvs:Vc (xs.drop j)=xs[j]+1000000000*Vc (xs.drop (j+1)):=Zmr (by omega);generalize hxj:xs[j]=x at *;have Zaw:=Z4w r x (Vc (q.drop (j+1))) d 1000000000 h0;rw [hq,<- hvs] at Zaw
  have hvd:(r*1000000000+x) / d < 1000000000:=by
   rw [Nat.div_lt_iff_lt_mul h0];have:r*1000000000+1000000000<=d*1000000000:=by omega
   omega
  have hvm:(r*1000000000+x) % d < d:=Nat.mod_lt _ h0;generalize hV:r*1000000000+x=V at *;have hVi:(r:Int)*1000000000+x=V:=by omega
  have hVb:V < 1000000000*1000000000+1000000000:=by omega
  have htd:Int.tdiv (V:Int) (d:Int)=((V / d:Nat):Int):=by
   rw [Int.tdiv_eq_ediv_of_nonneg (by omega)];rfl
  have htm:Int.tmod (V:Int) (d:Int)=((V % d:Nat):Int):=by
   rw [Int.tmod_eq_emod_of_nonneg (by omega)];rfl
  have Sr:∀ x∈q.set j (V / d),x < 1000000000:=fun y hy=>by
   rcases List.mem_or_eq_of_mem_set hy with h | rfl
   .exact hqB y h
   .exact hvd
  have hdr:Vc ((q.set j (V / d)).drop j)=V / d+1000000000*Vc (q.drop (j+1)):=by
   rw [Zmr (by simpa using hqj),List.drop_set_of_lt (by omega)];simp
  have Wa:Vc ((q.set j (V / d)).drop j)*d+V % d=Vc (xs.drop j):=by
   rw [hdr,Nat.add_mul];omega
  have hd0:d≠0:=by omega
  have hW:(V:Int) / (d:Int)=((V / d:Nat):Int):=rfl;have hM:(V:Int) % (d:Int)=((V % d:Nat):Int):=rfl;generalize V / d=W at *;generalize V % d=M at *;replace Sr:=Hide.mk Sr;replace Wa:=Hide.mk Wa;clear Zaw hdr hqB hq hxs hvs;have e1:((j:Int)+1 - 1)=j:=by omega
  ((try simp (disch:=first|omega|(simp<;>omega)|fail) [*,Ze]);repeat'(first|refine Z8 ?_|refine Z9 ?_|refine Z0 ?_|refine Z1 fun _=>?_|refine Z2 fun _ _=>?_|refine Z3 (fun _=>?_) fun _ _=>?_|refine Z4 fun _=>?_|refine Z5 fun _=>?_|refine Z6 (fun _=>?_) fun _=>?_|refine Z7 (fun _=>?_) fun _=>?_)<;>(try simp (disch:=first|omega|(simp<;>omega)|fail) [*,Ze]))
  exact ⟨j,by omega,by omega,rfl,q.set j W,M,rfl,by rw [List.map_set],by simp [hql],hvm,Wa.get,Sr.get⟩
 .have hi0:i=0:=by omega
  subst hi0;simp only [List.drop_zero] at hq;rw [hv] at hq
  have hqn:Vc q=n / d:=by
   rw [<- hq,Nat.mul_comm,Nat.mul_add_div h0,Nat.div_eq_of_lt hr];simp
  have hrn:r=n % d:=by
   rw [<- hq,Nat.mul_comm,Nat.mul_add_mod,Nat.mod_eq_of_lt hr]
  have hqne:q≠[]:=fun e=>by rw [e] at hql;exact Ys hql.symm
  have Zzj:=Zlr q true hqB (by omega);have Tk:(true&&q.isEmpty)=false:=by simpa using hqne
  rw [Tk,hqn] at Zzj;have Z4g:=Zlr [r] false (by simp;omega) (by simp);have hvr:Vc [r]=r:=by simp [Vc]
  rw [hvr] at Z4g;simp only [U,List.isEmpty_cons,Bool.and_false,List.map_cons,List.map_nil,Zc,Bool.and_self] at Z4g;rw [hrn] at Z4g h7;have hA:Acc [12] ⟨H.next,H.next,[]⟩ h 216 (.own (H.next+12) v12 216 0 xs.length) (q.map fun x:Nat=>PV.int .u32 (x:Int)):=Or.inr ⟨12,v12,by simpa using hqne,by simp,by simp [hql],h12⟩;obtain ⟨h',hc,Rg,hg⟩:=hA.callF (C:=vE) (f:=218) rfl rfl [] [] Zzj (fun _=>by simp) rfl rfl;simp only [List.nil_append] at hc;have hmd:n % d < d:=Nat.mod_lt _ h0;have hM:(n:Int) % (d:Int)=((n % d:Nat):Int):=rfl;generalize n % d=M at *;generalize n / d=W at *;clear hq hxs hA hqB hv hn hrn hqn hg
  ((try simp (disch:=first|omega|(simp<;>omega)|fail) [*,Ze]);repeat'(first|refine Z8 ?_|refine Z9 ?_|refine Z0 ?_|refine Z1 fun _=>?_|refine Z2 fun _ _=>?_|refine Z3 (fun _=>?_) fun _ _=>?_|refine Z4 fun _=>?_|refine Z5 fun _=>?_|refine Z6 (fun _=>?_) fun _=>?_|refine Z7 (fun _=>?_) fun _=>?_)<;>(try simp (disch:=first|omega|(simp<;>omega)|fail) [*,Ze]))
end Go.Proofs.YtabcdhcpilpojaaGreatDoor
end
section
set_option maxRecDepth 20000
namespace Go.Proofs.YtabcdhcpilpojaaGreatDoor
open Go Go.Pure
open Go.Virt (Ex Ctx Ty TK)
theorem Zf5 (a m n:Nat):(a+m).blt (a+n)=m.blt n:=by
 rw [Bool.eq_iff_iff,Nat.blt_eq,Nat.blt_eq];omega
theorem Z9r (n d:Nat)(h0:0 < d)(hd:d < 1000000000)(hl:(Yg n).length < 2^29):Xr vE 219 [U false (Yg n),U false [d]] (.tuple [U (decide (n < d)) (Yg (n / d)),U false (Yg (n % d))]):=by
 obtain ⟨c,hc,h226⟩:=Z9p n d h0 hd (by omega);by_cases hlt:n < d
 .have hc':=hc.2 hlt;rw [Nat.div_eq_of_lt hlt,Nat.mod_eq_of_lt hlt,X2,decide_eq_true hlt];generalize Yg n=xs at *;simp only [U,List.map_nil,List.map_cons,Zd,Zc,Se] at *;intro K H;refine Zh (fn:=Tryz.f219) rfl Tryz.func219 rfl rfl (by simp) (by simp) ?_ (by simp [*])
  ((try simp (disch:=first|omega|(simp<;>omega)|fail) [*,Ze,Tryz.f219]);repeat'(first|refine Z8 ?_|refine Z9 ?_|refine Z0 ?_|refine Z1 fun _=>?_|refine Z2 fun _ _=>?_|refine Z3 (fun _=>?_) fun _ _=>?_|refine Z4 fun _=>?_|refine Z5 fun _=>?_|refine Z6 (fun _=>?_) fun _=>?_|refine Z7 (fun _=>?_) fun _=>?_)<;>(try simp (disch:=first|omega|(simp<;>omega)|fail) [*,Ze,Tryz.f219]))
 .have hc':¬ c < 0:=fun h=>hlt (hc.1 h)
  have h227:=Z9o n d h0 hd (by omega) hl;rw [decide_eq_false hlt];generalize Yg n=xs at *;generalize Yg (n / d)=qs at *;generalize Yg (n % d)=rs at *;simp only [U,List.map_nil,List.map_cons,Zd,Zc,Se] at *;clear hc;intro K H;refine Zh (fn:=Tryz.f219) rfl Tryz.func219 rfl rfl (by simp) (by simp) ?_ (by simp [*])
  ((try simp (disch:=first|omega|(simp<;>omega)|fail) [*,Ze,Tryz.f219]);repeat'(first|refine Z8 ?_|refine Z9 ?_|refine Z0 ?_|refine Z1 fun _=>?_|refine Z2 fun _ _=>?_|refine Z3 (fun _=>?_) fun _ _=>?_|refine Z4 fun _=>?_|refine Z5 fun _=>?_|refine Z6 (fun _=>?_) fun _=>?_|refine Z7 (fun _=>?_) fun _=>?_)<;>(try simp (disch:=first|omega|(simp<;>omega)|fail) [*,Ze,Tryz.f219]))
theorem Zma (n:Nat):(Yg n).length<=(Zi n).length:=by
 induction n using Nat.strongRecOn with
 | _ n ih=>
   rcases Nat.eq_zero_or_pos n with rfl | hn
   .rw [X2];simp
   .rw [V1 hn];rcases Nat.lt_or_ge n 1000000000 with h | h
    .have:n / 1000000000=0:=by omega
     rw [this,X2];have:=List.length_pos_iff.2 (Zab n);simp;omega
    .have h1:=ih (n / 1000000000) (by omega);have h2:(Zi (n / 1000000000)).length<=(Zi (n / 10)).length:=X9 (by omega)
     have h3:(Zi n).length=(Zi (n / 10)).length+1:=by
      conv=>lhs;rw [Zi]
      rw [if_neg (by omega)];simp
     simp;omega
theorem Z9x (n d:Nat)(hd:d < 1000000000)(hl:(Yg n).length < 2^28):Xr vE 212 [U false (Yg n),U false (Yg d)] (U false (Yg (Nat.gcd n d))):=by
 intro K H;refine Zh (fn:=Tryz.f212) rfl Tryz.func212 rfl rfl (by simp) (by simp) ?_ (by simp [*])
 ((try simp (disch:=first|omega|(simp<;>omega)|fail) [*,Ze,Tryz.f212]);repeat'(first|refine Z8 ?_|refine Z9 ?_|refine Z0 ?_|refine Z1 fun _=>?_|refine Z2 fun _ _=>?_|refine Z3 (fun _=>?_) fun _ _=>?_|refine Z4 fun _=>?_|refine Z5 fun _=>?_|refine Z6 (fun _=>?_) fun _=>?_|refine Z7 (fun _=>?_) fun _=>?_)<;>(try simp (disch:=first|omega|(simp<;>omega)|fail) [*,Ze,Tryz.f212]))
 refine Zz [] (fun m sl h=>∃ x y:Nat,m=y/\y < 1000000000/\(Yg x).length < 2^29/\sl 0=some (U false (Yg x))/\sl 1=some (U false (Yg y))/\Nat.gcd x y=Nat.gcd n d) d rfl ⟨n,d,rfl,hd,by omega,by simp,by simp,rfl⟩ ?_;rintro m sl h hf ⟨x,y,hm,hy,hx,h0,h1,hg⟩;simp at hf;by_cases hy0:y=0
 .subst hy0;rw [Nat.gcd_zero_right] at hg;rw [X2] at h1;rw [hg] at h0;generalize Yg (Nat.gcd n d)=r at *;simp only [U,List.map_nil,List.map_cons,Zd,Zc,Se] at *
  ((try simp (disch:=first|omega|(simp<;>omega)|fail) [*,Ze]);repeat'(first|refine Z8 ?_|refine Z9 ?_|refine Z0 ?_|refine Z1 fun _=>?_|refine Z2 fun _ _=>?_|refine Z3 (fun _=>?_) fun _ _=>?_|refine Z4 fun _=>?_|refine Z5 fun _=>?_|refine Z6 (fun _=>?_) fun _=>?_|refine Z7 (fun _=>?_) fun _=>?_)<;>(try simp (disch:=first|omega|(simp<;>omega)|fail) [*,Ze]))
 .have h219:=Z9r x y (by omega) hy hx;have hlt:x % y < y:=Nat.mod_lt _ (by omega);have hly:(Yg y).length < 2^29:=by rw [Zas (by omega) hy];simp
  have hgn:Nat.gcd y (x % y)=Nat.gcd n d:=by rw [Nat.gcd_comm y,<- Nat.gcd_rec,Nat.gcd_comm,hg]
  rw [Zas (by omega) hy] at h1;have e1:PV.lst 216 [.int .u32 y]=U false (Yg y):=by rw [Zas (by omega) hy];rfl
  generalize hrs:Yg (x % y)=rs at *;generalize Yg (x / y)=qs at *;generalize Yg x=xs at *;replace hrs:=Hide.mk hrs;replace e1:=Hide.mk e1;simp only [U,List.map_nil,List.map_cons,Zd,Zc,Se] at h219 h0 h1;clear hg
  ((try simp (disch:=first|omega|(simp<;>omega)|fail) [*,Ze]);repeat'(first|refine Z8 ?_|refine Z9 ?_|refine Z0 ?_|refine Z1 fun _=>?_|refine Z2 fun _ _=>?_|refine Z3 (fun _=>?_) fun _ _=>?_|refine Z4 fun _=>?_|refine Z5 fun _=>?_|refine Z6 (fun _=>?_) fun _=>?_|refine Z7 (fun _=>?_) fun _=>?_)<;>(try simp (disch:=first|omega|(simp<;>omega)|fail) [*,Ze]))
  exact ⟨x % y,hlt,by omega,y,by omega,e1.get,by rw [hrs.get];rfl,hgn⟩
theorem Z9w:Xr vE 213 [.lst 216 [.int .u32 1]] (.bool true):=by
 intro K H;refine Zh (fn:=Tryz.f213) rfl Tryz.func213 rfl rfl (by simp) (by simp) ?_ (by simp [*])
 ((try simp (disch:=first|omega|(simp<;>omega)|fail) [*,Ze,Tryz.f213]);repeat'(first|refine Z8 ?_|refine Z9 ?_|refine Z0 ?_|refine Z1 fun _=>?_|refine Z2 fun _ _=>?_|refine Z3 (fun _=>?_) fun _ _=>?_|refine Z4 fun _=>?_|refine Z5 fun _=>?_|refine Z6 (fun _=>?_) fun _=>?_|refine Z7 (fun _=>?_) fun _=>?_)<;>(try simp (disch:=first|omega|(simp<;>omega)|fail) [*,Ze,Tryz.f213]))
set_option maxHeartbeats 4000000 in
theorem Z90 {r:Rt}(h:r.Ok)(hl:r.text.length < 2^20)(hd:r.den < 1000000000):∃ (ng:Bool) (xs ys:List PV),Xr vE 205 [.str r.text] (.tuple [.agg [.bool ng,.lst 216 xs,.lst 216 ys],.bool true]):=by
 obtain ⟨e1,e2⟩:=Tb r;have hl1:=(Vd r).1;have hl2:=(Vd r).2;have Zk3:=Zpn r.text (by omega);rw [e1,e2] at Zk3;have h199:=Zc8 r.num (by omega);have h211:=Zxe r.num (by omega);have hs:r.neg=true->Zi r.num≠[48]:=fun hn=>Ql (h.sign hn)
 by_cases hd1:r.den=1
 .refine ⟨r.neg,(Yg r.num).map fun x:Nat=>PV.int .u32 (x:Int),[.int .u32 1],?_⟩;rw [if_pos hd1,List.append_nil] at Zk3;have Z4h:=Zls (Zi r.num) (R5 _) (by omega);generalize Yg r.num=xs at *;generalize r.text=s at *;generalize Zi r.num=q at *;generalize r.neg=ng at *;simp only [U,List.map_nil,List.map_cons,Zd,Zc,Se] at *;clear h hd1 e1 e2 hl2;cases ng with
  | false=>
    clear hs;by_cases hq0:q=[48]
    .subst hq0;intro K H;refine Zh (fn:=Tryz.f205) rfl Tryz.func205 rfl rfl (by simp) (by simp) ?_ (by simp [*])
     ((try simp (disch:=first|omega|(simp<;>omega)|fail) [*,Ze,Tryz.f205]);repeat'(first|refine Z8 ?_|refine Z9 ?_|refine Z0 ?_|refine Z1 fun _=>?_|refine Z2 fun _ _=>?_|refine Z3 (fun _=>?_) fun _ _=>?_|refine Z4 fun _=>?_|refine Z5 fun _=>?_|refine Z6 (fun _=>?_) fun _=>?_|refine Z7 (fun _=>?_) fun _=>?_)<;>(try simp (disch:=first|omega|(simp<;>omega)|fail) [*,Ze,Tryz.f205]))
    .have hq0':(q==[48])=false:=by simpa using hq0
     intro K H;refine Zh (fn:=Tryz.f205) rfl Tryz.func205 rfl rfl (by simp) (by simp) ?_ (by simp [*])
     ((try simp (disch:=first|omega|(simp<;>omega)|fail) [*,Ze,Tryz.f205]);repeat'(first|refine Z8 ?_|refine Z9 ?_|refine Z0 ?_|refine Z1 fun _=>?_|refine Z2 fun _ _=>?_|refine Z3 (fun _=>?_) fun _ _=>?_|refine Z4 fun _=>?_|refine Z5 fun _=>?_|refine Z6 (fun _=>?_) fun _=>?_|refine Z7 (fun _=>?_) fun _=>?_)<;>(try simp (disch:=first|omega|(simp<;>omega)|fail) [*,Ze,Tryz.f205]))
  | true=>
    have hs':(q==[48])=false:=by simpa using hs rfl
    clear hs;intro K H;refine Zh (fn:=Tryz.f205) rfl Tryz.func205 rfl rfl (by simp) (by simp) ?_ (by simp [*])
    ((try simp (disch:=first|omega|(simp<;>omega)|fail) [*,Ze,Tryz.f205]);repeat'(first|refine Z8 ?_|refine Z9 ?_|refine Z0 ?_|refine Z1 fun _=>?_|refine Z2 fun _ _=>?_|refine Z3 (fun _=>?_) fun _ _=>?_|refine Z4 fun _=>?_|refine Z5 fun _=>?_|refine Z6 (fun _=>?_) fun _=>?_|refine Z7 (fun _=>?_) fun _=>?_)<;>(try simp (disch:=first|omega|(simp<;>omega)|fail) [*,Ze,Tryz.f205]))
 .refine ⟨r.neg,(Yg r.num).map fun x:Nat=>PV.int .u32 (x:Int),(Yg r.den).map fun x:Nat=>PV.int .u32 (x:Int),?_⟩;rw [if_neg hd1] at Zk3 e1;have Z4h:=Zpm (Zi r.num) (Zi r.den) (R5 _) (by simp;omega);have Z4i:=Zc8 r.den (by omega);have Zaux:=Zxe r.den (by omega);have hnl:(Yg r.num).length < 2^28:=Nat.lt_of_le_of_lt (Zma _) (by omega);have h212:=Z9x r.num r.den hd hnl;rw [h.low] at h212;have hl1:Yg 1=[1]:=Zas (by omega) (by omega);rw [hl1] at h212;have h213:=Z9w
  have Zr2:Zi r.num≠[48]:=by
   refine Ql fun e=>?_
   have:=h.low;rw [e,Nat.gcd_zero_left] at this;exact hd1 this
  have Zad2:(Zi r.num==[48])=false:=by simpa using Zr2
  have Zauf:(Zi r.den==[48])=false:=by simpa using Ql (n:=r.den) (by have:=h.den;omega)
  have Zaue:(Zi r.den==[49])=false:=by
   rw [beq_eq_false_iff_ne];intro e;have h1:=Xa r.den;rw [e] at h1;exact hd1 (by rw [<- h1];rfl)
  generalize hqq:Zi r.num++47::Zi r.den=qq at *;generalize Yg r.num=xs at *;generalize Yg r.den=ys at *;generalize r.text=s at *;generalize Zi r.num=q at *;generalize Zi r.den=q2 at *;generalize r.neg=ng at *;simp only [U,List.map_nil,List.map_cons,Zd,Zc,Se] at *;clear h hd1 e1 e2 hs Zr2;cases ng with
  | false=>
    intro K H;refine Zh (fn:=Tryz.f205) rfl Tryz.func205 rfl rfl (by simp) (by simp) ?_ (by simp [*])
    ((try simp (disch:=first|omega|(simp<;>omega)|(simp[*];done)|fail) [*,Ze,Zd,Zc,Tryz.f205]);repeat'(first|refine Z1 fun _=>?_|refine Z2 fun _ _=>?_|refine Z3 (fun _=>?_) fun _ _=>?_|refine Z4 fun _=>?_|refine Z5 fun _=>?_|refine Z6 (fun _=>?_) fun _=>?_|refine Z7 (fun _=>?_) fun _=>?_)<;>(try simp (disch:=first|omega|(simp<;>omega)|(simp[*];done)|fail) [*,Ze,Zd,Zc,Tryz.f205]))
    refine Wm false false [] [58] [H.next+9] [63,64] true (by decide +kernel) ?_
    ((try simp (disch:=first|omega|(simp<;>omega)|(simp[*];done)|fail) [*,Ze,Zd,Zc,reach,Yb,Zf5]);repeat'(first|refine Z1 fun _=>?_|refine Z2 fun _ _=>?_|refine Z3 (fun _=>?_) fun _ _=>?_|refine Z4 fun _=>?_|refine Z5 fun _=>?_|refine Z6 (fun _=>?_) fun _=>?_|refine Z7 (fun _=>?_) fun _=>?_)<;>(try simp (disch:=first|omega|(simp<;>omega)|(simp[*];done)|fail) [*,Ze,Zd,Zc,reach,Yb,Zf5]))
    exact absurd ‹Nat.blt 9 65=false› (by decide)
  | true=>
    intro K H;refine Zh (fn:=Tryz.f205) rfl Tryz.func205 rfl rfl (by simp) (by simp) ?_ (by simp [*])
    ((try simp (disch:=first|omega|(simp<;>omega)|(simp[*];done)|fail) [*,Ze,Zd,Zc,Tryz.f205]);repeat'(first|refine Z1 fun _=>?_|refine Z2 fun _ _=>?_|refine Z3 (fun _=>?_) fun _ _=>?_|refine Z4 fun _=>?_|refine Z5 fun _=>?_|refine Z6 (fun _=>?_) fun _=>?_|refine Z7 (fun _=>?_) fun _=>?_)<;>(try simp (disch:=first|omega|(simp<;>omega)|(simp[*];done)|fail) [*,Ze,Zd,Zc,Tryz.f205]))
    refine Wm false false [] [58] [H.next+9] [63,64] true (by decide +kernel) ?_
    ((try simp (disch:=first|omega|(simp<;>omega)|(simp[*];done)|fail) [*,Ze,Zd,Zc,reach,Yb,Zf5]);repeat'(first|refine Z1 fun _=>?_|refine Z2 fun _ _=>?_|refine Z3 (fun _=>?_) fun _ _=>?_|refine Z4 fun _=>?_|refine Z5 fun _=>?_|refine Z6 (fun _=>?_) fun _=>?_|refine Z7 (fun _=>?_) fun _=>?_)<;>(try simp (disch:=first|omega|(simp<;>omega)|(simp[*];done)|fail) [*,Ze,Zd,Zc,reach,Yb,Zf5]))
    exact absurd ‹Nat.blt 9 65=false› (by decide)
theorem Zxg {r:Rt}(h:r.Ok)(hl:r.text.length < 2^20)(hd:r.den < 1000000000):Xr vE 197 [.str r.text] (.bool true):=by
 obtain ⟨n,d,b,h204⟩:=Z91 h hl;obtain ⟨ng,xs,ys,h205⟩:=Z90 h hl hd;generalize r.text=s at *;cases b with
 | true=>
   intro K H;refine Zh (fn:=Tryz.f197) rfl Tryz.func197 rfl rfl (by simp) (by simp) ?_ (by simp [*])
   ((try simp (disch:=first|omega|(simp<;>omega)|fail) [*,Ze,Tryz.f197]);repeat'(first|refine Z8 ?_|refine Z9 ?_|refine Z0 ?_|refine Z1 fun _=>?_|refine Z2 fun _ _=>?_|refine Z3 (fun _=>?_) fun _ _=>?_|refine Z4 fun _=>?_|refine Z5 fun _=>?_|refine Z6 (fun _=>?_) fun _=>?_|refine Z7 (fun _=>?_) fun _=>?_)<;>(try simp (disch:=first|omega|(simp<;>omega)|fail) [*,Ze,Tryz.f197]))
 | false=>
   intro K H;refine Zh (fn:=Tryz.f197) rfl Tryz.func197 rfl rfl (by simp) (by simp) ?_ (by simp [*])
   ((try simp (disch:=first|omega|(simp<;>omega)|fail) [*,Ze,Tryz.f197]);repeat'(first|refine Z8 ?_|refine Z9 ?_|refine Z0 ?_|refine Z1 fun _=>?_|refine Z2 fun _ _=>?_|refine Z3 (fun _=>?_) fun _ _=>?_|refine Z4 fun _=>?_|refine Z5 fun _=>?_|refine Z6 (fun _=>?_) fun _=>?_|refine Z7 (fun _=>?_) fun _=>?_)<;>(try simp (disch:=first|omega|(simp<;>omega)|fail) [*,Ze,Tryz.f197]))
theorem Z94 {r:Rt}(h:r.Ok)(hl:r.text.length < 2^20)(hd:r.den=1)(hn:r.neg=false)(hn0:r.num≠0):Xr vE 184 [.str r.text] (.int .i64 1):=by
 have h197:=Zxg h hl (by omega);have e1:=Ql hn0;have e:r.text=Zi r.num:=by unfold Rt.text;rw [hn,hd];simp
 rw [e] at h197 ⊢
 obtain ⟨c,q,e2,e3,e4⟩:∃ c q,Zi r.num=c::q/\49<=c/\c<=57:=by
  rcases Zhz r.num with h | h
  .exact absurd h hn0
  .exact h
 rw [e2] at h197 ⊢;have e5:((c::q)==[48])=false:=by simp;omega
 clear e hn hn0 hd h e1;intro K H;refine Zh (fn:=Tryz.f184) rfl Tryz.func184 rfl rfl (by simp) (by simp) ?_ (by simp [*])
 ((try simp (disch:=first|omega|(simp<;>omega)|fail) [*,Ze,Tryz.f184]);repeat'(first|refine Z8 ?_|refine Z9 ?_|refine Z0 ?_|refine Z1 fun _=>?_|refine Z2 fun _ _=>?_|refine Z3 (fun _=>?_) fun _ _=>?_|refine Z4 fun _=>?_|refine Z5 fun _=>?_|refine Z6 (fun _=>?_) fun _=>?_|refine Z7 (fun _=>?_) fun _=>?_)<;>(try simp (disch:=first|omega|(simp<;>omega)|fail) [*,Ze,Tryz.f184]))
end Go.Proofs.YtabcdhcpilpojaaGreatDoor
end
