/- What the laws ask first is answered by computation. -/
import Derived.Test.YtabcdhcpilpojaaGreatDoorSm
import Derived.Test.YtabcdhcpilpojaaGreatDoorFA
import Derived.Test.YtabcdhcpilpojaaGreatDoorBL
import Derived.KernelRfl
import Derived.Shelf.Strings.Search1
import Derived.Test.YtabcdhcpilpojaaGreatDoorCards
import Derived.Test.YtabcdhcpilpojaaGreatDoorTie
import Derived.WalkKit
import Derived.ProofKit
import Derived.OpenShut
import Derived.SliceStrings
import Derived.ChangeMaps5
import Derived.Carry
import Derived.Deep.DeepHandedRow
import Derived.Deep.DeepWitnessRowRef
import Derived.Lib.LaidTab
set_option linter.unusedSimpArgs false
set_option linter.unusedVariables false
section
namespace Go.Proofs.YtabcdhcpilpojaaGreatDoor
open Go Go.Virt Go.Pure
set_option maxRecDepth 100000
theorem vDst:Tryz.prog.funcs.toList.all (fun fn=>match fn.body with | some c=>Ud fn.ntmps c | none=>true)=true:=by kernel_rfl
theorem Zah9:(Virt.call vC 200 19 [] VH.none).map (fun r=>r.1)=some (.bool true):=by kernel_rfl
theorem Zof:Virt.Enters Tryz.prog 19/\∀w,Calls Tryz.prog 19 #[] w fun e w'=>e=.returned (.bool true)/\RowKit.Below w.heap.size w w':=by
 have h:=Zah9;rw[Option.map_eq_some_iff]at h;obtain⟨⟨v,h'⟩,h1,h2⟩:=h;simp only at h2;subst h2;exact Zzr Z55 rfl h1 rfl rfl
end Go.Proofs.YtabcdhcpilpojaaGreatDoor
end
section
namespace Go.Proofs.YtabcdhcpilpojaaGreatDoor
open Go Go.Virt Go.Pure
set_option maxRecDepth 100000
def Z6j:Go.Shelf.Ren:=⟨fun x=>if x=217 then 230 else 240,fun x=>x,fun x=>x⟩
theorem Zac1:Go.Proofs.Lays.n217 Tryz.prog Z6j where
 mixed:=Checked.mixed Tryz.checked
 f217:=by kernel_rfl
 f266:=by kernel_rfl
 t3:=Tryz.underlying3
 a3:=fun w=>by kernel_rfl
 z3:=fun w=>by kernel_rfl
 v3:=fun w=>by kernel_rfl
 t5:=Tryz.underlying5
 a5:=fun w=>by kernel_rfl
 z5:=fun w=>by kernel_rfl
 v5:=fun w=>by kernel_rfl
 t9:=Tryz.underlying9
 a9:=fun w=>by kernel_rfl
 z9:=fun w=>by kernel_rfl
 v9:=fun w=>by kernel_rfl
theorem Zqx (b:ByteArray)(c:Int):Virt.Enters Tryz.prog 230/\∀w,Calls Tryz.prog 230 #[.string b,.int .u8 c] w fun e w'=>e=.returned (.int .i64 (Lib.indexByte b.data.toList c.toNat.toUInt8))/\RowKit.Below w.heap.size w w':=by
 refine⟨⟨_,_,Tryz.func230,by kernel_rfl,rfl⟩,fun w=>?_⟩;have h:=Go.Proofs.Any.stringslite_IndexByte Zac1 b c w;refine h.mono ?_;rintro e w' ⟨rfl,rfl⟩;exact⟨rfl,RowKit.Below.refl _ _⟩
theorem Zab7:Sound vE Tryz.prog:=
 Z55.more _ fun f args v h=>by
  split at h
  .rename_i hc;rw[Bool.and_eq_true]at hc;have hf:f=19:=Nat.eq_of_beq_eq_true hc.1;have ha:args=[]:=by simpa using hc.2
   cases h;subst hf;subst ha;exact⟨Zof.1,rfl,rfl,Zof.2⟩
  .unfold Z4j at h;split at h
   .rename_i b c x;split at h
    .rename_i hf;have hf:f=230:=Nat.eq_of_beq_eq_true hf;cases h;subst hf;exact⟨(Zqx b c).1,rfl,rfl,(Zqx b c).2⟩
    .cases h
   .cases h
theorem Zaoj:COkP vE where
 ext:=fun f a v h=>by
  replace h:(if Nat.beq f 19&&a.isEmpty then some (Value.bool true) else Z4j f a)=some v:=h;split at h
  .rename_i hc;rw[Bool.and_eq_true]at hc;exact Or.inl (by simpa using hc.2)
  .unfold Z4j at h;split at h
   .rename_i b c x;split at h
    .rename_i hf;have hf:f=230:=Nat.eq_of_beq_eq_true hf;subst hf;exact Or.inr ⟨by rfl,b,_,c,rfl⟩
    .cases h
   .cases h
 extP:=fun f a v h=>by
  replace h:(if Nat.beq f 19&&a.isEmpty then some (Value.bool true) else Z4j f a)=some v:=h;split at h
  .cases h;rfl
  .unfold Z4j at h;split at h
   .split at h
    .cases h;rfl
    .cases h
   .cases h
 code:=fun f fn c hf hb=>by
  have hm:fn∈Tryz.prog.funcs.toList:=Array.mem_toList_iff.2 (Array.mem_of_getElem? (show Tryz.prog.funcs[f]?=some fn from hf));have:=List.all_eq_true.1 vDst fn hm;rw[hb]at this;exact this
end Go.Proofs.YtabcdhcpilpojaaGreatDoor
end
section
namespace Go.Proofs.YtabcdhcpilpojaaGreatDoor
open Go.ChangeShapes Go.WideShapes Go.ChangeAt Go.RowKit Go.Virt Go.Pure
theorem own:ownKnob Tryz.prog.godebug=none:=by kernel_rfl
theorem Z0v:laidOutB Tryz.prog=true:=by kernel_rfl
theorem Z3y {P:Program}{w:World}{r:Reach}{b:Nat}{a:Addr}{e:TypeId}{n:Nat}(h:w.has P r b a e n):a.spot=none/\∃c el fr,w.heap[a.block]?=some (.cells c el fr):=by
 obtain⟨_,h1,row,cells,h2,_⟩:=h;refine⟨h1,?_⟩;unfold World.shape? at h2;split at h2
 .rename_i c el fr hc;exact⟨c,el,fr,hc⟩
 all_goals cases h2
theorem Zuk {Z:Vf}:∀(l:List Int),RDs vE Z ((l.map fun n=>PV.int .i64 n).flatMap Zd) (l.map (Value.int .i64))
 | []=>.nil
 |s::l=>.cons (.int .i64 s) (Zuk l)
theorem Z2x (cs:List Value)(n:Nat)(h:n=cs.length):Virt.readN cs 0 n=some cs:=by
 subst h;simp[Virt.readN]
theorem cell_at {w:World}{ab ao:Nat}{c:Array Value}{el:TypeId}{fr:Nat×Nat}(h:w.heap[ab]?=some (.cells c el fr))(j:Nat):w.cell? (({block:=ab,off:=ao,spot:=none}:Addr).add j)=c[ao+j]?:=by
 unfold World.cell? Addr.add;by_cases hj:j=0
 .subst hj;simp[h]
 .simp [hj,h]
set_option maxRecDepth 100000
theorem Zw1 {H:Type}{enc:TypeId×Value->H}{W:World}{base:Nat}{v:Value}{d:DataW H}{p:List MemPlace}(Zgl:Value.okWide Tryz.prog W .any base 22 v)(h:DataW.Trod enc Tryz.prog W 0 (fun _=>true) true 22 v d p):
  ∃(b:Bool) (xs:List Int) (rs:List ARow),(∀r∈rs,r.In W)/\xs.length < 2^63/\∀pre post,∃u,ArgR vE (pre++(rs++post)) (L 3 b (xs.map (.int .i64))) u v:=by
 obtain⟨a0,len,cap,rfl⟩:=okWide_slice Tryz.underlying22 Zgl;obtain⟨fuel,hf⟩:=h;rcases open_ints Tryz.underlying22 Tryz.underlying3 (by kernel_rfl) hf with⟨hcs,hx⟩ | ⟨a,len',W1,ss,hcs,_,hl,hm,hz,hx,Zkm,hsz⟩
 .simp only [Value.cells,List.cons.injEq,and_true]at hcs;have hc:(Value.slice a0 len cap)=.slice none 0 0:=by simpa using hcs
  rw[hc];exact⟨true,[],[],by simp,by simp,fun pre post=>⟨_,.flat rfl⟩⟩
 .have hc:(Value.slice a0 len cap)=.slice (some a) len' W1:=by simpa[Value.cells]using hcs
  cases hc;simp only[if_true]at hz
  obtain⟨hsp,c,el,fr,Zr5⟩:=Z3y (by
   have:=Zgl;simp only[Value.okWide,Tryz.underlying22,Cell.okWide,Cell.ok]at this;exact this.2.2)
  obtain⟨ab,ao,asp⟩:=a;simp only at hsp Zr5;subst hsp;simp only[Prod.mk.injEq]at hx;obtain⟨hd1,_⟩:=hx;have hlen:(ss.take len).length=len:=by rw[List.length_take];omega
  refine⟨false,ss.take len,[{b:=ab,d:=ao,cells:=(ss.take len).map (Value.int .i64),e:=1,g:=3}],?_,?_,fun pre post=>⟨.slice (some ⟨pre.length,0,none⟩) len len,?_⟩⟩
  .intro r hr;simp only[List.mem_singleton]at hr;subst hr;refine⟨?_,?_,?_,c,el,fr,Zr5,?_⟩
   .exact (Array.getElem?_eq_some_iff.1 Zr5).1
   .intro v hv;obtain⟨y,_,rfl⟩:=List.mem_map.1 hv;rfl
   .intro v hv;obtain⟨y,_,rfl⟩:=List.mem_map.1 hv;rfl
   .intro j v hj;simp only[List.getElem?_map,Option.map_eq_some_iff]at hj;obtain⟨y,hy,rfl⟩:=hj;rw[List.getElem?_take]at hy;split at hy
    .have hjs:=(List.getElem?_eq_some_iff.1 hy).1;have:=Zkm j hjs;rw[List.getD,hy,cell_at Zr5]at this;exact this
    .cases hy
  .rw [hlen];have:maxLen < 2^63:=by decide
   omega
  .rw [Tv];have S5:len=((ss.take len).map (PV.int .i64)).length:=by rw[List.length_map,hlen]
   have harg:ArgR vE (pre++([{b:=ab,d:=ao,cells:=(ss.take len).map (Value.int .i64),e:=1,g:=3}]++post)) (.lst 3 ((ss.take len).map (PV.int .i64))) (.slice (some ⟨pre.length,0,none⟩) ((ss.take len).map (PV.int .i64)).length ((ss.take len).map (PV.int .i64)).length) (.slice (some ⟨ab,ao,none⟩) ((ss.take len).map (PV.int .i64)).length cap):=
    ArgR.row (i:=pre.length) (r:={b:=ab,d:=ao,cells:=(ss.take len).map (Value.int .i64),e:=1,g:=3}) (by simp) (show vE.T 3=some _ by rw[vE_T];exact T3) rfl
     (Z2x _ _ (by simp)) (Zuk _) (fun x hx=>by
       obtain⟨y,_,rfl⟩:=List.mem_map.1 hx;rfl) (by rw[<- S5];exact hl)
   rw[<- S5]at harg;exact harg
end Go.Proofs.YtabcdhcpilpojaaGreatDoor
end
