/- SubstReplace answers true for every input, and it reads as it did. -/
import Derived.Test.YtabcdhcpilpojaaGreatDoorOK
import Derived.Test.YtabcdhcpilpojaaGreatDoorFI
set_option linter.unusedSimpArgs false
set_option linter.unusedVariables false
section
namespace Go.Proofs.YtabcdhcpilpojaaGreatDoor
open Go.ChangeShapes Go.WideShapes Go.ChangeAt Go.RowKit Go.Virt Go.Pure
theorem Zuv (n:Int):Zz 0 (.int .i64 n)=some (.int .i64 n):=rfl
theorem Zalq (n:Int){p1 p2:PV}{v1 v2:Value}{r1 r2:List ARow}(a1:∀pre post,∃u,ArgR vE (pre++(r1++post)) p1 u v1)(a2:∀pre post,∃u,ArgR vE (pre++(r2++post)) p2 u v2):∃us,ArgsR vE (r1++r2) [p1,p2,.int .i64 n] us [v1,v2,.int .i64 n]:=by
 obtain⟨u1,h1⟩:=a1 [] r2;obtain⟨u2,h2⟩:=a2 r1 [];simp only[List.nil_append,List.append_nil]at h1 h2;exact⟨_,.cons h1 (.cons h2 (.cons (.flat (Zuv n)) .nil))⟩
namespace substReplace
set_option maxRecDepth 100000 in
theorem Z9v (H:Type)(enc:TypeId×Value->H)(W:World)(base:Nat)(args:Array Value)(ds gs:List (DataW H))(before:List MemPlace)
  (Zgl:∀(j:Nat) t v,Tryz.f7.params[j]?=some t->args[j]?=some v->Value.okWide Tryz.prog W .any base t v)
  (hW:DataW.Whole enc Tryz.prog Tryz.f7.params.toList Rows.substReplaceSpec.vars false W args.toList ds gs before):
  Calls Tryz.prog 7 args W fun e W'=>∃v,e=.returned v/\Rows.substReplaceSpec.post enc Tryz.prog Tryz.f7 false true false false W args v W':=by
 have hW':=hW;obtain⟨p,q,hA0,hV,rfl,hfz,hnd⟩:=hW;have hA:DataW.TrodAll enc Tryz.prog W 0 (fun _=>true) true Tryz.f7.params.toList args.toList ds p:=hA0;rw[Tryz.params7]at hA Zgl;obtain⟨v0,vs0,d0,ds0,p0,q0,Xt,rfl,rfl,h0,r0⟩:=trodAll_cons hA;obtain⟨v1,vs1,d1,ds1,p1,q1,rfl,rfl,rfl,h1,r1⟩:=trodAll_cons r0;obtain⟨v2,vs2,d2,ds2,p2,q2,rfl,rfl,rfl,h2,r2⟩:=trodAll_cons r1;obtain⟨rfl,rfl,rfl⟩:=trodAll_nil r2;obtain rfl:args=#[v0,v1,v2]:=by cases args;simp_all
 obtain⟨rfl,rfl⟩:=trodVars_none hV;obtain⟨n,rfl,rfl,rfl,w2⟩:=open_int Tryz.underlying3 (Zgl 2 3 v2 rfl rfl) h2;clear hA0;simp only[List.append_nil,List.nil_append]at hW';have hlt:∀x∈p0++p1,x.block < W.heap.size:=fun x hx=>by simpa using hW'.lt x (by simpa using hx)
 have h0k:=h0;have h1k:=h1
 have key:Calls Tryz.prog 7 #[v0,v1,.int .i64 n] W fun e w'=>e=.returned (.bool true)/\Below W.heap.size W w':=by
  obtain⟨b0,x0,r0,hr0,hl0,ha0⟩:=Zw1 (Zgl 0 22 v0 rfl rfl) h0;obtain⟨b1,x1,r1,hr1,hl1,Ro⟩:=Zw1 (Zgl 1 22 v1 rfl rfl) h1;obtain⟨us,hus⟩:=Zalq n ha0 Ro
  exact (Zwp Zab7 Zaoj rfl (Zapo b0 b1 x0 x1 n hl0 hl1) hus (by
   intro r hr;simp only[List.mem_append]at hr;rcases hr with hr | hr
   .exact hr0 r hr
   .exact hr1 r hr)).2
 refine key.mono fun e W' ⟨he,hg⟩=>?_
 subst he
 exact⟨_,rfl,Zoy (pv:=[]) hW' (fun _ _ _=>(trodAll_cons_mk (shut_bool Tryz.underlying4 _) trodAll_mk0))
  (fun sp hsp=>trodAll_mk3 (Go.WideElems.Trod_stays Z0v (by kernel_rfl) (of_decide_eq_true (by kernel_rfl)) h0k (fun x hx=>hg.same (hlt x (by simp[hx]))) (fun x hx=>hsp x (by simp[hx])))
    (Go.WideElems.Trod_stays Z0v (by kernel_rfl) (of_decide_eq_true (by kernel_rfl)) h1k (fun x hx=>hg.same (hlt x (by simp[hx]))) (fun x hx=>hsp x (by simp[hx]))) (shut_int Tryz.underlying3 w2)) (fun _ _=>rfl) (by simp)
  hg (ok_one (by kernel_rfl) rfl (okWide_bool_mk Tryz.underlying4 _))⟩
end substReplace
end Go.Proofs.YtabcdhcpilpojaaGreatDoor
end
section
namespace Go.Proofs.YtabcdhcpilpojaaGreatDoor
open Go.ChangeShapes Go.WideShapes Go.ChangeAt Go.RowKit
def Zm0:DataW Unit->Array Value
 | .agg ds=>(ds.map fun d=>match d with | .lit (.int k n)=>Value.int k n | _=>Value.nilFunc).toArray
 | _=>#[]
noncomputable def Zjp (os:Os):World:=
 let N:=(World.settled Tryz.prog os).heap.size
 let w0:=World.holding Tryz.prog os ⟨#[.cells #[.string ⟨#[105,110,118,97,108,105,100,32,115,121,110,116,97,120]⟩] 271,.cells #[.string ⟨#[118,97,108,117,101,32,111,117,116,32,111,102,32,114,97,110,103,101]⟩] 271],#[],[]⟩
 let put (h:Array Obj) (g:Nat) (cs:Array Value):Array Obj:=h.modify g fun
  | .cells _ t frozen=>.cells cs t frozen
  |o=>o
 let h0:=put (put w0.heap 4 #[.iface 269 (.pointer (some ⟨N,0,none⟩))]) 5 #[.iface 269 (.pointer (some ⟨N+1,0,none⟩))]
 let h1:=put h0 0 (Zm0 Rows.laid_internal_strconv_uint64pow10)
 let h2:=put h1 1 (Zm0 Rows.laid_math_bits_deBruijn32tab)
 let h3:=put h2 2 (Zm0 Rows.laid_math_bits_deBruijn64tab)
 {w0 with heap:=h3}
namespace substReplace
abbrev Zz6:Array Value:=#[.slice none 0 0,.slice none 0 0,.int .i64 0]
theorem Z7g (os:Os):laidMet Tryz.prog Rows.substReplaceRow.laid ((Zjp os).forCall (fun _ _=>0) ⟨#[],Zz6,[]⟩).memory:=
 laidMet_of_run' 8 (by kernel_rfl) (by kernel_rfl)
theorem Zao3 (os:Os){H:Type}(enc:TypeId×Value->H):∃places,DataW.whole enc Tryz.prog ((Zjp os).forCall (fun _ _=>0) ⟨#[],Zz6,[]⟩).memory Tryz.f7.params.toList Rows.substReplaceSpec.vars false Zz6.toList 8=some ([.nil,.nil,.lit (.int .i64 0)],[],places):=
 ⟨[],by kernel_rfl⟩
set_option maxRecDepth 100000 in
theorem Zai5 (os:Os)(started:os.Started)(H:Type)(enc:TypeId×Value->H)(F:Stop.Interp):
  ReturnsInHanded {} Tryz.checked os 7 .any ((OpenSpec.ofChange Rows.substReplaceSpec).preRow enc Tryz.prog Tryz.f7 Rows.substReplaceRow.domain false Rows.substReplaceRow.laid) (((OpenSpec.ofChange Rows.substReplaceSpec).at F).post enc Tryz.prog Tryz.f7 false true false false):=by
 obtain⟨places,hx⟩:=Zao3 os enc
 refine returnsInHanded_of_row (C:=Tryz.checked) (s:=OpenSpec.ofChange Rows.substReplaceSpec) own started (by kernel_rfl) Tryz.func7
  (witness_row_atRef (enc:=enc) (C:=Tryz.checked) false (Zjp os) Zz6 rfl (by kernel_rfl) (by kernel_rfl) (by kernel_rfl)
    (OpenSpec.preRow_of_cond 8 hx (by kernel_rfl) (fun k hk=>by cases hk) (by kernel_rfl) (Z7g os))) ?_
 intro W base args ds gs before Zgl hW _ Wm _ _ _ _;exact Z9v H enc W base args ds gs before Zgl hW
theorem Zasx:joinedFacts Tryz.pinned.checked.prog 7 Tryz.f7 (OpenSpec.ofChange Rows.substReplaceSpec).bare Rows.substReplaceRow=true:=by kernel_rfl
theorem said:Rows.SubstReplaceSaid:=
 OpenClaim.holds_of_cond 7 Tryz.f7 rfl rfl rfl rfl rfl rfl rfl ⟨rfl,rfl,rfl,rfl,rfl⟩ rfl rfl rfl rfl rfl (by kernel_rfl) Tryz.func7 Zasx
  (of_decide_eq_true (by kernel_rfl)) (by unfold Func.isWrapper;first | (rw[if_pos (by decide +kernel)];kernel_rfl) | (rw[if_neg (by decide +kernel)];exact⟨rfl,rfl⟩))
  (fun os started H enc _ F=>by rw[OpenClaim.pre_eq_preRow];exact Zai5 os started H enc F)
theorem plain (f : FuncId) (fn : Func) (hf : Tryz.pinned.checked.prog.funcNamed "chcsolver/chcsolverlaw05.SubstReplace" = some f) (Qi : Tryz.pinned.checked.prog.funcs[f]? = some fn) :
  true=Tryz.pinned.checked.prog.looks []/\∀(j:Nat) t,fn.params[j]?=some t->Tryz.pinned.checked.prog.wantsStandIn t=false:=by
 obtain rfl : f = 7 := Option.some.inj ((show Tryz.prog.funcNamed "chcsolver/chcsolverlaw05.SubstReplace" = some 7 by kernel_rfl).symm.trans hf) |>.symm
 obtain rfl:fn=Tryz.f7:=(Option.some.inj (Tryz.func7.symm.trans Qi)).symm;refine⟨by kernel_rfl,fun j t ht=>?_⟩;rw[Tryz.params7]at ht;have hm:t∈[22,22,3]:=by simpa using Array.mem_of_getElem? ht
 have hall:[22,22,3].all (fun t=>Tryz.prog.wantsStandIn t==false)=true:=by kernel_rfl
 have:=List.all_eq_true.1 hall t hm;exact eq_of_beq this
theorem card:Rows.SubstReplaceCardSaid:=
 Claim7.holds_tied_plain_at .later [] _ _ _ _ said (fun _ h=>by cases h) (by kernel_rfl) (fun _ h=>by cases h) substReplace_row_tie rfl ⟨rfl,rfl⟩ (by kernel_rfl) rfl plain (by kernel_rfl)
end substReplace
end Go.Proofs.YtabcdhcpilpojaaGreatDoor
end
