/- SubstCompose answers true for every input, and it reads as it did. -/
import Derived.Test.YtabcdhcpilpojaaGreatDoorOK
import Derived.Test.YtabcdhcpilpojaaGreatDoorFI
set_option linter.unusedSimpArgs false
set_option linter.unusedVariables false
section
namespace Go.Proofs.YtabcdhcpilpojaaGreatDoor
open Go.ChangeShapes Go.WideShapes Go.ChangeAt Go.RowKit Go.Virt Go.Pure
theorem Zato {p1 p2 p3:PV}{v1 v2 v3:Value}{r1 r2 r3:List ARow}(a1:∀pre post,∃u,ArgR vE (pre++(r1++post)) p1 u v1)(a2:∀pre post,∃u,ArgR vE (pre++(r2++post)) p2 u v2)(a3:∀pre post,∃u,ArgR vE (pre++(r3++post)) p3 u v3):∃us,ArgsR vE (r1++(r2++r3)) [p1,p2,p3] us [v1,v2,v3]:=by
 obtain⟨u1,h1⟩:=a1 [] (r2++r3);obtain⟨u2,h2⟩:=a2 r1 r3;obtain⟨u3,h3⟩:=a3 (r1++r2) [];simp only[List.nil_append,List.append_nil,List.append_assoc]at h1 h2 h3;exact⟨_,.cons h1 (.cons h2 (.cons h3 .nil))⟩
namespace substCompose
set_option maxRecDepth 100000 in
theorem Zaab (H:Type)(enc:TypeId×Value->H)(W:World)(base:Nat)(args:Array Value)(ds gs:List (DataW H))(before:List MemPlace)
  (Znm:∀(j:Nat) t v,Tryz.f12.params[j]?=some t->args[j]?=some v->Value.okWide Tryz.prog W .any base t v)
  (hW:DataW.Whole enc Tryz.prog Tryz.f12.params.toList Rows.substComposeSpec.vars false W args.toList ds gs before):
  Calls Tryz.prog 12 args W fun e W'=>∃v,e=.returned v/\Rows.substComposeSpec.post enc Tryz.prog Tryz.f12 false true false false W args v W':=by
 have hW':=hW;obtain⟨p,q,hA0,hV,rfl,hfz,hnd⟩:=hW;have hA:DataW.TrodAll enc Tryz.prog W 0 (fun _=>true) true Tryz.f12.params.toList args.toList ds p:=hA0;rw[Tryz.params12]at hA Znm;obtain⟨v0,vs0,d0,ds0,p0,q0,Xz,rfl,rfl,h0,r0⟩:=trodAll_cons hA;obtain⟨v1,vs1,d1,ds1,p1,q1,rfl,rfl,rfl,h1,r1⟩:=trodAll_cons r0;obtain⟨v2,vs2,d2,ds2,p2,q2,rfl,rfl,rfl,h2,r2⟩:=trodAll_cons r1;obtain⟨rfl,rfl,rfl⟩:=trodAll_nil r2;obtain rfl:args=#[v0,v1,v2]:=by cases args;simp_all
 obtain⟨rfl,rfl⟩:=trodVars_none hV;clear hA0;simp only[List.append_nil,List.nil_append]at hW';have hlt:∀x∈p0++(p1++p2),x.block < W.heap.size:=fun x hx=>by simpa using hW'.lt x (by simpa using hx)
 have h0k:=h0;have h1k:=h1;have h2k:=h2
 have key:Calls Tryz.prog 12 #[v0,v1,v2] W fun e w'=>e=.returned (.bool true)/\Below W.heap.size W w':=by
  obtain⟨b0,x0,r0,hr0,hl0,ha0⟩:=Zou (Znm 0 22 v0 rfl rfl) h0;obtain⟨b1,x1,r1,hr1,hl1,R8⟩:=Zou (Znm 1 22 v1 rfl rfl) h1;obtain⟨b2,x2,r2,hr2,hl2,Ry⟩:=Zou (Znm 2 22 v2 rfl rfl) h2;obtain⟨us,hus⟩:=Zato ha0 R8 Ry
  exact (Zw6 Zacp Zao4 rfl (Zajk b0 b1 b2 x0 x1 x2 hl0 hl1 hl2) hus (by
   intro r hr;simp only[List.mem_append]at hr;rcases hr with hr | hr | hr
   .exact hr0 r hr
   .exact hr1 r hr
   .exact hr2 r hr)).2
 refine key.mono fun e W' ⟨he,hg⟩=>?_
 subst he
 exact⟨_,rfl,Zpb (pv:=[]) hW' (fun _ _ _=>(trodAll_cons_mk (shut_bool Tryz.underlying4 _) trodAll_mk0))
  (fun sp hsp=>trodAll_mk3 (Go.WideElems.Trod_stays Zr8 (by kernel_rfl) (of_decide_eq_true (by kernel_rfl)) h0k (fun x hx=>hg.same (hlt x (by simp[hx]))) (fun x hx=>hsp x (by simp[hx])))
    (Go.WideElems.Trod_stays Zr8 (by kernel_rfl) (of_decide_eq_true (by kernel_rfl)) h1k (fun x hx=>hg.same (hlt x (by simp[hx]))) (fun x hx=>hsp x (by simp[hx])))
    (Go.WideElems.Trod_stays Zr8 (by kernel_rfl) (of_decide_eq_true (by kernel_rfl)) h2k (fun x hx=>hg.same (hlt x (by simp[hx]))) (fun x hx=>hsp x (by simp[hx])))) (fun _ _=>rfl) (by simp)
  hg (ok_one (by kernel_rfl) rfl (okWide_bool_mk Tryz.underlying4 _))⟩
end substCompose
end Go.Proofs.YtabcdhcpilpojaaGreatDoor
end
section
namespace Go.Proofs.YtabcdhcpilpojaaGreatDoor
open Go.ChangeShapes Go.WideShapes Go.ChangeAt Go.RowKit
def Zne:DataW Unit->Array Value
 | .agg ds=>(ds.map fun d=>match d with | .lit (.int k n)=>Value.int k n | _=>Value.nilFunc).toArray
 | _=>#[]
noncomputable def Zjz (os:Os):World:=
 let N:=(World.settled Tryz.prog os).heap.size
 let w0:=World.holding Tryz.prog os ⟨#[.cells #[.string ⟨#[105,110,118,97,108,105,100,32,115,121,110,116,97,120]⟩] 271,.cells #[.string ⟨#[118,97,108,117,101,32,111,117,116,32,111,102,32,114,97,110,103,101]⟩] 271],#[],[]⟩
 let put (h:Array Obj) (g:Nat) (cs:Array Value):Array Obj:=h.modify g fun
  | .cells _ t frozen=>.cells cs t frozen
  |o=>o
 let h0:=put (put w0.heap 4 #[.iface 269 (.pointer (some ⟨N,0,none⟩))]) 5 #[.iface 269 (.pointer (some ⟨N+1,0,none⟩))]
 let h1:=put h0 0 (Zne Rows.laid_internal_strconv_uint64pow10)
 let h2:=put h1 1 (Zne Rows.laid_math_bits_deBruijn32tab)
 let h3:=put h2 2 (Zne Rows.laid_math_bits_deBruijn64tab)
 {w0 with heap:=h3}
namespace substCompose
abbrev Z0p:Array Value:=#[.slice none 0 0,.slice none 0 0,.slice none 0 0]
theorem Z7s (os:Os):laidMet Tryz.prog Rows.substComposeRow.laid ((Zjz os).forCall (fun _ _=>0) ⟨#[],Z0p,[]⟩).memory:=
 laidMet_of_run' 8 (by kernel_rfl) (by kernel_rfl)
theorem Zapo (os:Os){H:Type}(enc:TypeId×Value->H):∃places,DataW.whole enc Tryz.prog ((Zjz os).forCall (fun _ _=>0) ⟨#[],Z0p,[]⟩).memory Tryz.f12.params.toList Rows.substComposeSpec.vars false Z0p.toList 8=some ([.nil,.nil,.nil],[],places):=
 ⟨[],by kernel_rfl⟩
set_option maxRecDepth 100000 in
theorem Zajj (os:Os)(started:os.Started)(H:Type)(enc:TypeId×Value->H)(F:Stop.Interp):
  ReturnsInHanded {} Tryz.checked os 12 .any ((OpenSpec.ofChange Rows.substComposeSpec).preRow enc Tryz.prog Tryz.f12 Rows.substComposeRow.domain false Rows.substComposeRow.laid) (((OpenSpec.ofChange Rows.substComposeSpec).at F).post enc Tryz.prog Tryz.f12 false true false false):=by
 obtain⟨places,hx⟩:=Zapo os enc
 refine returnsInHanded_of_row (C:=Tryz.checked) (s:=OpenSpec.ofChange Rows.substComposeSpec) own started (by kernel_rfl) Tryz.func12
  (witness_row_atRef (enc:=enc) (C:=Tryz.checked) false (Zjz os) Z0p rfl (by kernel_rfl) (by kernel_rfl) (by kernel_rfl)
    (OpenSpec.preRow_of_cond 8 hx (by kernel_rfl) (fun k hk=>by cases hk) (by kernel_rfl) (Z7s os))) ?_
 intro W base args ds gs before Znm hW _ Wo _ _ _ _;exact Zaab H enc W base args ds gs before Znm hW
theorem Zate:joinedFacts Tryz.pinned.checked.prog 12 Tryz.f12 (OpenSpec.ofChange Rows.substComposeSpec).bare Rows.substComposeRow=true:=by kernel_rfl
theorem said:Rows.SubstComposeSaid:=
 OpenClaim.holds_of_cond 12 Tryz.f12 rfl rfl rfl rfl rfl rfl rfl ⟨rfl,rfl,rfl,rfl,rfl⟩ rfl rfl rfl rfl rfl (by kernel_rfl) Tryz.func12 Zate
  (of_decide_eq_true (by kernel_rfl)) (by unfold Func.isWrapper;first | (rw[if_pos (by decide +kernel)];kernel_rfl) | (rw[if_neg (by decide +kernel)];exact⟨rfl,rfl⟩))
  (fun os started H enc _ F=>by rw[OpenClaim.pre_eq_preRow];exact Zajj os started H enc F)
theorem plain (f : FuncId) (fn : Func) (hf : Tryz.pinned.checked.prog.funcNamed "chcsolver/chcsolverlaw05.SubstCompose" = some f) (Rn : Tryz.pinned.checked.prog.funcs[f]? = some fn) :
  true=Tryz.pinned.checked.prog.looks []/\∀(j:Nat) t,fn.params[j]?=some t->Tryz.pinned.checked.prog.wantsStandIn t=false:=by
 obtain rfl : f = 12 := Option.some.inj ((show Tryz.prog.funcNamed "chcsolver/chcsolverlaw05.SubstCompose" = some 12 by kernel_rfl).symm.trans hf) |>.symm
 obtain rfl:fn=Tryz.f12:=(Option.some.inj (Tryz.func12.symm.trans Rn)).symm;refine⟨by kernel_rfl,fun j t ht=>?_⟩;rw[Tryz.params12]at ht;have hm:t∈[22,22,22]:=by simpa using Array.mem_of_getElem? ht
 have hall:[22,22,22].all (fun t=>Tryz.prog.wantsStandIn t==false)=true:=by kernel_rfl
 have:=List.all_eq_true.1 hall t hm;exact eq_of_beq this
theorem card:Rows.SubstComposeCardSaid:=
 Claim7.holds_tied_plain_at .later [] _ _ _ _ said (fun _ h=>by cases h) (by kernel_rfl) (fun _ h=>by cases h) substCompose_row_tie rfl ⟨rfl,rfl⟩ (by kernel_rfl) rfl plain (by kernel_rfl)
end substCompose
end Go.Proofs.YtabcdhcpilpojaaGreatDoor
end
