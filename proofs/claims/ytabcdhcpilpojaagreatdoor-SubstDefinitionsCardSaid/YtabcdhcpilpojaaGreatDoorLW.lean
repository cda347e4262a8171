/- SubstDefinitions answers true for every input, and it reads as it did. -/
import Derived.Test.YtabcdhcpilpojaaGreatDoorOK
import Derived.Test.YtabcdhcpilpojaaGreatDoorFI
set_option linter.unusedSimpArgs false
set_option linter.unusedVariables false
section
namespace Go.Proofs.YtabcdhcpilpojaaGreatDoor
open Go.ChangeShapes Go.WideShapes Go.ChangeAt Go.RowKit Go.Virt Go.Pure
theorem Zvj (n:Int):Zy 0 (.int .i64 n)=some (.int .i64 n):=rfl
namespace substDefinitions
set_option maxRecDepth 100000 in
theorem Zaap (H:Type)(enc:TypeId×Value->H)(W:World)(base:Nat)(args:Array Value)(ds gs:List (DataW H))(before:List MemPlace)
  (Zpo:∀(j:Nat) t v,Tryz.f11.params[j]?=some t->args[j]?=some v->Value.okWide Tryz.prog W .any base t v)
  (hW:DataW.Whole enc Tryz.prog Tryz.f11.params.toList Rows.substDefinitionsSpec.vars false W args.toList ds gs before):
  Calls Tryz.prog 11 args W fun e W'=>∃v,e=.returned v/\Rows.substDefinitionsSpec.post enc Tryz.prog Tryz.f11 false true false false W args v W':=by
 have hW':=hW;obtain⟨p,q,hA0,hV,rfl,hfz,hnd⟩:=hW;have hA:DataW.TrodAll enc Tryz.prog W 0 (fun _=>true) true Tryz.f11.params.toList args.toList ds p:=hA0;rw[Tryz.params11]at hA Zpo;obtain⟨v0,vs0,d0,ds0,p0,q0,Xu,rfl,rfl,h0,r0⟩:=trodAll_cons hA;obtain⟨v1,vs1,d1,ds1,p1,q1,rfl,rfl,rfl,h1,r1⟩:=trodAll_cons r0;obtain⟨rfl,rfl,rfl⟩:=trodAll_nil r1;obtain rfl:args=#[v0,v1]:=by cases args;simp_all
 obtain⟨rfl,rfl⟩:=trodVars_none hV;obtain⟨n,rfl,rfl,rfl,w2⟩:=open_int Tryz.underlying3 (Zpo 1 3 v1 rfl rfl) h1;clear hA0;simp only[List.append_nil,List.nil_append]at hW';have hlt:∀x∈p0,x.block < W.heap.size:=fun x hx=>by simpa using hW'.lt x (by simpa using hx)
 have h0k:=h0
 have key:Calls Tryz.prog 11 #[v0,.int .i64 n] W fun e w'=>e=.returned (.bool true)/\Below W.heap.size W w':=by
  obtain⟨b0,x0,r0,hr0,hl0,ha0⟩:=Zaa9 (Zpo 0 22 v0 rfl rfl) h0;obtain⟨u0,h0'⟩:=ha0 [] [];simp only[List.nil_append,List.append_nil]at h0';exact (Zxe Zade Zap9 rfl (Zako b0 x0 n hl0) (.cons h0' (.cons (.flat (Zvj n)) .nil)) hr0).2
 refine key.mono fun e W' ⟨he,hg⟩=>?_
 subst he
 exact⟨_,rfl,Zpf (pv:=[]) hW' (fun _ _ _=>(trodAll_cons_mk (shut_bool Tryz.underlying4 _) trodAll_mk0))
  (fun sp hsp=>trodAll_mk2 (Go.WideElems.Trod_stays Zad8 (by kernel_rfl) (of_decide_eq_true (by kernel_rfl)) h0k (fun x hx=>hg.same (hlt x hx)) (fun x hx=>hsp x (by simpa using hx))) (shut_int Tryz.underlying3 w2)) (fun _ _=>rfl) (by simp)
  hg (ok_one (by kernel_rfl) rfl (okWide_bool_mk Tryz.underlying4 _))⟩
end substDefinitions
end Go.Proofs.YtabcdhcpilpojaaGreatDoor
end
section
namespace Go.Proofs.YtabcdhcpilpojaaGreatDoor
open Go.ChangeShapes Go.WideShapes Go.ChangeAt Go.RowKit
def Znk:DataW Unit->Array Value
 | .agg ds=>(ds.map fun d=>match d with | .lit (.int k n)=>Value.int k n | _=>Value.nilFunc).toArray
 | _=>#[]
noncomputable def Zj3 (os:Os):World:=
 let N:=(World.settled Tryz.prog os).heap.size
 let w0:=World.holding Tryz.prog os ⟨#[.cells #[.string ⟨#[105,110,118,97,108,105,100,32,115,121,110,116,97,120]⟩] 271,.cells #[.string ⟨#[118,97,108,117,101,32,111,117,116,32,111,102,32,114,97,110,103,101]⟩] 271],#[],[]⟩
 let put (h:Array Obj) (g:Nat) (cs:Array Value):Array Obj:=h.modify g fun
  | .cells _ t frozen=>.cells cs t frozen
  |o=>o
 let h0:=put (put w0.heap 4 #[.iface 269 (.pointer (some ⟨N,0,none⟩))]) 5 #[.iface 269 (.pointer (some ⟨N+1,0,none⟩))]
 let h1:=put h0 0 (Znk Rows.laid_internal_strconv_uint64pow10)
 let h2:=put h1 1 (Znk Rows.laid_math_bits_deBruijn32tab)
 let h3:=put h2 2 (Znk Rows.laid_math_bits_deBruijn64tab)
 {w0 with heap:=h3}
namespace substDefinitions
abbrev Z0z:Array Value:=#[.slice none 0 0,.int .i64 0]
theorem Z70 (os:Os):laidMet Tryz.prog Rows.substDefinitionsRow.laid ((Zj3 os).forCall (fun _ _=>0) ⟨#[],Z0z,[]⟩).memory:=
 laidMet_of_run' 8 (by kernel_rfl) (by kernel_rfl)
theorem Zaqt (os:Os){H:Type}(enc:TypeId×Value->H):∃places,DataW.whole enc Tryz.prog ((Zj3 os).forCall (fun _ _=>0) ⟨#[],Z0z,[]⟩).memory Tryz.f11.params.toList Rows.substDefinitionsSpec.vars false Z0z.toList 8=some ([.nil,.lit (.int .i64 0)],[],places):=
 ⟨[],by kernel_rfl⟩
set_option maxRecDepth 100000 in
theorem Zakn (os:Os)(started:os.Started)(H:Type)(enc:TypeId×Value->H)(F:Stop.Interp):
  ReturnsInHanded {} Tryz.checked os 11 .any ((OpenSpec.ofChange Rows.substDefinitionsSpec).preRow enc Tryz.prog Tryz.f11 Rows.substDefinitionsRow.domain false Rows.substDefinitionsRow.laid) (((OpenSpec.ofChange Rows.substDefinitionsSpec).at F).post enc Tryz.prog Tryz.f11 false true false false):=by
 obtain⟨places,hx⟩:=Zaqt os enc
 refine returnsInHanded_of_row (C:=Tryz.checked) (s:=OpenSpec.ofChange Rows.substDefinitionsSpec) own started (by kernel_rfl) Tryz.func11
  (witness_row_atRef (enc:=enc) (C:=Tryz.checked) false (Zj3 os) Z0z rfl (by kernel_rfl) (by kernel_rfl) (by kernel_rfl)
    (OpenSpec.preRow_of_cond 8 hx (by kernel_rfl) (fun k hk=>by cases hk) (by kernel_rfl) (Z70 os))) ?_
 intro W base args ds gs before Zpo hW _ Wm _ _ _ _;exact Zaap H enc W base args ds gs before Zpo hW
theorem Zaus:joinedFacts Tryz.pinned.checked.prog 11 Tryz.f11 (OpenSpec.ofChange Rows.substDefinitionsSpec).bare Rows.substDefinitionsRow=true:=by kernel_rfl
theorem said:Rows.SubstDefinitionsSaid:=
 OpenClaim.holds_of_cond 11 Tryz.f11 rfl rfl rfl rfl rfl rfl rfl ⟨rfl,rfl,rfl,rfl,rfl⟩ rfl rfl rfl rfl rfl (by kernel_rfl) Tryz.func11 Zaus
  (of_decide_eq_true (by kernel_rfl)) (by unfold Func.isWrapper;first | (rw[if_pos (by decide +kernel)];kernel_rfl) | (rw[if_neg (by decide +kernel)];exact⟨rfl,rfl⟩))
  (fun os started H enc _ F=>by rw[OpenClaim.pre_eq_preRow];exact Zakn os started H enc F)
theorem plain (f : FuncId) (fn : Func) (hf : Tryz.pinned.checked.prog.funcNamed "chcsolver/chcsolverlaw05.SubstDefinitions" = some f) (hfn : Tryz.pinned.checked.prog.funcs[f]? = some fn) :
  true=Tryz.pinned.checked.prog.looks []/\∀(j:Nat) t,fn.params[j]?=some t->Tryz.pinned.checked.prog.wantsStandIn t=false:=by
 obtain rfl : f = 11 := Option.some.inj ((show Tryz.prog.funcNamed "chcsolver/chcsolverlaw05.SubstDefinitions" = some 11 by kernel_rfl).symm.trans hf) |>.symm
 obtain rfl:fn=Tryz.f11:=(Option.some.inj (Tryz.func11.symm.trans hfn)).symm;refine⟨by kernel_rfl,fun j t ht=>?_⟩;rw[Tryz.params11]at ht;have hm:t∈[22,3]:=by simpa using Array.mem_of_getElem? ht
 have hall:[22,3].all (fun t=>Tryz.prog.wantsStandIn t==false)=true:=by kernel_rfl
 have:=List.all_eq_true.1 hall t hm;exact eq_of_beq this
theorem card:Rows.SubstDefinitionsCardSaid:=
 Claim7.holds_tied_plain_at .later [] _ _ _ _ said (fun _ h=>by cases h) (by kernel_rfl) (fun _ h=>by cases h) substDefinitions_row_tie rfl ⟨rfl,rfl⟩ (by kernel_rfl) rfl plain (by kernel_rfl)
end substDefinitions
end Go.Proofs.YtabcdhcpilpojaaGreatDoor
end
