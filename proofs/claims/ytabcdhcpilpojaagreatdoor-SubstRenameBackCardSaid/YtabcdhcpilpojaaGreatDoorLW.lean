/- SubstRenameBack answers true for every input, and it reads as it did. -/
import Derived.Test.YtabcdhcpilpojaaGreatDoorOK
import Derived.Test.YtabcdhcpilpojaaGreatDoorFF
set_option linter.unusedSimpArgs false
set_option linter.unusedVariables false
section
namespace Go.Proofs.YtabcdhcpilpojaaGreatDoor
open Go.ChangeShapes Go.WideShapes Go.ChangeAt Go.RowKit Go.Virt Go.Pure
theorem Zak1 {W:World} {p1:PV} {v1:Value} {r1:List ARow} (a1:∀ pre post,∃ u,ArgR vE (pre++(r1++post)) p1 u v1):∃ us,ArgsR vE r1 [p1] us [v1]:=by
 obtain ⟨u1,h1⟩:=a1 [] []
 simp only [List.nil_append,List.append_nil] at h1
 exact ⟨_,.cons h1 .nil⟩
namespace substRenameBack
set_option maxRecDepth 100000 in
theorem Z3m (H:Type) (enc:TypeId×Value->H) (W:World) (base:Nat) (args:Array Value) (ds gs:List (DataW H)) (before:List MemPlace)
  (Zif:∀ (j:Nat) t v,Tryz.f10.params[j]?=some t->args[j]?=some v->Value.okWide Tryz.prog W .any base t v)
  (hW:DataW.Whole enc Tryz.prog Tryz.f10.params.toList Rows.substRenameBackSpec.vars false W args.toList ds gs before):
  Calls Tryz.prog 10 args W fun e W'=>∃ v,e=.returned v/\Rows.substRenameBackSpec.post enc Tryz.prog Tryz.f10 false true false false W args v W':=by
 have hW':=hW
 obtain ⟨p,q,hA0,hV,rfl,hfz,hnd⟩:=hW
 have hA:DataW.TrodAll enc Tryz.prog W 0 (fun _=>true) true Tryz.f10.params.toList args.toList ds p:=hA0
 rw [Tryz.params10] at hA Zif
 obtain ⟨v0,vs0,d0,ds0,p0,q0,Xn,rfl,rfl,h0,r0⟩:=trodAll_cons hA
 obtain ⟨rfl,rfl,rfl⟩:=trodAll_nil r0
 obtain rfl:args=#[v0]:=by cases args;simp_all
 obtain ⟨rfl,rfl⟩:=trodVars_none hV
 clear hA0
 simp only [List.append_nil,List.nil_append] at hW'
 have hlt:∀ x∈p0,x.block < W.heap.size:=fun x hx=>by simpa using hW'.lt x hx
 have h0k:=h0
 have key:Calls Tryz.prog 10 #[v0] W fun e w'=>e=.returned (.bool true)/\Below W.heap.size W w':=by
  obtain ⟨b,xs,rs,hr,hl,ha⟩:=Z33 (Zif 0 22 v0 rfl rfl) h0
  obtain ⟨us,hus⟩:=Zak1 (W:=W) ha
  exact (Zr1 Z5q Zagq rfl (Zab1 b xs hl) hus hr).2
 refine key.mono fun e W' ⟨he,hg⟩=>?_
 subst he
 exact ⟨_,rfl,Zlh (pv:=[]) hW' (fun _ _ _=>(trodAll_cons_mk (shut_bool Tryz.underlying4 _) trodAll_mk0))
  (fun sp hsp=>trodAll_mk1 (Go.WideElems.Trod_stays laidOut (by kernel_rfl) (of_decide_eq_true (by kernel_rfl)) h0k (fun x hx=>hg.same (hlt x hx)) (fun x hx=>hsp x (by simpa using hx)))) (fun _ _=>rfl) (by simp)
  hg (ok_one (by kernel_rfl) rfl (okWide_bool_mk Tryz.underlying4 _))⟩
end substRenameBack
namespace Zp3
end Zp3
end Go.Proofs.YtabcdhcpilpojaaGreatDoor
end
section
namespace Go.Proofs.YtabcdhcpilpojaaGreatDoor
open Go.ChangeShapes Go.WideShapes Go.ChangeAt Go.RowKit
def Zjz:DataW Unit->Array Value
 | .agg ds=>(ds.map fun d=>match d with | .lit (.int k n)=>Value.int k n | _=>Value.nilFunc).toArray
 | _=>#[]
noncomputable def Zg7 (os:Os):World:=
 let N:=(World.settled Tryz.prog os).heap.size
 let w0:=World.holding Tryz.prog os ⟨#[.cells #[.string ⟨#[105,110,118,97,108,105,100,32,115,121,110,116,97,120]⟩] 271,.cells #[.string ⟨#[118,97,108,117,101,32,111,117,116,32,111,102,32,114,97,110,103,101]⟩] 271],#[],[]⟩
 let put (h:Array Obj) (g:Nat) (cs:Array Value):Array Obj:=h.modify g fun
  | .cells _ t frozen=>.cells cs t frozen
  | o=>o
 let h0:=put (put w0.heap 4 #[.iface 269 (.pointer (some ⟨N,0,none⟩))]) 5 #[.iface 269 (.pointer (some ⟨N+1,0,none⟩))]
 let h1:=put h0 0 (Zjz Rows.laid_internal_strconv_uint64pow10)
 let h2:=put h1 1 (Zjz Rows.laid_math_bits_deBruijn32tab)
 let h3:=put h2 2 (Zjz Rows.laid_math_bits_deBruijn64tab)
 {w0 with heap:=h3}
namespace substRenameBack
abbrev Zuu:Array Value:=#[.slice none 0 0]
theorem Z1c (os:Os):laidMet Tryz.prog Rows.substRenameBackRow.laid ((Zg7 os).forCall (fun _ _=>0) ⟨#[],Zuu,[]⟩).memory:=
 laidMet_of_run' 8 (by kernel_rfl) (by kernel_rfl)
theorem reads (os:Os) {H:Type} (enc:TypeId×Value->H):∃ places,DataW.whole enc Tryz.prog ((Zg7 os).forCall (fun _ _=>0) ⟨#[],Zuu,[]⟩).memory Tryz.f10.params.toList Rows.substRenameBackSpec.vars false Zuu.toList 8=some ([.nil],[],places):=
 ⟨[],by kernel_rfl⟩
set_option maxRecDepth 100000 in
theorem lifted (os:Os) (started:os.Started) (H:Type) (enc:TypeId×Value->H) (F:Stop.Interp):
  ReturnsInHanded {} Tryz.checked os 10 .any ((OpenSpec.ofChange Rows.substRenameBackSpec).preRow enc Tryz.prog Tryz.f10 Rows.substRenameBackRow.domain false Rows.substRenameBackRow.laid) (((OpenSpec.ofChange Rows.substRenameBackSpec).at F).post enc Tryz.prog Tryz.f10 false true false false):=by
 obtain ⟨places,hx⟩:=reads os enc
 refine returnsInHanded_of_row (C:=Tryz.checked) (s:=OpenSpec.ofChange Rows.substRenameBackSpec) own started (by kernel_rfl) Tryz.func10
  (witness_row_atRef (enc:=enc) (C:=Tryz.checked) false (Zg7 os) Zuu rfl (by kernel_rfl) (by kernel_rfl) (by kernel_rfl)
    (OpenSpec.preRow_of_cond 8 hx (by kernel_rfl) (fun k hk=>by cases hk) (by kernel_rfl) (Z1c os))) ?_
 intro W base args ds gs before Zif hW _ X4 _ _ _ _
 exact Z3m H enc W base args ds gs before Zif hW
theorem facts:joinedFacts Tryz.pinned.checked.prog 10 Tryz.f10 (OpenSpec.ofChange Rows.substRenameBackSpec).bare Rows.substRenameBackRow=true:=by kernel_rfl
theorem said:Rows.SubstRenameBackSaid:=
 OpenClaim.holds_of_cond 10 Tryz.f10 rfl rfl rfl rfl rfl rfl rfl ⟨rfl,rfl,rfl,rfl,rfl⟩ rfl rfl rfl rfl rfl (by kernel_rfl) Tryz.func10 facts
  (of_decide_eq_true (by kernel_rfl)) (by unfold Func.isWrapper;first | (rw [if_pos (by decide +kernel)];kernel_rfl) | (rw [if_neg (by decide +kernel)];exact ⟨rfl,rfl⟩))
  (fun os started H enc _ F=>by rw [OpenClaim.pre_eq_preRow];exact lifted os started H enc F)
theorem plain (f : FuncId) (fn : Func) (hf : Tryz.pinned.checked.prog.funcNamed "chcsolver/chcsolverlaw05.SubstRenameBack" = some f) (S5 : Tryz.pinned.checked.prog.funcs[f]? = some fn) :
  true=Tryz.pinned.checked.prog.looks []/\∀ (j:Nat) t,fn.params[j]?=some t->Tryz.pinned.checked.prog.wantsStandIn t=false:=by
 obtain rfl : f = 10 := Option.some.inj ((show Tryz.prog.funcNamed "chcsolver/chcsolverlaw05.SubstRenameBack" = some 10 by kernel_rfl).symm.trans hf) |>.symm
 obtain rfl:fn=Tryz.f10:=(Option.some.inj (Tryz.func10.symm.trans S5)).symm
 refine ⟨by kernel_rfl,fun j t ht=>?_⟩
 rw [Tryz.params10] at ht
 have hm:t∈[22]:=by simpa using Array.mem_of_getElem? ht
 have hall:[22].all (fun t=>Tryz.prog.wantsStandIn t==false)=true:=by kernel_rfl
 have:=List.all_eq_true.1 hall t hm
 exact eq_of_beq this
theorem card:Rows.SubstRenameBackCardSaid:=
 Claim7.holds_tied_plain_at .later [] _ _ _ _ said (fun _ h=>by cases h) (by kernel_rfl) (fun _ h=>by cases h) substRenameBack_row_tie rfl ⟨rfl,rfl⟩ (by kernel_rfl) rfl plain (by kernel_rfl)
end substRenameBack
end Go.Proofs.YtabcdhcpilpojaaGreatDoor
end
