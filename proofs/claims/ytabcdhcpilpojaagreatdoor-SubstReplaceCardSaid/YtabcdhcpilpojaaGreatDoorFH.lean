/- The law's substitutions: what the generator makes. -/
import Derived.Test.YtabcdhcpilpojaaGreatDoorFF
import Derived.Test.YtabcdhcpilpojaaGreatDoorFG
import Derived.Test.YtabcdhcpilpojaaGreatDoorFC
set_option linter.unusedSimpArgs false
set_option linter.unusedVariables false
section
set_option maxRecDepth 20000
namespace Go.Proofs.YtabcdhcpilpojaaGreatDoor
open Go Go.Pure
open Go.Virt (Ex Ctx Ty TK)
section
variable {b:Bool}{xs:List Int}{odd:Bool}
theorem Zage (hl:xs.length<=400):Zdg b xs V0 false 6 139 2:=(Zjy (b2:=false) hl Zaht 2 (by omega) (by decide)).1
end
theorem Zln {s:Int}{d N:Nat}{V:List (Y9×Int)}{t:List Nd}(h:GT s d N V t):∀u∈Ya t,u.fn=false:=by
 intro u hu;obtain⟨n,_,_,rfl⟩:=Zdt (fun n hn=>(h.node n hn).2.1) u hu;rfl
theorem TermG.fns {t:List Nd}(h:TermG t):((Ya t).filter (·.fn)).length<=1:=by
 cases h with
 |plain h1 h4 h=>
  rw[List.filter_eq_nil_iff.2]
  .simp
  .intro u hu;rw[Zln h u hu];simp
 | @app u h=>
   obtain⟨tr,v,_⟩:=h.vt Zj8 (by omega) (by omega);have e:Xh ⟨5,2,[102],[],0⟩ [u]=⟨5,2,[102],[],1⟩::u:=by simp[Xh]
   rw[e,Ztz rfl rfl v.parse,List.filter_cons,if_pos rfl,List.length_cons,List.filter_eq_nil_iff.2]
   .simp
   .intro w hw;rw[Zln h w hw];simp
 | @con u h=>
   rw[List.filter_eq_nil_iff.2]
   .simp
   .intro w hw
    have h2:∀n∈Xh (opN 7) [u,[⟨4,1,[107],[],0⟩]],n.op≠5:=by
     intro n hn;simp only[Xh,List.flatten_cons,List.flatten_nil,List.append_nil,List.mem_cons,List.mem_append,List.not_mem_nil,or_false]at hn;rcases hn with rfl | hn | rfl
     .simp
     .exact (h.node n hn).2.1
     .simp
    obtain⟨n,_,_,rfl⟩:=Zdt h2 w hw;simp
end Go.Proofs.YtabcdhcpilpojaaGreatDoor
end
