/- The law's substitutions: what the generator makes. -/
import Derived.Test.YtabcdhcpilpojaaGreatDoorFF
import Derived.Test.YtabcdhcpilpojaaGreatDoorFG
set_option linter.unusedSimpArgs false
set_option linter.unusedVariables false
section
set_option maxRecDepth 20000
namespace Go.Proofs.YtabcdhcpilpojaaGreatDoor
open Go Go.Pure
open Go.Virt (Ex Ctx Ty TK)
theorem Z0b {α:Type}{Q:α->Prop}{P:Nat->α->α->Prop}(a0:α)(h0:Q a0)(h:∀j a,Q a->∃a',P j a a'/\Q a'):∃f:Nat->α,f 0=a0/\∀j,P j (f j) (f (j+1))/\Q (f j):=by
 let g:Nat->{a:α // Q a}:=fun n=>Nat.rec ⟨a0,h0⟩ (fun j a=>⟨Classical.choose (h j a.1 a.2),(Classical.choose_spec (h j a.1 a.2)).2⟩) n
 refine⟨fun n=>(g n).1,rfl,fun j=>⟨(Classical.choose_spec (h j (g j).1 (g j).2)).1,(g j).2⟩⟩
section
variable {b:Bool}{xs:List Int}{odd:Bool}
end
end Go.Proofs.YtabcdhcpilpojaaGreatDoor
end
