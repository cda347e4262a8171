/- The virtual run's tables for this program tell the truth, by computation. -/
import Derived.Test.YtabcdhcpilpojaaGreatDoorVB
import Derived.Test.YtabcdhcpilpojaaGreatDoorCtxm
import Derived.Test.YtabcdhcpilpojaaGreatDoorChecked
import Derived.KernelRfl
section
namespace Go.Proofs.YtabcdhcpilpojaaGreatDoor
open Go Go.Virt
set_option maxRecDepth 100000
theorem vTypes : (List.range vN).all (fun t => match vC.T t with | some ty => tyB Tryz.prog t ty | none => true) = true := by kernel_rfl
theorem vCodes : Tryz.prog.funcs.toList.all (fun fn => match fn.body with | some c => okCode fn.ntmps c | none => true) = true := by kernel_rfl
theorem vNames : Tryz.prog.funcs.toList.all (fun fn => !(fn.name == "runtime.NumGoroutine")) = true := by kernel_rfl
theorem vSize : vtypes.size = vN := by kernel_rfl
theorem vMixed : Tryz.prog.follows .mixedOrders = true := Checked.mixed Tryz.checked
theorem vSound : Sound vC Tryz.prog :=
  Sound.of vN vTypes (fun t ht => by
    show (vtypes[t]?).getD none = none
    rw [Array.getElem?_eq_none (by rw [vSize]; exact ht)]
    rfl) (fun _ => rfl) vNames vCodes (fun _ _ => rfl) vMixed
end Go.Proofs.YtabcdhcpilpojaaGreatDoor
end
