/- The virtual run's tables for this program tell the truth, by computation. -/
import Derived.Test.YtabcdhcpilpojaaGreatDoorVB
import Derived.Test.YtabcdhcpilpojaaGreatDoorCt
import Derived.Test.YtabcdhcpilpojaaGreatDoorChecked
import Derived.KernelRfl
set_option linter.unusedSimpArgs false
set_option linter.unusedVariables false
section
namespace Go.Proofs.YtabcdhcpilpojaaGreatDoor
open Go Go.Virt
set_option maxRecDepth 100000
theorem Zaa1:(List.range vN).all (fun t=>match vC.T t with | some ty=>tyB Tryz.prog t ty | none=>true)=true:=by kernel_rfl
theorem Zaa5:Tryz.prog.funcs.toList.all (fun fn=>match fn.body with | some c=>Xr fn.ntmps c | none=>true)=true:=by kernel_rfl
theorem Zaa3 : Tryz.prog.funcs.toList.all (fun fn => !(fn.name == "runtime.NumGoroutine")) = true := by kernel_rfl
theorem Zago:Zst.size=vN:=by kernel_rfl
theorem Zaa4:Tryz.prog.follows .mixedOrders=true:=Checked.mixed Tryz.checked
theorem Zz2:Sound vC Tryz.prog:=
 Sound.of vN Zaa1 (fun t ht=>by
  show (Zst[t]?).getD none=none
  rw [Array.getElem?_eq_none (by rw [Zago];exact ht)]
  rfl) (fun _=>rfl) Zaa3 Zaa5 (fun _ _=>rfl) Zaa4
end Go.Proofs.YtabcdhcpilpojaaGreatDoor
end
