/- The virtual run's tables for this program tell the truth, by computation. -/
import Derived.Test.YtabcdhcpilpojaaGreatDoorVB
import Derived.Test.YtabcdhcpilpojaaGreatDoorCt
import Derived.Test.YtabcdhcpilpojaaGreatDoorChecked
import Derived.KernelRfl
set_option linter.unusedSimpArgs false
set_option linter.unusedVariables false
section
namespace Go.Proofs.YtabcdhcpilpojaaGreatDoor
open Go Go.Virt
set_option maxRecDepth 100000
theorem Zacg:(List.range vN).all (fun t=>match vC.T t with | some ty=>tyB Tryz.prog t ty | none=>true)=true:=by kernel_rfl
theorem Zack:Tryz.prog.funcs.toList.all (fun fn=>match fn.body with | some c=>Xv fn.ntmps c | none=>true)=true:=by kernel_rfl
theorem Zaci : Tryz.prog.funcs.toList.all (fun fn => !(fn.name == "runtime.NumGoroutine")) = true := by kernel_rfl
theorem Zaia:Ztp.size=vN:=by kernel_rfl
theorem Zacj:Tryz.prog.follows .mixedOrders=true:=Checked.mixed Tryz.checked
theorem Z08:Sound vC Tryz.prog:=
 Sound.of vN Zacg (fun t ht=>by
  show (Ztp[t]?).getD none=none;rw [Array.getElem?_eq_none (by rw [Zaia];exact ht)];rfl) (fun _=>rfl) Zaci Zack (fun _ _=>rfl) Zacj
end Go.Proofs.YtabcdhcpilpojaaGreatDoor
end
