/- The virtual run's tables for this program tell the truth, by computation. -/
import Derived.Test.YtabcdhcpilpojaaGreatDoorVB
import Derived.Test.YtabcdhcpilpojaaGreatDoorCt
import Derived.Test.YtabcdhcpilpojaaGreatDoorChecked
import Derived.KernelRfl
set_option linter.unusedSimpArgs false
set_option linter.unusedVariables false
section
namespace Go.Proofs.YtabcdhcpilpojaaGreatDoor
open Go Go.Virt
set_option maxRecDepth 100000
theorem Zah3:(List.range vN).all (fun t=>match vC.T t with | some ty=>tyB Tryz.prog t ty | none=>true)=true:=by kernel_rfl
theorem Zah7:Tryz.prog.funcs.toList.all (fun fn=>match fn.body with | some c=>X9 fn.ntmps c | none=>true)=true:=by kernel_rfl
theorem Zah5 : Tryz.prog.funcs.toList.all (fun fn => !(fn.name == "runtime.NumGoroutine")) = true := by kernel_rfl
theorem Zaoi:Zxr.size=vN:=by kernel_rfl
theorem Zaok:Zaga.all (cmpB Tryz.prog)=true:=by kernel_rfl
theorem Zah6:Tryz.prog.follows .mixedOrders=true:=Checked.mixed Tryz.checked
theorem Z55:Sound vC Tryz.prog:=
 Sound.of vN Zah3 (fun t ht=>by
  show (Zxr[t]?).getD none=none;rw[Array.getElem?_eq_none (by rw[Zaoi];exact ht)];rfl) (fun _=>rfl) Zah5 Zah7 (fun _ _=>rfl) Zah6 (fun _=>rfl) Zaok
end Go.Proofs.YtabcdhcpilpojaaGreatDoor
end
