/- The virtual run's tables for this program tell the truth, by computation. -/
import Derived.Test.YtabcdhcpilpojaaGreatDoorVB
import Derived.Test.YtabcdhcpilpojaaGreatDoorCt
import Derived.Test.YtabcdhcpilpojaaGreatDoorChecked
import Derived.KernelRfl
set_option linter.unusedSimpArgs false
set_option linter.unusedVariables false
section
namespace Go.Proofs.YtabcdhcpilpojaaGreatDoor
open Go Go.Virt
set_option maxRecDepth 100000
theorem Zaih:(List.range vN).all (fun t=>match vC.T t with | some ty=>tyB Tryz.prog t ty | none=>true)=true:=by kernel_rfl
theorem Zail:Tryz.prog.funcs.toList.all (fun fn=>match fn.body with | some c=>Wa fn.ntmps c | none=>true)=true:=by kernel_rfl
theorem Zaij : Tryz.prog.funcs.toList.all (fun fn => !(fn.name == "runtime.NumGoroutine")) = true := by kernel_rfl
theorem Zao3:Zx6.size=vN:=by kernel_rfl
theorem Zaik:Tryz.prog.follows .mixedOrders=true:=Checked.mixed Tryz.checked
theorem Z6e:Sound vC Tryz.prog:=
 Sound.of vN Zaih (fun t ht=>by
  show (Zx6[t]?).getD none=none;rw[Array.getElem?_eq_none (by rw[Zao3];exact ht)];rfl) (fun _=>rfl) Zaij Zail (fun _ _=>rfl) Zaik
end Go.Proofs.YtabcdhcpilpojaaGreatDoor
end
