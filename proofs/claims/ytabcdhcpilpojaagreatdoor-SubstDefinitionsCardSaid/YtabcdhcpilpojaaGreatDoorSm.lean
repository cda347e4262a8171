/- The virtual run's tables for this program tell the truth, by computation. -/
import Derived.Test.YtabcdhcpilpojaaGreatDoorVB
import Derived.Test.YtabcdhcpilpojaaGreatDoorCt
import Derived.Test.YtabcdhcpilpojaaGreatDoorChecked
import Derived.KernelRfl
set_option linter.unusedSimpArgs false
set_option linter.unusedVariables false
section
namespace Go.Proofs.YtabcdhcpilpojaaGreatDoor
open Go Go.Virt
set_option maxRecDepth 100000
theorem Zajn:(List.range vN).all (fun t=>match vC.T t with | some ty=>tyB Tryz.prog t ty | none=>true)=true:=by kernel_rfl
theorem Zajr:Tryz.prog.funcs.toList.all (fun fn=>match fn.body with | some c=>Wb fn.ntmps c | none=>true)=true:=by kernel_rfl
theorem Zajp : Tryz.prog.funcs.toList.all (fun fn => !(fn.name == "runtime.NumGoroutine")) = true := by kernel_rfl
theorem Zap8:Zyh.size=vN:=by kernel_rfl
theorem Zajq:Tryz.prog.follows .mixedOrders=true:=Checked.mixed Tryz.checked
theorem Z6m:Sound vC Tryz.prog:=
 Sound.of vN Zajn (fun t ht=>by
  show (Zyh[t]?).getD none=none;rw[Array.getElem?_eq_none (by rw[Zap8];exact ht)];rfl) (fun _=>rfl) Zajp Zajr (fun _ _=>rfl) Zajq
end Go.Proofs.YtabcdhcpilpojaaGreatDoor
end
