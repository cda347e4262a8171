/- The virtual run's tables for this program tell the truth, by computation. -/
import Derived.Test.YtabcdhcpilpojaaGreatDoorVB
import Derived.Test.YtabcdhcpilpojaaGreatDoorCt
import Derived.Test.YtabcdhcpilpojaaGreatDoorChecked
import Derived.KernelRfl
set_option linter.unusedSimpArgs false
set_option linter.unusedVariables false
section
namespace Go.Proofs.YtabcdhcpilpojaaGreatDoor
open Go Go.Virt
set_option maxRecDepth 100000
theorem Zagj:(List.range vN).all (fun t=>match vC.T t with | some ty=>tyB Tryz.prog t ty | none=>true)=true:=by kernel_rfl
theorem Zagn:Tryz.prog.funcs.toList.all (fun fn=>match fn.body with | some c=>Wc fn.ntmps c | none=>true)=true:=by kernel_rfl
theorem Zagl : Tryz.prog.funcs.toList.all (fun fn => !(fn.name == "runtime.NumGoroutine")) = true := by kernel_rfl
theorem Zamy:Zwv.size=vN:=by kernel_rfl
theorem Zagm:Tryz.prog.follows .mixedOrders=true:=Checked.mixed Tryz.checked
theorem Z4n:Sound vC Tryz.prog:=
 Sound.of vN Zagj (fun t ht=>by
  show (Zwv[t]?).getD none=none;rw[Array.getElem?_eq_none (by rw[Zamy];exact ht)];rfl) (fun _=>rfl) Zagl Zagn (fun _ _=>rfl) Zagm
end Go.Proofs.YtabcdhcpilpojaaGreatDoor
end
