/- What the laws ask first is answered by computation; the plain run's checks of the code. -/
import Derived.Test.YtabcdhcpilpojaaGreatDoorSndm
import Derived.Test.YtabcdhcpilpojaaGreatDoorFn
import Derived.Test.YtabcdhcpilpojaaGreatDoorPD
import Derived.KernelRfl
section
namespace Go.Proofs.YtabcdhcpilpojaaGreatDoor
open Go Go.Virt Go.Pure
set_option maxRecDepth 100000
theorem vDst : Tryz.prog.funcs.toList.all (fun fn => match fn.body with | some c => okDstP fn.ntmps c | none => true) = true := by kernel_rfl
theorem vAwake : (Virt.call vC 200 19 [] VH.none).map (fun r => r.1) = some (.bool true) := by kernel_rfl

theorem awakeCalls : Enters Tryz.prog 19 ∧ ∀ w, Calls Tryz.prog 19 #[] w fun e w' => e = .returned (.bool true) ∧ RowKit.Below w.heap.size w w' := by
  have h := vAwake
  rw [Option.map_eq_some_iff] at h
  obtain ⟨⟨v, h'⟩, h1, h2⟩ := h
  simp only at h2
  subst h2
  exact calls_flat vSound rfl h1 rfl rfl

theorem vESound : Sound vE Tryz.prog :=
  vSound.more _ fun f args v h => by
    split at h
    · rename_i hc
      rw [Bool.and_eq_true] at hc
      have hf : f = 19 := Nat.eq_of_beq_eq_true hc.1
      have ha : args = [] := by simpa using hc.2
      cases h
      subst hf
      subst ha
      exact ⟨awakeCalls.1, rfl, rfl, awakeCalls.2⟩
    · cases h

theorem vEOkP : COkP vE where
  ext := fun f a ha => by
    show (if _ then _ else _) = _
    rw [if_neg]
    rw [Bool.and_eq_true]
    rintro ⟨_, h⟩
    exact ha (by simpa using h)
  extP := fun f v h => by
    replace h : (if Nat.beq f 19 && ([] : List Value).isEmpty then some (Value.bool true) else none) = some v := h
    split at h
    · cases h; rfl
    · cases h
  code := fun f fn c hf hb => by
    have hm : fn ∈ Tryz.prog.funcs.toList := Array.mem_toList_iff.2 (Array.mem_of_getElem? (show Tryz.prog.funcs[f]? = some fn from hf))
    have := List.all_eq_true.1 vDst fn hm
    rw [hb] at this
    exact this
end Go.Proofs.YtabcdhcpilpojaaGreatDoor
end
