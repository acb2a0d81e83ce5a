/- The small machine and this program: the small texts of this part, one behind another. -/
import Derived.Test.YtpegcppeobndcaaGreatDoorSD
import Derived.Test.YtpegcppeobndcaaGreatDoorProg
set_option linter.unusedVariables false
set_option maxHeartbeats 400000
set_option maxRecDepth 512
namespace Go.Proofs.YtpegcppeobndcaaGreatDoor.Abs
def zerosB (P : Program) : Bool := P.types.toList.all fun i => match i.zero with
 | some z => plainV 20 z
 | none => true
def namesB (P : Program) : Bool := P.funcs.toList.all fun fn => !(fn.name == "runtime.NumGoroutine")
def drawnB (P : Program) : Bool := P.funcs.toList.all fun fn => match fn.body with
 | some b => codeOk b
 | none => true
theorem zeros_here : zerosB Tryz.prog = true := by kernel_rfl
theorem names_here : namesB Tryz.prog = true := by kernel_rfl
theorem mixed_here : Tryz.prog.follows .mixedOrders = true := by kernel_rfl
theorem drawn_here : drawnB Tryz.prog = true := by kernel_rfl
theorem good_of {P : Program} (h1 : zerosB P = true) (h2 : namesB P = true) (h3 : P.follows .mixedOrders = true) : Good P where
 zeros := fun t i z hi hz => by
  unfold zerosB at h1
  rw [List.all_eq_true] at h1
  have := h1 i (by rw [← Array.getElem?_toList] at hi; exact List.mem_of_getElem? hi)
  rw [hz] at this
  exact this
 mixed := h3
 names := fun f fn hf => by
  unfold namesB at h2
  rw [List.all_eq_true] at h2
  have := h2 fn (by rw [← Array.getElem?_toList] at hf; exact List.mem_of_getElem? hf)
  simpa using this
theorem drawn_of {P : Program} (h : drawnB P = true) : Drawn P := fun f fn b hf hb => by
 unfold drawnB at h
 rw [List.all_eq_true] at h
 have := h fn (by rw [← Array.getElem?_toList] at hf; exact List.mem_of_getElem? hf)
 rw [hb] at this
 exact this
theorem good : Good Tryz.prog := good_of zeros_here names_here mixed_here
theorem drawn : Drawn Tryz.prog := drawn_of drawn_here
end Go.Proofs.YtpegcppeobndcaaGreatDoor.Abs
