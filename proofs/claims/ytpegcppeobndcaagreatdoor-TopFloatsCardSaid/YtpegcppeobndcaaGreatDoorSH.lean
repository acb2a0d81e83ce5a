/- Closed facts, and the wrap of the second form: the small texts of this part, one behind another. -/
import Derived.Test.YtpegcppeobndcaaGreatDoorCards
import Derived.JoinedOf
import Derived.WalkKit
import Derived.KernelRfl
import Derived.SevenTiedAt
set_option linter.unusedVariables false
set_option maxHeartbeats 400000
set_option maxRecDepth 512
namespace Go.Proofs.YtpegcppeobndcaaGreatDoor.F
theorem lifts : (Rows.topFloatsRow.lifted == Tryz.prog.liftsFinal) = true := by kernel_rfl
theorem make : (Tryz.prog.make == some Rows.topFloatsRow.make) = true := by kernel_rfl
theorem main : Tryz.prog.mainIs = some (Rows.topFloatsCard.stood.harness.1, Rows.topFloatsCard.stood.harness.2.toList) := by kernel_rfl
end Go.Proofs.YtpegcppeobndcaaGreatDoor.F
