/- Closed facts, and the wrap of the second form: the small texts of this part, one behind another. -/
import Derived.Test.YtglgakcdjdhonaaGreatDoorCards
import Derived.JoinedOf
import Derived.WalkKit
import Derived.KernelRfl
import Derived.SevenTiedAt
/- The rows' list of lifted variables. -/
namespace Go.Proofs.YtglgakcdjdhonaaGreatDoor.F
theorem lifts : (Rows.shellKnownRow.lifted == Tryz.prog.liftsFinal) = true := by kernel_rfl
end Go.Proofs.YtglgakcdjdhonaaGreatDoor.F
/- The rows' word on make. -/
namespace Go.Proofs.YtglgakcdjdhonaaGreatDoor.F
theorem make : (Tryz.prog.make == some Rows.shellKnownRow.make) = true := by kernel_rfl
end Go.Proofs.YtglgakcdjdhonaaGreatDoor.F
/- The harness's main. -/
namespace Go.Proofs.YtglgakcdjdhonaaGreatDoor.F
theorem main : Tryz.prog.mainIs = some (Rows.shellKnownCard.stood.harness.1, Rows.shellKnownCard.stood.harness.2.toList) := by kernel_rfl
end Go.Proofs.YtglgakcdjdhonaaGreatDoor.F
