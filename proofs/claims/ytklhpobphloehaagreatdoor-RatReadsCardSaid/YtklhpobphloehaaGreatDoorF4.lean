/- The harness's main. -/
import Derived.Test.YtklhpobphloehaaGreatDoorCards
import Derived.JoinedOf
import Derived.SevenTiedAt
import Derived.WalkKit
import Derived.KernelRfl
namespace Go.Proofs.YtklhpobphloehaaGreatDoor.F
theorem main : Tryz.prog.mainIs = some (Rows.ratSumsCard.stood.harness.1, Rows.ratSumsCard.stood.harness.2.toList) := by kernel_rfl
end Go.Proofs.YtklhpobphloehaaGreatDoor.F
