/- The rows' word on make. -/
import Derived.Test.YtklhpobphloehaaGreatDoorCards
import Derived.JoinedOf
import Derived.WalkKit
import Derived.KernelRfl
namespace Go.Proofs.YtklhpobphloehaaGreatDoor.F
theorem make : (Tryz.prog.make == some Rows.ratSumsRow.make) = true := by kernel_rfl
end Go.Proofs.YtklhpobphloehaaGreatDoor.F
