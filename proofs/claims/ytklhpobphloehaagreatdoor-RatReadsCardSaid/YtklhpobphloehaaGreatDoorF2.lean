/- The rows' list of lifted variables. -/
import Derived.Test.YtklhpobphloehaaGreatDoorCards
import Derived.JoinedOf
import Derived.WalkKit
import Derived.KernelRfl
namespace Go.Proofs.YtklhpobphloehaaGreatDoor.F
theorem lifts : (Rows.ratSumsRow.lifted == Tryz.prog.liftsFinal) = true := by kernel_rfl
end Go.Proofs.YtklhpobphloehaaGreatDoor.F
