/- The program may be entered. -/
import Derived.Test.YtklhpobphloehaaGreatDoorCards
import Derived.JoinedOf
import Derived.WalkKit
import Derived.KernelRfl
namespace Go.Proofs.YtklhpobphloehaaGreatDoor.F
theorem mayEnter : Tryz.prog.mayEnter = true := by kernel_rfl
end Go.Proofs.YtklhpobphloehaaGreatDoor.F
