/- The program may be entered. -/
import Derived.Test.YtklhpobphloehaaDoorCards
import Derived.JoinedOf
import Derived.WalkKit
import Derived.KernelRfl
namespace Go.Proofs.YtklhpobphloehaaDoor.F
theorem mayEnter : Tryd.prog.mayEnter = true := by kernel_rfl
end Go.Proofs.YtklhpobphloehaaDoor.F
