/- The program may be entered. -/
import Derived.Test.YtglgakcdjdhonaaGreatDoorCards
import Derived.JoinedOf
import Derived.WalkKit
import Derived.KernelRfl
namespace Go.Proofs.YtglgakcdjdhonaaGreatDoor.F
theorem mayEnter : Tryz.prog.mayEnter = true := by kernel_rfl
end Go.Proofs.YtglgakcdjdhonaaGreatDoor.F
