/- The program may be entered. -/
import Derived.Test.YtccahbfbbaaicaaGreatDoorCards
import Derived.JoinedOf
import Derived.WalkKit
import Derived.KernelRfl
namespace Go.Proofs.YtccahbfbbaaicaaGreatDoor.F
theorem mayEnter : Tryz.prog.mayEnter = true := by kernel_rfl
end Go.Proofs.YtccahbfbbaaicaaGreatDoor.F
