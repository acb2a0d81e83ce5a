/- The program may be entered. -/
import Derived.Test.YtpegcppeobndcaaGreatDoorCards
import Derived.JoinedOf
import Derived.WalkKit
import Derived.KernelRfl
namespace Go.Proofs.YtpegcppeobndcaaGreatDoor.F
theorem mayEnter : Tryz.prog.mayEnter = true := by kernel_rfl
end Go.Proofs.YtpegcppeobndcaaGreatDoor.F
