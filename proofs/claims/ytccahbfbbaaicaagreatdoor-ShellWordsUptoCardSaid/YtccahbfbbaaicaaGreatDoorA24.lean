/- The Shell laws' known answers. -/
import Derived.Test.YtccahbfbbaaicaaGreatDoorSF
set_option linter.unusedVariables false
namespace Go.Proofs.YtccahbfbbaaicaaGreatDoor.Abs
open Go.Proofs.YtccahbfbbaaicaaGreatDoor.G
theorem known_run : isTrue (evF Tryz.prog orac 100000 5 #[] AW.empty) = true := by kernel_rfl
theorem known_w (w : World) (hW : BaseOk w) : Calls Tryz.prog 5 #[] w (TruePost w) := true_call known_run w hW
end Go.Proofs.YtccahbfbbaaicaaGreatDoor.Abs
