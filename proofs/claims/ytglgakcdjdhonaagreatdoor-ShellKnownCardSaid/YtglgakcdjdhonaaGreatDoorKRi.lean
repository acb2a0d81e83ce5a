/- Runs of the shell on closed scripts. -/
import Derived.Test.YtglgakcdjdhonaaGreatDoorSE
import Derived.Test.YtglgakcdjdhonaaGreatDoorKR
set_option linter.unusedVariables false
namespace Go.Proofs.YtglgakcdjdhonaaGreatDoor.Abs
theorem krun24 : strEq (evF Tryz.prog orac 100000 7 #[.string (bytesOf (kscr 24))] AW.empty) (kans 24) = true := by kernel_rfl
theorem krun25 : strEq (evF Tryz.prog orac 100000 7 #[.string (bytesOf (kscr 25))] AW.empty) (kans 25) = true := by kernel_rfl
end Go.Proofs.YtglgakcdjdhonaaGreatDoor.Abs
