/- Runs of the shell on closed scripts. -/
import Derived.Test.YtglgakcdjdhonaaGreatDoorSE
import Derived.Test.YtglgakcdjdhonaaGreatDoorKR
set_option linter.unusedVariables false
namespace Go.Proofs.YtglgakcdjdhonaaGreatDoor.Abs
theorem krun0 : strEq (evF Tryz.prog orac 100000 7 #[.string (bytesOf (kscr 0))] AW.empty) (kans 0) = true := by kernel_rfl
theorem krun1 : strEq (evF Tryz.prog orac 100000 7 #[.string (bytesOf (kscr 1))] AW.empty) (kans 1) = true := by kernel_rfl
theorem krun2 : strEq (evF Tryz.prog orac 100000 7 #[.string (bytesOf (kscr 2))] AW.empty) (kans 2) = true := by kernel_rfl
end Go.Proofs.YtglgakcdjdhonaaGreatDoor.Abs
