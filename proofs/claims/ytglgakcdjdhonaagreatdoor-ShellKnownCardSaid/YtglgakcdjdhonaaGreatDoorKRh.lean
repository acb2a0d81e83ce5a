/- Runs of the shell on closed scripts. -/
import Derived.Test.YtglgakcdjdhonaaGreatDoorSE
import Derived.Test.YtglgakcdjdhonaaGreatDoorKR
set_option linter.unusedVariables false
namespace Go.Proofs.YtglgakcdjdhonaaGreatDoor.Abs
theorem krun21 : strEq (evF Tryz.prog orac 100000 7 #[.string (bytesOf (kscr 21))] AW.empty) (kans 21) = true := by kernel_rfl
theorem krun22 : strEq (evF Tryz.prog orac 100000 7 #[.string (bytesOf (kscr 22))] AW.empty) (kans 22) = true := by kernel_rfl
theorem krun23 : strEq (evF Tryz.prog orac 100000 7 #[.string (bytesOf (kscr 23))] AW.empty) (kans 23) = true := by kernel_rfl
end Go.Proofs.YtglgakcdjdhonaaGreatDoor.Abs
