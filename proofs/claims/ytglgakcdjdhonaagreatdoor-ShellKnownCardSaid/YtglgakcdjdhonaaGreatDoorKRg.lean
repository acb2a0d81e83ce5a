/- Runs of the shell on closed scripts. -/
import Derived.Test.YtglgakcdjdhonaaGreatDoorSE
import Derived.Test.YtglgakcdjdhonaaGreatDoorKR
set_option linter.unusedVariables false
namespace Go.Proofs.YtglgakcdjdhonaaGreatDoor.Abs
theorem krun18 : strEq (evF Tryz.prog orac 100000 7 #[.string (bytesOf (kscr 18))] AW.empty) (kans 18) = true := by kernel_rfl
theorem krun19 : strEq (evF Tryz.prog orac 100000 7 #[.string (bytesOf (kscr 19))] AW.empty) (kans 19) = true := by kernel_rfl
theorem krun20 : strEq (evF Tryz.prog orac 100000 7 #[.string (bytesOf (kscr 20))] AW.empty) (kans 20) = true := by kernel_rfl
end Go.Proofs.YtglgakcdjdhonaaGreatDoor.Abs
