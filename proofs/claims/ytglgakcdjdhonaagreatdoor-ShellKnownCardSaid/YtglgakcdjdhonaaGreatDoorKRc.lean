/- Runs of the shell on closed scripts. -/
import Derived.Test.YtglgakcdjdhonaaGreatDoorSE
import Derived.Test.YtglgakcdjdhonaaGreatDoorKR
set_option linter.unusedVariables false
namespace Go.Proofs.YtglgakcdjdhonaaGreatDoor.Abs
theorem krun6 : strEq (evF Tryz.prog orac 100000 7 #[.string (bytesOf (kscr 6))] AW.empty) (kans 6) = true := by kernel_rfl
theorem krun7 : strEq (evF Tryz.prog orac 100000 7 #[.string (bytesOf (kscr 7))] AW.empty) (kans 7) = true := by kernel_rfl
theorem krun8 : strEq (evF Tryz.prog orac 100000 7 #[.string (bytesOf (kscr 8))] AW.empty) (kans 8) = true := by kernel_rfl
end Go.Proofs.YtglgakcdjdhonaaGreatDoor.Abs
