/- Runs of the shell on closed scripts. -/
import Derived.Test.YtglgakcdjdhonaaGreatDoorSE
import Derived.Test.YtglgakcdjdhonaaGreatDoorKR
set_option linter.unusedVariables false
namespace Go.Proofs.YtglgakcdjdhonaaGreatDoor.Abs
theorem krun9 : strEq (evF Tryz.prog orac 100000 7 #[.string (bytesOf (kscr 9))] AW.empty) (kans 9) = true := by kernel_rfl
theorem krun10 : strEq (evF Tryz.prog orac 100000 7 #[.string (bytesOf (kscr 10))] AW.empty) (kans 10) = true := by kernel_rfl
theorem krun11 : strEq (evF Tryz.prog orac 100000 7 #[.string (bytesOf (kscr 11))] AW.empty) (kans 11) = true := by kernel_rfl
end Go.Proofs.YtglgakcdjdhonaaGreatDoor.Abs
