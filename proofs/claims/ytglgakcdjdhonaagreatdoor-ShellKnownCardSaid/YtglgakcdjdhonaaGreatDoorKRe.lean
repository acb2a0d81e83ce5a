/- Runs of the shell on closed scripts. -/
import Derived.Test.YtglgakcdjdhonaaGreatDoorSE
import Derived.Test.YtglgakcdjdhonaaGreatDoorKR
set_option linter.unusedVariables false
namespace Go.Proofs.YtglgakcdjdhonaaGreatDoor.Abs
theorem krun12 : strEq (evF Tryz.prog orac 100000 7 #[.string (bytesOf (kscr 12))] AW.empty) (kans 12) = true := by kernel_rfl
theorem krun14 : strEq (evF Tryz.prog orac 100000 7 #[.string (bytesOf (kscr 14))] AW.empty) (kans 14) = true := by kernel_rfl
end Go.Proofs.YtglgakcdjdhonaaGreatDoor.Abs
