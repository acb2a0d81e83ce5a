/- Runs of the shell on closed scripts. -/
import Derived.Test.YtglgakcdjdhonaaGreatDoorSE
import Derived.Test.YtglgakcdjdhonaaGreatDoorKR
set_option linter.unusedVariables false
namespace Go.Proofs.YtglgakcdjdhonaaGreatDoor.Abs
theorem krun15 : strEq (evF Tryz.prog orac 100000 7 #[.string (bytesOf (kscr 15))] AW.empty) (kans 15) = true := by kernel_rfl
theorem krun16 : strEq (evF Tryz.prog orac 100000 7 #[.string (bytesOf (kscr 16))] AW.empty) (kans 16) = true := by kernel_rfl
theorem krun17 : strEq (evF Tryz.prog orac 100000 7 #[.string (bytesOf (kscr 17))] AW.empty) (kans 17) = true := by kernel_rfl
end Go.Proofs.YtglgakcdjdhonaaGreatDoor.Abs
