/- Runs of the shell on closed scripts. -/
import Derived.Test.YtglgakcdjdhonaaGreatDoorSE
import Derived.Test.YtglgakcdjdhonaaGreatDoorKR
set_option linter.unusedVariables false
namespace Go.Proofs.YtglgakcdjdhonaaGreatDoor.Abs
theorem krun3 : strEq (evF Tryz.prog orac 100000 7 #[.string (bytesOf (kscr 3))] AW.empty) (kans 3) = true := by kernel_rfl
theorem krun4 : strEq (evF Tryz.prog orac 100000 7 #[.string (bytesOf (kscr 4))] AW.empty) (kans 4) = true := by kernel_rfl
theorem krun5 : strEq (evF Tryz.prog orac 100000 7 #[.string (bytesOf (kscr 5))] AW.empty) (kans 5) = true := by kernel_rfl
end Go.Proofs.YtglgakcdjdhonaaGreatDoor.Abs
