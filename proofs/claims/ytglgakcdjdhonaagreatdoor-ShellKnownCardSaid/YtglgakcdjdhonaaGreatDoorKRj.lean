/- A run of the shell on a closed script. -/
import Derived.Test.YtglgakcdjdhonaaGreatDoorA25
import Derived.Test.YtglgakcdjdhonaaGreatDoorKR
set_option linter.unusedVariables false
namespace Go.Proofs.YtglgakcdjdhonaaGreatDoor.Abs
theorem krun13 : strEq (evF Tryz.prog oracF 100000 7 #[.string (bytesOf (kscr 13))] AW.empty) (kans 13) = true := by kernel_rfl
end Go.Proofs.YtglgakcdjdhonaaGreatDoor.Abs
