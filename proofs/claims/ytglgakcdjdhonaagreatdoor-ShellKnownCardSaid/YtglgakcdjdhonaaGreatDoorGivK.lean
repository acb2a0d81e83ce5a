/- What the printed walk of ShellKnown leans on: the known answers, and the shell's answers to twenty-six scripts. -/
import Derived.Test.YtglgakcdjdhonaaGreatDoorKR
set_option linter.unusedVariables false
namespace Go.Proofs.YtglgakcdjdhonaaGreatDoor.Giv
open Go.Proofs.YtglgakcdjdhonaaGreatDoor.Abs
def anticlinelaw18_known.f : Option Bool := some true
def bytesB (l : List UInt8) : ByteArray := ⟨⟨l⟩⟩
def seek (s : List UInt8) : Nat → Option ByteArray
 | 0 => none
 | n + 1 => if eqList (fun (x y : UInt8) => decide (x = y)) s (kscr n) then some (bytesB (kans n)) else seek s n
def shell_Run.f (s : ByteArray) : Option ByteArray := seek s.data.toList 26
end Go.Proofs.YtglgakcdjdhonaaGreatDoor.Giv
