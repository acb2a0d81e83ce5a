/- A contract of the library that the printed walks lean on: strings.IndexByte. -/
import Derived.Shelf.Small.Strs
import Derived.Test.YtccahbfbbaaicaaGreatDoorProg
import Derived.Test.YtccahbfbbaaicaaGreatDoorSW
import Derived.Test.YtccahbfbbaaicaaGreatDoorLibD
set_option linter.unusedVariables false
namespace Go.Proofs.YtccahbfbbaaicaaGreatDoor.Giv
open Go.RowKit Go.Proofs.YtccahbfbbaaicaaGreatDoorW.PrintWords Go.Proofs.YtccahbfbbaaicaaGreatDoorW.PrintLast
def strings_IndexByte.f (a0 : ByteArray) (a1 : Int) : Option Int := some (Lib.indexByte a0.data.toList a1.toNat.toUInt8)
theorem strings_IndexByte.calls (a0 : ByteArray) (a1 : Int) (r : Int) (w : World) (h : strings_IndexByte.f a0 a1 = some r) :
  Calls Tryz.prog 29 #[.string a0, .int .u8 a1] w fun e w' => e = .returned (.int .i64 r) ∧ Drawn0 w w' := by
 cases h
 exact (Tryz.strings_IndexByte a0 a1 w).mono fun e w' ⟨h1, h2⟩ => ⟨h1, h2 ▸ Drawn0.refl _⟩
end Go.Proofs.YtccahbfbbaaicaaGreatDoor.Giv
