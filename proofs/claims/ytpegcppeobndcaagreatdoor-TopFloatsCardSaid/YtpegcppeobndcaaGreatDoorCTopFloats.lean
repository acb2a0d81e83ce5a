/- The tied card of the law TopFloats: for every input it answers true, and leaves its arguments alone. -/
import Derived.Test.YtpegcppeobndcaaGreatDoorOTopFloats
import Derived.Test.YtpegcppeobndcaaGreatDoorSH
import Derived.Test.YtpegcppeobndcaaGreatDoorCards
import Derived.Test.YtpegcppeobndcaaGreatDoorTie
import Derived.SevenTiedAt
set_option linter.unusedVariables false
namespace Go.Proofs.YtpegcppeobndcaaGreatDoor.topFloats
open Go.ChangeShapes Go.WideShapes Go.ChangeAt Go.RowKit Go.WideMaps
open Go.ChangeMaps (open_string shut_string)
open Go.Proofs.YtpegcppeobndcaaGreatDoor.G Go.Proofs.YtpegcppeobndcaaGreatDoor.Nn YtpegcppeobndcaaGreatDoorW.PrintWords YtpegcppeobndcaaGreatDoorW.PrintLast
theorem text : Rows.topFloatsRow.wfByText (OpenSpec.ofChange Rows.topFloatsSpec) = true := by kernel_rfl
theorem goes : (false : Bool) = Rows.topFloatsRow.goesBy Tryz.prog := by kernel_rfl
theorem looks : (false : Bool) = Tryz.prog.looks [] := by kernel_rfl
theorem stands : ([22, 3].all fun u => !Tryz.prog.wantsStandIn u) = true := by kernel_rfl
theorem card : Rows.TopFloatsCardSaid :=
 Claim7.holds_tied_plain_at .later [] [.data, .data, .data, .data, .pinned] true Rows.topFloatsCard.stood.harness false
  over (fun _ h => by cases h) text (fun _ h => by cases h) topFloats_row_tie rfl ⟨rfl, rfl⟩ F.main rfl
  (fun f fn hf hfn => by
   obtain rfl : f = 3 := Option.some.inj (named.symm.trans hf) |>.symm
   obtain rfl : fn = Tryz.f3 := (Option.some.inj (Tryz.func3.symm.trans hfn)).symm
   exact ⟨looks, fun j t ht => by
    rw [Tryz.params3] at ht
    have hm : t ∈ [22, 3] := by simpa using Array.mem_of_getElem? ht
    exact (show Tryz.prog.wantsStandIn t = false by simpa using List.all_eq_true.1 stands t hm)⟩)
  goes
#print axioms card
end Go.Proofs.YtpegcppeobndcaaGreatDoor.topFloats
