/- The tied card of the law RatReads: for every input it answers true, and leaves its arguments alone. -/
import Derived.Test.YtklhpobphloehaaGreatDoorORatReads
import Derived.Test.YtklhpobphloehaaGreatDoorF4
import Derived.Test.YtklhpobphloehaaGreatDoorCards
import Derived.Test.YtklhpobphloehaaGreatDoorTie
import Derived.SevenTiedAt
set_option linter.unusedVariables false
namespace Go.Proofs.YtklhpobphloehaaGreatDoor.ratReads
open Go.ChangeShapes Go.WideShapes Go.ChangeAt Go.RowKit Go.WideMaps
open Go.ChangeMaps (open_string shut_string)
open Go.Proofs.YtklhpobphloehaaGreatDoor.G Go.Proofs.YtklhpobphloehaaGreatDoor.Nn Go.Proofs.YtklhpobphloehaaGreatDoorW.PrintWords Go.Proofs.YtklhpobphloehaaGreatDoorW.PrintLast

theorem text : Rows.ratReadsRow.wfByText (OpenSpec.ofChange Rows.ratReadsSpec) = true := by kernel_rfl
theorem goes : (false : Bool) = Rows.ratReadsRow.goesBy Tryz.prog := by kernel_rfl
theorem looks : (false : Bool) = Tryz.prog.looks [] := by kernel_rfl
theorem stands : ([24, 3, 5, 9].all fun u => !Tryz.prog.wantsStandIn u) = true := by kernel_rfl
theorem card : Rows.RatReadsCardSaid :=
  Claim7.holds_tied_plain_at .later [] [.data, .data, .data, .data, .pinned] true Rows.ratReadsCard.stood.harness false
    over (fun _ h => by cases h) text (fun _ h => by cases h) ratReads_row_tie rfl ⟨rfl, rfl⟩ F.main rfl
    (fun f fn hf hfn => by
      obtain rfl : f = 4 := Option.some.inj (named.symm.trans hf) |>.symm
      obtain rfl : fn = Tryz.f4 := (Option.some.inj (Tryz.func4.symm.trans hfn)).symm
      exact ⟨looks, fun j t ht => by
        rw [Tryz.params4] at ht
        have hm : t ∈ [24, 3, 5, 9] := by simpa using Array.mem_of_getElem? ht
        exact (show Tryz.prog.wantsStandIn t = false by simpa using List.all_eq_true.1 stands t hm)⟩)
    goes
#print axioms card
end Go.Proofs.YtklhpobphloehaaGreatDoor.ratReads
