/- The tied card of the law RatSums: for every input it answers true, and leaves its arguments alone. -/
import Derived.Test.YtklhpobphloehaaGreatDoorORatSums
import Derived.Test.YtklhpobphloehaaGreatDoorF4
import Derived.Test.YtklhpobphloehaaGreatDoorCards
import Derived.Test.YtklhpobphloehaaGreatDoorTie
import Derived.SevenTiedAt
set_option linter.unusedVariables false
namespace Go.Proofs.YtklhpobphloehaaGreatDoor.ratSums
open Go.ChangeShapes Go.WideShapes Go.ChangeAt Go.RowKit Go.WideMaps
open Go.ChangeMaps (open_string shut_string)
open Go.Proofs.YtklhpobphloehaaGreatDoor.G Go.Proofs.YtklhpobphloehaaGreatDoor.Nn Go.Proofs.YtklhpobphloehaaGreatDoorW.PrintWords Go.Proofs.YtklhpobphloehaaGreatDoorW.PrintLast

theorem text : Rows.ratSumsRow.wfByText (OpenSpec.ofChange Rows.ratSumsSpec) = true := by kernel_rfl
theorem goes : (false : Bool) = Rows.ratSumsRow.goesBy Tryz.prog := by kernel_rfl
theorem looks : (false : Bool) = Tryz.prog.looks [] := by kernel_rfl
theorem stands : ([24, 3].all fun u => !Tryz.prog.wantsStandIn u) = true := by kernel_rfl
theorem card : Rows.RatSumsCardSaid :=
  Claim7.holds_tied_plain_at .later [] [.data, .data, .data] true Rows.ratSumsCard.stood.harness false
    over (fun _ h => by cases h) text (fun _ h => by cases h) ratSums_row_tie rfl ⟨rfl, rfl⟩ F.main rfl
    (fun f fn hf hfn => by
      obtain rfl : f = 3 := Option.some.inj (named.symm.trans hf) |>.symm
      obtain rfl : fn = Tryz.f3 := (Option.some.inj (Tryz.func3.symm.trans hfn)).symm
      exact ⟨looks, fun j t ht => by
        rw [Tryz.params3] at ht
        have hm : t ∈ [24, 3] := by simpa using Array.mem_of_getElem? ht
        exact (show Tryz.prog.wantsStandIn t = false by simpa using List.all_eq_true.1 stands t hm)⟩)
    goes
#print axioms card
end Go.Proofs.YtklhpobphloehaaGreatDoor.ratSums
