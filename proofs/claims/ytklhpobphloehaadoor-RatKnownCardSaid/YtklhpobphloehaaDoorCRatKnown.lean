/- The tied card of the law RatKnown: for every input it answers true, and leaves its arguments alone. -/
import Derived.Test.YtklhpobphloehaaDoorORatKnown
import Derived.Test.YtklhpobphloehaaDoorF4
import Derived.Test.YtklhpobphloehaaDoorCards
import Derived.Test.YtklhpobphloehaaDoorTie
import Derived.SevenTiedAt
set_option linter.unusedVariables false
namespace Go.Proofs.YtklhpobphloehaaDoor.ratKnown
open Go.ChangeShapes Go.WideShapes Go.ChangeAt Go.RowKit Go.WideMaps
open Go.ChangeMaps (open_string shut_string)
open Go.Proofs.YtklhpobphloehaaDoor.G Go.Proofs.YtklhpobphloehaaDoor.Nn Go.Proofs.YtklhpobphloehaaDoorW.PrintWords Go.Proofs.YtklhpobphloehaaDoorW.PrintLast

theorem text : Rows.ratKnownRow.wfByText (OpenSpec.ofChange Rows.ratKnownSpec) = true := by kernel_rfl
theorem goes : (false : Bool) = Rows.ratKnownRow.goesBy Tryd.prog := by kernel_rfl
theorem looks : (false : Bool) = Tryd.prog.looks [] := by kernel_rfl
theorem stands : ([3].all fun u => !Tryd.prog.wantsStandIn u) = true := by kernel_rfl
theorem card : Rows.RatKnownCardSaid :=
  Claim7.holds_tied_plain_at .later [] [.data, .data, .data, .data, .pinned] true Rows.ratKnownCard.stood.harness false
    over (fun _ h => by cases h) text (fun _ h => by cases h) ratKnown_row_tie rfl ⟨rfl, rfl⟩ F.main rfl
    (fun f fn hf hfn => by
      obtain rfl : f = 22 := Option.some.inj (named.symm.trans hf) |>.symm
      obtain rfl : fn = Tryd.f22 := (Option.some.inj (Tryd.func22.symm.trans hfn)).symm
      exact ⟨looks, fun j t ht => by
        rw [Tryd.params22] at ht
        have hm : t ∈ [3] := by simpa using Array.mem_of_getElem? ht
        exact (show Tryd.prog.wantsStandIn t = false by simpa using List.all_eq_true.1 stands t hm)⟩)
    goes
#print axioms card
end Go.Proofs.YtklhpobphloehaaDoor.ratKnown
