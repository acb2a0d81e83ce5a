/- The tied card of the law RatTexts: for every input it answers true, and leaves its arguments alone. -/
import Derived.Test.YtklhpobphloehaaDoorORatTexts
import Derived.Test.YtklhpobphloehaaDoorF4
import Derived.Test.YtklhpobphloehaaDoorCards
import Derived.Test.YtklhpobphloehaaDoorTie
import Derived.SevenTiedAt
set_option linter.unusedVariables false
namespace Go.Proofs.YtklhpobphloehaaDoor.ratTexts
open Go.ChangeShapes Go.WideShapes Go.ChangeAt Go.RowKit Go.WideMaps
open Go.ChangeMaps (open_string shut_string)
open Go.Proofs.YtklhpobphloehaaDoor.G Go.Proofs.YtklhpobphloehaaDoor.Nn Go.Proofs.YtklhpobphloehaaDoorW.PrintWords Go.Proofs.YtklhpobphloehaaDoorW.PrintLast

theorem text : Rows.ratTextsRow.wfByText (OpenSpec.ofChange Rows.ratTextsSpec) = true := by kernel_rfl
theorem goes : (false : Bool) = Rows.ratTextsRow.goesBy Tryd.prog := by kernel_rfl
theorem looks : (false : Bool) = Tryd.prog.looks [] := by kernel_rfl
theorem stands : ([56, 22].all fun u => !Tryd.prog.wantsStandIn u) = true := by kernel_rfl
theorem card : Rows.RatTextsCardSaid :=
  Claim7.holds_tied_plain_at .later [] [.data, .data, .data, .data, .pinned] true Rows.ratTextsCard.stood.harness false
    over (fun _ h => by cases h) text (fun _ h => by cases h) ratTexts_row_tie rfl ⟨rfl, rfl⟩ F.main rfl
    (fun f fn hf hfn => by
      obtain rfl : f = 21 := Option.some.inj (named.symm.trans hf) |>.symm
      obtain rfl : fn = Tryd.f21 := (Option.some.inj (Tryd.func21.symm.trans hfn)).symm
      exact ⟨looks, fun j t ht => by
        rw [Tryd.params21] at ht
        have hm : t ∈ [56, 22] := by simpa using Array.mem_of_getElem? ht
        exact (show Tryd.prog.wantsStandIn t = false by simpa using List.all_eq_true.1 stands t hm)⟩)
    goes
#print axioms card
end Go.Proofs.YtklhpobphloehaaDoor.ratTexts
