/- The tied card of the law RatTerms: for every input it answers true, and leaves its arguments alone. -/
import Derived.Test.YtklhpobphloehaaDoorORatTerms
import Derived.Test.YtklhpobphloehaaDoorF4
import Derived.Test.YtklhpobphloehaaDoorCards
import Derived.Test.YtklhpobphloehaaDoorTie
import Derived.SevenTiedAt
set_option linter.unusedVariables false
namespace Go.Proofs.YtklhpobphloehaaDoor.ratTerms
open Go.ChangeShapes Go.WideShapes Go.ChangeAt Go.RowKit Go.WideMaps
open Go.ChangeMaps (open_string shut_string)
open Go.Proofs.YtklhpobphloehaaDoor.G Go.Proofs.YtklhpobphloehaaDoor.Nn Go.Proofs.YtklhpobphloehaaDoorW.PrintWords Go.Proofs.YtklhpobphloehaaDoorW.PrintLast

theorem text : Rows.ratTermsRow.wfByText (OpenSpec.ofChange Rows.ratTermsSpec) = true := by kernel_rfl
theorem goes : (false : Bool) = Rows.ratTermsRow.goesBy Tryd.prog := by kernel_rfl
theorem looks : (false : Bool) = Tryd.prog.looks [] := by kernel_rfl
theorem stands : ([4, 22].all fun u => !Tryd.prog.wantsStandIn u) = true := by kernel_rfl
theorem card : Rows.RatTermsCardSaid :=
  Claim7.holds_tied_plain_at .later [] [.data, .data, .data] true Rows.ratTermsCard.stood.harness false
    over (fun _ h => by cases h) text (fun _ h => by cases h) ratTerms_row_tie rfl ⟨rfl, rfl⟩ F.main rfl
    (fun f fn hf hfn => by
      obtain rfl : f = 14 := Option.some.inj (named.symm.trans hf) |>.symm
      obtain rfl : fn = Tryd.f14 := (Option.some.inj (Tryd.func14.symm.trans hfn)).symm
      exact ⟨looks, fun j t ht => by
        rw [Tryd.params14] at ht
        have hm : t ∈ [4, 22] := by simpa using Array.mem_of_getElem? ht
        exact (show Tryd.prog.wantsStandIn t = false by simpa using List.all_eq_true.1 stands t hm)⟩)
    goes
#print axioms card
end Go.Proofs.YtklhpobphloehaaDoor.ratTerms
