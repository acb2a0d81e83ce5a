/- The tied card of the law ShellQuotes: for every input it answers true, and leaves its arguments alone. -/
import Derived.Test.YtccahbfbbaaicaaGreatDoorOShellQuotes
import Derived.Test.YtccahbfbbaaicaaGreatDoorSH
import Derived.Test.YtccahbfbbaaicaaGreatDoorCards
import Derived.Test.YtccahbfbbaaicaaGreatDoorTie
import Derived.SevenTiedAt
set_option linter.unusedVariables false
namespace Go.Proofs.YtccahbfbbaaicaaGreatDoor.shellQuotes
open Go.ChangeShapes Go.WideShapes Go.ChangeAt Go.RowKit Go.WideMaps
open Go.ChangeMaps (open_string shut_string)
open Go.Proofs.YtccahbfbbaaicaaGreatDoor.G Go.Proofs.YtccahbfbbaaicaaGreatDoor.Nn Go.Proofs.YtccahbfbbaaicaaGreatDoorW.PrintWords Go.Proofs.YtccahbfbbaaicaaGreatDoorW.PrintLast
theorem text : Rows.shellQuotesUptoRow.wfByText (Rows.OpenSpec.upto Rows.shellQuotesSpec) = true := by kernel_rfl
theorem goes : (false : Bool) = Rows.shellQuotesUptoRow.goesBy Tryz.prog := by kernel_rfl
theorem looks : (true : Bool) = Tryz.prog.looks [] := by kernel_rfl
theorem stands : ([32, 9].all fun u => !Tryz.prog.wantsStandIn u) = true := by kernel_rfl
theorem card : Rows.ShellQuotesUptoCardSaid :=
 Claim7.holds_tied_plain_at .later [] [.data, .data, .data, .data, .sentinel, .sentinel, .pinned] true Rows.shellQuotesUptoCard.stood.harness true
  over (fun _ h => by cases h) text (fun _ h => by cases h) shellQuotesUpto_row_tie rfl ⟨rfl, rfl⟩ F.main rfl
  (fun f fn hf hfn => by
   obtain rfl : f = 4 := Option.some.inj (named.symm.trans hf) |>.symm
   obtain rfl : fn = Tryz.f4 := (Option.some.inj (Tryz.func4.symm.trans hfn)).symm
   exact ⟨looks, fun j t ht => by
    rw [Tryz.params4] at ht
    have hm : t ∈ [32, 9] := by simpa using Array.mem_of_getElem? ht
    exact (show Tryz.prog.wantsStandIn t = false by simpa using List.all_eq_true.1 stands t hm)⟩)
  goes
#print axioms card
end Go.Proofs.YtccahbfbbaaicaaGreatDoor.shellQuotes
