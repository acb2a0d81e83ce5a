/- The tied card of the law ShellWords: for every input it answers true, and leaves its arguments alone. -/
import Derived.Test.YtccahbfbbaaicaaGreatDoorOShellWords
import Derived.Test.YtccahbfbbaaicaaGreatDoorSH
import Derived.Test.YtccahbfbbaaicaaGreatDoorCards
import Derived.Test.YtccahbfbbaaicaaGreatDoorTie
import Derived.SevenTiedAt
set_option linter.unusedVariables false
namespace Go.Proofs.YtccahbfbbaaicaaGreatDoor.shellWords
open Go.ChangeShapes Go.WideShapes Go.ChangeAt Go.RowKit Go.WideMaps
open Go.ChangeMaps (open_string shut_string)
open Go.Proofs.YtccahbfbbaaicaaGreatDoor.G Go.Proofs.YtccahbfbbaaicaaGreatDoor.Nn Go.Proofs.YtccahbfbbaaicaaGreatDoorW.PrintWords Go.Proofs.YtccahbfbbaaicaaGreatDoorW.PrintLast
theorem text : Rows.shellWordsUptoRow.wfByText (Rows.OpenSpec.upto Rows.shellWordsSpec) = true := by kernel_rfl
theorem goes : (false : Bool) = Rows.shellWordsUptoRow.goesBy Tryz.prog := by kernel_rfl
theorem looks : (true : Bool) = Tryz.prog.looks [] := by kernel_rfl
theorem stands : ([9, 22].all fun u => !Tryz.prog.wantsStandIn u) = true := by kernel_rfl
theorem card : Rows.ShellWordsUptoCardSaid :=
 Claim7.holds_tied_plain_at .later [] [.data, .data, .data, .data, .sentinel, .sentinel, .pinned] true Rows.shellWordsUptoCard.stood.harness true
  over (fun _ h => by cases h) text (fun _ h => by cases h) shellWordsUpto_row_tie rfl ⟨rfl, rfl⟩ F.main rfl
  (fun f fn hf hfn => by
   obtain rfl : f = 3 := Option.some.inj (named.symm.trans hf) |>.symm
   obtain rfl : fn = Tryz.f3 := (Option.some.inj (Tryz.func3.symm.trans hfn)).symm
   exact ⟨looks, fun j t ht => by
    rw [Tryz.params3] at ht
    have hm : t ∈ [9, 22] := by simpa using Array.mem_of_getElem? ht
    exact (show Tryz.prog.wantsStandIn t = false by simpa using List.all_eq_true.1 stands t hm)⟩)
  goes
#print axioms card
end Go.Proofs.YtccahbfbbaaicaaGreatDoor.shellWords
