/- The tied card of the law ShellKnown: for every input it answers true, and leaves its arguments alone. -/
import Derived.Test.YtglgakcdjdhonaaGreatDoorOShellKnown
import Derived.Test.YtglgakcdjdhonaaGreatDoorSH
import Derived.Test.YtglgakcdjdhonaaGreatDoorCards
import Derived.Test.YtglgakcdjdhonaaGreatDoorTie
import Derived.SevenTiedAt
set_option linter.unusedVariables false
namespace Go.Proofs.YtglgakcdjdhonaaGreatDoor.shellKnown
open Go.ChangeShapes Go.WideShapes Go.ChangeAt Go.RowKit Go.WideMaps
open Go.ChangeMaps (open_string shut_string)
open Go.Proofs.YtglgakcdjdhonaaGreatDoor.G Go.Proofs.YtglgakcdjdhonaaGreatDoor.Nn Go.Proofs.YtglgakcdjdhonaaGreatDoorW.PrintWords Go.Proofs.YtglgakcdjdhonaaGreatDoorW.PrintLast
theorem text : Rows.shellKnownRow.wfByText (OpenSpec.ofChange Rows.shellKnownSpec) = true := by kernel_rfl
theorem goes : (false : Bool) = Rows.shellKnownRow.goesBy Tryz.prog := by kernel_rfl
theorem looks : (true : Bool) = Tryz.prog.looks [] := by kernel_rfl
theorem stands : ([3].all fun u => !Tryz.prog.wantsStandIn u) = true := by kernel_rfl
theorem card : Rows.ShellKnownCardSaid :=
 Claim7.holds_tied_plain_at .later [] [.data, .data, .data, .data, .sentinel, .sentinel, .pinned] true Rows.shellKnownCard.stood.harness true
  over (fun _ h => by cases h) text (fun _ h => by cases h) shellKnown_row_tie rfl ⟨rfl, rfl⟩ F.main rfl
  (fun f fn hf hfn => by
   obtain rfl : f = 3 := Option.some.inj (named.symm.trans hf) |>.symm
   obtain rfl : fn = Tryz.f3 := (Option.some.inj (Tryz.func3.symm.trans hfn)).symm
   exact ⟨looks, fun j t ht => by
    rw [Tryz.params3] at ht
    have hm : t ∈ [3] := by simpa using Array.mem_of_getElem? ht
    exact (show Tryz.prog.wantsStandIn t = false by simpa using List.all_eq_true.1 stands t hm)⟩)
  goes
#print axioms card
end Go.Proofs.YtglgakcdjdhonaaGreatDoor.shellKnown
