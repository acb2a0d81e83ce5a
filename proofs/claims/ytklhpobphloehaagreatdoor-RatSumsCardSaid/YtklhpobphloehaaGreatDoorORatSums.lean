/- The row of the law RatSums holds. -/
import Derived.Test.YtklhpobphloehaaGreatDoorRRatSums
import Derived.Test.YtklhpobphloehaaGreatDoorF1
import Derived.Test.YtklhpobphloehaaGreatDoorF2
import Derived.Test.YtklhpobphloehaaGreatDoorF3
set_option linter.unusedVariables false
namespace Go.Proofs.YtklhpobphloehaaGreatDoor.ratSums
open Go.ChangeShapes Go.WideShapes Go.ChangeAt Go.RowKit Go.WideMaps
open Go.ChangeMaps (open_string shut_string)
open Go.Proofs.YtklhpobphloehaaGreatDoor.G Go.Proofs.YtklhpobphloehaaGreatDoor.Nn Go.Proofs.YtklhpobphloehaaGreatDoorW.PrintWords Go.Proofs.YtklhpobphloehaaGreatDoorW.PrintLast

theorem named : Tryz.prog.funcNamed Rows.ratSumsRow.func = some 3 := by kernel_rfl
theorem k0 : (Rows.ratSumsRow.wf (OpenSpec.ofChange (Rows.ratSumsSpec))) = true := by kernel_rfl
theorem k1 : (laidOutB Tryz.prog) = true := by kernel_rfl
theorem k2 : (mapsRowed Tryz.prog) = true := by kernel_rfl
theorem k3 : (Tryz.f3.params.all (Tryz.prog.readableRec ·)) = true := by kernel_rfl
theorem k4 : (namedTie Tryz.prog Rows.ratSumsRow.named (Rows.ratSumsSpec).vars) = true := by kernel_rfl
theorem k5 : (Rows.ratSumsRow.stops == []) = true := by kernel_rfl
theorem k6 : (Tryz.prog.stops == []) = true := by kernel_rfl
theorem k7 : (Rows.ratSumsRow.knobs == []) = true := by kernel_rfl
theorem k8 : (Tryz.prog.stopKnobs == []) = true := by kernel_rfl
theorem k9 : (Rows.ratSumsRow.inPlace == Tryz.prog.inPlace 3) = true := by kernel_rfl
theorem k10 : (Rows.ratSumsRow.unfollowed == Tryz.prog.unfollowed 3) = true := by kernel_rfl
theorem k11 : (Rows.ratSumsRow.recurses == Tryz.prog.recurses 3) = true := by kernel_rfl
theorem k12 : (Rows.ratSumsRow.named == Tryz.prog.varsNamed 3) = true := by kernel_rfl
theorem k13 : (Rows.ratSumsRow.maps == (Tryz.f3.params.toList ++ (Rows.ratSumsSpec).plain.varTypes Tryz.prog).any (Tryz.prog.mapsRec ·)) = true := by kernel_rfl
theorem k14 : (Rows.ratSumsRow.ifaces == (Tryz.f3.params.toList ++ (Rows.ratSumsSpec).plain.varTypes Tryz.prog).any (Tryz.prog.ifacesRec ·)) = true := by kernel_rfl
theorem k15 : (Rows.ratSumsRow.mapsOut == Tryz.prog.mapsAmong Tryz.f3.resultTypes.toList) = true := by kernel_rfl
theorem k16 : (Rows.ratSumsRow.loops == (Tryz.f3.params.toList ++ (Rows.ratSumsSpec).plain.varTypes Tryz.prog).any (Tryz.prog.loopsFrom ·)) = true := by kernel_rfl
theorem k17 : (Rows.ratSumsRow.wideKeys == (Tryz.f3.params.toList ++ (Rows.ratSumsSpec).plain.varTypes Tryz.prog ++ Tryz.f3.resultTypes.toList).any (Tryz.prog.wideKeysFrom ·)) = true := by kernel_rfl
theorem k18 : ((Rows.ratSumsSpec).vars.all (Tryz.prog.varReadable ·)) = true := by kernel_rfl
theorem k19 : (Tryz.f3.resultTypes.all (fun t => Tryz.prog.readableRec t && decide (t < Tryz.prog.types.size))) = true := by kernel_rfl
theorem k20 : (Rows.ratSumsRow.ifacesOut == Tryz.f3.resultTypes.toList.any (Tryz.prog.ifacesRec ·)) = true := by kernel_rfl
theorem k21 : (Rows.ratSumsRow.loopsOut == Tryz.f3.resultTypes.toList.any (Tryz.prog.loopsFrom ·)) = true := by kernel_rfl
theorem k22 : (Rows.ratSumsRow.plainKeys == Tryz.prog.plainKeys) = true := by kernel_rfl
theorem k23 : (Rows.ratSumsRow.shortTexts.isNone) = true := by kernel_rfl
theorem k24 : (Tryz.prog.stopsHeard) = true := by kernel_rfl
theorem k28 : (Rows.ratSumsRow.kinds == (if Rows.ratSumsRow.domain.isEmpty then [] else Tryz.f3.params.toList.map fun t => match Tryz.prog.underlying t with | some (.int k) => some k | _ => none)) = true := by kernel_rfl
theorem k29 : (Rows.ratSumsRow.pinned == Rows.ratSumsRow.pinnedBy) = true := by kernel_rfl
theorem k30 : (Rows.ratSumsRow.veiled == (Tryz.f3.params.toList ++ (Rows.ratSumsSpec).plain.varTypes Tryz.prog ++ Tryz.f3.resultTypes.toList).any (Tryz.prog.veiledRec ·)) = true := by kernel_rfl
theorem k31 : (Rows.ratSumsRow.veiledFits Tryz.prog Tryz.f3.params.toList (Tryz.f3.params.toList ++ (Rows.ratSumsSpec).plain.varTypes Tryz.prog ++ Tryz.f3.resultTypes.toList)) = true := by kernel_rfl
theorem both {a b : Bool} (h1 : a = true) (h2 : b = true) : (a && b) = true := by rw [h1, h2]; rfl
set_option maxRecDepth 100000 in
theorem closed : joinedFacts Tryz.prog 3 Tryz.f3 (Rows.ratSumsSpec) Rows.ratSumsRow = true := by
  unfold joinedFacts
  exact (both (both (both (both (both (both (both (both (both (both (both (both (both (both (both (both (both (both (both (both (both (both (both (both (both (both (both (both (both (both (both k0 k1) k2) k3) k4) k5) k6) k7) k8) k9) k10) k11) k12) k13) k14) k15) k16) k17) k18) k19) k20) k21) k22) k23) k24) F.mayEnter) F.lifts) F.make) k28) k29) k30) k31)
theorem over : Rows.ratSumsRow.holds Tryz.pinned (OpenSpec.ofChange Rows.ratSumsSpec) :=
  OpenClaim.holds_of_wide 3 Tryz.f3 rfl rfl rfl rfl rfl rfl rfl ⟨rfl, rfl, rfl, rfl, rfl⟩ rfl rfl rfl rfl rfl named Tryz.func3 closed
    (of_decide_eq_true (by kernel_rfl)) (by unfold Func.isWrapper; first | (rw [if_pos (by decide +kernel)]; kernel_rfl) | (rw [if_neg (by decide +kernel)]; exact ⟨rfl, rfl⟩))
    (fun os started H enc _ => lifted os started H enc)
end Go.Proofs.YtklhpobphloehaaGreatDoor.ratSums
