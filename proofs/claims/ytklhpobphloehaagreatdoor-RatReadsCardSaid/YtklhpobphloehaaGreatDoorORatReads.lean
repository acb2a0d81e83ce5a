/- The row of the law RatReads holds. -/
import Derived.Test.YtklhpobphloehaaGreatDoorRRatReads
import Derived.Test.YtklhpobphloehaaGreatDoorF1
import Derived.Test.YtklhpobphloehaaGreatDoorF2
import Derived.Test.YtklhpobphloehaaGreatDoorF3
set_option linter.unusedVariables false
namespace Go.Proofs.YtklhpobphloehaaGreatDoor.ratReads
open Go.ChangeShapes Go.WideShapes Go.ChangeAt Go.RowKit Go.WideMaps
open Go.ChangeMaps (open_string shut_string)
open Go.Proofs.YtklhpobphloehaaGreatDoor.G Go.Proofs.YtklhpobphloehaaGreatDoor.Nn Go.Proofs.YtklhpobphloehaaGreatDoorW.PrintWords Go.Proofs.YtklhpobphloehaaGreatDoorW.PrintLast

theorem named : Tryz.prog.funcNamed Rows.ratReadsRow.func = some 4 := by kernel_rfl
theorem k0 : (Rows.ratReadsRow.wf (OpenSpec.ofChange (Rows.ratReadsSpec))) = true := by kernel_rfl
theorem k1 : (laidOutB Tryz.prog) = true := by kernel_rfl
theorem k2 : (mapsRowed Tryz.prog) = true := by kernel_rfl
theorem k3 : (Tryz.f4.params.all (Tryz.prog.readableRec ·)) = true := by kernel_rfl
theorem k4 : (namedTie Tryz.prog Rows.ratReadsRow.named (Rows.ratReadsSpec).vars) = true := by kernel_rfl
theorem k5 : (Rows.ratReadsRow.stops == []) = true := by kernel_rfl
theorem k6 : (Tryz.prog.stops == []) = true := by kernel_rfl
theorem k7 : (Rows.ratReadsRow.knobs == []) = true := by kernel_rfl
theorem k8 : (Tryz.prog.stopKnobs == []) = true := by kernel_rfl
theorem k9 : (Rows.ratReadsRow.inPlace == Tryz.prog.inPlace 4) = true := by kernel_rfl
theorem k10 : (Rows.ratReadsRow.unfollowed == Tryz.prog.unfollowed 4) = true := by kernel_rfl
theorem k11 : (Rows.ratReadsRow.recurses == Tryz.prog.recurses 4) = true := by kernel_rfl
theorem k12 : (Rows.ratReadsRow.named == Tryz.prog.varsNamed 4) = true := by kernel_rfl
theorem k13 : (Rows.ratReadsRow.maps == (Tryz.f4.params.toList ++ (Rows.ratReadsSpec).plain.varTypes Tryz.prog).any (Tryz.prog.mapsRec ·)) = true := by kernel_rfl
theorem k14 : (Rows.ratReadsRow.ifaces == (Tryz.f4.params.toList ++ (Rows.ratReadsSpec).plain.varTypes Tryz.prog).any (Tryz.prog.ifacesRec ·)) = true := by kernel_rfl
theorem k15 : (Rows.ratReadsRow.mapsOut == Tryz.prog.mapsAmong Tryz.f4.resultTypes.toList) = true := by kernel_rfl
theorem k16 : (Rows.ratReadsRow.loops == (Tryz.f4.params.toList ++ (Rows.ratReadsSpec).plain.varTypes Tryz.prog).any (Tryz.prog.loopsFrom ·)) = true := by kernel_rfl
theorem k17 : (Rows.ratReadsRow.wideKeys == (Tryz.f4.params.toList ++ (Rows.ratReadsSpec).plain.varTypes Tryz.prog ++ Tryz.f4.resultTypes.toList).any (Tryz.prog.wideKeysFrom ·)) = true := by kernel_rfl
theorem k18 : ((Rows.ratReadsSpec).vars.all (Tryz.prog.varReadable ·)) = true := by kernel_rfl
theorem k19 : (Tryz.f4.resultTypes.all (fun t => Tryz.prog.readableRec t && decide (t < Tryz.prog.types.size))) = true := by kernel_rfl
theorem k20 : (Rows.ratReadsRow.ifacesOut == Tryz.f4.resultTypes.toList.any (Tryz.prog.ifacesRec ·)) = true := by kernel_rfl
theorem k21 : (Rows.ratReadsRow.loopsOut == Tryz.f4.resultTypes.toList.any (Tryz.prog.loopsFrom ·)) = true := by kernel_rfl
theorem k22 : (Rows.ratReadsRow.plainKeys == Tryz.prog.plainKeys) = true := by kernel_rfl
theorem k23 : (Rows.ratReadsRow.shortTexts.isNone) = true := by kernel_rfl
theorem k24 : (Tryz.prog.stopsHeard) = true := by kernel_rfl
theorem k28 : (Rows.ratReadsRow.kinds == (if Rows.ratReadsRow.domain.isEmpty then [] else Tryz.f4.params.toList.map fun t => match Tryz.prog.underlying t with | some (.int k) => some k | _ => none)) = true := by kernel_rfl
theorem k29 : (Rows.ratReadsRow.pinned == Rows.ratReadsRow.pinnedBy) = true := by kernel_rfl
theorem k30 : (Rows.ratReadsRow.veiled == (Tryz.f4.params.toList ++ (Rows.ratReadsSpec).plain.varTypes Tryz.prog ++ Tryz.f4.resultTypes.toList).any (Tryz.prog.veiledRec ·)) = true := by kernel_rfl
theorem k31 : (Rows.ratReadsRow.veiledFits Tryz.prog Tryz.f4.params.toList (Tryz.f4.params.toList ++ (Rows.ratReadsSpec).plain.varTypes Tryz.prog ++ Tryz.f4.resultTypes.toList)) = true := by kernel_rfl
theorem both {a b : Bool} (h1 : a = true) (h2 : b = true) : (a && b) = true := by rw [h1, h2]; rfl
set_option maxRecDepth 100000 in
theorem closed : joinedFacts Tryz.prog 4 Tryz.f4 (Rows.ratReadsSpec) Rows.ratReadsRow = true := by
  unfold joinedFacts
  exact (both (both (both (both (both (both (both (both (both (both (both (both (both (both (both (both (both (both (both (both (both (both (both (both (both (both (both (both (both (both (both k0 k1) k2) k3) k4) k5) k6) k7) k8) k9) k10) k11) k12) k13) k14) k15) k16) k17) k18) k19) k20) k21) k22) k23) k24) F.mayEnter) F.lifts) F.make) k28) k29) k30) k31)
theorem over : Rows.ratReadsRow.holds Tryz.pinned (OpenSpec.ofChange Rows.ratReadsSpec) :=
  OpenClaim.holds_of_wide 4 Tryz.f4 rfl rfl rfl rfl rfl rfl rfl ⟨rfl, rfl, rfl, rfl, rfl⟩ rfl rfl rfl rfl rfl named Tryz.func4 closed
    (of_decide_eq_true (by kernel_rfl)) (by unfold Func.isWrapper; first | (rw [if_pos (by decide +kernel)]; kernel_rfl) | (rw [if_neg (by decide +kernel)]; exact ⟨rfl, rfl⟩))
    (fun os started H enc _ => lifted os started H enc)
end Go.Proofs.YtklhpobphloehaaGreatDoor.ratReads
