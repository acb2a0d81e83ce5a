/- The row of the law RatEnds holds. -/
import Derived.Test.YtklhpobphloehaaDoorRRatEnds
import Derived.Test.YtklhpobphloehaaDoorF1
import Derived.Test.YtklhpobphloehaaDoorF2
import Derived.Test.YtklhpobphloehaaDoorF3
set_option linter.unusedVariables false
namespace Go.Proofs.YtklhpobphloehaaDoor.ratEnds
open Go.ChangeShapes Go.WideShapes Go.ChangeAt Go.RowKit Go.WideMaps
open Go.ChangeMaps (open_string shut_string)
open Go.Proofs.YtklhpobphloehaaDoor.G Go.Proofs.YtklhpobphloehaaDoor.Nn Go.Proofs.YtklhpobphloehaaDoorW.PrintWords Go.Proofs.YtklhpobphloehaaDoorW.PrintLast

theorem named : Tryd.prog.funcNamed Rows.ratEndsRow.func = some 16 := by kernel_rfl
theorem k0 : (Rows.ratEndsRow.wf (OpenSpec.ofChange (Rows.ratEndsSpec))) = true := by kernel_rfl
theorem k1 : (laidOutB Tryd.prog) = true := by kernel_rfl
theorem k2 : (mapsRowed Tryd.prog) = true := by kernel_rfl
theorem k3 : (Tryd.f16.params.all (Tryd.prog.readableRec ·)) = true := by kernel_rfl
theorem k4 : (namedTie Tryd.prog Rows.ratEndsRow.named (Rows.ratEndsSpec).vars) = true := by kernel_rfl
theorem k5 : (Rows.ratEndsRow.stops == []) = true := by kernel_rfl
theorem k6 : (Tryd.prog.stops == []) = true := by kernel_rfl
theorem k7 : (Rows.ratEndsRow.knobs == []) = true := by kernel_rfl
theorem k8 : (Tryd.prog.stopKnobs == []) = true := by kernel_rfl
theorem k9 : (Rows.ratEndsRow.inPlace == Tryd.prog.inPlace 16) = true := by kernel_rfl
theorem k10 : (Rows.ratEndsRow.unfollowed == Tryd.prog.unfollowed 16) = true := by kernel_rfl
theorem k11 : (Rows.ratEndsRow.recurses == Tryd.prog.recurses 16) = true := by kernel_rfl
theorem k12 : (Rows.ratEndsRow.named == Tryd.prog.varsNamed 16) = true := by kernel_rfl
theorem k13 : (Rows.ratEndsRow.maps == (Tryd.f16.params.toList ++ (Rows.ratEndsSpec).plain.varTypes Tryd.prog).any (Tryd.prog.mapsRec ·)) = true := by kernel_rfl
theorem k14 : (Rows.ratEndsRow.ifaces == (Tryd.f16.params.toList ++ (Rows.ratEndsSpec).plain.varTypes Tryd.prog).any (Tryd.prog.ifacesRec ·)) = true := by kernel_rfl
theorem k15 : (Rows.ratEndsRow.mapsOut == Tryd.prog.mapsAmong Tryd.f16.resultTypes.toList) = true := by kernel_rfl
theorem k16 : (Rows.ratEndsRow.loops == (Tryd.f16.params.toList ++ (Rows.ratEndsSpec).plain.varTypes Tryd.prog).any (Tryd.prog.loopsFrom ·)) = true := by kernel_rfl
theorem k17 : (Rows.ratEndsRow.wideKeys == (Tryd.f16.params.toList ++ (Rows.ratEndsSpec).plain.varTypes Tryd.prog ++ Tryd.f16.resultTypes.toList).any (Tryd.prog.wideKeysFrom ·)) = true := by kernel_rfl
theorem k18 : ((Rows.ratEndsSpec).vars.all (Tryd.prog.varReadable ·)) = true := by kernel_rfl
theorem k19 : (Tryd.f16.resultTypes.all (fun t => Tryd.prog.readableRec t && decide (t < Tryd.prog.types.size))) = true := by kernel_rfl
theorem k20 : (Rows.ratEndsRow.ifacesOut == Tryd.f16.resultTypes.toList.any (Tryd.prog.ifacesRec ·)) = true := by kernel_rfl
theorem k21 : (Rows.ratEndsRow.loopsOut == Tryd.f16.resultTypes.toList.any (Tryd.prog.loopsFrom ·)) = true := by kernel_rfl
theorem k22 : (Rows.ratEndsRow.plainKeys == Tryd.prog.plainKeys) = true := by kernel_rfl
theorem k23 : (Rows.ratEndsRow.shortTexts.isNone) = true := by kernel_rfl
theorem k24 : (Tryd.prog.stopsHeard) = true := by kernel_rfl
theorem k28 : (Rows.ratEndsRow.kinds == (if Rows.ratEndsRow.domain.isEmpty then [] else Tryd.f16.params.toList.map fun t => match Tryd.prog.underlying t with | some (.int k) => some k | _ => none)) = true := by kernel_rfl
theorem k29 : (Rows.ratEndsRow.pinned == Rows.ratEndsRow.pinnedBy) = true := by kernel_rfl
theorem k30 : (Rows.ratEndsRow.veiled == (Tryd.f16.params.toList ++ (Rows.ratEndsSpec).plain.varTypes Tryd.prog ++ Tryd.f16.resultTypes.toList).any (Tryd.prog.veiledRec ·)) = true := by kernel_rfl
theorem k31 : (Rows.ratEndsRow.veiledFits Tryd.prog Tryd.f16.params.toList (Tryd.f16.params.toList ++ (Rows.ratEndsSpec).plain.varTypes Tryd.prog ++ Tryd.f16.resultTypes.toList)) = true := by kernel_rfl
theorem both {a b : Bool} (h1 : a = true) (h2 : b = true) : (a && b) = true := by rw [h1, h2]; rfl
set_option maxRecDepth 100000 in
theorem closed : joinedFacts Tryd.prog 16 Tryd.f16 (Rows.ratEndsSpec) Rows.ratEndsRow = true := by
  unfold joinedFacts
  exact (both (both (both (both (both (both (both (both (both (both (both (both (both (both (both (both (both (both (both (both (both (both (both (both (both (both (both (both (both (both (both k0 k1) k2) k3) k4) k5) k6) k7) k8) k9) k10) k11) k12) k13) k14) k15) k16) k17) k18) k19) k20) k21) k22) k23) k24) F.mayEnter) F.lifts) F.make) k28) k29) k30) k31)
theorem over : Rows.ratEndsRow.holds Tryd.pinned (OpenSpec.ofChange Rows.ratEndsSpec) :=
  OpenClaim.holds_of_wide 16 Tryd.f16 rfl rfl rfl rfl rfl rfl rfl ⟨rfl, rfl, rfl, rfl, rfl⟩ rfl rfl rfl rfl rfl named Tryd.func16 closed
    (of_decide_eq_true (by kernel_rfl)) (by unfold Func.isWrapper; first | (rw [if_pos (by decide +kernel)]; kernel_rfl) | (rw [if_neg (by decide +kernel)]; exact ⟨rfl, rfl⟩))
    (fun os started H enc _ => lifted os started H enc)
end Go.Proofs.YtklhpobphloehaaDoor.ratEnds
