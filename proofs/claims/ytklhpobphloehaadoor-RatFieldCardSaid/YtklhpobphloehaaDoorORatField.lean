/- The row of the law RatField holds. -/
import Derived.Test.YtklhpobphloehaaDoorRRatField
import Derived.Test.YtklhpobphloehaaDoorF1
import Derived.Test.YtklhpobphloehaaDoorF2
import Derived.Test.YtklhpobphloehaaDoorF3
set_option linter.unusedVariables false
namespace Go.Proofs.YtklhpobphloehaaDoor.ratField
open Go.ChangeShapes Go.WideShapes Go.ChangeAt Go.RowKit Go.WideMaps
open Go.ChangeMaps (open_string shut_string)
open Go.Proofs.YtklhpobphloehaaDoor.G Go.Proofs.YtklhpobphloehaaDoor.Nn Go.Proofs.YtklhpobphloehaaDoorW.PrintWords Go.Proofs.YtklhpobphloehaaDoorW.PrintLast

theorem named : Tryd.prog.funcNamed Rows.ratFieldRow.func = some 18 := by kernel_rfl
theorem k0 : (Rows.ratFieldRow.wf (OpenSpec.ofChange (Rows.ratFieldSpec))) = true := by kernel_rfl
theorem k1 : (laidOutB Tryd.prog) = true := by kernel_rfl
theorem k2 : (mapsRowed Tryd.prog) = true := by kernel_rfl
theorem k3 : (Tryd.f18.params.all (Tryd.prog.readableRec ·)) = true := by kernel_rfl
theorem k4 : (namedTie Tryd.prog Rows.ratFieldRow.named (Rows.ratFieldSpec).vars) = true := by kernel_rfl
theorem k5 : (Rows.ratFieldRow.stops == []) = true := by kernel_rfl
theorem k6 : (Tryd.prog.stops == []) = true := by kernel_rfl
theorem k7 : (Rows.ratFieldRow.knobs == []) = true := by kernel_rfl
theorem k8 : (Tryd.prog.stopKnobs == []) = true := by kernel_rfl
theorem k9 : (Rows.ratFieldRow.inPlace == Tryd.prog.inPlace 18) = true := by kernel_rfl
theorem k10 : (Rows.ratFieldRow.unfollowed == Tryd.prog.unfollowed 18) = true := by kernel_rfl
theorem k11 : (Rows.ratFieldRow.recurses == Tryd.prog.recurses 18) = true := by kernel_rfl
theorem k12 : (Rows.ratFieldRow.named == Tryd.prog.varsNamed 18) = true := by kernel_rfl
theorem k13 : (Rows.ratFieldRow.maps == (Tryd.f18.params.toList ++ (Rows.ratFieldSpec).plain.varTypes Tryd.prog).any (Tryd.prog.mapsRec ·)) = true := by kernel_rfl
theorem k14 : (Rows.ratFieldRow.ifaces == (Tryd.f18.params.toList ++ (Rows.ratFieldSpec).plain.varTypes Tryd.prog).any (Tryd.prog.ifacesRec ·)) = true := by kernel_rfl
theorem k15 : (Rows.ratFieldRow.mapsOut == Tryd.prog.mapsAmong Tryd.f18.resultTypes.toList) = true := by kernel_rfl
theorem k16 : (Rows.ratFieldRow.loops == (Tryd.f18.params.toList ++ (Rows.ratFieldSpec).plain.varTypes Tryd.prog).any (Tryd.prog.loopsFrom ·)) = true := by kernel_rfl
theorem k17 : (Rows.ratFieldRow.wideKeys == (Tryd.f18.params.toList ++ (Rows.ratFieldSpec).plain.varTypes Tryd.prog ++ Tryd.f18.resultTypes.toList).any (Tryd.prog.wideKeysFrom ·)) = true := by kernel_rfl
theorem k18 : ((Rows.ratFieldSpec).vars.all (Tryd.prog.varReadable ·)) = true := by kernel_rfl
theorem k19 : (Tryd.f18.resultTypes.all (fun t => Tryd.prog.readableRec t && decide (t < Tryd.prog.types.size))) = true := by kernel_rfl
theorem k20 : (Rows.ratFieldRow.ifacesOut == Tryd.f18.resultTypes.toList.any (Tryd.prog.ifacesRec ·)) = true := by kernel_rfl
theorem k21 : (Rows.ratFieldRow.loopsOut == Tryd.f18.resultTypes.toList.any (Tryd.prog.loopsFrom ·)) = true := by kernel_rfl
theorem k22 : (Rows.ratFieldRow.plainKeys == Tryd.prog.plainKeys) = true := by kernel_rfl
theorem k23 : (Rows.ratFieldRow.shortTexts.isNone) = true := by kernel_rfl
theorem k24 : (Tryd.prog.stopsHeard) = true := by kernel_rfl
theorem k28 : (Rows.ratFieldRow.kinds == (if Rows.ratFieldRow.domain.isEmpty then [] else Tryd.f18.params.toList.map fun t => match Tryd.prog.underlying t with | some (.int k) => some k | _ => none)) = true := by kernel_rfl
theorem k29 : (Rows.ratFieldRow.pinned == Rows.ratFieldRow.pinnedBy) = true := by kernel_rfl
theorem k30 : (Rows.ratFieldRow.veiled == (Tryd.f18.params.toList ++ (Rows.ratFieldSpec).plain.varTypes Tryd.prog ++ Tryd.f18.resultTypes.toList).any (Tryd.prog.veiledRec ·)) = true := by kernel_rfl
theorem k31 : (Rows.ratFieldRow.veiledFits Tryd.prog Tryd.f18.params.toList (Tryd.f18.params.toList ++ (Rows.ratFieldSpec).plain.varTypes Tryd.prog ++ Tryd.f18.resultTypes.toList)) = true := by kernel_rfl
theorem both {a b : Bool} (h1 : a = true) (h2 : b = true) : (a && b) = true := by rw [h1, h2]; rfl
set_option maxRecDepth 100000 in
theorem closed : joinedFacts Tryd.prog 18 Tryd.f18 (Rows.ratFieldSpec) Rows.ratFieldRow = true := by
  unfold joinedFacts
  exact (both (both (both (both (both (both (both (both (both (both (both (both (both (both (both (both (both (both (both (both (both (both (both (both (both (both (both (both (both (both (both k0 k1) k2) k3) k4) k5) k6) k7) k8) k9) k10) k11) k12) k13) k14) k15) k16) k17) k18) k19) k20) k21) k22) k23) k24) F.mayEnter) F.lifts) F.make) k28) k29) k30) k31)
theorem over : Rows.ratFieldRow.holds Tryd.pinned (OpenSpec.ofChange Rows.ratFieldSpec) :=
  OpenClaim.holds_of_wide 18 Tryd.f18 rfl rfl rfl rfl rfl rfl rfl ⟨rfl, rfl, rfl, rfl, rfl⟩ rfl rfl rfl rfl rfl named Tryd.func18 closed
    (of_decide_eq_true (by kernel_rfl)) (by unfold Func.isWrapper; first | (rw [if_pos (by decide +kernel)]; kernel_rfl) | (rw [if_neg (by decide +kernel)]; exact ⟨rfl, rfl⟩))
    (fun os started H enc _ => lifted os started H enc)
end Go.Proofs.YtklhpobphloehaaDoor.ratField
