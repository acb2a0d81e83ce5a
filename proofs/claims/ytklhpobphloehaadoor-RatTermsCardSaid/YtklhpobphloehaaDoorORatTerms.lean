/- The row of the law RatTerms holds. -/
import Derived.Test.YtklhpobphloehaaDoorRRatTerms
import Derived.Test.YtklhpobphloehaaDoorF1
import Derived.Test.YtklhpobphloehaaDoorF2
import Derived.Test.YtklhpobphloehaaDoorF3
set_option linter.unusedVariables false
namespace Go.Proofs.YtklhpobphloehaaDoor.ratTerms
open Go.ChangeShapes Go.WideShapes Go.ChangeAt Go.RowKit Go.WideMaps
open Go.ChangeMaps (open_string shut_string)
open Go.Proofs.YtklhpobphloehaaDoor.G Go.Proofs.YtklhpobphloehaaDoor.Nn Go.Proofs.YtklhpobphloehaaDoorW.PrintWords Go.Proofs.YtklhpobphloehaaDoorW.PrintLast

theorem named : Tryd.prog.funcNamed Rows.ratTermsRow.func = some 14 := by kernel_rfl
theorem k0 : (Rows.ratTermsRow.wf (OpenSpec.ofChange (Rows.ratTermsSpec))) = true := by kernel_rfl
theorem k1 : (laidOutB Tryd.prog) = true := by kernel_rfl
theorem k2 : (mapsRowed Tryd.prog) = true := by kernel_rfl
theorem k3 : (Tryd.f14.params.all (Tryd.prog.readableRec ·)) = true := by kernel_rfl
theorem k4 : (namedTie Tryd.prog Rows.ratTermsRow.named (Rows.ratTermsSpec).vars) = true := by kernel_rfl
theorem k5 : (Rows.ratTermsRow.stops == []) = true := by kernel_rfl
theorem k6 : (Tryd.prog.stops == []) = true := by kernel_rfl
theorem k7 : (Rows.ratTermsRow.knobs == []) = true := by kernel_rfl
theorem k8 : (Tryd.prog.stopKnobs == []) = true := by kernel_rfl
theorem k9 : (Rows.ratTermsRow.inPlace == Tryd.prog.inPlace 14) = true := by kernel_rfl
theorem k10 : (Rows.ratTermsRow.unfollowed == Tryd.prog.unfollowed 14) = true := by kernel_rfl
theorem k11 : (Rows.ratTermsRow.recurses == Tryd.prog.recurses 14) = true := by kernel_rfl
theorem k12 : (Rows.ratTermsRow.named == Tryd.prog.varsNamed 14) = true := by kernel_rfl
theorem k13 : (Rows.ratTermsRow.maps == (Tryd.f14.params.toList ++ (Rows.ratTermsSpec).plain.varTypes Tryd.prog).any (Tryd.prog.mapsRec ·)) = true := by kernel_rfl
theorem k14 : (Rows.ratTermsRow.ifaces == (Tryd.f14.params.toList ++ (Rows.ratTermsSpec).plain.varTypes Tryd.prog).any (Tryd.prog.ifacesRec ·)) = true := by kernel_rfl
theorem k15 : (Rows.ratTermsRow.mapsOut == Tryd.prog.mapsAmong Tryd.f14.resultTypes.toList) = true := by kernel_rfl
theorem k16 : (Rows.ratTermsRow.loops == (Tryd.f14.params.toList ++ (Rows.ratTermsSpec).plain.varTypes Tryd.prog).any (Tryd.prog.loopsFrom ·)) = true := by kernel_rfl
theorem k17 : (Rows.ratTermsRow.wideKeys == (Tryd.f14.params.toList ++ (Rows.ratTermsSpec).plain.varTypes Tryd.prog ++ Tryd.f14.resultTypes.toList).any (Tryd.prog.wideKeysFrom ·)) = true := by kernel_rfl
theorem k18 : ((Rows.ratTermsSpec).vars.all (Tryd.prog.varReadable ·)) = true := by kernel_rfl
theorem k19 : (Tryd.f14.resultTypes.all (fun t => Tryd.prog.readableRec t && decide (t < Tryd.prog.types.size))) = true := by kernel_rfl
theorem k20 : (Rows.ratTermsRow.ifacesOut == Tryd.f14.resultTypes.toList.any (Tryd.prog.ifacesRec ·)) = true := by kernel_rfl
theorem k21 : (Rows.ratTermsRow.loopsOut == Tryd.f14.resultTypes.toList.any (Tryd.prog.loopsFrom ·)) = true := by kernel_rfl
theorem k22 : (Rows.ratTermsRow.plainKeys == Tryd.prog.plainKeys) = true := by kernel_rfl
theorem k23 : (Rows.ratTermsRow.shortTexts.isNone) = true := by kernel_rfl
theorem k24 : (Tryd.prog.stopsHeard) = true := by kernel_rfl
theorem k28 : (Rows.ratTermsRow.kinds == (if Rows.ratTermsRow.domain.isEmpty then [] else Tryd.f14.params.toList.map fun t => match Tryd.prog.underlying t with | some (.int k) => some k | _ => none)) = true := by kernel_rfl
theorem k29 : (Rows.ratTermsRow.pinned == Rows.ratTermsRow.pinnedBy) = true := by kernel_rfl
theorem k30 : (Rows.ratTermsRow.veiled == (Tryd.f14.params.toList ++ (Rows.ratTermsSpec).plain.varTypes Tryd.prog ++ Tryd.f14.resultTypes.toList).any (Tryd.prog.veiledRec ·)) = true := by kernel_rfl
theorem k31 : (Rows.ratTermsRow.veiledFits Tryd.prog Tryd.f14.params.toList (Tryd.f14.params.toList ++ (Rows.ratTermsSpec).plain.varTypes Tryd.prog ++ Tryd.f14.resultTypes.toList)) = true := by kernel_rfl
theorem both {a b : Bool} (h1 : a = true) (h2 : b = true) : (a && b) = true := by rw [h1, h2]; rfl
set_option maxRecDepth 100000 in
theorem closed : joinedFacts Tryd.prog 14 Tryd.f14 (Rows.ratTermsSpec) Rows.ratTermsRow = true := by
  unfold joinedFacts
  exact (both (both (both (both (both (both (both (both (both (both (both (both (both (both (both (both (both (both (both (both (both (both (both (both (both (both (both (both (both (both (both k0 k1) k2) k3) k4) k5) k6) k7) k8) k9) k10) k11) k12) k13) k14) k15) k16) k17) k18) k19) k20) k21) k22) k23) k24) F.mayEnter) F.lifts) F.make) k28) k29) k30) k31)
theorem over : Rows.ratTermsRow.holds Tryd.pinned (OpenSpec.ofChange Rows.ratTermsSpec) :=
  OpenClaim.holds_of_wide 14 Tryd.f14 rfl rfl rfl rfl rfl rfl rfl ⟨rfl, rfl, rfl, rfl, rfl⟩ rfl rfl rfl rfl rfl named Tryd.func14 closed
    (of_decide_eq_true (by kernel_rfl)) (by unfold Func.isWrapper; first | (rw [if_pos (by decide +kernel)]; kernel_rfl) | (rw [if_neg (by decide +kernel)]; exact ⟨rfl, rfl⟩))
    (fun os started H enc _ => lifted os started H enc)
end Go.Proofs.YtklhpobphloehaaDoor.ratTerms
