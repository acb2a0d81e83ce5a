/- The row of the law RatOrder holds. -/
import Derived.Test.YtklhpobphloehaaDoorRRatOrder
import Derived.Test.YtklhpobphloehaaDoorF1
import Derived.Test.YtklhpobphloehaaDoorF2
import Derived.Test.YtklhpobphloehaaDoorF3
set_option linter.unusedVariables false
namespace Go.Proofs.YtklhpobphloehaaDoor.ratOrder
open Go.ChangeShapes Go.WideShapes Go.ChangeAt Go.RowKit Go.WideMaps
open Go.ChangeMaps (open_string shut_string)
open Go.Proofs.YtklhpobphloehaaDoor.G Go.Proofs.YtklhpobphloehaaDoor.Nn Go.Proofs.YtklhpobphloehaaDoorW.PrintWords Go.Proofs.YtklhpobphloehaaDoorW.PrintLast

theorem named : Tryd.prog.funcNamed Rows.ratOrderRow.func = some 20 := by kernel_rfl
theorem k0 : (Rows.ratOrderRow.wf (OpenSpec.ofChange (Rows.ratOrderSpec))) = true := by kernel_rfl
theorem k1 : (laidOutB Tryd.prog) = true := by kernel_rfl
theorem k2 : (mapsRowed Tryd.prog) = true := by kernel_rfl
theorem k3 : (Tryd.f20.params.all (Tryd.prog.readableRec ·)) = true := by kernel_rfl
theorem k4 : (namedTie Tryd.prog Rows.ratOrderRow.named (Rows.ratOrderSpec).vars) = true := by kernel_rfl
theorem k5 : (Rows.ratOrderRow.stops == []) = true := by kernel_rfl
theorem k6 : (Tryd.prog.stops == []) = true := by kernel_rfl
theorem k7 : (Rows.ratOrderRow.knobs == []) = true := by kernel_rfl
theorem k8 : (Tryd.prog.stopKnobs == []) = true := by kernel_rfl
theorem k9 : (Rows.ratOrderRow.inPlace == Tryd.prog.inPlace 20) = true := by kernel_rfl
theorem k10 : (Rows.ratOrderRow.unfollowed == Tryd.prog.unfollowed 20) = true := by kernel_rfl
theorem k11 : (Rows.ratOrderRow.recurses == Tryd.prog.recurses 20) = true := by kernel_rfl
theorem k12 : (Rows.ratOrderRow.named == Tryd.prog.varsNamed 20) = true := by kernel_rfl
theorem k13 : (Rows.ratOrderRow.maps == (Tryd.f20.params.toList ++ (Rows.ratOrderSpec).plain.varTypes Tryd.prog).any (Tryd.prog.mapsRec ·)) = true := by kernel_rfl
theorem k14 : (Rows.ratOrderRow.ifaces == (Tryd.f20.params.toList ++ (Rows.ratOrderSpec).plain.varTypes Tryd.prog).any (Tryd.prog.ifacesRec ·)) = true := by kernel_rfl
theorem k15 : (Rows.ratOrderRow.mapsOut == Tryd.prog.mapsAmong Tryd.f20.resultTypes.toList) = true := by kernel_rfl
theorem k16 : (Rows.ratOrderRow.loops == (Tryd.f20.params.toList ++ (Rows.ratOrderSpec).plain.varTypes Tryd.prog).any (Tryd.prog.loopsFrom ·)) = true := by kernel_rfl
theorem k17 : (Rows.ratOrderRow.wideKeys == (Tryd.f20.params.toList ++ (Rows.ratOrderSpec).plain.varTypes Tryd.prog ++ Tryd.f20.resultTypes.toList).any (Tryd.prog.wideKeysFrom ·)) = true := by kernel_rfl
theorem k18 : ((Rows.ratOrderSpec).vars.all (Tryd.prog.varReadable ·)) = true := by kernel_rfl
theorem k19 : (Tryd.f20.resultTypes.all (fun t => Tryd.prog.readableRec t && decide (t < Tryd.prog.types.size))) = true := by kernel_rfl
theorem k20 : (Rows.ratOrderRow.ifacesOut == Tryd.f20.resultTypes.toList.any (Tryd.prog.ifacesRec ·)) = true := by kernel_rfl
theorem k21 : (Rows.ratOrderRow.loopsOut == Tryd.f20.resultTypes.toList.any (Tryd.prog.loopsFrom ·)) = true := by kernel_rfl
theorem k22 : (Rows.ratOrderRow.plainKeys == Tryd.prog.plainKeys) = true := by kernel_rfl
theorem k23 : (Rows.ratOrderRow.shortTexts.isNone) = true := by kernel_rfl
theorem k24 : (Tryd.prog.stopsHeard) = true := by kernel_rfl
theorem k28 : (Rows.ratOrderRow.kinds == (if Rows.ratOrderRow.domain.isEmpty then [] else Tryd.f20.params.toList.map fun t => match Tryd.prog.underlying t with | some (.int k) => some k | _ => none)) = true := by kernel_rfl
theorem k29 : (Rows.ratOrderRow.pinned == Rows.ratOrderRow.pinnedBy) = true := by kernel_rfl
theorem k30 : (Rows.ratOrderRow.veiled == (Tryd.f20.params.toList ++ (Rows.ratOrderSpec).plain.varTypes Tryd.prog ++ Tryd.f20.resultTypes.toList).any (Tryd.prog.veiledRec ·)) = true := by kernel_rfl
theorem k31 : (Rows.ratOrderRow.veiledFits Tryd.prog Tryd.f20.params.toList (Tryd.f20.params.toList ++ (Rows.ratOrderSpec).plain.varTypes Tryd.prog ++ Tryd.f20.resultTypes.toList)) = true := by kernel_rfl
theorem both {a b : Bool} (h1 : a = true) (h2 : b = true) : (a && b) = true := by rw [h1, h2]; rfl
set_option maxRecDepth 100000 in
theorem closed : joinedFacts Tryd.prog 20 Tryd.f20 (Rows.ratOrderSpec) Rows.ratOrderRow = true := by
  unfold joinedFacts
  exact (both (both (both (both (both (both (both (both (both (both (both (both (both (both (both (both (both (both (both (both (both (both (both (both (both (both (both (both (both (both (both k0 k1) k2) k3) k4) k5) k6) k7) k8) k9) k10) k11) k12) k13) k14) k15) k16) k17) k18) k19) k20) k21) k22) k23) k24) F.mayEnter) F.lifts) F.make) k28) k29) k30) k31)
theorem over : Rows.ratOrderRow.holds Tryd.pinned (OpenSpec.ofChange Rows.ratOrderSpec) :=
  OpenClaim.holds_of_wide 20 Tryd.f20 rfl rfl rfl rfl rfl rfl rfl ⟨rfl, rfl, rfl, rfl, rfl⟩ rfl rfl rfl rfl rfl named Tryd.func20 closed
    (of_decide_eq_true (by kernel_rfl)) (by unfold Func.isWrapper; first | (rw [if_pos (by decide +kernel)]; kernel_rfl) | (rw [if_neg (by decide +kernel)]; exact ⟨rfl, rfl⟩))
    (fun os started H enc _ => lifted os started H enc)
end Go.Proofs.YtklhpobphloehaaDoor.ratOrder
