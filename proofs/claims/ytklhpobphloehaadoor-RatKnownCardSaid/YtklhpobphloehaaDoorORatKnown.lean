/- The row of the law RatKnown holds. -/
import Derived.Test.YtklhpobphloehaaDoorRRatKnown
import Derived.Test.YtklhpobphloehaaDoorF1
import Derived.Test.YtklhpobphloehaaDoorF2
import Derived.Test.YtklhpobphloehaaDoorF3
set_option linter.unusedVariables false
namespace Go.Proofs.YtklhpobphloehaaDoor.ratKnown
open Go.ChangeShapes Go.WideShapes Go.ChangeAt Go.RowKit Go.WideMaps
open Go.ChangeMaps (open_string shut_string)
open Go.Proofs.YtklhpobphloehaaDoor.G Go.Proofs.YtklhpobphloehaaDoor.Nn Go.Proofs.YtklhpobphloehaaDoorW.PrintWords Go.Proofs.YtklhpobphloehaaDoorW.PrintLast

theorem named : Tryd.prog.funcNamed Rows.ratKnownRow.func = some 22 := by kernel_rfl
theorem k0 : (Rows.ratKnownRow.wf (OpenSpec.ofChange (Rows.ratKnownSpec))) = true := by kernel_rfl
theorem k1 : (laidOutB Tryd.prog) = true := by kernel_rfl
theorem k2 : (mapsRowed Tryd.prog) = true := by kernel_rfl
theorem k3 : (Tryd.f22.params.all (Tryd.prog.readableRec ·)) = true := by kernel_rfl
theorem k4 : (namedTie Tryd.prog Rows.ratKnownRow.named (Rows.ratKnownSpec).vars) = true := by kernel_rfl
theorem k5 : (Rows.ratKnownRow.stops == []) = true := by kernel_rfl
theorem k6 : (Tryd.prog.stops == []) = true := by kernel_rfl
theorem k7 : (Rows.ratKnownRow.knobs == []) = true := by kernel_rfl
theorem k8 : (Tryd.prog.stopKnobs == []) = true := by kernel_rfl
theorem k9 : (Rows.ratKnownRow.inPlace == Tryd.prog.inPlace 22) = true := by kernel_rfl
theorem k10 : (Rows.ratKnownRow.unfollowed == Tryd.prog.unfollowed 22) = true := by kernel_rfl
theorem k11 : (Rows.ratKnownRow.recurses == Tryd.prog.recurses 22) = true := by kernel_rfl
theorem k12 : (Rows.ratKnownRow.named == Tryd.prog.varsNamed 22) = true := by kernel_rfl
theorem k13 : (Rows.ratKnownRow.maps == (Tryd.f22.params.toList ++ (Rows.ratKnownSpec).plain.varTypes Tryd.prog).any (Tryd.prog.mapsRec ·)) = true := by kernel_rfl
theorem k14 : (Rows.ratKnownRow.ifaces == (Tryd.f22.params.toList ++ (Rows.ratKnownSpec).plain.varTypes Tryd.prog).any (Tryd.prog.ifacesRec ·)) = true := by kernel_rfl
theorem k15 : (Rows.ratKnownRow.mapsOut == Tryd.prog.mapsAmong Tryd.f22.resultTypes.toList) = true := by kernel_rfl
theorem k16 : (Rows.ratKnownRow.loops == (Tryd.f22.params.toList ++ (Rows.ratKnownSpec).plain.varTypes Tryd.prog).any (Tryd.prog.loopsFrom ·)) = true := by kernel_rfl
theorem k17 : (Rows.ratKnownRow.wideKeys == (Tryd.f22.params.toList ++ (Rows.ratKnownSpec).plain.varTypes Tryd.prog ++ Tryd.f22.resultTypes.toList).any (Tryd.prog.wideKeysFrom ·)) = true := by kernel_rfl
theorem k18 : ((Rows.ratKnownSpec).vars.all (Tryd.prog.varReadable ·)) = true := by kernel_rfl
theorem k19 : (Tryd.f22.resultTypes.all (fun t => Tryd.prog.readableRec t && decide (t < Tryd.prog.types.size))) = true := by kernel_rfl
theorem k20 : (Rows.ratKnownRow.ifacesOut == Tryd.f22.resultTypes.toList.any (Tryd.prog.ifacesRec ·)) = true := by kernel_rfl
theorem k21 : (Rows.ratKnownRow.loopsOut == Tryd.f22.resultTypes.toList.any (Tryd.prog.loopsFrom ·)) = true := by kernel_rfl
theorem k22 : (Rows.ratKnownRow.plainKeys == Tryd.prog.plainKeys) = true := by kernel_rfl
theorem k23 : (Rows.ratKnownRow.shortTexts.isNone) = true := by kernel_rfl
theorem k24 : (Tryd.prog.stopsHeard) = true := by kernel_rfl
theorem k28 : (Rows.ratKnownRow.kinds == (if Rows.ratKnownRow.domain.isEmpty then [] else Tryd.f22.params.toList.map fun t => match Tryd.prog.underlying t with | some (.int k) => some k | _ => none)) = true := by kernel_rfl
theorem k29 : (Rows.ratKnownRow.pinned == Rows.ratKnownRow.pinnedBy) = true := by kernel_rfl
theorem k30 : (Rows.ratKnownRow.veiled == (Tryd.f22.params.toList ++ (Rows.ratKnownSpec).plain.varTypes Tryd.prog ++ Tryd.f22.resultTypes.toList).any (Tryd.prog.veiledRec ·)) = true := by kernel_rfl
theorem k31 : (Rows.ratKnownRow.veiledFits Tryd.prog Tryd.f22.params.toList (Tryd.f22.params.toList ++ (Rows.ratKnownSpec).plain.varTypes Tryd.prog ++ Tryd.f22.resultTypes.toList)) = true := by kernel_rfl
theorem both {a b : Bool} (h1 : a = true) (h2 : b = true) : (a && b) = true := by rw [h1, h2]; rfl
set_option maxRecDepth 100000 in
theorem closed : joinedFacts Tryd.prog 22 Tryd.f22 (Rows.ratKnownSpec) Rows.ratKnownRow = true := by
  unfold joinedFacts
  exact (both (both (both (both (both (both (both (both (both (both (both (both (both (both (both (both (both (both (both (both (both (both (both (both (both (both (both (both (both (both (both k0 k1) k2) k3) k4) k5) k6) k7) k8) k9) k10) k11) k12) k13) k14) k15) k16) k17) k18) k19) k20) k21) k22) k23) k24) F.mayEnter) F.lifts) F.make) k28) k29) k30) k31)
theorem over : Rows.ratKnownRow.holds Tryd.pinned (OpenSpec.ofChange Rows.ratKnownSpec) :=
  OpenClaim.holds_of_wide 22 Tryd.f22 rfl rfl rfl rfl rfl rfl rfl ⟨rfl, rfl, rfl, rfl, rfl⟩ rfl rfl rfl rfl rfl named Tryd.func22 closed
    (of_decide_eq_true (by kernel_rfl)) (by unfold Func.isWrapper; first | (rw [if_pos (by decide +kernel)]; kernel_rfl) | (rw [if_neg (by decide +kernel)]; exact ⟨rfl, rfl⟩))
    (fun os started H enc _ => lifted os started H enc)
end Go.Proofs.YtklhpobphloehaaDoor.ratKnown
