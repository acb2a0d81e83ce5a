/- The row of the law NatReads holds. -/
import Derived.Test.YtklhpobphloehaaDoorRNatReads
import Derived.Test.YtklhpobphloehaaDoorF1
import Derived.Test.YtklhpobphloehaaDoorF2
import Derived.Test.YtklhpobphloehaaDoorF3
set_option linter.unusedVariables false
namespace Go.Proofs.YtklhpobphloehaaDoor.natReads
open Go.ChangeShapes Go.WideShapes Go.ChangeAt Go.RowKit Go.WideMaps
open Go.ChangeMaps (open_string shut_string)
open Go.Proofs.YtklhpobphloehaaDoor.G Go.Proofs.YtklhpobphloehaaDoor.Nn Go.Proofs.YtklhpobphloehaaDoorW.PrintWords Go.Proofs.YtklhpobphloehaaDoorW.PrintLast

theorem named : Tryd.prog.funcNamed Rows.natReadsRow.func = some 4 := by kernel_rfl
theorem k0 : (Rows.natReadsRow.wf (OpenSpec.ofChange (Rows.natReadsSpec))) = true := by kernel_rfl
theorem k1 : (laidOutB Tryd.prog) = true := by kernel_rfl
theorem k2 : (mapsRowed Tryd.prog) = true := by kernel_rfl
theorem k3 : (Tryd.f4.params.all (Tryd.prog.readableRec ·)) = true := by kernel_rfl
theorem k4 : (namedTie Tryd.prog Rows.natReadsRow.named (Rows.natReadsSpec).vars) = true := by kernel_rfl
theorem k5 : (Rows.natReadsRow.stops == []) = true := by kernel_rfl
theorem k6 : (Tryd.prog.stops == []) = true := by kernel_rfl
theorem k7 : (Rows.natReadsRow.knobs == []) = true := by kernel_rfl
theorem k8 : (Tryd.prog.stopKnobs == []) = true := by kernel_rfl
theorem k9 : (Rows.natReadsRow.inPlace == Tryd.prog.inPlace 4) = true := by kernel_rfl
theorem k10 : (Rows.natReadsRow.unfollowed == Tryd.prog.unfollowed 4) = true := by kernel_rfl
theorem k11 : (Rows.natReadsRow.recurses == Tryd.prog.recurses 4) = true := by kernel_rfl
theorem k12 : (Rows.natReadsRow.named == Tryd.prog.varsNamed 4) = true := by kernel_rfl
theorem k13 : (Rows.natReadsRow.maps == (Tryd.f4.params.toList ++ (Rows.natReadsSpec).plain.varTypes Tryd.prog).any (Tryd.prog.mapsRec ·)) = true := by kernel_rfl
theorem k14 : (Rows.natReadsRow.ifaces == (Tryd.f4.params.toList ++ (Rows.natReadsSpec).plain.varTypes Tryd.prog).any (Tryd.prog.ifacesRec ·)) = true := by kernel_rfl
theorem k15 : (Rows.natReadsRow.mapsOut == Tryd.prog.mapsAmong Tryd.f4.resultTypes.toList) = true := by kernel_rfl
theorem k16 : (Rows.natReadsRow.loops == (Tryd.f4.params.toList ++ (Rows.natReadsSpec).plain.varTypes Tryd.prog).any (Tryd.prog.loopsFrom ·)) = true := by kernel_rfl
theorem k17 : (Rows.natReadsRow.wideKeys == (Tryd.f4.params.toList ++ (Rows.natReadsSpec).plain.varTypes Tryd.prog ++ Tryd.f4.resultTypes.toList).any (Tryd.prog.wideKeysFrom ·)) = true := by kernel_rfl
theorem k18 : ((Rows.natReadsSpec).vars.all (Tryd.prog.varReadable ·)) = true := by kernel_rfl
theorem k19 : (Tryd.f4.resultTypes.all (fun t => Tryd.prog.readableRec t && decide (t < Tryd.prog.types.size))) = true := by kernel_rfl
theorem k20 : (Rows.natReadsRow.ifacesOut == Tryd.f4.resultTypes.toList.any (Tryd.prog.ifacesRec ·)) = true := by kernel_rfl
theorem k21 : (Rows.natReadsRow.loopsOut == Tryd.f4.resultTypes.toList.any (Tryd.prog.loopsFrom ·)) = true := by kernel_rfl
theorem k22 : (Rows.natReadsRow.plainKeys == Tryd.prog.plainKeys) = true := by kernel_rfl
theorem k23 : (Rows.natReadsRow.shortTexts.isNone) = true := by kernel_rfl
theorem k24 : (Tryd.prog.stopsHeard) = true := by kernel_rfl
theorem k28 : (Rows.natReadsRow.kinds == (if Rows.natReadsRow.domain.isEmpty then [] else Tryd.f4.params.toList.map fun t => match Tryd.prog.underlying t with | some (.int k) => some k | _ => none)) = true := by kernel_rfl
theorem k29 : (Rows.natReadsRow.pinned == Rows.natReadsRow.pinnedBy) = true := by kernel_rfl
theorem k30 : (Rows.natReadsRow.veiled == (Tryd.f4.params.toList ++ (Rows.natReadsSpec).plain.varTypes Tryd.prog ++ Tryd.f4.resultTypes.toList).any (Tryd.prog.veiledRec ·)) = true := by kernel_rfl
theorem k31 : (Rows.natReadsRow.veiledFits Tryd.prog Tryd.f4.params.toList (Tryd.f4.params.toList ++ (Rows.natReadsSpec).plain.varTypes Tryd.prog ++ Tryd.f4.resultTypes.toList)) = true := by kernel_rfl
theorem both {a b : Bool} (h1 : a = true) (h2 : b = true) : (a && b) = true := by rw [h1, h2]; rfl
set_option maxRecDepth 100000 in
theorem closed : joinedFacts Tryd.prog 4 Tryd.f4 (Rows.natReadsSpec) Rows.natReadsRow = true := by
  unfold joinedFacts
  exact (both (both (both (both (both (both (both (both (both (both (both (both (both (both (both (both (both (both (both (both (both (both (both (both (both (both (both (both (both (both (both k0 k1) k2) k3) k4) k5) k6) k7) k8) k9) k10) k11) k12) k13) k14) k15) k16) k17) k18) k19) k20) k21) k22) k23) k24) F.mayEnter) F.lifts) F.make) k28) k29) k30) k31)
theorem over : Rows.natReadsRow.holds Tryd.pinned (OpenSpec.ofChange Rows.natReadsSpec) :=
  OpenClaim.holds_of_wide 4 Tryd.f4 rfl rfl rfl rfl rfl rfl rfl ⟨rfl, rfl, rfl, rfl, rfl⟩ rfl rfl rfl rfl rfl named Tryd.func4 closed
    (of_decide_eq_true (by kernel_rfl)) (by unfold Func.isWrapper; first | (rw [if_pos (by decide +kernel)]; kernel_rfl) | (rw [if_neg (by decide +kernel)]; exact ⟨rfl, rfl⟩))
    (fun os started H enc _ => lifted os started H enc)
end Go.Proofs.YtklhpobphloehaaDoor.natReads
