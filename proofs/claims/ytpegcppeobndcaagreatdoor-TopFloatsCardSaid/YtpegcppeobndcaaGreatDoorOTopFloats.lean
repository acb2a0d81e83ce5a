/- The row of the law TopFloats holds. -/
import Derived.Test.YtpegcppeobndcaaGreatDoorAb
import Derived.Test.YtpegcppeobndcaaGreatDoorRTopFloats
import Derived.Test.YtpegcppeobndcaaGreatDoorF1
import Derived.Test.YtpegcppeobndcaaGreatDoorSH
set_option linter.unusedVariables false
namespace Go.Proofs.YtpegcppeobndcaaGreatDoor.topFloats
open Go.ChangeShapes Go.WideShapes Go.ChangeAt Go.RowKit Go.WideMaps
open Go.ChangeMaps (open_string shut_string)
open Go.Proofs.YtpegcppeobndcaaGreatDoor.G Go.Proofs.YtpegcppeobndcaaGreatDoor.Nn YtpegcppeobndcaaGreatDoorW.PrintWords YtpegcppeobndcaaGreatDoorW.PrintLast
theorem named : Tryz.prog.funcNamed Rows.topFloatsRow.func = some 3 := by kernel_rfl
theorem k0 : (Rows.topFloatsRow.wf (OpenSpec.ofChange (Rows.topFloatsSpec))) = true := by kernel_rfl
theorem k1 : (laidOutB Tryz.prog) = true := by kernel_rfl
theorem k2 : (mapsRowed Tryz.prog) = true := by kernel_rfl
theorem k3 : (Tryz.f3.params.all (Tryz.prog.readableRec ·)) = true := by kernel_rfl
theorem k4 : (namedTie Tryz.prog Rows.topFloatsRow.named (Rows.topFloatsSpec).vars) = true := by kernel_rfl
theorem k5 : (Rows.topFloatsRow.stops == []) = true := by kernel_rfl
theorem k6 : (Tryz.prog.stops == []) = true := by kernel_rfl
theorem k7 : (Rows.topFloatsRow.knobs == []) = true := by kernel_rfl
theorem k8 : (Tryz.prog.stopKnobs == []) = true := by kernel_rfl
theorem k9 : (Rows.topFloatsRow.inPlace == Tryz.prog.inPlace 3) = true := by kernel_rfl
theorem k10 : (Rows.topFloatsRow.unfollowed == Tryz.prog.unfollowed 3) = true := by kernel_rfl
theorem k11 : (Rows.topFloatsRow.recurses == Tryz.prog.recurses 3) = true := by kernel_rfl
theorem k12 : (Rows.topFloatsRow.named == Tryz.prog.varsNamed 3) = true := by kernel_rfl
theorem k13 : (Rows.topFloatsRow.maps == (Tryz.f3.params.toList ++ (Rows.topFloatsSpec).plain.varTypes Tryz.prog).any (Tryz.prog.mapsRec ·)) = true := by kernel_rfl
theorem k14 : (Rows.topFloatsRow.ifaces == (Tryz.f3.params.toList ++ (Rows.topFloatsSpec).plain.varTypes Tryz.prog).any (Tryz.prog.ifacesRec ·)) = true := by kernel_rfl
theorem k15 : (Rows.topFloatsRow.mapsOut == Tryz.prog.mapsAmong Tryz.f3.resultTypes.toList) = true := by kernel_rfl
theorem k16 : (Rows.topFloatsRow.loops == (Tryz.f3.params.toList ++ (Rows.topFloatsSpec).plain.varTypes Tryz.prog).any (Tryz.prog.loopsFrom ·)) = true := by kernel_rfl
theorem k17 : (Rows.topFloatsRow.wideKeys == (Tryz.f3.params.toList ++ (Rows.topFloatsSpec).plain.varTypes Tryz.prog ++ Tryz.f3.resultTypes.toList).any (Tryz.prog.wideKeysFrom ·)) = true := by kernel_rfl
theorem k18 : ((Rows.topFloatsSpec).vars.all (Tryz.prog.varReadable ·)) = true := by kernel_rfl
theorem k19 : (Tryz.f3.resultTypes.all (fun t => Tryz.prog.readableRec t && decide (t < Tryz.prog.types.size))) = true := by kernel_rfl
theorem k20 : (Rows.topFloatsRow.ifacesOut == Tryz.f3.resultTypes.toList.any (Tryz.prog.ifacesRec ·)) = true := by kernel_rfl
theorem k21 : (Rows.topFloatsRow.loopsOut == Tryz.f3.resultTypes.toList.any (Tryz.prog.loopsFrom ·)) = true := by kernel_rfl
theorem k22 : (Rows.topFloatsRow.plainKeys == Tryz.prog.plainKeys) = true := by kernel_rfl
theorem k23 : (Rows.topFloatsRow.shortTexts.isNone) = true := by kernel_rfl
theorem k24 : (Tryz.prog.stopsHeard) = true := by kernel_rfl
theorem k28 : (Rows.topFloatsRow.kinds == (if Rows.topFloatsRow.domain.isEmpty then [] else Tryz.f3.params.toList.map fun t => match Tryz.prog.underlying t with | some (.int k) => some k | _ => none)) = true := by kernel_rfl
theorem k29 : (Rows.topFloatsRow.pinned == Rows.topFloatsRow.pinnedBy) = true := by kernel_rfl
theorem k30 : (Rows.topFloatsRow.veiled == (Tryz.f3.params.toList ++ (Rows.topFloatsSpec).plain.varTypes Tryz.prog ++ Tryz.f3.resultTypes.toList).any (Tryz.prog.veiledRec ·)) = true := by kernel_rfl
theorem k31 : (Rows.topFloatsRow.veiledFits Tryz.prog Tryz.f3.params.toList (Tryz.f3.params.toList ++ (Rows.topFloatsSpec).plain.varTypes Tryz.prog ++ Tryz.f3.resultTypes.toList)) = true := by kernel_rfl
theorem both {a b : Bool} (h1 : a = true) (h2 : b = true) : (a && b) = true := by rw [h1, h2]; rfl
set_option maxRecDepth 100000 in
theorem closed : joinedFacts Tryz.prog 3 Tryz.f3 (Rows.topFloatsSpec) Rows.topFloatsRow = true := by
 unfold joinedFacts
 exact (both (both (both (both (both (both (both (both (both (both (both (both (both (both (both (both (both (both (both (both (both (both (both (both (both (both (both (both (both (both (both k0 k1) k2) k3) k4) k5) k6) k7) k8) k9) k10) k11) k12) k13) k14) k15) k16) k17) k18) k19) k20) k21) k22) k23) k24) F.mayEnter) F.lifts) F.make) k28) k29) k30) k31)
theorem over : Rows.topFloatsRow.holds Tryz.pinned (OpenSpec.ofChange Rows.topFloatsSpec) :=
 OpenClaim.holds_of_wide 3 Tryz.f3 rfl rfl rfl rfl rfl rfl rfl ⟨rfl, rfl, rfl, rfl, rfl⟩ rfl rfl rfl rfl rfl named Tryz.func3 closed
  (of_decide_eq_true Z4) (by unfold Func.isWrapper; first | (rw [if_pos (by decide +kernel)]; kernel_rfl) | (rw [if_neg (by decide +kernel)]; exact ⟨rfl, rfl⟩))
  (fun os started H enc _ => lifted os started H enc)
end Go.Proofs.YtpegcppeobndcaaGreatDoor.topFloats
