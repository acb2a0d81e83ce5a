/- The harness's main. -/
import Derived.Test.YtklhpobphloehaaDoorCards
import Derived.JoinedOf
import Derived.SevenTiedAt
import Derived.WalkKit
import Derived.KernelRfl
namespace Go.Proofs.YtklhpobphloehaaDoor.F
theorem main : Tryd.prog.mainIs = some (Rows.natRingCard.stood.harness.1, Rows.natRingCard.stood.harness.2.toList) := by kernel_rfl
end Go.Proofs.YtklhpobphloehaaDoor.F
