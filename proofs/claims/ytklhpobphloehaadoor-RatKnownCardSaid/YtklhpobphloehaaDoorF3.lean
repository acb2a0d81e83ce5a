/- The rows' word on make. -/
import Derived.Test.YtklhpobphloehaaDoorCards
import Derived.JoinedOf
import Derived.WalkKit
import Derived.KernelRfl
namespace Go.Proofs.YtklhpobphloehaaDoor.F
theorem make : (Tryd.prog.make == some Rows.natRingRow.make) = true := by kernel_rfl
end Go.Proofs.YtklhpobphloehaaDoor.F
