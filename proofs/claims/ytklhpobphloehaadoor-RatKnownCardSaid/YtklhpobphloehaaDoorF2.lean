/- The rows' list of lifted variables. -/
import Derived.Test.YtklhpobphloehaaDoorCards
import Derived.JoinedOf
import Derived.WalkKit
import Derived.KernelRfl
namespace Go.Proofs.YtklhpobphloehaaDoor.F
theorem lifts : (Rows.natRingRow.lifted == Tryd.prog.liftsFinal) = true := by kernel_rfl
end Go.Proofs.YtklhpobphloehaaDoor.F
