/- Made by program out of the translation: what these functions compute. -/
import Derived.Test.YtpegcppeobndcaaGreatDoorPFlx0
import Derived.Test.YtpegcppeobndcaaGreatDoorPFlx1
import Derived.Test.YtpegcppeobndcaaGreatDoorPFlx2
import Derived.Test.YtpegcppeobndcaaGreatDoorPFlx3
import Derived.Test.YtpegcppeobndcaaGreatDoorPFlx4
namespace Go.Proofs.YtpegcppeobndcaaGreatDoor.PFl
open Go.RowKit Go.Proofs.YtpegcppeobndcaaGreatDoor.Giv YtpegcppeobndcaaGreatDoorW.PrintWords YtpegcppeobndcaaGreatDoorW.PrintLast YtpegcppeobndcaaGreatDoorW.PrintMore
attribute [local go_sem] max2_int min2_int max_two min_two max_three min_three max_four min_four   -- for this text's walks alone
set_option linter.unusedVariables false
set_option linter.unusedSimpArgs false
end Go.Proofs.YtpegcppeobndcaaGreatDoor.PFl
