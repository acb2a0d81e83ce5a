/- Words of the kit's printer, cut to what this proof leans on. -/
import Derived.SizedLaws
import Derived.ChangeSlices
namespace Go.Proofs.YtpegcppeobndcaaGreatDoorW.PrintWords
open Go.ChangeShapes Go.WideShapes
end Go.Proofs.YtpegcppeobndcaaGreatDoorW.PrintWords
