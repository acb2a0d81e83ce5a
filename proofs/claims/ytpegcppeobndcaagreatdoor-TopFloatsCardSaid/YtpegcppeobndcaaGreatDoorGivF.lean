/- Leaves. -/
import Derived.Test.YtpegcppeobndcaaGreatDoorTv
