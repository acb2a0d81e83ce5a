/- The law TopFloats' known answer, by the small machine. -/
import Derived.Test.YtpegcppeobndcaaGreatDoorZa22
import Derived.Test.YtpegcppeobndcaaGreatDoorS4
set_option linter.unusedVariables false
namespace Go.Proofs.YtpegcppeobndcaaGreatDoor.Abs
open Go.RowKit Go.Proofs.YtpegcppeobndcaaGreatDoor.G
def isTrueZ (r : Option (Value × AW)) : Bool := match r with
 | some (.bool b, _) => b
 | _ => false
theorem isTrueZ_ok {r : Option (Value × AW)} (h : isTrueZ r = true) : ∃ A1, r = some (.bool true, A1) := by
 unfold isTrueZ at h
 split at h
 ·subst h; exact ⟨_, rfl⟩
 ·cases h
theorem known_run : isTrueZ (evF Tryz.prog orac 100000 4 #[] AW.empty) = true := by kernel_rfl
theorem known_w (w : World) : Calls Tryz.prog 4 #[] w (TruePost w) := by
 obtain ⟨A1, h⟩ := isTrueZ_ok known_run
 refine (closed_call good orac_ok drawn 100000 (args := #[]) (AR.of rfl fun j h1 => absurd h1 (Nat.not_lt_zero j)) h).mono ?_
 rintro e w1 ⟨ρ1, v', rfl, hr, hf, hv⟩
 cases hv
 exact ⟨rfl, base_below hf⟩
end Go.Proofs.YtpegcppeobndcaaGreatDoor.Abs
