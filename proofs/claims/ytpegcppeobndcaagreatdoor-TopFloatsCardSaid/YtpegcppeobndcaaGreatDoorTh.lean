/- What is greater than all floats: sfloat.beyond, by hand. -/
import Derived.Test.YtpegcppeobndcaaGreatDoorAb
import Derived.Test.YtpegcppeobndcaaGreatDoorTg
import Derived.Test.YtpegcppeobndcaaGreatDoorTf2
set_option linter.unusedVariables false
namespace Go.Proofs.YtpegcppeobndcaaGreatDoor.Giv
open Go.RowKit YtpegcppeobndcaaGreatDoorW.PrintWords YtpegcppeobndcaaGreatDoorW.PrintLast Go.Proofs.YtpegcppeobndcaaGreatDoor.Nn Go.Proofs.YtpegcppeobndcaaGreatDoor.G
theorem or_sign {x : Nat} (h : x < 9223372036854775808) : bits .or .u64 (x : Int) 9223372036854775808 = ((x + 9223372036854775808 : Nat) : Int) := by
 have e : x ||| 9223372036854775808 = x + 9223372036854775808 := by
  have := Nat.two_pow_add_eq_or_of_lt (i := 63) (b := x) h 1
  rw [Nat.or_comm, Nat.add_comm]
  simpa using this.symm
 rw [show (9223372036854775808 : Int) = ((9223372036854775808 : Nat) : Int) from rfl, bits_or_u64_nat _ _ (by omega) Z5, e]
set_option maxHeartbeats 4000000 in
theorem signed_w (x : Nat) (b : Bool) (w : World) (h : x < 9223372036854775808) : Calls Tryz.prog 74 #[.int .u64 (x : Int), .bool b] w fun e w' => e = .returned (.int .u64 ((fsgn b x : Nat) : Int)) ∧ w = w' := by
 have e := or_sign h
 cases b
 all_goals
  go_enter Tryz.func74, Tryz.ntmps74
  go_wp2_with fail
  go_ret
  exact ⟨by unfold fsgn; first | rfl | (rw [e]; rfl), rfl⟩
def sfloat_beyond.f (a0 : Bool) (a1 : Int) : Option (Int × Int) := if 0 ≤ a1 ∧ a1 < 5 then some (((fsgn a0 (flim a0 a1) : Nat) : Int), 5) else none
set_option maxHeartbeats 4000000 in
set_option maxRecDepth 100000 in
theorem sfloat_beyond.calls (a0 : Bool) (a1 : Int) (r1 r2 : Int) (w : World) (h : sfloat_beyond.f a0 a1 = some (r1, r2)) : Calls Tryz.prog 73 #[.bool a0, .int .i64 a1] w fun e w' => e = .returned (.tuple #[.int .u64 r1, .int .i64 r2]) ∧ Below w.heap.size w w' := by
 unfold sfloat_beyond.f at h
 split at h
 ·rename_i hc
  cases h
  have hm : a1 = 0 ∨ a1 = 1 ∨ a1 = 2 ∨ a1 = 3 ∨ a1 = 4 := by omega
  have HB := Aside0.mk (below_alloc (Below.refl w.heap.size w) (.cells #[.int .u64 9218868437227405312, .int .u64 9218868437227405311, .int .u64 9218868437227405311, .int .u64 9218868437227405312, .int .u64 9218868437227405312] 161))
  clear hc
  rcases hm with rfl | rfl | rfl | rfl | rfl <;> cases a0
  all_goals
   go_enter Tryz.func73, Tryz.ntmps73
   go_wp2_with fail
   refine (signed_w _ _ _ Z5).mono ?_
   rintro e w1 ⟨rfl, rfl⟩
   go_wp2_with fail
   exact bodyPost_ret (v := .tuple #[.int .u64 _, .int .i64 5]) (by simp [results, Tryz.results73, go_sem]; rfl) rfl ⟨rfl, by repeat (first | exact Below.refl _ _ | apply below_alloc)⟩
 ·cases h
end Go.Proofs.YtpegcppeobndcaaGreatDoor.Giv
