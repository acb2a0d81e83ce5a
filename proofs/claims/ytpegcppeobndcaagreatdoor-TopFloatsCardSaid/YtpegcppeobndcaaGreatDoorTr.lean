/- The reference's sfloat: shift, Rat (its error alone), and the law's End, by hand. -/
import Derived.Test.YtpegcppeobndcaaGreatDoorTq
import Derived.Test.YtpegcppeobndcaaGreatDoorS3
import Derived.Test.YtpegcppeobndcaaGreatDoorS5
import Derived.LoopN
set_option linter.unusedVariables false
namespace Go.Proofs.YtpegcppeobndcaaGreatDoor.Fl
open Go.RowKit YtpegcppeobndcaaGreatDoorW.PrintWords YtpegcppeobndcaaGreatDoorW.PrintLast YtpegcppeobndcaaGreatDoorW.PrintMore Go.Proofs.YtpegcppeobndcaaGreatDoor.Nn Go.Proofs.YtpegcppeobndcaaGreatDoor.G Go.Proofs.YtpegcppeobndcaaGreatDoor.Giv Go.Proofs.YtpegcppeobndcaaGreatDoor.PFl
attribute [local go_sem] min_two
def ShiftPost (w : World) (n d : Nat) (e : Ending) (w' : World) : Prop := ∃ v1 v2, e = .returned (.tuple #[v1, v2]) ∧ Nu w' v1 n ∧ Nu w' v2 d ∧ Below w.heap.size w w'
theorem rshl_nuI {w : World} {v : Value} {n : Nat} {k : Int} (s : Nat) (hk : k = (s : Int)) (h : Nu w v n) (hn : n < pw 1000) (hs : s < 1048576) : Calls Tryz.prog 93 #[v, .int .i64 k] w (NuPost w (n * 2 ^ s)) := by
 subst hk
 exact rshlN h hn s hs
set_option maxHeartbeats 4000000 in
set_option maxRecDepth 100000 in
theorem shift_w {w : World} {vn vd : Value} {n d : Nat} (k : Int) (hn : Nu w vn n) (hd : Nu w vd d) (bn : n < pw 1000) (bd : d < pw 1000) (h1 : -2000 ≤ k) (h2 : k ≤ 2000) :
  Calls Tryz.prog 50 #[vn, vd, .int .i64 k] w (ShiftPost w (n * 2 ^ k.toNat) (d * 2 ^ (-k).toNat)) := by
 have HN := Aside0.mk hn
 have HD := Aside0.mk hd
 have c := Int.lt_trichotomy k 0
 rcases c with c | c | c
 ·have hm : Builtin.min2 (.int .i64 (0 - k)) (.int .i64 9000) = pure (.int .i64 (0 - k)) := by rw [min2_int]; congr 2; split <;> omega
  have hm2 : Builtin.min2 (.int .i64 (-k)) (.int .i64 9000) = pure (.int .i64 (-k)) := by rw [min2_int]; congr 2; split <;> omega
  have c' : ¬ 0 < k := by omega
  go_enter Tryz.func50, Tryz.ntmps50
  go_wp2_with fail
  refine wp_loop_rounds 1 ?_
  rw [rounds_succ]
  go_wp2_with fail
  refine wp_loop_rounds 2 ?_
  rw [rounds_succ]
  go_wp2_with fail
  refine (rshl_nuI (-k).toNat (by omega) HD.out bd (by omega)).mono ?_
  rintro e1 w1 ⟨v1, rfl, hN, hB⟩
  have HB := Aside0.mk hB
  have HV := Aside0.mk hN
  have HN1 := Aside0.mk (HN.out.below hB)
  clear hB hN
  go_wp2_with fail
  rw [rounds_succ]
  go_wp2_with fail
  exact bodyPost_ret (v := .tuple #[vn, v1]) (by simp [results, Tryz.results50, go_sem]) rfl ⟨vn, v1, rfl, by rw [show k.toNat = 0 by omega, Nat.pow_zero, Nat.mul_one]; exact HN1.out, HV.out, HB.out⟩
 ·subst c
  go_enter Tryz.func50, Tryz.ntmps50
  go_wp2_with fail
  refine wp_loop_rounds 1 ?_
  rw [rounds_succ]
  go_wp2_with fail
  refine wp_loop_rounds 1 ?_
  rw [rounds_succ]
  go_wp2_with fail
  exact bodyPost_ret (v := .tuple #[vn, vd]) (by simp [results, Tryz.results50, go_sem]) rfl ⟨vn, vd, rfl, by rw [show (0 : Int).toNat = 0 from rfl, Nat.pow_zero, Nat.mul_one]; exact HN.out, by rw [show (-(0 : Int)).toNat = 0 from rfl, Nat.pow_zero, Nat.mul_one]; exact HD.out, Below.refl _ _⟩
 ·have hm : Builtin.min2 (.int .i64 k) (.int .i64 9000) = pure (.int .i64 k) := by rw [min2_int]; congr 2; split <;> omega
  go_enter Tryz.func50, Tryz.ntmps50
  go_wp2_with fail
  refine wp_loop_rounds 2 ?_
  rw [rounds_succ]
  go_wp2_with fail
  refine (rshl_nuI k.toNat (by omega) HN.out bn (by omega)).mono ?_
  rintro e1 w1 ⟨v1, rfl, hN, hB⟩
  have HB := Aside0.mk hB
  have HV := Aside0.mk hN
  have HD1 := Aside0.mk (HD.out.below hB)
  clear hB hN
  go_wp2_with fail
  rw [rounds_succ]
  go_wp2_with fail
  refine wp_loop_rounds 1 ?_
  rw [rounds_succ]
  go_wp2_with fail
  exact bodyPost_ret (v := .tuple #[v1, vd]) (by simp [results, Tryz.results50, go_sem]) rfl ⟨v1, vd, rfl, HV.out, by rw [show (-k).toNat = 0 by omega, Nat.pow_zero, Nat.mul_one]; exact HD1.out, HB.out⟩
end Go.Proofs.YtpegcppeobndcaaGreatDoor.Fl
