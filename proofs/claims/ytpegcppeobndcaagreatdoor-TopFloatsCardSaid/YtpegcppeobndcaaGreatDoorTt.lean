/- The law's End: a finite float, whatever the bits; the law's within; sfloat.Of at nought. By hand. -/
import Derived.Test.YtpegcppeobndcaaGreatDoorAb
import Derived.Test.YtpegcppeobndcaaGreatDoorTs
import Derived.Test.YtpegcppeobndcaaGreatDoorTn
set_option linter.unusedVariables false
namespace Go.Proofs.YtpegcppeobndcaaGreatDoor.Fl
open Go.RowKit YtpegcppeobndcaaGreatDoorW.PrintWords YtpegcppeobndcaaGreatDoorW.PrintLast YtpegcppeobndcaaGreatDoorW.PrintMore Go.Proofs.YtpegcppeobndcaaGreatDoor.Nn Go.Proofs.YtpegcppeobndcaaGreatDoor.G Go.Proofs.YtpegcppeobndcaaGreatDoor.Giv Go.Proofs.YtpegcppeobndcaaGreatDoor.PFl
theorem bits_nat (op : BinOp) (x y : Int) : ∃ r : Nat, r < 18446744073709551616 ∧ bits op .u64 x y = (r : Int) := by
 obtain ⟨z, h⟩ : ∃ z, bits op .u64 x y = IntKind.u64.wrap z := ⟨_, rfl⟩
 rw [IntKind.wrap_u64] at h
 exact ⟨(z % 18446744073709551616).toNat, by omega, by omega⟩
theorem bits_some (op : BinOp) (x y : Int) : ∃ r : Nat, r < 18446744073709551616 ∧ some (bits op .u64 x y) = some (r : Int) := by
 obtain ⟨r, h1, h2⟩ := bits_nat op x y
 exact ⟨r, h1, congrArg some h2⟩
theorem make_in {a : Nat} (ha : a < 18446744073709551616) (n : Int) : ∃ r : Nat, r < 18446744073709551616 ∧ anticlinelaw3_Make.f 1 (a : Int) n = some (r : Int) := by
 obtain ⟨t, ht⟩ : ∃ t, anticlinelaw3_within.f n 12 = some t := by
  unfold anticlinelaw3_within.f
  rw [if_neg Z5]
  split <;> exact ⟨_, rfl⟩
 have hj : ∀ (t : Int) (b : Bool), ∃ r : Nat, r < 18446744073709551616 ∧ anticlinelaw3_Make.j0 1 (a : Int) t b = some (r : Int) := by
  intro t b
  rw [anticlinelaw3_Make.j0]
  split
  ·exact bits_some _ _ _
  ·split
   ·exact bits_some _ _ _
   ·exact ⟨a, ha, rfl⟩
 unfold anticlinelaw3_Make.f
 rw [ht, Option.bind_some]
 repeat' split
 all_goals first | exact bits_some _ _ _ | exact hj _ _
def EndPost (w : World) (x : Nat) (e : Ending) (w' : World) : Prop := e = .returned (.int .u64 (x : Int)) ∧ Below w.heap.size w w'
set_option maxHeartbeats 4000000 in
set_option maxRecDepth 100000 in
theorem End_w {f : Nat} (h : f < 18446744073709551616) (n : Int) : ∃ x : Nat, ffin x ∧ ∀ w : World, Calls Tryz.prog 5 #[.int .u64 (f : Int), .int .i64 n] w (EndPost w x) := by
 obtain ⟨r, hr, hm⟩ := make_in h n
 have HM := Aside0.mk (fun (W : World) => anticlinelaw3_Make.calls 1 (f : Int) n (r : Int) W hm)
 by_cases c : 9218868437227405312 ≤ r % 9223372036854775808
 ·have hb : bits .and .u64 (f : Int) 1152921504606846975 = ((f % 1152921504606846976 : Nat) : Int) := by
   rw [show (1152921504606846975 : Int) = ((1152921504606846975 : Nat) : Int) from rfl, bits_and_u64_nat f _ h Z5]
   exact congrArg (fun n : Nat => (n : Int)) (Nat.and_two_pow_sub_one_eq_mod f 60)
  have HR := Aside0.mk (fun (W : World) => rRat_bad (w := W) hr c)
  refine ⟨f % 1152921504606846976, ⟨by omega, by omega⟩, fun w => ?_⟩
  go_enter Tryz.func5, Tryz.ntmps5
  go_wp2_with fail
  refine (HM.out _).mono ?_
  rintro e1 w1 ⟨rfl, hd⟩
  have HW1 := Aside0.mk (drawn_below (B := w.heap.size) hd)
  clear hd
  go_wp2_with fail
  refine (HR.out _).mono ?_
  rintro e2 w2 ⟨g, A, L, c1, B, M, d, rfl, hB⟩
  have HW2 := tT HW1 hB
  have HA := Aside0.mk (below_alloc (Below.refl w2.heap.size w2) (.cells #[.bool g, .slice A L c1, .slice B M d] 27))
  have HW3 := tT HW2 HA.out
  clear hB
  go_wp2_with fail
  go_ret
  exact ⟨congrArg (fun z : Int => Ending.returned (.int .u64 z)) (show ((f : Int) % 1152921504606846976) = ((f % 1152921504606846976 : Nat) : Int) by omega), HW3.out⟩
 ·have hf : ffin r := ⟨hr, by omega⟩
  have HR := Aside0.mk (fun (W : World) => rRat_fin (w := W) hf)
  refine ⟨r, hf, fun w => ?_⟩
  go_enter Tryz.func5, Tryz.ntmps5
  go_wp2_with fail
  refine (HM.out _).mono ?_
  rintro e1 w1 ⟨rfl, hd⟩
  have HW1 := Aside0.mk (drawn_below (B := w.heap.size) hd)
  clear hd
  go_wp2_with fail
  refine (HR.out _).mono ?_
  rintro e2 w2 ⟨g, A, L, c1, B, M, d, rfl, hB⟩
  have HW2 := tT HW1 hB
  have HA := Aside0.mk (below_alloc (Below.refl w2.heap.size w2) (.cells #[.bool g, .slice A L c1, .slice B M d] 27))
  have HW3 := tT HW2 HA.out
  clear hB
  go_wp2_with fail
  go_ret
  exact ⟨rfl, HW3.out⟩
theorem within5 (a : Int) : ∃ m : Int, 0 ≤ m ∧ m < 5 ∧ anticlinetop_within.f a 5 = some m := by
 unfold anticlinetop_within.f
 rw [if_neg Z5]
 have h1 : -5 < Int.tmod a 5 := by have := Int.lt_tmod_of_pos a (show (0 : Int) < 5 by decide); omega
 have h2 : Int.tmod a 5 < 5 := Int.tmod_lt_of_pos a Z5
 by_cases c : Int.tmod a 5 < 0
 ·rw [if_pos c, Go.IntWalk.wrap64_in _ (by omega)]
  exact ⟨_, by omega, by omega, rfl⟩
 ·rw [if_neg c]
  exact ⟨_, by omega, by omega, rfl⟩
set_option maxHeartbeats 4000000 in
set_option maxRecDepth 100000 in
theorem Of_zero_w {w : World} {g : Bool} {A B : Option Addr} {c M c' : Nat} (mode : Int) : Calls Tryz.prog 9 #[.agg #[.bool g, .slice A 0 c, .slice B M c'], .int .i64 mode] w (IntsPost w 0 0) := by
 have HK := Aside0.mk (Blk_alloc w (.bool g) (.slice A 0 c) (.slice B M c') 27)
 have HW := Aside0.mk (below_alloc (Below.refl w.heap.size w) (.cells #[.bool g, .slice A 0 c, .slice B M c'] 27))
 obtain ⟨⟨hc0, hc1, hc2⟩, hf0, hf1, hf2⟩ := HK.out
 go_enter Tryz.func9, Tryz.ntmps9
 go_wp2_with fail
 exact bodyPost_ret (v := .tuple #[.int .u64 0, .int .i64 0]) (by simp [results, Tryz.results9, go_sem]) rfl ⟨rfl, HW.out⟩
end Go.Proofs.YtpegcppeobndcaaGreatDoor.Fl
