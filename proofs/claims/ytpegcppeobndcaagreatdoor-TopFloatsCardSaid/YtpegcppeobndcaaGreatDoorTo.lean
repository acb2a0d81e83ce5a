/- sfloat.some at two floats, and sfloat.Add at two finite ones, by hand. -/
import Derived.Test.YtpegcppeobndcaaGreatDoorAb
import Derived.Test.YtpegcppeobndcaaGreatDoorTl
import Derived.LoopN
set_option linter.unusedVariables false
namespace Go.Proofs.YtpegcppeobndcaaGreatDoor.Fl
open Go.RowKit YtpegcppeobndcaaGreatDoorW.PrintWords YtpegcppeobndcaaGreatDoorW.PrintLast YtpegcppeobndcaaGreatDoorW.PrintMore Go.Proofs.YtpegcppeobndcaaGreatDoor.Nn Go.Proofs.YtpegcppeobndcaaGreatDoor.G Go.Proofs.YtpegcppeobndcaaGreatDoor.Giv Go.Proofs.YtpegcppeobndcaaGreatDoor.PFl
theorem drawn_below {B : Nat} {w w' : World} (h : Drawn0 w w') : Below B w w' := by
 obtain ⟨nd, rfl⟩ := h
 exact pw_below_drewN (Below.refl _ _) nd
set_option maxHeartbeats 4000000 in
set_option maxRecDepth 100000 in
theorem some_w {w : World} {x y : Nat} {p : Nat} (hx : ffin x) (hy : ffin y) (h0 : w.cell? ⟨p, 0, none⟩ = some (.int .u64 (x : Int))) (h1 : w.cell? ⟨p, 1, none⟩ = some (.int .u64 (y : Int))) :
  Calls Tryz.prog 35 #[.func (.func 20) #[] #[], .slice (some ⟨p, 0, none⟩) 2 2] w (fun e w' => e = .returned (.bool false) ∧ Below w.heap.size w w') := by
 have HN := Aside0.mk (fun (W : World) => nan_nu (w := W) (ffin.ok hx))
 have HM := Aside0.mk (fun (W : World) => nan_nu (w := W) (ffin.ok hy))
 have hp : p < w.heap.size := cell_lt h0
 go_enter Tryz.func35, Tryz.ntmps35
 go_wp2_with fail
 refine wp_loop_rounds 3 ?_
 rw [rounds_succ]
 go_wp2_with fail
 refine (HN.out _).mono ?_
 rintro e1 w1 ⟨rfl, hd1⟩
 have B1 := Aside0.mk (drawn_below (B := w.heap.size) hd1)
 have h2 : w1.cell? ⟨p, 1, none⟩ = some (.int .u64 (y : Int)) := by rw [B1.out.cell (p := ⟨p, 1, none⟩) hp]; exact h1
 clear hd1 h0 h1
 go_wp2_with fail
 rw [rounds_succ]
 go_wp2_with fail
 refine (HM.out _).mono ?_
 rintro e2 w2 ⟨rfl, hd2⟩
 have B2 := Aside0.mk (B1.out.trans (drawn_below (B := w.heap.size) hd2))
 clear hd2 h2
 go_wp2_with fail
 rw [rounds_succ]
 go_wp2_with fail
 go_ret
 exact ⟨rfl, B2.out⟩
set_option maxHeartbeats 4000000 in
set_option maxRecDepth 100000 in
theorem Add_w {w : World} {x y : Nat} {mode : Int} (hx : ffin x) (hy : ffin y) (h0 : 0 ≤ mode) (h5 : mode < 5) : Calls Tryz.prog 12 #[.int .u64 (x : Int), .int .u64 (y : Int), .int .i64 mode] w (IntsPost w ((addV x y mode : Nat) : Int) (addF x y mode)) := by
 have HS := Aside0.mk (fun (W : World) (p : Nat) (h0 : W.cell? ⟨p, 0, none⟩ = some (.int .u64 (x : Int))) (h1 : W.cell? ⟨p, 1, none⟩ = some (.int .u64 (y : Int))) => some_w hx hy h0 h1)
 have HX := Aside0.mk (fun (W : World) => inf_nu (w := W) hx)
 have HY := Aside0.mk (fun (W : World) => inf_nu (w := W) hy)
 have HW := Aside0.mk (below_alloc (Below.refl w.heap.size w) (.cells #[.int .u64 (x : Int), .int .u64 (y : Int)] 22))
 go_enter Tryz.func12, Tryz.ntmps12
 go_wp2_with fail
 refine (HS.out _ _ Z33 Z33).mono ?_
 rintro e1 w1 ⟨rfl, hB1⟩
 have HW1 := tT HW hB1
 clear hB1
 go_wp2_with fail
 refine (HX.out _).mono ?_
 rintro e2 w2 ⟨rfl, hd⟩
 have HW2 := Aside0.mk (HW1.out.trans (drawn_below (B := w.heap.size) hd))
 clear hd
 go_wp2_with fail
 refine (HX.out _).mono ?_
 rintro e3 w3 ⟨rfl, hd⟩
 have HW3 := Aside0.mk (HW2.out.trans (drawn_below (B := w.heap.size) hd))
 clear hd
 go_wp2_with fail
 refine (HY.out _).mono ?_
 rintro e4 w4 ⟨rfl, hd⟩
 have HW4 := Aside0.mk (HW3.out.trans (drawn_below (B := w.heap.size) hd))
 clear hd
 go_wp2_with fail
 refine (of_nu hx).mono ?_
 rintro e5 w5 ⟨A, L, c, rfl, hA, hB⟩
 have HW5 := tT HW4 hB
 have HA := Aside0.mk hA
 clear hA hB
 go_wp2_with fail
 refine (of_nu hy).mono ?_
 rintro e6 w6 ⟨A', L', c', rfl, hA, hB⟩
 have HW6 := tT HW5 hB
 have HA6 := Aside0.mk (HA.out.below hB)
 have HB6 := Aside0.mk hA
 clear hA hB HA
 go_wp2_with fail
 refine (added_nu HA6.out HB6.out hx hy h0 h5).mono ?_
 rintro e7 w7 ⟨rfl, hB⟩
 have HW7 := tT HW6 hB
 clear hB
 go_wp2_with fail
 exact bodyPost_ret (v := .tuple #[.int .u64 ((addV x y mode : Nat) : Int), .int .i64 (addF x y mode)]) (by simp [results, Tryz.results12, go_sem]) rfl ⟨rfl, HW7.out⟩
end Go.Proofs.YtpegcppeobndcaaGreatDoor.Fl
