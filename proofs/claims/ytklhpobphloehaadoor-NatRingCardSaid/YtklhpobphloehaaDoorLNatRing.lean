/- The law NatRing: the walk through its calls, by their contracts; the row and its card. -/
import Derived.Test.YtklhpobphloehaaDoorB
set_option linter.unusedVariables false
namespace Go.Proofs.YtklhpobphloehaaDoor.natRing
open Go.RowKit
open Go.Proofs.YtklhpobphloehaaDoor.G Go.Proofs.YtklhpobphloehaaDoor.Nn Go.Proofs.YtklhpobphloehaaDoorW.PrintWords Go.Proofs.YtklhpobphloehaaDoorW.PrintLast

set_option maxHeartbeats 4000000 in
set_option maxRecDepth 100000 in
theorem walk (a0 : Option Addr) (c0 : Nat) (l0 : List Int) (a1 : Option Addr) (c1 : Nat) (l1 : List Int) (a2 : Option Addr) (c2 : Nat) (l2 : List Int) (w : World) (hr0 : CU w a0 l0.length l0) (hc0 : l0.length ≤ c0) (hL0 : Lim l0) (hr1 : CU w a1 l1.length l1) (hc1 : l1.length ≤ c1) (hL1 : Lim l1) (hr2 : CU w a2 l2.length l2) (hc2 : l2.length ≤ c2) (hL2 : Lim l2) :
    Calls Tryd.prog 6 #[.slice a0 l0.length c0, .slice a1 l1.length c1, .slice a2 l2.length c2] w (TruePost w) := by
  have C0 := Aside0.mk hr0
  have S0 := Aside0.mk hc0
  have L0 := Aside0.mk hL0
  clear hr0 hc0 hL0
  have C1 := Aside0.mk hr1
  have S1 := Aside0.mk hc1
  have L1 := Aside0.mk hL1
  clear hr1 hc1 hL1
  have C2 := Aside0.mk hr2
  have S2 := Aside0.mk hc2
  have L2 := Aside0.mk hL2
  clear hr2 hc2 hL2
  go_enter Tryd.func6, Tryd.ntmps6
  have HC : Calls Tryd.prog 23 #[] w (TruePost w) := known_w w
  have HC := Aside0.mk HC
  go_wp2_with fail
  refine HC.out.mono ?_
  clear HC
  rintro e w1 ⟨rfl, hB⟩
  have B1 := Aside0.mk hB
  have T1 := Aside0.mk (hB.mono (Nat.le_refl _))
  clear hB
  have HC : Calls Tryd.prog 24 #[.slice a0 l0.length c0, .int .i64 10] w1 (NuPost w1 (mk l0 10)) := makeN 10 (CU_below C0.out T1.out) S0.out L0.out (by decide)
  have HC := Aside0.mk HC
  go_wp2_with fail
  refine HC.out.mono ?_
  clear HC
  rintro e w2 ⟨v_x, rfl, hN, hB⟩
  have B2 := Aside0.mk hB
  have T2 := Aside0.mk (T1.out.trans (hB.mono T1.out.size))
  have H_x := Aside0.mk hN
  have X_x := Aside0.mk (show mk l0 10 < pw 10 from mk_lt L0.out 10)
  clear hN hB
  have HC : Calls Tryd.prog 24 #[.slice a1 l1.length c1, .int .i64 10] w2 (NuPost w2 (mk l1 10)) := makeN 10 (CU_below C1.out T2.out) S1.out L1.out (by decide)
  have HC := Aside0.mk HC
  go_wp2_with fail
  refine HC.out.mono ?_
  clear HC
  rintro e w3 ⟨v_y, rfl, hN, hB⟩
  have B3 := Aside0.mk hB
  have T3 := Aside0.mk (T2.out.trans (hB.mono T2.out.size))
  have H_y := Aside0.mk hN
  have X_y := Aside0.mk (show mk l1 10 < pw 10 from mk_lt L1.out 10)
  clear hN hB
  have HC : Calls Tryd.prog 24 #[.slice a2 l2.length c2, .int .i64 10] w3 (NuPost w3 (mk l2 10)) := makeN 10 (CU_below C2.out T3.out) S2.out L2.out (by decide)
  have HC := Aside0.mk HC
  go_wp2_with fail
  refine HC.out.mono ?_
  clear HC
  rintro e w4 ⟨v_z, rfl, hN, hB⟩
  have B4 := Aside0.mk hB
  have T4 := Aside0.mk (T3.out.trans (hB.mono T3.out.size))
  have H_z := Aside0.mk hN
  have X_z := Aside0.mk (show mk l2 10 < pw 10 from mk_lt L2.out 10)
  clear hN hB
  have HC : Calls Tryd.prog 37 #[v_x, v_y] w4 (NuPost w4 ((mk l0 10) + (mk l1 10))) := addN ((H_x.out.below B3.out).below B4.out) (H_y.out.below B4.out) (pw_lt1000 X_x.out (by omega)) (pw_lt1000 X_y.out (by omega))
  have HC := Aside0.mk HC
  go_wp2_with fail
  refine HC.out.mono ?_
  clear HC
  rintro e w5 ⟨v_s, rfl, hN, hB⟩
  have B5 := Aside0.mk hB
  have T5 := Aside0.mk (T4.out.trans (hB.mono T4.out.size))
  have H_s := Aside0.mk hN
  have X_s := Aside0.mk (show (mk l0 10) + (mk l1 10) < pw 11 from pw_addb X_x.out X_y.out (by omega) (by omega))
  clear hN hB
  have HC : Calls Tryd.prog 38 #[v_s, v_y] w5 (NuPost2 w5 (((mk l0 10) + (mk l1 10)) - (mk l1 10)) 0) := by have h := subN H_s.out ((H_y.out.below B4.out).below B5.out) (pw_lt1000 X_s.out (by omega)) (pw_lt1000 X_y.out (by omega)); rwa [if_neg (Nat.not_lt.2 (Nat.le_add_left _ _))] at h
  have HC := Aside0.mk HC
  go_wp2_with fail
  refine HC.out.mono ?_
  clear HC
  rintro e w6 ⟨v_d, rfl, hN, hB⟩
  have B6 := Aside0.mk hB
  have T6 := Aside0.mk (T5.out.trans (hB.mono T5.out.size))
  have H_d := Aside0.mk hN
  have X_d := Aside0.mk (show ((mk l0 10) + (mk l1 10)) - (mk l1 10) < pw 11 from Nat.lt_of_le_of_lt (Nat.sub_le _ _) X_s.out)
  clear hN hB
  have HC : Calls Tryd.prog 37 #[v_y, v_x] w6 (NuPost w6 ((mk l1 10) + (mk l0 10))) := addN (((H_y.out.below B4.out).below B5.out).below B6.out) ((((H_x.out.below B3.out).below B4.out).below B5.out).below B6.out) (pw_lt1000 X_y.out (by omega)) (pw_lt1000 X_x.out (by omega))
  have HC := Aside0.mk HC
  go_wp2_with fail
  refine HC.out.mono ?_
  clear HC
  rintro e w7 ⟨v_s2, rfl, hN, hB⟩
  have B7 := Aside0.mk hB
  have T7 := Aside0.mk (T6.out.trans (hB.mono T6.out.size))
  have H_s2 := Aside0.mk hN
  have X_s2 := Aside0.mk (show (mk l1 10) + (mk l0 10) < pw 11 from pw_addb X_y.out X_x.out (by omega) (by omega))
  clear hN hB
  have HC : Calls Tryd.prog 28 #[v_s, v_s2] w7 (TruePost w7) := sameN ((H_s.out.below B6.out).below B7.out) H_s2.out (pw_lt1000 X_s.out (by omega)) (Nat.add_comm _ _)
  have HC := Aside0.mk HC
  go_wp2_with fail
  refine HC.out.mono ?_
  clear HC
  rintro e w8 ⟨rfl, hB⟩
  have B8 := Aside0.mk hB
  have T8 := Aside0.mk (T7.out.trans (hB.mono T7.out.size))
  clear hB
  have HC : Calls Tryd.prog 39 #[v_x, v_y] w8 (NuPost w8 ((mk l0 10) * (mk l1 10))) := mulN ((((((H_x.out.below B3.out).below B4.out).below B5.out).below B6.out).below B7.out).below B8.out) (((((H_y.out.below B4.out).below B5.out).below B6.out).below B7.out).below B8.out) (pw_lt1000 X_x.out (by omega)) (pw_lt1000 X_y.out (by omega))
  have HC := Aside0.mk HC
  go_wp2_with fail
  refine HC.out.mono ?_
  clear HC
  rintro e w9 ⟨v_p, rfl, hN, hB⟩
  have B9 := Aside0.mk hB
  have T9 := Aside0.mk (T8.out.trans (hB.mono T8.out.size))
  have H_p := Aside0.mk hN
  have X_p := Aside0.mk (show (mk l0 10) * (mk l1 10) < pw 20 from pw_mulb X_x.out X_y.out)
  clear hN hB
  have HC : Calls Tryd.prog 39 #[v_y, v_x] w9 (NuPost w9 ((mk l1 10) * (mk l0 10))) := mulN ((((((H_y.out.below B4.out).below B5.out).below B6.out).below B7.out).below B8.out).below B9.out) (((((((H_x.out.below B3.out).below B4.out).below B5.out).below B6.out).below B7.out).below B8.out).below B9.out) (pw_lt1000 X_y.out (by omega)) (pw_lt1000 X_x.out (by omega))
  have HC := Aside0.mk HC
  go_wp2_with fail
  refine HC.out.mono ?_
  clear HC
  rintro e w10 ⟨v_p2, rfl, hN, hB⟩
  have B10 := Aside0.mk hB
  have T10 := Aside0.mk (T9.out.trans (hB.mono T9.out.size))
  have H_p2 := Aside0.mk hN
  have X_p2 := Aside0.mk (show (mk l1 10) * (mk l0 10) < pw 20 from pw_mulb X_y.out X_x.out)
  clear hN hB
  have HC : Calls Tryd.prog 28 #[v_p, v_p2] w10 (TruePost w10) := sameN (H_p.out.below B10.out) H_p2.out (pw_lt1000 X_p.out (by omega)) (Nat.mul_comm _ _)
  have HC := Aside0.mk HC
  go_wp2_with fail
  refine HC.out.mono ?_
  clear HC
  rintro e w11 ⟨rfl, hB⟩
  have B11 := Aside0.mk hB
  have T11 := Aside0.mk (T10.out.trans (hB.mono T10.out.size))
  clear hB
  have HC : Calls Tryd.prog 39 #[v_s, v_z] w11 (NuPost w11 (((mk l0 10) + (mk l1 10)) * (mk l2 10))) := mulN ((((((H_s.out.below B6.out).below B7.out).below B8.out).below B9.out).below B10.out).below B11.out) (((((((H_z.out.below B5.out).below B6.out).below B7.out).below B8.out).below B9.out).below B10.out).below B11.out) (pw_lt1000 X_s.out (by omega)) (pw_lt1000 X_z.out (by omega))
  have HC := Aside0.mk HC
  go_wp2_with fail
  refine HC.out.mono ?_
  clear HC
  rintro e w12 ⟨v_sz, rfl, hN, hB⟩
  have B12 := Aside0.mk hB
  have T12 := Aside0.mk (T11.out.trans (hB.mono T11.out.size))
  have H_sz := Aside0.mk hN
  have X_sz := Aside0.mk (show ((mk l0 10) + (mk l1 10)) * (mk l2 10) < pw 21 from pw_mulb X_s.out X_z.out)
  clear hN hB
  have HC : Calls Tryd.prog 39 #[v_x, v_z] w12 (NuPost w12 ((mk l0 10) * (mk l2 10))) := mulN ((((((((((H_x.out.below B3.out).below B4.out).below B5.out).below B6.out).below B7.out).below B8.out).below B9.out).below B10.out).below B11.out).below B12.out) ((((((((H_z.out.below B5.out).below B6.out).below B7.out).below B8.out).below B9.out).below B10.out).below B11.out).below B12.out) (pw_lt1000 X_x.out (by omega)) (pw_lt1000 X_z.out (by omega))
  have HC := Aside0.mk HC
  go_wp2_with fail
  refine HC.out.mono ?_
  clear HC
  rintro e w13 ⟨v_xz, rfl, hN, hB⟩
  have B13 := Aside0.mk hB
  have T13 := Aside0.mk (T12.out.trans (hB.mono T12.out.size))
  have H_xz := Aside0.mk hN
  have X_xz := Aside0.mk (show (mk l0 10) * (mk l2 10) < pw 20 from pw_mulb X_x.out X_z.out)
  clear hN hB
  have HC : Calls Tryd.prog 39 #[v_y, v_z] w13 (NuPost w13 ((mk l1 10) * (mk l2 10))) := mulN ((((((((((H_y.out.below B4.out).below B5.out).below B6.out).below B7.out).below B8.out).below B9.out).below B10.out).below B11.out).below B12.out).below B13.out) (((((((((H_z.out.below B5.out).below B6.out).below B7.out).below B8.out).below B9.out).below B10.out).below B11.out).below B12.out).below B13.out) (pw_lt1000 X_y.out (by omega)) (pw_lt1000 X_z.out (by omega))
  have HC := Aside0.mk HC
  go_wp2_with fail
  refine HC.out.mono ?_
  clear HC
  rintro e w14 ⟨v_yz, rfl, hN, hB⟩
  have B14 := Aside0.mk hB
  have T14 := Aside0.mk (T13.out.trans (hB.mono T13.out.size))
  have H_yz := Aside0.mk hN
  have X_yz := Aside0.mk (show (mk l1 10) * (mk l2 10) < pw 20 from pw_mulb X_y.out X_z.out)
  clear hN hB
  have HC : Calls Tryd.prog 37 #[v_xz, v_yz] w14 (NuPost w14 (((mk l0 10) * (mk l2 10)) + ((mk l1 10) * (mk l2 10)))) := addN (H_xz.out.below B14.out) H_yz.out (pw_lt1000 X_xz.out (by omega)) (pw_lt1000 X_yz.out (by omega))
  have HC := Aside0.mk HC
  go_wp2_with fail
  refine HC.out.mono ?_
  clear HC
  rintro e w15 ⟨v_t, rfl, hN, hB⟩
  have B15 := Aside0.mk hB
  have T15 := Aside0.mk (T14.out.trans (hB.mono T14.out.size))
  have H_t := Aside0.mk hN
  have X_t := Aside0.mk (show ((mk l0 10) * (mk l2 10)) + ((mk l1 10) * (mk l2 10)) < pw 21 from pw_addb X_xz.out X_yz.out (by omega) (by omega))
  clear hN hB
  have HC : Calls Tryd.prog 28 #[v_sz, v_t] w15 (TruePost w15) := sameN (((H_sz.out.below B13.out).below B14.out).below B15.out) H_t.out (pw_lt1000 X_sz.out (by omega)) (Nat.add_mul _ _ _)
  have HC := Aside0.mk HC
  go_wp2_with fail
  refine HC.out.mono ?_
  clear HC
  rintro e w16 ⟨rfl, hB⟩
  have B16 := Aside0.mk hB
  have T16 := Aside0.mk (T15.out.trans (hB.mono T15.out.size))
  clear hB
  have HC : Calls Tryd.prog 39 #[v_x, v_y] w16 (NuPost w16 ((mk l0 10) * (mk l1 10))) := mulN ((((((((((((((H_x.out.below B3.out).below B4.out).below B5.out).below B6.out).below B7.out).below B8.out).below B9.out).below B10.out).below B11.out).below B12.out).below B13.out).below B14.out).below B15.out).below B16.out) (((((((((((((H_y.out.below B4.out).below B5.out).below B6.out).below B7.out).below B8.out).below B9.out).below B10.out).below B11.out).below B12.out).below B13.out).below B14.out).below B15.out).below B16.out) (pw_lt1000 X_x.out (by omega)) (pw_lt1000 X_y.out (by omega))
  have HC := Aside0.mk HC
  go_wp2_with fail
  refine HC.out.mono ?_
  clear HC
  rintro e w17 ⟨v_q, rfl, hN, hB⟩
  have B17 := Aside0.mk hB
  have T17 := Aside0.mk (T16.out.trans (hB.mono T16.out.size))
  have H_q := Aside0.mk hN
  have X_q := Aside0.mk (show (mk l0 10) * (mk l1 10) < pw 20 from pw_mulb X_x.out X_y.out)
  clear hN hB
  have HC : Calls Tryd.prog 39 #[v_q, v_z] w17 (NuPost w17 (((mk l0 10) * (mk l1 10)) * (mk l2 10))) := mulN H_q.out (((((((((((((H_z.out.below B5.out).below B6.out).below B7.out).below B8.out).below B9.out).below B10.out).below B11.out).below B12.out).below B13.out).below B14.out).below B15.out).below B16.out).below B17.out) (pw_lt1000 X_q.out (by omega)) (pw_lt1000 X_z.out (by omega))
  have HC := Aside0.mk HC
  go_wp2_with fail
  refine HC.out.mono ?_
  clear HC
  rintro e w18 ⟨v_q1, rfl, hN, hB⟩
  have B18 := Aside0.mk hB
  have T18 := Aside0.mk (T17.out.trans (hB.mono T17.out.size))
  have H_q1 := Aside0.mk hN
  have X_q1 := Aside0.mk (show ((mk l0 10) * (mk l1 10)) * (mk l2 10) < pw 30 from pw_mulb X_q.out X_z.out)
  clear hN hB
  have HC : Calls Tryd.prog 39 #[v_y, v_z] w18 (NuPost w18 ((mk l1 10) * (mk l2 10))) := mulN (((((((((((((((H_y.out.below B4.out).below B5.out).below B6.out).below B7.out).below B8.out).below B9.out).below B10.out).below B11.out).below B12.out).below B13.out).below B14.out).below B15.out).below B16.out).below B17.out).below B18.out) ((((((((((((((H_z.out.below B5.out).below B6.out).below B7.out).below B8.out).below B9.out).below B10.out).below B11.out).below B12.out).below B13.out).below B14.out).below B15.out).below B16.out).below B17.out).below B18.out) (pw_lt1000 X_y.out (by omega)) (pw_lt1000 X_z.out (by omega))
  have HC := Aside0.mk HC
  go_wp2_with fail
  refine HC.out.mono ?_
  clear HC
  rintro e w19 ⟨v_q2, rfl, hN, hB⟩
  have B19 := Aside0.mk hB
  have T19 := Aside0.mk (T18.out.trans (hB.mono T18.out.size))
  have H_q2 := Aside0.mk hN
  have X_q2 := Aside0.mk (show (mk l1 10) * (mk l2 10) < pw 20 from pw_mulb X_y.out X_z.out)
  clear hN hB
  have HC : Calls Tryd.prog 39 #[v_x, v_q2] w19 (NuPost w19 ((mk l0 10) * ((mk l1 10) * (mk l2 10)))) := mulN (((((((((((((((((H_x.out.below B3.out).below B4.out).below B5.out).below B6.out).below B7.out).below B8.out).below B9.out).below B10.out).below B11.out).below B12.out).below B13.out).below B14.out).below B15.out).below B16.out).below B17.out).below B18.out).below B19.out) H_q2.out (pw_lt1000 X_x.out (by omega)) (pw_lt1000 X_q2.out (by omega))
  have HC := Aside0.mk HC
  go_wp2_with fail
  refine HC.out.mono ?_
  clear HC
  rintro e w20 ⟨v_q3, rfl, hN, hB⟩
  have B20 := Aside0.mk hB
  have T20 := Aside0.mk (T19.out.trans (hB.mono T19.out.size))
  have H_q3 := Aside0.mk hN
  have X_q3 := Aside0.mk (show (mk l0 10) * ((mk l1 10) * (mk l2 10)) < pw 30 from pw_mulb X_x.out X_q2.out)
  clear hN hB
  have HC : Calls Tryd.prog 28 #[v_q1, v_q3] w20 (TruePost w20) := sameN ((H_q1.out.below B19.out).below B20.out) H_q3.out (pw_lt1000 X_q1.out (by omega)) (Nat.mul_assoc _ _ _)
  have HC := Aside0.mk HC
  go_wp2_with fail
  refine HC.out.mono ?_
  clear HC
  rintro e w21 ⟨rfl, hB⟩
  have B21 := Aside0.mk hB
  have T21 := Aside0.mk (T20.out.trans (hB.mono T20.out.size))
  clear hB
  have HC : Calls Tryd.prog 28 #[v_d, v_x] w21 (TruePost w21) := sameN (((((((((((((((H_d.out.below B7.out).below B8.out).below B9.out).below B10.out).below B11.out).below B12.out).below B13.out).below B14.out).below B15.out).below B16.out).below B17.out).below B18.out).below B19.out).below B20.out).below B21.out) (((((((((((((((((((H_x.out.below B3.out).below B4.out).below B5.out).below B6.out).below B7.out).below B8.out).below B9.out).below B10.out).below B11.out).below B12.out).below B13.out).below B14.out).below B15.out).below B16.out).below B17.out).below B18.out).below B19.out).below B20.out).below B21.out) (pw_lt1000 X_d.out (by omega)) (Nat.add_sub_cancel _ _)
  have HC := Aside0.mk HC
  go_wp2_with fail
  refine HC.out.mono ?_
  clear HC
  rintro e w22 ⟨rfl, hB⟩
  have B22 := Aside0.mk hB
  have T22 := Aside0.mk (T21.out.trans (hB.mono T21.out.size))
  clear hB
  obtain ⟨zc, hzc⟩ : ∃ zc, zc = cmpZ (mk l0 10) (mk l1 10) := ⟨_, rfl⟩
  have ZC := Aside0.mk hzc
  clear hzc
  have HC : Calls Tryd.prog 40 #[v_x, v_y] w22 (IntPost w22 zc) := by have h := cmpN ((((((((((((((((((((H_x.out.below B3.out).below B4.out).below B5.out).below B6.out).below B7.out).below B8.out).below B9.out).below B10.out).below B11.out).below B12.out).below B13.out).below B14.out).below B15.out).below B16.out).below B17.out).below B18.out).below B19.out).below B20.out).below B21.out).below B22.out) (((((((((((((((((((H_y.out.below B4.out).below B5.out).below B6.out).below B7.out).below B8.out).below B9.out).below B10.out).below B11.out).below B12.out).below B13.out).below B14.out).below B15.out).below B16.out).below B17.out).below B18.out).below B19.out).below B20.out).below B21.out).below B22.out) (pw_lt1000 X_x.out (by omega)) (pw_lt1000 X_y.out (by omega)); rw [← ZC.out] at h; exact h
  have HC := Aside0.mk HC
  go_wp2_with fail
  refine HC.out.mono ?_
  clear HC
  rintro e w23 ⟨rfl, hB⟩
  have B23 := Aside0.mk hB
  have T23 := Aside0.mk (T22.out.trans (hB.mono T22.out.size))
  clear hB
  have HC : Calls Tryd.prog 37 #[v_x, v_z] w23 (NuPost w23 ((mk l0 10) + (mk l2 10))) := addN (((((((((((((((((((((H_x.out.below B3.out).below B4.out).below B5.out).below B6.out).below B7.out).below B8.out).below B9.out).below B10.out).below B11.out).below B12.out).below B13.out).below B14.out).below B15.out).below B16.out).below B17.out).below B18.out).below B19.out).below B20.out).below B21.out).below B22.out).below B23.out) (((((((((((((((((((H_z.out.below B5.out).below B6.out).below B7.out).below B8.out).below B9.out).below B10.out).below B11.out).below B12.out).below B13.out).below B14.out).below B15.out).below B16.out).below B17.out).below B18.out).below B19.out).below B20.out).below B21.out).below B22.out).below B23.out) (pw_lt1000 X_x.out (by omega)) (pw_lt1000 X_z.out (by omega))
  have HC := Aside0.mk HC
  go_wp2_with fail
  refine HC.out.mono ?_
  clear HC
  rintro e w24 ⟨v_xz2, rfl, hN, hB⟩
  have B24 := Aside0.mk hB
  have T24 := Aside0.mk (T23.out.trans (hB.mono T23.out.size))
  have H_xz2 := Aside0.mk hN
  have X_xz2 := Aside0.mk (show (mk l0 10) + (mk l2 10) < pw 11 from pw_addb X_x.out X_z.out (by omega) (by omega))
  clear hN hB
  have HC : Calls Tryd.prog 37 #[v_y, v_z] w24 (NuPost w24 ((mk l1 10) + (mk l2 10))) := addN (((((((((((((((((((((H_y.out.below B4.out).below B5.out).below B6.out).below B7.out).below B8.out).below B9.out).below B10.out).below B11.out).below B12.out).below B13.out).below B14.out).below B15.out).below B16.out).below B17.out).below B18.out).below B19.out).below B20.out).below B21.out).below B22.out).below B23.out).below B24.out) ((((((((((((((((((((H_z.out.below B5.out).below B6.out).below B7.out).below B8.out).below B9.out).below B10.out).below B11.out).below B12.out).below B13.out).below B14.out).below B15.out).below B16.out).below B17.out).below B18.out).below B19.out).below B20.out).below B21.out).below B22.out).below B23.out).below B24.out) (pw_lt1000 X_y.out (by omega)) (pw_lt1000 X_z.out (by omega))
  have HC := Aside0.mk HC
  go_wp2_with fail
  refine HC.out.mono ?_
  clear HC
  rintro e w25 ⟨v_yz2, rfl, hN, hB⟩
  have B25 := Aside0.mk hB
  have T25 := Aside0.mk (T24.out.trans (hB.mono T24.out.size))
  have H_yz2 := Aside0.mk hN
  have X_yz2 := Aside0.mk (show (mk l1 10) + (mk l2 10) < pw 11 from pw_addb X_y.out X_z.out (by omega) (by omega))
  clear hN hB
  have HC : Calls Tryd.prog 40 #[v_xz2, v_yz2] w25 (IntPost w25 zc) := by have h := cmpN (H_xz2.out.below B25.out) H_yz2.out (pw_lt1000 X_xz2.out (by omega)) (pw_lt1000 X_yz2.out (by omega)); rw [cmpZ_add, ← ZC.out] at h; exact h
  have HC := Aside0.mk HC
  go_wp2_with fail
  refine HC.out.mono ?_
  clear HC
  rintro e w26 ⟨rfl, hB⟩
  have B26 := Aside0.mk hB
  have T26 := Aside0.mk (T25.out.trans (hB.mono T25.out.size))
  clear hB
  go_wp2_with fail
  go_ret
  exact ⟨rfl, T26.out⟩
end Go.Proofs.YtklhpobphloehaaDoor.natRing
