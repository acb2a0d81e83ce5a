/- The law NatSquares: the walk through its calls, by their contracts; the row and its card. -/
import Derived.Test.YtklhpobphloehaaDoorB
set_option linter.unusedVariables false
namespace Go.Proofs.YtklhpobphloehaaDoor.natSquares
open Go.RowKit
open Go.Proofs.YtklhpobphloehaaDoor.G Go.Proofs.YtklhpobphloehaaDoor.Nn Go.Proofs.YtklhpobphloehaaDoorW.PrintWords Go.Proofs.YtklhpobphloehaaDoorW.PrintLast

theorem sq1 (x y : Nat) : (x + y) * (x + y) = (x * x + y * y) + x * y * 2 ^ 1 := by
  rw [Nat.pow_one, Nat.add_mul, Nat.mul_add, Nat.mul_add, Nat.mul_comm y x]
  omega
theorem sq2 {x y : Nat} (h : y ≤ x) : x * y * 2 ^ 1 ≤ x * x + y * y := by
  obtain ⟨d, rfl⟩ := Nat.exists_eq_add_of_le h
  have e := Nat.mul_comm d y
  simp only [Nat.pow_one, Nat.add_mul, Nat.mul_add]
  omega
theorem sq3 {x y : Nat} (h : y ≤ x) : (x - y) * (x - y) = x * x + y * y - x * y * 2 ^ 1 := by
  obtain ⟨d, rfl⟩ := Nat.exists_eq_add_of_le h
  have e := Nat.mul_comm d y
  simp only [Nat.add_sub_cancel_left, Nat.pow_one, Nat.add_mul, Nat.mul_add]
  omega
theorem cmp_lt {x y : Nat} (h : x < y) : cmpZ x y = -1 := by unfold cmpZ; rw [if_pos h]
theorem cmp_ge {x y : Nat} (h : ¬ x < y) : ∃ z, z = cmpZ x y ∧ decide (z < 0) = false := by
  refine ⟨_, rfl, ?_⟩
  unfold cmpZ
  rw [if_neg h]
  by_cases e : x = y
  · rw [if_pos e]; decide
  · rw [if_neg e]; decide
set_option maxHeartbeats 4000000 in
set_option maxRecDepth 100000 in
theorem walk (a0 : Option Addr) (c0 : Nat) (l0 : List Int) (a1 : Option Addr) (c1 : Nat) (l1 : List Int) (w : World) (hr0 : CU w a0 l0.length l0) (hc0 : l0.length ≤ c0) (hL0 : Lim l0) (hr1 : CU w a1 l1.length l1) (hc1 : l1.length ≤ c1) (hL1 : Lim l1) :
    Calls Tryd.prog 8 #[.slice a0 l0.length c0, .slice a1 l1.length c1] w (TruePost w) := by
  have C0 := Aside0.mk hr0
  have S0 := Aside0.mk hc0
  have L0 := Aside0.mk hL0
  clear hr0 hc0 hL0
  have C1 := Aside0.mk hr1
  have S1 := Aside0.mk hc1
  have L1 := Aside0.mk hL1
  clear hr1 hc1 hL1
  go_enter Tryd.func8, Tryd.ntmps8
  have HC : Calls Tryd.prog 23 #[] w (TruePost w) := known_w w
  have HC := Aside0.mk HC
  go_wp2_with fail
  refine HC.out.mono ?_
  clear HC
  rintro e w1 ⟨rfl, hB⟩
  have B1 := Aside0.mk hB
  have T1 := Aside0.mk (hB.mono (Nat.le_refl _))
  clear hB
  have HC : Calls Tryd.prog 24 #[.slice a0 l0.length c0, .int .i64 10] w1 (NuPost w1 (mk l0 10)) := makeN 10 (CU_below C0.out T1.out) S0.out L0.out (by decide)
  have HC := Aside0.mk HC
  go_wp2_with fail
  refine HC.out.mono ?_
  clear HC
  rintro e w2 ⟨v_x, rfl, hN, hB⟩
  have B2 := Aside0.mk hB
  have T2 := Aside0.mk (T1.out.trans (hB.mono T1.out.size))
  have H_x := Aside0.mk hN
  have X_x := Aside0.mk (show mk l0 10 < pw 10 from mk_lt L0.out 10)
  clear hN hB
  have HC : Calls Tryd.prog 24 #[.slice a1 l1.length c1, .int .i64 10] w2 (NuPost w2 (mk l1 10)) := makeN 10 (CU_below C1.out T2.out) S1.out L1.out (by decide)
  have HC := Aside0.mk HC
  go_wp2_with fail
  refine HC.out.mono ?_
  clear HC
  rintro e w3 ⟨v_y, rfl, hN, hB⟩
  have B3 := Aside0.mk hB
  have T3 := Aside0.mk (T2.out.trans (hB.mono T2.out.size))
  have H_y := Aside0.mk hN
  have X_y := Aside0.mk (show mk l1 10 < pw 10 from mk_lt L1.out 10)
  clear hN hB
  by_cases hlt : (mk l0 10) < (mk l1 10)
  ·
    have LT := Aside0.mk hlt
    clear hlt
    have HC : Calls Tryd.prog 41 #[v_x, v_y] w3 (IntPost w3 (-1)) := by have h := rcmpN (H_x.out.below B3.out) H_y.out (pw_lt1000 X_x.out (by omega)) (pw_lt1000 X_y.out (by omega)); rw [cmp_lt LT.out] at h; exact h
    have HC := Aside0.mk HC
    go_wp2_with fail
    refine HC.out.mono ?_
    clear HC
    rintro e w4 ⟨rfl, hB⟩
    have B4 := Aside0.mk hB
    have T4 := Aside0.mk (T3.out.trans (hB.mono T3.out.size))
    clear hB
    have HC : Calls Tryd.prog 39 #[v_y, v_x] w4 (NuPost w4 ((mk l1 10) * (mk l0 10))) := mulN (H_y.out.below B4.out) ((H_x.out.below B3.out).below B4.out) (pw_lt1000 X_y.out (by omega)) (pw_lt1000 X_x.out (by omega))
    have HC := Aside0.mk HC
    go_wp2_with fail
    refine HC.out.mono ?_
    clear HC
    rintro e w5 ⟨v_p0, rfl, hN, hB⟩
    have B5 := Aside0.mk hB
    have T5 := Aside0.mk (T4.out.trans (hB.mono T4.out.size))
    have H_p0 := Aside0.mk hN
    have X_p0 := Aside0.mk (show (mk l1 10) * (mk l0 10) < pw 20 from pw_mulb X_y.out X_x.out)
    clear hN hB
    have HC : Calls Tryd.prog 31 #[v_p0, .int .i64 1] w5 (NuPost w5 (((mk l1 10) * (mk l0 10)) * 2 ^ 1)) := shlN H_p0.out (pw_lt1000 X_p0.out (by omega)) 1 (by decide)
    have HC := Aside0.mk HC
    go_wp2_with fail
    refine HC.out.mono ?_
    clear HC
    rintro e w6 ⟨v_p, rfl, hN, hB⟩
    have B6 := Aside0.mk hB
    have T6 := Aside0.mk (T5.out.trans (hB.mono T5.out.size))
    have H_p := Aside0.mk hN
    have X_p := Aside0.mk (show ((mk l1 10) * (mk l0 10)) * 2 ^ 1 < pw 21 from pw_shlb (b := 1) X_p0.out (by omega))
    clear hN hB
    have HC : Calls Tryd.prog 39 #[v_y, v_y] w6 (NuPost w6 ((mk l1 10) * (mk l1 10))) := mulN (((H_y.out.below B4.out).below B5.out).below B6.out) (((H_y.out.below B4.out).below B5.out).below B6.out) (pw_lt1000 X_y.out (by omega)) (pw_lt1000 X_y.out (by omega))
    have HC := Aside0.mk HC
    go_wp2_with fail
    refine HC.out.mono ?_
    clear HC
    rintro e w7 ⟨v_xx, rfl, hN, hB⟩
    have B7 := Aside0.mk hB
    have T7 := Aside0.mk (T6.out.trans (hB.mono T6.out.size))
    have H_xx := Aside0.mk hN
    have X_xx := Aside0.mk (show (mk l1 10) * (mk l1 10) < pw 20 from pw_mulb X_y.out X_y.out)
    clear hN hB
    have HC : Calls Tryd.prog 39 #[v_x, v_x] w7 (NuPost w7 ((mk l0 10) * (mk l0 10))) := mulN (((((H_x.out.below B3.out).below B4.out).below B5.out).below B6.out).below B7.out) (((((H_x.out.below B3.out).below B4.out).below B5.out).below B6.out).below B7.out) (pw_lt1000 X_x.out (by omega)) (pw_lt1000 X_x.out (by omega))
    have HC := Aside0.mk HC
    go_wp2_with fail
    refine HC.out.mono ?_
    clear HC
    rintro e w8 ⟨v_yy, rfl, hN, hB⟩
    have B8 := Aside0.mk hB
    have T8 := Aside0.mk (T7.out.trans (hB.mono T7.out.size))
    have H_yy := Aside0.mk hN
    have X_yy := Aside0.mk (show (mk l0 10) * (mk l0 10) < pw 20 from pw_mulb X_x.out X_x.out)
    clear hN hB
    have HC : Calls Tryd.prog 37 #[v_xx, v_yy] w8 (NuPost w8 (((mk l1 10) * (mk l1 10)) + ((mk l0 10) * (mk l0 10)))) := addN (H_xx.out.below B8.out) H_yy.out (pw_lt1000 X_xx.out (by omega)) (pw_lt1000 X_yy.out (by omega))
    have HC := Aside0.mk HC
    go_wp2_with fail
    refine HC.out.mono ?_
    clear HC
    rintro e w9 ⟨v_s, rfl, hN, hB⟩
    have B9 := Aside0.mk hB
    have T9 := Aside0.mk (T8.out.trans (hB.mono T8.out.size))
    have H_s := Aside0.mk hN
    have X_s := Aside0.mk (show ((mk l1 10) * (mk l1 10)) + ((mk l0 10) * (mk l0 10)) < pw 21 from pw_addb X_xx.out X_yy.out (by omega) (by omega))
    clear hN hB
    have HC : Calls Tryd.prog 38 #[v_y, v_x] w9 (NuPost2 w9 ((mk l1 10) - (mk l0 10)) 0) := by have h := subN ((((((H_y.out.below B4.out).below B5.out).below B6.out).below B7.out).below B8.out).below B9.out) (((((((H_x.out.below B3.out).below B4.out).below B5.out).below B6.out).below B7.out).below B8.out).below B9.out) (pw_lt1000 X_y.out (by omega)) (pw_lt1000 X_x.out (by omega)); rwa [if_neg (Nat.not_lt.2 (Nat.le_of_lt LT.out))] at h
    have HC := Aside0.mk HC
    go_wp2_with fail
    refine HC.out.mono ?_
    clear HC
    rintro e w10 ⟨v_d, rfl, hN, hB⟩
    have B10 := Aside0.mk hB
    have T10 := Aside0.mk (T9.out.trans (hB.mono T9.out.size))
    have H_d := Aside0.mk hN
    have X_d := Aside0.mk (show (mk l1 10) - (mk l0 10) < pw 10 from Nat.lt_of_le_of_lt (Nat.sub_le _ _) X_y.out)
    clear hN hB
    have HC : Calls Tryd.prog 37 #[v_y, v_x] w10 (NuPost w10 ((mk l1 10) + (mk l0 10))) := addN (((((((H_y.out.below B4.out).below B5.out).below B6.out).below B7.out).below B8.out).below B9.out).below B10.out) ((((((((H_x.out.below B3.out).below B4.out).below B5.out).below B6.out).below B7.out).below B8.out).below B9.out).below B10.out) (pw_lt1000 X_y.out (by omega)) (pw_lt1000 X_x.out (by omega))
    have HC := Aside0.mk HC
    go_wp2_with fail
    refine HC.out.mono ?_
    clear HC
    rintro e w11 ⟨v_t, rfl, hN, hB⟩
    have B11 := Aside0.mk hB
    have T11 := Aside0.mk (T10.out.trans (hB.mono T10.out.size))
    have H_t := Aside0.mk hN
    have X_t := Aside0.mk (show (mk l1 10) + (mk l0 10) < pw 11 from pw_addb X_y.out X_x.out (by omega) (by omega))
    clear hN hB
    have HC : Calls Tryd.prog 38 #[v_s, v_p] w11 (NuPost2 w11 ((((mk l1 10) * (mk l1 10)) + ((mk l0 10) * (mk l0 10))) - (((mk l1 10) * (mk l0 10)) * 2 ^ 1)) 0) := by have h := subN ((H_s.out.below B10.out).below B11.out) (((((H_p.out.below B7.out).below B8.out).below B9.out).below B10.out).below B11.out) (pw_lt1000 X_s.out (by omega)) (pw_lt1000 X_p.out (by omega)); rwa [if_neg (Nat.not_lt.2 (sq2 (Nat.le_of_lt LT.out)))] at h
    have HC := Aside0.mk HC
    go_wp2_with fail
    refine HC.out.mono ?_
    clear HC
    rintro e w12 ⟨v_q, rfl, hN, hB⟩
    have B12 := Aside0.mk hB
    have T12 := Aside0.mk (T11.out.trans (hB.mono T11.out.size))
    have H_q := Aside0.mk hN
    have X_q := Aside0.mk (show (((mk l1 10) * (mk l1 10)) + ((mk l0 10) * (mk l0 10))) - (((mk l1 10) * (mk l0 10)) * 2 ^ 1) < pw 21 from Nat.lt_of_le_of_lt (Nat.sub_le _ _) X_s.out)
    clear hN hB
    have HC : Calls Tryd.prog 39 #[v_t, v_t] w12 (NuPost w12 (((mk l1 10) + (mk l0 10)) * ((mk l1 10) + (mk l0 10)))) := mulN (H_t.out.below B12.out) (H_t.out.below B12.out) (pw_lt1000 X_t.out (by omega)) (pw_lt1000 X_t.out (by omega))
    have HC := Aside0.mk HC
    go_wp2_with fail
    refine HC.out.mono ?_
    clear HC
    rintro e w13 ⟨v_tt, rfl, hN, hB⟩
    have B13 := Aside0.mk hB
    have T13 := Aside0.mk (T12.out.trans (hB.mono T12.out.size))
    have H_tt := Aside0.mk hN
    have X_tt := Aside0.mk (show ((mk l1 10) + (mk l0 10)) * ((mk l1 10) + (mk l0 10)) < pw 22 from pw_mulb X_t.out X_t.out)
    clear hN hB
    have HC : Calls Tryd.prog 37 #[v_s, v_p] w13 (NuPost w13 ((((mk l1 10) * (mk l1 10)) + ((mk l0 10) * (mk l0 10))) + (((mk l1 10) * (mk l0 10)) * 2 ^ 1))) := addN ((((H_s.out.below B10.out).below B11.out).below B12.out).below B13.out) (((((((H_p.out.below B7.out).below B8.out).below B9.out).below B10.out).below B11.out).below B12.out).below B13.out) (pw_lt1000 X_s.out (by omega)) (pw_lt1000 X_p.out (by omega))
    have HC := Aside0.mk HC
    go_wp2_with fail
    refine HC.out.mono ?_
    clear HC
    rintro e w14 ⟨v_sp, rfl, hN, hB⟩
    have B14 := Aside0.mk hB
    have T14 := Aside0.mk (T13.out.trans (hB.mono T13.out.size))
    have H_sp := Aside0.mk hN
    have X_sp := Aside0.mk (show (((mk l1 10) * (mk l1 10)) + ((mk l0 10) * (mk l0 10))) + (((mk l1 10) * (mk l0 10)) * 2 ^ 1) < pw 22 from pw_addb X_s.out X_p.out (by omega) (by omega))
    clear hN hB
    have HC : Calls Tryd.prog 28 #[v_tt, v_sp] w14 (TruePost w14) := sameN (H_tt.out.below B14.out) H_sp.out (pw_lt1000 X_tt.out (by omega)) (sq1 _ _)
    have HC := Aside0.mk HC
    go_wp2_with fail
    refine HC.out.mono ?_
    clear HC
    rintro e w15 ⟨rfl, hB⟩
    have B15 := Aside0.mk hB
    have T15 := Aside0.mk (T14.out.trans (hB.mono T14.out.size))
    clear hB
    have HC : Calls Tryd.prog 39 #[v_d, v_d] w15 (NuPost w15 (((mk l1 10) - (mk l0 10)) * ((mk l1 10) - (mk l0 10)))) := mulN (((((H_d.out.below B11.out).below B12.out).below B13.out).below B14.out).below B15.out) (((((H_d.out.below B11.out).below B12.out).below B13.out).below B14.out).below B15.out) (pw_lt1000 X_d.out (by omega)) (pw_lt1000 X_d.out (by omega))
    have HC := Aside0.mk HC
    go_wp2_with fail
    refine HC.out.mono ?_
    clear HC
    rintro e w16 ⟨v_dd, rfl, hN, hB⟩
    have B16 := Aside0.mk hB
    have T16 := Aside0.mk (T15.out.trans (hB.mono T15.out.size))
    have H_dd := Aside0.mk hN
    have X_dd := Aside0.mk (show ((mk l1 10) - (mk l0 10)) * ((mk l1 10) - (mk l0 10)) < pw 20 from pw_mulb X_d.out X_d.out)
    clear hN hB
    have HC : Calls Tryd.prog 28 #[v_dd, v_q] w16 (TruePost w16) := sameN H_dd.out ((((H_q.out.below B13.out).below B14.out).below B15.out).below B16.out) (pw_lt1000 X_dd.out (by omega)) (sq3 (Nat.le_of_lt LT.out))
    have HC := Aside0.mk HC
    go_wp2_with fail
    refine HC.out.mono ?_
    clear HC
    rintro e w17 ⟨rfl, hB⟩
    have B17 := Aside0.mk hB
    have T17 := Aside0.mk (T16.out.trans (hB.mono T16.out.size))
    clear hB
    go_wp2_with fail
    go_ret
    exact ⟨rfl, T17.out⟩
  ·
    obtain ⟨zc, hzc, hz0⟩ := cmp_ge hlt
    have GE := Aside0.mk (Nat.le_of_not_lt hlt)
    have ZC := Aside0.mk hzc
    clear hlt hzc
    have HC : Calls Tryd.prog 41 #[v_x, v_y] w3 (IntPost w3 zc) := by have h := rcmpN (H_x.out.below B3.out) H_y.out (pw_lt1000 X_x.out (by omega)) (pw_lt1000 X_y.out (by omega)); rw [← ZC.out] at h; exact h
    have HC := Aside0.mk HC
    go_wp2_with fail
    refine HC.out.mono ?_
    clear HC
    rintro e w4 ⟨rfl, hB⟩
    have B4 := Aside0.mk hB
    have T4 := Aside0.mk (T3.out.trans (hB.mono T3.out.size))
    clear hB
    have HC : Calls Tryd.prog 39 #[v_x, v_y] w4 (NuPost w4 ((mk l0 10) * (mk l1 10))) := mulN ((H_x.out.below B3.out).below B4.out) (H_y.out.below B4.out) (pw_lt1000 X_x.out (by omega)) (pw_lt1000 X_y.out (by omega))
    have HC := Aside0.mk HC
    go_wp2_with fail
    refine HC.out.mono ?_
    clear HC
    rintro e w5 ⟨v_p0, rfl, hN, hB⟩
    have B5 := Aside0.mk hB
    have T5 := Aside0.mk (T4.out.trans (hB.mono T4.out.size))
    have H_p0 := Aside0.mk hN
    have X_p0 := Aside0.mk (show (mk l0 10) * (mk l1 10) < pw 20 from pw_mulb X_x.out X_y.out)
    clear hN hB
    have HC : Calls Tryd.prog 31 #[v_p0, .int .i64 1] w5 (NuPost w5 (((mk l0 10) * (mk l1 10)) * 2 ^ 1)) := shlN H_p0.out (pw_lt1000 X_p0.out (by omega)) 1 (by decide)
    have HC := Aside0.mk HC
    go_wp2_with fail
    refine HC.out.mono ?_
    clear HC
    rintro e w6 ⟨v_p, rfl, hN, hB⟩
    have B6 := Aside0.mk hB
    have T6 := Aside0.mk (T5.out.trans (hB.mono T5.out.size))
    have H_p := Aside0.mk hN
    have X_p := Aside0.mk (show ((mk l0 10) * (mk l1 10)) * 2 ^ 1 < pw 21 from pw_shlb (b := 1) X_p0.out (by omega))
    clear hN hB
    have HC : Calls Tryd.prog 39 #[v_x, v_x] w6 (NuPost w6 ((mk l0 10) * (mk l0 10))) := mulN ((((H_x.out.below B3.out).below B4.out).below B5.out).below B6.out) ((((H_x.out.below B3.out).below B4.out).below B5.out).below B6.out) (pw_lt1000 X_x.out (by omega)) (pw_lt1000 X_x.out (by omega))
    have HC := Aside0.mk HC
    go_wp2_with fail
    refine HC.out.mono ?_
    clear HC
    rintro e w7 ⟨v_xx, rfl, hN, hB⟩
    have B7 := Aside0.mk hB
    have T7 := Aside0.mk (T6.out.trans (hB.mono T6.out.size))
    have H_xx := Aside0.mk hN
    have X_xx := Aside0.mk (show (mk l0 10) * (mk l0 10) < pw 20 from pw_mulb X_x.out X_x.out)
    clear hN hB
    have HC : Calls Tryd.prog 39 #[v_y, v_y] w7 (NuPost w7 ((mk l1 10) * (mk l1 10))) := mulN ((((H_y.out.below B4.out).below B5.out).below B6.out).below B7.out) ((((H_y.out.below B4.out).below B5.out).below B6.out).below B7.out) (pw_lt1000 X_y.out (by omega)) (pw_lt1000 X_y.out (by omega))
    have HC := Aside0.mk HC
    go_wp2_with fail
    refine HC.out.mono ?_
    clear HC
    rintro e w8 ⟨v_yy, rfl, hN, hB⟩
    have B8 := Aside0.mk hB
    have T8 := Aside0.mk (T7.out.trans (hB.mono T7.out.size))
    have H_yy := Aside0.mk hN
    have X_yy := Aside0.mk (show (mk l1 10) * (mk l1 10) < pw 20 from pw_mulb X_y.out X_y.out)
    clear hN hB
    have HC : Calls Tryd.prog 37 #[v_xx, v_yy] w8 (NuPost w8 (((mk l0 10) * (mk l0 10)) + ((mk l1 10) * (mk l1 10)))) := addN (H_xx.out.below B8.out) H_yy.out (pw_lt1000 X_xx.out (by omega)) (pw_lt1000 X_yy.out (by omega))
    have HC := Aside0.mk HC
    go_wp2_with fail
    refine HC.out.mono ?_
    clear HC
    rintro e w9 ⟨v_s, rfl, hN, hB⟩
    have B9 := Aside0.mk hB
    have T9 := Aside0.mk (T8.out.trans (hB.mono T8.out.size))
    have H_s := Aside0.mk hN
    have X_s := Aside0.mk (show ((mk l0 10) * (mk l0 10)) + ((mk l1 10) * (mk l1 10)) < pw 21 from pw_addb X_xx.out X_yy.out (by omega) (by omega))
    clear hN hB
    have HC : Calls Tryd.prog 38 #[v_x, v_y] w9 (NuPost2 w9 ((mk l0 10) - (mk l1 10)) 0) := by have h := subN (((((((H_x.out.below B3.out).below B4.out).below B5.out).below B6.out).below B7.out).below B8.out).below B9.out) ((((((H_y.out.below B4.out).below B5.out).below B6.out).below B7.out).below B8.out).below B9.out) (pw_lt1000 X_x.out (by omega)) (pw_lt1000 X_y.out (by omega)); rwa [if_neg (Nat.not_lt.2 (GE.out))] at h
    have HC := Aside0.mk HC
    go_wp2_with fail
    refine HC.out.mono ?_
    clear HC
    rintro e w10 ⟨v_d, rfl, hN, hB⟩
    have B10 := Aside0.mk hB
    have T10 := Aside0.mk (T9.out.trans (hB.mono T9.out.size))
    have H_d := Aside0.mk hN
    have X_d := Aside0.mk (show (mk l0 10) - (mk l1 10) < pw 10 from Nat.lt_of_le_of_lt (Nat.sub_le _ _) X_x.out)
    clear hN hB
    have HC : Calls Tryd.prog 37 #[v_x, v_y] w10 (NuPost w10 ((mk l0 10) + (mk l1 10))) := addN ((((((((H_x.out.below B3.out).below B4.out).below B5.out).below B6.out).below B7.out).below B8.out).below B9.out).below B10.out) (((((((H_y.out.below B4.out).below B5.out).below B6.out).below B7.out).below B8.out).below B9.out).below B10.out) (pw_lt1000 X_x.out (by omega)) (pw_lt1000 X_y.out (by omega))
    have HC := Aside0.mk HC
    go_wp2_with fail
    refine HC.out.mono ?_
    clear HC
    rintro e w11 ⟨v_t, rfl, hN, hB⟩
    have B11 := Aside0.mk hB
    have T11 := Aside0.mk (T10.out.trans (hB.mono T10.out.size))
    have H_t := Aside0.mk hN
    have X_t := Aside0.mk (show (mk l0 10) + (mk l1 10) < pw 11 from pw_addb X_x.out X_y.out (by omega) (by omega))
    clear hN hB
    have HC : Calls Tryd.prog 38 #[v_s, v_p] w11 (NuPost2 w11 ((((mk l0 10) * (mk l0 10)) + ((mk l1 10) * (mk l1 10))) - (((mk l0 10) * (mk l1 10)) * 2 ^ 1)) 0) := by have h := subN ((H_s.out.below B10.out).below B11.out) (((((H_p.out.below B7.out).below B8.out).below B9.out).below B10.out).below B11.out) (pw_lt1000 X_s.out (by omega)) (pw_lt1000 X_p.out (by omega)); rwa [if_neg (Nat.not_lt.2 (sq2 (GE.out)))] at h
    have HC := Aside0.mk HC
    go_wp2_with fail
    refine HC.out.mono ?_
    clear HC
    rintro e w12 ⟨v_q, rfl, hN, hB⟩
    have B12 := Aside0.mk hB
    have T12 := Aside0.mk (T11.out.trans (hB.mono T11.out.size))
    have H_q := Aside0.mk hN
    have X_q := Aside0.mk (show (((mk l0 10) * (mk l0 10)) + ((mk l1 10) * (mk l1 10))) - (((mk l0 10) * (mk l1 10)) * 2 ^ 1) < pw 21 from Nat.lt_of_le_of_lt (Nat.sub_le _ _) X_s.out)
    clear hN hB
    have HC : Calls Tryd.prog 39 #[v_t, v_t] w12 (NuPost w12 (((mk l0 10) + (mk l1 10)) * ((mk l0 10) + (mk l1 10)))) := mulN (H_t.out.below B12.out) (H_t.out.below B12.out) (pw_lt1000 X_t.out (by omega)) (pw_lt1000 X_t.out (by omega))
    have HC := Aside0.mk HC
    go_wp2_with fail
    refine HC.out.mono ?_
    clear HC
    rintro e w13 ⟨v_tt, rfl, hN, hB⟩
    have B13 := Aside0.mk hB
    have T13 := Aside0.mk (T12.out.trans (hB.mono T12.out.size))
    have H_tt := Aside0.mk hN
    have X_tt := Aside0.mk (show ((mk l0 10) + (mk l1 10)) * ((mk l0 10) + (mk l1 10)) < pw 22 from pw_mulb X_t.out X_t.out)
    clear hN hB
    have HC : Calls Tryd.prog 37 #[v_s, v_p] w13 (NuPost w13 ((((mk l0 10) * (mk l0 10)) + ((mk l1 10) * (mk l1 10))) + (((mk l0 10) * (mk l1 10)) * 2 ^ 1))) := addN ((((H_s.out.below B10.out).below B11.out).below B12.out).below B13.out) (((((((H_p.out.below B7.out).below B8.out).below B9.out).below B10.out).below B11.out).below B12.out).below B13.out) (pw_lt1000 X_s.out (by omega)) (pw_lt1000 X_p.out (by omega))
    have HC := Aside0.mk HC
    go_wp2_with fail
    refine HC.out.mono ?_
    clear HC
    rintro e w14 ⟨v_sp, rfl, hN, hB⟩
    have B14 := Aside0.mk hB
    have T14 := Aside0.mk (T13.out.trans (hB.mono T13.out.size))
    have H_sp := Aside0.mk hN
    have X_sp := Aside0.mk (show (((mk l0 10) * (mk l0 10)) + ((mk l1 10) * (mk l1 10))) + (((mk l0 10) * (mk l1 10)) * 2 ^ 1) < pw 22 from pw_addb X_s.out X_p.out (by omega) (by omega))
    clear hN hB
    have HC : Calls Tryd.prog 28 #[v_tt, v_sp] w14 (TruePost w14) := sameN (H_tt.out.below B14.out) H_sp.out (pw_lt1000 X_tt.out (by omega)) (sq1 _ _)
    have HC := Aside0.mk HC
    go_wp2_with fail
    refine HC.out.mono ?_
    clear HC
    rintro e w15 ⟨rfl, hB⟩
    have B15 := Aside0.mk hB
    have T15 := Aside0.mk (T14.out.trans (hB.mono T14.out.size))
    clear hB
    have HC : Calls Tryd.prog 39 #[v_d, v_d] w15 (NuPost w15 (((mk l0 10) - (mk l1 10)) * ((mk l0 10) - (mk l1 10)))) := mulN (((((H_d.out.below B11.out).below B12.out).below B13.out).below B14.out).below B15.out) (((((H_d.out.below B11.out).below B12.out).below B13.out).below B14.out).below B15.out) (pw_lt1000 X_d.out (by omega)) (pw_lt1000 X_d.out (by omega))
    have HC := Aside0.mk HC
    go_wp2_with fail
    refine HC.out.mono ?_
    clear HC
    rintro e w16 ⟨v_dd, rfl, hN, hB⟩
    have B16 := Aside0.mk hB
    have T16 := Aside0.mk (T15.out.trans (hB.mono T15.out.size))
    have H_dd := Aside0.mk hN
    have X_dd := Aside0.mk (show ((mk l0 10) - (mk l1 10)) * ((mk l0 10) - (mk l1 10)) < pw 20 from pw_mulb X_d.out X_d.out)
    clear hN hB
    have HC : Calls Tryd.prog 28 #[v_dd, v_q] w16 (TruePost w16) := sameN H_dd.out ((((H_q.out.below B13.out).below B14.out).below B15.out).below B16.out) (pw_lt1000 X_dd.out (by omega)) (sq3 (GE.out))
    have HC := Aside0.mk HC
    go_wp2_with fail
    refine HC.out.mono ?_
    clear HC
    rintro e w17 ⟨rfl, hB⟩
    have B17 := Aside0.mk hB
    have T17 := Aside0.mk (T16.out.trans (hB.mono T16.out.size))
    clear hB
    go_wp2_with fail
    go_ret
    exact ⟨rfl, T17.out⟩
end Go.Proofs.YtklhpobphloehaaDoor.natSquares
