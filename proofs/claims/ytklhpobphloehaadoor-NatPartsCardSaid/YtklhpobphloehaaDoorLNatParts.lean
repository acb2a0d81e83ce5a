/- The law NatParts: the walk through its calls, by their contracts; the row and its card. -/
import Derived.Test.YtklhpobphloehaaDoorB
import Derived.Test.YtklhpobphloehaaDoorG21
set_option linter.unusedVariables false
namespace Go.Proofs.YtklhpobphloehaaDoor.natParts
open Go.RowKit
open Go.Proofs.YtklhpobphloehaaDoor.G Go.Proofs.YtklhpobphloehaaDoor.Nn Go.Proofs.YtklhpobphloehaaDoorW.PrintWords Go.Proofs.YtklhpobphloehaaDoorW.PrintLast

theorem gcd_ltb {x y a b c : Nat} (hx : x < pw a) (hy : y < pw b) (ha : a ≤ c) (hb : b ≤ c) : Nat.gcd x y < pw c := by
  rcases Nat.eq_zero_or_pos x with h | h
  · rw [h, Nat.gcd_zero_left]; exact Nat.lt_of_lt_of_le hy (pw_le hb)
  · exact Nat.lt_of_le_of_lt (Nat.gcd_le_left y h) (Nat.lt_of_lt_of_le hx (pw_le ha))
set_option maxHeartbeats 4000000 in
set_option maxRecDepth 100000 in
theorem walk (a0 : Option Addr) (c0 : Nat) (l0 : List Int) (a1 : Option Addr) (c1 : Nat) (l1 : List Int) (w : World) (hr0 : CU w a0 l0.length l0) (hc0 : l0.length ≤ c0) (hL0 : Lim l0) (hr1 : CU w a1 l1.length l1) (hc1 : l1.length ≤ c1) (hL1 : Lim l1) :
    Calls Tryd.prog 11 #[.slice a0 l0.length c0, .slice a1 l1.length c1] w (TruePost w) := by
  have C0 := Aside0.mk hr0
  have S0 := Aside0.mk hc0
  have L0 := Aside0.mk hL0
  clear hr0 hc0 hL0
  have C1 := Aside0.mk hr1
  have S1 := Aside0.mk hc1
  have L1 := Aside0.mk hL1
  clear hr1 hc1 hL1
  go_enter Tryd.func11, Tryd.ntmps11
  have HC : Aside0 (Calls Tryd.prog 23 #[] w (TruePost w)) := ⟨known_w w⟩
  go_wp2_with fail
  refine HC.out.mono ?_
  clear HC
  rintro e w1 ⟨rfl, hB⟩
  have B1 := Aside0.mk hB
  have T1 := Aside0.mk (hB.mono (Nat.le_refl _))
  clear hB
  have HC : Aside0 (Calls Tryd.prog 24 #[.slice a0 l0.length c0, .int .i64 12] w1 (NuPost w1 (mk l0 12))) := ⟨makeN 12 (CU_below C0.out T1.out) S0.out L0.out (by decide)⟩
  go_wp2_with fail
  refine HC.out.mono ?_
  clear HC
  rintro e w2 ⟨v_x, rfl, hN, hB⟩
  have B2 := Aside0.mk hB
  have T2 := Aside0.mk (T1.out.trans (hB.mono T1.out.size))
  have H_x := Aside0.mk hN
  have X_x := Aside0.mk (show mk l0 12 < pw 12 from mk_lt L0.out 12)
  clear hN hB
  have HC : Aside0 (Calls Tryd.prog 24 #[.slice a1 l1.length c1, .int .i64 8] w2 (NuPost w2 (mk l1 8))) := ⟨makeN 8 (CU_below C1.out T2.out) S1.out L1.out (by decide)⟩
  go_wp2_with fail
  refine HC.out.mono ?_
  clear HC
  rintro e w3 ⟨v_y, rfl, hN, hB⟩
  have B3 := Aside0.mk hB
  have T3 := Aside0.mk (T2.out.trans (hB.mono T2.out.size))
  have H_y := Aside0.mk hN
  have X_y := Aside0.mk (show mk l1 8 < pw 8 from mk_lt L1.out 8)
  clear hN hB
  obtain ⟨A_y, c_y, rfl, _, _⟩ := H_y.out
  by_cases hz : (mk l1 8) = 0
  ·
    have hl0 : (digs (mk l1 8)).length = 0 := digs_length_zero.2 hz
    have H_y := Aside0.mk (show Nu w3 (.slice A_y 0 c_y) (mk l1 8) from by have h := H_y.out; rwa [hl0] at h)
    rw [hl0]
    have Z := Aside0.mk hz
    clear hz hl0
    have HC : Aside0 (Calls Tryd.prog 51 #[v_x, (.slice A_y 0 c_y)] w3 (DivPost0 w3)) := ⟨divZ (H_x.out.below B3.out) H_y.out (pw_lt1000 X_x.out (by omega)) (pw_lt1000 X_y.out (by omega)) (Z.out)⟩
    go_wp2_with fail
    refine HC.out.mono ?_
    clear HC
    rintro e w4 ⟨v_q, v_r, rfl, hN, hN2, hB⟩
    have B4 := Aside0.mk hB
    have T4 := Aside0.mk (T3.out.trans (hB.mono T3.out.size))
    have H_q := Aside0.mk hN
    have X_q := Aside0.mk (show 0 < pw 1 from pw_pos 1)
    have H_r := Aside0.mk hN2
    have X_r := Aside0.mk (show 0 < pw 1 from pw_pos 1)
    clear hN hN2 hB
    have HC : Aside0 (Calls Tryd.prog 53 #[v_x, (.slice A_y 0 c_y)] w4 (NuPost w4 (Nat.gcd (mk l0 12) (mk l1 8)))) := ⟨gcdN ((H_x.out.below B3.out).below B4.out) (H_y.out.below B4.out) (pw_lt1000 X_x.out (by omega)) (pw_lt1000 X_y.out (by omega))⟩
    go_wp2_with fail
    refine HC.out.mono ?_
    clear HC
    rintro e w5 ⟨v_g, rfl, hN, hB⟩
    have B5 := Aside0.mk hB
    have T5 := Aside0.mk (T4.out.trans (hB.mono T4.out.size))
    have H_g := Aside0.mk hN
    have X_g := Aside0.mk (show Nat.gcd (mk l0 12) (mk l1 8) < pw 12 from gcd_ltb X_x.out X_y.out (by omega) (by omega))
    clear hN hB
    have HC : Aside0 (Calls Tryd.prog 28 #[v_g, v_x] w5 (TruePost w5)) := ⟨sameN H_g.out (((H_x.out.below B3.out).below B4.out).below B5.out) (pw_lt1000 X_g.out (by omega)) (by rw [Z.out, Nat.gcd_zero_right])⟩
    go_wp2_with fail
    refine HC.out.mono ?_
    clear HC
    rintro e w6 ⟨rfl, hB⟩
    have B6 := Aside0.mk hB
    have T6 := Aside0.mk (T5.out.trans (hB.mono T5.out.size))
    clear hB
    go_wp2_with fail
    go_ret
    exact ⟨rfl, T6.out⟩
  ·
    have hlp : 0 < (digs (mk l1 8)).length := Nat.pos_of_ne_zero (fun h => hz (digs_length_zero.1 h))
    have hb1 : (((digs (mk l1 8)).length : Int) == 0) = false := by rw [beq_eq_false_iff_ne]; omega
    have hb2 : ((digs (mk l1 8)).length == 0) = false := by rw [beq_eq_false_iff_ne]; omega
    have Z := Aside0.mk hz
    clear hz
    have HC : Aside0 (Calls Tryd.prog 51 #[v_x, (.slice A_y (digs (mk l1 8)).length c_y)] w3 (DivPost1 w3 ((mk l0 12) / (mk l1 8)) ((mk l0 12) % (mk l1 8)))) := ⟨divP (H_x.out.below B3.out) H_y.out (pw_lt1000 X_x.out (by omega)) (pw_lt1000 X_y.out (by omega)) (Z.out)⟩
    go_wp2_with fail
    refine HC.out.mono ?_
    clear HC
    rintro e w4 ⟨v_q, v_r, rfl, hN, hN2, hB⟩
    have B4 := Aside0.mk hB
    have T4 := Aside0.mk (T3.out.trans (hB.mono T3.out.size))
    have H_q := Aside0.mk hN
    have X_q := Aside0.mk (show (mk l0 12) / (mk l1 8) < pw 12 from Nat.lt_of_le_of_lt (Nat.div_le_self _ _) X_x.out)
    have H_r := Aside0.mk hN2
    have X_r := Aside0.mk (show (mk l0 12) % (mk l1 8) < pw 12 from Nat.lt_of_le_of_lt (Nat.mod_le _ _) X_x.out)
    clear hN hN2 hB
    have HC : Aside0 (Calls Tryd.prog 50 #[v_q, (.slice A_y (digs (mk l1 8)).length c_y)] w4 (NuPost w4 (((mk l0 12) / (mk l1 8)) * (mk l1 8)))) := ⟨rmulN H_q.out (H_y.out.below B4.out) (pw_lt1000 X_q.out (by omega)) (pw_lt1000 X_y.out (by omega))⟩
    go_wp2_with fail
    refine HC.out.mono ?_
    clear HC
    rintro e w5 ⟨v_m, rfl, hN, hB⟩
    have B5 := Aside0.mk hB
    have T5 := Aside0.mk (T4.out.trans (hB.mono T4.out.size))
    have H_m := Aside0.mk hN
    have X_m := Aside0.mk (show ((mk l0 12) / (mk l1 8)) * (mk l1 8) < pw 20 from pw_mulb X_q.out X_y.out)
    clear hN hB
    have HC : Aside0 (Calls Tryd.prog 49 #[v_m, v_r] w5 (NuPost w5 ((((mk l0 12) / (mk l1 8)) * (mk l1 8)) + ((mk l0 12) % (mk l1 8))))) := ⟨raddN H_m.out (H_r.out.below B5.out) (pw_lt1000 X_m.out (by omega)) (pw_lt1000 X_r.out (by omega))⟩
    go_wp2_with fail
    refine HC.out.mono ?_
    clear HC
    rintro e w6 ⟨v_a, rfl, hN, hB⟩
    have B6 := Aside0.mk hB
    have T6 := Aside0.mk (T5.out.trans (hB.mono T5.out.size))
    have H_a := Aside0.mk hN
    have X_a := Aside0.mk (show (((mk l0 12) / (mk l1 8)) * (mk l1 8)) + ((mk l0 12) % (mk l1 8)) < pw 21 from pw_addb X_m.out X_r.out (by omega) (by omega))
    clear hN hB
    have HC : Aside0 (Calls Tryd.prog 28 #[v_a, v_x] w6 (TruePost w6)) := ⟨sameN H_a.out ((((H_x.out.below B3.out).below B4.out).below B5.out).below B6.out) (pw_lt1000 X_a.out (by omega)) (by rw [Nat.mul_comm, Nat.div_add_mod])⟩
    go_wp2_with fail
    refine HC.out.mono ?_
    clear HC
    rintro e w7 ⟨rfl, hB⟩
    have B7 := Aside0.mk hB
    have T7 := Aside0.mk (T6.out.trans (hB.mono T6.out.size))
    clear hB
    have HC : Aside0 (Calls Tryd.prog 41 #[v_r, (.slice A_y (digs (mk l1 8)).length c_y)] w7 (IntPost w7 (-1))) := ⟨by have h := rcmpN (((H_r.out.below B5.out).below B6.out).below B7.out) ((((H_y.out.below B4.out).below B5.out).below B6.out).below B7.out) (pw_lt1000 X_r.out (by omega)) (pw_lt1000 X_y.out (by omega)); rw [cmpZ_lt (Nat.mod_lt _ (Nat.pos_of_ne_zero Z.out))] at h; exact h⟩
    go_wp2_with fail
    refine HC.out.mono ?_
    clear HC
    rintro e w8 ⟨rfl, hB⟩
    have B8 := Aside0.mk hB
    have T8 := Aside0.mk (T7.out.trans (hB.mono T7.out.size))
    clear hB
    have HC : Aside0 (Calls Tryd.prog 53 #[v_x, (.slice A_y (digs (mk l1 8)).length c_y)] w8 (NuPost w8 (Nat.gcd (mk l0 12) (mk l1 8)))) := ⟨gcdN ((((((H_x.out.below B3.out).below B4.out).below B5.out).below B6.out).below B7.out).below B8.out) (((((H_y.out.below B4.out).below B5.out).below B6.out).below B7.out).below B8.out) (pw_lt1000 X_x.out (by omega)) (pw_lt1000 X_y.out (by omega))⟩
    go_wp2_with fail
    refine HC.out.mono ?_
    clear HC
    rintro e w9 ⟨v_g, rfl, hN, hB⟩
    have B9 := Aside0.mk hB
    have T9 := Aside0.mk (T8.out.trans (hB.mono T8.out.size))
    have H_g := Aside0.mk hN
    have X_g := Aside0.mk (show Nat.gcd (mk l0 12) (mk l1 8) < pw 12 from gcd_ltb X_x.out X_y.out (by omega) (by omega))
    clear hN hB
    have GP := Aside0.mk (show Nat.gcd (mk l0 12) (mk l1 8) ≠ 0 from fun h => Z.out (Nat.eq_zero_of_gcd_eq_zero_right h))
    have HC : Aside0 (Calls Tryd.prog 52 #[v_x, v_g] w9 (DivPost1 w9 ((mk l0 12) / (Nat.gcd (mk l0 12) (mk l1 8))) ((mk l0 12) % (Nat.gcd (mk l0 12) (mk l1 8))))) := ⟨rdivP (((((((H_x.out.below B3.out).below B4.out).below B5.out).below B6.out).below B7.out).below B8.out).below B9.out) H_g.out (Nat.lt_of_lt_of_le X_x.out (pw_le (by omega))) (Nat.lt_of_lt_of_le X_g.out (pw_le (by omega))) (GP.out)⟩
    go_wp2_with fail
    refine HC.out.mono ?_
    clear HC
    rintro e w10 ⟨v_u, v_s, rfl, hN, hN2, hB⟩
    have B10 := Aside0.mk hB
    have T10 := Aside0.mk (T9.out.trans (hB.mono T9.out.size))
    have H_u := Aside0.mk hN
    have X_u := Aside0.mk (show (mk l0 12) / (Nat.gcd (mk l0 12) (mk l1 8)) < pw 12 from Nat.lt_of_le_of_lt (Nat.div_le_self _ _) X_x.out)
    have H_s := Aside0.mk hN2
    have X_s := Aside0.mk (show (mk l0 12) % (Nat.gcd (mk l0 12) (mk l1 8)) < pw 12 from Nat.lt_of_le_of_lt (Nat.mod_le _ _) X_x.out)
    clear hN hN2 hB
    have HC : Aside0 (Calls Tryd.prog 52 #[(.slice A_y (digs (mk l1 8)).length c_y), v_g] w10 (DivPost1 w10 ((mk l1 8) / (Nat.gcd (mk l0 12) (mk l1 8))) ((mk l1 8) % (Nat.gcd (mk l0 12) (mk l1 8))))) := ⟨rdivP (((((((H_y.out.below B4.out).below B5.out).below B6.out).below B7.out).below B8.out).below B9.out).below B10.out) (H_g.out.below B10.out) (Nat.lt_of_lt_of_le X_y.out (pw_le (by omega))) (Nat.lt_of_lt_of_le X_g.out (pw_le (by omega))) (GP.out)⟩
    go_wp2_with fail
    refine HC.out.mono ?_
    clear HC
    rintro e w11 ⟨v_w_, v_t, rfl, hN, hN2, hB⟩
    have B11 := Aside0.mk hB
    have T11 := Aside0.mk (T10.out.trans (hB.mono T10.out.size))
    have H_w_ := Aside0.mk hN
    have X_w_ := Aside0.mk (show (mk l1 8) / (Nat.gcd (mk l0 12) (mk l1 8)) < pw 8 from Nat.lt_of_le_of_lt (Nat.div_le_self _ _) X_y.out)
    have H_t := Aside0.mk hN2
    have X_t := Aside0.mk (show (mk l1 8) % (Nat.gcd (mk l0 12) (mk l1 8)) < pw 8 from Nat.lt_of_le_of_lt (Nat.mod_le _ _) X_y.out)
    clear hN hN2 hB
    obtain ⟨A_s, c_s, rfl, _, _⟩ := H_s.out
    obtain ⟨A_t, c_t, rfl, _, _⟩ := H_t.out
    have hs0 : (digs ((mk l0 12) % (Nat.gcd (mk l0 12) (mk l1 8)))).length = 0 := digs_length_zero.2 (Nat.mod_eq_zero_of_dvd (Nat.gcd_dvd_left _ _))
    have ht0 : (digs ((mk l1 8) % (Nat.gcd (mk l0 12) (mk l1 8)))).length = 0 := digs_length_zero.2 (Nat.mod_eq_zero_of_dvd (Nat.gcd_dvd_right _ _))
    have HC : Aside0 (Calls Tryd.prog 53 #[(.slice A_y (digs (mk l1 8)).length c_y), v_r] w11 (NuPost w11 (Nat.gcd (mk l1 8) ((mk l0 12) % (mk l1 8))))) := ⟨gcdN ((((((((H_y.out.below B4.out).below B5.out).below B6.out).below B7.out).below B8.out).below B9.out).below B10.out).below B11.out) (((((((H_r.out.below B5.out).below B6.out).below B7.out).below B8.out).below B9.out).below B10.out).below B11.out) (pw_lt1000 X_y.out (by omega)) (pw_lt1000 X_r.out (by omega))⟩
    go_wp2_with fail
    refine HC.out.mono ?_
    clear HC
    rintro e w12 ⟨v_g2, rfl, hN, hB⟩
    have B12 := Aside0.mk hB
    have T12 := Aside0.mk (T11.out.trans (hB.mono T11.out.size))
    have H_g2 := Aside0.mk hN
    have X_g2 := Aside0.mk (show Nat.gcd (mk l1 8) ((mk l0 12) % (mk l1 8)) < pw 12 from gcd_ltb X_y.out X_r.out (by omega) (by omega))
    clear hN hB
    have HC : Aside0 (Calls Tryd.prog 28 #[v_g2, v_g] w12 (TruePost w12)) := ⟨sameN H_g2.out (((H_g.out.below B10.out).below B11.out).below B12.out) (pw_lt1000 X_g2.out (by omega)) (gcd_step _ _)⟩
    go_wp2_with fail
    refine HC.out.mono ?_
    clear HC
    rintro e w13 ⟨rfl, hB⟩
    have B13 := Aside0.mk hB
    have T13 := Aside0.mk (T12.out.trans (hB.mono T12.out.size))
    clear hB
    go_wp2_with fail
    go_ret
    exact ⟨rfl, T13.out⟩
end Go.Proofs.YtklhpobphloehaaDoor.natParts
