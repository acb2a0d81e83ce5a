/- The law NatDivs: the walk through its calls, by their contracts; the row and its card. -/
import Derived.Test.YtklhpobphloehaaDoorB
import Derived.Test.YtklhpobphloehaaDoorG21
set_option linter.unusedVariables false
namespace Go.Proofs.YtklhpobphloehaaDoor.natDivs
open Go.RowKit
open Go.Proofs.YtklhpobphloehaaDoor.G Go.Proofs.YtklhpobphloehaaDoor.Nn Go.Proofs.YtklhpobphloehaaDoorW.PrintWords Go.Proofs.YtklhpobphloehaaDoorW.PrintLast

theorem gcd_ltb {x y a b c : Nat} (hx : x < pw a) (hy : y < pw b) (ha : a ≤ c) (hb : b ≤ c) : Nat.gcd x y < pw c := by
  rcases Nat.eq_zero_or_pos x with h | h
  · rw [h, Nat.gcd_zero_left]; exact Nat.lt_of_lt_of_le hy (pw_le hb)
  · exact Nat.lt_of_le_of_lt (Nat.gcd_le_left y h) (Nat.lt_of_lt_of_le hx (pw_le ha))
set_option maxHeartbeats 4000000 in
set_option maxRecDepth 100000 in
theorem walk (a0 : Option Addr) (c0 : Nat) (l0 : List Int) (a1 : Option Addr) (c1 : Nat) (l1 : List Int) (a2 : Bool) (w : World) (hr0 : CU w a0 l0.length l0) (hc0 : l0.length ≤ c0) (hL0 : Lim l0) (hr1 : CU w a1 l1.length l1) (hc1 : l1.length ≤ c1) (hL1 : Lim l1) :
    Calls Tryd.prog 10 #[.slice a0 l0.length c0, .slice a1 l1.length c1, .bool a2] w (TruePost w) := by
  have C0 := Aside0.mk hr0
  have S0 := Aside0.mk hc0
  have L0 := Aside0.mk hL0
  clear hr0 hc0 hL0
  have C1 := Aside0.mk hr1
  have S1 := Aside0.mk hc1
  have L1 := Aside0.mk hL1
  clear hr1 hc1 hL1
  go_enter Tryd.func10, Tryd.ntmps10
  have HC : Aside0 (Calls Tryd.prog 23 #[] w (TruePost w)) := ⟨known_w w⟩
  go_wp2_with fail
  refine HC.out.mono ?_
  clear HC
  rintro e w1 ⟨rfl, hB⟩
  have B1 := Aside0.mk hB
  have T1 := Aside0.mk (hB.mono (Nat.le_refl _))
  clear hB
  have HC : Aside0 (Calls Tryd.prog 24 #[.slice a0 l0.length c0, .int .i64 12] w1 (NuPost w1 (mk l0 12))) := ⟨makeN 12 (CU_below C0.out T1.out) S0.out L0.out (by decide)⟩
  go_wp2_with fail
  refine HC.out.mono ?_
  clear HC
  rintro e w2 ⟨v_x, rfl, hN, hB⟩
  have B2 := Aside0.mk hB
  have T2 := Aside0.mk (T1.out.trans (hB.mono T1.out.size))
  have H_x := Aside0.mk hN
  have X_x := Aside0.mk (show mk l0 12 < pw 12 from mk_lt L0.out 12)
  clear hN hB
  have HC : Aside0 (Calls Tryd.prog 24 #[.slice a1 l1.length c1, .int .i64 6] w2 (NuPost w2 (mk l1 6))) := ⟨makeN 6 (CU_below C1.out T2.out) S1.out L1.out (by decide)⟩
  go_wp2_with fail
  refine HC.out.mono ?_
  clear HC
  rintro e w3 ⟨v_y, rfl, hN, hB⟩
  have B3 := Aside0.mk hB
  have T3 := Aside0.mk (T2.out.trans (hB.mono T2.out.size))
  have H_y := Aside0.mk hN
  have X_y := Aside0.mk (show mk l1 6 < pw 6 from mk_lt L1.out 6)
  clear hN hB
  cases a2 with
  | false =>
    by_cases hz : (mk l1 6) = 0
    ·
      have Z := Aside0.mk hz
      clear hz
      have HC : Aside0 (Calls Tryd.prog 51 #[v_x, v_y] w3 (DivPost0 w3)) := ⟨divZ (H_x.out.below B3.out) H_y.out (pw_lt1000 X_x.out (by omega)) (pw_lt1000 X_y.out (by omega)) (Z.out)⟩
      go_wp2_with fail
      refine HC.out.mono ?_
      clear HC
      rintro e w4 ⟨v_q, v_r, rfl, hN, hN2, hB⟩
      have B4 := Aside0.mk hB
      have T4 := Aside0.mk (T3.out.trans (hB.mono T3.out.size))
      have H_q := Aside0.mk hN
      have X_q := Aside0.mk (show 0 < pw 1 from pw_pos 1)
      have H_r := Aside0.mk hN2
      have X_r := Aside0.mk (show 0 < pw 1 from pw_pos 1)
      clear hN hN2 hB
      have HC : Aside0 (Calls Tryd.prog 52 #[v_x, v_y] w4 (DivPost0 w4)) := ⟨rdivZ ((H_x.out.below B3.out).below B4.out) (H_y.out.below B4.out) (Nat.lt_of_lt_of_le X_x.out (pw_le (by omega))) (Nat.lt_of_lt_of_le X_y.out (pw_le (by omega))) (Z.out)⟩
      go_wp2_with fail
      refine HC.out.mono ?_
      clear HC
      rintro e w5 ⟨v_p, v_s, rfl, hN, hN2, hB⟩
      have B5 := Aside0.mk hB
      have T5 := Aside0.mk (T4.out.trans (hB.mono T4.out.size))
      have H_p := Aside0.mk hN
      have X_p := Aside0.mk (show 0 < pw 1 from pw_pos 1)
      have H_s := Aside0.mk hN2
      have X_s := Aside0.mk (show 0 < pw 1 from pw_pos 1)
      clear hN hN2 hB
      have HC : Aside0 (Calls Tryd.prog 28 #[v_q, v_p] w5 (TruePost w5)) := ⟨sameN (H_q.out.below B5.out) H_p.out (pw_lt1000 X_q.out (by omega)) (rfl)⟩
      go_wp2_with fail
      refine HC.out.mono ?_
      clear HC
      rintro e w6 ⟨rfl, hB⟩
      have B6 := Aside0.mk hB
      have T6 := Aside0.mk (T5.out.trans (hB.mono T5.out.size))
      clear hB
      have HC : Aside0 (Calls Tryd.prog 28 #[v_r, v_s] w6 (TruePost w6)) := ⟨sameN ((H_r.out.below B5.out).below B6.out) (H_s.out.below B6.out) (pw_lt1000 X_r.out (by omega)) (rfl)⟩
      go_wp2_with fail
      refine HC.out.mono ?_
      clear HC
      rintro e w7 ⟨rfl, hB⟩
      have B7 := Aside0.mk hB
      have T7 := Aside0.mk (T6.out.trans (hB.mono T6.out.size))
      clear hB
      have HC : Aside0 (Calls Tryd.prog 53 #[v_x, v_y] w7 (NuPost w7 (Nat.gcd (mk l0 12) (mk l1 6)))) := ⟨gcdN (((((H_x.out.below B3.out).below B4.out).below B5.out).below B6.out).below B7.out) ((((H_y.out.below B4.out).below B5.out).below B6.out).below B7.out) (pw_lt1000 X_x.out (by omega)) (pw_lt1000 X_y.out (by omega))⟩
      go_wp2_with fail
      refine HC.out.mono ?_
      clear HC
      rintro e w8 ⟨v_g1, rfl, hN, hB⟩
      have B8 := Aside0.mk hB
      have T8 := Aside0.mk (T7.out.trans (hB.mono T7.out.size))
      have H_g1 := Aside0.mk hN
      have X_g1 := Aside0.mk (show Nat.gcd (mk l0 12) (mk l1 6) < pw 12 from gcd_ltb X_x.out X_y.out (by omega) (by omega))
      clear hN hB
      have HC : Aside0 (Calls Tryd.prog 54 #[v_x, v_y] w8 (NuPost w8 (Nat.gcd (mk l0 12) (mk l1 6)))) := ⟨rgcdN ((((((H_x.out.below B3.out).below B4.out).below B5.out).below B6.out).below B7.out).below B8.out) (((((H_y.out.below B4.out).below B5.out).below B6.out).below B7.out).below B8.out) (Nat.lt_of_lt_of_le X_x.out (pw_le (by omega))) (Nat.lt_of_lt_of_le X_y.out (pw_le (by omega)))⟩
      go_wp2_with fail
      refine HC.out.mono ?_
      clear HC
      rintro e w9 ⟨v_g2, rfl, hN, hB⟩
      have B9 := Aside0.mk hB
      have T9 := Aside0.mk (T8.out.trans (hB.mono T8.out.size))
      have H_g2 := Aside0.mk hN
      have X_g2 := Aside0.mk (show Nat.gcd (mk l0 12) (mk l1 6) < pw 12 from gcd_ltb X_x.out X_y.out (by omega) (by omega))
      clear hN hB
      have HC : Aside0 (Calls Tryd.prog 28 #[v_g1, v_g2] w9 (TruePost w9)) := ⟨sameN (H_g1.out.below B9.out) H_g2.out (pw_lt1000 X_g1.out (by omega)) (rfl)⟩
      go_wp2_with fail
      refine HC.out.mono ?_
      clear HC
      rintro e w10 ⟨rfl, hB⟩
      have B10 := Aside0.mk hB
      have T10 := Aside0.mk (T9.out.trans (hB.mono T9.out.size))
      clear hB
      have HC : Aside0 (Calls Tryd.prog 53 #[v_y, v_x] w10 (NuPost w10 (Nat.gcd (mk l1 6) (mk l0 12)))) := ⟨gcdN (((((((H_y.out.below B4.out).below B5.out).below B6.out).below B7.out).below B8.out).below B9.out).below B10.out) ((((((((H_x.out.below B3.out).below B4.out).below B5.out).below B6.out).below B7.out).below B8.out).below B9.out).below B10.out) (pw_lt1000 X_y.out (by omega)) (pw_lt1000 X_x.out (by omega))⟩
      go_wp2_with fail
      refine HC.out.mono ?_
      clear HC
      rintro e w11 ⟨v_g3, rfl, hN, hB⟩
      have B11 := Aside0.mk hB
      have T11 := Aside0.mk (T10.out.trans (hB.mono T10.out.size))
      have H_g3 := Aside0.mk hN
      have X_g3 := Aside0.mk (show Nat.gcd (mk l1 6) (mk l0 12) < pw 12 from gcd_ltb X_y.out X_x.out (by omega) (by omega))
      clear hN hB
      have HC : Aside0 (Calls Tryd.prog 54 #[v_x, v_y] w11 (NuPost w11 (Nat.gcd (mk l0 12) (mk l1 6)))) := ⟨rgcdN (((((((((H_x.out.below B3.out).below B4.out).below B5.out).below B6.out).below B7.out).below B8.out).below B9.out).below B10.out).below B11.out) ((((((((H_y.out.below B4.out).below B5.out).below B6.out).below B7.out).below B8.out).below B9.out).below B10.out).below B11.out) (Nat.lt_of_lt_of_le X_x.out (pw_le (by omega))) (Nat.lt_of_lt_of_le X_y.out (pw_le (by omega)))⟩
      go_wp2_with fail
      refine HC.out.mono ?_
      clear HC
      rintro e w12 ⟨v_g4, rfl, hN, hB⟩
      have B12 := Aside0.mk hB
      have T12 := Aside0.mk (T11.out.trans (hB.mono T11.out.size))
      have H_g4 := Aside0.mk hN
      have X_g4 := Aside0.mk (show Nat.gcd (mk l0 12) (mk l1 6) < pw 12 from gcd_ltb X_x.out X_y.out (by omega) (by omega))
      clear hN hB
      have HC : Aside0 (Calls Tryd.prog 28 #[v_g3, v_g4] w12 (TruePost w12)) := ⟨sameN (H_g3.out.below B12.out) H_g4.out (pw_lt1000 X_g3.out (by omega)) (Nat.gcd_comm _ _)⟩
      go_wp2_with fail
      refine HC.out.mono ?_
      clear HC
      rintro e w13 ⟨rfl, hB⟩
      have B13 := Aside0.mk hB
      have T13 := Aside0.mk (T12.out.trans (hB.mono T12.out.size))
      clear hB
      go_wp2_with fail
      go_ret
      exact ⟨rfl, T13.out⟩
    ·
      have Z := Aside0.mk hz
      clear hz
      have HC : Aside0 (Calls Tryd.prog 51 #[v_x, v_y] w3 (DivPost1 w3 ((mk l0 12) / (mk l1 6)) ((mk l0 12) % (mk l1 6)))) := ⟨divP (H_x.out.below B3.out) H_y.out (pw_lt1000 X_x.out (by omega)) (pw_lt1000 X_y.out (by omega)) (Z.out)⟩
      go_wp2_with fail
      refine HC.out.mono ?_
      clear HC
      rintro e w4 ⟨v_q, v_r, rfl, hN, hN2, hB⟩
      have B4 := Aside0.mk hB
      have T4 := Aside0.mk (T3.out.trans (hB.mono T3.out.size))
      have H_q := Aside0.mk hN
      have X_q := Aside0.mk (show (mk l0 12) / (mk l1 6) < pw 12 from Nat.lt_of_le_of_lt (Nat.div_le_self _ _) X_x.out)
      have H_r := Aside0.mk hN2
      have X_r := Aside0.mk (show (mk l0 12) % (mk l1 6) < pw 12 from Nat.lt_of_le_of_lt (Nat.mod_le _ _) X_x.out)
      clear hN hN2 hB
      have HC : Aside0 (Calls Tryd.prog 52 #[v_x, v_y] w4 (DivPost1 w4 ((mk l0 12) / (mk l1 6)) ((mk l0 12) % (mk l1 6)))) := ⟨rdivP ((H_x.out.below B3.out).below B4.out) (H_y.out.below B4.out) (Nat.lt_of_lt_of_le X_x.out (pw_le (by omega))) (Nat.lt_of_lt_of_le X_y.out (pw_le (by omega))) (Z.out)⟩
      go_wp2_with fail
      refine HC.out.mono ?_
      clear HC
      rintro e w5 ⟨v_p, v_s, rfl, hN, hN2, hB⟩
      have B5 := Aside0.mk hB
      have T5 := Aside0.mk (T4.out.trans (hB.mono T4.out.size))
      have H_p := Aside0.mk hN
      have X_p := Aside0.mk (show (mk l0 12) / (mk l1 6) < pw 12 from Nat.lt_of_le_of_lt (Nat.div_le_self _ _) X_x.out)
      have H_s := Aside0.mk hN2
      have X_s := Aside0.mk (show (mk l0 12) % (mk l1 6) < pw 12 from Nat.lt_of_le_of_lt (Nat.mod_le _ _) X_x.out)
      clear hN hN2 hB
      have HC : Aside0 (Calls Tryd.prog 28 #[v_q, v_p] w5 (TruePost w5)) := ⟨sameN (H_q.out.below B5.out) H_p.out (pw_lt1000 X_q.out (by omega)) (rfl)⟩
      go_wp2_with fail
      refine HC.out.mono ?_
      clear HC
      rintro e w6 ⟨rfl, hB⟩
      have B6 := Aside0.mk hB
      have T6 := Aside0.mk (T5.out.trans (hB.mono T5.out.size))
      clear hB
      have HC : Aside0 (Calls Tryd.prog 28 #[v_r, v_s] w6 (TruePost w6)) := ⟨sameN ((H_r.out.below B5.out).below B6.out) (H_s.out.below B6.out) (pw_lt1000 X_r.out (by omega)) (rfl)⟩
      go_wp2_with fail
      refine HC.out.mono ?_
      clear HC
      rintro e w7 ⟨rfl, hB⟩
      have B7 := Aside0.mk hB
      have T7 := Aside0.mk (T6.out.trans (hB.mono T6.out.size))
      clear hB
      have HC : Aside0 (Calls Tryd.prog 53 #[v_x, v_y] w7 (NuPost w7 (Nat.gcd (mk l0 12) (mk l1 6)))) := ⟨gcdN (((((H_x.out.below B3.out).below B4.out).below B5.out).below B6.out).below B7.out) ((((H_y.out.below B4.out).below B5.out).below B6.out).below B7.out) (pw_lt1000 X_x.out (by omega)) (pw_lt1000 X_y.out (by omega))⟩
      go_wp2_with fail
      refine HC.out.mono ?_
      clear HC
      rintro e w8 ⟨v_g1, rfl, hN, hB⟩
      have B8 := Aside0.mk hB
      have T8 := Aside0.mk (T7.out.trans (hB.mono T7.out.size))
      have H_g1 := Aside0.mk hN
      have X_g1 := Aside0.mk (show Nat.gcd (mk l0 12) (mk l1 6) < pw 12 from gcd_ltb X_x.out X_y.out (by omega) (by omega))
      clear hN hB
      have HC : Aside0 (Calls Tryd.prog 54 #[v_x, v_y] w8 (NuPost w8 (Nat.gcd (mk l0 12) (mk l1 6)))) := ⟨rgcdN ((((((H_x.out.below B3.out).below B4.out).below B5.out).below B6.out).below B7.out).below B8.out) (((((H_y.out.below B4.out).below B5.out).below B6.out).below B7.out).below B8.out) (Nat.lt_of_lt_of_le X_x.out (pw_le (by omega))) (Nat.lt_of_lt_of_le X_y.out (pw_le (by omega)))⟩
      go_wp2_with fail
      refine HC.out.mono ?_
      clear HC
      rintro e w9 ⟨v_g2, rfl, hN, hB⟩
      have B9 := Aside0.mk hB
      have T9 := Aside0.mk (T8.out.trans (hB.mono T8.out.size))
      have H_g2 := Aside0.mk hN
      have X_g2 := Aside0.mk (show Nat.gcd (mk l0 12) (mk l1 6) < pw 12 from gcd_ltb X_x.out X_y.out (by omega) (by omega))
      clear hN hB
      have HC : Aside0 (Calls Tryd.prog 28 #[v_g1, v_g2] w9 (TruePost w9)) := ⟨sameN (H_g1.out.below B9.out) H_g2.out (pw_lt1000 X_g1.out (by omega)) (rfl)⟩
      go_wp2_with fail
      refine HC.out.mono ?_
      clear HC
      rintro e w10 ⟨rfl, hB⟩
      have B10 := Aside0.mk hB
      have T10 := Aside0.mk (T9.out.trans (hB.mono T9.out.size))
      clear hB
      have HC : Aside0 (Calls Tryd.prog 53 #[v_y, v_x] w10 (NuPost w10 (Nat.gcd (mk l1 6) (mk l0 12)))) := ⟨gcdN (((((((H_y.out.below B4.out).below B5.out).below B6.out).below B7.out).below B8.out).below B9.out).below B10.out) ((((((((H_x.out.below B3.out).below B4.out).below B5.out).below B6.out).below B7.out).below B8.out).below B9.out).below B10.out) (pw_lt1000 X_y.out (by omega)) (pw_lt1000 X_x.out (by omega))⟩
      go_wp2_with fail
      refine HC.out.mono ?_
      clear HC
      rintro e w11 ⟨v_g3, rfl, hN, hB⟩
      have B11 := Aside0.mk hB
      have T11 := Aside0.mk (T10.out.trans (hB.mono T10.out.size))
      have H_g3 := Aside0.mk hN
      have X_g3 := Aside0.mk (show Nat.gcd (mk l1 6) (mk l0 12) < pw 12 from gcd_ltb X_y.out X_x.out (by omega) (by omega))
      clear hN hB
      have HC : Aside0 (Calls Tryd.prog 54 #[v_x, v_y] w11 (NuPost w11 (Nat.gcd (mk l0 12) (mk l1 6)))) := ⟨rgcdN (((((((((H_x.out.below B3.out).below B4.out).below B5.out).below B6.out).below B7.out).below B8.out).below B9.out).below B10.out).below B11.out) ((((((((H_y.out.below B4.out).below B5.out).below B6.out).below B7.out).below B8.out).below B9.out).below B10.out).below B11.out) (Nat.lt_of_lt_of_le X_x.out (pw_le (by omega))) (Nat.lt_of_lt_of_le X_y.out (pw_le (by omega)))⟩
      go_wp2_with fail
      refine HC.out.mono ?_
      clear HC
      rintro e w12 ⟨v_g4, rfl, hN, hB⟩
      have B12 := Aside0.mk hB
      have T12 := Aside0.mk (T11.out.trans (hB.mono T11.out.size))
      have H_g4 := Aside0.mk hN
      have X_g4 := Aside0.mk (show Nat.gcd (mk l0 12) (mk l1 6) < pw 12 from gcd_ltb X_x.out X_y.out (by omega) (by omega))
      clear hN hB
      have HC : Aside0 (Calls Tryd.prog 28 #[v_g3, v_g4] w12 (TruePost w12)) := ⟨sameN (H_g3.out.below B12.out) H_g4.out (pw_lt1000 X_g3.out (by omega)) (Nat.gcd_comm _ _)⟩
      go_wp2_with fail
      refine HC.out.mono ?_
      clear HC
      rintro e w13 ⟨rfl, hB⟩
      have B13 := Aside0.mk hB
      have T13 := Aside0.mk (T12.out.trans (hB.mono T12.out.size))
      clear hB
      go_wp2_with fail
      go_ret
      exact ⟨rfl, T13.out⟩
  | true =>
    have HC : Aside0 (Calls Tryd.prog 50 #[v_x, v_y] w3 (NuPost w3 ((mk l0 12) * (mk l1 6)))) := ⟨rmulN (H_x.out.below B3.out) H_y.out (pw_lt1000 X_x.out (by omega)) (pw_lt1000 X_y.out (by omega))⟩
    go_wp2_with fail
    refine HC.out.mono ?_
    clear HC
    rintro e w4 ⟨v_m0, rfl, hN, hB⟩
    have B4 := Aside0.mk hB
    have T4 := Aside0.mk (T3.out.trans (hB.mono T3.out.size))
    have H_m0 := Aside0.mk hN
    have X_m0 := Aside0.mk (show (mk l0 12) * (mk l1 6) < pw 18 from pw_mulb X_x.out X_y.out)
    clear hN hB
    have HC : Aside0 (Calls Tryd.prog 34 #[v_y, .int .i64 1] w4 (NuPost w4 ((mk l1 6) / 2 ^ 1))) := ⟨rshrN (H_y.out.below B4.out) (pw_lt1000 X_y.out (by omega)) 1 (by decide)⟩
    go_wp2_with fail
    refine HC.out.mono ?_
    clear HC
    rintro e w5 ⟨v_h0, rfl, hN, hB⟩
    have B5 := Aside0.mk hB
    have T5 := Aside0.mk (T4.out.trans (hB.mono T4.out.size))
    have H_h0 := Aside0.mk hN
    have X_h0 := Aside0.mk (show (mk l1 6) / 2 ^ 1 < pw 6 from Nat.lt_of_le_of_lt (Nat.div_le_self _ _) X_y.out)
    clear hN hB
    have HC : Aside0 (Calls Tryd.prog 49 #[v_m0, v_h0] w5 (NuPost w5 (((mk l0 12) * (mk l1 6)) + ((mk l1 6) / 2 ^ 1)))) := ⟨raddN (H_m0.out.below B5.out) H_h0.out (pw_lt1000 X_m0.out (by omega)) (pw_lt1000 X_h0.out (by omega))⟩
    go_wp2_with fail
    refine HC.out.mono ?_
    clear HC
    rintro e w6 ⟨v_x2, rfl, hN, hB⟩
    have B6 := Aside0.mk hB
    have T6 := Aside0.mk (T5.out.trans (hB.mono T5.out.size))
    have H_x2 := Aside0.mk hN
    have X_x2 := Aside0.mk (show ((mk l0 12) * (mk l1 6)) + ((mk l1 6) / 2 ^ 1) < pw 19 from pw_addb X_m0.out X_h0.out (by omega) (by omega))
    clear hN hB
    by_cases hz : (mk l1 6) = 0
    ·
      have Z := Aside0.mk hz
      clear hz
      have HC : Aside0 (Calls Tryd.prog 51 #[v_x2, v_y] w6 (DivPost0 w6)) := ⟨divZ H_x2.out (((H_y.out.below B4.out).below B5.out).below B6.out) (pw_lt1000 X_x2.out (by omega)) (pw_lt1000 X_y.out (by omega)) (Z.out)⟩
      go_wp2_with fail
      refine HC.out.mono ?_
      clear HC
      rintro e w7 ⟨v_q, v_r, rfl, hN, hN2, hB⟩
      have B7 := Aside0.mk hB
      have T7 := Aside0.mk (T6.out.trans (hB.mono T6.out.size))
      have H_q := Aside0.mk hN
      have X_q := Aside0.mk (show 0 < pw 1 from pw_pos 1)
      have H_r := Aside0.mk hN2
      have X_r := Aside0.mk (show 0 < pw 1 from pw_pos 1)
      clear hN hN2 hB
      have HC : Aside0 (Calls Tryd.prog 52 #[v_x2, v_y] w7 (DivPost0 w7)) := ⟨rdivZ (H_x2.out.below B7.out) ((((H_y.out.below B4.out).below B5.out).below B6.out).below B7.out) (Nat.lt_of_lt_of_le X_x2.out (pw_le (by omega))) (Nat.lt_of_lt_of_le X_y.out (pw_le (by omega))) (Z.out)⟩
      go_wp2_with fail
      refine HC.out.mono ?_
      clear HC
      rintro e w8 ⟨v_p, v_s, rfl, hN, hN2, hB⟩
      have B8 := Aside0.mk hB
      have T8 := Aside0.mk (T7.out.trans (hB.mono T7.out.size))
      have H_p := Aside0.mk hN
      have X_p := Aside0.mk (show 0 < pw 1 from pw_pos 1)
      have H_s := Aside0.mk hN2
      have X_s := Aside0.mk (show 0 < pw 1 from pw_pos 1)
      clear hN hN2 hB
      have HC : Aside0 (Calls Tryd.prog 28 #[v_q, v_p] w8 (TruePost w8)) := ⟨sameN (H_q.out.below B8.out) H_p.out (pw_lt1000 X_q.out (by omega)) (rfl)⟩
      go_wp2_with fail
      refine HC.out.mono ?_
      clear HC
      rintro e w9 ⟨rfl, hB⟩
      have B9 := Aside0.mk hB
      have T9 := Aside0.mk (T8.out.trans (hB.mono T8.out.size))
      clear hB
      have HC : Aside0 (Calls Tryd.prog 28 #[v_r, v_s] w9 (TruePost w9)) := ⟨sameN ((H_r.out.below B8.out).below B9.out) (H_s.out.below B9.out) (pw_lt1000 X_r.out (by omega)) (rfl)⟩
      go_wp2_with fail
      refine HC.out.mono ?_
      clear HC
      rintro e w10 ⟨rfl, hB⟩
      have B10 := Aside0.mk hB
      have T10 := Aside0.mk (T9.out.trans (hB.mono T9.out.size))
      clear hB
      have HC : Aside0 (Calls Tryd.prog 53 #[v_x2, v_y] w10 (NuPost w10 (Nat.gcd (((mk l0 12) * (mk l1 6)) + ((mk l1 6) / 2 ^ 1)) (mk l1 6)))) := ⟨gcdN ((((H_x2.out.below B7.out).below B8.out).below B9.out).below B10.out) (((((((H_y.out.below B4.out).below B5.out).below B6.out).below B7.out).below B8.out).below B9.out).below B10.out) (pw_lt1000 X_x2.out (by omega)) (pw_lt1000 X_y.out (by omega))⟩
      go_wp2_with fail
      refine HC.out.mono ?_
      clear HC
      rintro e w11 ⟨v_g1, rfl, hN, hB⟩
      have B11 := Aside0.mk hB
      have T11 := Aside0.mk (T10.out.trans (hB.mono T10.out.size))
      have H_g1 := Aside0.mk hN
      have X_g1 := Aside0.mk (show Nat.gcd (((mk l0 12) * (mk l1 6)) + ((mk l1 6) / 2 ^ 1)) (mk l1 6) < pw 19 from gcd_ltb X_x2.out X_y.out (by omega) (by omega))
      clear hN hB
      have HC : Aside0 (Calls Tryd.prog 54 #[v_x2, v_y] w11 (NuPost w11 (Nat.gcd (((mk l0 12) * (mk l1 6)) + ((mk l1 6) / 2 ^ 1)) (mk l1 6)))) := ⟨rgcdN (((((H_x2.out.below B7.out).below B8.out).below B9.out).below B10.out).below B11.out) ((((((((H_y.out.below B4.out).below B5.out).below B6.out).below B7.out).below B8.out).below B9.out).below B10.out).below B11.out) (Nat.lt_of_lt_of_le X_x2.out (pw_le (by omega))) (Nat.lt_of_lt_of_le X_y.out (pw_le (by omega)))⟩
      go_wp2_with fail
      refine HC.out.mono ?_
      clear HC
      rintro e w12 ⟨v_g2, rfl, hN, hB⟩
      have B12 := Aside0.mk hB
      have T12 := Aside0.mk (T11.out.trans (hB.mono T11.out.size))
      have H_g2 := Aside0.mk hN
      have X_g2 := Aside0.mk (show Nat.gcd (((mk l0 12) * (mk l1 6)) + ((mk l1 6) / 2 ^ 1)) (mk l1 6) < pw 19 from gcd_ltb X_x2.out X_y.out (by omega) (by omega))
      clear hN hB
      have HC : Aside0 (Calls Tryd.prog 28 #[v_g1, v_g2] w12 (TruePost w12)) := ⟨sameN (H_g1.out.below B12.out) H_g2.out (pw_lt1000 X_g1.out (by omega)) (rfl)⟩
      go_wp2_with fail
      refine HC.out.mono ?_
      clear HC
      rintro e w13 ⟨rfl, hB⟩
      have B13 := Aside0.mk hB
      have T13 := Aside0.mk (T12.out.trans (hB.mono T12.out.size))
      clear hB
      have HC : Aside0 (Calls Tryd.prog 53 #[v_y, v_x2] w13 (NuPost w13 (Nat.gcd (mk l1 6) (((mk l0 12) * (mk l1 6)) + ((mk l1 6) / 2 ^ 1))))) := ⟨gcdN ((((((((((H_y.out.below B4.out).below B5.out).below B6.out).below B7.out).below B8.out).below B9.out).below B10.out).below B11.out).below B12.out).below B13.out) (((((((H_x2.out.below B7.out).below B8.out).below B9.out).below B10.out).below B11.out).below B12.out).below B13.out) (pw_lt1000 X_y.out (by omega)) (pw_lt1000 X_x2.out (by omega))⟩
      go_wp2_with fail
      refine HC.out.mono ?_
      clear HC
      rintro e w14 ⟨v_g3, rfl, hN, hB⟩
      have B14 := Aside0.mk hB
      have T14 := Aside0.mk (T13.out.trans (hB.mono T13.out.size))
      have H_g3 := Aside0.mk hN
      have X_g3 := Aside0.mk (show Nat.gcd (mk l1 6) (((mk l0 12) * (mk l1 6)) + ((mk l1 6) / 2 ^ 1)) < pw 19 from gcd_ltb X_y.out X_x2.out (by omega) (by omega))
      clear hN hB
      have HC : Aside0 (Calls Tryd.prog 54 #[v_x2, v_y] w14 (NuPost w14 (Nat.gcd (((mk l0 12) * (mk l1 6)) + ((mk l1 6) / 2 ^ 1)) (mk l1 6)))) := ⟨rgcdN ((((((((H_x2.out.below B7.out).below B8.out).below B9.out).below B10.out).below B11.out).below B12.out).below B13.out).below B14.out) (((((((((((H_y.out.below B4.out).below B5.out).below B6.out).below B7.out).below B8.out).below B9.out).below B10.out).below B11.out).below B12.out).below B13.out).below B14.out) (Nat.lt_of_lt_of_le X_x2.out (pw_le (by omega))) (Nat.lt_of_lt_of_le X_y.out (pw_le (by omega)))⟩
      go_wp2_with fail
      refine HC.out.mono ?_
      clear HC
      rintro e w15 ⟨v_g4, rfl, hN, hB⟩
      have B15 := Aside0.mk hB
      have T15 := Aside0.mk (T14.out.trans (hB.mono T14.out.size))
      have H_g4 := Aside0.mk hN
      have X_g4 := Aside0.mk (show Nat.gcd (((mk l0 12) * (mk l1 6)) + ((mk l1 6) / 2 ^ 1)) (mk l1 6) < pw 19 from gcd_ltb X_x2.out X_y.out (by omega) (by omega))
      clear hN hB
      have HC : Aside0 (Calls Tryd.prog 28 #[v_g3, v_g4] w15 (TruePost w15)) := ⟨sameN (H_g3.out.below B15.out) H_g4.out (pw_lt1000 X_g3.out (by omega)) (Nat.gcd_comm _ _)⟩
      go_wp2_with fail
      refine HC.out.mono ?_
      clear HC
      rintro e w16 ⟨rfl, hB⟩
      have B16 := Aside0.mk hB
      have T16 := Aside0.mk (T15.out.trans (hB.mono T15.out.size))
      clear hB
      go_wp2_with fail
      go_ret
      exact ⟨rfl, T16.out⟩
    ·
      have Z := Aside0.mk hz
      clear hz
      have HC : Aside0 (Calls Tryd.prog 51 #[v_x2, v_y] w6 (DivPost1 w6 ((((mk l0 12) * (mk l1 6)) + ((mk l1 6) / 2 ^ 1)) / (mk l1 6)) ((((mk l0 12) * (mk l1 6)) + ((mk l1 6) / 2 ^ 1)) % (mk l1 6)))) := ⟨divP H_x2.out (((H_y.out.below B4.out).below B5.out).below B6.out) (pw_lt1000 X_x2.out (by omega)) (pw_lt1000 X_y.out (by omega)) (Z.out)⟩
      go_wp2_with fail
      refine HC.out.mono ?_
      clear HC
      rintro e w7 ⟨v_q, v_r, rfl, hN, hN2, hB⟩
      have B7 := Aside0.mk hB
      have T7 := Aside0.mk (T6.out.trans (hB.mono T6.out.size))
      have H_q := Aside0.mk hN
      have X_q := Aside0.mk (show (((mk l0 12) * (mk l1 6)) + ((mk l1 6) / 2 ^ 1)) / (mk l1 6) < pw 19 from Nat.lt_of_le_of_lt (Nat.div_le_self _ _) X_x2.out)
      have H_r := Aside0.mk hN2
      have X_r := Aside0.mk (show (((mk l0 12) * (mk l1 6)) + ((mk l1 6) / 2 ^ 1)) % (mk l1 6) < pw 19 from Nat.lt_of_le_of_lt (Nat.mod_le _ _) X_x2.out)
      clear hN hN2 hB
      have HC : Aside0 (Calls Tryd.prog 52 #[v_x2, v_y] w7 (DivPost1 w7 ((((mk l0 12) * (mk l1 6)) + ((mk l1 6) / 2 ^ 1)) / (mk l1 6)) ((((mk l0 12) * (mk l1 6)) + ((mk l1 6) / 2 ^ 1)) % (mk l1 6)))) := ⟨rdivP (H_x2.out.below B7.out) ((((H_y.out.below B4.out).below B5.out).below B6.out).below B7.out) (Nat.lt_of_lt_of_le X_x2.out (pw_le (by omega))) (Nat.lt_of_lt_of_le X_y.out (pw_le (by omega))) (Z.out)⟩
      go_wp2_with fail
      refine HC.out.mono ?_
      clear HC
      rintro e w8 ⟨v_p, v_s, rfl, hN, hN2, hB⟩
      have B8 := Aside0.mk hB
      have T8 := Aside0.mk (T7.out.trans (hB.mono T7.out.size))
      have H_p := Aside0.mk hN
      have X_p := Aside0.mk (show (((mk l0 12) * (mk l1 6)) + ((mk l1 6) / 2 ^ 1)) / (mk l1 6) < pw 19 from Nat.lt_of_le_of_lt (Nat.div_le_self _ _) X_x2.out)
      have H_s := Aside0.mk hN2
      have X_s := Aside0.mk (show (((mk l0 12) * (mk l1 6)) + ((mk l1 6) / 2 ^ 1)) % (mk l1 6) < pw 19 from Nat.lt_of_le_of_lt (Nat.mod_le _ _) X_x2.out)
      clear hN hN2 hB
      have HC : Aside0 (Calls Tryd.prog 28 #[v_q, v_p] w8 (TruePost w8)) := ⟨sameN (H_q.out.below B8.out) H_p.out (pw_lt1000 X_q.out (by omega)) (rfl)⟩
      go_wp2_with fail
      refine HC.out.mono ?_
      clear HC
      rintro e w9 ⟨rfl, hB⟩
      have B9 := Aside0.mk hB
      have T9 := Aside0.mk (T8.out.trans (hB.mono T8.out.size))
      clear hB
      have HC : Aside0 (Calls Tryd.prog 28 #[v_r, v_s] w9 (TruePost w9)) := ⟨sameN ((H_r.out.below B8.out).below B9.out) (H_s.out.below B9.out) (pw_lt1000 X_r.out (by omega)) (rfl)⟩
      go_wp2_with fail
      refine HC.out.mono ?_
      clear HC
      rintro e w10 ⟨rfl, hB⟩
      have B10 := Aside0.mk hB
      have T10 := Aside0.mk (T9.out.trans (hB.mono T9.out.size))
      clear hB
      have HC : Aside0 (Calls Tryd.prog 53 #[v_x2, v_y] w10 (NuPost w10 (Nat.gcd (((mk l0 12) * (mk l1 6)) + ((mk l1 6) / 2 ^ 1)) (mk l1 6)))) := ⟨gcdN ((((H_x2.out.below B7.out).below B8.out).below B9.out).below B10.out) (((((((H_y.out.below B4.out).below B5.out).below B6.out).below B7.out).below B8.out).below B9.out).below B10.out) (pw_lt1000 X_x2.out (by omega)) (pw_lt1000 X_y.out (by omega))⟩
      go_wp2_with fail
      refine HC.out.mono ?_
      clear HC
      rintro e w11 ⟨v_g1, rfl, hN, hB⟩
      have B11 := Aside0.mk hB
      have T11 := Aside0.mk (T10.out.trans (hB.mono T10.out.size))
      have H_g1 := Aside0.mk hN
      have X_g1 := Aside0.mk (show Nat.gcd (((mk l0 12) * (mk l1 6)) + ((mk l1 6) / 2 ^ 1)) (mk l1 6) < pw 19 from gcd_ltb X_x2.out X_y.out (by omega) (by omega))
      clear hN hB
      have HC : Aside0 (Calls Tryd.prog 54 #[v_x2, v_y] w11 (NuPost w11 (Nat.gcd (((mk l0 12) * (mk l1 6)) + ((mk l1 6) / 2 ^ 1)) (mk l1 6)))) := ⟨rgcdN (((((H_x2.out.below B7.out).below B8.out).below B9.out).below B10.out).below B11.out) ((((((((H_y.out.below B4.out).below B5.out).below B6.out).below B7.out).below B8.out).below B9.out).below B10.out).below B11.out) (Nat.lt_of_lt_of_le X_x2.out (pw_le (by omega))) (Nat.lt_of_lt_of_le X_y.out (pw_le (by omega)))⟩
      go_wp2_with fail
      refine HC.out.mono ?_
      clear HC
      rintro e w12 ⟨v_g2, rfl, hN, hB⟩
      have B12 := Aside0.mk hB
      have T12 := Aside0.mk (T11.out.trans (hB.mono T11.out.size))
      have H_g2 := Aside0.mk hN
      have X_g2 := Aside0.mk (show Nat.gcd (((mk l0 12) * (mk l1 6)) + ((mk l1 6) / 2 ^ 1)) (mk l1 6) < pw 19 from gcd_ltb X_x2.out X_y.out (by omega) (by omega))
      clear hN hB
      have HC : Aside0 (Calls Tryd.prog 28 #[v_g1, v_g2] w12 (TruePost w12)) := ⟨sameN (H_g1.out.below B12.out) H_g2.out (pw_lt1000 X_g1.out (by omega)) (rfl)⟩
      go_wp2_with fail
      refine HC.out.mono ?_
      clear HC
      rintro e w13 ⟨rfl, hB⟩
      have B13 := Aside0.mk hB
      have T13 := Aside0.mk (T12.out.trans (hB.mono T12.out.size))
      clear hB
      have HC : Aside0 (Calls Tryd.prog 53 #[v_y, v_x2] w13 (NuPost w13 (Nat.gcd (mk l1 6) (((mk l0 12) * (mk l1 6)) + ((mk l1 6) / 2 ^ 1))))) := ⟨gcdN ((((((((((H_y.out.below B4.out).below B5.out).below B6.out).below B7.out).below B8.out).below B9.out).below B10.out).below B11.out).below B12.out).below B13.out) (((((((H_x2.out.below B7.out).below B8.out).below B9.out).below B10.out).below B11.out).below B12.out).below B13.out) (pw_lt1000 X_y.out (by omega)) (pw_lt1000 X_x2.out (by omega))⟩
      go_wp2_with fail
      refine HC.out.mono ?_
      clear HC
      rintro e w14 ⟨v_g3, rfl, hN, hB⟩
      have B14 := Aside0.mk hB
      have T14 := Aside0.mk (T13.out.trans (hB.mono T13.out.size))
      have H_g3 := Aside0.mk hN
      have X_g3 := Aside0.mk (show Nat.gcd (mk l1 6) (((mk l0 12) * (mk l1 6)) + ((mk l1 6) / 2 ^ 1)) < pw 19 from gcd_ltb X_y.out X_x2.out (by omega) (by omega))
      clear hN hB
      have HC : Aside0 (Calls Tryd.prog 54 #[v_x2, v_y] w14 (NuPost w14 (Nat.gcd (((mk l0 12) * (mk l1 6)) + ((mk l1 6) / 2 ^ 1)) (mk l1 6)))) := ⟨rgcdN ((((((((H_x2.out.below B7.out).below B8.out).below B9.out).below B10.out).below B11.out).below B12.out).below B13.out).below B14.out) (((((((((((H_y.out.below B4.out).below B5.out).below B6.out).below B7.out).below B8.out).below B9.out).below B10.out).below B11.out).below B12.out).below B13.out).below B14.out) (Nat.lt_of_lt_of_le X_x2.out (pw_le (by omega))) (Nat.lt_of_lt_of_le X_y.out (pw_le (by omega)))⟩
      go_wp2_with fail
      refine HC.out.mono ?_
      clear HC
      rintro e w15 ⟨v_g4, rfl, hN, hB⟩
      have B15 := Aside0.mk hB
      have T15 := Aside0.mk (T14.out.trans (hB.mono T14.out.size))
      have H_g4 := Aside0.mk hN
      have X_g4 := Aside0.mk (show Nat.gcd (((mk l0 12) * (mk l1 6)) + ((mk l1 6) / 2 ^ 1)) (mk l1 6) < pw 19 from gcd_ltb X_x2.out X_y.out (by omega) (by omega))
      clear hN hB
      have HC : Aside0 (Calls Tryd.prog 28 #[v_g3, v_g4] w15 (TruePost w15)) := ⟨sameN (H_g3.out.below B15.out) H_g4.out (pw_lt1000 X_g3.out (by omega)) (Nat.gcd_comm _ _)⟩
      go_wp2_with fail
      refine HC.out.mono ?_
      clear HC
      rintro e w16 ⟨rfl, hB⟩
      have B16 := Aside0.mk hB
      have T16 := Aside0.mk (T15.out.trans (hB.mono T15.out.size))
      clear hB
      go_wp2_with fail
      go_ret
      exact ⟨rfl, T16.out⟩
end Go.Proofs.YtklhpobphloehaaDoor.natDivs
