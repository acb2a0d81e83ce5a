/- The law NatGcds: the walk through its calls, by their contracts; the row and its card. -/
import Derived.Test.YtklhpobphloehaaDoorB
import Derived.Test.YtklhpobphloehaaDoorG21
set_option linter.unusedVariables false
namespace Go.Proofs.YtklhpobphloehaaDoor.natGcds
open Go.RowKit
open Go.Proofs.YtklhpobphloehaaDoor.G Go.Proofs.YtklhpobphloehaaDoor.Nn Go.Proofs.YtklhpobphloehaaDoorW.PrintWords Go.Proofs.YtklhpobphloehaaDoorW.PrintLast

theorem gcd_ltb {x y a b c : Nat} (hx : x < pw a) (hy : y < pw b) (ha : a ≤ c) (hb : b ≤ c) : Nat.gcd x y < pw c := by
  rcases Nat.eq_zero_or_pos x with h | h
  · rw [h, Nat.gcd_zero_left]; exact Nat.lt_of_lt_of_le hy (pw_le hb)
  · exact Nat.lt_of_le_of_lt (Nat.gcd_le_left y h) (Nat.lt_of_lt_of_le hx (pw_le ha))
theorem lit_one (w : World) (k : Nat) (hk : 0 < k) (hk2 : k < 4294967296) : Nu (w.alloc (.cells #[.int .u32 (k : Int)] 54)) (.slice (some ⟨w.heap.size, 0, none⟩) 1 1) k := by
  have h : RU (w.alloc (.cells #[.int .u32 (k : Int)] 54)) w.heap.size (.slice (some ⟨w.heap.size, 0, none⟩) 1 1) [(k : Int)] := RU_own (own_lit w w.heap.size 54 .u32 [(k : Int)] (Nat.le_refl _) (by simp))
  have e : digs k = [(k : Int)] := by rw [digs_pos (by omega), Nat.mod_eq_of_lt hk2, Nat.div_eq_of_lt hk2, digs_zero]
  obtain ⟨A, c, ev, hc, hC⟩ := RU_slice h
  cases ev
  exact ⟨_, _, by rw [e]; rfl, by rw [e]; exact hc, by rw [e]; exact hC⟩
theorem same_lit {w : World} {v : Value} {x : Nat} (k : Nat) (hk : 0 < k) (hk2 : k < 4294967296) (hx : Nu w v x) (bx : x < pw 1000) (e : x = k) :
    Calls Tryd.prog 28 #[v, .slice (some ⟨w.heap.size, 0, none⟩) 1 1] (w.alloc (.cells #[.int .u32 (k : Int)] 54)) (TruePost w) :=
  (sameN (hx.below (below_alloc (Below.refl _ _) _)) (lit_one w k hk hk2) bx e).mono fun e w' ⟨h1, h2⟩ => ⟨h1, (below_alloc (Below.refl _ _) _).trans (h2.mono (by simp))⟩
theorem gcd_one {x y : Nat} (h : Nat.gcd x y ≠ 0) : Nat.gcd (x / Nat.gcd x y) (y / Nat.gcd x y) = 1 := by
  rw [Nat.gcd_div (Nat.gcd_dvd_left x y) (Nat.gcd_dvd_right x y)]
  exact Nat.div_self (Nat.pos_of_ne_zero h)
set_option maxHeartbeats 4000000 in
set_option maxRecDepth 100000 in
theorem walk (a0 : Option Addr) (c0 : Nat) (l0 : List Int) (a1 : Option Addr) (c1 : Nat) (l1 : List Int) (a2 : Option Addr) (c2 : Nat) (l2 : List Int) (w : World) (hr0 : CU w a0 l0.length l0) (hc0 : l0.length ≤ c0) (hL0 : Lim l0) (hr1 : CU w a1 l1.length l1) (hc1 : l1.length ≤ c1) (hL1 : Lim l1) (hr2 : CU w a2 l2.length l2) (hc2 : l2.length ≤ c2) (hL2 : Lim l2) :
    Calls Tryd.prog 12 #[.slice a0 l0.length c0, .slice a1 l1.length c1, .slice a2 l2.length c2] w (TruePost w) := by
  have C0 := Aside0.mk hr0
  have S0 := Aside0.mk hc0
  have L0 := Aside0.mk hL0
  clear hr0 hc0 hL0
  have C1 := Aside0.mk hr1
  have S1 := Aside0.mk hc1
  have L1 := Aside0.mk hL1
  clear hr1 hc1 hL1
  have C2 := Aside0.mk hr2
  have S2 := Aside0.mk hc2
  have L2 := Aside0.mk hL2
  clear hr2 hc2 hL2
  go_enter Tryd.func12, Tryd.ntmps12
  have HC : Aside0 (Calls Tryd.prog 23 #[] w (TruePost w)) := ⟨known_w w⟩
  go_wp2_with fail
  refine HC.out.mono ?_
  clear HC
  rintro e w1 ⟨rfl, hB⟩
  have B1 := Aside0.mk hB
  have T1 := Aside0.mk (hB.mono (Nat.le_refl _))
  clear hB
  have HC : Aside0 (Calls Tryd.prog 24 #[.slice a0 l0.length c0, .int .i64 5] w1 (NuPost w1 (mk l0 5))) := ⟨makeN 5 (CU_below C0.out T1.out) S0.out L0.out (by decide)⟩
  go_wp2_with fail
  refine HC.out.mono ?_
  clear HC
  rintro e w2 ⟨v_x, rfl, hN, hB⟩
  have B2 := Aside0.mk hB
  have T2 := Aside0.mk (T1.out.trans (hB.mono T1.out.size))
  have H_x := Aside0.mk hN
  have X_x := Aside0.mk (show mk l0 5 < pw 5 from mk_lt L0.out 5)
  clear hN hB
  have HC : Aside0 (Calls Tryd.prog 24 #[.slice a1 l1.length c1, .int .i64 5] w2 (NuPost w2 (mk l1 5))) := ⟨makeN 5 (CU_below C1.out T2.out) S1.out L1.out (by decide)⟩
  go_wp2_with fail
  refine HC.out.mono ?_
  clear HC
  rintro e w3 ⟨v_y, rfl, hN, hB⟩
  have B3 := Aside0.mk hB
  have T3 := Aside0.mk (T2.out.trans (hB.mono T2.out.size))
  have H_y := Aside0.mk hN
  have X_y := Aside0.mk (show mk l1 5 < pw 5 from mk_lt L1.out 5)
  clear hN hB
  have HC : Aside0 (Calls Tryd.prog 24 #[.slice a2 l2.length c2, .int .i64 3] w3 (NuPost w3 (mk l2 3))) := ⟨makeN 3 (CU_below C2.out T3.out) S2.out L2.out (by decide)⟩
  go_wp2_with fail
  refine HC.out.mono ?_
  clear HC
  rintro e w4 ⟨v_k, rfl, hN, hB⟩
  have B4 := Aside0.mk hB
  have T4 := Aside0.mk (T3.out.trans (hB.mono T3.out.size))
  have H_k := Aside0.mk hN
  have X_k := Aside0.mk (show mk l2 3 < pw 3 from mk_lt L2.out 3)
  clear hN hB
  have HC : Aside0 (Calls Tryd.prog 53 #[v_x, v_y] w4 (NuPost w4 (Nat.gcd (mk l0 5) (mk l1 5)))) := ⟨gcdN ((H_x.out.below B3.out).below B4.out) (H_y.out.below B4.out) (pw_lt1000 X_x.out (by omega)) (pw_lt1000 X_y.out (by omega))⟩
  go_wp2_with fail
  refine HC.out.mono ?_
  clear HC
  rintro e w5 ⟨v_g, rfl, hN, hB⟩
  have B5 := Aside0.mk hB
  have T5 := Aside0.mk (T4.out.trans (hB.mono T4.out.size))
  have H_g := Aside0.mk hN
  have X_g := Aside0.mk (show Nat.gcd (mk l0 5) (mk l1 5) < pw 5 from gcd_ltb X_x.out X_y.out (by omega) (by omega))
  clear hN hB
  obtain ⟨A_x, c_x, rfl, _, _⟩ := H_x.out
  obtain ⟨A_y, c_y, rfl, _, _⟩ := H_y.out
  obtain ⟨A_k, c_k, rfl, _, _⟩ := H_k.out
  obtain ⟨A_g, c_g, rfl, _, _⟩ := H_g.out
  by_cases hk : (mk l2 3) = 0
  ·
    have hk0 : (digs (mk l2 3)).length = 0 := digs_length_zero.2 hk
    clear hk
    by_cases hg : (Nat.gcd (mk l0 5) (mk l1 5)) = 0
    ·
      have hx0 : (digs (mk l0 5)).length = 0 := digs_length_zero.2 (Nat.eq_zero_of_gcd_eq_zero_left hg)
      have hy0 : (digs (mk l1 5)).length = 0 := digs_length_zero.2 (Nat.eq_zero_of_gcd_eq_zero_right hg)
      have hg0 : (digs (Nat.gcd (mk l0 5) (mk l1 5))).length = 0 := digs_length_zero.2 hg
      clear hg
      go_wp2_with fail
      go_ret
      exact ⟨rfl, T5.out⟩
    ·
      have hlg : 0 < (digs (Nat.gcd (mk l0 5) (mk l1 5))).length := Nat.pos_of_ne_zero (fun h => hg (digs_length_zero.1 h))
      have hb1 : (((digs (Nat.gcd (mk l0 5) (mk l1 5))).length : Int) == 0) = false := by rw [beq_eq_false_iff_ne]; omega
      have hb2 : ((digs (Nat.gcd (mk l0 5) (mk l1 5))).length == 0) = false := by rw [beq_eq_false_iff_ne]; omega
      have GP := Aside0.mk hg
      clear hg
      have HC : Aside0 (Calls Tryd.prog 52 #[(.slice A_x (digs (mk l0 5)).length c_x), (.slice A_g (digs (Nat.gcd (mk l0 5) (mk l1 5))).length c_g)] w5 (DivPost1 w5 ((mk l0 5) / (Nat.gcd (mk l0 5) (mk l1 5))) ((mk l0 5) % (Nat.gcd (mk l0 5) (mk l1 5))))) := ⟨rdivP (((H_x.out.below B3.out).below B4.out).below B5.out) H_g.out (Nat.lt_of_lt_of_le X_x.out (pw_le (by omega))) (Nat.lt_of_lt_of_le X_g.out (pw_le (by omega))) (GP.out)⟩
      go_wp2_with fail
      refine HC.out.mono ?_
      clear HC
      rintro e w6 ⟨v_p, v_s, rfl, hN, hN2, hB⟩
      have B6 := Aside0.mk hB
      have T6 := Aside0.mk (T5.out.trans (hB.mono T5.out.size))
      have H_p := Aside0.mk hN
      have X_p := Aside0.mk (show (mk l0 5) / (Nat.gcd (mk l0 5) (mk l1 5)) < pw 5 from Nat.lt_of_le_of_lt (Nat.div_le_self _ _) X_x.out)
      have H_s := Aside0.mk hN2
      have X_s := Aside0.mk (show (mk l0 5) % (Nat.gcd (mk l0 5) (mk l1 5)) < pw 5 from Nat.lt_of_le_of_lt (Nat.mod_le _ _) X_x.out)
      clear hN hN2 hB
      have HC : Aside0 (Calls Tryd.prog 52 #[(.slice A_y (digs (mk l1 5)).length c_y), (.slice A_g (digs (Nat.gcd (mk l0 5) (mk l1 5))).length c_g)] w6 (DivPost1 w6 ((mk l1 5) / (Nat.gcd (mk l0 5) (mk l1 5))) ((mk l1 5) % (Nat.gcd (mk l0 5) (mk l1 5))))) := ⟨rdivP (((H_y.out.below B4.out).below B5.out).below B6.out) (H_g.out.below B6.out) (Nat.lt_of_lt_of_le X_y.out (pw_le (by omega))) (Nat.lt_of_lt_of_le X_g.out (pw_le (by omega))) (GP.out)⟩
      go_wp2_with fail
      refine HC.out.mono ?_
      clear HC
      rintro e w7 ⟨v_q, v_t, rfl, hN, hN2, hB⟩
      have B7 := Aside0.mk hB
      have T7 := Aside0.mk (T6.out.trans (hB.mono T6.out.size))
      have H_q := Aside0.mk hN
      have X_q := Aside0.mk (show (mk l1 5) / (Nat.gcd (mk l0 5) (mk l1 5)) < pw 5 from Nat.lt_of_le_of_lt (Nat.div_le_self _ _) X_y.out)
      have H_t := Aside0.mk hN2
      have X_t := Aside0.mk (show (mk l1 5) % (Nat.gcd (mk l0 5) (mk l1 5)) < pw 5 from Nat.lt_of_le_of_lt (Nat.mod_le _ _) X_y.out)
      clear hN hN2 hB
      have HC : Aside0 (Calls Tryd.prog 53 #[v_p, v_q] w7 (NuPost w7 (Nat.gcd ((mk l0 5) / (Nat.gcd (mk l0 5) (mk l1 5))) ((mk l1 5) / (Nat.gcd (mk l0 5) (mk l1 5)))))) := ⟨gcdN (H_p.out.below B7.out) H_q.out (pw_lt1000 X_p.out (by omega)) (pw_lt1000 X_q.out (by omega))⟩
      go_wp2_with fail
      refine HC.out.mono ?_
      clear HC
      rintro e w8 ⟨v_c, rfl, hN, hB⟩
      have B8 := Aside0.mk hB
      have T8 := Aside0.mk (T7.out.trans (hB.mono T7.out.size))
      have H_c := Aside0.mk hN
      have X_c := Aside0.mk (show Nat.gcd ((mk l0 5) / (Nat.gcd (mk l0 5) (mk l1 5))) ((mk l1 5) / (Nat.gcd (mk l0 5) (mk l1 5))) < pw 5 from gcd_ltb X_p.out X_q.out (by omega) (by omega))
      clear hN hB
      have HC : Aside0 (Calls Tryd.prog 28 #[v_c, .slice (some ⟨w8.heap.size, 0, none⟩) 1 1] (w8.alloc (.cells #[.int .u32 1] 54)) (TruePost w8)) := ⟨same_lit 1 (by decide) (by decide) H_c.out (pw_lt1000 X_c.out (by omega)) (gcd_one GP.out)⟩
      go_wp2_with fail
      refine HC.out.mono ?_
      clear HC
      rintro e w9 ⟨rfl, hB⟩
      have B9 := Aside0.mk hB
      have T9 := Aside0.mk (T8.out.trans (hB.mono T8.out.size))
      clear hB
      have HC : Aside0 (Calls Tryd.prog 53 #[(.slice A_x (digs (mk l0 5)).length c_x), (.slice A_x (digs (mk l0 5)).length c_x)] w9 (NuPost w9 (Nat.gcd (mk l0 5) (mk l0 5)))) := ⟨gcdN (((((((H_x.out.below B3.out).below B4.out).below B5.out).below B6.out).below B7.out).below B8.out).below B9.out) (((((((H_x.out.below B3.out).below B4.out).below B5.out).below B6.out).below B7.out).below B8.out).below B9.out) (pw_lt1000 X_x.out (by omega)) (pw_lt1000 X_x.out (by omega))⟩
      go_wp2_with fail
      refine HC.out.mono ?_
      clear HC
      rintro e w10 ⟨v_xx, rfl, hN, hB⟩
      have B10 := Aside0.mk hB
      have T10 := Aside0.mk (T9.out.trans (hB.mono T9.out.size))
      have H_xx := Aside0.mk hN
      have X_xx := Aside0.mk (show Nat.gcd (mk l0 5) (mk l0 5) < pw 5 from gcd_ltb X_x.out X_x.out (by omega) (by omega))
      clear hN hB
      have HC : Aside0 (Calls Tryd.prog 28 #[v_xx, (.slice A_x (digs (mk l0 5)).length c_x)] w10 (TruePost w10)) := ⟨sameN H_xx.out ((((((((H_x.out.below B3.out).below B4.out).below B5.out).below B6.out).below B7.out).below B8.out).below B9.out).below B10.out) (pw_lt1000 X_xx.out (by omega)) (Nat.gcd_self _)⟩
      go_wp2_with fail
      refine HC.out.mono ?_
      clear HC
      rintro e w11 ⟨rfl, hB⟩
      have B11 := Aside0.mk hB
      have T11 := Aside0.mk (T10.out.trans (hB.mono T10.out.size))
      clear hB
      have H_z := Aside0.mk (Nu_nil w11)
      have X_z := Aside0.mk (show 0 < pw 1 from pw_pos 1)
      have HC : Aside0 (Calls Tryd.prog 53 #[(.slice A_x (digs (mk l0 5)).length c_x), (.slice none 0 0)] w11 (NuPost w11 (Nat.gcd (mk l0 5) 0))) := ⟨gcdN (((((((((H_x.out.below B3.out).below B4.out).below B5.out).below B6.out).below B7.out).below B8.out).below B9.out).below B10.out).below B11.out) H_z.out (pw_lt1000 X_x.out (by omega)) (pw_lt1000 X_z.out (by omega))⟩
      go_wp2_with fail
      refine HC.out.mono ?_
      clear HC
      rintro e w12 ⟨v_xz, rfl, hN, hB⟩
      have B12 := Aside0.mk hB
      have T12 := Aside0.mk (T11.out.trans (hB.mono T11.out.size))
      have H_xz := Aside0.mk hN
      have X_xz := Aside0.mk (show Nat.gcd (mk l0 5) 0 < pw 5 from gcd_ltb X_x.out X_z.out (by omega) (by omega))
      clear hN hB
      have HC : Aside0 (Calls Tryd.prog 28 #[v_xz, (.slice A_x (digs (mk l0 5)).length c_x)] w12 (TruePost w12)) := ⟨sameN H_xz.out ((((((((((H_x.out.below B3.out).below B4.out).below B5.out).below B6.out).below B7.out).below B8.out).below B9.out).below B10.out).below B11.out).below B12.out) (pw_lt1000 X_xz.out (by omega)) (Nat.gcd_zero_right _)⟩
      go_wp2_with fail
      refine HC.out.mono ?_
      clear HC
      rintro e w13 ⟨rfl, hB⟩
      have B13 := Aside0.mk hB
      have T13 := Aside0.mk (T12.out.trans (hB.mono T12.out.size))
      clear hB
      go_wp2_with fail
      go_ret
      exact ⟨rfl, T13.out⟩
  ·
    have hlk : 0 < (digs (mk l2 3)).length := Nat.pos_of_ne_zero (fun h => hk (digs_length_zero.1 h))
    clear hk
    have HC : Aside0 (Calls Tryd.prog 50 #[(.slice A_x (digs (mk l0 5)).length c_x), (.slice A_k (digs (mk l2 3)).length c_k)] w5 (NuPost w5 ((mk l0 5) * (mk l2 3)))) := ⟨rmulN (((H_x.out.below B3.out).below B4.out).below B5.out) (H_k.out.below B5.out) (pw_lt1000 X_x.out (by omega)) (pw_lt1000 X_k.out (by omega))⟩
    go_wp2_with fail
    refine HC.out.mono ?_
    clear HC
    rintro e w6 ⟨v_xk, rfl, hN, hB⟩
    have B6 := Aside0.mk hB
    have T6 := Aside0.mk (T5.out.trans (hB.mono T5.out.size))
    have H_xk := Aside0.mk hN
    have X_xk := Aside0.mk (show (mk l0 5) * (mk l2 3) < pw 8 from pw_mulb X_x.out X_k.out)
    clear hN hB
    have HC : Aside0 (Calls Tryd.prog 50 #[(.slice A_y (digs (mk l1 5)).length c_y), (.slice A_k (digs (mk l2 3)).length c_k)] w6 (NuPost w6 ((mk l1 5) * (mk l2 3)))) := ⟨rmulN (((H_y.out.below B4.out).below B5.out).below B6.out) ((H_k.out.below B5.out).below B6.out) (pw_lt1000 X_y.out (by omega)) (pw_lt1000 X_k.out (by omega))⟩
    go_wp2_with fail
    refine HC.out.mono ?_
    clear HC
    rintro e w7 ⟨v_yk, rfl, hN, hB⟩
    have B7 := Aside0.mk hB
    have T7 := Aside0.mk (T6.out.trans (hB.mono T6.out.size))
    have H_yk := Aside0.mk hN
    have X_yk := Aside0.mk (show (mk l1 5) * (mk l2 3) < pw 8 from pw_mulb X_y.out X_k.out)
    clear hN hB
    have HC : Aside0 (Calls Tryd.prog 53 #[v_xk, v_yk] w7 (NuPost w7 (Nat.gcd ((mk l0 5) * (mk l2 3)) ((mk l1 5) * (mk l2 3))))) := ⟨gcdN (H_xk.out.below B7.out) H_yk.out (pw_lt1000 X_xk.out (by omega)) (pw_lt1000 X_yk.out (by omega))⟩
    go_wp2_with fail
    refine HC.out.mono ?_
    clear HC
    rintro e w8 ⟨v_gk, rfl, hN, hB⟩
    have B8 := Aside0.mk hB
    have T8 := Aside0.mk (T7.out.trans (hB.mono T7.out.size))
    have H_gk := Aside0.mk hN
    have X_gk := Aside0.mk (show Nat.gcd ((mk l0 5) * (mk l2 3)) ((mk l1 5) * (mk l2 3)) < pw 8 from gcd_ltb X_xk.out X_yk.out (by omega) (by omega))
    clear hN hB
    have HC : Aside0 (Calls Tryd.prog 50 #[(.slice A_g (digs (Nat.gcd (mk l0 5) (mk l1 5))).length c_g), (.slice A_k (digs (mk l2 3)).length c_k)] w8 (NuPost w8 ((Nat.gcd (mk l0 5) (mk l1 5)) * (mk l2 3)))) := ⟨rmulN (((H_g.out.below B6.out).below B7.out).below B8.out) ((((H_k.out.below B5.out).below B6.out).below B7.out).below B8.out) (pw_lt1000 X_g.out (by omega)) (pw_lt1000 X_k.out (by omega))⟩
    go_wp2_with fail
    refine HC.out.mono ?_
    clear HC
    rintro e w9 ⟨v_gg, rfl, hN, hB⟩
    have B9 := Aside0.mk hB
    have T9 := Aside0.mk (T8.out.trans (hB.mono T8.out.size))
    have H_gg := Aside0.mk hN
    have X_gg := Aside0.mk (show (Nat.gcd (mk l0 5) (mk l1 5)) * (mk l2 3) < pw 8 from pw_mulb X_g.out X_k.out)
    clear hN hB
    have HC : Aside0 (Calls Tryd.prog 28 #[v_gk, v_gg] w9 (TruePost w9)) := ⟨sameN (H_gk.out.below B9.out) H_gg.out (pw_lt1000 X_gk.out (by omega)) (Nat.gcd_mul_right _ _ _)⟩
    go_wp2_with fail
    refine HC.out.mono ?_
    clear HC
    rintro e w10 ⟨rfl, hB⟩
    have B10 := Aside0.mk hB
    have T10 := Aside0.mk (T9.out.trans (hB.mono T9.out.size))
    clear hB
    by_cases hg : (Nat.gcd (mk l0 5) (mk l1 5)) = 0
    ·
      have hx0 : (digs (mk l0 5)).length = 0 := digs_length_zero.2 (Nat.eq_zero_of_gcd_eq_zero_left hg)
      have hy0 : (digs (mk l1 5)).length = 0 := digs_length_zero.2 (Nat.eq_zero_of_gcd_eq_zero_right hg)
      have hg0 : (digs (Nat.gcd (mk l0 5) (mk l1 5))).length = 0 := digs_length_zero.2 hg
      clear hg
      go_wp2_with fail
      go_ret
      exact ⟨rfl, T10.out⟩
    ·
      have hlg : 0 < (digs (Nat.gcd (mk l0 5) (mk l1 5))).length := Nat.pos_of_ne_zero (fun h => hg (digs_length_zero.1 h))
      have hb1 : (((digs (Nat.gcd (mk l0 5) (mk l1 5))).length : Int) == 0) = false := by rw [beq_eq_false_iff_ne]; omega
      have hb2 : ((digs (Nat.gcd (mk l0 5) (mk l1 5))).length == 0) = false := by rw [beq_eq_false_iff_ne]; omega
      have GP := Aside0.mk hg
      clear hg
      have HC : Aside0 (Calls Tryd.prog 52 #[(.slice A_x (digs (mk l0 5)).length c_x), (.slice A_g (digs (Nat.gcd (mk l0 5) (mk l1 5))).length c_g)] w10 (DivPost1 w10 ((mk l0 5) / (Nat.gcd (mk l0 5) (mk l1 5))) ((mk l0 5) % (Nat.gcd (mk l0 5) (mk l1 5))))) := ⟨rdivP ((((((((H_x.out.below B3.out).below B4.out).below B5.out).below B6.out).below B7.out).below B8.out).below B9.out).below B10.out) (((((H_g.out.below B6.out).below B7.out).below B8.out).below B9.out).below B10.out) (Nat.lt_of_lt_of_le X_x.out (pw_le (by omega))) (Nat.lt_of_lt_of_le X_g.out (pw_le (by omega))) (GP.out)⟩
      go_wp2_with fail
      refine HC.out.mono ?_
      clear HC
      rintro e w11 ⟨v_p, v_s, rfl, hN, hN2, hB⟩
      have B11 := Aside0.mk hB
      have T11 := Aside0.mk (T10.out.trans (hB.mono T10.out.size))
      have H_p := Aside0.mk hN
      have X_p := Aside0.mk (show (mk l0 5) / (Nat.gcd (mk l0 5) (mk l1 5)) < pw 5 from Nat.lt_of_le_of_lt (Nat.div_le_self _ _) X_x.out)
      have H_s := Aside0.mk hN2
      have X_s := Aside0.mk (show (mk l0 5) % (Nat.gcd (mk l0 5) (mk l1 5)) < pw 5 from Nat.lt_of_le_of_lt (Nat.mod_le _ _) X_x.out)
      clear hN hN2 hB
      have HC : Aside0 (Calls Tryd.prog 52 #[(.slice A_y (digs (mk l1 5)).length c_y), (.slice A_g (digs (Nat.gcd (mk l0 5) (mk l1 5))).length c_g)] w11 (DivPost1 w11 ((mk l1 5) / (Nat.gcd (mk l0 5) (mk l1 5))) ((mk l1 5) % (Nat.gcd (mk l0 5) (mk l1 5))))) := ⟨rdivP ((((((((H_y.out.below B4.out).below B5.out).below B6.out).below B7.out).below B8.out).below B9.out).below B10.out).below B11.out) ((((((H_g.out.below B6.out).below B7.out).below B8.out).below B9.out).below B10.out).below B11.out) (Nat.lt_of_lt_of_le X_y.out (pw_le (by omega))) (Nat.lt_of_lt_of_le X_g.out (pw_le (by omega))) (GP.out)⟩
      go_wp2_with fail
      refine HC.out.mono ?_
      clear HC
      rintro e w12 ⟨v_q, v_t, rfl, hN, hN2, hB⟩
      have B12 := Aside0.mk hB
      have T12 := Aside0.mk (T11.out.trans (hB.mono T11.out.size))
      have H_q := Aside0.mk hN
      have X_q := Aside0.mk (show (mk l1 5) / (Nat.gcd (mk l0 5) (mk l1 5)) < pw 5 from Nat.lt_of_le_of_lt (Nat.div_le_self _ _) X_y.out)
      have H_t := Aside0.mk hN2
      have X_t := Aside0.mk (show (mk l1 5) % (Nat.gcd (mk l0 5) (mk l1 5)) < pw 5 from Nat.lt_of_le_of_lt (Nat.mod_le _ _) X_y.out)
      clear hN hN2 hB
      have HC : Aside0 (Calls Tryd.prog 53 #[v_p, v_q] w12 (NuPost w12 (Nat.gcd ((mk l0 5) / (Nat.gcd (mk l0 5) (mk l1 5))) ((mk l1 5) / (Nat.gcd (mk l0 5) (mk l1 5)))))) := ⟨gcdN (H_p.out.below B12.out) H_q.out (pw_lt1000 X_p.out (by omega)) (pw_lt1000 X_q.out (by omega))⟩
      go_wp2_with fail
      refine HC.out.mono ?_
      clear HC
      rintro e w13 ⟨v_c, rfl, hN, hB⟩
      have B13 := Aside0.mk hB
      have T13 := Aside0.mk (T12.out.trans (hB.mono T12.out.size))
      have H_c := Aside0.mk hN
      have X_c := Aside0.mk (show Nat.gcd ((mk l0 5) / (Nat.gcd (mk l0 5) (mk l1 5))) ((mk l1 5) / (Nat.gcd (mk l0 5) (mk l1 5))) < pw 5 from gcd_ltb X_p.out X_q.out (by omega) (by omega))
      clear hN hB
      have HC : Aside0 (Calls Tryd.prog 28 #[v_c, .slice (some ⟨w13.heap.size, 0, none⟩) 1 1] (w13.alloc (.cells #[.int .u32 1] 54)) (TruePost w13)) := ⟨same_lit 1 (by decide) (by decide) H_c.out (pw_lt1000 X_c.out (by omega)) (gcd_one GP.out)⟩
      go_wp2_with fail
      refine HC.out.mono ?_
      clear HC
      rintro e w14 ⟨rfl, hB⟩
      have B14 := Aside0.mk hB
      have T14 := Aside0.mk (T13.out.trans (hB.mono T13.out.size))
      clear hB
      have HC : Aside0 (Calls Tryd.prog 53 #[(.slice A_x (digs (mk l0 5)).length c_x), (.slice A_x (digs (mk l0 5)).length c_x)] w14 (NuPost w14 (Nat.gcd (mk l0 5) (mk l0 5)))) := ⟨gcdN ((((((((((((H_x.out.below B3.out).below B4.out).below B5.out).below B6.out).below B7.out).below B8.out).below B9.out).below B10.out).below B11.out).below B12.out).below B13.out).below B14.out) ((((((((((((H_x.out.below B3.out).below B4.out).below B5.out).below B6.out).below B7.out).below B8.out).below B9.out).below B10.out).below B11.out).below B12.out).below B13.out).below B14.out) (pw_lt1000 X_x.out (by omega)) (pw_lt1000 X_x.out (by omega))⟩
      go_wp2_with fail
      refine HC.out.mono ?_
      clear HC
      rintro e w15 ⟨v_xx, rfl, hN, hB⟩
      have B15 := Aside0.mk hB
      have T15 := Aside0.mk (T14.out.trans (hB.mono T14.out.size))
      have H_xx := Aside0.mk hN
      have X_xx := Aside0.mk (show Nat.gcd (mk l0 5) (mk l0 5) < pw 5 from gcd_ltb X_x.out X_x.out (by omega) (by omega))
      clear hN hB
      have HC : Aside0 (Calls Tryd.prog 28 #[v_xx, (.slice A_x (digs (mk l0 5)).length c_x)] w15 (TruePost w15)) := ⟨sameN H_xx.out (((((((((((((H_x.out.below B3.out).below B4.out).below B5.out).below B6.out).below B7.out).below B8.out).below B9.out).below B10.out).below B11.out).below B12.out).below B13.out).below B14.out).below B15.out) (pw_lt1000 X_xx.out (by omega)) (Nat.gcd_self _)⟩
      go_wp2_with fail
      refine HC.out.mono ?_
      clear HC
      rintro e w16 ⟨rfl, hB⟩
      have B16 := Aside0.mk hB
      have T16 := Aside0.mk (T15.out.trans (hB.mono T15.out.size))
      clear hB
      have H_z := Aside0.mk (Nu_nil w16)
      have X_z := Aside0.mk (show 0 < pw 1 from pw_pos 1)
      have HC : Aside0 (Calls Tryd.prog 53 #[(.slice A_x (digs (mk l0 5)).length c_x), (.slice none 0 0)] w16 (NuPost w16 (Nat.gcd (mk l0 5) 0))) := ⟨gcdN ((((((((((((((H_x.out.below B3.out).below B4.out).below B5.out).below B6.out).below B7.out).below B8.out).below B9.out).below B10.out).below B11.out).below B12.out).below B13.out).below B14.out).below B15.out).below B16.out) H_z.out (pw_lt1000 X_x.out (by omega)) (pw_lt1000 X_z.out (by omega))⟩
      go_wp2_with fail
      refine HC.out.mono ?_
      clear HC
      rintro e w17 ⟨v_xz, rfl, hN, hB⟩
      have B17 := Aside0.mk hB
      have T17 := Aside0.mk (T16.out.trans (hB.mono T16.out.size))
      have H_xz := Aside0.mk hN
      have X_xz := Aside0.mk (show Nat.gcd (mk l0 5) 0 < pw 5 from gcd_ltb X_x.out X_z.out (by omega) (by omega))
      clear hN hB
      have HC : Aside0 (Calls Tryd.prog 28 #[v_xz, (.slice A_x (digs (mk l0 5)).length c_x)] w17 (TruePost w17)) := ⟨sameN H_xz.out (((((((((((((((H_x.out.below B3.out).below B4.out).below B5.out).below B6.out).below B7.out).below B8.out).below B9.out).below B10.out).below B11.out).below B12.out).below B13.out).below B14.out).below B15.out).below B16.out).below B17.out) (pw_lt1000 X_xz.out (by omega)) (Nat.gcd_zero_right _)⟩
      go_wp2_with fail
      refine HC.out.mono ?_
      clear HC
      rintro e w18 ⟨rfl, hB⟩
      have B18 := Aside0.mk hB
      have T18 := Aside0.mk (T17.out.trans (hB.mono T17.out.size))
      clear hB
      go_wp2_with fail
      go_ret
      exact ⟨rfl, T18.out⟩
end Go.Proofs.YtklhpobphloehaaDoor.natGcds
