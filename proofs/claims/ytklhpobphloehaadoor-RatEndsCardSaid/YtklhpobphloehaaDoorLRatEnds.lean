/- The law RatEnds: the walk through its calls, by their contracts; the row and its card. -/
import Derived.Test.YtklhpobphloehaaDoorS4
import Derived.Test.YtklhpobphloehaaDoorS6
set_option linter.unusedVariables false
namespace Go.Proofs.YtklhpobphloehaaDoor.ratEnds
open Go.RowKit
open Go.Proofs.YtklhpobphloehaaDoor.G Go.Proofs.YtklhpobphloehaaDoor.Nn Go.Proofs.YtklhpobphloehaaDoorW.PrintWords Go.Proofs.YtklhpobphloehaaDoorW.PrintLast

theorem bx (W : World) (g : Nat) (a b c : Value) (t : TypeId) (hg : W.heap.size = g) : Blk (W.alloc (.cells #[a, b, c] t)) g a b c := by
  subst hg
  exact Blk_alloc W a b c t
theorem szeroR (w : World) : Calls Tryd.prog 71 #[] w (RaPost w (0 : Rat)) := (szero_w w).mono fun e w' ⟨v, he, hR, hB⟩ => ⟨v, he, hR, hB⟩
theorem rb_zero : Rb 1 (0 : Rat) := ⟨by decide, by decide⟩
theorem rb_int {n : Int} (h : n.natAbs < 4294967296) : Rb 1 ((n : Int) : Rat) := ⟨by show n.natAbs < pw 1; exact h, by show 1 < pw 1; decide⟩
theorem ssameR {w : World} {v0 v1 : Value} {x y : Rat} (hx : Ra w v0 x) (hy : Ra w v1 y) (bx : Rb 400 x) (h : x = y) : Calls Tryd.prog 58 #[v0, v1] w (TruePost w) := by
  subst h
  exact ssame_w hx hy (pw_lt1000 bx.1 (by omega)) (pw_lt1000 bx.2 (by omega))
theorem ends_cell (W : World) (n : Int) (g k : Nat) (hg : W.heap.size = g) (hk : k < 4) (h0 : -9223372036854775808 ≤ n) (h1 : n ≤ 9223372036854775807) :
    ∃ x : Int, (W.alloc (.cells #[.int .i64 (-9223372036854775808), .int .i64 9223372036854775807, .int .i64 n, .int .i64 (-1)] 3)).cell? ⟨g, k, none⟩ = some (.int .i64 x) ∧ -9223372036854775808 ≤ x ∧ x ≤ 9223372036854775807 := by
  subst hg
  have : k = 0 ∨ k = 1 ∨ k = 2 ∨ k = 3 := by omega
  rcases this with rfl | rfl | rfl | rfl
  · exact ⟨-9223372036854775808, by simp, by decide, by decide⟩
  · exact ⟨9223372036854775807, by simp, by decide, by decide⟩
  · exact ⟨n, by simp, h0, h1⟩
  · exact ⟨-1, by simp, by decide, by decide⟩
theorem of_over {n d : Int} (hd : d ≠ 0) : mkRat (sg (decide (n < 0) != decide (d < 0)) n.natAbs) d.natAbs = (n : Rat) / (d : Rat) := by
  have hd' : (d : Rat) ≠ 0 := by intro h; exact hd (by exact_mod_cast h)
  have h := quo_eq (x := (n : Rat)) hd'
  rw [h]
  show _ = mkRat (sg (decide (n < 0) != decide (d < 0)) (n.natAbs * 1)) (1 * d.natAbs)
  rw [Nat.mul_one, Nat.one_mul]
theorem of_rat {w : World} {n d : Int} {x : Rat} (hd : d ≠ 0) (hx : x = (n : Rat) / (d : Rat)) {e : Ending} {w' : World} (h : OfPost w n d e w') : RaPostE w x 0 e w' := by
  unfold OfPost at h
  rw [if_neg hd] at h
  exact low_ratE (by omega) (hx.trans (of_over hd).symm) h
theorem int_num (n : Int) : ((n : Rat)).num = n := rfl
theorem rb_int2 {n : Int} (h0 : -9223372036854775808 ≤ n) (h1 : n ≤ 9223372036854775807) : Rb 2 (n : Rat) := ⟨by show n.natAbs < pw 2; rw [show pw 2 = 18446744073709551616 from by decide]; omega, by show 1 < pw 2; decide⟩
theorem over_neg {n : Int} (h : n < 0) : decide ((((1 : Int) : Rat) / (n : Rat)).num < 0) = true := by
  rw [← of_over (n := 1) (d := n) (by omega), (mk_canon _ _ (by omega)).1]
  simp [h]
theorem over_pos {n : Int} (h : 0 < n) : decide ((((1 : Int) : Rat) / (n : Rat)).num < 0) = false := by
  rw [← of_over (n := 1) (d := n) (by omega), (mk_canon _ _ (by omega)).1]
  have h2 : decide (n < 0) = false := by rw [decide_eq_false_iff_not]; omega
  simp [h2]
theorem dd_big : Go.Lib.decDigits 9223372036854775808 = [57, 50, 50, 51, 51, 55, 50, 48, 51, 54, 56, 53, 52, 55, 55, 53, 56, 48, 56] := by
  rw [decDigits_big (show ¬ 9223372036854775808 < 10 by decide), show 9223372036854775808 / 10 = 922337203685477580 from by decide]
  rw [decDigits_big (show ¬ 922337203685477580 < 10 by decide), show 922337203685477580 / 10 = 92233720368547758 from by decide]
  rw [decDigits_big (show ¬ 92233720368547758 < 10 by decide), show 92233720368547758 / 10 = 9223372036854775 from by decide]
  rw [decDigits_big (show ¬ 9223372036854775 < 10 by decide), show 9223372036854775 / 10 = 922337203685477 from by decide]
  rw [decDigits_big (show ¬ 922337203685477 < 10 by decide), show 922337203685477 / 10 = 92233720368547 from by decide]
  rw [decDigits_big (show ¬ 92233720368547 < 10 by decide), show 92233720368547 / 10 = 9223372036854 from by decide]
  rw [decDigits_big (show ¬ 9223372036854 < 10 by decide), show 9223372036854 / 10 = 922337203685 from by decide]
  rw [decDigits_big (show ¬ 922337203685 < 10 by decide), show 922337203685 / 10 = 92233720368 from by decide]
  rw [decDigits_big (show ¬ 92233720368 < 10 by decide), show 92233720368 / 10 = 9223372036 from by decide]
  rw [decDigits_big (show ¬ 9223372036 < 10 by decide), show 9223372036 / 10 = 922337203 from by decide]
  rw [decDigits_big (show ¬ 922337203 < 10 by decide), show 922337203 / 10 = 92233720 from by decide]
  rw [decDigits_big (show ¬ 92233720 < 10 by decide), show 92233720 / 10 = 9223372 from by decide]
  rw [decDigits_big (show ¬ 9223372 < 10 by decide), show 9223372 / 10 = 922337 from by decide]
  rw [decDigits_big (show ¬ 922337 < 10 by decide), show 922337 / 10 = 92233 from by decide]
  rw [decDigits_big (show ¬ 92233 < 10 by decide), show 92233 / 10 = 9223 from by decide]
  rw [decDigits_big (show ¬ 9223 < 10 by decide), show 9223 / 10 = 922 from by decide]
  rw [decDigits_big (show ¬ 922 < 10 by decide), show 922 / 10 = 92 from by decide]
  rw [decDigits_big (show ¬ 92 < 10 by decide), show 92 / 10 = 9 from by decide]
  rw [decDigits_small (show 9 < 10 by decide)]
  rfl
theorem txt_end : ratT false 9223372036854775808 1 = [57, 50, 50, 51, 51, 55, 50, 48, 51, 54, 56, 53, 52, 55, 55, 53, 56, 48, 56] := by
  unfold ratT
  rw [if_neg (by decide), if_pos rfl, dd_big]
  rfl
set_option maxHeartbeats 8000000 in
set_option maxRecDepth 100000 in
theorem walk (a0 : Int) (a1 : Int) (w : World) (hi0 : -9223372036854775808 ≤ a0 ∧ a0 ≤ 9223372036854775807) (hi1 : -9223372036854775808 ≤ a1 ∧ a1 ≤ 9223372036854775807) (HT : TabOk w) :
    Calls Tryd.prog 16 #[.int .i64 a0, .int .i64 a1] w (TruePost w) := by
  have TAB := Aside0.mk HT
  clear HT
  obtain ⟨k, ke, hk⟩ : ∃ q : Nat, (q : Int) = a1 % 4 ∧ q < 4 := ⟨(a1 % 4).toNat, by omega, by omega⟩
  have KE := Aside0.mk ke
  have HI0 := Aside0.mk hi0
  clear ke hi0 hi1
  go_enter Tryd.func16, Tryd.ntmps16
  have HC : Aside0 (Calls Tryd.prog 55 #[] w (TruePost w)) := ⟨known2_w w TAB.out⟩
  go_wp2_with fail
  refine HC.out.mono ?_
  clear HC
  rintro e w1 ⟨rfl, hB⟩
  have B1 := Aside0.mk hB
  have T1 := Aside0.mk (hB.mono (Nat.le_refl _))
  clear hB
  have B2 := Aside0.mk (below_alloc (Below.refl w1.heap.size w1) (.cells #[.int .i64 (-9223372036854775808), .int .i64 9223372036854775807, .int .i64 a0, .int .i64 (-1)] 3))
  have T2 := Aside0.mk (T1.out.trans (B2.out.mono T1.out.size))
  obtain ⟨x, hcell, hx0, hx1⟩ := ends_cell w1 a0 (w1.heap.size) k (by simp) hk HI0.out.1 HI0.out.2
  have HCELL := Aside0.mk hcell
  have HX := Aside0.mk (And.intro hx0 hx1)
  clear hcell hx0 hx1
  have HC : Aside0 (Calls Tryd.prog 63 #[.int .i64 a1, .int .i64 4] (w1.alloc (.cells #[.int .i64 (-9223372036854775808), .int .i64 9223372036854775807, .int .i64 a0, .int .i64 (-1)] 3)) (fun e w' => e = .returned (.int .i64 (k : Int)) ∧ (w1.alloc (.cells #[.int .i64 (-9223372036854775808), .int .i64 9223372036854775807, .int .i64 a0, .int .i64 (-1)] 3)) = w')) := ⟨by have h := within2_w a1 4 (w1.alloc (.cells #[.int .i64 (-9223372036854775808), .int .i64 9223372036854775807, .int .i64 a0, .int .i64 (-1)] 3)) (by decide) (by decide); rw [← KE.out] at h; exact h⟩
  go_wp2_with fail
  refine HC.out.mono ?_
  clear HC
  rintro e wx ⟨rfl, hw⟩
  subst hw
  have hcell := HCELL.out
  rcases Int.lt_trichotomy x 0 with hs | hs | hs
  ·
    have hne : x ≠ 0 := by omega
    have hxe : (x == 0) = false := by rw [beq_eq_false_iff_ne]; omega
    have HS := Aside0.mk hs
    have HNE := Aside0.mk hne
    have hlt : decide (x < 0) = true := decide_eq_true hs
    clear hne hs
    have HRN := Aside0.mk (show ((x : Int) : Rat) ≠ 0 from fun h => HNE.out (by exact_mod_cast h))
    have HC : Aside0 (Calls Tryd.prog 60 #[.int .i64 x, .int .i64 1] (w1.alloc (.cells #[.int .i64 (-9223372036854775808), .int .i64 9223372036854775807, .int .i64 a0, .int .i64 (-1)] 3)) (RaPostE (w1.alloc (.cells #[.int .i64 (-9223372036854775808), .int .i64 9223372036854775807, .int .i64 a0, .int .i64 (-1)] 3)) (((x : Int) : Rat)) 0)) := ⟨(qof_w x 1 _ HX.out.1 HX.out.2 (by decide) (by decide)).mono fun _ _ h => of_rat (by decide) (by grind) h⟩
    go_wp2_with fail
    refine HC.out.mono ?_
    clear HC
    rintro e w3 ⟨v_a, rfl, ⟨A_a, M_a, c_a, B_a, K_a, d_a, rfl, hNA, hNB⟩, hB⟩
    have B3 := Aside0.mk hB
    have T3 := Aside0.mk (T2.out.trans (hB.mono T2.out.size))
    rw [show decide (Rat.num ((x : Int) : Rat) < 0) = true from decide_eq_true HS.out]
    have NA_a := Aside0.mk hNA
    have NB_a := Aside0.mk hNB
    clear hNA hNB hB
    have H_bx_a := Aside0.mk (Blk_alloc w3 (.bool true) (.slice A_a M_a c_a) (.slice B_a K_a d_a) 56)
    have B4 := Aside0.mk (below_alloc (Below.refl w3.heap.size w3) (.cells #[.bool true, .slice A_a M_a c_a, .slice B_a K_a d_a] 56))
    have T4 := Aside0.mk (T3.out.trans (B4.out.mono T3.out.size))
    have H_a0 := Aside0.mk (show Ra w3 (.agg #[(.bool true), (.slice A_a M_a c_a), (.slice B_a K_a d_a)]) (((x : Int) : Rat)) from by unfold Ra; rw [show decide (Rat.num ((x : Int) : Rat) < 0) = true from decide_eq_true HS.out]; exact ⟨_, _, _, _, _, _, rfl, NA_a.out, NB_a.out⟩)
    have X_a := Aside0.mk (show Rb 2 (((x : Int) : Rat)) from rb_int2 HX.out.1 HX.out.2)
    have H_a := Aside0.mk (show Ra (w3.alloc (.cells #[.bool true, .slice A_a M_a c_a, .slice B_a K_a d_a] 56)) (.agg #[(.bool true), (.slice A_a M_a c_a), (.slice B_a K_a d_a)]) (((x : Int) : Rat)) from R3.below H_a0.out (below_alloc (Below.refl _ _) _))
    have HC : Aside0 (Calls Tryd.prog 60 #[.int .i64 1, .int .i64 x] (w3.alloc (.cells #[.bool true, .slice A_a M_a c_a, .slice B_a K_a d_a] 56)) (RaPostE (w3.alloc (.cells #[.bool true, .slice A_a M_a c_a, .slice B_a K_a d_a] 56)) (((1 : Int) : Rat) / ((x : Int) : Rat)) 0)) := ⟨(qof_w 1 x _ (by decide) (by decide) HX.out.1 HX.out.2).mono fun _ _ h => of_rat (HNE.out) (rfl) h⟩
    go_wp2_with fail
    refine HC.out.mono ?_
    clear HC
    rintro e w5 ⟨v_b, rfl, ⟨A_b, M_b, c_b, B_b, K_b, d_b, rfl, hNA, hNB⟩, hB⟩
    have B5 := Aside0.mk hB
    have T5 := Aside0.mk (T4.out.trans (hB.mono T4.out.size))
    rw [show decide (Rat.num (((1 : Int) : Rat) / ((x : Int) : Rat)) < 0) = true from over_neg HS.out]
    have NA_b := Aside0.mk hNA
    have NB_b := Aside0.mk hNB
    clear hNA hNB hB
    have H_bx_b := Aside0.mk (Blk_alloc w5 (.bool true) (.slice A_b M_b c_b) (.slice B_b K_b d_b) 56)
    have B6 := Aside0.mk (below_alloc (Below.refl w5.heap.size w5) (.cells #[.bool true, .slice A_b M_b c_b, .slice B_b K_b d_b] 56))
    have T6 := Aside0.mk (T5.out.trans (B6.out.mono T5.out.size))
    have H_b0 := Aside0.mk (show Ra w5 (.agg #[(.bool true), (.slice A_b M_b c_b), (.slice B_b K_b d_b)]) (((1 : Int) : Rat) / ((x : Int) : Rat)) from by unfold Ra; rw [show decide (Rat.num (((1 : Int) : Rat) / ((x : Int) : Rat)) < 0) = true from over_neg HS.out]; exact ⟨_, _, _, _, _, _, rfl, NA_b.out, NB_b.out⟩)
    have X_b := Aside0.mk (show Rb 3 (((1 : Int) : Rat) / ((x : Int) : Rat)) from quo_bnd (rb_int (by decide)) (rb_int2 HX.out.1 HX.out.2) HRN.out (by decide))
    have H_b := Aside0.mk (show Ra (w5.alloc (.cells #[.bool true, .slice A_b M_b c_b, .slice B_b K_b d_b] 56)) (.agg #[(.bool true), (.slice A_b M_b c_b), (.slice B_b K_b d_b)]) (((1 : Int) : Rat) / ((x : Int) : Rat)) from R3.below H_b0.out (below_alloc (Below.refl _ _) _))
    have HC : Aside0 (Calls Tryd.prog 60 #[.int .i64 x, .int .i64 x] (w5.alloc (.cells #[.bool true, .slice A_b M_b c_b, .slice B_b K_b d_b] 56)) (RaPostE (w5.alloc (.cells #[.bool true, .slice A_b M_b c_b, .slice B_b K_b d_b] 56)) (((1 : Int) : Rat)) 0)) := ⟨(qof_w x x _ HX.out.1 HX.out.2 HX.out.1 HX.out.2).mono fun _ _ h => of_rat (HNE.out) (by have h := HRN.out; grind) h⟩
    go_wp2_with fail
    refine HC.out.mono ?_
    clear HC
    rintro e w7 ⟨v_c, rfl, ⟨A_c, M_c, c_c, B_c, K_c, d_c, rfl, hNA, hNB⟩, hB⟩
    have B7 := Aside0.mk hB
    have T7 := Aside0.mk (T6.out.trans (hB.mono T6.out.size))
    rw [show decide (Rat.num ((1 : Int) : Rat) < 0) = false from rfl]
    have NA_c := Aside0.mk hNA
    have NB_c := Aside0.mk hNB
    clear hNA hNB hB
    have H_bx_c := Aside0.mk (Blk_alloc w7 (.bool false) (.slice A_c M_c c_c) (.slice B_c K_c d_c) 56)
    have B8 := Aside0.mk (below_alloc (Below.refl w7.heap.size w7) (.cells #[.bool false, .slice A_c M_c c_c, .slice B_c K_c d_c] 56))
    have T8 := Aside0.mk (T7.out.trans (B8.out.mono T7.out.size))
    have H_c0 := Aside0.mk (show Ra w7 (.agg #[(.bool false), (.slice A_c M_c c_c), (.slice B_c K_c d_c)]) (((1 : Int) : Rat)) from by unfold Ra; rw [show decide (Rat.num ((1 : Int) : Rat) < 0) = false from rfl]; exact ⟨_, _, _, _, _, _, rfl, NA_c.out, NB_c.out⟩)
    have X_c := Aside0.mk (show Rb 1 (((1 : Int) : Rat)) from rb_int (by decide))
    have H_c := Aside0.mk (show Ra (w7.alloc (.cells #[.bool false, .slice A_c M_c c_c, .slice B_c K_c d_c] 56)) (.agg #[(.bool false), (.slice A_c M_c c_c), (.slice B_c K_c d_c)]) (((1 : Int) : Rat)) from R3.below H_c0.out (below_alloc (Below.refl _ _) _))
    have HC : Aside0 (Calls Tryd.prog 60 #[.int .i64 (-9223372036854775808), .int .i64 (-1)] (w7.alloc (.cells #[.bool false, .slice A_c M_c c_c, .slice B_c K_c d_c] 56)) (R3PostE (w7.alloc (.cells #[.bool false, .slice A_c M_c c_c, .slice B_c K_c d_c] 56)) false (9223372036854775808) (1) 0)) := ⟨(qof_w (-9223372036854775808) (-1) _ (by decide) (by decide) (by decide) (by decide)).mono fun _ _ h => by unfold OfPost at h; rw [if_neg (by decide)] at h; exact h⟩
    go_wp2_with fail
    refine HC.out.mono ?_
    clear HC
    rintro e w9 ⟨v_d, rfl, ⟨A_d, M_d, c_d, B_d, K_d, d_d, rfl, hNA, hNB⟩, hB⟩
    have B9 := Aside0.mk hB
    have T9 := Aside0.mk (T8.out.trans (hB.mono T8.out.size))
    have NA_d := Aside0.mk hNA
    have NB_d := Aside0.mk hNB
    clear hNA hNB hB
    have H_bx_d := Aside0.mk (Blk_alloc w9 (.bool false) (.slice A_d M_d c_d) (.slice B_d K_d d_d) 56)
    have B10 := Aside0.mk (below_alloc (Below.refl w9.heap.size w9) (.cells #[.bool false, .slice A_d M_d c_d, .slice B_d K_d d_d] 56))
    have T10 := Aside0.mk (T9.out.trans (B10.out.mono T9.out.size))
    have H_rd := Aside0.mk (show R3 (w9.alloc (.cells #[.bool false, .slice A_d M_d c_d, .slice B_d K_d d_d] 56)) (.agg #[(.bool false), (.slice A_d M_d c_d), (.slice B_d K_d d_d)]) false (9223372036854775808) (1) from R3.below (show R3 w9 (.agg #[(.bool false), (.slice A_d M_d c_d), (.slice B_d K_d d_d)]) false (9223372036854775808) (1) from ⟨_, _, _, _, _, _, rfl, NA_d.out, NB_d.out⟩) (below_alloc (Below.refl _ _) _))
    go_wp2_with fail
    have B11 := Aside0.mk (Below.drew (Below.refl (w9.alloc (.cells #[.bool false, .slice A_d M_d c_d, .slice B_d K_d d_d] 56)).heap.size (w9.alloc (.cells #[.bool false, .slice A_d M_d c_d, .slice B_d K_d d_d] 56))))
    have T11 := Aside0.mk (T10.out.trans (B11.out.mono T10.out.size))
    have HS11 := Aside0.mk (fun (W : World) (hW : Below ((w9.alloc (.cells #[.bool false, .slice A_d M_d c_d, .slice B_d K_d d_d] 56)).drew).heap.size ((w9.alloc (.cells #[.bool false, .slice A_d M_d c_d, .slice B_d K_d d_d] 56)).drew) W) => show W.cell? ⟨w3.heap.size, 0, none⟩ = some (.bool true) ∧ W.cell? ⟨w3.heap.size, 1, none⟩ = some (.slice A_a M_a c_a) ∧ W.cell? ⟨w3.heap.size, 2, none⟩ = some (.slice B_a K_a d_a) ∧ W.cell? ⟨w5.heap.size, 0, none⟩ = some (.bool true) ∧ W.cell? ⟨w5.heap.size, 1, none⟩ = some (.slice A_b M_b c_b) ∧ W.cell? ⟨w5.heap.size, 2, none⟩ = some (.slice B_b K_b d_b) ∧ W.cell? ⟨w7.heap.size, 0, none⟩ = some (.bool false) ∧ W.cell? ⟨w7.heap.size, 1, none⟩ = some (.slice A_c M_c c_c) ∧ W.cell? ⟨w7.heap.size, 2, none⟩ = some (.slice B_c K_c d_c) ∧ W.cell? ⟨w9.heap.size, 0, none⟩ = some (.bool false) ∧ W.cell? ⟨w9.heap.size, 1, none⟩ = some (.slice A_d M_d c_d) ∧ W.cell? ⟨w9.heap.size, 2, none⟩ = some (.slice B_d K_d d_d) from ⟨((((((((H_bx_a.out.below B5.out).below B6.out).below B7.out).below B8.out).below B9.out).below B10.out).below B11.out).below hW).1.1, ((((((((H_bx_a.out.below B5.out).below B6.out).below B7.out).below B8.out).below B9.out).below B10.out).below B11.out).below hW).1.2.1, ((((((((H_bx_a.out.below B5.out).below B6.out).below B7.out).below B8.out).below B9.out).below B10.out).below B11.out).below hW).1.2.2, ((((((H_bx_b.out.below B7.out).below B8.out).below B9.out).below B10.out).below B11.out).below hW).1.1, ((((((H_bx_b.out.below B7.out).below B8.out).below B9.out).below B10.out).below B11.out).below hW).1.2.1, ((((((H_bx_b.out.below B7.out).below B8.out).below B9.out).below B10.out).below B11.out).below hW).1.2.2, ((((H_bx_c.out.below B9.out).below B10.out).below B11.out).below hW).1.1, ((((H_bx_c.out.below B9.out).below B10.out).below B11.out).below hW).1.2.1, ((((H_bx_c.out.below B9.out).below B10.out).below B11.out).below hW).1.2.2, ((H_bx_d.out.below B11.out).below hW).1.1, ((H_bx_d.out.below B11.out).below hW).1.2.1, ((H_bx_d.out.below B11.out).below hW).1.2.2⟩)
    have U11 := Aside0.mk (Below.refl ((w9.alloc (.cells #[.bool false, .slice A_d M_d c_d, .slice B_d K_d d_d] 56)).drew).heap.size ((w9.alloc (.cells #[.bool false, .slice A_d M_d c_d, .slice B_d K_d d_d] 56)).drew))
    refine wp_region_held_drew (S := fun W => W.cell? ⟨w3.heap.size, 0, none⟩ = some (.bool true) ∧ W.cell? ⟨w3.heap.size, 1, none⟩ = some (.slice A_a M_a c_a) ∧ W.cell? ⟨w3.heap.size, 2, none⟩ = some (.slice B_a K_a d_a) ∧ W.cell? ⟨w5.heap.size, 0, none⟩ = some (.bool true) ∧ W.cell? ⟨w5.heap.size, 1, none⟩ = some (.slice A_b M_b c_b) ∧ W.cell? ⟨w5.heap.size, 2, none⟩ = some (.slice B_b K_b d_b) ∧ W.cell? ⟨w7.heap.size, 0, none⟩ = some (.bool false) ∧ W.cell? ⟨w7.heap.size, 1, none⟩ = some (.slice A_c M_c c_c) ∧ W.cell? ⟨w7.heap.size, 2, none⟩ = some (.slice B_c K_c d_c) ∧ W.cell? ⟨w9.heap.size, 0, none⟩ = some (.bool false) ∧ W.cell? ⟨w9.heap.size, 1, none⟩ = some (.slice A_d M_d c_d) ∧ W.cell? ⟨w9.heap.size, 2, none⟩ = some (.slice B_d K_d d_d)) (by kernel_rfl) (HS11.out _ (Below.refl _ _)) (fun hHeld => ?_)
    refine Inv.takeL (i := 0) (v := ?v11_0) rfl (by kernel_rfl) (by kernel_rfl) (by kernel_rfl) (fun _ _ _ h => h) (by rfl) ?hy11_0 (by assumption) ?rest11_0
    case hy11_0 => ((intro w hSw; (try dsimp only at hSw); go_simp) <;> with_reducible rfl)
    try simp only [Act.put, List.setIfInBounds_toArray, List.set_cons_zero, List.set_cons_succ]
    refine Inv.takeL (i := 1) (v := ?v11_1) rfl (by kernel_rfl) (by kernel_rfl) (by kernel_rfl) (fun _ _ _ h => h) (by rfl) ?hy11_1 (by assumption) ?rest11_1
    case hy11_1 => ((intro w hSw; (try dsimp only at hSw); go_simp) <;> with_reducible rfl)
    try simp only [Act.put, List.setIfInBounds_toArray, List.set_cons_zero, List.set_cons_succ]
    refine Inv.takeL (i := 2) (v := ?v11_2) rfl (by kernel_rfl) (by kernel_rfl) (by kernel_rfl) (fun _ _ _ h => h) (by rfl) ?hy11_2 (by assumption) ?rest11_2
    case hy11_2 => ((intro w hSw; (try dsimp only at hSw); go_simp) <;> with_reducible rfl)
    try simp only [Act.put, List.setIfInBounds_toArray, List.set_cons_zero, List.set_cons_succ]
    refine Inv.takeL (i := 3) (v := ?v11_3) rfl (by kernel_rfl) (by kernel_rfl) (by kernel_rfl) (fun _ _ _ h => h) (by rfl) ?hy11_3 (by assumption) ?rest11_3
    case hy11_3 => ((intro w hSw; (try dsimp only at hSw); go_simp) <;> with_reducible rfl)
    try simp only [Act.put, List.setIfInBounds_toArray, List.set_cons_zero, List.set_cons_succ]
    refine Inv.takeL (i := 4) (v := ?v11_4) rfl (by kernel_rfl) (by kernel_rfl) (by kernel_rfl) (fun _ _ _ h => h) (by rfl) ?hy11_4 (by assumption) ?rest11_4
    case hy11_4 => ((intro w hSw; (try dsimp only at hSw); go_simp) <;> with_reducible rfl)
    try simp only [Act.put, List.setIfInBounds_toArray, List.set_cons_zero, List.set_cons_succ]
    refine Inv.takeL (i := 5) (v := ?v11_5) rfl (by kernel_rfl) (by kernel_rfl) (by kernel_rfl) (fun _ _ _ h => h) (by rfl) ?hy11_5 (by assumption) ?rest11_5
    case hy11_5 => ((intro w hSw; (try dsimp only at hSw); go_simp) <;> with_reducible rfl)
    try simp only [Act.put, List.setIfInBounds_toArray, List.set_cons_zero, List.set_cons_succ]
    refine Inv.takeL (i := 6) (v := ?v11_6) rfl (by kernel_rfl) (by kernel_rfl) (by kernel_rfl) (fun _ _ _ h => h) (by rfl) ?hy11_6 (by assumption) ?rest11_6
    case hy11_6 => ((intro w hSw; (try dsimp only at hSw); go_simp) <;> with_reducible rfl)
    try simp only [Act.put, List.setIfInBounds_toArray, List.set_cons_zero, List.set_cons_succ]
    refine Inv.takeL (i := 7) (v := ?v11_7) rfl (by kernel_rfl) (by kernel_rfl) (by kernel_rfl) (fun _ _ _ h => h) (by rfl) ?hy11_7 (by assumption) ?rest11_7
    case hy11_7 => ((intro w hSw; (try dsimp only at hSw); go_simp) <;> with_reducible rfl)
    try simp only [Act.put, List.setIfInBounds_toArray, List.set_cons_zero, List.set_cons_succ]
    refine Inv.takeL (i := 8) (v := ?v11_8) rfl (by kernel_rfl) (by kernel_rfl) (by kernel_rfl) (fun _ _ _ h => h) (by rfl) ?hy11_8 (by assumption) ?rest11_8
    case hy11_8 => ((intro w hSw; (try dsimp only at hSw); go_simp) <;> with_reducible rfl)
    try simp only [Act.put, List.setIfInBounds_toArray, List.set_cons_zero, List.set_cons_succ]
    refine Inv.takeL (i := 9) (v := ?v11_9) rfl (by kernel_rfl) (by kernel_rfl) (by kernel_rfl) (fun _ _ _ h => h) (by rfl) ?hy11_9 (by assumption) ?rest11_9
    case hy11_9 => ((intro w hSw; (try dsimp only at hSw); go_simp) <;> with_reducible rfl)
    try simp only [Act.put, List.setIfInBounds_toArray, List.set_cons_zero, List.set_cons_succ]
    refine Inv.takeL (i := 10) (v := ?v11_10) rfl (by kernel_rfl) (by kernel_rfl) (by kernel_rfl) (fun _ _ _ h => h) (by rfl) ?hy11_10 (by assumption) ?rest11_10
    case hy11_10 => ((intro w hSw; (try dsimp only at hSw); go_simp) <;> with_reducible rfl)
    try simp only [Act.put, List.setIfInBounds_toArray, List.set_cons_zero, List.set_cons_succ]
    refine Inv.takeL (i := 11) (v := ?v11_11) rfl (by kernel_rfl) (by kernel_rfl) (by kernel_rfl) (fun _ _ _ h => h) (by rfl) ?hy11_11 (by assumption) ?rest11_11
    case hy11_11 => ((intro w hSw; (try dsimp only at hSw); go_simp) <;> with_reducible rfl)
    try simp only [Act.put, List.setIfInBounds_toArray, List.set_cons_zero, List.set_cons_succ]
    refine Inv.takeL (i := 12) (v := ?v11_12) rfl (by kernel_rfl) (by kernel_rfl) (by kernel_rfl) (fun _ _ _ h => h) (by rfl) ?hy11_12 (by assumption) ?rest11_12
    case hy11_12 => ((intro w hSw; (try dsimp only at hSw); go_simp) <;> with_reducible rfl)
    try simp only [Act.put, List.setIfInBounds_toArray, List.set_cons_zero, List.set_cons_succ]
    refine Inv.takeL (i := 13) (v := ?v11_13) rfl (by kernel_rfl) (by kernel_rfl) (by kernel_rfl) (fun _ _ _ h => h) (by rfl) ?hy11_13 (by assumption) ?rest11_13
    case hy11_13 => ((intro w hSw; (try dsimp only at hSw); go_simp) <;> with_reducible rfl)
    try simp only [Act.put, List.setIfInBounds_toArray, List.set_cons_zero, List.set_cons_succ]
    refine Inv.takeL (i := 14) (v := ?v11_14) rfl (by kernel_rfl) (by kernel_rfl) (by kernel_rfl) (fun _ _ _ h => h) (by rfl) ?hy11_14 (by assumption) ?rest11_14
    case hy11_14 => ((intro w hSw; (try dsimp only at hSw); go_simp) <;> with_reducible rfl)
    try simp only [Act.put, List.setIfInBounds_toArray, List.set_cons_zero, List.set_cons_succ]
    refine Inv.takeL (i := 15) (v := ?v11_15) rfl (by kernel_rfl) (by kernel_rfl) (by kernel_rfl) (fun _ _ _ h => h) (by rfl) ?hy11_15 (by assumption) ?rest11_15
    case hy11_15 => ((intro w hSw; (try dsimp only at hSw); go_simp) <;> with_reducible rfl)
    try simp only [Act.put, List.setIfInBounds_toArray, List.set_cons_zero, List.set_cons_succ]
    refine Inv.takeL (i := 16) (v := ?v11_16) rfl (by kernel_rfl) (by kernel_rfl) (by kernel_rfl) (fun _ _ _ h => h) (by rfl) ?hy11_16 (by assumption) ?rest11_16
    case hy11_16 => ((intro w hSw; (try dsimp only at hSw); go_simp) <;> with_reducible rfl)
    try simp only [Act.put, List.setIfInBounds_toArray, List.set_cons_zero, List.set_cons_succ]
    have HC : Aside0 (Calls Tryd.prog 64 #[(.agg #[(.bool true), (.slice A_a M_a c_a), (.slice B_a K_a d_a)]), (.agg #[(.bool true), (.slice A_b M_b c_b), (.slice B_b K_b d_b)])] ((w9.alloc (.cells #[.bool false, .slice A_d M_d c_d, .slice B_d K_d d_d] 56)).drew) (RaPost ((w9.alloc (.cells #[.bool false, .slice A_d M_d c_d, .slice B_d K_d d_d] 56)).drew) ((((x : Int) : Rat)) * (((1 : Int) : Rat) / ((x : Int) : Rat))))) := ⟨qmulR (((((((H_a.out.below B5.out).below B6.out).below B7.out).below B8.out).below B9.out).below B10.out).below B11.out) (((((H_b.out.below B7.out).below B8.out).below B9.out).below B10.out).below B11.out) (X_a.out.le (by decide)) (X_b.out.le (by decide))⟩
    refine Inv.oneL (i := 17) rfl (by kernel_rfl) (fun K hK => ?_)
    go_simp
    refine HC.out.mono ?_
    clear HC
    rintro e w12 ⟨v_ab, rfl, hN, hB⟩
    try go_wp2_with fail
    have B12 := Aside0.mk hB
    have T12 := Aside0.mk (T11.out.trans (hB.mono T11.out.size))
    have H_ab := Aside0.mk hN
    have X_ab := Aside0.mk (show Rb 5 ((((x : Int) : Rat)) * (((1 : Int) : Rat) / ((x : Int) : Rat))) from mul_bnd X_a.out X_b.out (by decide))
    clear hN hB
    have U12 := Aside0.mk (U11.out.trans (B12.out.mono U11.out.size))
    refine hK.out _ _ (HS11.out _ U12.out) (fun hHeld => ?_)
    clear hK K
    try simp only [Act.put, List.setIfInBounds_toArray, List.set_cons_zero, List.set_cons_succ]
    have HC : Aside0 (Calls Tryd.prog 65 #[.int .i64 1] w12 (RaPost w12 (((1 : Int) : Rat)))) := ⟨by have h := sint_w (1) w12 (by decide) (by decide); exact h⟩
    refine Inv.oneL (i := 18) rfl (by kernel_rfl) (fun K hK => ?_)
    go_simp
    refine HC.out.mono ?_
    clear HC
    rintro e w13 ⟨v_i1, rfl, hN, hB⟩
    try go_wp2_with fail
    have B13 := Aside0.mk hB
    have T13 := Aside0.mk (T12.out.trans (hB.mono T12.out.size))
    have H_i1 := Aside0.mk hN
    have X_i1 := Aside0.mk (show Rb 1 (((1 : Int) : Rat)) from rb_int (by decide))
    clear hN hB
    have U13 := Aside0.mk (U12.out.trans (B13.out.mono U12.out.size))
    refine hK.out _ _ (HS11.out _ U13.out) (fun hHeld => ?_)
    clear hK K
    try simp only [Act.put, List.setIfInBounds_toArray, List.set_cons_zero, List.set_cons_succ]
    have HC : Aside0 (Calls Tryd.prog 58 #[v_ab, v_i1] w13 (TruePost w13)) := ⟨ssameR (H_ab.out.below B13.out) H_i1.out (X_ab.out.le (by decide)) (by have h := HRN.out; grind)⟩
    refine Inv.oneL (i := 19) rfl (by kernel_rfl) (fun K hK => ?_)
    go_simp
    refine HC.out.mono ?_
    clear HC
    rintro e w14 ⟨rfl, hB⟩
    try go_wp2_with fail
    have B14 := Aside0.mk hB
    have T14 := Aside0.mk (T13.out.trans (hB.mono T13.out.size))
    clear hB
    have U14 := Aside0.mk (U13.out.trans (B14.out.mono U13.out.size))
    refine hK.out _ _ (HS11.out _ U14.out) (fun hHeld => ?_)
    clear hK K
    try simp only [Act.put, List.setIfInBounds_toArray, List.set_cons_zero, List.set_cons_succ]
    refine Inv.takeL (i := 20) (v := ?v11_20) rfl (by kernel_rfl) (by kernel_rfl) (by kernel_rfl) (fun _ _ _ h => h) (by rfl) ?hy11_20 (by assumption) ?rest11_20
    case hy11_20 => ((intro w hSw; (try dsimp only at hSw); go_simp) <;> with_reducible rfl)
    try simp only [Act.put, List.setIfInBounds_toArray, List.set_cons_zero, List.set_cons_succ]
    refine Inv.takeL (i := 21) (v := ?v11_21) rfl (by kernel_rfl) (by kernel_rfl) (by kernel_rfl) (fun _ _ _ h => h) (by rfl) ?hy11_21 (by assumption) ?rest11_21
    case hy11_21 => ((intro w hSw; (try dsimp only at hSw); go_simp) <;> with_reducible rfl)
    try simp only [Act.put, List.setIfInBounds_toArray, List.set_cons_zero, List.set_cons_succ]
    refine Inv.takeL (i := 22) (v := ?v11_22) rfl (by kernel_rfl) (by kernel_rfl) (by kernel_rfl) (fun _ _ _ h => h) (by rfl) ?hy11_22 (by assumption) ?rest11_22
    case hy11_22 => ((intro w hSw; (try dsimp only at hSw); go_simp) <;> with_reducible rfl)
    try simp only [Act.put, List.setIfInBounds_toArray, List.set_cons_zero, List.set_cons_succ]
    have HC : Aside0 (Calls Tryd.prog 65 #[.int .i64 1] w14 (RaPost w14 (((1 : Int) : Rat)))) := ⟨by have h := sint_w (1) w14 (by decide) (by decide); exact h⟩
    refine Inv.oneL (i := 23) rfl (by kernel_rfl) (fun K hK => ?_)
    go_simp
    refine HC.out.mono ?_
    clear HC
    rintro e w15 ⟨v_i2, rfl, hN, hB⟩
    try go_wp2_with fail
    have B15 := Aside0.mk hB
    have T15 := Aside0.mk (T14.out.trans (hB.mono T14.out.size))
    have H_i2 := Aside0.mk hN
    have X_i2 := Aside0.mk (show Rb 1 (((1 : Int) : Rat)) from rb_int (by decide))
    clear hN hB
    have U15 := Aside0.mk (U14.out.trans (B15.out.mono U14.out.size))
    refine hK.out _ _ (HS11.out _ U15.out) (fun hHeld => ?_)
    clear hK K
    try simp only [Act.put, List.setIfInBounds_toArray, List.set_cons_zero, List.set_cons_succ]
    have HC : Aside0 (Calls Tryd.prog 58 #[(.agg #[(.bool false), (.slice A_c M_c c_c), (.slice B_c K_c d_c)]), v_i2] w15 (TruePost w15)) := ⟨ssameR (((((((H_c.out.below B9.out).below B10.out).below B11.out).below B12.out).below B13.out).below B14.out).below B15.out) H_i2.out (X_c.out.le (by decide)) (rfl)⟩
    refine Inv.oneL (i := 24) rfl (by kernel_rfl) (fun K hK => ?_)
    go_simp
    refine HC.out.mono ?_
    clear HC
    rintro e w16 ⟨rfl, hB⟩
    try go_wp2_with fail
    have B16 := Aside0.mk hB
    have T16 := Aside0.mk (T15.out.trans (hB.mono T15.out.size))
    clear hB
    have U16 := Aside0.mk (U15.out.trans (B16.out.mono U15.out.size))
    refine hK.out _ _ (HS11.out _ U16.out) (fun hHeld => ?_)
    clear hK K
    try simp only [Act.put, List.setIfInBounds_toArray, List.set_cons_zero, List.set_cons_succ]
    refine Inv.takeL (i := 25) (v := ?v11_25) rfl (by kernel_rfl) (by kernel_rfl) (by kernel_rfl) (fun _ _ _ h => h) (by rfl) ?hy11_25 (by assumption) ?rest11_25
    case hy11_25 => ((intro w hSw; (try dsimp only at hSw); go_simp) <;> with_reducible rfl)
    try simp only [Act.put, List.setIfInBounds_toArray, List.set_cons_zero, List.set_cons_succ]
    refine Inv.takeL (i := 26) (v := ?v11_26) rfl (by kernel_rfl) (by kernel_rfl) (by kernel_rfl) (fun _ _ _ h => h) (by rfl) ?hy11_26 (by assumption) ?rest11_26
    case hy11_26 => ((intro w hSw; (try dsimp only at hSw); go_simp) <;> with_reducible rfl)
    try simp only [Act.put, List.setIfInBounds_toArray, List.set_cons_zero, List.set_cons_succ]
    refine Inv.takeL (i := 27) (v := ?v11_27) rfl (by kernel_rfl) (by kernel_rfl) (by kernel_rfl) (fun _ _ _ h => h) (by rfl) ?hy11_27 (by assumption) ?rest11_27
    case hy11_27 => ((intro w hSw; (try dsimp only at hSw); go_simp) <;> with_reducible rfl)
    try simp only [Act.put, List.setIfInBounds_toArray, List.set_cons_zero, List.set_cons_succ]
    refine Inv.takeL (i := 28) (v := ?v11_28) rfl (by kernel_rfl) (by kernel_rfl) (by kernel_rfl) (fun _ _ _ h => h) (by rfl) ?hy11_28 (by assumption) ?rest11_28
    case hy11_28 => ((intro w hSw; (try dsimp only at hSw); go_simp) <;> with_reducible rfl)
    try simp only [Act.put, List.setIfInBounds_toArray, List.set_cons_zero, List.set_cons_succ]
    refine Inv.takeL (i := 29) (v := ?v11_29) rfl (by kernel_rfl) (by kernel_rfl) (by kernel_rfl) (fun _ _ _ h => h) (by rfl) ?hy11_29 (by assumption) ?rest11_29
    case hy11_29 => ((intro w hSw; (try dsimp only at hSw); go_simp) <;> with_reducible rfl)
    try simp only [Act.put, List.setIfInBounds_toArray, List.set_cons_zero, List.set_cons_succ]
    refine Inv.takeL (i := 30) (v := ?v11_30) rfl (by kernel_rfl) (by kernel_rfl) (by kernel_rfl) (fun _ _ _ h => h) (by rfl) ?hy11_30 (by assumption) ?rest11_30
    case hy11_30 => ((intro w hSw; (try dsimp only at hSw); go_simp) <;> with_reducible rfl)
    try simp only [Act.put, List.setIfInBounds_toArray, List.set_cons_zero, List.set_cons_succ]
    refine Inv.takeL (i := 31) (v := ?v11_31) rfl (by kernel_rfl) (by kernel_rfl) (by kernel_rfl) (fun _ _ _ h => h) (by rfl) ?hy11_31 (by assumption) ?rest11_31
    case hy11_31 => ((intro w hSw; (try dsimp only at hSw); go_simp) <;> with_reducible rfl)
    try simp only [Act.put, List.setIfInBounds_toArray, List.set_cons_zero, List.set_cons_succ]
    refine Inv.takeL (i := 32) (v := ?v11_32) rfl (by kernel_rfl) (by kernel_rfl) (by kernel_rfl) (fun _ _ _ h => h) (by rfl) ?hy11_32 (by assumption) ?rest11_32
    case hy11_32 => ((intro w hSw; (try dsimp only at hSw); go_simp) <;> with_reducible rfl)
    try simp only [Act.put, List.setIfInBounds_toArray, List.set_cons_zero, List.set_cons_succ]
    refine Inv.takeL (i := 33) (v := ?v11_33) rfl (by kernel_rfl) (by kernel_rfl) (by kernel_rfl) (fun _ _ _ h => h) (by rfl) ?hy11_33 (by assumption) ?rest11_33
    case hy11_33 => ((intro w hSw; (try dsimp only at hSw); go_simp) <;> with_reducible rfl)
    try simp only [Act.put, List.setIfInBounds_toArray, List.set_cons_zero, List.set_cons_succ]
    refine Inv.takeL (i := 34) (v := ?v11_34) rfl (by kernel_rfl) (by kernel_rfl) (by kernel_rfl) (fun _ _ _ h => h) (by rfl) ?hy11_34 (by assumption) ?rest11_34
    case hy11_34 => ((intro w hSw; (try dsimp only at hSw); go_simp) <;> with_reducible rfl)
    try simp only [Act.put, List.setIfInBounds_toArray, List.set_cons_zero, List.set_cons_succ]
    refine Inv.takeL (i := 35) (v := ?v11_35) rfl (by kernel_rfl) (by kernel_rfl) (by kernel_rfl) (fun _ _ _ h => h) (by rfl) ?hy11_35 (by assumption) ?rest11_35
    case hy11_35 => ((intro w hSw; (try dsimp only at hSw); go_simp) <;> with_reducible rfl)
    try simp only [Act.put, List.setIfInBounds_toArray, List.set_cons_zero, List.set_cons_succ]
    refine Inv.takeL (i := 36) (v := ?v11_36) rfl (by kernel_rfl) (by kernel_rfl) (by kernel_rfl) (fun _ _ _ h => h) (by rfl) ?hy11_36 (by assumption) ?rest11_36
    case hy11_36 => ((intro w hSw; (try dsimp only at hSw); go_simp) <;> with_reducible rfl)
    try simp only [Act.put, List.setIfInBounds_toArray, List.set_cons_zero, List.set_cons_succ]
    refine Inv.takeL (i := 37) (v := ?v11_37) rfl (by kernel_rfl) (by kernel_rfl) (by kernel_rfl) (fun _ _ _ h => h) (by rfl) ?hy11_37 (by assumption) ?rest11_37
    case hy11_37 => ((intro w hSw; (try dsimp only at hSw); go_simp) <;> with_reducible rfl)
    try simp only [Act.put, List.setIfInBounds_toArray, List.set_cons_zero, List.set_cons_succ]
    refine Inv.takeL (i := 38) (v := ?v11_38) rfl (by kernel_rfl) (by kernel_rfl) (by kernel_rfl) (fun _ _ _ h => h) (by rfl) ?hy11_38 (by assumption) ?rest11_38
    case hy11_38 => ((intro w hSw; (try dsimp only at hSw); go_simp) <;> with_reducible rfl)
    try simp only [Act.put, List.setIfInBounds_toArray, List.set_cons_zero, List.set_cons_succ]
    refine Inv.takeL (i := 39) (v := ?v11_39) rfl (by kernel_rfl) (by kernel_rfl) (by kernel_rfl) (fun _ _ _ h => h) (by rfl) ?hy11_39 (by assumption) ?rest11_39
    case hy11_39 => ((intro w hSw; (try dsimp only at hSw); go_simp) <;> with_reducible rfl)
    try simp only [Act.put, List.setIfInBounds_toArray, List.set_cons_zero, List.set_cons_succ]
    refine Inv.takeL (i := 40) (v := ?v11_40) rfl (by kernel_rfl) (by kernel_rfl) (by kernel_rfl) (fun _ _ _ h => h) (by rfl) ?hy11_40 (by assumption) ?rest11_40
    case hy11_40 => ((intro w hSw; (try dsimp only at hSw); go_simp) <;> with_reducible rfl)
    try simp only [Act.put, List.setIfInBounds_toArray, List.set_cons_zero, List.set_cons_succ]
    refine Inv.takeL (i := 41) (v := ?v11_41) rfl (by kernel_rfl) (by kernel_rfl) (by kernel_rfl) (fun _ _ _ h => h) (by rfl) ?hy11_41 (by assumption) ?rest11_41
    case hy11_41 => ((intro w hSw; (try dsimp only at hSw); go_simp) <;> with_reducible rfl)
    try simp only [Act.put, List.setIfInBounds_toArray, List.set_cons_zero, List.set_cons_succ]
    have HC : Aside0 (Calls Tryd.prog 66 #[(.agg #[(.bool false), (.slice A_d M_d c_d), (.slice B_d K_d d_d)])] w16 (TextPost w16 (ratT false 9223372036854775808 1))) := ⟨qtext_w ((((((H_rd.out.below B11.out).below B12.out).below B13.out).below B14.out).below B15.out).below B16.out) (pw_lt1000 (show 9223372036854775808 < pw 2 by decide) (by omega)) (pw_lt1000 (show 1 < pw 1 by decide) (by omega)) ((((((((((((((((TAB.out.below B1.out).below B2.out).below B3.out).below B4.out).below B5.out).below B6.out).below B7.out).below B8.out).below B9.out).below B10.out).below B11.out).below B12.out).below B13.out).below B14.out).below B15.out).below B16.out)⟩
    refine Inv.oneL (i := 42) rfl (by kernel_rfl) (fun K hK => ?_)
    go_simp
    refine HC.out.mono ?_
    clear HC
    rintro e w17 ⟨s, rfl, hS, hB⟩; have hse : s = ⟨#[57, 50, 50, 51, 51, 55, 50, 48, 51, 54, 56, 53, 52, 55, 55, 53, 56, 48, 56]⟩ := (by rw [bytes_eq hS, txt_end]); subst hse; clear hS
    try go_wp2_with fail
    have B17 := Aside0.mk hB
    have T17 := Aside0.mk (T16.out.trans (hB.mono T16.out.size))
    clear hB
    have U17 := Aside0.mk (U16.out.trans (B17.out.mono U16.out.size))
    refine hK.out _ _ (HS11.out _ U17.out) (fun hHeld => ?_)
    clear hK K
    try simp only [Act.put, List.setIfInBounds_toArray, List.set_cons_zero, List.set_cons_succ]
    refine Inv.takeL (i := 43) (v := ?v11_43) rfl (by kernel_rfl) (by kernel_rfl) (by kernel_rfl) (fun _ _ _ h => h) (by rfl) ?hy11_43 (by assumption) ?rest11_43
    case hy11_43 => ((intro w hSw; (try dsimp only at hSw); go_simp) <;> with_reducible rfl)
    try simp only [Act.put, List.setIfInBounds_toArray, List.set_cons_zero, List.set_cons_succ]
    refine Inv.takeL (i := 44) (v := ?v11_44) rfl (by kernel_rfl) (by kernel_rfl) (by kernel_rfl) (fun _ _ _ h => h) (by rfl) ?hy11_44 (by assumption) ?rest11_44
    case hy11_44 => ((intro w hSw; (try dsimp only at hSw); go_simp) <;> with_reducible rfl)
    try simp only [Act.put, List.setIfInBounds_toArray, List.set_cons_zero, List.set_cons_succ]
    refine Inv.takeL (i := 45) (v := ?v11_45) rfl (by kernel_rfl) (by kernel_rfl) (by kernel_rfl) (fun _ _ _ h => h) (by rfl) ?hy11_45 (by assumption) ?rest11_45
    case hy11_45 => ((intro w hSw; (try dsimp only at hSw); go_simp) <;> with_reducible rfl)
    try simp only [Act.put, List.setIfInBounds_toArray, List.set_cons_zero, List.set_cons_succ]
    refine wpAnyH_done (by kernel_rfl) ?_ _
    go_wp2_with fail
    go_ret
    exact ⟨rfl, T17.out⟩
  ·
    subst hs
    have HC : Aside0 (Calls Tryd.prog 60 #[.int .i64 0, .int .i64 1] (w1.alloc (.cells #[.int .i64 (-9223372036854775808), .int .i64 9223372036854775807, .int .i64 a0, .int .i64 (-1)] 3)) (R3PostE (w1.alloc (.cells #[.int .i64 (-9223372036854775808), .int .i64 9223372036854775807, .int .i64 a0, .int .i64 (-1)] 3)) false (0) (1) 0)) := ⟨(qof_w 0 1 _ (by decide) (by decide) (by decide) (by decide)).mono fun _ _ h => by unfold OfPost at h; rw [if_neg (by decide)] at h; exact h⟩
    go_wp2_with fail
    refine HC.out.mono ?_
    clear HC
    rintro e w3 ⟨v_a, rfl, ⟨A_a, M_a, c_a, B_a, K_a, d_a, rfl, hNA, hNB⟩, hB⟩
    have B3 := Aside0.mk hB
    have T3 := Aside0.mk (T2.out.trans (hB.mono T2.out.size))
    have NA_a := Aside0.mk hNA
    have NB_a := Aside0.mk hNB
    clear hNA hNB hB
    have H_bx_a := Aside0.mk (Blk_alloc w3 (.bool false) (.slice A_a M_a c_a) (.slice B_a K_a d_a) 56)
    have B4 := Aside0.mk (below_alloc (Below.refl w3.heap.size w3) (.cells #[.bool false, .slice A_a M_a c_a, .slice B_a K_a d_a] 56))
    have T4 := Aside0.mk (T3.out.trans (B4.out.mono T3.out.size))
    have H_ra := Aside0.mk (show R3 (w3.alloc (.cells #[.bool false, .slice A_a M_a c_a, .slice B_a K_a d_a] 56)) (.agg #[(.bool false), (.slice A_a M_a c_a), (.slice B_a K_a d_a)]) false (0) (1) from R3.below (show R3 w3 (.agg #[(.bool false), (.slice A_a M_a c_a), (.slice B_a K_a d_a)]) false (0) (1) from ⟨_, _, _, _, _, _, rfl, NA_a.out, NB_a.out⟩) (below_alloc (Below.refl _ _) _))
    have hM : ((M_a : Int) == 0) = true := by rw [(Nu_len0 NA_a.out).2 rfl]; rfl
    have HC : Aside0 (Calls Tryd.prog 60 #[.int .i64 1, .int .i64 0] (w3.alloc (.cells #[.bool false, .slice A_a M_a c_a, .slice B_a K_a d_a] 56)) (R3PostE (w3.alloc (.cells #[.bool false, .slice A_a M_a c_a, .slice B_a K_a d_a] 56)) false (0) (0) 5)) := ⟨(qof_w 1 0 _ (by decide) (by decide) (by decide) (by decide)).mono fun _ _ h => by unfold OfPost at h; rw [if_pos rfl] at h; exact h⟩
    go_wp2_with fail
    refine HC.out.mono ?_
    clear HC
    rintro e w5 ⟨v_b, rfl, ⟨A_b, M_b, c_b, B_b, K_b, d_b, rfl, hNA, hNB⟩, hB⟩
    have B5 := Aside0.mk hB
    have T5 := Aside0.mk (T4.out.trans (hB.mono T4.out.size))
    have NA_b := Aside0.mk hNA
    have NB_b := Aside0.mk hNB
    clear hNA hNB hB
    have H_bx_b := Aside0.mk (Blk_alloc w5 (.bool false) (.slice A_b M_b c_b) (.slice B_b K_b d_b) 56)
    have B6 := Aside0.mk (below_alloc (Below.refl w5.heap.size w5) (.cells #[.bool false, .slice A_b M_b c_b, .slice B_b K_b d_b] 56))
    have T6 := Aside0.mk (T5.out.trans (B6.out.mono T5.out.size))
    have H_rb := Aside0.mk (show R3 (w5.alloc (.cells #[.bool false, .slice A_b M_b c_b, .slice B_b K_b d_b] 56)) (.agg #[(.bool false), (.slice A_b M_b c_b), (.slice B_b K_b d_b)]) false (0) (0) from R3.below (show R3 w5 (.agg #[(.bool false), (.slice A_b M_b c_b), (.slice B_b K_b d_b)]) false (0) (0) from ⟨_, _, _, _, _, _, rfl, NA_b.out, NB_b.out⟩) (below_alloc (Below.refl _ _) _))
    obtain ⟨⟨hz0, hz1, hz2⟩, _⟩ := ((H_bx_a.out.below B5.out).below B6.out)
    go_wp2_with fail
    go_ret
    exact ⟨rfl, T6.out⟩
  ·
    have hne : x ≠ 0 := by omega
    have hxe : (x == 0) = false := by rw [beq_eq_false_iff_ne]; omega
    have HS := Aside0.mk hs
    have HNE := Aside0.mk hne
    have hlt : decide (x < 0) = false := decide_eq_false (by omega)
    clear hne hs
    have HRN := Aside0.mk (show ((x : Int) : Rat) ≠ 0 from fun h => HNE.out (by exact_mod_cast h))
    have HC : Aside0 (Calls Tryd.prog 60 #[.int .i64 x, .int .i64 1] (w1.alloc (.cells #[.int .i64 (-9223372036854775808), .int .i64 9223372036854775807, .int .i64 a0, .int .i64 (-1)] 3)) (RaPostE (w1.alloc (.cells #[.int .i64 (-9223372036854775808), .int .i64 9223372036854775807, .int .i64 a0, .int .i64 (-1)] 3)) (((x : Int) : Rat)) 0)) := ⟨(qof_w x 1 _ HX.out.1 HX.out.2 (by decide) (by decide)).mono fun _ _ h => of_rat (by decide) (by grind) h⟩
    go_wp2_with fail
    refine HC.out.mono ?_
    clear HC
    rintro e w3 ⟨v_a, rfl, ⟨A_a, M_a, c_a, B_a, K_a, d_a, rfl, hNA, hNB⟩, hB⟩
    have B3 := Aside0.mk hB
    have T3 := Aside0.mk (T2.out.trans (hB.mono T2.out.size))
    rw [show decide (Rat.num ((x : Int) : Rat) < 0) = false from decide_eq_false (by rw [int_num]; have := HS.out; omega)]
    have NA_a := Aside0.mk hNA
    have NB_a := Aside0.mk hNB
    clear hNA hNB hB
    have H_bx_a := Aside0.mk (Blk_alloc w3 (.bool false) (.slice A_a M_a c_a) (.slice B_a K_a d_a) 56)
    have B4 := Aside0.mk (below_alloc (Below.refl w3.heap.size w3) (.cells #[.bool false, .slice A_a M_a c_a, .slice B_a K_a d_a] 56))
    have T4 := Aside0.mk (T3.out.trans (B4.out.mono T3.out.size))
    have H_a0 := Aside0.mk (show Ra w3 (.agg #[(.bool false), (.slice A_a M_a c_a), (.slice B_a K_a d_a)]) (((x : Int) : Rat)) from by unfold Ra; rw [show decide (Rat.num ((x : Int) : Rat) < 0) = false from decide_eq_false (by rw [int_num]; have := HS.out; omega)]; exact ⟨_, _, _, _, _, _, rfl, NA_a.out, NB_a.out⟩)
    have X_a := Aside0.mk (show Rb 2 (((x : Int) : Rat)) from rb_int2 HX.out.1 HX.out.2)
    have H_a := Aside0.mk (show Ra (w3.alloc (.cells #[.bool false, .slice A_a M_a c_a, .slice B_a K_a d_a] 56)) (.agg #[(.bool false), (.slice A_a M_a c_a), (.slice B_a K_a d_a)]) (((x : Int) : Rat)) from R3.below H_a0.out (below_alloc (Below.refl _ _) _))
    have HC : Aside0 (Calls Tryd.prog 60 #[.int .i64 1, .int .i64 x] (w3.alloc (.cells #[.bool false, .slice A_a M_a c_a, .slice B_a K_a d_a] 56)) (RaPostE (w3.alloc (.cells #[.bool false, .slice A_a M_a c_a, .slice B_a K_a d_a] 56)) (((1 : Int) : Rat) / ((x : Int) : Rat)) 0)) := ⟨(qof_w 1 x _ (by decide) (by decide) HX.out.1 HX.out.2).mono fun _ _ h => of_rat (HNE.out) (rfl) h⟩
    go_wp2_with fail
    refine HC.out.mono ?_
    clear HC
    rintro e w5 ⟨v_b, rfl, ⟨A_b, M_b, c_b, B_b, K_b, d_b, rfl, hNA, hNB⟩, hB⟩
    have B5 := Aside0.mk hB
    have T5 := Aside0.mk (T4.out.trans (hB.mono T4.out.size))
    rw [show decide (Rat.num (((1 : Int) : Rat) / ((x : Int) : Rat)) < 0) = false from over_pos HS.out]
    have NA_b := Aside0.mk hNA
    have NB_b := Aside0.mk hNB
    clear hNA hNB hB
    have H_bx_b := Aside0.mk (Blk_alloc w5 (.bool false) (.slice A_b M_b c_b) (.slice B_b K_b d_b) 56)
    have B6 := Aside0.mk (below_alloc (Below.refl w5.heap.size w5) (.cells #[.bool false, .slice A_b M_b c_b, .slice B_b K_b d_b] 56))
    have T6 := Aside0.mk (T5.out.trans (B6.out.mono T5.out.size))
    have H_b0 := Aside0.mk (show Ra w5 (.agg #[(.bool false), (.slice A_b M_b c_b), (.slice B_b K_b d_b)]) (((1 : Int) : Rat) / ((x : Int) : Rat)) from by unfold Ra; rw [show decide (Rat.num (((1 : Int) : Rat) / ((x : Int) : Rat)) < 0) = false from over_pos HS.out]; exact ⟨_, _, _, _, _, _, rfl, NA_b.out, NB_b.out⟩)
    have X_b := Aside0.mk (show Rb 3 (((1 : Int) : Rat) / ((x : Int) : Rat)) from quo_bnd (rb_int (by decide)) (rb_int2 HX.out.1 HX.out.2) HRN.out (by decide))
    have H_b := Aside0.mk (show Ra (w5.alloc (.cells #[.bool false, .slice A_b M_b c_b, .slice B_b K_b d_b] 56)) (.agg #[(.bool false), (.slice A_b M_b c_b), (.slice B_b K_b d_b)]) (((1 : Int) : Rat) / ((x : Int) : Rat)) from R3.below H_b0.out (below_alloc (Below.refl _ _) _))
    have HC : Aside0 (Calls Tryd.prog 60 #[.int .i64 x, .int .i64 x] (w5.alloc (.cells #[.bool false, .slice A_b M_b c_b, .slice B_b K_b d_b] 56)) (RaPostE (w5.alloc (.cells #[.bool false, .slice A_b M_b c_b, .slice B_b K_b d_b] 56)) (((1 : Int) : Rat)) 0)) := ⟨(qof_w x x _ HX.out.1 HX.out.2 HX.out.1 HX.out.2).mono fun _ _ h => of_rat (HNE.out) (by have h := HRN.out; grind) h⟩
    go_wp2_with fail
    refine HC.out.mono ?_
    clear HC
    rintro e w7 ⟨v_c, rfl, ⟨A_c, M_c, c_c, B_c, K_c, d_c, rfl, hNA, hNB⟩, hB⟩
    have B7 := Aside0.mk hB
    have T7 := Aside0.mk (T6.out.trans (hB.mono T6.out.size))
    rw [show decide (Rat.num ((1 : Int) : Rat) < 0) = false from rfl]
    have NA_c := Aside0.mk hNA
    have NB_c := Aside0.mk hNB
    clear hNA hNB hB
    have H_bx_c := Aside0.mk (Blk_alloc w7 (.bool false) (.slice A_c M_c c_c) (.slice B_c K_c d_c) 56)
    have B8 := Aside0.mk (below_alloc (Below.refl w7.heap.size w7) (.cells #[.bool false, .slice A_c M_c c_c, .slice B_c K_c d_c] 56))
    have T8 := Aside0.mk (T7.out.trans (B8.out.mono T7.out.size))
    have H_c0 := Aside0.mk (show Ra w7 (.agg #[(.bool false), (.slice A_c M_c c_c), (.slice B_c K_c d_c)]) (((1 : Int) : Rat)) from by unfold Ra; rw [show decide (Rat.num ((1 : Int) : Rat) < 0) = false from rfl]; exact ⟨_, _, _, _, _, _, rfl, NA_c.out, NB_c.out⟩)
    have X_c := Aside0.mk (show Rb 1 (((1 : Int) : Rat)) from rb_int (by decide))
    have H_c := Aside0.mk (show Ra (w7.alloc (.cells #[.bool false, .slice A_c M_c c_c, .slice B_c K_c d_c] 56)) (.agg #[(.bool false), (.slice A_c M_c c_c), (.slice B_c K_c d_c)]) (((1 : Int) : Rat)) from R3.below H_c0.out (below_alloc (Below.refl _ _) _))
    have HC : Aside0 (Calls Tryd.prog 60 #[.int .i64 (-9223372036854775808), .int .i64 (-1)] (w7.alloc (.cells #[.bool false, .slice A_c M_c c_c, .slice B_c K_c d_c] 56)) (R3PostE (w7.alloc (.cells #[.bool false, .slice A_c M_c c_c, .slice B_c K_c d_c] 56)) false (9223372036854775808) (1) 0)) := ⟨(qof_w (-9223372036854775808) (-1) _ (by decide) (by decide) (by decide) (by decide)).mono fun _ _ h => by unfold OfPost at h; rw [if_neg (by decide)] at h; exact h⟩
    go_wp2_with fail
    refine HC.out.mono ?_
    clear HC
    rintro e w9 ⟨v_d, rfl, ⟨A_d, M_d, c_d, B_d, K_d, d_d, rfl, hNA, hNB⟩, hB⟩
    have B9 := Aside0.mk hB
    have T9 := Aside0.mk (T8.out.trans (hB.mono T8.out.size))
    have NA_d := Aside0.mk hNA
    have NB_d := Aside0.mk hNB
    clear hNA hNB hB
    have H_bx_d := Aside0.mk (Blk_alloc w9 (.bool false) (.slice A_d M_d c_d) (.slice B_d K_d d_d) 56)
    have B10 := Aside0.mk (below_alloc (Below.refl w9.heap.size w9) (.cells #[.bool false, .slice A_d M_d c_d, .slice B_d K_d d_d] 56))
    have T10 := Aside0.mk (T9.out.trans (B10.out.mono T9.out.size))
    have H_rd := Aside0.mk (show R3 (w9.alloc (.cells #[.bool false, .slice A_d M_d c_d, .slice B_d K_d d_d] 56)) (.agg #[(.bool false), (.slice A_d M_d c_d), (.slice B_d K_d d_d)]) false (9223372036854775808) (1) from R3.below (show R3 w9 (.agg #[(.bool false), (.slice A_d M_d c_d), (.slice B_d K_d d_d)]) false (9223372036854775808) (1) from ⟨_, _, _, _, _, _, rfl, NA_d.out, NB_d.out⟩) (below_alloc (Below.refl _ _) _))
    go_wp2_with fail
    have B11 := Aside0.mk (Below.drew (Below.refl (w9.alloc (.cells #[.bool false, .slice A_d M_d c_d, .slice B_d K_d d_d] 56)).heap.size (w9.alloc (.cells #[.bool false, .slice A_d M_d c_d, .slice B_d K_d d_d] 56))))
    have T11 := Aside0.mk (T10.out.trans (B11.out.mono T10.out.size))
    have HS11 := Aside0.mk (fun (W : World) (hW : Below ((w9.alloc (.cells #[.bool false, .slice A_d M_d c_d, .slice B_d K_d d_d] 56)).drew).heap.size ((w9.alloc (.cells #[.bool false, .slice A_d M_d c_d, .slice B_d K_d d_d] 56)).drew) W) => show W.cell? ⟨w3.heap.size, 0, none⟩ = some (.bool false) ∧ W.cell? ⟨w3.heap.size, 1, none⟩ = some (.slice A_a M_a c_a) ∧ W.cell? ⟨w3.heap.size, 2, none⟩ = some (.slice B_a K_a d_a) ∧ W.cell? ⟨w5.heap.size, 0, none⟩ = some (.bool false) ∧ W.cell? ⟨w5.heap.size, 1, none⟩ = some (.slice A_b M_b c_b) ∧ W.cell? ⟨w5.heap.size, 2, none⟩ = some (.slice B_b K_b d_b) ∧ W.cell? ⟨w7.heap.size, 0, none⟩ = some (.bool false) ∧ W.cell? ⟨w7.heap.size, 1, none⟩ = some (.slice A_c M_c c_c) ∧ W.cell? ⟨w7.heap.size, 2, none⟩ = some (.slice B_c K_c d_c) ∧ W.cell? ⟨w9.heap.size, 0, none⟩ = some (.bool false) ∧ W.cell? ⟨w9.heap.size, 1, none⟩ = some (.slice A_d M_d c_d) ∧ W.cell? ⟨w9.heap.size, 2, none⟩ = some (.slice B_d K_d d_d) from ⟨((((((((H_bx_a.out.below B5.out).below B6.out).below B7.out).below B8.out).below B9.out).below B10.out).below B11.out).below hW).1.1, ((((((((H_bx_a.out.below B5.out).below B6.out).below B7.out).below B8.out).below B9.out).below B10.out).below B11.out).below hW).1.2.1, ((((((((H_bx_a.out.below B5.out).below B6.out).below B7.out).below B8.out).below B9.out).below B10.out).below B11.out).below hW).1.2.2, ((((((H_bx_b.out.below B7.out).below B8.out).below B9.out).below B10.out).below B11.out).below hW).1.1, ((((((H_bx_b.out.below B7.out).below B8.out).below B9.out).below B10.out).below B11.out).below hW).1.2.1, ((((((H_bx_b.out.below B7.out).below B8.out).below B9.out).below B10.out).below B11.out).below hW).1.2.2, ((((H_bx_c.out.below B9.out).below B10.out).below B11.out).below hW).1.1, ((((H_bx_c.out.below B9.out).below B10.out).below B11.out).below hW).1.2.1, ((((H_bx_c.out.below B9.out).below B10.out).below B11.out).below hW).1.2.2, ((H_bx_d.out.below B11.out).below hW).1.1, ((H_bx_d.out.below B11.out).below hW).1.2.1, ((H_bx_d.out.below B11.out).below hW).1.2.2⟩)
    have U11 := Aside0.mk (Below.refl ((w9.alloc (.cells #[.bool false, .slice A_d M_d c_d, .slice B_d K_d d_d] 56)).drew).heap.size ((w9.alloc (.cells #[.bool false, .slice A_d M_d c_d, .slice B_d K_d d_d] 56)).drew))
    refine wp_region_held_drew (S := fun W => W.cell? ⟨w3.heap.size, 0, none⟩ = some (.bool false) ∧ W.cell? ⟨w3.heap.size, 1, none⟩ = some (.slice A_a M_a c_a) ∧ W.cell? ⟨w3.heap.size, 2, none⟩ = some (.slice B_a K_a d_a) ∧ W.cell? ⟨w5.heap.size, 0, none⟩ = some (.bool false) ∧ W.cell? ⟨w5.heap.size, 1, none⟩ = some (.slice A_b M_b c_b) ∧ W.cell? ⟨w5.heap.size, 2, none⟩ = some (.slice B_b K_b d_b) ∧ W.cell? ⟨w7.heap.size, 0, none⟩ = some (.bool false) ∧ W.cell? ⟨w7.heap.size, 1, none⟩ = some (.slice A_c M_c c_c) ∧ W.cell? ⟨w7.heap.size, 2, none⟩ = some (.slice B_c K_c d_c) ∧ W.cell? ⟨w9.heap.size, 0, none⟩ = some (.bool false) ∧ W.cell? ⟨w9.heap.size, 1, none⟩ = some (.slice A_d M_d c_d) ∧ W.cell? ⟨w9.heap.size, 2, none⟩ = some (.slice B_d K_d d_d)) (by kernel_rfl) (HS11.out _ (Below.refl _ _)) (fun hHeld => ?_)
    refine Inv.takeL (i := 0) (v := ?v12_0) rfl (by kernel_rfl) (by kernel_rfl) (by kernel_rfl) (fun _ _ _ h => h) (by rfl) ?hy12_0 (by assumption) ?rest12_0
    case hy12_0 => ((intro w hSw; (try dsimp only at hSw); go_simp) <;> with_reducible rfl)
    try simp only [Act.put, List.setIfInBounds_toArray, List.set_cons_zero, List.set_cons_succ]
    refine Inv.takeL (i := 1) (v := ?v12_1) rfl (by kernel_rfl) (by kernel_rfl) (by kernel_rfl) (fun _ _ _ h => h) (by rfl) ?hy12_1 (by assumption) ?rest12_1
    case hy12_1 => ((intro w hSw; (try dsimp only at hSw); go_simp) <;> with_reducible rfl)
    try simp only [Act.put, List.setIfInBounds_toArray, List.set_cons_zero, List.set_cons_succ]
    refine Inv.takeL (i := 2) (v := ?v12_2) rfl (by kernel_rfl) (by kernel_rfl) (by kernel_rfl) (fun _ _ _ h => h) (by rfl) ?hy12_2 (by assumption) ?rest12_2
    case hy12_2 => ((intro w hSw; (try dsimp only at hSw); go_simp) <;> with_reducible rfl)
    try simp only [Act.put, List.setIfInBounds_toArray, List.set_cons_zero, List.set_cons_succ]
    refine Inv.takeL (i := 3) (v := ?v12_3) rfl (by kernel_rfl) (by kernel_rfl) (by kernel_rfl) (fun _ _ _ h => h) (by rfl) ?hy12_3 (by assumption) ?rest12_3
    case hy12_3 => ((intro w hSw; (try dsimp only at hSw); go_simp) <;> with_reducible rfl)
    try simp only [Act.put, List.setIfInBounds_toArray, List.set_cons_zero, List.set_cons_succ]
    refine Inv.takeL (i := 4) (v := ?v12_4) rfl (by kernel_rfl) (by kernel_rfl) (by kernel_rfl) (fun _ _ _ h => h) (by rfl) ?hy12_4 (by assumption) ?rest12_4
    case hy12_4 => ((intro w hSw; (try dsimp only at hSw); go_simp) <;> with_reducible rfl)
    try simp only [Act.put, List.setIfInBounds_toArray, List.set_cons_zero, List.set_cons_succ]
    refine Inv.takeL (i := 5) (v := ?v12_5) rfl (by kernel_rfl) (by kernel_rfl) (by kernel_rfl) (fun _ _ _ h => h) (by rfl) ?hy12_5 (by assumption) ?rest12_5
    case hy12_5 => ((intro w hSw; (try dsimp only at hSw); go_simp) <;> with_reducible rfl)
    try simp only [Act.put, List.setIfInBounds_toArray, List.set_cons_zero, List.set_cons_succ]
    refine Inv.takeL (i := 6) (v := ?v12_6) rfl (by kernel_rfl) (by kernel_rfl) (by kernel_rfl) (fun _ _ _ h => h) (by rfl) ?hy12_6 (by assumption) ?rest12_6
    case hy12_6 => ((intro w hSw; (try dsimp only at hSw); go_simp) <;> with_reducible rfl)
    try simp only [Act.put, List.setIfInBounds_toArray, List.set_cons_zero, List.set_cons_succ]
    refine Inv.takeL (i := 7) (v := ?v12_7) rfl (by kernel_rfl) (by kernel_rfl) (by kernel_rfl) (fun _ _ _ h => h) (by rfl) ?hy12_7 (by assumption) ?rest12_7
    case hy12_7 => ((intro w hSw; (try dsimp only at hSw); go_simp) <;> with_reducible rfl)
    try simp only [Act.put, List.setIfInBounds_toArray, List.set_cons_zero, List.set_cons_succ]
    refine Inv.takeL (i := 8) (v := ?v12_8) rfl (by kernel_rfl) (by kernel_rfl) (by kernel_rfl) (fun _ _ _ h => h) (by rfl) ?hy12_8 (by assumption) ?rest12_8
    case hy12_8 => ((intro w hSw; (try dsimp only at hSw); go_simp) <;> with_reducible rfl)
    try simp only [Act.put, List.setIfInBounds_toArray, List.set_cons_zero, List.set_cons_succ]
    refine Inv.takeL (i := 9) (v := ?v12_9) rfl (by kernel_rfl) (by kernel_rfl) (by kernel_rfl) (fun _ _ _ h => h) (by rfl) ?hy12_9 (by assumption) ?rest12_9
    case hy12_9 => ((intro w hSw; (try dsimp only at hSw); go_simp) <;> with_reducible rfl)
    try simp only [Act.put, List.setIfInBounds_toArray, List.set_cons_zero, List.set_cons_succ]
    refine Inv.takeL (i := 10) (v := ?v12_10) rfl (by kernel_rfl) (by kernel_rfl) (by kernel_rfl) (fun _ _ _ h => h) (by rfl) ?hy12_10 (by assumption) ?rest12_10
    case hy12_10 => ((intro w hSw; (try dsimp only at hSw); go_simp) <;> with_reducible rfl)
    try simp only [Act.put, List.setIfInBounds_toArray, List.set_cons_zero, List.set_cons_succ]
    refine Inv.takeL (i := 11) (v := ?v12_11) rfl (by kernel_rfl) (by kernel_rfl) (by kernel_rfl) (fun _ _ _ h => h) (by rfl) ?hy12_11 (by assumption) ?rest12_11
    case hy12_11 => ((intro w hSw; (try dsimp only at hSw); go_simp) <;> with_reducible rfl)
    try simp only [Act.put, List.setIfInBounds_toArray, List.set_cons_zero, List.set_cons_succ]
    refine Inv.takeL (i := 12) (v := ?v12_12) rfl (by kernel_rfl) (by kernel_rfl) (by kernel_rfl) (fun _ _ _ h => h) (by rfl) ?hy12_12 (by assumption) ?rest12_12
    case hy12_12 => ((intro w hSw; (try dsimp only at hSw); go_simp) <;> with_reducible rfl)
    try simp only [Act.put, List.setIfInBounds_toArray, List.set_cons_zero, List.set_cons_succ]
    refine Inv.takeL (i := 13) (v := ?v12_13) rfl (by kernel_rfl) (by kernel_rfl) (by kernel_rfl) (fun _ _ _ h => h) (by rfl) ?hy12_13 (by assumption) ?rest12_13
    case hy12_13 => ((intro w hSw; (try dsimp only at hSw); go_simp) <;> with_reducible rfl)
    try simp only [Act.put, List.setIfInBounds_toArray, List.set_cons_zero, List.set_cons_succ]
    refine Inv.takeL (i := 14) (v := ?v12_14) rfl (by kernel_rfl) (by kernel_rfl) (by kernel_rfl) (fun _ _ _ h => h) (by rfl) ?hy12_14 (by assumption) ?rest12_14
    case hy12_14 => ((intro w hSw; (try dsimp only at hSw); go_simp) <;> with_reducible rfl)
    try simp only [Act.put, List.setIfInBounds_toArray, List.set_cons_zero, List.set_cons_succ]
    refine Inv.takeL (i := 15) (v := ?v12_15) rfl (by kernel_rfl) (by kernel_rfl) (by kernel_rfl) (fun _ _ _ h => h) (by rfl) ?hy12_15 (by assumption) ?rest12_15
    case hy12_15 => ((intro w hSw; (try dsimp only at hSw); go_simp) <;> with_reducible rfl)
    try simp only [Act.put, List.setIfInBounds_toArray, List.set_cons_zero, List.set_cons_succ]
    refine Inv.takeL (i := 16) (v := ?v12_16) rfl (by kernel_rfl) (by kernel_rfl) (by kernel_rfl) (fun _ _ _ h => h) (by rfl) ?hy12_16 (by assumption) ?rest12_16
    case hy12_16 => ((intro w hSw; (try dsimp only at hSw); go_simp) <;> with_reducible rfl)
    try simp only [Act.put, List.setIfInBounds_toArray, List.set_cons_zero, List.set_cons_succ]
    have HC : Aside0 (Calls Tryd.prog 64 #[(.agg #[(.bool false), (.slice A_a M_a c_a), (.slice B_a K_a d_a)]), (.agg #[(.bool false), (.slice A_b M_b c_b), (.slice B_b K_b d_b)])] ((w9.alloc (.cells #[.bool false, .slice A_d M_d c_d, .slice B_d K_d d_d] 56)).drew) (RaPost ((w9.alloc (.cells #[.bool false, .slice A_d M_d c_d, .slice B_d K_d d_d] 56)).drew) ((((x : Int) : Rat)) * (((1 : Int) : Rat) / ((x : Int) : Rat))))) := ⟨qmulR (((((((H_a.out.below B5.out).below B6.out).below B7.out).below B8.out).below B9.out).below B10.out).below B11.out) (((((H_b.out.below B7.out).below B8.out).below B9.out).below B10.out).below B11.out) (X_a.out.le (by decide)) (X_b.out.le (by decide))⟩
    refine Inv.oneL (i := 17) rfl (by kernel_rfl) (fun K hK => ?_)
    go_simp
    refine HC.out.mono ?_
    clear HC
    rintro e w12 ⟨v_ab, rfl, hN, hB⟩
    try go_wp2_with fail
    have B12 := Aside0.mk hB
    have T12 := Aside0.mk (T11.out.trans (hB.mono T11.out.size))
    have H_ab := Aside0.mk hN
    have X_ab := Aside0.mk (show Rb 5 ((((x : Int) : Rat)) * (((1 : Int) : Rat) / ((x : Int) : Rat))) from mul_bnd X_a.out X_b.out (by decide))
    clear hN hB
    have U12 := Aside0.mk (U11.out.trans (B12.out.mono U11.out.size))
    refine hK.out _ _ (HS11.out _ U12.out) (fun hHeld => ?_)
    clear hK K
    try simp only [Act.put, List.setIfInBounds_toArray, List.set_cons_zero, List.set_cons_succ]
    have HC : Aside0 (Calls Tryd.prog 65 #[.int .i64 1] w12 (RaPost w12 (((1 : Int) : Rat)))) := ⟨by have h := sint_w (1) w12 (by decide) (by decide); exact h⟩
    refine Inv.oneL (i := 18) rfl (by kernel_rfl) (fun K hK => ?_)
    go_simp
    refine HC.out.mono ?_
    clear HC
    rintro e w13 ⟨v_i1, rfl, hN, hB⟩
    try go_wp2_with fail
    have B13 := Aside0.mk hB
    have T13 := Aside0.mk (T12.out.trans (hB.mono T12.out.size))
    have H_i1 := Aside0.mk hN
    have X_i1 := Aside0.mk (show Rb 1 (((1 : Int) : Rat)) from rb_int (by decide))
    clear hN hB
    have U13 := Aside0.mk (U12.out.trans (B13.out.mono U12.out.size))
    refine hK.out _ _ (HS11.out _ U13.out) (fun hHeld => ?_)
    clear hK K
    try simp only [Act.put, List.setIfInBounds_toArray, List.set_cons_zero, List.set_cons_succ]
    have HC : Aside0 (Calls Tryd.prog 58 #[v_ab, v_i1] w13 (TruePost w13)) := ⟨ssameR (H_ab.out.below B13.out) H_i1.out (X_ab.out.le (by decide)) (by have h := HRN.out; grind)⟩
    refine Inv.oneL (i := 19) rfl (by kernel_rfl) (fun K hK => ?_)
    go_simp
    refine HC.out.mono ?_
    clear HC
    rintro e w14 ⟨rfl, hB⟩
    try go_wp2_with fail
    have B14 := Aside0.mk hB
    have T14 := Aside0.mk (T13.out.trans (hB.mono T13.out.size))
    clear hB
    have U14 := Aside0.mk (U13.out.trans (B14.out.mono U13.out.size))
    refine hK.out _ _ (HS11.out _ U14.out) (fun hHeld => ?_)
    clear hK K
    try simp only [Act.put, List.setIfInBounds_toArray, List.set_cons_zero, List.set_cons_succ]
    refine Inv.takeL (i := 20) (v := ?v12_20) rfl (by kernel_rfl) (by kernel_rfl) (by kernel_rfl) (fun _ _ _ h => h) (by rfl) ?hy12_20 (by assumption) ?rest12_20
    case hy12_20 => ((intro w hSw; (try dsimp only at hSw); go_simp) <;> with_reducible rfl)
    try simp only [Act.put, List.setIfInBounds_toArray, List.set_cons_zero, List.set_cons_succ]
    refine Inv.takeL (i := 21) (v := ?v12_21) rfl (by kernel_rfl) (by kernel_rfl) (by kernel_rfl) (fun _ _ _ h => h) (by rfl) ?hy12_21 (by assumption) ?rest12_21
    case hy12_21 => ((intro w hSw; (try dsimp only at hSw); go_simp) <;> with_reducible rfl)
    try simp only [Act.put, List.setIfInBounds_toArray, List.set_cons_zero, List.set_cons_succ]
    refine Inv.takeL (i := 22) (v := ?v12_22) rfl (by kernel_rfl) (by kernel_rfl) (by kernel_rfl) (fun _ _ _ h => h) (by rfl) ?hy12_22 (by assumption) ?rest12_22
    case hy12_22 => ((intro w hSw; (try dsimp only at hSw); go_simp) <;> with_reducible rfl)
    try simp only [Act.put, List.setIfInBounds_toArray, List.set_cons_zero, List.set_cons_succ]
    have HC : Aside0 (Calls Tryd.prog 65 #[.int .i64 1] w14 (RaPost w14 (((1 : Int) : Rat)))) := ⟨by have h := sint_w (1) w14 (by decide) (by decide); exact h⟩
    refine Inv.oneL (i := 23) rfl (by kernel_rfl) (fun K hK => ?_)
    go_simp
    refine HC.out.mono ?_
    clear HC
    rintro e w15 ⟨v_i2, rfl, hN, hB⟩
    try go_wp2_with fail
    have B15 := Aside0.mk hB
    have T15 := Aside0.mk (T14.out.trans (hB.mono T14.out.size))
    have H_i2 := Aside0.mk hN
    have X_i2 := Aside0.mk (show Rb 1 (((1 : Int) : Rat)) from rb_int (by decide))
    clear hN hB
    have U15 := Aside0.mk (U14.out.trans (B15.out.mono U14.out.size))
    refine hK.out _ _ (HS11.out _ U15.out) (fun hHeld => ?_)
    clear hK K
    try simp only [Act.put, List.setIfInBounds_toArray, List.set_cons_zero, List.set_cons_succ]
    have HC : Aside0 (Calls Tryd.prog 58 #[(.agg #[(.bool false), (.slice A_c M_c c_c), (.slice B_c K_c d_c)]), v_i2] w15 (TruePost w15)) := ⟨ssameR (((((((H_c.out.below B9.out).below B10.out).below B11.out).below B12.out).below B13.out).below B14.out).below B15.out) H_i2.out (X_c.out.le (by decide)) (rfl)⟩
    refine Inv.oneL (i := 24) rfl (by kernel_rfl) (fun K hK => ?_)
    go_simp
    refine HC.out.mono ?_
    clear HC
    rintro e w16 ⟨rfl, hB⟩
    try go_wp2_with fail
    have B16 := Aside0.mk hB
    have T16 := Aside0.mk (T15.out.trans (hB.mono T15.out.size))
    clear hB
    have U16 := Aside0.mk (U15.out.trans (B16.out.mono U15.out.size))
    refine hK.out _ _ (HS11.out _ U16.out) (fun hHeld => ?_)
    clear hK K
    try simp only [Act.put, List.setIfInBounds_toArray, List.set_cons_zero, List.set_cons_succ]
    refine Inv.takeL (i := 25) (v := ?v12_25) rfl (by kernel_rfl) (by kernel_rfl) (by kernel_rfl) (fun _ _ _ h => h) (by rfl) ?hy12_25 (by assumption) ?rest12_25
    case hy12_25 => ((intro w hSw; (try dsimp only at hSw); go_simp) <;> with_reducible rfl)
    try simp only [Act.put, List.setIfInBounds_toArray, List.set_cons_zero, List.set_cons_succ]
    refine Inv.takeL (i := 26) (v := ?v12_26) rfl (by kernel_rfl) (by kernel_rfl) (by kernel_rfl) (fun _ _ _ h => h) (by rfl) ?hy12_26 (by assumption) ?rest12_26
    case hy12_26 => ((intro w hSw; (try dsimp only at hSw); go_simp) <;> with_reducible rfl)
    try simp only [Act.put, List.setIfInBounds_toArray, List.set_cons_zero, List.set_cons_succ]
    refine Inv.takeL (i := 27) (v := ?v12_27) rfl (by kernel_rfl) (by kernel_rfl) (by kernel_rfl) (fun _ _ _ h => h) (by rfl) ?hy12_27 (by assumption) ?rest12_27
    case hy12_27 => ((intro w hSw; (try dsimp only at hSw); go_simp) <;> with_reducible rfl)
    try simp only [Act.put, List.setIfInBounds_toArray, List.set_cons_zero, List.set_cons_succ]
    refine Inv.takeL (i := 28) (v := ?v12_28) rfl (by kernel_rfl) (by kernel_rfl) (by kernel_rfl) (fun _ _ _ h => h) (by rfl) ?hy12_28 (by assumption) ?rest12_28
    case hy12_28 => ((intro w hSw; (try dsimp only at hSw); go_simp) <;> with_reducible rfl)
    try simp only [Act.put, List.setIfInBounds_toArray, List.set_cons_zero, List.set_cons_succ]
    refine Inv.takeL (i := 29) (v := ?v12_29) rfl (by kernel_rfl) (by kernel_rfl) (by kernel_rfl) (fun _ _ _ h => h) (by rfl) ?hy12_29 (by assumption) ?rest12_29
    case hy12_29 => ((intro w hSw; (try dsimp only at hSw); go_simp) <;> with_reducible rfl)
    try simp only [Act.put, List.setIfInBounds_toArray, List.set_cons_zero, List.set_cons_succ]
    refine Inv.takeL (i := 30) (v := ?v12_30) rfl (by kernel_rfl) (by kernel_rfl) (by kernel_rfl) (fun _ _ _ h => h) (by rfl) ?hy12_30 (by assumption) ?rest12_30
    case hy12_30 => ((intro w hSw; (try dsimp only at hSw); go_simp) <;> with_reducible rfl)
    try simp only [Act.put, List.setIfInBounds_toArray, List.set_cons_zero, List.set_cons_succ]
    refine Inv.takeL (i := 31) (v := ?v12_31) rfl (by kernel_rfl) (by kernel_rfl) (by kernel_rfl) (fun _ _ _ h => h) (by rfl) ?hy12_31 (by assumption) ?rest12_31
    case hy12_31 => ((intro w hSw; (try dsimp only at hSw); go_simp) <;> with_reducible rfl)
    try simp only [Act.put, List.setIfInBounds_toArray, List.set_cons_zero, List.set_cons_succ]
    refine Inv.takeL (i := 32) (v := ?v12_32) rfl (by kernel_rfl) (by kernel_rfl) (by kernel_rfl) (fun _ _ _ h => h) (by rfl) ?hy12_32 (by assumption) ?rest12_32
    case hy12_32 => ((intro w hSw; (try dsimp only at hSw); go_simp) <;> with_reducible rfl)
    try simp only [Act.put, List.setIfInBounds_toArray, List.set_cons_zero, List.set_cons_succ]
    refine Inv.takeL (i := 33) (v := ?v12_33) rfl (by kernel_rfl) (by kernel_rfl) (by kernel_rfl) (fun _ _ _ h => h) (by rfl) ?hy12_33 (by assumption) ?rest12_33
    case hy12_33 => ((intro w hSw; (try dsimp only at hSw); go_simp) <;> with_reducible rfl)
    try simp only [Act.put, List.setIfInBounds_toArray, List.set_cons_zero, List.set_cons_succ]
    refine Inv.takeL (i := 34) (v := ?v12_34) rfl (by kernel_rfl) (by kernel_rfl) (by kernel_rfl) (fun _ _ _ h => h) (by rfl) ?hy12_34 (by assumption) ?rest12_34
    case hy12_34 => ((intro w hSw; (try dsimp only at hSw); go_simp) <;> with_reducible rfl)
    try simp only [Act.put, List.setIfInBounds_toArray, List.set_cons_zero, List.set_cons_succ]
    refine Inv.takeL (i := 35) (v := ?v12_35) rfl (by kernel_rfl) (by kernel_rfl) (by kernel_rfl) (fun _ _ _ h => h) (by rfl) ?hy12_35 (by assumption) ?rest12_35
    case hy12_35 => ((intro w hSw; (try dsimp only at hSw); go_simp) <;> with_reducible rfl)
    try simp only [Act.put, List.setIfInBounds_toArray, List.set_cons_zero, List.set_cons_succ]
    refine Inv.takeL (i := 36) (v := ?v12_36) rfl (by kernel_rfl) (by kernel_rfl) (by kernel_rfl) (fun _ _ _ h => h) (by rfl) ?hy12_36 (by assumption) ?rest12_36
    case hy12_36 => ((intro w hSw; (try dsimp only at hSw); go_simp) <;> with_reducible rfl)
    try simp only [Act.put, List.setIfInBounds_toArray, List.set_cons_zero, List.set_cons_succ]
    refine Inv.takeL (i := 37) (v := ?v12_37) rfl (by kernel_rfl) (by kernel_rfl) (by kernel_rfl) (fun _ _ _ h => h) (by rfl) ?hy12_37 (by assumption) ?rest12_37
    case hy12_37 => ((intro w hSw; (try dsimp only at hSw); go_simp) <;> with_reducible rfl)
    try simp only [Act.put, List.setIfInBounds_toArray, List.set_cons_zero, List.set_cons_succ]
    refine Inv.takeL (i := 38) (v := ?v12_38) rfl (by kernel_rfl) (by kernel_rfl) (by kernel_rfl) (fun _ _ _ h => h) (by rfl) ?hy12_38 (by assumption) ?rest12_38
    case hy12_38 => ((intro w hSw; (try dsimp only at hSw); go_simp) <;> with_reducible rfl)
    try simp only [Act.put, List.setIfInBounds_toArray, List.set_cons_zero, List.set_cons_succ]
    refine Inv.takeL (i := 39) (v := ?v12_39) rfl (by kernel_rfl) (by kernel_rfl) (by kernel_rfl) (fun _ _ _ h => h) (by rfl) ?hy12_39 (by assumption) ?rest12_39
    case hy12_39 => ((intro w hSw; (try dsimp only at hSw); go_simp) <;> with_reducible rfl)
    try simp only [Act.put, List.setIfInBounds_toArray, List.set_cons_zero, List.set_cons_succ]
    refine Inv.takeL (i := 40) (v := ?v12_40) rfl (by kernel_rfl) (by kernel_rfl) (by kernel_rfl) (fun _ _ _ h => h) (by rfl) ?hy12_40 (by assumption) ?rest12_40
    case hy12_40 => ((intro w hSw; (try dsimp only at hSw); go_simp) <;> with_reducible rfl)
    try simp only [Act.put, List.setIfInBounds_toArray, List.set_cons_zero, List.set_cons_succ]
    refine Inv.takeL (i := 41) (v := ?v12_41) rfl (by kernel_rfl) (by kernel_rfl) (by kernel_rfl) (fun _ _ _ h => h) (by rfl) ?hy12_41 (by assumption) ?rest12_41
    case hy12_41 => ((intro w hSw; (try dsimp only at hSw); go_simp) <;> with_reducible rfl)
    try simp only [Act.put, List.setIfInBounds_toArray, List.set_cons_zero, List.set_cons_succ]
    have HC : Aside0 (Calls Tryd.prog 66 #[(.agg #[(.bool false), (.slice A_d M_d c_d), (.slice B_d K_d d_d)])] w16 (TextPost w16 (ratT false 9223372036854775808 1))) := ⟨qtext_w ((((((H_rd.out.below B11.out).below B12.out).below B13.out).below B14.out).below B15.out).below B16.out) (pw_lt1000 (show 9223372036854775808 < pw 2 by decide) (by omega)) (pw_lt1000 (show 1 < pw 1 by decide) (by omega)) ((((((((((((((((TAB.out.below B1.out).below B2.out).below B3.out).below B4.out).below B5.out).below B6.out).below B7.out).below B8.out).below B9.out).below B10.out).below B11.out).below B12.out).below B13.out).below B14.out).below B15.out).below B16.out)⟩
    refine Inv.oneL (i := 42) rfl (by kernel_rfl) (fun K hK => ?_)
    go_simp
    refine HC.out.mono ?_
    clear HC
    rintro e w17 ⟨s, rfl, hS, hB⟩; have hse : s = ⟨#[57, 50, 50, 51, 51, 55, 50, 48, 51, 54, 56, 53, 52, 55, 55, 53, 56, 48, 56]⟩ := (by rw [bytes_eq hS, txt_end]); subst hse; clear hS
    try go_wp2_with fail
    have B17 := Aside0.mk hB
    have T17 := Aside0.mk (T16.out.trans (hB.mono T16.out.size))
    clear hB
    have U17 := Aside0.mk (U16.out.trans (B17.out.mono U16.out.size))
    refine hK.out _ _ (HS11.out _ U17.out) (fun hHeld => ?_)
    clear hK K
    try simp only [Act.put, List.setIfInBounds_toArray, List.set_cons_zero, List.set_cons_succ]
    refine Inv.takeL (i := 43) (v := ?v12_43) rfl (by kernel_rfl) (by kernel_rfl) (by kernel_rfl) (fun _ _ _ h => h) (by rfl) ?hy12_43 (by assumption) ?rest12_43
    case hy12_43 => ((intro w hSw; (try dsimp only at hSw); go_simp) <;> with_reducible rfl)
    try simp only [Act.put, List.setIfInBounds_toArray, List.set_cons_zero, List.set_cons_succ]
    refine Inv.takeL (i := 44) (v := ?v12_44) rfl (by kernel_rfl) (by kernel_rfl) (by kernel_rfl) (fun _ _ _ h => h) (by rfl) ?hy12_44 (by assumption) ?rest12_44
    case hy12_44 => ((intro w hSw; (try dsimp only at hSw); go_simp) <;> with_reducible rfl)
    try simp only [Act.put, List.setIfInBounds_toArray, List.set_cons_zero, List.set_cons_succ]
    refine Inv.takeL (i := 45) (v := ?v12_45) rfl (by kernel_rfl) (by kernel_rfl) (by kernel_rfl) (fun _ _ _ h => h) (by rfl) ?hy12_45 (by assumption) ?rest12_45
    case hy12_45 => ((intro w hSw; (try dsimp only at hSw); go_simp) <;> with_reducible rfl)
    try simp only [Act.put, List.setIfInBounds_toArray, List.set_cons_zero, List.set_cons_succ]
    refine wpAnyH_done (by kernel_rfl) ?_ _
    go_wp2_with fail
    go_ret
    exact ⟨rfl, T17.out⟩
end Go.Proofs.YtklhpobphloehaaDoor.ratEnds
