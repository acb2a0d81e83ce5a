/- The law RatMakes: the walk through its calls, by their contracts; the row and its card. -/
import Derived.Test.YtklhpobphloehaaDoorS4
import Derived.Test.YtklhpobphloehaaDoorS6
set_option linter.unusedVariables false
namespace Go.Proofs.YtklhpobphloehaaDoor.ratMakes
open Go.RowKit
open Go.Proofs.YtklhpobphloehaaDoor.G Go.Proofs.YtklhpobphloehaaDoor.Nn Go.Proofs.YtklhpobphloehaaDoorW.PrintWords Go.Proofs.YtklhpobphloehaaDoorW.PrintLast

theorem bx (W : World) (g : Nat) (a b c : Value) (t : TypeId) (hg : W.heap.size = g) : Blk (W.alloc (.cells #[a, b, c] t)) g a b c := by
  subst hg
  exact Blk_alloc W a b c t
theorem szeroR (w : World) : Calls Tryd.prog 71 #[] w (RaPost w (0 : Rat)) := (szero_w w).mono fun e w' ⟨v, he, hR, hB⟩ => ⟨v, he, hR, hB⟩
theorem rb_zero : Rb 1 (0 : Rat) := ⟨by decide, by decide⟩
theorem rb_int {n : Int} (h : n.natAbs < 4294967296) : Rb 1 ((n : Int) : Rat) := ⟨by show n.natAbs < pw 1; exact h, by show 1 < pw 1; decide⟩
theorem ssameR {w : World} {v0 v1 : Value} {x y : Rat} (hx : Ra w v0 x) (hy : Ra w v1 y) (bx : Rb 400 x) (h : x = y) : Calls Tryd.prog 58 #[v0, v1] w (TruePost w) := by
  subst h
  exact ssame_w hx hy (pw_lt1000 bx.1 (by omega)) (pw_lt1000 bx.2 (by omega))
theorem of_form {n d : Int} (hn0 : -9223372036854775808 ≤ n) (hn1 : n ≤ 9223372036854775807) (hd0 : -9223372036854775808 ≤ d) (hd1 : d ≤ 9223372036854775807) :
    ∃ (B : Bool) (N D : Nat) (k : Int), (∀ w e w', OfPost w n d e w' → R3PostE w B N D k e w') ∧ N < pw 1000 ∧ D < pw 1000 := by
  have hw : ∀ z : Int, -9223372036854775808 ≤ z → z ≤ 9223372036854775807 → z.natAbs < pw 1000 := fun z h0 h1 => pw_lt1000 (show z.natAbs < pw 2 by rw [show pw 2 = 18446744073709551616 from by decide]; omega) (by omega)
  by_cases h : d = 0
  · exact ⟨false, 0, 0, 5, fun w e w' h2 => by unfold OfPost at h2; rw [if_pos h] at h2; exact h2, pw_lt1000 (show 0 < pw 1 from pw_pos 1) (by omega), pw_lt1000 (show 0 < pw 1 from pw_pos 1) (by omega)⟩
  · exact ⟨_, _, _, 0, fun w e w' h2 => by unfold OfPost at h2; rw [if_neg h] at h2; exact h2, Nat.lt_of_le_of_lt (Nat.div_le_self _ _) (hw n hn0 hn1), Nat.lt_of_le_of_lt (Nat.div_le_self _ _) (hw d hd0 hd1)⟩
theorem pw0_1000 : 0 < pw 1000 := pw_pos _
set_option maxHeartbeats 8000000 in
set_option maxRecDepth 100000 in
theorem walk (a0 : Bool) (a1 : Option Addr) (c1 : Nat) (l1 : List Int) (a2 : Option Addr) (c2 : Nat) (l2 : List Int) (a3 : Int) (a4 : Int) (g5 : Bool) (a5b : Option Addr) (c5b : Nat) (l5b : List Int) (a5c : Option Addr) (c5c : Nat) (l5c : List Int) (w : World) (hr1 : CU w a1 l1.length l1) (hc1 : l1.length ≤ c1) (hL1 : Lim l1) (hr2 : CU w a2 l2.length l2) (hc2 : l2.length ≤ c2) (hL2 : Lim l2) (hi3 : -9223372036854775808 ≤ a3 ∧ a3 ≤ 9223372036854775807) (hi4 : -9223372036854775808 ≤ a4 ∧ a4 ≤ 9223372036854775807) (hr5b : CU w a5b l5b.length l5b) (hc5b : l5b.length ≤ c5b) (hL5b : Lim l5b) (hr5c : CU w a5c l5c.length l5c) (hc5c : l5c.length ≤ c5c) (hL5c : Lim l5c) (HT : TabOk w) :
    Calls Tryd.prog 15 #[.bool a0, .slice a1 l1.length c1, .slice a2 l2.length c2, .int .i64 a3, .int .i64 a4, .agg #[.bool g5, .slice a5b l5b.length c5b, .slice a5c l5c.length c5c]] w (TruePost w) := by
  have C1 := Aside0.mk hr1
  have S1 := Aside0.mk hc1
  have L1 := Aside0.mk hL1
  clear hr1 hc1 hL1
  have C2 := Aside0.mk hr2
  have S2 := Aside0.mk hc2
  have L2 := Aside0.mk hL2
  clear hr2 hc2 hL2
  have C5b := Aside0.mk hr5b
  have S5b := Aside0.mk hc5b
  have L5b := Aside0.mk hL5b
  clear hr5b hc5b hL5b
  have C5c := Aside0.mk hr5c
  have S5c := Aside0.mk hc5c
  have L5c := Aside0.mk hL5c
  clear hr5c hc5c hL5c
  have TAB := Aside0.mk HT
  clear HT
  obtain ⟨Bq, Nq, Dq, kq, hof, hNq, hDq⟩ := of_form hi3.1 hi3.2 hi4.1 hi4.2
  have HOF1 := Aside0.mk (fun w => (qof_w a3 a4 w hi3.1 hi3.2 hi4.1 hi4.2).mono (fun _ _ h => hof _ _ _ h))
  have HOF2 := Aside0.mk (fun w => (sof_w a3 a4 w hi3.1 hi3.2 hi4.1 hi4.2).mono (fun _ _ h => hof _ _ _ h))
  have HNq := Aside0.mk hNq
  have HDq := Aside0.mk hDq
  clear hof hNq hDq hi3 hi4
  by_cases h20 : 20 < l5b.length
  ·
    go_enter Tryd.func15, Tryd.ntmps15
    have B1 := Aside0.mk (below_alloc (Below.refl w.heap.size w) (.cells #[.bool g5, .slice a5b l5b.length c5b, .slice a5c l5c.length c5c] 56))
    have T1 := Aside0.mk (B1.out.mono (Nat.le_refl _))
    have H_bx5 := Aside0.mk (bx w (w.heap.size) (.bool g5) (.slice a5b l5b.length c5b) (.slice a5c l5c.length c5c) 56 (by simp))
    have HC : Aside0 (Calls Tryd.prog 55 #[] (w.alloc (.cells #[.bool g5, .slice a5b l5b.length c5b, .slice a5c l5c.length c5c] 56)) (TruePost (w.alloc (.cells #[.bool g5, .slice a5b l5b.length c5b, .slice a5c l5c.length c5c] 56)))) := ⟨known2_w (w.alloc (.cells #[.bool g5, .slice a5b l5b.length c5b, .slice a5c l5c.length c5c] 56)) (TAB.out.below B1.out)⟩
    go_wp2_with fail
    refine HC.out.mono ?_
    clear HC
    rintro e w2 ⟨rfl, hB⟩
    have B2 := Aside0.mk hB
    have T2 := Aside0.mk (T1.out.trans (hB.mono T1.out.size))
    clear hB
    obtain ⟨⟨hx0, hx1, hx2⟩, hy0, hy1, hy2⟩ := (H_bx5.out.below B2.out)
    go_wp2_with fail
    go_ret
    exact ⟨rfl, T2.out⟩
  ·
    by_cases h21 : 20 < l5c.length
    ·
      go_enter Tryd.func15, Tryd.ntmps15
      have B1 := Aside0.mk (below_alloc (Below.refl w.heap.size w) (.cells #[.bool g5, .slice a5b l5b.length c5b, .slice a5c l5c.length c5c] 56))
      have T1 := Aside0.mk (B1.out.mono (Nat.le_refl _))
      have H_bx5 := Aside0.mk (bx w (w.heap.size) (.bool g5) (.slice a5b l5b.length c5b) (.slice a5c l5c.length c5c) 56 (by simp))
      have HC : Aside0 (Calls Tryd.prog 55 #[] (w.alloc (.cells #[.bool g5, .slice a5b l5b.length c5b, .slice a5c l5c.length c5c] 56)) (TruePost (w.alloc (.cells #[.bool g5, .slice a5b l5b.length c5b, .slice a5c l5c.length c5c] 56)))) := ⟨known2_w (w.alloc (.cells #[.bool g5, .slice a5b l5b.length c5b, .slice a5c l5c.length c5c] 56)) (TAB.out.below B1.out)⟩
      go_wp2_with fail
      refine HC.out.mono ?_
      clear HC
      rintro e w2 ⟨rfl, hB⟩
      have B2 := Aside0.mk hB
      have T2 := Aside0.mk (T1.out.trans (hB.mono T1.out.size))
      clear hB
      obtain ⟨⟨hx0, hx1, hx2⟩, hy0, hy1, hy2⟩ := (H_bx5.out.below B2.out)
      go_wp2_with fail
      go_ret
      exact ⟨rfl, T2.out⟩
    ·
      have P20 := Aside0.mk (show l5b.length ≤ 20 ∧ l5c.length ≤ 20 by omega)
      go_enter Tryd.func15, Tryd.ntmps15
      have B1 := Aside0.mk (below_alloc (Below.refl w.heap.size w) (.cells #[.bool g5, .slice a5b l5b.length c5b, .slice a5c l5c.length c5c] 56))
      have T1 := Aside0.mk (B1.out.mono (Nat.le_refl _))
      have H_bx5 := Aside0.mk (bx w (w.heap.size) (.bool g5) (.slice a5b l5b.length c5b) (.slice a5c l5c.length c5c) 56 (by simp))
      have HC : Aside0 (Calls Tryd.prog 55 #[] (w.alloc (.cells #[.bool g5, .slice a5b l5b.length c5b, .slice a5c l5c.length c5c] 56)) (TruePost (w.alloc (.cells #[.bool g5, .slice a5b l5b.length c5b, .slice a5c l5c.length c5c] 56)))) := ⟨known2_w (w.alloc (.cells #[.bool g5, .slice a5b l5b.length c5b, .slice a5c l5c.length c5c] 56)) (TAB.out.below B1.out)⟩
      go_wp2_with fail
      refine HC.out.mono ?_
      clear HC
      rintro e w2 ⟨rfl, hB⟩
      have B2 := Aside0.mk hB
      have T2 := Aside0.mk (T1.out.trans (hB.mono T1.out.size))
      clear hB
      obtain ⟨⟨hx0, hx1, hx2⟩, hy0, hy1, hy2⟩ := (H_bx5.out.below B2.out)
      have HC : Aside0 (Calls Tryd.prog 24 #[.slice a1 l1.length c1, .int .i64 8] w2 (NuPost w2 (mk l1 8))) := ⟨makeN 8 (CU_below C1.out T2.out) S1.out L1.out (by decide)⟩
      go_wp2_with fail
      refine HC.out.mono ?_
      clear HC
      rintro e w3 ⟨v_n, rfl, hN, hB⟩
      have B3 := Aside0.mk hB
      have T3 := Aside0.mk (T2.out.trans (hB.mono T2.out.size))
      have H_n := Aside0.mk hN
      have X_n := Aside0.mk (show mk l1 8 < pw 8 from mk_lt L1.out 8)
      clear hN hB
      clear h20 h21 hx0 hx1 hx2 hy0 hy1 hy2
      have HC : Aside0 (Calls Tryd.prog 24 #[.slice a2 l2.length c2, .int .i64 8] w3 (NuPost w3 (mk l2 8))) := ⟨makeN 8 (CU_below C2.out T3.out) S2.out L2.out (by decide)⟩
      go_wp2_with fail
      refine HC.out.mono ?_
      clear HC
      rintro e w4 ⟨v_d, rfl, hN, hB⟩
      have B4 := Aside0.mk hB
      have T4 := Aside0.mk (T3.out.trans (hB.mono T3.out.size))
      have H_d := Aside0.mk hN
      have X_d := Aside0.mk (show mk l2 8 < pw 8 from mk_lt L2.out 8)
      clear hN hB
      by_cases hd : (mk l2 8) = 0
      ·
        have DZ := Aside0.mk hd
        clear hd
        have HC : Aside0 (Calls Tryd.prog 56 #[.bool a0, v_n, v_d] w4 (R3PostE w4 false (0) (0) 5)) := ⟨qmake0_w (n := (mk l1 8)) a0 (H_n.out.below B4.out) (by have h := H_d.out; rw [DZ.out] at h; exact h)⟩
        go_wp2_with fail
        refine HC.out.mono ?_
        clear HC
        rintro e w5 ⟨v_x, rfl, ⟨A_x, M_x, c_x, B_x, K_x, d_x, rfl, hNA, hNB⟩, hB⟩
        have B5 := Aside0.mk hB
        have T5 := Aside0.mk (T4.out.trans (hB.mono T4.out.size))
        have NA_x := Aside0.mk hNA
        have NB_x := Aside0.mk hNB
        clear hNA hNB hB
        have H_bx_x := Aside0.mk (Blk_alloc w5 (.bool false) (.slice A_x M_x c_x) (.slice B_x K_x d_x) 56)
        have B6 := Aside0.mk (below_alloc (Below.refl w5.heap.size w5) (.cells #[.bool false, .slice A_x M_x c_x, .slice B_x K_x d_x] 56))
        have T6 := Aside0.mk (T5.out.trans (B6.out.mono T5.out.size))
        have H_rx := Aside0.mk (show R3 (w5.alloc (.cells #[.bool false, .slice A_x M_x c_x, .slice B_x K_x d_x] 56)) (.agg #[(.bool false), (.slice A_x M_x c_x), (.slice B_x K_x d_x)]) false (0) (0) from R3.below (show R3 w5 (.agg #[(.bool false), (.slice A_x M_x c_x), (.slice B_x K_x d_x)]) false (0) (0) from ⟨_, _, _, _, _, _, rfl, NA_x.out, NB_x.out⟩) (below_alloc (Below.refl _ _) _))
        have HC : Aside0 (Calls Tryd.prog 24 #[.slice a1 l1.length c1, .int .i64 8] (w5.alloc (.cells #[.bool false, .slice A_x M_x c_x, .slice B_x K_x d_x] 56)) (NuPost (w5.alloc (.cells #[.bool false, .slice A_x M_x c_x, .slice B_x K_x d_x] 56)) (mk l1 8))) := ⟨makeN 8 (CU_below C1.out T6.out) S1.out L1.out (by decide)⟩
        go_wp2_with fail
        refine HC.out.mono ?_
        clear HC
        rintro e w7 ⟨v_n_, rfl, hN, hB⟩
        have B7 := Aside0.mk hB
        have T7 := Aside0.mk (T6.out.trans (hB.mono T6.out.size))
        have H_n_ := Aside0.mk hN
        have X_n_ := Aside0.mk (show mk l1 8 < pw 8 from mk_lt L1.out 8)
        clear hN hB
        have HC : Aside0 (Calls Tryd.prog 24 #[.slice a2 l2.length c2, .int .i64 8] w7 (NuPost w7 (mk l2 8))) := ⟨makeN 8 (CU_below C2.out T7.out) S2.out L2.out (by decide)⟩
        go_wp2_with fail
        refine HC.out.mono ?_
        clear HC
        rintro e w8 ⟨v_d_, rfl, hN, hB⟩
        have B8 := Aside0.mk hB
        have T8 := Aside0.mk (T7.out.trans (hB.mono T7.out.size))
        have H_d_ := Aside0.mk hN
        have X_d_ := Aside0.mk (show mk l2 8 < pw 8 from mk_lt L2.out 8)
        clear hN hB
        have HC : Aside0 (Calls Tryd.prog 59 #[.bool a0, v_n_, v_d_] w8 (R3PostE w8 false (0) (0) 5)) := ⟨smake0_w (n := (mk l1 8)) a0 (H_n_.out.below B8.out) (by have h := H_d_.out; rw [DZ.out] at h; exact h)⟩
        go_wp2_with fail
        refine HC.out.mono ?_
        clear HC
        rintro e w9 ⟨v_y, rfl, ⟨A_y, M_y, c_y, B_y, K_y, d_y, rfl, hNA, hNB⟩, hB⟩
        have B9 := Aside0.mk hB
        have T9 := Aside0.mk (T8.out.trans (hB.mono T8.out.size))
        have NA_y := Aside0.mk hNA
        have NB_y := Aside0.mk hNB
        clear hNA hNB hB
        have H_bx_y := Aside0.mk (Blk_alloc w9 (.bool false) (.slice A_y M_y c_y) (.slice B_y K_y d_y) 56)
        have B10 := Aside0.mk (below_alloc (Below.refl w9.heap.size w9) (.cells #[.bool false, .slice A_y M_y c_y, .slice B_y K_y d_y] 56))
        have T10 := Aside0.mk (T9.out.trans (B10.out.mono T9.out.size))
        have H_ry := Aside0.mk (show R3 (w9.alloc (.cells #[.bool false, .slice A_y M_y c_y, .slice B_y K_y d_y] 56)) (.agg #[(.bool false), (.slice A_y M_y c_y), (.slice B_y K_y d_y)]) false (0) (0) from R3.below (show R3 w9 (.agg #[(.bool false), (.slice A_y M_y c_y), (.slice B_y K_y d_y)]) false (0) (0) from ⟨_, _, _, _, _, _, rfl, NA_y.out, NB_y.out⟩) (below_alloc (Below.refl _ _) _))
        have HC : Aside0 (Calls Tryd.prog 60 #[.int .i64 a3, .int .i64 a4] (w9.alloc (.cells #[.bool false, .slice A_y M_y c_y, .slice B_y K_y d_y] 56)) (R3PostE (w9.alloc (.cells #[.bool false, .slice A_y M_y c_y, .slice B_y K_y d_y] 56)) Bq (Nq) (Dq) kq)) := ⟨HOF1.out _⟩
        go_wp2_with fail
        refine HC.out.mono ?_
        clear HC
        rintro e w11 ⟨v_p, rfl, ⟨A_p, M_p, c_p, B_p, K_p, d_p, rfl, hNA, hNB⟩, hB⟩
        have B11 := Aside0.mk hB
        have T11 := Aside0.mk (T10.out.trans (hB.mono T10.out.size))
        have NA_p := Aside0.mk hNA
        have NB_p := Aside0.mk hNB
        clear hNA hNB hB
        have H_bx_p := Aside0.mk (Blk_alloc w11 (.bool Bq) (.slice A_p M_p c_p) (.slice B_p K_p d_p) 56)
        have B12 := Aside0.mk (below_alloc (Below.refl w11.heap.size w11) (.cells #[.bool Bq, .slice A_p M_p c_p, .slice B_p K_p d_p] 56))
        have T12 := Aside0.mk (T11.out.trans (B12.out.mono T11.out.size))
        have H_rp := Aside0.mk (show R3 (w11.alloc (.cells #[.bool Bq, .slice A_p M_p c_p, .slice B_p K_p d_p] 56)) (.agg #[(.bool Bq), (.slice A_p M_p c_p), (.slice B_p K_p d_p)]) Bq (Nq) (Dq) from R3.below (show R3 w11 (.agg #[(.bool Bq), (.slice A_p M_p c_p), (.slice B_p K_p d_p)]) Bq (Nq) (Dq) from ⟨_, _, _, _, _, _, rfl, NA_p.out, NB_p.out⟩) (below_alloc (Below.refl _ _) _))
        have HC : Aside0 (Calls Tryd.prog 61 #[.int .i64 a3, .int .i64 a4] (w11.alloc (.cells #[.bool Bq, .slice A_p M_p c_p, .slice B_p K_p d_p] 56)) (R3PostE (w11.alloc (.cells #[.bool Bq, .slice A_p M_p c_p, .slice B_p K_p d_p] 56)) Bq (Nq) (Dq) kq)) := ⟨HOF2.out _⟩
        go_wp2_with fail
        refine HC.out.mono ?_
        clear HC
        rintro e w13 ⟨v_q, rfl, ⟨A_q, M_q, c_q, B_q, K_q, d_q, rfl, hNA, hNB⟩, hB⟩
        have B13 := Aside0.mk hB
        have T13 := Aside0.mk (T12.out.trans (hB.mono T12.out.size))
        have NA_q := Aside0.mk hNA
        have NB_q := Aside0.mk hNB
        clear hNA hNB hB
        have H_bx_q := Aside0.mk (Blk_alloc w13 (.bool Bq) (.slice A_q M_q c_q) (.slice B_q K_q d_q) 56)
        have B14 := Aside0.mk (below_alloc (Below.refl w13.heap.size w13) (.cells #[.bool Bq, .slice A_q M_q c_q, .slice B_q K_q d_q] 56))
        have T14 := Aside0.mk (T13.out.trans (B14.out.mono T13.out.size))
        have H_rq := Aside0.mk (show R3 (w13.alloc (.cells #[.bool Bq, .slice A_q M_q c_q, .slice B_q K_q d_q] 56)) (.agg #[(.bool Bq), (.slice A_q M_q c_q), (.slice B_q K_q d_q)]) Bq (Nq) (Dq) from R3.below (show R3 w13 (.agg #[(.bool Bq), (.slice A_q M_q c_q), (.slice B_q K_q d_q)]) Bq (Nq) (Dq) from ⟨_, _, _, _, _, _, rfl, NA_q.out, NB_q.out⟩) (below_alloc (Below.refl _ _) _))
        go_wp2_with fail
        have B15 := Aside0.mk (Below.drew (Below.refl (w13.alloc (.cells #[.bool Bq, .slice A_q M_q c_q, .slice B_q K_q d_q] 56)).heap.size (w13.alloc (.cells #[.bool Bq, .slice A_q M_q c_q, .slice B_q K_q d_q] 56))))
        have T15 := Aside0.mk (T14.out.trans (B15.out.mono T14.out.size))
        have HS15 := Aside0.mk (fun (W : World) (hW : Below ((w13.alloc (.cells #[.bool Bq, .slice A_q M_q c_q, .slice B_q K_q d_q] 56)).drew).heap.size ((w13.alloc (.cells #[.bool Bq, .slice A_q M_q c_q, .slice B_q K_q d_q] 56)).drew) W) => show W.cell? ⟨w5.heap.size, 0, none⟩ = some (.bool false) ∧ W.cell? ⟨w5.heap.size, 1, none⟩ = some (.slice A_x M_x c_x) ∧ W.cell? ⟨w5.heap.size, 2, none⟩ = some (.slice B_x K_x d_x) ∧ W.cell? ⟨w9.heap.size, 0, none⟩ = some (.bool false) ∧ W.cell? ⟨w9.heap.size, 1, none⟩ = some (.slice A_y M_y c_y) ∧ W.cell? ⟨w9.heap.size, 2, none⟩ = some (.slice B_y K_y d_y) ∧ W.cell? ⟨w11.heap.size, 0, none⟩ = some (.bool Bq) ∧ W.cell? ⟨w11.heap.size, 1, none⟩ = some (.slice A_p M_p c_p) ∧ W.cell? ⟨w11.heap.size, 2, none⟩ = some (.slice B_p K_p d_p) ∧ W.cell? ⟨w13.heap.size, 0, none⟩ = some (.bool Bq) ∧ W.cell? ⟨w13.heap.size, 1, none⟩ = some (.slice A_q M_q c_q) ∧ W.cell? ⟨w13.heap.size, 2, none⟩ = some (.slice B_q K_q d_q) ∧ W.cell? ⟨w.heap.size, 0, none⟩ = some (.bool g5) ∧ W.cell? ⟨w.heap.size, 1, none⟩ = some (.slice a5b l5b.length c5b) ∧ W.cell? ⟨w.heap.size, 2, none⟩ = some (.slice a5c l5c.length c5c) from ⟨((((((((((H_bx_x.out.below B7.out).below B8.out).below B9.out).below B10.out).below B11.out).below B12.out).below B13.out).below B14.out).below B15.out).below hW).1.1, ((((((((((H_bx_x.out.below B7.out).below B8.out).below B9.out).below B10.out).below B11.out).below B12.out).below B13.out).below B14.out).below B15.out).below hW).1.2.1, ((((((((((H_bx_x.out.below B7.out).below B8.out).below B9.out).below B10.out).below B11.out).below B12.out).below B13.out).below B14.out).below B15.out).below hW).1.2.2, ((((((H_bx_y.out.below B11.out).below B12.out).below B13.out).below B14.out).below B15.out).below hW).1.1, ((((((H_bx_y.out.below B11.out).below B12.out).below B13.out).below B14.out).below B15.out).below hW).1.2.1, ((((((H_bx_y.out.below B11.out).below B12.out).below B13.out).below B14.out).below B15.out).below hW).1.2.2, ((((H_bx_p.out.below B13.out).below B14.out).below B15.out).below hW).1.1, ((((H_bx_p.out.below B13.out).below B14.out).below B15.out).below hW).1.2.1, ((((H_bx_p.out.below B13.out).below B14.out).below B15.out).below hW).1.2.2, ((H_bx_q.out.below B15.out).below hW).1.1, ((H_bx_q.out.below B15.out).below hW).1.2.1, ((H_bx_q.out.below B15.out).below hW).1.2.2, (((((((((((((((H_bx5.out.below B2.out).below B3.out).below B4.out).below B5.out).below B6.out).below B7.out).below B8.out).below B9.out).below B10.out).below B11.out).below B12.out).below B13.out).below B14.out).below B15.out).below hW).1.1, (((((((((((((((H_bx5.out.below B2.out).below B3.out).below B4.out).below B5.out).below B6.out).below B7.out).below B8.out).below B9.out).below B10.out).below B11.out).below B12.out).below B13.out).below B14.out).below B15.out).below hW).1.2.1, (((((((((((((((H_bx5.out.below B2.out).below B3.out).below B4.out).below B5.out).below B6.out).below B7.out).below B8.out).below B9.out).below B10.out).below B11.out).below B12.out).below B13.out).below B14.out).below B15.out).below hW).1.2.2⟩)
        have U15 := Aside0.mk (Below.refl ((w13.alloc (.cells #[.bool Bq, .slice A_q M_q c_q, .slice B_q K_q d_q] 56)).drew).heap.size ((w13.alloc (.cells #[.bool Bq, .slice A_q M_q c_q, .slice B_q K_q d_q] 56)).drew))
        refine wp_region_held_drew (S := fun W => W.cell? ⟨w5.heap.size, 0, none⟩ = some (.bool false) ∧ W.cell? ⟨w5.heap.size, 1, none⟩ = some (.slice A_x M_x c_x) ∧ W.cell? ⟨w5.heap.size, 2, none⟩ = some (.slice B_x K_x d_x) ∧ W.cell? ⟨w9.heap.size, 0, none⟩ = some (.bool false) ∧ W.cell? ⟨w9.heap.size, 1, none⟩ = some (.slice A_y M_y c_y) ∧ W.cell? ⟨w9.heap.size, 2, none⟩ = some (.slice B_y K_y d_y) ∧ W.cell? ⟨w11.heap.size, 0, none⟩ = some (.bool Bq) ∧ W.cell? ⟨w11.heap.size, 1, none⟩ = some (.slice A_p M_p c_p) ∧ W.cell? ⟨w11.heap.size, 2, none⟩ = some (.slice B_p K_p d_p) ∧ W.cell? ⟨w13.heap.size, 0, none⟩ = some (.bool Bq) ∧ W.cell? ⟨w13.heap.size, 1, none⟩ = some (.slice A_q M_q c_q) ∧ W.cell? ⟨w13.heap.size, 2, none⟩ = some (.slice B_q K_q d_q) ∧ W.cell? ⟨w.heap.size, 0, none⟩ = some (.bool g5) ∧ W.cell? ⟨w.heap.size, 1, none⟩ = some (.slice a5b l5b.length c5b) ∧ W.cell? ⟨w.heap.size, 2, none⟩ = some (.slice a5c l5c.length c5c)) (by kernel_rfl) (HS15.out _ (Below.refl _ _)) (fun hHeld => ?_)
        refine Inv.takeL (i := 0) (v := ?v15_0) rfl (by kernel_rfl) (by kernel_rfl) (by kernel_rfl) (fun _ _ _ h => h) (by rfl) ?hy15_0 (by assumption) ?rest15_0
        case hy15_0 => ((intro w hSw; (try dsimp only at hSw); go_simp) <;> with_reducible rfl)
        try simp only [Act.put, List.setIfInBounds_toArray, List.set_cons_zero, List.set_cons_succ]
        refine Inv.takeL (i := 1) (v := ?v15_1) rfl (by kernel_rfl) (by kernel_rfl) (by kernel_rfl) (fun _ _ _ h => h) (by rfl) ?hy15_1 (by assumption) ?rest15_1
        case hy15_1 => ((intro w hSw; (try dsimp only at hSw); go_simp) <;> with_reducible rfl)
        try simp only [Act.put, List.setIfInBounds_toArray, List.set_cons_zero, List.set_cons_succ]
        refine Inv.takeL (i := 2) (v := ?v15_2) rfl (by kernel_rfl) (by kernel_rfl) (by kernel_rfl) (fun _ _ _ h => h) (by rfl) ?hy15_2 (by assumption) ?rest15_2
        case hy15_2 => ((intro w hSw; (try dsimp only at hSw); go_simp) <;> with_reducible rfl)
        try simp only [Act.put, List.setIfInBounds_toArray, List.set_cons_zero, List.set_cons_succ]
        refine Inv.takeL (i := 3) (v := ?v15_3) rfl (by kernel_rfl) (by kernel_rfl) (by kernel_rfl) (fun _ _ _ h => h) (by rfl) ?hy15_3 (by assumption) ?rest15_3
        case hy15_3 => ((intro w hSw; (try dsimp only at hSw); go_simp) <;> with_reducible rfl)
        try simp only [Act.put, List.setIfInBounds_toArray, List.set_cons_zero, List.set_cons_succ]
        refine Inv.takeL (i := 4) (v := ?v15_4) rfl (by kernel_rfl) (by kernel_rfl) (by kernel_rfl) (fun _ _ _ h => h) (by rfl) ?hy15_4 (by assumption) ?rest15_4
        case hy15_4 => ((intro w hSw; (try dsimp only at hSw); go_simp) <;> with_reducible rfl)
        try simp only [Act.put, List.setIfInBounds_toArray, List.set_cons_zero, List.set_cons_succ]
        refine Inv.takeL (i := 5) (v := ?v15_5) rfl (by kernel_rfl) (by kernel_rfl) (by kernel_rfl) (fun _ _ _ h => h) (by rfl) ?hy15_5 (by assumption) ?rest15_5
        case hy15_5 => ((intro w hSw; (try dsimp only at hSw); go_simp) <;> with_reducible rfl)
        try simp only [Act.put, List.setIfInBounds_toArray, List.set_cons_zero, List.set_cons_succ]
        have HC : Aside0 (Calls Tryd.prog 58 #[(.agg #[(.bool false), (.slice A_x M_x c_x), (.slice B_x K_x d_x)]), (.agg #[(.bool false), (.slice A_y M_y c_y), (.slice B_y K_y d_y)])] ((w13.alloc (.cells #[.bool Bq, .slice A_q M_q c_q, .slice B_q K_q d_q] 56)).drew) (TruePost ((w13.alloc (.cells #[.bool Bq, .slice A_q M_q c_q, .slice B_q K_q d_q] 56)).drew))) := ⟨ssame_w (((((((((H_rx.out.below B7.out).below B8.out).below B9.out).below B10.out).below B11.out).below B12.out).below B13.out).below B14.out).below B15.out) (((((H_ry.out.below B11.out).below B12.out).below B13.out).below B14.out).below B15.out) pw0_1000 pw0_1000⟩
        refine Inv.oneL (i := 6) rfl (by kernel_rfl) (fun K hK => ?_)
        go_simp
        refine HC.out.mono ?_
        clear HC
        rintro e w16 ⟨rfl, hB⟩
        try go_wp2_with fail
        have B16 := Aside0.mk hB
        have T16 := Aside0.mk (T15.out.trans (hB.mono T15.out.size))
        clear hB
        have U16 := Aside0.mk (U15.out.trans (B16.out.mono U15.out.size))
        refine hK.out _ _ (HS15.out _ U16.out) (fun hHeld => ?_)
        clear hK K
        try simp only [Act.put, List.setIfInBounds_toArray, List.set_cons_zero, List.set_cons_succ]
        refine Inv.takeL (i := 7) (v := ?v15_7) rfl (by kernel_rfl) (by kernel_rfl) (by kernel_rfl) (fun _ _ _ h => h) (by rfl) ?hy15_7 (by assumption) ?rest15_7
        case hy15_7 => ((intro w hSw; (try dsimp only at hSw); go_simp) <;> with_reducible rfl)
        try simp only [Act.put, List.setIfInBounds_toArray, List.set_cons_zero, List.set_cons_succ]
        refine Inv.takeL (i := 8) (v := ?v15_8) rfl (by kernel_rfl) (by kernel_rfl) (by kernel_rfl) (fun _ _ _ h => h) (by rfl) ?hy15_8 (by assumption) ?rest15_8
        case hy15_8 => ((intro w hSw; (try dsimp only at hSw); go_simp) <;> with_reducible rfl)
        try simp only [Act.put, List.setIfInBounds_toArray, List.set_cons_zero, List.set_cons_succ]
        refine Inv.takeL (i := 9) (v := ?v15_9) rfl (by kernel_rfl) (by kernel_rfl) (by kernel_rfl) (fun _ _ _ h => h) (by rfl) ?hy15_9 (by assumption) ?rest15_9
        case hy15_9 => ((intro w hSw; (try dsimp only at hSw); go_simp) <;> with_reducible rfl)
        try simp only [Act.put, List.setIfInBounds_toArray, List.set_cons_zero, List.set_cons_succ]
        refine Inv.takeL (i := 10) (v := ?v15_10) rfl (by kernel_rfl) (by kernel_rfl) (by kernel_rfl) (fun _ _ _ h => h) (by rfl) ?hy15_10 (by assumption) ?rest15_10
        case hy15_10 => ((intro w hSw; (try dsimp only at hSw); go_simp) <;> with_reducible rfl)
        try simp only [Act.put, List.setIfInBounds_toArray, List.set_cons_zero, List.set_cons_succ]
        refine Inv.takeL (i := 11) (v := ?v15_11) rfl (by kernel_rfl) (by kernel_rfl) (by kernel_rfl) (fun _ _ _ h => h) (by rfl) ?hy15_11 (by assumption) ?rest15_11
        case hy15_11 => ((intro w hSw; (try dsimp only at hSw); go_simp) <;> with_reducible rfl)
        try simp only [Act.put, List.setIfInBounds_toArray, List.set_cons_zero, List.set_cons_succ]
        refine Inv.takeL (i := 12) (v := ?v15_12) rfl (by kernel_rfl) (by kernel_rfl) (by kernel_rfl) (fun _ _ _ h => h) (by rfl) ?hy15_12 (by assumption) ?rest15_12
        case hy15_12 => ((intro w hSw; (try dsimp only at hSw); go_simp) <;> with_reducible rfl)
        try simp only [Act.put, List.setIfInBounds_toArray, List.set_cons_zero, List.set_cons_succ]
        refine Inv.takeL (i := 13) (v := ?v15_13) rfl (by kernel_rfl) (by kernel_rfl) (by kernel_rfl) (fun _ _ _ h => h) (by rfl) ?hy15_13 (by assumption) ?rest15_13
        case hy15_13 => ((intro w hSw; (try dsimp only at hSw); go_simp) <;> with_reducible rfl)
        try simp only [Act.put, List.setIfInBounds_toArray, List.set_cons_zero, List.set_cons_succ]
        refine Inv.takeL (i := 14) (v := ?v15_14) rfl (by kernel_rfl) (by kernel_rfl) (by kernel_rfl) (fun _ _ _ h => h) (by rfl) ?hy15_14 (by assumption) ?rest15_14
        case hy15_14 => ((intro w hSw; (try dsimp only at hSw); go_simp) <;> with_reducible rfl)
        try simp only [Act.put, List.setIfInBounds_toArray, List.set_cons_zero, List.set_cons_succ]
        refine Inv.takeL (i := 15) (v := ?v15_15) rfl (by kernel_rfl) (by kernel_rfl) (by kernel_rfl) (fun _ _ _ h => h) (by rfl) ?hy15_15 (by assumption) ?rest15_15
        case hy15_15 => ((intro w hSw; (try dsimp only at hSw); go_simp) <;> with_reducible rfl)
        try simp only [Act.put, List.setIfInBounds_toArray, List.set_cons_zero, List.set_cons_succ]
        have HC : Aside0 (Calls Tryd.prog 58 #[(.agg #[(.bool Bq), (.slice A_p M_p c_p), (.slice B_p K_p d_p)]), (.agg #[(.bool Bq), (.slice A_q M_q c_q), (.slice B_q K_q d_q)])] w16 (TruePost w16)) := ⟨ssame_w ((((H_rp.out.below B13.out).below B14.out).below B15.out).below B16.out) ((H_rq.out.below B15.out).below B16.out) HNq.out HDq.out⟩
        refine Inv.oneL (i := 16) rfl (by kernel_rfl) (fun K hK => ?_)
        go_simp
        refine HC.out.mono ?_
        clear HC
        rintro e w17 ⟨rfl, hB⟩
        try go_wp2_with fail
        have B17 := Aside0.mk hB
        have T17 := Aside0.mk (T16.out.trans (hB.mono T16.out.size))
        clear hB
        obtain ⟨rb, hrb⟩ : ∃ q, q = rawB g5 l5b l5c := ⟨_, rfl⟩
        have Z_rb := Aside0.mk hrb
        clear hrb
        have U17 := Aside0.mk (U16.out.trans (B17.out.mono U16.out.size))
        refine hK.out _ _ (HS15.out _ U17.out) (fun hHeld => ?_)
        clear hK K
        try simp only [Act.put, List.setIfInBounds_toArray, List.set_cons_zero, List.set_cons_succ]
        refine Inv.takeL (i := 17) (v := ?v15_17) rfl (by kernel_rfl) (by kernel_rfl) (by kernel_rfl) (fun _ _ _ h => h) (by rfl) ?hy15_17 (by assumption) ?rest15_17
        case hy15_17 => ((intro w hSw; (try dsimp only at hSw); go_simp) <;> with_reducible rfl)
        try simp only [Act.put, List.setIfInBounds_toArray, List.set_cons_zero, List.set_cons_succ]
        refine Inv.takeL (i := 18) (v := ?v15_18) rfl (by kernel_rfl) (by kernel_rfl) (by kernel_rfl) (fun _ _ _ h => h) (by rfl) ?hy15_18 (by assumption) ?rest15_18
        case hy15_18 => ((intro w hSw; (try dsimp only at hSw); go_simp) <;> with_reducible rfl)
        try simp only [Act.put, List.setIfInBounds_toArray, List.set_cons_zero, List.set_cons_succ]
        refine Inv.takeL (i := 19) (v := ?v15_19) rfl (by kernel_rfl) (by kernel_rfl) (by kernel_rfl) (fun _ _ _ h => h) (by rfl) ?hy15_19 (by assumption) ?rest15_19
        case hy15_19 => ((intro w hSw; (try dsimp only at hSw); go_simp) <;> with_reducible rfl)
        try simp only [Act.put, List.setIfInBounds_toArray, List.set_cons_zero, List.set_cons_succ]
        refine Inv.takeL (i := 21) (v := ?v15_21) rfl (by kernel_rfl) (by kernel_rfl) (by kernel_rfl) (fun _ _ _ h => h) (by rfl) ?hy15_21 (by assumption) ?rest15_21
        case hy15_21 => ((intro w hSw; (try dsimp only at hSw); go_simp) <;> with_reducible rfl)
        try simp only [Act.put, List.setIfInBounds_toArray, List.set_cons_zero, List.set_cons_succ]
        have HC : Aside0 (Calls Tryd.prog 62 #[.agg #[.bool g5, .slice a5b l5b.length c5b, .slice a5c l5c.length c5c]] w17 (BoolPost w17 rb)) := ⟨by rw [Z_rb.out]; exact qrightW g5 (CU_below C5b.out T17.out) S5b.out L5b.out P20.out.1 (CU_below C5c.out T17.out) S5c.out L5c.out P20.out.2⟩
        refine Inv.oneL (i := 20) rfl (by kernel_rfl) (fun K hK => ?_)
        go_simp
        refine HC.out.mono ?_
        clear HC
        rintro e w18 ⟨rfl, hB⟩
        try go_wp2_with fail
        have B18 := Aside0.mk hB
        have T18 := Aside0.mk (T17.out.trans (hB.mono T17.out.size))
        clear hB
        have U18 := Aside0.mk (U17.out.trans (B18.out.mono U17.out.size))
        refine hK.out _ _ (HS15.out _ U18.out) (fun hHeld => ?_)
        clear hK K
        try simp only [Act.put, List.setIfInBounds_toArray, List.set_cons_zero, List.set_cons_succ]
        have HC : Aside0 (Calls Tryd.prog 57 #[.agg #[.bool g5, .slice a5b l5b.length c5b, .slice a5c l5c.length c5c]] w18 (BoolPost w18 rb)) := ⟨by rw [Z_rb.out]; exact srightW g5 (CU_below C5b.out T18.out) S5b.out L5b.out P20.out.1 (CU_below C5c.out T18.out) S5c.out L5c.out P20.out.2⟩
        refine Inv.oneL (i := 22) rfl (by kernel_rfl) (fun K hK => ?_)
        go_simp
        refine HC.out.mono ?_
        clear HC
        rintro e w19 ⟨rfl, hB⟩
        try go_wp2_with fail
        have B19 := Aside0.mk hB
        have T19 := Aside0.mk (T18.out.trans (hB.mono T18.out.size))
        clear hB
        have U19 := Aside0.mk (U18.out.trans (B19.out.mono U18.out.size))
        refine hK.out _ _ (HS15.out _ U19.out) (fun hHeld => ?_)
        clear hK K
        try simp only [Act.put, List.setIfInBounds_toArray, List.set_cons_zero, List.set_cons_succ]
        refine Inv.takeL (i := 23) (v := ?v15_23) rfl (by kernel_rfl) (by kernel_rfl) (by kernel_rfl) (fun _ _ _ h => h) (by rfl) ?hy15_23 (by assumption) ?rest15_23
        case hy15_23 => ((intro w hSw; (try dsimp only at hSw); go_simp) <;> with_reducible rfl)
        try simp only [Act.put, List.setIfInBounds_toArray, List.set_cons_zero, List.set_cons_succ]
        refine Inv.takeL (i := 24) (v := ?v15_24) rfl (by kernel_rfl) (by kernel_rfl) (by kernel_rfl) (fun _ _ _ h => h) (by rfl) ?hy15_24 (by assumption) ?rest15_24
        case hy15_24 => ((intro w hSw; (try dsimp only at hSw); go_simp) <;> with_reducible rfl)
        try simp only [Act.put, List.setIfInBounds_toArray, List.set_cons_zero, List.set_cons_succ]
        refine Inv.takeL (i := 25) (v := ?v15_25) rfl (by kernel_rfl) (by kernel_rfl) (by kernel_rfl) (fun _ _ _ h => h) (by rfl) ?hy15_25 (by assumption) ?rest15_25
        case hy15_25 => ((intro w hSw; (try dsimp only at hSw); go_simp) <;> with_reducible rfl)
        try simp only [Act.put, List.setIfInBounds_toArray, List.set_cons_zero, List.set_cons_succ]
        refine Inv.takeL (i := 26) (v := ?v15_26) rfl (by kernel_rfl) (by kernel_rfl) (by kernel_rfl) (fun _ _ _ h => h) (by rfl) ?hy15_26 (by assumption) ?rest15_26
        case hy15_26 => ((intro w hSw; (try dsimp only at hSw); go_simp) <;> with_reducible rfl)
        try simp only [Act.put, List.setIfInBounds_toArray, List.set_cons_zero, List.set_cons_succ]
        refine Inv.takeL (i := 27) (v := ?v15_27) rfl (by kernel_rfl) (by kernel_rfl) (by kernel_rfl) (fun _ _ _ h => h) (by rfl) ?hy15_27 (by assumption) ?rest15_27
        case hy15_27 => ((intro w hSw; (try dsimp only at hSw); go_simp) <;> with_reducible rfl)
        try simp only [Act.put, List.setIfInBounds_toArray, List.set_cons_zero, List.set_cons_succ]
        refine Inv.takeL (i := 28) (v := ?v15_28) rfl (by kernel_rfl) (by kernel_rfl) (by kernel_rfl) (fun _ _ _ h => h) (by rfl) ?hy15_28 (by assumption) ?rest15_28
        case hy15_28 => ((intro w hSw; (try dsimp only at hSw); go_simp) <;> with_reducible rfl)
        try simp only [Act.put, List.setIfInBounds_toArray, List.set_cons_zero, List.set_cons_succ]
        refine Inv.skipL (i := 29) rfl (by kernel_rfl) (by kernel_rfl) (by kernel_rfl) (fun _ _ _ h => h) (by rfl) (by assumption) ?_
        try simp only [Act.put, List.setIfInBounds_toArray, List.set_cons_zero, List.set_cons_succ]
        refine Inv.skipL (i := 30) rfl (by kernel_rfl) (by kernel_rfl) (by kernel_rfl) (fun _ _ _ h => h) (by rfl) (by assumption) ?_
        try simp only [Act.put, List.setIfInBounds_toArray, List.set_cons_zero, List.set_cons_succ]
        refine Inv.takeL (i := 31) (v := ?v15_31) rfl (by kernel_rfl) (by kernel_rfl) (by kernel_rfl) (fun _ _ _ h => h) (by rfl) ?hy15_31 (by assumption) ?rest15_31
        case hy15_31 => ((intro w hSw; (try dsimp only at hSw); go_simp) <;> with_reducible rfl)
        try simp only [Act.put, List.setIfInBounds_toArray, List.set_cons_zero, List.set_cons_succ]
        refine Inv.takeL (i := 32) (v := ?v15_32) rfl (by kernel_rfl) (by kernel_rfl) (by kernel_rfl) (fun _ _ _ h => h) (by rfl) ?hy15_32 (by assumption) ?rest15_32
        case hy15_32 => ((intro w hSw; (try dsimp only at hSw); go_simp) <;> with_reducible rfl)
        try simp only [Act.put, List.setIfInBounds_toArray, List.set_cons_zero, List.set_cons_succ]
        refine Inv.takeL (i := 33) (v := ?v15_33) rfl (by kernel_rfl) (by kernel_rfl) (by kernel_rfl) (fun _ _ _ h => h) (by rfl) ?hy15_33 (by assumption) ?rest15_33
        case hy15_33 => ((intro w hSw; (try dsimp only at hSw); go_simp) <;> with_reducible rfl)
        try simp only [Act.put, List.setIfInBounds_toArray, List.set_cons_zero, List.set_cons_succ]
        refine wpAnyH_done (by kernel_rfl) ?_ _
        go_wp2_with fail
        go_ret
        exact ⟨rfl, T19.out⟩
      ·
        have DP := Aside0.mk hd
        clear hd
        have HC : Aside0 (Calls Tryd.prog 56 #[.bool a0, v_n, v_d] w4 (RaPostE w4 (mkRat (sg a0 (mk l1 8)) (mk l2 8)) 0)) := ⟨(qmake_w a0 (H_n.out.below B4.out) H_d.out (pw_lt1000 X_n.out (by omega)) (pw_lt1000 X_d.out (by omega)) DP.out).mono fun _ _ h => low_ratE DP.out rfl h⟩
        go_wp2_with fail
        refine HC.out.mono ?_
        clear HC
        rintro e w5 ⟨v_x, rfl, ⟨A_x, M_x, c_x, B_x, K_x, d_x, rfl, hNA, hNB⟩, hB⟩
        have B5 := Aside0.mk hB
        have T5 := Aside0.mk (T4.out.trans (hB.mono T4.out.size))
        obtain ⟨b_x, hb_x⟩ : ∃ b, b = decide (Rat.num (mkRat (sg a0 (mk l1 8)) (mk l2 8)) < 0) := ⟨_, rfl⟩
        rw [← hb_x]
        have E_x := Aside0.mk hb_x
        clear hb_x
        have NA_x := Aside0.mk hNA
        have NB_x := Aside0.mk hNB
        clear hNA hNB hB
        have H_bx_x := Aside0.mk (Blk_alloc w5 (.bool b_x) (.slice A_x M_x c_x) (.slice B_x K_x d_x) 56)
        have B6 := Aside0.mk (below_alloc (Below.refl w5.heap.size w5) (.cells #[.bool b_x, .slice A_x M_x c_x, .slice B_x K_x d_x] 56))
        have T6 := Aside0.mk (T5.out.trans (B6.out.mono T5.out.size))
        have H_x0 := Aside0.mk (show Ra w5 (.agg #[(.bool b_x), (.slice A_x M_x c_x), (.slice B_x K_x d_x)]) (mkRat (sg a0 (mk l1 8)) (mk l2 8)) from by unfold Ra; rw [← E_x.out]; exact ⟨_, _, _, _, _, _, rfl, NA_x.out, NB_x.out⟩)
        have X_x := Aside0.mk (show Rb 8 (mkRat (sg a0 (mk l1 8)) (mk l2 8)) from mk_bnd (by rw [sg_abs]; exact X_n.out) X_d.out DP.out)
        have H_x := Aside0.mk (show Ra (w5.alloc (.cells #[.bool b_x, .slice A_x M_x c_x, .slice B_x K_x d_x] 56)) (.agg #[(.bool b_x), (.slice A_x M_x c_x), (.slice B_x K_x d_x)]) (mkRat (sg a0 (mk l1 8)) (mk l2 8)) from R3.below H_x0.out (below_alloc (Below.refl _ _) _))
        have HC : Aside0 (Calls Tryd.prog 24 #[.slice a1 l1.length c1, .int .i64 8] (w5.alloc (.cells #[.bool b_x, .slice A_x M_x c_x, .slice B_x K_x d_x] 56)) (NuPost (w5.alloc (.cells #[.bool b_x, .slice A_x M_x c_x, .slice B_x K_x d_x] 56)) (mk l1 8))) := ⟨makeN 8 (CU_below C1.out T6.out) S1.out L1.out (by decide)⟩
        go_wp2_with fail
        refine HC.out.mono ?_
        clear HC
        rintro e w7 ⟨v_n_, rfl, hN, hB⟩
        have B7 := Aside0.mk hB
        have T7 := Aside0.mk (T6.out.trans (hB.mono T6.out.size))
        have H_n_ := Aside0.mk hN
        have X_n_ := Aside0.mk (show mk l1 8 < pw 8 from mk_lt L1.out 8)
        clear hN hB
        have HC : Aside0 (Calls Tryd.prog 24 #[.slice a2 l2.length c2, .int .i64 8] w7 (NuPost w7 (mk l2 8))) := ⟨makeN 8 (CU_below C2.out T7.out) S2.out L2.out (by decide)⟩
        go_wp2_with fail
        refine HC.out.mono ?_
        clear HC
        rintro e w8 ⟨v_d_, rfl, hN, hB⟩
        have B8 := Aside0.mk hB
        have T8 := Aside0.mk (T7.out.trans (hB.mono T7.out.size))
        have H_d_ := Aside0.mk hN
        have X_d_ := Aside0.mk (show mk l2 8 < pw 8 from mk_lt L2.out 8)
        clear hN hB
        have HC : Aside0 (Calls Tryd.prog 59 #[.bool a0, v_n_, v_d_] w8 (RaPostE w8 (mkRat (sg a0 (mk l1 8)) (mk l2 8)) 0)) := ⟨(smake_w a0 (H_n_.out.below B8.out) H_d_.out (Nat.lt_of_lt_of_le X_n_.out (pw_le (by omega))) (Nat.lt_of_lt_of_le X_d_.out (pw_le (by omega))) DP.out).mono fun _ _ h => low_ratE DP.out rfl h⟩
        go_wp2_with fail
        refine HC.out.mono ?_
        clear HC
        rintro e w9 ⟨v_y, rfl, ⟨A_y, M_y, c_y, B_y, K_y, d_y, rfl, hNA, hNB⟩, hB⟩
        have B9 := Aside0.mk hB
        have T9 := Aside0.mk (T8.out.trans (hB.mono T8.out.size))
        obtain ⟨b_y, hb_y⟩ : ∃ b, b = decide (Rat.num (mkRat (sg a0 (mk l1 8)) (mk l2 8)) < 0) := ⟨_, rfl⟩
        rw [← hb_y]
        have E_y := Aside0.mk hb_y
        clear hb_y
        have NA_y := Aside0.mk hNA
        have NB_y := Aside0.mk hNB
        clear hNA hNB hB
        have H_bx_y := Aside0.mk (Blk_alloc w9 (.bool b_y) (.slice A_y M_y c_y) (.slice B_y K_y d_y) 56)
        have B10 := Aside0.mk (below_alloc (Below.refl w9.heap.size w9) (.cells #[.bool b_y, .slice A_y M_y c_y, .slice B_y K_y d_y] 56))
        have T10 := Aside0.mk (T9.out.trans (B10.out.mono T9.out.size))
        have H_y0 := Aside0.mk (show Ra w9 (.agg #[(.bool b_y), (.slice A_y M_y c_y), (.slice B_y K_y d_y)]) (mkRat (sg a0 (mk l1 8)) (mk l2 8)) from by unfold Ra; rw [← E_y.out]; exact ⟨_, _, _, _, _, _, rfl, NA_y.out, NB_y.out⟩)
        have X_y := Aside0.mk (show Rb 8 (mkRat (sg a0 (mk l1 8)) (mk l2 8)) from mk_bnd (by rw [sg_abs]; exact X_n.out) X_d.out DP.out)
        have H_y := Aside0.mk (show Ra (w9.alloc (.cells #[.bool b_y, .slice A_y M_y c_y, .slice B_y K_y d_y] 56)) (.agg #[(.bool b_y), (.slice A_y M_y c_y), (.slice B_y K_y d_y)]) (mkRat (sg a0 (mk l1 8)) (mk l2 8)) from R3.below H_y0.out (below_alloc (Below.refl _ _) _))
        have HC : Aside0 (Calls Tryd.prog 60 #[.int .i64 a3, .int .i64 a4] (w9.alloc (.cells #[.bool b_y, .slice A_y M_y c_y, .slice B_y K_y d_y] 56)) (R3PostE (w9.alloc (.cells #[.bool b_y, .slice A_y M_y c_y, .slice B_y K_y d_y] 56)) Bq (Nq) (Dq) kq)) := ⟨HOF1.out _⟩
        go_wp2_with fail
        refine HC.out.mono ?_
        clear HC
        rintro e w11 ⟨v_p, rfl, ⟨A_p, M_p, c_p, B_p, K_p, d_p, rfl, hNA, hNB⟩, hB⟩
        have B11 := Aside0.mk hB
        have T11 := Aside0.mk (T10.out.trans (hB.mono T10.out.size))
        have NA_p := Aside0.mk hNA
        have NB_p := Aside0.mk hNB
        clear hNA hNB hB
        have H_bx_p := Aside0.mk (Blk_alloc w11 (.bool Bq) (.slice A_p M_p c_p) (.slice B_p K_p d_p) 56)
        have B12 := Aside0.mk (below_alloc (Below.refl w11.heap.size w11) (.cells #[.bool Bq, .slice A_p M_p c_p, .slice B_p K_p d_p] 56))
        have T12 := Aside0.mk (T11.out.trans (B12.out.mono T11.out.size))
        have H_rp := Aside0.mk (show R3 (w11.alloc (.cells #[.bool Bq, .slice A_p M_p c_p, .slice B_p K_p d_p] 56)) (.agg #[(.bool Bq), (.slice A_p M_p c_p), (.slice B_p K_p d_p)]) Bq (Nq) (Dq) from R3.below (show R3 w11 (.agg #[(.bool Bq), (.slice A_p M_p c_p), (.slice B_p K_p d_p)]) Bq (Nq) (Dq) from ⟨_, _, _, _, _, _, rfl, NA_p.out, NB_p.out⟩) (below_alloc (Below.refl _ _) _))
        have HC : Aside0 (Calls Tryd.prog 61 #[.int .i64 a3, .int .i64 a4] (w11.alloc (.cells #[.bool Bq, .slice A_p M_p c_p, .slice B_p K_p d_p] 56)) (R3PostE (w11.alloc (.cells #[.bool Bq, .slice A_p M_p c_p, .slice B_p K_p d_p] 56)) Bq (Nq) (Dq) kq)) := ⟨HOF2.out _⟩
        go_wp2_with fail
        refine HC.out.mono ?_
        clear HC
        rintro e w13 ⟨v_q, rfl, ⟨A_q, M_q, c_q, B_q, K_q, d_q, rfl, hNA, hNB⟩, hB⟩
        have B13 := Aside0.mk hB
        have T13 := Aside0.mk (T12.out.trans (hB.mono T12.out.size))
        have NA_q := Aside0.mk hNA
        have NB_q := Aside0.mk hNB
        clear hNA hNB hB
        have H_bx_q := Aside0.mk (Blk_alloc w13 (.bool Bq) (.slice A_q M_q c_q) (.slice B_q K_q d_q) 56)
        have B14 := Aside0.mk (below_alloc (Below.refl w13.heap.size w13) (.cells #[.bool Bq, .slice A_q M_q c_q, .slice B_q K_q d_q] 56))
        have T14 := Aside0.mk (T13.out.trans (B14.out.mono T13.out.size))
        have H_rq := Aside0.mk (show R3 (w13.alloc (.cells #[.bool Bq, .slice A_q M_q c_q, .slice B_q K_q d_q] 56)) (.agg #[(.bool Bq), (.slice A_q M_q c_q), (.slice B_q K_q d_q)]) Bq (Nq) (Dq) from R3.below (show R3 w13 (.agg #[(.bool Bq), (.slice A_q M_q c_q), (.slice B_q K_q d_q)]) Bq (Nq) (Dq) from ⟨_, _, _, _, _, _, rfl, NA_q.out, NB_q.out⟩) (below_alloc (Below.refl _ _) _))
        go_wp2_with fail
        have B15 := Aside0.mk (Below.drew (Below.refl (w13.alloc (.cells #[.bool Bq, .slice A_q M_q c_q, .slice B_q K_q d_q] 56)).heap.size (w13.alloc (.cells #[.bool Bq, .slice A_q M_q c_q, .slice B_q K_q d_q] 56))))
        have T15 := Aside0.mk (T14.out.trans (B15.out.mono T14.out.size))
        have HS15 := Aside0.mk (fun (W : World) (hW : Below ((w13.alloc (.cells #[.bool Bq, .slice A_q M_q c_q, .slice B_q K_q d_q] 56)).drew).heap.size ((w13.alloc (.cells #[.bool Bq, .slice A_q M_q c_q, .slice B_q K_q d_q] 56)).drew) W) => show W.cell? ⟨w5.heap.size, 0, none⟩ = some (.bool b_x) ∧ W.cell? ⟨w5.heap.size, 1, none⟩ = some (.slice A_x M_x c_x) ∧ W.cell? ⟨w5.heap.size, 2, none⟩ = some (.slice B_x K_x d_x) ∧ W.cell? ⟨w9.heap.size, 0, none⟩ = some (.bool b_y) ∧ W.cell? ⟨w9.heap.size, 1, none⟩ = some (.slice A_y M_y c_y) ∧ W.cell? ⟨w9.heap.size, 2, none⟩ = some (.slice B_y K_y d_y) ∧ W.cell? ⟨w11.heap.size, 0, none⟩ = some (.bool Bq) ∧ W.cell? ⟨w11.heap.size, 1, none⟩ = some (.slice A_p M_p c_p) ∧ W.cell? ⟨w11.heap.size, 2, none⟩ = some (.slice B_p K_p d_p) ∧ W.cell? ⟨w13.heap.size, 0, none⟩ = some (.bool Bq) ∧ W.cell? ⟨w13.heap.size, 1, none⟩ = some (.slice A_q M_q c_q) ∧ W.cell? ⟨w13.heap.size, 2, none⟩ = some (.slice B_q K_q d_q) ∧ W.cell? ⟨w.heap.size, 0, none⟩ = some (.bool g5) ∧ W.cell? ⟨w.heap.size, 1, none⟩ = some (.slice a5b l5b.length c5b) ∧ W.cell? ⟨w.heap.size, 2, none⟩ = some (.slice a5c l5c.length c5c) from ⟨((((((((((H_bx_x.out.below B7.out).below B8.out).below B9.out).below B10.out).below B11.out).below B12.out).below B13.out).below B14.out).below B15.out).below hW).1.1, ((((((((((H_bx_x.out.below B7.out).below B8.out).below B9.out).below B10.out).below B11.out).below B12.out).below B13.out).below B14.out).below B15.out).below hW).1.2.1, ((((((((((H_bx_x.out.below B7.out).below B8.out).below B9.out).below B10.out).below B11.out).below B12.out).below B13.out).below B14.out).below B15.out).below hW).1.2.2, ((((((H_bx_y.out.below B11.out).below B12.out).below B13.out).below B14.out).below B15.out).below hW).1.1, ((((((H_bx_y.out.below B11.out).below B12.out).below B13.out).below B14.out).below B15.out).below hW).1.2.1, ((((((H_bx_y.out.below B11.out).below B12.out).below B13.out).below B14.out).below B15.out).below hW).1.2.2, ((((H_bx_p.out.below B13.out).below B14.out).below B15.out).below hW).1.1, ((((H_bx_p.out.below B13.out).below B14.out).below B15.out).below hW).1.2.1, ((((H_bx_p.out.below B13.out).below B14.out).below B15.out).below hW).1.2.2, ((H_bx_q.out.below B15.out).below hW).1.1, ((H_bx_q.out.below B15.out).below hW).1.2.1, ((H_bx_q.out.below B15.out).below hW).1.2.2, (((((((((((((((H_bx5.out.below B2.out).below B3.out).below B4.out).below B5.out).below B6.out).below B7.out).below B8.out).below B9.out).below B10.out).below B11.out).below B12.out).below B13.out).below B14.out).below B15.out).below hW).1.1, (((((((((((((((H_bx5.out.below B2.out).below B3.out).below B4.out).below B5.out).below B6.out).below B7.out).below B8.out).below B9.out).below B10.out).below B11.out).below B12.out).below B13.out).below B14.out).below B15.out).below hW).1.2.1, (((((((((((((((H_bx5.out.below B2.out).below B3.out).below B4.out).below B5.out).below B6.out).below B7.out).below B8.out).below B9.out).below B10.out).below B11.out).below B12.out).below B13.out).below B14.out).below B15.out).below hW).1.2.2⟩)
        have U15 := Aside0.mk (Below.refl ((w13.alloc (.cells #[.bool Bq, .slice A_q M_q c_q, .slice B_q K_q d_q] 56)).drew).heap.size ((w13.alloc (.cells #[.bool Bq, .slice A_q M_q c_q, .slice B_q K_q d_q] 56)).drew))
        refine wp_region_held_drew (S := fun W => W.cell? ⟨w5.heap.size, 0, none⟩ = some (.bool b_x) ∧ W.cell? ⟨w5.heap.size, 1, none⟩ = some (.slice A_x M_x c_x) ∧ W.cell? ⟨w5.heap.size, 2, none⟩ = some (.slice B_x K_x d_x) ∧ W.cell? ⟨w9.heap.size, 0, none⟩ = some (.bool b_y) ∧ W.cell? ⟨w9.heap.size, 1, none⟩ = some (.slice A_y M_y c_y) ∧ W.cell? ⟨w9.heap.size, 2, none⟩ = some (.slice B_y K_y d_y) ∧ W.cell? ⟨w11.heap.size, 0, none⟩ = some (.bool Bq) ∧ W.cell? ⟨w11.heap.size, 1, none⟩ = some (.slice A_p M_p c_p) ∧ W.cell? ⟨w11.heap.size, 2, none⟩ = some (.slice B_p K_p d_p) ∧ W.cell? ⟨w13.heap.size, 0, none⟩ = some (.bool Bq) ∧ W.cell? ⟨w13.heap.size, 1, none⟩ = some (.slice A_q M_q c_q) ∧ W.cell? ⟨w13.heap.size, 2, none⟩ = some (.slice B_q K_q d_q) ∧ W.cell? ⟨w.heap.size, 0, none⟩ = some (.bool g5) ∧ W.cell? ⟨w.heap.size, 1, none⟩ = some (.slice a5b l5b.length c5b) ∧ W.cell? ⟨w.heap.size, 2, none⟩ = some (.slice a5c l5c.length c5c)) (by kernel_rfl) (HS15.out _ (Below.refl _ _)) (fun hHeld => ?_)
        refine Inv.takeL (i := 0) (v := ?v16_0) rfl (by kernel_rfl) (by kernel_rfl) (by kernel_rfl) (fun _ _ _ h => h) (by rfl) ?hy16_0 (by assumption) ?rest16_0
        case hy16_0 => ((intro w hSw; (try dsimp only at hSw); go_simp) <;> with_reducible rfl)
        try simp only [Act.put, List.setIfInBounds_toArray, List.set_cons_zero, List.set_cons_succ]
        refine Inv.takeL (i := 1) (v := ?v16_1) rfl (by kernel_rfl) (by kernel_rfl) (by kernel_rfl) (fun _ _ _ h => h) (by rfl) ?hy16_1 (by assumption) ?rest16_1
        case hy16_1 => ((intro w hSw; (try dsimp only at hSw); go_simp) <;> with_reducible rfl)
        try simp only [Act.put, List.setIfInBounds_toArray, List.set_cons_zero, List.set_cons_succ]
        refine Inv.takeL (i := 2) (v := ?v16_2) rfl (by kernel_rfl) (by kernel_rfl) (by kernel_rfl) (fun _ _ _ h => h) (by rfl) ?hy16_2 (by assumption) ?rest16_2
        case hy16_2 => ((intro w hSw; (try dsimp only at hSw); go_simp) <;> with_reducible rfl)
        try simp only [Act.put, List.setIfInBounds_toArray, List.set_cons_zero, List.set_cons_succ]
        refine Inv.takeL (i := 3) (v := ?v16_3) rfl (by kernel_rfl) (by kernel_rfl) (by kernel_rfl) (fun _ _ _ h => h) (by rfl) ?hy16_3 (by assumption) ?rest16_3
        case hy16_3 => ((intro w hSw; (try dsimp only at hSw); go_simp) <;> with_reducible rfl)
        try simp only [Act.put, List.setIfInBounds_toArray, List.set_cons_zero, List.set_cons_succ]
        refine Inv.takeL (i := 4) (v := ?v16_4) rfl (by kernel_rfl) (by kernel_rfl) (by kernel_rfl) (fun _ _ _ h => h) (by rfl) ?hy16_4 (by assumption) ?rest16_4
        case hy16_4 => ((intro w hSw; (try dsimp only at hSw); go_simp) <;> with_reducible rfl)
        try simp only [Act.put, List.setIfInBounds_toArray, List.set_cons_zero, List.set_cons_succ]
        refine Inv.takeL (i := 5) (v := ?v16_5) rfl (by kernel_rfl) (by kernel_rfl) (by kernel_rfl) (fun _ _ _ h => h) (by rfl) ?hy16_5 (by assumption) ?rest16_5
        case hy16_5 => ((intro w hSw; (try dsimp only at hSw); go_simp) <;> with_reducible rfl)
        try simp only [Act.put, List.setIfInBounds_toArray, List.set_cons_zero, List.set_cons_succ]
        have HC : Aside0 (Calls Tryd.prog 58 #[(.agg #[(.bool b_x), (.slice A_x M_x c_x), (.slice B_x K_x d_x)]), (.agg #[(.bool b_y), (.slice A_y M_y c_y), (.slice B_y K_y d_y)])] ((w13.alloc (.cells #[.bool Bq, .slice A_q M_q c_q, .slice B_q K_q d_q] 56)).drew) (TruePost ((w13.alloc (.cells #[.bool Bq, .slice A_q M_q c_q, .slice B_q K_q d_q] 56)).drew))) := ⟨ssameR (((((((((H_x.out.below B7.out).below B8.out).below B9.out).below B10.out).below B11.out).below B12.out).below B13.out).below B14.out).below B15.out) (((((H_y.out.below B11.out).below B12.out).below B13.out).below B14.out).below B15.out) (X_x.out.le (by decide)) (rfl)⟩
        refine Inv.oneL (i := 6) rfl (by kernel_rfl) (fun K hK => ?_)
        go_simp
        refine HC.out.mono ?_
        clear HC
        rintro e w16 ⟨rfl, hB⟩
        try go_wp2_with fail
        have B16 := Aside0.mk hB
        have T16 := Aside0.mk (T15.out.trans (hB.mono T15.out.size))
        clear hB
        have U16 := Aside0.mk (U15.out.trans (B16.out.mono U15.out.size))
        refine hK.out _ _ (HS15.out _ U16.out) (fun hHeld => ?_)
        clear hK K
        try simp only [Act.put, List.setIfInBounds_toArray, List.set_cons_zero, List.set_cons_succ]
        refine Inv.takeL (i := 7) (v := ?v16_7) rfl (by kernel_rfl) (by kernel_rfl) (by kernel_rfl) (fun _ _ _ h => h) (by rfl) ?hy16_7 (by assumption) ?rest16_7
        case hy16_7 => ((intro w hSw; (try dsimp only at hSw); go_simp) <;> with_reducible rfl)
        try simp only [Act.put, List.setIfInBounds_toArray, List.set_cons_zero, List.set_cons_succ]
        refine Inv.takeL (i := 8) (v := ?v16_8) rfl (by kernel_rfl) (by kernel_rfl) (by kernel_rfl) (fun _ _ _ h => h) (by rfl) ?hy16_8 (by assumption) ?rest16_8
        case hy16_8 => ((intro w hSw; (try dsimp only at hSw); go_simp) <;> with_reducible rfl)
        try simp only [Act.put, List.setIfInBounds_toArray, List.set_cons_zero, List.set_cons_succ]
        refine Inv.takeL (i := 9) (v := ?v16_9) rfl (by kernel_rfl) (by kernel_rfl) (by kernel_rfl) (fun _ _ _ h => h) (by rfl) ?hy16_9 (by assumption) ?rest16_9
        case hy16_9 => ((intro w hSw; (try dsimp only at hSw); go_simp) <;> with_reducible rfl)
        try simp only [Act.put, List.setIfInBounds_toArray, List.set_cons_zero, List.set_cons_succ]
        refine Inv.takeL (i := 10) (v := ?v16_10) rfl (by kernel_rfl) (by kernel_rfl) (by kernel_rfl) (fun _ _ _ h => h) (by rfl) ?hy16_10 (by assumption) ?rest16_10
        case hy16_10 => ((intro w hSw; (try dsimp only at hSw); go_simp) <;> with_reducible rfl)
        try simp only [Act.put, List.setIfInBounds_toArray, List.set_cons_zero, List.set_cons_succ]
        refine Inv.takeL (i := 11) (v := ?v16_11) rfl (by kernel_rfl) (by kernel_rfl) (by kernel_rfl) (fun _ _ _ h => h) (by rfl) ?hy16_11 (by assumption) ?rest16_11
        case hy16_11 => ((intro w hSw; (try dsimp only at hSw); go_simp) <;> with_reducible rfl)
        try simp only [Act.put, List.setIfInBounds_toArray, List.set_cons_zero, List.set_cons_succ]
        refine Inv.takeL (i := 12) (v := ?v16_12) rfl (by kernel_rfl) (by kernel_rfl) (by kernel_rfl) (fun _ _ _ h => h) (by rfl) ?hy16_12 (by assumption) ?rest16_12
        case hy16_12 => ((intro w hSw; (try dsimp only at hSw); go_simp) <;> with_reducible rfl)
        try simp only [Act.put, List.setIfInBounds_toArray, List.set_cons_zero, List.set_cons_succ]
        refine Inv.takeL (i := 13) (v := ?v16_13) rfl (by kernel_rfl) (by kernel_rfl) (by kernel_rfl) (fun _ _ _ h => h) (by rfl) ?hy16_13 (by assumption) ?rest16_13
        case hy16_13 => ((intro w hSw; (try dsimp only at hSw); go_simp) <;> with_reducible rfl)
        try simp only [Act.put, List.setIfInBounds_toArray, List.set_cons_zero, List.set_cons_succ]
        refine Inv.takeL (i := 14) (v := ?v16_14) rfl (by kernel_rfl) (by kernel_rfl) (by kernel_rfl) (fun _ _ _ h => h) (by rfl) ?hy16_14 (by assumption) ?rest16_14
        case hy16_14 => ((intro w hSw; (try dsimp only at hSw); go_simp) <;> with_reducible rfl)
        try simp only [Act.put, List.setIfInBounds_toArray, List.set_cons_zero, List.set_cons_succ]
        refine Inv.takeL (i := 15) (v := ?v16_15) rfl (by kernel_rfl) (by kernel_rfl) (by kernel_rfl) (fun _ _ _ h => h) (by rfl) ?hy16_15 (by assumption) ?rest16_15
        case hy16_15 => ((intro w hSw; (try dsimp only at hSw); go_simp) <;> with_reducible rfl)
        try simp only [Act.put, List.setIfInBounds_toArray, List.set_cons_zero, List.set_cons_succ]
        have HC : Aside0 (Calls Tryd.prog 58 #[(.agg #[(.bool Bq), (.slice A_p M_p c_p), (.slice B_p K_p d_p)]), (.agg #[(.bool Bq), (.slice A_q M_q c_q), (.slice B_q K_q d_q)])] w16 (TruePost w16)) := ⟨ssame_w ((((H_rp.out.below B13.out).below B14.out).below B15.out).below B16.out) ((H_rq.out.below B15.out).below B16.out) HNq.out HDq.out⟩
        refine Inv.oneL (i := 16) rfl (by kernel_rfl) (fun K hK => ?_)
        go_simp
        refine HC.out.mono ?_
        clear HC
        rintro e w17 ⟨rfl, hB⟩
        try go_wp2_with fail
        have B17 := Aside0.mk hB
        have T17 := Aside0.mk (T16.out.trans (hB.mono T16.out.size))
        clear hB
        obtain ⟨rb, hrb⟩ : ∃ q, q = rawB g5 l5b l5c := ⟨_, rfl⟩
        have Z_rb := Aside0.mk hrb
        clear hrb
        have U17 := Aside0.mk (U16.out.trans (B17.out.mono U16.out.size))
        refine hK.out _ _ (HS15.out _ U17.out) (fun hHeld => ?_)
        clear hK K
        try simp only [Act.put, List.setIfInBounds_toArray, List.set_cons_zero, List.set_cons_succ]
        refine Inv.takeL (i := 17) (v := ?v16_17) rfl (by kernel_rfl) (by kernel_rfl) (by kernel_rfl) (fun _ _ _ h => h) (by rfl) ?hy16_17 (by assumption) ?rest16_17
        case hy16_17 => ((intro w hSw; (try dsimp only at hSw); go_simp) <;> with_reducible rfl)
        try simp only [Act.put, List.setIfInBounds_toArray, List.set_cons_zero, List.set_cons_succ]
        refine Inv.takeL (i := 18) (v := ?v16_18) rfl (by kernel_rfl) (by kernel_rfl) (by kernel_rfl) (fun _ _ _ h => h) (by rfl) ?hy16_18 (by assumption) ?rest16_18
        case hy16_18 => ((intro w hSw; (try dsimp only at hSw); go_simp) <;> with_reducible rfl)
        try simp only [Act.put, List.setIfInBounds_toArray, List.set_cons_zero, List.set_cons_succ]
        refine Inv.takeL (i := 19) (v := ?v16_19) rfl (by kernel_rfl) (by kernel_rfl) (by kernel_rfl) (fun _ _ _ h => h) (by rfl) ?hy16_19 (by assumption) ?rest16_19
        case hy16_19 => ((intro w hSw; (try dsimp only at hSw); go_simp) <;> with_reducible rfl)
        try simp only [Act.put, List.setIfInBounds_toArray, List.set_cons_zero, List.set_cons_succ]
        refine Inv.takeL (i := 21) (v := ?v16_21) rfl (by kernel_rfl) (by kernel_rfl) (by kernel_rfl) (fun _ _ _ h => h) (by rfl) ?hy16_21 (by assumption) ?rest16_21
        case hy16_21 => ((intro w hSw; (try dsimp only at hSw); go_simp) <;> with_reducible rfl)
        try simp only [Act.put, List.setIfInBounds_toArray, List.set_cons_zero, List.set_cons_succ]
        have HC : Aside0 (Calls Tryd.prog 62 #[.agg #[.bool g5, .slice a5b l5b.length c5b, .slice a5c l5c.length c5c]] w17 (BoolPost w17 rb)) := ⟨by rw [Z_rb.out]; exact qrightW g5 (CU_below C5b.out T17.out) S5b.out L5b.out P20.out.1 (CU_below C5c.out T17.out) S5c.out L5c.out P20.out.2⟩
        refine Inv.oneL (i := 20) rfl (by kernel_rfl) (fun K hK => ?_)
        go_simp
        refine HC.out.mono ?_
        clear HC
        rintro e w18 ⟨rfl, hB⟩
        try go_wp2_with fail
        have B18 := Aside0.mk hB
        have T18 := Aside0.mk (T17.out.trans (hB.mono T17.out.size))
        clear hB
        have U18 := Aside0.mk (U17.out.trans (B18.out.mono U17.out.size))
        refine hK.out _ _ (HS15.out _ U18.out) (fun hHeld => ?_)
        clear hK K
        try simp only [Act.put, List.setIfInBounds_toArray, List.set_cons_zero, List.set_cons_succ]
        have HC : Aside0 (Calls Tryd.prog 57 #[.agg #[.bool g5, .slice a5b l5b.length c5b, .slice a5c l5c.length c5c]] w18 (BoolPost w18 rb)) := ⟨by rw [Z_rb.out]; exact srightW g5 (CU_below C5b.out T18.out) S5b.out L5b.out P20.out.1 (CU_below C5c.out T18.out) S5c.out L5c.out P20.out.2⟩
        refine Inv.oneL (i := 22) rfl (by kernel_rfl) (fun K hK => ?_)
        go_simp
        refine HC.out.mono ?_
        clear HC
        rintro e w19 ⟨rfl, hB⟩
        try go_wp2_with fail
        have B19 := Aside0.mk hB
        have T19 := Aside0.mk (T18.out.trans (hB.mono T18.out.size))
        clear hB
        have U19 := Aside0.mk (U18.out.trans (B19.out.mono U18.out.size))
        refine hK.out _ _ (HS15.out _ U19.out) (fun hHeld => ?_)
        clear hK K
        try simp only [Act.put, List.setIfInBounds_toArray, List.set_cons_zero, List.set_cons_succ]
        refine Inv.takeL (i := 23) (v := ?v16_23) rfl (by kernel_rfl) (by kernel_rfl) (by kernel_rfl) (fun _ _ _ h => h) (by rfl) ?hy16_23 (by assumption) ?rest16_23
        case hy16_23 => ((intro w hSw; (try dsimp only at hSw); go_simp) <;> with_reducible rfl)
        try simp only [Act.put, List.setIfInBounds_toArray, List.set_cons_zero, List.set_cons_succ]
        refine Inv.takeL (i := 24) (v := ?v16_24) rfl (by kernel_rfl) (by kernel_rfl) (by kernel_rfl) (fun _ _ _ h => h) (by rfl) ?hy16_24 (by assumption) ?rest16_24
        case hy16_24 => ((intro w hSw; (try dsimp only at hSw); go_simp) <;> with_reducible rfl)
        try simp only [Act.put, List.setIfInBounds_toArray, List.set_cons_zero, List.set_cons_succ]
        refine Inv.takeL (i := 25) (v := ?v16_25) rfl (by kernel_rfl) (by kernel_rfl) (by kernel_rfl) (fun _ _ _ h => h) (by rfl) ?hy16_25 (by assumption) ?rest16_25
        case hy16_25 => ((intro w hSw; (try dsimp only at hSw); go_simp) <;> with_reducible rfl)
        try simp only [Act.put, List.setIfInBounds_toArray, List.set_cons_zero, List.set_cons_succ]
        refine Inv.takeL (i := 26) (v := ?v16_26) rfl (by kernel_rfl) (by kernel_rfl) (by kernel_rfl) (fun _ _ _ h => h) (by rfl) ?hy16_26 (by assumption) ?rest16_26
        case hy16_26 => ((intro w hSw; (try dsimp only at hSw); go_simp) <;> with_reducible rfl)
        try simp only [Act.put, List.setIfInBounds_toArray, List.set_cons_zero, List.set_cons_succ]
        refine Inv.takeL (i := 27) (v := ?v16_27) rfl (by kernel_rfl) (by kernel_rfl) (by kernel_rfl) (fun _ _ _ h => h) (by rfl) ?hy16_27 (by assumption) ?rest16_27
        case hy16_27 => ((intro w hSw; (try dsimp only at hSw); go_simp) <;> with_reducible rfl)
        try simp only [Act.put, List.setIfInBounds_toArray, List.set_cons_zero, List.set_cons_succ]
        refine Inv.takeL (i := 28) (v := ?v16_28) rfl (by kernel_rfl) (by kernel_rfl) (by kernel_rfl) (fun _ _ _ h => h) (by rfl) ?hy16_28 (by assumption) ?rest16_28
        case hy16_28 => ((intro w hSw; (try dsimp only at hSw); go_simp) <;> with_reducible rfl)
        try simp only [Act.put, List.setIfInBounds_toArray, List.set_cons_zero, List.set_cons_succ]
        refine Inv.takeL (i := 29) (v := ?v16_29) rfl (by kernel_rfl) (by kernel_rfl) (by kernel_rfl) (fun _ _ _ h => h) (by rfl) ?hy16_29 (by assumption) ?rest16_29
        case hy16_29 => ((intro w hSw; (try dsimp only at hSw); go_simp) <;> with_reducible rfl)
        try simp only [Act.put, List.setIfInBounds_toArray, List.set_cons_zero, List.set_cons_succ]
        have HC : Aside0 (Calls Tryd.prog 62 #[(.agg #[(.bool b_x), (.slice A_x M_x c_x), (.slice B_x K_x d_x)])] w19 (BoolPost w19 true)) := ⟨qrightR (((((((((((((H_x.out.below B7.out).below B8.out).below B9.out).below B10.out).below B11.out).below B12.out).below B13.out).below B14.out).below B15.out).below B16.out).below B17.out).below B18.out).below B19.out) (X_x.out.le (by decide))⟩
        refine Inv.oneL (i := 30) rfl (by kernel_rfl) (fun K hK => ?_)
        go_simp
        refine HC.out.mono ?_
        clear HC
        rintro e w20 ⟨rfl, hB⟩
        try go_wp2_with fail
        have B20 := Aside0.mk hB
        have T20 := Aside0.mk (T19.out.trans (hB.mono T19.out.size))
        clear hB
        have U20 := Aside0.mk (U19.out.trans (B20.out.mono U19.out.size))
        refine hK.out _ _ (HS15.out _ U20.out) (fun hHeld => ?_)
        clear hK K
        try simp only [Act.put, List.setIfInBounds_toArray, List.set_cons_zero, List.set_cons_succ]
        refine Inv.takeL (i := 31) (v := ?v16_31) rfl (by kernel_rfl) (by kernel_rfl) (by kernel_rfl) (fun _ _ _ h => h) (by rfl) ?hy16_31 (by assumption) ?rest16_31
        case hy16_31 => ((intro w hSw; (try dsimp only at hSw); go_simp) <;> with_reducible rfl)
        try simp only [Act.put, List.setIfInBounds_toArray, List.set_cons_zero, List.set_cons_succ]
        refine Inv.takeL (i := 32) (v := ?v16_32) rfl (by kernel_rfl) (by kernel_rfl) (by kernel_rfl) (fun _ _ _ h => h) (by rfl) ?hy16_32 (by assumption) ?rest16_32
        case hy16_32 => ((intro w hSw; (try dsimp only at hSw); go_simp) <;> with_reducible rfl)
        try simp only [Act.put, List.setIfInBounds_toArray, List.set_cons_zero, List.set_cons_succ]
        refine Inv.takeL (i := 33) (v := ?v16_33) rfl (by kernel_rfl) (by kernel_rfl) (by kernel_rfl) (fun _ _ _ h => h) (by rfl) ?hy16_33 (by assumption) ?rest16_33
        case hy16_33 => ((intro w hSw; (try dsimp only at hSw); go_simp) <;> with_reducible rfl)
        try simp only [Act.put, List.setIfInBounds_toArray, List.set_cons_zero, List.set_cons_succ]
        refine wpAnyH_done (by kernel_rfl) ?_ _
        go_wp2_with fail
        go_ret
        exact ⟨rfl, T20.out⟩
end Go.Proofs.YtklhpobphloehaaDoor.ratMakes
