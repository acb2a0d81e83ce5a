/- The law RatTerms: the walk through its calls, by their contracts; the row and its card. -/
import Derived.Test.YtklhpobphloehaaDoorS4
import Derived.Test.YtklhpobphloehaaDoorS6
set_option linter.unusedVariables false
namespace Go.Proofs.YtklhpobphloehaaDoor.ratTerms
open Go.RowKit
open Go.Proofs.YtklhpobphloehaaDoor.G Go.Proofs.YtklhpobphloehaaDoor.Nn Go.Proofs.YtklhpobphloehaaDoorW.PrintWords Go.Proofs.YtklhpobphloehaaDoorW.PrintLast

theorem bx (W : World) (g : Nat) (a b c : Value) (t : TypeId) (hg : W.heap.size = g) : Blk (W.alloc (.cells #[a, b, c] t)) g a b c := by
  subst hg
  exact Blk_alloc W a b c t
theorem szeroR (w : World) : Calls Tryd.prog 71 #[] w (RaPost w (0 : Rat)) := (szero_w w).mono fun e w' ⟨v, he, hR, hB⟩ => ⟨v, he, hR, hB⟩
theorem rb_zero : Rb 1 (0 : Rat) := ⟨by decide, by decide⟩
theorem rb_int {n : Int} (h : n.natAbs < 4294967296) : Rb 1 ((n : Int) : Rat) := ⟨by show n.natAbs < pw 1; exact h, by show 1 < pw 1; decide⟩
theorem ssameR {w : World} {v0 v1 : Value} {x y : Rat} (hx : Ra w v0 x) (hy : Ra w v1 y) (bx : Rb 400 x) (h : x = y) : Calls Tryd.prog 58 #[v0, v1] w (TruePost w) := by
  subst h
  exact ssame_w hx hy (pw_lt1000 bx.1 (by omega)) (pw_lt1000 bx.2 (by omega))
theorem sg_kk (b : Bool) (n k : Nat) : sg b (n * k) = sg b n * (k : Int) := by
  unfold sg
  cases b
  · simp
  · simp [Int.neg_mul]
theorem terms_eq (b : Bool) {n d k : Nat} (hk : k ≠ 0) : mkRat (sg b (n * k)) (d * k) = mkRat (sg b n) d := by
  rw [sg_kk, Rat.mkRat_mul_right hk]
theorem cross_eq (b : Bool) {n d : Nat} (hd : d ≠ 0) : Int.natAbs (Rat.num (mkRat (sg b n) d)) * d = n * Rat.den (mkRat (sg b n) d) := by
  obtain ⟨_, h2, h3⟩ := mk_canon b n hd
  rw [h2, h3]
  have e1 := Nat.div_mul_cancel (Nat.gcd_dvd_left n d)
  have e2 := Nat.div_mul_cancel (Nat.gcd_dvd_right n d)
  obtain ⟨g, hg⟩ : ∃ g, g = Nat.gcd n d := ⟨_, rfl⟩
  rw [← hg] at e1 e2 ⊢
  obtain ⟨q, hq⟩ : ∃ q, q = n / g := ⟨_, rfl⟩
  obtain ⟨r, hr⟩ : ∃ r, r = d / g := ⟨_, rfl⟩
  rw [← hq] at e1 ⊢
  rw [← hr] at e2 ⊢
  rw [← e1, ← e2, Nat.mul_assoc, Nat.mul_comm g r]
def TrueB (W0 : World) (e : Ending) (w' : World) : Prop := e = .returned (.bool true) ∧ Aside0 (Below W0.heap.size W0 w')
def ZeroB (W0 : World) (e : Ending) (w' : World) : Prop := e = .returned (.int .i64 0) ∧ Aside0 (Below W0.heap.size W0 w')
theorem neg_none {b : Bool} {n d : Nat} (h : n = 0) (hd : d ≠ 0) : decide (Rat.num (mkRat (sg b n) d) < 0) = false := by
  rw [(mk_canon b n hd).1, h]
  rfl
set_option maxHeartbeats 4000000 in
set_option maxRecDepth 100000 in
theorem walk (a0 : Bool) (a1 : Option Addr) (c1 : Nat) (l1 : List Int) (a2 : Option Addr) (c2 : Nat) (l2 : List Int) (a3 : Option Addr) (c3 : Nat) (l3 : List Int) (w : World) (hr1 : CU w a1 l1.length l1) (hc1 : l1.length ≤ c1) (hL1 : Lim l1) (hr2 : CU w a2 l2.length l2) (hc2 : l2.length ≤ c2) (hL2 : Lim l2) (hr3 : CU w a3 l3.length l3) (hc3 : l3.length ≤ c3) (hL3 : Lim l3) (HT : TabOk w) :
    Calls Tryd.prog 14 #[.bool a0, .slice a1 l1.length c1, .slice a2 l2.length c2, .slice a3 l3.length c3] w (TruePost w) := by
  have C1 := Aside0.mk hr1
  have S1 := Aside0.mk hc1
  have L1 := Aside0.mk hL1
  clear hr1 hc1 hL1
  have C2 := Aside0.mk hr2
  have S2 := Aside0.mk hc2
  have L2 := Aside0.mk hL2
  clear hr2 hc2 hL2
  have C3 := Aside0.mk hr3
  have S3 := Aside0.mk hc3
  have L3 := Aside0.mk hL3
  clear hr3 hc3 hL3
  have TAB := Aside0.mk HT
  clear HT
  go_enter Tryd.func14, Tryd.ntmps14
  have HC : Aside0 (Calls Tryd.prog 55 #[] w (TruePost w)) := ⟨known2_w w TAB.out⟩
  go_wp2_with fail
  refine HC.out.mono ?_
  clear HC
  rintro e w1 ⟨rfl, hB⟩
  have B1 := Aside0.mk hB
  have T1 := Aside0.mk (hB.mono (Nat.le_refl _))
  clear hB
  have HC : Aside0 (Calls Tryd.prog 24 #[.slice a1 l1.length c1, .int .i64 4] w1 (NuPost w1 (mk l1 4))) := ⟨makeN 4 (CU_below C1.out T1.out) S1.out L1.out (by decide)⟩
  go_wp2_with fail
  refine HC.out.mono ?_
  clear HC
  rintro e w2 ⟨v_n, rfl, hN, hB⟩
  have B2 := Aside0.mk hB
  have T2 := Aside0.mk (T1.out.trans (hB.mono T1.out.size))
  have H_n := Aside0.mk hN
  have X_n := Aside0.mk (show mk l1 4 < pw 4 from mk_lt L1.out 4)
  clear hN hB
  have HC : Aside0 (Calls Tryd.prog 24 #[.slice a2 l2.length c2, .int .i64 4] w2 (NuPost w2 (mk l2 4))) := ⟨makeN 4 (CU_below C2.out T2.out) S2.out L2.out (by decide)⟩
  go_wp2_with fail
  refine HC.out.mono ?_
  clear HC
  rintro e w3 ⟨v_d, rfl, hN, hB⟩
  have B3 := Aside0.mk hB
  have T3 := Aside0.mk (T2.out.trans (hB.mono T2.out.size))
  have H_d := Aside0.mk hN
  have X_d := Aside0.mk (show mk l2 4 < pw 4 from mk_lt L2.out 4)
  clear hN hB
  have HC : Aside0 (Calls Tryd.prog 24 #[.slice a3 l3.length c3, .int .i64 3] w3 (NuPost w3 (mk l3 3))) := ⟨makeN 3 (CU_below C3.out T3.out) S3.out L3.out (by decide)⟩
  go_wp2_with fail
  refine HC.out.mono ?_
  clear HC
  rintro e w4 ⟨v_k, rfl, hN, hB⟩
  have B4 := Aside0.mk hB
  have T4 := Aside0.mk (T3.out.trans (hB.mono T3.out.size))
  have H_k := Aside0.mk hN
  have X_k := Aside0.mk (show mk l3 3 < pw 3 from mk_lt L3.out 3)
  clear hN hB
  obtain ⟨A_n, c_n, rfl, _, _⟩ := H_n.out
  obtain ⟨A_d, c_d, rfl, _, _⟩ := H_d.out
  obtain ⟨A_k, c_k, rfl, _, _⟩ := H_k.out
  by_cases hd : (mk l2 4) = 0
  ·
    have hl0 : (digs (mk l2 4)).length = 0 := digs_length_zero.2 hd
    clear hd
    go_wp2_with fail
    go_ret
    exact ⟨rfl, T4.out⟩
  ·
    have hld : 0 < (digs (mk l2 4)).length := Nat.pos_of_ne_zero (fun h => hd (digs_length_zero.1 h))
    have hb1 : (((digs (mk l2 4)).length : Int) == 0) = false := by rw [beq_eq_false_iff_ne]; omega
    have hb2 : ((digs (mk l2 4)).length == 0) = false := by rw [beq_eq_false_iff_ne]; omega
    have DP := Aside0.mk hd
    clear hd
    by_cases hk : (mk l3 3) = 0
    ·
      have hl0 : (digs (mk l3 3)).length = 0 := digs_length_zero.2 hk
      clear hk
      go_wp2_with fail
      go_ret
      exact ⟨rfl, T4.out⟩
    ·
      have hlk : 0 < (digs (mk l3 3)).length := Nat.pos_of_ne_zero (fun h => hk (digs_length_zero.1 h))
      have hb3 : (((digs (mk l3 3)).length : Int) == 0) = false := by rw [beq_eq_false_iff_ne]; omega
      have hb4 : ((digs (mk l3 3)).length == 0) = false := by rw [beq_eq_false_iff_ne]; omega
      have KP := Aside0.mk hk
      clear hk
      have HC : Aside0 (Calls Tryd.prog 56 #[.bool a0, (.slice A_n (digs (mk l1 4)).length c_n), (.slice A_d (digs (mk l2 4)).length c_d)] w4 (RaPostE w4 (mkRat (sg a0 (mk l1 4)) (mk l2 4)) 0)) := ⟨(qmake_w a0 ((H_n.out.below B3.out).below B4.out) (H_d.out.below B4.out) (pw_lt1000 X_n.out (by omega)) (pw_lt1000 X_d.out (by omega)) DP.out).mono fun _ _ h => low_ratE DP.out rfl h⟩
      go_wp2_with fail
      refine HC.out.mono ?_
      clear HC
      rintro e w5 ⟨v_x, rfl, ⟨A_x, M_x, c_x, B_x, K_x, d_x, rfl, hNA, hNB⟩, hB⟩
      have B5 := Aside0.mk hB
      have T5 := Aside0.mk (T4.out.trans (hB.mono T4.out.size))
      obtain ⟨b_x, hb_x⟩ : ∃ b, b = decide (Rat.num (mkRat (sg a0 (mk l1 4)) (mk l2 4)) < 0) := ⟨_, rfl⟩
      have E_x := Aside0.mk hb_x
      rw [← hb_x]
      clear hb_x
      have H_xN := Aside0.mk hNA
      have H_xD := Aside0.mk hNB
      have X_x := Aside0.mk (show Rb 4 (mkRat (sg a0 (mk l1 4)) (mk l2 4)) from mk_bnd (by rw [sg_abs]; exact X_n.out) X_d.out DP.out)
      have X_xN := Aside0.mk X_x.out.1
      have X_xD := Aside0.mk X_x.out.2
      clear hNA hNB hB
      have B6 := Aside0.mk (below_alloc (Below.refl w5.heap.size w5) (.cells #[.bool b_x, .slice A_x M_x c_x, .slice B_x K_x d_x] 56))
      have T6 := Aside0.mk (T5.out.trans (B6.out.mono T5.out.size))
      have H_bxx := Aside0.mk (bx w5 (w5.heap.size) (.bool b_x) (.slice A_x M_x c_x) (.slice B_x K_x d_x) 56 (by simp))
      have HC : Aside0 (Calls Tryd.prog 50 #[(.slice A_n (digs (mk l1 4)).length c_n), (.slice A_k (digs (mk l3 3)).length c_k)] (w5.alloc (.cells #[.bool b_x, .slice A_x M_x c_x, .slice B_x K_x d_x] 56)) (NuPost (w5.alloc (.cells #[.bool b_x, .slice A_x M_x c_x, .slice B_x K_x d_x] 56)) ((mk l1 4) * (mk l3 3)))) := ⟨rmulN ((((H_n.out.below B3.out).below B4.out).below B5.out).below B6.out) ((H_k.out.below B5.out).below B6.out) (pw_lt1000 X_n.out (by omega)) (pw_lt1000 X_k.out (by omega))⟩
      go_wp2_with fail
      refine HC.out.mono ?_
      clear HC
      rintro e w7 ⟨v_nk, rfl, hN, hB⟩
      have B7 := Aside0.mk hB
      have T7 := Aside0.mk (T6.out.trans (hB.mono T6.out.size))
      have H_nk := Aside0.mk hN
      have X_nk := Aside0.mk (show (mk l1 4) * (mk l3 3) < pw 7 from pw_mulb X_n.out X_k.out)
      clear hN hB
      have HC : Aside0 (Calls Tryd.prog 50 #[(.slice A_d (digs (mk l2 4)).length c_d), (.slice A_k (digs (mk l3 3)).length c_k)] w7 (NuPost w7 ((mk l2 4) * (mk l3 3)))) := ⟨rmulN ((((H_d.out.below B4.out).below B5.out).below B6.out).below B7.out) (((H_k.out.below B5.out).below B6.out).below B7.out) (pw_lt1000 X_d.out (by omega)) (pw_lt1000 X_k.out (by omega))⟩
      go_wp2_with fail
      refine HC.out.mono ?_
      clear HC
      rintro e w8 ⟨v_dk, rfl, hN, hB⟩
      have B8 := Aside0.mk hB
      have T8 := Aside0.mk (T7.out.trans (hB.mono T7.out.size))
      have H_dk := Aside0.mk hN
      have X_dk := Aside0.mk (show (mk l2 4) * (mk l3 3) < pw 7 from pw_mulb X_d.out X_k.out)
      clear hN hB
      have HC : Aside0 (Calls Tryd.prog 56 #[.bool a0, v_nk, v_dk] w8 (RaPostE w8 (mkRat (sg a0 (mk l1 4)) (mk l2 4)) 0)) := ⟨(qmake_w a0 (H_nk.out.below B8.out) H_dk.out (pw_lt1000 X_nk.out (by omega)) (pw_lt1000 X_dk.out (by omega)) (Nat.mul_ne_zero DP.out KP.out)).mono fun _ _ h => low_ratE (Nat.mul_ne_zero DP.out KP.out) (terms_eq a0 KP.out).symm h⟩
      go_wp2_with fail
      refine HC.out.mono ?_
      clear HC
      rintro e w9 ⟨v_y, rfl, ⟨A_y, M_y, c_y, B_y, K_y, d_y, rfl, hNA, hNB⟩, hB⟩
      have B9 := Aside0.mk hB
      have T9 := Aside0.mk (T8.out.trans (hB.mono T8.out.size))
      obtain ⟨b_y, hb_y⟩ : ∃ b, b = decide (Rat.num (mkRat (sg a0 (mk l1 4)) (mk l2 4)) < 0) := ⟨_, rfl⟩
      have E_y := Aside0.mk hb_y
      rw [← hb_y]
      clear hb_y
      have H_yN := Aside0.mk hNA
      have H_yD := Aside0.mk hNB
      have X_y := Aside0.mk (show Rb 4 (mkRat (sg a0 (mk l1 4)) (mk l2 4)) from X_x.out)
      have X_yN := Aside0.mk X_y.out.1
      have X_yD := Aside0.mk X_y.out.2
      clear hNA hNB hB
      have B10 := Aside0.mk (below_alloc (Below.refl w9.heap.size w9) (.cells #[.bool b_y, .slice A_y M_y c_y, .slice B_y K_y d_y] 56))
      have T10 := Aside0.mk (T9.out.trans (B10.out.mono T9.out.size))
      have H_bxy := Aside0.mk (bx w9 (w9.heap.size) (.bool b_y) (.slice A_y M_y c_y) (.slice B_y K_y d_y) 56 (by simp))
      obtain rfl : b_y = b_x := E_y.out.trans E_x.out.symm
      have Z_n := Aside0.mk ((((((((H_n.out.below B3.out).below B4.out).below B5.out).below B6.out).below B7.out).below B8.out).below B9.out).below B10.out)
      have Z_d := Aside0.mk (((((((H_d.out.below B4.out).below B5.out).below B6.out).below B7.out).below B8.out).below B9.out).below B10.out)
      have Z_xN := Aside0.mk (((((H_xN.out.below B6.out).below B7.out).below B8.out).below B9.out).below B10.out)
      have Z_xD := Aside0.mk (((((H_xD.out.below B6.out).below B7.out).below B8.out).below B9.out).below B10.out)
      have Z_yN := Aside0.mk (H_yN.out.below B10.out)
      have Z_yD := Aside0.mk (H_yD.out.below B10.out)
      have Z_bxx := Aside0.mk ((((H_bxx.out.below B7.out).below B8.out).below B9.out).below B10.out)
      have Z_bxy := Aside0.mk H_bxy.out
      have ZT := Aside0.mk T10.out
      obtain ⟨W1, hW1⟩ : ∃ W, W = (w9.alloc (.cells #[.bool b_y, .slice A_y M_y c_y, .slice B_y K_y d_y] 56)) := ⟨_, rfl⟩
      go_wp2_with fail
      rw [← hW1]
      rw [← hW1] at Z_n Z_d Z_xN Z_xD Z_yN Z_yD Z_bxx Z_bxy ZT
      clear hW1
      obtain ⟨x, hx⟩ : ∃ x, x = mkRat (sg a0 (mk l1 4)) (mk l2 4) := ⟨_, rfl⟩
      obtain ⟨P, hP⟩ : ∃ P, P = x.num.natAbs * (mk l2 4) := ⟨_, rfl⟩
      have HP2 := Aside0.mk (show (mk l1 4) * x.den = P by rw [hP, hx]; exact (cross_eq a0 DP.out).symm)
      have BX := Aside0.mk (show Rb 4 x by rw [hx]; exact X_x.out)
      have EB := Aside0.mk (show b_y = decide (x.num < 0) by rw [hx]; exact E_y.out)
      have EZ := Aside0.mk (show (mk l1 4) = 0 → b_y = false from fun h => by rw [EB.out, hx]; exact neg_none h DP.out)
      rw [← hx] at Z_xN
      rw [← hx] at Z_xD
      rw [← hx] at Z_yN
      rw [← hx] at Z_yD
      have HPP := Aside0.mk hP
      clear hx hP
      have bP : P < pw 1000 := by rw [HPP.out]; exact Nat.lt_of_lt_of_le (pw_mulb BX.out.1 X_d.out) (pw_le (by decide))
      have HBP := Aside0.mk bP
      clear bP
      have HR := Aside0.mk (fun (W : World) (hW : Below W1.heap.size W1 W) => show Calls Tryd.prog 57 #[.agg #[.bool b_y, .slice A_x M_x c_x, .slice B_x K_x d_x]] W (TrueB W1) from (srightR (x := x) (by unfold Ra; rw [← EB.out]; exact ⟨_, _, _, _, _, _, rfl, Z_xN.out.below hW, Z_xD.out.below hW⟩) (BX.out.le (by decide))).mono fun _ _ h => ⟨h.1, ⟨hW.trans (h.2.mono hW.size)⟩⟩)
      have HSM := Aside0.mk (fun (W : World) (hW : Below W1.heap.size W1 W) => show Calls Tryd.prog 58 #[.agg #[.bool b_y, .slice A_x M_x c_x, .slice B_x K_x d_x], .agg #[.bool b_y, .slice A_y M_y c_y, .slice B_y K_y d_y]] W (TrueB W1) from (ssame_w (g := b_y) (n := x.num.natAbs) (d := x.den) ⟨_, _, _, _, _, _, rfl, Z_xN.out.below hW, Z_xD.out.below hW⟩ ⟨_, _, _, _, _, _, rfl, Z_yN.out.below hW, Z_yD.out.below hW⟩ (pw_lt1000 BX.out.1 (by omega)) (pw_lt1000 BX.out.2 (by omega))).mono fun _ _ h => ⟨h.1, ⟨hW.trans (h.2.mono hW.size)⟩⟩)
      have HGC := Aside0.mk (fun (W : World) (hW : Below W1.heap.size W1 W) => show Calls Tryd.prog 54 #[.slice A_x M_x c_x, .slice B_x K_x d_x] W (StepB W1 W 1) from (by have h := rgcdN (Z_xN.out.below hW) (Z_xD.out.below hW) (Nat.lt_of_lt_of_le BX.out.1 (pw_le (by decide))) (Nat.lt_of_lt_of_le BX.out.2 (pw_le (by decide))); rw [show Nat.gcd x.num.natAbs x.den = 1 from x.reduced] at h; exact h : Calls Tryd.prog 54 _ W (NuPost W 1)).mono fun _ _ h => step_b hW h)
      have HOF := Aside0.mk (fun (W : World) (hW : Below W1.heap.size W1 W) => show Calls Tryd.prog 46 #[.int .u64 1] W (StepB W1 W 1) from (rofN 1 (by decide)).mono fun _ _ h => step_b hW h)
      have HM1 := Aside0.mk (fun (W : World) (hW : Below W1.heap.size W1 W) => show Calls Tryd.prog 50 #[.slice A_x M_x c_x, (.slice A_d (digs (mk l2 4)).length c_d)] W (StepB W1 W P) from (by rw [HPP.out]; exact rmulN (Z_xN.out.below hW) (Z_d.out.below hW) (pw_lt1000 BX.out.1 (by omega)) (pw_lt1000 X_d.out (by omega)) : Calls Tryd.prog 50 _ W (NuPost W P)).mono fun _ _ h => step_b hW h)
      have HM2 := Aside0.mk (fun (W : World) (hW : Below W1.heap.size W1 W) => show Calls Tryd.prog 50 #[(.slice A_n (digs (mk l1 4)).length c_n), .slice B_x K_x d_x] W (StepB W1 W P) from (by rw [← HP2.out]; exact rmulN (Z_n.out.below hW) (Z_xD.out.below hW) (pw_lt1000 X_n.out (by omega)) (pw_lt1000 BX.out.2 (by omega)) : Calls Tryd.prog 50 _ W (NuPost W P)).mono fun _ _ h => step_b hW h)
      have HCM := Aside0.mk (fun (m : Nat) (W : World) (u1 u2 : Value) (hW : Below W1.heap.size W1 W) (bm : m < pw 1000) (k1 : Nu W u1 m) (k2 : Nu W u2 m) => show Calls Tryd.prog 41 #[u1, u2] W (ZeroB W1) from (by have h := rcmpN k1 k2 bm bm; rw [cmpZ_eq rfl] at h; exact h : Calls Tryd.prog 41 #[u1, u2] W (IntPost W 0)).mono fun _ _ h => ⟨h.1, ⟨hW.trans (h.2.mono hW.size)⟩⟩)
      have HS := Aside0.mk (fun (W : World) (hW : Below W1.heap.size W1 W) => show W.cell? ⟨w5.heap.size, 0, none⟩ = some (.bool b_y) ∧ W.cell? ⟨w5.heap.size, 1, none⟩ = some (.slice A_x M_x c_x) ∧ W.cell? ⟨w5.heap.size, 2, none⟩ = some (.slice B_x K_x d_x) ∧ W.cell? ⟨w9.heap.size, 0, none⟩ = some (.bool b_y) ∧ W.cell? ⟨w9.heap.size, 1, none⟩ = some (.slice A_y M_y c_y) ∧ W.cell? ⟨w9.heap.size, 2, none⟩ = some (.slice B_y K_y d_y) from ⟨(Z_bxx.out.below hW).1.1, (Z_bxx.out.below hW).1.2.1, (Z_bxx.out.below hW).1.2.2, (Z_bxy.out.below hW).1⟩)
      have hNl : (digs (mk l1 4)).length = 0 ↔ (mk l1 4) = 0 := digs_length_zero
      have b1000 : (1 : Nat) < pw 1000 := pw_lt1000 (show 1 < pw 1 by decide) (by omega)
      have HB1000 := Aside0.mk b1000
      clear b1000
      obtain ⟨LN, hLN⟩ : ∃ q, q = (digs (mk l1 4)).length := ⟨_, rfl⟩
      rw [← hLN] at HM2 Z_n hNl ⊢
      clear hLN
      by_cases hn0 : (mk l1 4) = 0
      ·
        have hl5 : LN = 0 := hNl.2 hn0
        subst hl5
        have hbf : b_y = false := EZ.out hn0
        subst hbf
        clear hn0 hNl
        first
        | (go_region_held3 (fun W => W.cell? ⟨w5.heap.size, 0, none⟩ = some (.bool false) ∧ W.cell? ⟨w5.heap.size, 1, none⟩ = some (.slice A_x M_x c_x) ∧ W.cell? ⟨w5.heap.size, 2, none⟩ = some (.slice B_x K_x d_x) ∧ W.cell? ⟨w9.heap.size, 0, none⟩ = some (.bool false) ∧ W.cell? ⟨w9.heap.size, 1, none⟩ = some (.slice A_y M_y c_y) ∧ W.cell? ⟨w9.heap.size, 2, none⟩ = some (.slice B_y K_y d_y)) (first | exact HS.out _ (Below.drew (Below.refl _ _)) | exact HS.out _ HB8.out | exact HS.out _ HB7.out | exact HS.out _ HB6.out | exact HS.out _ HB5.out | exact HS.out _ HB4.out | exact HS.out _ HB3.out | exact HS.out _ HB2.out | exact HS.out _ HB1.out | exact HS.out _ (Below.refl _ _))
          (first
            | (go_at_call 57; (with_reducible refine (HR.out _ (by with_reducible repeat (first | exact Below.refl _ _ | exact HB8.out | exact HB7.out | exact HB6.out | exact HB5.out | exact HB4.out | exact HB3.out | exact HB2.out | exact HB1.out | refine Below.drew ?_))).mono ?_); rintro e y1 ⟨rfl, HB1⟩)
            | (go_at_call 58; (with_reducible refine (HSM.out _ (by with_reducible repeat (first | exact Below.refl _ _ | exact HB8.out | exact HB7.out | exact HB6.out | exact HB5.out | exact HB4.out | exact HB3.out | exact HB2.out | exact HB1.out | refine Below.drew ?_))).mono ?_); rintro e y2 ⟨rfl, HB2⟩)
            | (go_at_call 54; (with_reducible refine (HGC.out _ (by with_reducible repeat (first | exact Below.refl _ _ | exact HB8.out | exact HB7.out | exact HB6.out | exact HB5.out | exact HB4.out | exact HB3.out | exact HB2.out | exact HB1.out | refine Below.drew ?_))).mono ?_); rintro e y3 ⟨u3, rfl, hN3, hB3, hT3⟩; have HN3 := Aside0.mk hN3; have HB3 := Aside0.mk hB3; have HT3 := Aside0.mk hT3; clear hN3 hB3 hT3)
            | (go_at_call 46; (with_reducible refine (HOF.out _ (by with_reducible repeat (first | exact Below.refl _ _ | exact HB8.out | exact HB7.out | exact HB6.out | exact HB5.out | exact HB4.out | exact HB3.out | exact HB2.out | exact HB1.out | refine Below.drew ?_))).mono ?_); rintro e y4 ⟨u4, rfl, hN4, hB4, hT4⟩; have HN4 := Aside0.mk hN4; have HB4 := Aside0.mk hB4; have HT4 := Aside0.mk hT4; clear hN4 hB4 hT4)
            | (go_at_call 50; (with_reducible refine (HM1.out _ (by with_reducible repeat (first | exact Below.refl _ _ | exact HB8.out | exact HB7.out | exact HB6.out | exact HB5.out | exact HB4.out | exact HB3.out | exact HB2.out | exact HB1.out | refine Below.drew ?_))).mono ?_); rintro e y6 ⟨u6, rfl, hN6, hB6, hT6⟩; have HN6 := Aside0.mk hN6; have HB6 := Aside0.mk hB6; have HT6 := Aside0.mk hT6; clear hN6 hB6 hT6)
            | (go_at_call 50; (with_reducible refine (HM2.out _ (by with_reducible repeat (first | exact Below.refl _ _ | exact HB8.out | exact HB7.out | exact HB6.out | exact HB5.out | exact HB4.out | exact HB3.out | exact HB2.out | exact HB1.out | refine Below.drew ?_))).mono ?_); rintro e y7 ⟨u7, rfl, hN7, hB7, hT7⟩; have HN7 := Aside0.mk hN7; have HB7 := Aside0.mk hB7; have HT7 := Aside0.mk hT7; clear hN7 hB7 hT7)
            | (have hx6 := HN6; clear hx6; go_at_call 41; (with_reducible refine (HCM.out P _ _ _ (by with_reducible repeat (first | exact Below.refl _ _ | exact HB8.out | exact HB7.out | exact HB6.out | exact HB5.out | exact HB4.out | exact HB3.out | exact HB2.out | exact HB1.out | refine Below.drew ?_)) HBP.out (by with_reducible repeat (first | exact HN3.out | exact HN4.out | exact HN6.out | exact HN7.out | refine HT4.out _ _ ?_ | refine HT7.out _ _ ?_ | refine Nu_drew' ?_)) (by with_reducible repeat (first | exact HN3.out | exact HN4.out | exact HN6.out | exact HN7.out | refine HT4.out _ _ ?_ | refine HT7.out _ _ ?_ | refine Nu_drew' ?_))).mono ?_); rintro e y8 ⟨rfl, HB8⟩)
            | (go_at_call 41; (with_reducible refine (HCM.out 1 _ _ _ (by with_reducible repeat (first | exact Below.refl _ _ | exact HB8.out | exact HB7.out | exact HB6.out | exact HB5.out | exact HB4.out | exact HB3.out | exact HB2.out | exact HB1.out | refine Below.drew ?_)) HB1000.out (by with_reducible repeat (first | exact HN3.out | exact HN4.out | exact HN6.out | exact HN7.out | refine HT4.out _ _ ?_ | refine HT7.out _ _ ?_ | refine Nu_drew' ?_)) (by with_reducible repeat (first | exact HN3.out | exact HN4.out | exact HN6.out | exact HN7.out | refine HT4.out _ _ ?_ | refine HT7.out _ _ ?_ | refine Nu_drew' ?_))).mono ?_); rintro e y5 ⟨rfl, HB5⟩)))
        | fail "held"
        go_wp2_with fail
        go_ret
        exact ⟨rfl, ZT.out.trans (HB8.out.mono ZT.out.size)⟩
      ·
        have hl5 : 0 < LN := Nat.pos_of_ne_zero fun h => hn0 (hNl.1 h)
        have hl6 : (0 : Int) < (LN : Int) := by omega
        clear hn0 hNl
        refine wp_region_held_drew (S := fun W => W.cell? ⟨w5.heap.size, 0, none⟩ = some (.bool b_y) ∧ W.cell? ⟨w5.heap.size, 1, none⟩ = some (.slice A_x M_x c_x) ∧ W.cell? ⟨w5.heap.size, 2, none⟩ = some (.slice B_x K_x d_x) ∧ W.cell? ⟨w9.heap.size, 0, none⟩ = some (.bool b_y) ∧ W.cell? ⟨w9.heap.size, 1, none⟩ = some (.slice A_y M_y c_y) ∧ W.cell? ⟨w9.heap.size, 2, none⟩ = some (.slice B_y K_y d_y)) (by kernel_rfl) (HS.out _ (Below.drew (Below.refl _ _))) (fun hHeld => ?_)
        refine Inv.takeL (i := 0) (v := ?v0) rfl (by kernel_rfl) (by kernel_rfl) (by kernel_rfl) (fun _ _ _ h => h) (by rfl) ?hy0 (by assumption) ?rest0
        case hy0 => ((intro w hSw; (try dsimp only at hSw); go_simp) <;> with_reducible rfl)
        try simp only [Act.put, List.setIfInBounds_toArray, List.set_cons_zero, List.set_cons_succ]
        refine Inv.takeL (i := 1) (v := ?v1) rfl (by kernel_rfl) (by kernel_rfl) (by kernel_rfl) (fun _ _ _ h => h) (by rfl) ?hy1 (by assumption) ?rest1
        case hy1 => ((intro w hSw; (try dsimp only at hSw); go_simp) <;> with_reducible rfl)
        try simp only [Act.put, List.setIfInBounds_toArray, List.set_cons_zero, List.set_cons_succ]
        refine Inv.takeL (i := 2) (v := ?v2) rfl (by kernel_rfl) (by kernel_rfl) (by kernel_rfl) (fun _ _ _ h => h) (by rfl) ?hy2 (by assumption) ?rest2
        case hy2 => ((intro w hSw; (try dsimp only at hSw); go_simp) <;> with_reducible rfl)
        try simp only [Act.put, List.setIfInBounds_toArray, List.set_cons_zero, List.set_cons_succ]
        refine Inv.takeL (i := 3) (v := ?v3) rfl (by kernel_rfl) (by kernel_rfl) (by kernel_rfl) (fun _ _ _ h => h) (by rfl) ?hy3 (by assumption) ?rest3
        case hy3 => ((intro w hSw; (try dsimp only at hSw); go_simp) <;> with_reducible rfl)
        try simp only [Act.put, List.setIfInBounds_toArray, List.set_cons_zero, List.set_cons_succ]
        refine Inv.takeL (i := 4) (v := ?v4) rfl (by kernel_rfl) (by kernel_rfl) (by kernel_rfl) (fun _ _ _ h => h) (by rfl) ?hy4 (by assumption) ?rest4
        case hy4 => ((intro w hSw; (try dsimp only at hSw); go_simp) <;> with_reducible rfl)
        try simp only [Act.put, List.setIfInBounds_toArray, List.set_cons_zero, List.set_cons_succ]
        refine Inv.takeL (i := 5) (v := ?v5) rfl (by kernel_rfl) (by kernel_rfl) (by kernel_rfl) (fun _ _ _ h => h) (by rfl) ?hy5 (by assumption) ?rest5
        case hy5 => ((intro w hSw; (try dsimp only at hSw); go_simp) <;> with_reducible rfl)
        try simp only [Act.put, List.setIfInBounds_toArray, List.set_cons_zero, List.set_cons_succ]
        refine Inv.takeL (i := 6) (v := ?v6) rfl (by kernel_rfl) (by kernel_rfl) (by kernel_rfl) (fun _ _ _ h => h) (by rfl) ?hy6 (by assumption) ?rest6
        case hy6 => ((intro w hSw; (try dsimp only at hSw); go_simp) <;> with_reducible rfl)
        try simp only [Act.put, List.setIfInBounds_toArray, List.set_cons_zero, List.set_cons_succ]
        refine Inv.takeL (i := 7) (v := ?v7) rfl (by kernel_rfl) (by kernel_rfl) (by kernel_rfl) (fun _ _ _ h => h) (by rfl) ?hy7 (by assumption) ?rest7
        case hy7 => ((intro w hSw; (try dsimp only at hSw); go_simp) <;> with_reducible rfl)
        try simp only [Act.put, List.setIfInBounds_toArray, List.set_cons_zero, List.set_cons_succ]
        refine Inv.oneL (i := 8) rfl (by kernel_rfl) (fun K hK => ?_)
        go_simp
        (go_at_call 57; (with_reducible refine (HR.out _ (by with_reducible repeat (first | exact Below.refl _ _ | exact HB8.out | exact HB7.out | exact HB6.out | exact HB5.out | exact HB4.out | exact HB3.out | exact HB2.out | exact HB1.out | refine Below.drew ?_))).mono ?_); rintro e y1 ⟨rfl, HB1⟩)
        try go_wp2_with fail
        refine hK.out _ _ (HS.out _ HB1.out) (fun hHeld => ?_)
        clear hK K
        try simp only [Act.put, List.setIfInBounds_toArray, List.set_cons_zero, List.set_cons_succ]
        refine Inv.takeL (i := 9) (v := ?v9) rfl (by kernel_rfl) (by kernel_rfl) (by kernel_rfl) (fun _ _ _ h => h) (by rfl) ?hy9 (by assumption) ?rest9
        case hy9 => ((intro w hSw; (try dsimp only at hSw); go_simp) <;> with_reducible rfl)
        try simp only [Act.put, List.setIfInBounds_toArray, List.set_cons_zero, List.set_cons_succ]
        refine Inv.takeL (i := 10) (v := ?v10) rfl (by kernel_rfl) (by kernel_rfl) (by kernel_rfl) (fun _ _ _ h => h) (by rfl) ?hy10 (by assumption) ?rest10
        case hy10 => ((intro w hSw; (try dsimp only at hSw); go_simp) <;> with_reducible rfl)
        try simp only [Act.put, List.setIfInBounds_toArray, List.set_cons_zero, List.set_cons_succ]
        refine Inv.takeL (i := 11) (v := ?v11) rfl (by kernel_rfl) (by kernel_rfl) (by kernel_rfl) (fun _ _ _ h => h) (by rfl) ?hy11 (by assumption) ?rest11
        case hy11 => ((intro w hSw; (try dsimp only at hSw); go_simp) <;> with_reducible rfl)
        try simp only [Act.put, List.setIfInBounds_toArray, List.set_cons_zero, List.set_cons_succ]
        refine Inv.takeL (i := 12) (v := ?v12) rfl (by kernel_rfl) (by kernel_rfl) (by kernel_rfl) (fun _ _ _ h => h) (by rfl) ?hy12 (by assumption) ?rest12
        case hy12 => ((intro w hSw; (try dsimp only at hSw); go_simp) <;> with_reducible rfl)
        try simp only [Act.put, List.setIfInBounds_toArray, List.set_cons_zero, List.set_cons_succ]
        refine Inv.oneL (i := 13) rfl (by kernel_rfl) (fun K hK => ?_)
        go_simp
        (go_at_call 58; (with_reducible refine (HSM.out _ (by with_reducible repeat (first | exact Below.refl _ _ | exact HB8.out | exact HB7.out | exact HB6.out | exact HB5.out | exact HB4.out | exact HB3.out | exact HB2.out | exact HB1.out | refine Below.drew ?_))).mono ?_); rintro e y2 ⟨rfl, HB2⟩)
        try go_wp2_with fail
        refine hK.out _ _ (HS.out _ HB2.out) (fun hHeld => ?_)
        clear hK K
        try simp only [Act.put, List.setIfInBounds_toArray, List.set_cons_zero, List.set_cons_succ]
        refine Inv.takeL (i := 14) (v := ?v14) rfl (by kernel_rfl) (by kernel_rfl) (by kernel_rfl) (fun _ _ _ h => h) (by rfl) ?hy14 (by assumption) ?rest14
        case hy14 => ((intro w hSw; (try dsimp only at hSw); go_simp) <;> with_reducible rfl)
        try simp only [Act.put, List.setIfInBounds_toArray, List.set_cons_zero, List.set_cons_succ]
        refine Inv.takeL (i := 15) (v := ?v15) rfl (by kernel_rfl) (by kernel_rfl) (by kernel_rfl) (fun _ _ _ h => h) (by rfl) ?hy15 (by assumption) ?rest15
        case hy15 => ((intro w hSw; (try dsimp only at hSw); go_simp) <;> with_reducible rfl)
        try simp only [Act.put, List.setIfInBounds_toArray, List.set_cons_zero, List.set_cons_succ]
        refine Inv.takeL (i := 16) (v := ?v16) rfl (by kernel_rfl) (by kernel_rfl) (by kernel_rfl) (fun _ _ _ h => h) (by rfl) ?hy16 (by assumption) ?rest16
        case hy16 => ((intro w hSw; (try dsimp only at hSw); go_simp) <;> with_reducible rfl)
        try simp only [Act.put, List.setIfInBounds_toArray, List.set_cons_zero, List.set_cons_succ]
        refine Inv.takeL (i := 17) (v := ?v17) rfl (by kernel_rfl) (by kernel_rfl) (by kernel_rfl) (fun _ _ _ h => h) (by rfl) ?hy17 (by assumption) ?rest17
        case hy17 => ((intro w hSw; (try dsimp only at hSw); go_simp) <;> with_reducible rfl)
        try simp only [Act.put, List.setIfInBounds_toArray, List.set_cons_zero, List.set_cons_succ]
        refine Inv.takeL (i := 18) (v := ?v18) rfl (by kernel_rfl) (by kernel_rfl) (by kernel_rfl) (fun _ _ _ h => h) (by rfl) ?hy18 (by assumption) ?rest18
        case hy18 => ((intro w hSw; (try dsimp only at hSw); go_simp) <;> with_reducible rfl)
        try simp only [Act.put, List.setIfInBounds_toArray, List.set_cons_zero, List.set_cons_succ]
        refine Inv.takeL (i := 19) (v := ?v19) rfl (by kernel_rfl) (by kernel_rfl) (by kernel_rfl) (fun _ _ _ h => h) (by rfl) ?hy19 (by assumption) ?rest19
        case hy19 => ((intro w hSw; (try dsimp only at hSw); go_simp) <;> with_reducible rfl)
        try simp only [Act.put, List.setIfInBounds_toArray, List.set_cons_zero, List.set_cons_succ]
        refine Inv.oneL (i := 20) rfl (by kernel_rfl) (fun K hK => ?_)
        go_simp
        (go_at_call 54; (with_reducible refine (HGC.out _ (by with_reducible repeat (first | exact Below.refl _ _ | exact HB8.out | exact HB7.out | exact HB6.out | exact HB5.out | exact HB4.out | exact HB3.out | exact HB2.out | exact HB1.out | refine Below.drew ?_))).mono ?_); rintro e y3 ⟨u3, rfl, hN3, hB3, hT3⟩; have HN3 := Aside0.mk hN3; have HB3 := Aside0.mk hB3; have HT3 := Aside0.mk hT3; clear hN3 hB3 hT3)
        try go_wp2_with fail
        refine hK.out _ _ (HS.out _ HB3.out) (fun hHeld => ?_)
        clear hK K
        try simp only [Act.put, List.setIfInBounds_toArray, List.set_cons_zero, List.set_cons_succ]
        refine Inv.oneL (i := 21) rfl (by kernel_rfl) (fun K hK => ?_)
        go_simp
        (go_at_call 46; (with_reducible refine (HOF.out _ (by with_reducible repeat (first | exact Below.refl _ _ | exact HB8.out | exact HB7.out | exact HB6.out | exact HB5.out | exact HB4.out | exact HB3.out | exact HB2.out | exact HB1.out | refine Below.drew ?_))).mono ?_); rintro e y4 ⟨u4, rfl, hN4, hB4, hT4⟩; have HN4 := Aside0.mk hN4; have HB4 := Aside0.mk hB4; have HT4 := Aside0.mk hT4; clear hN4 hB4 hT4)
        try go_wp2_with fail
        refine hK.out _ _ (HS.out _ HB4.out) (fun hHeld => ?_)
        clear hK K
        try simp only [Act.put, List.setIfInBounds_toArray, List.set_cons_zero, List.set_cons_succ]
        refine Inv.oneL (i := 22) rfl (by kernel_rfl) (fun K hK => ?_)
        go_simp
        (go_at_call 41; (with_reducible refine (HCM.out 1 _ _ _ (by with_reducible repeat (first | exact Below.refl _ _ | exact HB8.out | exact HB7.out | exact HB6.out | exact HB5.out | exact HB4.out | exact HB3.out | exact HB2.out | exact HB1.out | refine Below.drew ?_)) HB1000.out (by with_reducible repeat (first | exact HN3.out | exact HN4.out | exact HN6.out | exact HN7.out | refine HT4.out _ _ ?_ | refine HT7.out _ _ ?_ | refine Nu_drew' ?_)) (by with_reducible repeat (first | exact HN3.out | exact HN4.out | exact HN6.out | exact HN7.out | refine HT4.out _ _ ?_ | refine HT7.out _ _ ?_ | refine Nu_drew' ?_))).mono ?_); rintro e y5 ⟨rfl, HB5⟩)
        try go_wp2_with fail
        refine hK.out _ _ (HS.out _ HB5.out) (fun hHeld => ?_)
        clear hK K
        try simp only [Act.put, List.setIfInBounds_toArray, List.set_cons_zero, List.set_cons_succ]
        refine Inv.takeL (i := 23) (v := ?v23) rfl (by kernel_rfl) (by kernel_rfl) (by kernel_rfl) (fun _ _ _ h => h) (by rfl) ?hy23 (by assumption) ?rest23
        case hy23 => ((intro w hSw; (try dsimp only at hSw); go_simp) <;> with_reducible rfl)
        try simp only [Act.put, List.setIfInBounds_toArray, List.set_cons_zero, List.set_cons_succ]
        refine Inv.takeL (i := 24) (v := ?v24) rfl (by kernel_rfl) (by kernel_rfl) (by kernel_rfl) (fun _ _ _ h => h) (by rfl) ?hy24 (by assumption) ?rest24
        case hy24 => ((intro w hSw; (try dsimp only at hSw); go_simp) <;> with_reducible rfl)
        try simp only [Act.put, List.setIfInBounds_toArray, List.set_cons_zero, List.set_cons_succ]
        refine Inv.takeL (i := 25) (v := ?v25) rfl (by kernel_rfl) (by kernel_rfl) (by kernel_rfl) (fun _ _ _ h => h) (by rfl) ?hy25 (by assumption) ?rest25
        case hy25 => ((intro w hSw; (try dsimp only at hSw); go_simp) <;> with_reducible rfl)
        try simp only [Act.put, List.setIfInBounds_toArray, List.set_cons_zero, List.set_cons_succ]
        refine Inv.takeL (i := 26) (v := ?v26) rfl (by kernel_rfl) (by kernel_rfl) (by kernel_rfl) (fun _ _ _ h => h) (by rfl) ?hy26 (by assumption) ?rest26
        case hy26 => ((intro w hSw; (try dsimp only at hSw); go_simp) <;> with_reducible rfl)
        try simp only [Act.put, List.setIfInBounds_toArray, List.set_cons_zero, List.set_cons_succ]
        refine Inv.takeL (i := 27) (v := ?v27) rfl (by kernel_rfl) (by kernel_rfl) (by kernel_rfl) (fun _ _ _ h => h) (by rfl) ?hy27 (by assumption) ?rest27
        case hy27 => ((intro w hSw; (try dsimp only at hSw); go_simp) <;> with_reducible rfl)
        try simp only [Act.put, List.setIfInBounds_toArray, List.set_cons_zero, List.set_cons_succ]
        refine Inv.takeL (i := 28) (v := ?v28) rfl (by kernel_rfl) (by kernel_rfl) (by kernel_rfl) (fun _ _ _ h => h) (by rfl) ?hy28 (by assumption) ?rest28
        case hy28 => ((intro w hSw; (try dsimp only at hSw); go_simp) <;> with_reducible rfl)
        try simp only [Act.put, List.setIfInBounds_toArray, List.set_cons_zero, List.set_cons_succ]
        refine Inv.takeL (i := 30) (v := ?v30) rfl (by kernel_rfl) (by kernel_rfl) (by kernel_rfl) (fun _ _ _ h => h) (by rfl) ?hy30 (by assumption) ?rest30
        case hy30 => ((intro w hSw; (try dsimp only at hSw); go_simp) <;> with_reducible rfl)
        try simp only [Act.put, List.setIfInBounds_toArray, List.set_cons_zero, List.set_cons_succ]
        refine Inv.takeL (i := 31) (v := ?v31) rfl (by kernel_rfl) (by kernel_rfl) (by kernel_rfl) (fun _ _ _ h => h) (by rfl) ?hy31 (by assumption) ?rest31
        case hy31 => ((intro w hSw; (try dsimp only at hSw); go_simp) <;> with_reducible rfl)
        try simp only [Act.put, List.setIfInBounds_toArray, List.set_cons_zero, List.set_cons_succ]
        refine Inv.takeL (i := 32) (v := ?v32) rfl (by kernel_rfl) (by kernel_rfl) (by kernel_rfl) (fun _ _ _ h => h) (by rfl) ?hy32 (by assumption) ?rest32
        case hy32 => ((intro w hSw; (try dsimp only at hSw); go_simp) <;> with_reducible rfl)
        try simp only [Act.put, List.setIfInBounds_toArray, List.set_cons_zero, List.set_cons_succ]
        refine Inv.oneL (i := 29) rfl (by kernel_rfl) (fun K hK => ?_)
        go_simp
        (go_at_call 50; (with_reducible refine (HM1.out _ (by with_reducible repeat (first | exact Below.refl _ _ | exact HB8.out | exact HB7.out | exact HB6.out | exact HB5.out | exact HB4.out | exact HB3.out | exact HB2.out | exact HB1.out | refine Below.drew ?_))).mono ?_); rintro e y6 ⟨u6, rfl, hN6, hB6, hT6⟩; have HN6 := Aside0.mk hN6; have HB6 := Aside0.mk hB6; have HT6 := Aside0.mk hT6; clear hN6 hB6 hT6)
        try go_wp2_with fail
        refine hK.out _ _ (HS.out _ HB6.out) (fun hHeld => ?_)
        clear hK K
        try simp only [Act.put, List.setIfInBounds_toArray, List.set_cons_zero, List.set_cons_succ]
        refine Inv.oneL (i := 33) rfl (by kernel_rfl) (fun K hK => ?_)
        go_simp
        (go_at_call 50; (with_reducible refine (HM2.out _ (by with_reducible repeat (first | exact Below.refl _ _ | exact HB8.out | exact HB7.out | exact HB6.out | exact HB5.out | exact HB4.out | exact HB3.out | exact HB2.out | exact HB1.out | refine Below.drew ?_))).mono ?_); rintro e y7 ⟨u7, rfl, hN7, hB7, hT7⟩; have HN7 := Aside0.mk hN7; have HB7 := Aside0.mk hB7; have HT7 := Aside0.mk hT7; clear hN7 hB7 hT7)
        try go_wp2_with fail
        refine hK.out _ _ (HS.out _ HB7.out) (fun hHeld => ?_)
        clear hK K
        try simp only [Act.put, List.setIfInBounds_toArray, List.set_cons_zero, List.set_cons_succ]
        refine Inv.oneL (i := 34) rfl (by kernel_rfl) (fun K hK => ?_)
        go_simp
        (go_at_call 41; (with_reducible refine (HCM.out P _ _ _ (by with_reducible repeat (first | exact Below.refl _ _ | exact HB8.out | exact HB7.out | exact HB6.out | exact HB5.out | exact HB4.out | exact HB3.out | exact HB2.out | exact HB1.out | refine Below.drew ?_)) HBP.out (by with_reducible repeat (first | exact HN3.out | exact HN4.out | exact HN6.out | exact HN7.out | refine HT4.out _ _ ?_ | refine HT7.out _ _ ?_ | refine Nu_drew' ?_)) (by with_reducible repeat (first | exact HN3.out | exact HN4.out | exact HN6.out | exact HN7.out | refine HT4.out _ _ ?_ | refine HT7.out _ _ ?_ | refine Nu_drew' ?_))).mono ?_); rintro e y8 ⟨rfl, HB8⟩)
        try go_wp2_with fail
        refine hK.out _ _ (HS.out _ HB8.out) (fun hHeld => ?_)
        clear hK K
        try simp only [Act.put, List.setIfInBounds_toArray, List.set_cons_zero, List.set_cons_succ]
        refine Inv.takeL (i := 35) (v := ?v35) rfl (by kernel_rfl) (by kernel_rfl) (by kernel_rfl) (fun _ _ _ h => h) (by rfl) ?hy35 (by assumption) ?rest35
        case hy35 => ((intro w hSw; (try dsimp only at hSw); go_simp) <;> with_reducible rfl)
        try simp only [Act.put, List.setIfInBounds_toArray, List.set_cons_zero, List.set_cons_succ]
        refine Inv.takeL (i := 36) (v := ?v36) rfl (by kernel_rfl) (by kernel_rfl) (by kernel_rfl) (fun _ _ _ h => h) (by rfl) ?hy36 (by assumption) ?rest36
        case hy36 => ((intro w hSw; (try dsimp only at hSw); go_simp) <;> with_reducible rfl)
        try simp only [Act.put, List.setIfInBounds_toArray, List.set_cons_zero, List.set_cons_succ]
        refine Inv.takeL (i := 37) (v := ?v37) rfl (by kernel_rfl) (by kernel_rfl) (by kernel_rfl) (fun _ _ _ h => h) (by rfl) ?hy37 (by assumption) ?rest37
        case hy37 => ((intro w hSw; (try dsimp only at hSw); go_simp) <;> with_reducible rfl)
        try simp only [Act.put, List.setIfInBounds_toArray, List.set_cons_zero, List.set_cons_succ]
        refine Inv.takeL (i := 38) (v := ?v38) rfl (by kernel_rfl) (by kernel_rfl) (by kernel_rfl) (fun _ _ _ h => h) (by rfl) ?hy38 (by assumption) ?rest38
        case hy38 => ((intro w hSw; (try dsimp only at hSw); go_simp) <;> with_reducible rfl)
        try simp only [Act.put, List.setIfInBounds_toArray, List.set_cons_zero, List.set_cons_succ]
        refine Inv.takeL (i := 39) (v := ?v39) rfl (by kernel_rfl) (by kernel_rfl) (by kernel_rfl) (fun _ _ _ h => h) (by rfl) ?hy39 (by assumption) ?rest39
        case hy39 => ((intro w hSw; (try dsimp only at hSw); go_simp) <;> with_reducible rfl)
        try simp only [Act.put, List.setIfInBounds_toArray, List.set_cons_zero, List.set_cons_succ]
        refine Inv.takeL (i := 40) (v := ?v40) rfl (by kernel_rfl) (by kernel_rfl) (by kernel_rfl) (fun _ _ _ h => h) (by rfl) ?hy40 (by assumption) ?rest40
        case hy40 => ((intro w hSw; (try dsimp only at hSw); go_simp) <;> with_reducible rfl)
        try simp only [Act.put, List.setIfInBounds_toArray, List.set_cons_zero, List.set_cons_succ]
        refine Inv.takeL (i := 41) (v := ?v41) rfl (by kernel_rfl) (by kernel_rfl) (by kernel_rfl) (fun _ _ _ h => h) (by rfl) ?hy41 (by assumption) ?rest41
        case hy41 => ((intro w hSw; (try dsimp only at hSw); go_simp) <;> with_reducible rfl)
        try simp only [Act.put, List.setIfInBounds_toArray, List.set_cons_zero, List.set_cons_succ]
        refine Inv.skipL (i := 42) rfl (by kernel_rfl) (by kernel_rfl) (by kernel_rfl) (fun _ _ _ h => h) (by rfl) (by assumption) ?_
        try simp only [Act.put, List.setIfInBounds_toArray, List.set_cons_zero, List.set_cons_succ]
        refine Inv.skipL (i := 43) rfl (by kernel_rfl) (by kernel_rfl) (by kernel_rfl) (fun _ _ _ h => h) (by rfl) (by assumption) ?_
        try simp only [Act.put, List.setIfInBounds_toArray, List.set_cons_zero, List.set_cons_succ]
        refine Inv.skipL (i := 44) rfl (by kernel_rfl) (by kernel_rfl) (by kernel_rfl) (fun _ _ _ h => h) (by rfl) (by assumption) ?_
        try simp only [Act.put, List.setIfInBounds_toArray, List.set_cons_zero, List.set_cons_succ]
        refine Inv.takeL (i := 45) (v := ?v45) rfl (by kernel_rfl) (by kernel_rfl) (by kernel_rfl) (fun _ _ _ h => h) (by rfl) ?hy45 (by assumption) ?rest45
        case hy45 => ((intro w hSw; (try dsimp only at hSw); go_simp) <;> with_reducible rfl)
        try simp only [Act.put, List.setIfInBounds_toArray, List.set_cons_zero, List.set_cons_succ]
        refine Inv.takeL (i := 46) (v := ?v46) rfl (by kernel_rfl) (by kernel_rfl) (by kernel_rfl) (fun _ _ _ h => h) (by rfl) ?hy46 (by assumption) ?rest46
        case hy46 => ((intro w hSw; (try dsimp only at hSw); go_simp) <;> with_reducible rfl)
        try simp only [Act.put, List.setIfInBounds_toArray, List.set_cons_zero, List.set_cons_succ]
        refine Inv.takeL (i := 47) (v := ?v47) rfl (by kernel_rfl) (by kernel_rfl) (by kernel_rfl) (fun _ _ _ h => h) (by rfl) ?hy47 (by assumption) ?rest47
        case hy47 => ((intro w hSw; (try dsimp only at hSw); go_simp) <;> with_reducible rfl)
        try simp only [Act.put, List.setIfInBounds_toArray, List.set_cons_zero, List.set_cons_succ]
        refine wpAnyH_done (by kernel_rfl) ?_ _
        go_wp2_with fail
        go_ret
        exact ⟨rfl, ZT.out.trans (HB8.out.mono ZT.out.size)⟩
end Go.Proofs.YtklhpobphloehaaDoor.ratTerms
