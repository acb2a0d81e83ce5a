/- The law NatSizes: the walk through its calls, by their contracts; the row and its card. -/
import Derived.Test.YtklhpobphloehaaDoorB
import Derived.Test.YtklhpobphloehaaDoorG13
set_option linter.unusedVariables false
namespace Go.Proofs.YtklhpobphloehaaDoor.natSizes
open Go.RowKit
open Go.Proofs.YtklhpobphloehaaDoor.G Go.Proofs.YtklhpobphloehaaDoor.Nn Go.Proofs.YtklhpobphloehaaDoorW.PrintWords Go.Proofs.YtklhpobphloehaaDoorW.PrintLast

theorem nbits_add (x y : Nat) : nbits x ≤ nbits (x + y) ∧ nbits y ≤ nbits (x + y) ∧ (nbits (x + y) ≤ nbits x + 1 ∨ nbits (x + y) ≤ nbits y + 1) := by
  refine ⟨nbits_mono (by omega), nbits_mono (by omega), ?_⟩
  have h : ∀ a b : Nat, nbits a ≤ nbits b → nbits (a + b) ≤ nbits b + 1 := fun a b h => by
    refine nbits_le ?_
    have h1 := lt_nbits b
    have h2 := Nat.lt_of_lt_of_le (lt_nbits a) (Nat.pow_le_pow_right (by decide : 0 < 2) h)
    rw [Nat.pow_succ]
    omega
  rcases Nat.le_total (nbits x) (nbits y) with c | c
  · exact .inr (h x y c)
  · exact .inl (by rw [Nat.add_comm]; exact h y x c)
theorem nbits_mul {x y : Nat} (hx : x ≠ 0) (hy : y ≠ 0) : nbits (x * y) = nbits x + nbits y ∨ nbits (x * y) + 1 = nbits x + nbits y := by
  have h1 := Nat.mul_lt_mul'' (lt_nbits x) (lt_nbits y)
  have h2 := Nat.mul_le_mul (le_nbits hx) (le_nbits hy)
  have h3 := nbits_pos hx
  have h4 := nbits_pos hy
  rw [← Nat.pow_add] at h1 h2
  have h5 := nbits_le h1
  have h6 := nbits_ge h2
  omega
theorem nbits_cmp {x y : Nat} (h : nbits y < nbits x) : y < x := by
  by_cases c : x ≤ y
  · have := nbits_mono c; omega
  · omega
theorem nbits_mul0 {x y : Nat} (h : x = 0 ∨ y = 0) : nbits (x * y) = 0 ∧ (nbits x = 0 ∨ nbits y = 0) := by
  rcases h with rfl | rfl
  · rw [Nat.zero_mul, nbits_zero]; exact ⟨rfl, .inl rfl⟩
  · rw [Nat.mul_zero, nbits_zero]; exact ⟨rfl, .inr rfl⟩
set_option maxHeartbeats 4000000 in
set_option maxRecDepth 100000 in
theorem walk (a0 : Option Addr) (c0 : Nat) (l0 : List Int) (a1 : Option Addr) (c1 : Nat) (l1 : List Int) (w : World) (hr0 : CU w a0 l0.length l0) (hc0 : l0.length ≤ c0) (hL0 : Lim l0) (hr1 : CU w a1 l1.length l1) (hc1 : l1.length ≤ c1) (hL1 : Lim l1) :
    Calls Tryd.prog 7 #[.slice a0 l0.length c0, .slice a1 l1.length c1] w (TruePost w) := by
  have C0 := Aside0.mk hr0
  have S0 := Aside0.mk hc0
  have L0 := Aside0.mk hL0
  clear hr0 hc0 hL0
  have C1 := Aside0.mk hr1
  have S1 := Aside0.mk hc1
  have L1 := Aside0.mk hL1
  clear hr1 hc1 hL1
  go_enter Tryd.func7, Tryd.ntmps7
  have HC : Aside0 (Calls Tryd.prog 23 #[] w (TruePost w)) := ⟨known_w w⟩
  go_wp2_with fail
  refine HC.out.mono ?_
  clear HC
  rintro e w1 ⟨rfl, hB⟩
  have B1 := Aside0.mk hB
  have T1 := Aside0.mk (hB.mono (Nat.le_refl _))
  clear hB
  have HC : Aside0 (Calls Tryd.prog 24 #[.slice a0 l0.length c0, .int .i64 12] w1 (NuPost w1 (mk l0 12))) := ⟨makeN 12 (CU_below C0.out T1.out) S0.out L0.out (by decide)⟩
  go_wp2_with fail
  refine HC.out.mono ?_
  clear HC
  rintro e w2 ⟨v_x, rfl, hN, hB⟩
  have B2 := Aside0.mk hB
  have T2 := Aside0.mk (T1.out.trans (hB.mono T1.out.size))
  have H_x := Aside0.mk hN
  have X_x := Aside0.mk (show mk l0 12 < pw 12 from mk_lt L0.out 12)
  clear hN hB
  have HC : Aside0 (Calls Tryd.prog 24 #[.slice a1 l1.length c1, .int .i64 12] w2 (NuPost w2 (mk l1 12))) := ⟨makeN 12 (CU_below C1.out T2.out) S1.out L1.out (by decide)⟩
  go_wp2_with fail
  refine HC.out.mono ?_
  clear HC
  rintro e w3 ⟨v_y, rfl, hN, hB⟩
  have B3 := Aside0.mk hB
  have T3 := Aside0.mk (T2.out.trans (hB.mono T2.out.size))
  have H_y := Aside0.mk hN
  have X_y := Aside0.mk (show mk l1 12 < pw 12 from mk_lt L1.out 12)
  clear hN hB
  obtain ⟨n, hne⟩ : ∃ q, q = nbits ((mk l0 12)) := ⟨_, rfl⟩
  have hn9 : n ≤ 384 := by rw [hne]; exact nbits_pw X_x.out
  have N_n := Aside0.mk hne
  clear hne
  have HC : Aside0 (Calls Tryd.prog 36 #[v_x] w3 (IntPost w3 (n : Int))) := ⟨by have h := bitsN (H_x.out.below B3.out) (pw_lt1000 X_x.out (by omega)); rw [← N_n.out] at h; exact h⟩
  go_wp2_with fail
  refine HC.out.mono ?_
  clear HC
  rintro e w4 ⟨rfl, hB⟩
  have B4 := Aside0.mk hB
  have T4 := Aside0.mk (T3.out.trans (hB.mono T3.out.size))
  clear hB
  obtain ⟨m, hme⟩ : ∃ q, q = nbits ((mk l1 12)) := ⟨_, rfl⟩
  have hm9 : m ≤ 384 := by rw [hme]; exact nbits_pw X_y.out
  have N_m := Aside0.mk hme
  clear hme
  have HC : Aside0 (Calls Tryd.prog 36 #[v_y] w4 (IntPost w4 (m : Int))) := ⟨by have h := bitsN (H_y.out.below B4.out) (pw_lt1000 X_y.out (by omega)); rw [← N_m.out] at h; exact h⟩
  go_wp2_with fail
  refine HC.out.mono ?_
  clear HC
  rintro e w5 ⟨rfl, hB⟩
  have B5 := Aside0.mk hB
  have T5 := Aside0.mk (T4.out.trans (hB.mono T4.out.size))
  clear hB
  have HC : Aside0 (Calls Tryd.prog 37 #[v_x, v_y] w5 (NuPost w5 ((mk l0 12) + (mk l1 12)))) := ⟨addN (((H_x.out.below B3.out).below B4.out).below B5.out) ((H_y.out.below B4.out).below B5.out) (pw_lt1000 X_x.out (by omega)) (pw_lt1000 X_y.out (by omega))⟩
  go_wp2_with fail
  refine HC.out.mono ?_
  clear HC
  rintro e w6 ⟨v_s, rfl, hN, hB⟩
  have B6 := Aside0.mk hB
  have T6 := Aside0.mk (T5.out.trans (hB.mono T5.out.size))
  have H_s := Aside0.mk hN
  have X_s := Aside0.mk (show (mk l0 12) + (mk l1 12) < pw 13 from pw_addb X_x.out X_y.out (by omega) (by omega))
  clear hN hB
  obtain ⟨s, hse⟩ : ∃ q, q = nbits (((mk l0 12) + (mk l1 12))) := ⟨_, rfl⟩
  have hs9 : s ≤ 416 := by rw [hse]; exact nbits_pw X_s.out
  have N_s := Aside0.mk hse
  clear hse
  have HC : Aside0 (Calls Tryd.prog 36 #[v_s] w6 (IntPost w6 (s : Int))) := ⟨by have h := bitsN H_s.out (pw_lt1000 X_s.out (by omega)); rw [← N_s.out] at h; exact h⟩
  go_wp2_with fail
  refine HC.out.mono ?_
  clear HC
  rintro e w7 ⟨rfl, hB⟩
  have B7 := Aside0.mk hB
  have T7 := Aside0.mk (T6.out.trans (hB.mono T6.out.size))
  clear hB
  have HC : Aside0 (Calls Tryd.prog 39 #[v_x, v_y] w7 (NuPost w7 ((mk l0 12) * (mk l1 12)))) := ⟨mulN (((((H_x.out.below B3.out).below B4.out).below B5.out).below B6.out).below B7.out) ((((H_y.out.below B4.out).below B5.out).below B6.out).below B7.out) (pw_lt1000 X_x.out (by omega)) (pw_lt1000 X_y.out (by omega))⟩
  go_wp2_with fail
  refine HC.out.mono ?_
  clear HC
  rintro e w8 ⟨v_p, rfl, hN, hB⟩
  have B8 := Aside0.mk hB
  have T8 := Aside0.mk (T7.out.trans (hB.mono T7.out.size))
  have H_p := Aside0.mk hN
  have X_p := Aside0.mk (show (mk l0 12) * (mk l1 12) < pw 24 from pw_mulb X_x.out X_y.out)
  clear hN hB
  obtain ⟨p, hpe⟩ : ∃ q, q = nbits (((mk l0 12) * (mk l1 12))) := ⟨_, rfl⟩
  have hp9 : p ≤ 768 := by rw [hpe]; exact nbits_pw X_p.out
  have N_p := Aside0.mk hpe
  clear hpe
  have HC : Aside0 (Calls Tryd.prog 36 #[v_p] w8 (IntPost w8 (p : Int))) := ⟨by have h := bitsN H_p.out (pw_lt1000 X_p.out (by omega)); rw [← N_p.out] at h; exact h⟩
  go_wp2_with fail
  refine HC.out.mono ?_
  clear HC
  rintro e w9 ⟨rfl, hB⟩
  have B9 := Aside0.mk hB
  have T9 := Aside0.mk (T8.out.trans (hB.mono T8.out.size))
  clear hB
  have HS : n ≤ s ∧ m ≤ s ∧ (s ≤ n + 1 ∨ s ≤ m + 1) := by rw [N_n.out, N_m.out, N_s.out]; exact nbits_add _ _
  have HP : (p = 0 ∧ (n = 0 ∨ m = 0)) ∨ (0 < n ∧ 0 < m ∧ p = n + m) ∨ (0 < n ∧ 0 < m ∧ p + 1 = n + m) := by
    rw [N_n.out, N_m.out, N_p.out]
    by_cases c : (mk l0 12) = 0 ∨ (mk l1 12) = 0
    · exact .inl (nbits_mul0 c)
    · have q1 := nbits_pos (fun e => c (.inl e)); have q2 := nbits_pos (fun e => c (.inr e)); have q3 := nbits_mul (fun e => c (.inl e)) (fun e => c (.inr e)); omega
  have HCM := Aside0.mk (show m < n → cmpZ (mk l0 12) (mk l1 12) = 1 from fun h => cmpZ_gt (nbits_cmp (by rw [← N_n.out, ← N_m.out]; exact h)))
  obtain ⟨h1, h2, h3⟩ := HS
  by_cases hnm : m < n
  ·
    rcases (show s = n ∨ s = n + 1 by omega) with hs | hs
    ·
      have cg : decide ((m : Int) < (n : Int)) = true := by rw [decide_eq_true_iff]; omega
      have c0 : ((s : Int) == (n : Int)) = true := by rw [beq_iff_eq]; omega
      have c1 : ((s : Int) == (n : Int) + 1) = false := by rw [beq_eq_false_iff_ne]; omega
      have d0 : ((s : Int) != (n : Int)) = false := by rw [bne_eq_false_iff_eq]; omega
      have d1 : ((s : Int) != (n : Int) + 1) = true := by rw [bne_iff_ne]; omega
      clear c0 c1
      have hM : max (n : Int) (m : Int) = (n : Int) := by omega
      clear h1 h2 h3 hs
      rcases HP with ⟨hp, hn0⟩ | ⟨hn0, hm0, hp⟩ | ⟨hn0, hm0, hp⟩
      ·
        have hq : m = 0 := by omega
        clear hn0
        have b0 : ((n : Int) == 0) = false := by rw [beq_eq_false_iff_ne]; omega
        have HC : Aside0 (Calls Tryd.prog 40 #[v_x, v_y] w9 (IntPost w9 1)) := ⟨by have h := cmpN (((((((H_x.out.below B3.out).below B4.out).below B5.out).below B6.out).below B7.out).below B8.out).below B9.out) ((((((H_y.out.below B4.out).below B5.out).below B6.out).below B7.out).below B8.out).below B9.out) (pw_lt1000 X_x.out (by omega)) (pw_lt1000 X_y.out (by omega)); rw [HCM.out hnm] at h; exact h⟩
        go_wp2_with fail
        refine HC.out.mono ?_
        clear HC
        rintro e w10 ⟨rfl, hB⟩
        have B10 := Aside0.mk hB
        have T10 := Aside0.mk (T9.out.trans (hB.mono T9.out.size))
        clear hB
        go_wp2_with fail
        go_ret
        exact ⟨rfl, T10.out⟩
      ·
        have b0 : ((n : Int) == 0) = false := by rw [beq_eq_false_iff_ne]; omega
        have b1 : ((m : Int) == 0) = false := by rw [beq_eq_false_iff_ne]; omega
        have b2 : ((p : Int) == (n : Int) + (m : Int)) = true := by rw [beq_iff_eq]; omega
        have b3 : ((p : Int) == 0) = false := by rw [beq_eq_false_iff_ne]; omega
        have b4 : ((p : Int) == (n : Int) + (m : Int) - 1) = false := by rw [beq_eq_false_iff_ne]; omega
        clear hp
        have HC : Aside0 (Calls Tryd.prog 40 #[v_x, v_y] w9 (IntPost w9 1)) := ⟨by have h := cmpN (((((((H_x.out.below B3.out).below B4.out).below B5.out).below B6.out).below B7.out).below B8.out).below B9.out) ((((((H_y.out.below B4.out).below B5.out).below B6.out).below B7.out).below B8.out).below B9.out) (pw_lt1000 X_x.out (by omega)) (pw_lt1000 X_y.out (by omega)); rw [HCM.out hnm] at h; exact h⟩
        go_wp2_with fail
        refine HC.out.mono ?_
        clear HC
        rintro e w10 ⟨rfl, hB⟩
        have B10 := Aside0.mk hB
        have T10 := Aside0.mk (T9.out.trans (hB.mono T9.out.size))
        clear hB
        go_wp2_with fail
        go_ret
        exact ⟨rfl, T10.out⟩
      ·
        have b0 : ((n : Int) == 0) = false := by rw [beq_eq_false_iff_ne]; omega
        have b1 : ((m : Int) == 0) = false := by rw [beq_eq_false_iff_ne]; omega
        have b2 : ((p : Int) == (n : Int) + (m : Int)) = false := by rw [beq_eq_false_iff_ne]; omega
        have b3 : ((p : Int) == 0) = false := by rw [beq_eq_false_iff_ne]; omega
        have b4 : ((p : Int) == (n : Int) + (m : Int) - 1) = true := by rw [beq_iff_eq]; omega
        clear hp
        have HC : Aside0 (Calls Tryd.prog 40 #[v_x, v_y] w9 (IntPost w9 1)) := ⟨by have h := cmpN (((((((H_x.out.below B3.out).below B4.out).below B5.out).below B6.out).below B7.out).below B8.out).below B9.out) ((((((H_y.out.below B4.out).below B5.out).below B6.out).below B7.out).below B8.out).below B9.out) (pw_lt1000 X_x.out (by omega)) (pw_lt1000 X_y.out (by omega)); rw [HCM.out hnm] at h; exact h⟩
        go_wp2_with fail
        refine HC.out.mono ?_
        clear HC
        rintro e w10 ⟨rfl, hB⟩
        have B10 := Aside0.mk hB
        have T10 := Aside0.mk (T9.out.trans (hB.mono T9.out.size))
        clear hB
        go_wp2_with fail
        go_ret
        exact ⟨rfl, T10.out⟩
    ·
      have cg : decide ((m : Int) < (n : Int)) = true := by rw [decide_eq_true_iff]; omega
      have c0 : ((s : Int) == (n : Int)) = false := by rw [beq_eq_false_iff_ne]; omega
      have c1 : ((s : Int) == (n : Int) + 1) = true := by rw [beq_iff_eq]; omega
      have d0 : ((s : Int) != (n : Int)) = true := by rw [bne_iff_ne]; omega
      have d1 : ((s : Int) != (n : Int) + 1) = false := by rw [bne_eq_false_iff_eq]; omega
      clear c0 c1
      have hM : max (n : Int) (m : Int) = (n : Int) := by omega
      clear h1 h2 h3 hs
      rcases HP with ⟨hp, hn0⟩ | ⟨hn0, hm0, hp⟩ | ⟨hn0, hm0, hp⟩
      ·
        have hq : m = 0 := by omega
        clear hn0
        have b0 : ((n : Int) == 0) = false := by rw [beq_eq_false_iff_ne]; omega
        have HC : Aside0 (Calls Tryd.prog 40 #[v_x, v_y] w9 (IntPost w9 1)) := ⟨by have h := cmpN (((((((H_x.out.below B3.out).below B4.out).below B5.out).below B6.out).below B7.out).below B8.out).below B9.out) ((((((H_y.out.below B4.out).below B5.out).below B6.out).below B7.out).below B8.out).below B9.out) (pw_lt1000 X_x.out (by omega)) (pw_lt1000 X_y.out (by omega)); rw [HCM.out hnm] at h; exact h⟩
        go_wp2_with fail
        refine HC.out.mono ?_
        clear HC
        rintro e w10 ⟨rfl, hB⟩
        have B10 := Aside0.mk hB
        have T10 := Aside0.mk (T9.out.trans (hB.mono T9.out.size))
        clear hB
        go_wp2_with fail
        go_ret
        exact ⟨rfl, T10.out⟩
      ·
        have b0 : ((n : Int) == 0) = false := by rw [beq_eq_false_iff_ne]; omega
        have b1 : ((m : Int) == 0) = false := by rw [beq_eq_false_iff_ne]; omega
        have b2 : ((p : Int) == (n : Int) + (m : Int)) = true := by rw [beq_iff_eq]; omega
        have b3 : ((p : Int) == 0) = false := by rw [beq_eq_false_iff_ne]; omega
        have b4 : ((p : Int) == (n : Int) + (m : Int) - 1) = false := by rw [beq_eq_false_iff_ne]; omega
        clear hp
        have HC : Aside0 (Calls Tryd.prog 40 #[v_x, v_y] w9 (IntPost w9 1)) := ⟨by have h := cmpN (((((((H_x.out.below B3.out).below B4.out).below B5.out).below B6.out).below B7.out).below B8.out).below B9.out) ((((((H_y.out.below B4.out).below B5.out).below B6.out).below B7.out).below B8.out).below B9.out) (pw_lt1000 X_x.out (by omega)) (pw_lt1000 X_y.out (by omega)); rw [HCM.out hnm] at h; exact h⟩
        go_wp2_with fail
        refine HC.out.mono ?_
        clear HC
        rintro e w10 ⟨rfl, hB⟩
        have B10 := Aside0.mk hB
        have T10 := Aside0.mk (T9.out.trans (hB.mono T9.out.size))
        clear hB
        go_wp2_with fail
        go_ret
        exact ⟨rfl, T10.out⟩
      ·
        have b0 : ((n : Int) == 0) = false := by rw [beq_eq_false_iff_ne]; omega
        have b1 : ((m : Int) == 0) = false := by rw [beq_eq_false_iff_ne]; omega
        have b2 : ((p : Int) == (n : Int) + (m : Int)) = false := by rw [beq_eq_false_iff_ne]; omega
        have b3 : ((p : Int) == 0) = false := by rw [beq_eq_false_iff_ne]; omega
        have b4 : ((p : Int) == (n : Int) + (m : Int) - 1) = true := by rw [beq_iff_eq]; omega
        clear hp
        have HC : Aside0 (Calls Tryd.prog 40 #[v_x, v_y] w9 (IntPost w9 1)) := ⟨by have h := cmpN (((((((H_x.out.below B3.out).below B4.out).below B5.out).below B6.out).below B7.out).below B8.out).below B9.out) ((((((H_y.out.below B4.out).below B5.out).below B6.out).below B7.out).below B8.out).below B9.out) (pw_lt1000 X_x.out (by omega)) (pw_lt1000 X_y.out (by omega)); rw [HCM.out hnm] at h; exact h⟩
        go_wp2_with fail
        refine HC.out.mono ?_
        clear HC
        rintro e w10 ⟨rfl, hB⟩
        have B10 := Aside0.mk hB
        have T10 := Aside0.mk (T9.out.trans (hB.mono T9.out.size))
        clear hB
        go_wp2_with fail
        go_ret
        exact ⟨rfl, T10.out⟩
  ·
    rcases (show s = m ∨ s = m + 1 by omega) with hs | hs
    ·
      have cg : decide ((m : Int) < (n : Int)) = false := by rw [decide_eq_false_iff_not]; omega
      have c0 : ((s : Int) == (m : Int)) = true := by rw [beq_iff_eq]; omega
      have c1 : ((s : Int) == (m : Int) + 1) = false := by rw [beq_eq_false_iff_ne]; omega
      have d0 : ((s : Int) != (m : Int)) = false := by rw [bne_eq_false_iff_eq]; omega
      have d1 : ((s : Int) != (m : Int) + 1) = true := by rw [bne_iff_ne]; omega
      clear c0 c1
      have hM : max (n : Int) (m : Int) = (m : Int) := by omega
      clear h1 h2 h3 hs
      rcases HP with ⟨hp, hn0⟩ | ⟨hn0, hm0, hp⟩ | ⟨hn0, hm0, hp⟩
      ·
        have hq : n = 0 := by omega
        clear hn0
        go_wp2_with fail
        go_ret
        exact ⟨rfl, T9.out⟩
      ·
        have b0 : ((n : Int) == 0) = false := by rw [beq_eq_false_iff_ne]; omega
        have b1 : ((m : Int) == 0) = false := by rw [beq_eq_false_iff_ne]; omega
        have b2 : ((p : Int) == (n : Int) + (m : Int)) = true := by rw [beq_iff_eq]; omega
        have b3 : ((p : Int) == 0) = false := by rw [beq_eq_false_iff_ne]; omega
        have b4 : ((p : Int) == (n : Int) + (m : Int) - 1) = false := by rw [beq_eq_false_iff_ne]; omega
        clear hp
        go_wp2_with fail
        go_ret
        exact ⟨rfl, T9.out⟩
      ·
        have b0 : ((n : Int) == 0) = false := by rw [beq_eq_false_iff_ne]; omega
        have b1 : ((m : Int) == 0) = false := by rw [beq_eq_false_iff_ne]; omega
        have b2 : ((p : Int) == (n : Int) + (m : Int)) = false := by rw [beq_eq_false_iff_ne]; omega
        have b3 : ((p : Int) == 0) = false := by rw [beq_eq_false_iff_ne]; omega
        have b4 : ((p : Int) == (n : Int) + (m : Int) - 1) = true := by rw [beq_iff_eq]; omega
        clear hp
        go_wp2_with fail
        go_ret
        exact ⟨rfl, T9.out⟩
    ·
      have cg : decide ((m : Int) < (n : Int)) = false := by rw [decide_eq_false_iff_not]; omega
      have c0 : ((s : Int) == (m : Int)) = false := by rw [beq_eq_false_iff_ne]; omega
      have c1 : ((s : Int) == (m : Int) + 1) = true := by rw [beq_iff_eq]; omega
      have d0 : ((s : Int) != (m : Int)) = true := by rw [bne_iff_ne]; omega
      have d1 : ((s : Int) != (m : Int) + 1) = false := by rw [bne_eq_false_iff_eq]; omega
      clear c0 c1
      have hM : max (n : Int) (m : Int) = (m : Int) := by omega
      clear h1 h2 h3 hs
      rcases HP with ⟨hp, hn0⟩ | ⟨hn0, hm0, hp⟩ | ⟨hn0, hm0, hp⟩
      ·
        have hq : n = 0 := by omega
        clear hn0
        go_wp2_with fail
        go_ret
        exact ⟨rfl, T9.out⟩
      ·
        have b0 : ((n : Int) == 0) = false := by rw [beq_eq_false_iff_ne]; omega
        have b1 : ((m : Int) == 0) = false := by rw [beq_eq_false_iff_ne]; omega
        have b2 : ((p : Int) == (n : Int) + (m : Int)) = true := by rw [beq_iff_eq]; omega
        have b3 : ((p : Int) == 0) = false := by rw [beq_eq_false_iff_ne]; omega
        have b4 : ((p : Int) == (n : Int) + (m : Int) - 1) = false := by rw [beq_eq_false_iff_ne]; omega
        clear hp
        go_wp2_with fail
        go_ret
        exact ⟨rfl, T9.out⟩
      ·
        have b0 : ((n : Int) == 0) = false := by rw [beq_eq_false_iff_ne]; omega
        have b1 : ((m : Int) == 0) = false := by rw [beq_eq_false_iff_ne]; omega
        have b2 : ((p : Int) == (n : Int) + (m : Int)) = false := by rw [beq_eq_false_iff_ne]; omega
        have b3 : ((p : Int) == 0) = false := by rw [beq_eq_false_iff_ne]; omega
        have b4 : ((p : Int) == (n : Int) + (m : Int) - 1) = true := by rw [beq_iff_eq]; omega
        clear hp
        go_wp2_with fail
        go_ret
        exact ⟨rfl, T9.out⟩
end Go.Proofs.YtklhpobphloehaaDoor.natSizes
