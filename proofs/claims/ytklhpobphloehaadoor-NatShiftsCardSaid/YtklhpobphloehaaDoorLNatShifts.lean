/- The law NatShifts: the walk through its calls, by their contracts; the row and its card. -/
import Derived.Test.YtklhpobphloehaaDoorB
import Derived.Test.YtklhpobphloehaaDoorG13
set_option linter.unusedVariables false
namespace Go.Proofs.YtklhpobphloehaaDoor.natShifts
open Go.RowKit
open Go.Proofs.YtklhpobphloehaaDoor.G Go.Proofs.YtklhpobphloehaaDoor.Nn Go.Proofs.YtklhpobphloehaaDoorW.PrintWords Go.Proofs.YtklhpobphloehaaDoorW.PrintLast

set_option maxHeartbeats 4000000 in
set_option maxRecDepth 100000 in
theorem walk (a0 : Option Addr) (c0 : Nat) (l0 : List Int) (a1 : Int) (a2 : Int) (w : World) (hr0 : CU w a0 l0.length l0) (hc0 : l0.length ≤ c0) (hL0 : Lim l0) (hi1 : -9223372036854775808 ≤ a1 ∧ a1 ≤ 9223372036854775807) (hi2 : -9223372036854775808 ≤ a2 ∧ a2 ≤ 9223372036854775807) :
    Calls Tryd.prog 5 #[.slice a0 l0.length c0, .int .i64 a1, .int .i64 a2] w (TruePost w) := by
  have C0 := Aside0.mk hr0
  have S0 := Aside0.mk hc0
  have L0 := Aside0.mk hL0
  clear hr0 hc0 hL0
  go_enter Tryd.func5, Tryd.ntmps5
  have HC : Calls Tryd.prog 23 #[] w (TruePost w) := known_w w
  have HC := Aside0.mk HC
  go_wp2_with fail
  refine HC.out.mono ?_
  clear HC
  rintro e w1 ⟨rfl, hB⟩
  have B1 := Aside0.mk hB
  have T1 := Aside0.mk (hB.mono (Nat.le_refl _))
  clear hB
  have HC : Calls Tryd.prog 24 #[.slice a0 l0.length c0, .int .i64 20] w1 (NuPost w1 (mk l0 20)) := makeN 20 (CU_below C0.out T1.out) S0.out L0.out (by decide)
  have HC := Aside0.mk HC
  go_wp2_with fail
  refine HC.out.mono ?_
  clear HC
  rintro e w2 ⟨v_x, rfl, hN, hB⟩
  have B2 := Aside0.mk hB
  have T2 := Aside0.mk (T1.out.trans (hB.mono T1.out.size))
  have H_x := Aside0.mk hN
  have X_x := Aside0.mk (show mk l0 20 < pw 20 from mk_lt L0.out 20)
  clear hN hB
  obtain ⟨k, ke, hk⟩ : ∃ q : Nat, (q : Int) = a1 % 700 ∧ q < 700 := ⟨(a1 % 700).toNat, by omega, by omega⟩
  have HC : Calls Tryd.prog 29 #[.int .i64 a1, .int .i64 700] w2 (fun e w' => e = .returned (.int .i64 (k : Int)) ∧ w2 = w') := by have h := within_w a1 700 w2 (by decide) (by decide); rw [← ke] at h; exact h
  have HC := Aside0.mk HC
  go_wp2_with fail
  refine HC.out.mono ?_
  clear HC
  rintro e wx ⟨rfl, hw⟩
  subst hw
  clear ke
  have HC : Calls Tryd.prog 31 #[v_x, .int .i64 (k : Int)] w2 (NuPost w2 ((mk l0 20) * 2 ^ k)) := shlN H_x.out (pw_lt1000 X_x.out (by omega)) k (by omega)
  have HC := Aside0.mk HC
  go_wp2_with fail
  refine HC.out.mono ?_
  clear HC
  rintro e w3 ⟨v_l, rfl, hN, hB⟩
  have B3 := Aside0.mk hB
  have T3 := Aside0.mk (T2.out.trans (hB.mono T2.out.size))
  have H_l := Aside0.mk hN
  have X_l := Aside0.mk (show (mk l0 20) * 2 ^ k < pw 42 from pw_shlb (b := 22) X_x.out (by omega))
  clear hN hB
  have HC : Calls Tryd.prog 32 #[v_x, .int .i64 (k : Int)] w3 (NuPost w3 ((mk l0 20) / 2 ^ k)) := shrN (H_x.out.below B3.out) (pw_lt1000 X_x.out (by omega)) k (by omega)
  have HC := Aside0.mk HC
  go_wp2_with fail
  refine HC.out.mono ?_
  clear HC
  rintro e w4 ⟨v_r, rfl, hN, hB⟩
  have B4 := Aside0.mk hB
  have T4 := Aside0.mk (T3.out.trans (hB.mono T3.out.size))
  have H_r := Aside0.mk hN
  have X_r := Aside0.mk (show (mk l0 20) / 2 ^ k < pw 20 from Nat.lt_of_le_of_lt (Nat.div_le_self _ _) X_x.out)
  clear hN hB
  have HC : Calls Tryd.prog 33 #[v_x, .int .i64 (k : Int)] w4 (NuPost w4 ((mk l0 20) * 2 ^ k)) := rshlN ((H_x.out.below B3.out).below B4.out) (pw_lt1000 X_x.out (by omega)) k (by omega)
  have HC := Aside0.mk HC
  go_wp2_with fail
  refine HC.out.mono ?_
  clear HC
  rintro e w5 ⟨v_l2, rfl, hN, hB⟩
  have B5 := Aside0.mk hB
  have T5 := Aside0.mk (T4.out.trans (hB.mono T4.out.size))
  have H_l2 := Aside0.mk hN
  have X_l2 := Aside0.mk (show (mk l0 20) * 2 ^ k < pw 42 from pw_shlb (b := 22) X_x.out (by omega))
  clear hN hB
  have HC : Calls Tryd.prog 28 #[v_l, v_l2] w5 (TruePost w5) := sameN ((H_l.out.below B4.out).below B5.out) H_l2.out (pw_lt1000 X_l.out (by omega)) (rfl)
  have HC := Aside0.mk HC
  go_wp2_with fail
  refine HC.out.mono ?_
  clear HC
  rintro e w6 ⟨rfl, hB⟩
  have B6 := Aside0.mk hB
  have T6 := Aside0.mk (T5.out.trans (hB.mono T5.out.size))
  clear hB
  have HC : Calls Tryd.prog 34 #[v_x, .int .i64 (k : Int)] w6 (NuPost w6 ((mk l0 20) / 2 ^ k)) := rshrN ((((H_x.out.below B3.out).below B4.out).below B5.out).below B6.out) (pw_lt1000 X_x.out (by omega)) k (by omega)
  have HC := Aside0.mk HC
  go_wp2_with fail
  refine HC.out.mono ?_
  clear HC
  rintro e w7 ⟨v_r2, rfl, hN, hB⟩
  have B7 := Aside0.mk hB
  have T7 := Aside0.mk (T6.out.trans (hB.mono T6.out.size))
  have H_r2 := Aside0.mk hN
  have X_r2 := Aside0.mk (show (mk l0 20) / 2 ^ k < pw 20 from Nat.lt_of_le_of_lt (Nat.div_le_self _ _) X_x.out)
  clear hN hB
  have HC : Calls Tryd.prog 28 #[v_r, v_r2] w7 (TruePost w7) := sameN (((H_r.out.below B5.out).below B6.out).below B7.out) H_r2.out (pw_lt1000 X_r.out (by omega)) (rfl)
  have HC := Aside0.mk HC
  go_wp2_with fail
  refine HC.out.mono ?_
  clear HC
  rintro e w8 ⟨rfl, hB⟩
  have B8 := Aside0.mk hB
  have T8 := Aside0.mk (T7.out.trans (hB.mono T7.out.size))
  clear hB
  have HC : Calls Tryd.prog 32 #[v_l, .int .i64 (k : Int)] w8 (NuPost w8 (((mk l0 20) * 2 ^ k) / 2 ^ k)) := shrN (((((H_l.out.below B4.out).below B5.out).below B6.out).below B7.out).below B8.out) (pw_lt1000 X_l.out (by omega)) k (by omega)
  have HC := Aside0.mk HC
  go_wp2_with fail
  refine HC.out.mono ?_
  clear HC
  rintro e w9 ⟨v_b, rfl, hN, hB⟩
  have B9 := Aside0.mk hB
  have T9 := Aside0.mk (T8.out.trans (hB.mono T8.out.size))
  have H_b := Aside0.mk hN
  have X_b := Aside0.mk (show ((mk l0 20) * 2 ^ k) / 2 ^ k < pw 42 from Nat.lt_of_le_of_lt (Nat.div_le_self _ _) X_l.out)
  clear hN hB
  have HC : Calls Tryd.prog 28 #[v_b, v_x] w9 (TruePost w9) := sameN H_b.out (((((((H_x.out.below B3.out).below B4.out).below B5.out).below B6.out).below B7.out).below B8.out).below B9.out) (pw_lt1000 X_b.out (by omega)) (Nat.mul_div_cancel _ (Nat.pow_pos (by decide)))
  have HC := Aside0.mk HC
  go_wp2_with fail
  refine HC.out.mono ?_
  clear HC
  rintro e w10 ⟨rfl, hB⟩
  have B10 := Aside0.mk hB
  have T10 := Aside0.mk (T9.out.trans (hB.mono T9.out.size))
  clear hB
  by_cases hz : (mk l0 20) = 0
  ·
    have Z := Aside0.mk hz
    clear hz
    have HC : Calls Tryd.prog 35 #[v_x] w10 (IntPost w10 0) := by have h := rbitsN ((((((((H_x.out.below B3.out).below B4.out).below B5.out).below B6.out).below B7.out).below B8.out).below B9.out).below B10.out) (pw_lt1000 X_x.out (by omega)); rw [Z.out, nbits_zero] at h; exact h
    have HC := Aside0.mk HC
    go_wp2_with fail
    refine HC.out.mono ?_
    clear HC
    rintro e w11 ⟨rfl, hB⟩
    have B11 := Aside0.mk hB
    have T11 := Aside0.mk (T10.out.trans (hB.mono T10.out.size))
    clear hB
    by_cases hq : a2 < 0
    ·
      have HO := Aside0.mk (show a2 < 0 ∨ 1048576 < a2 from .inl hq)
      have HC : Calls Tryd.prog 31 #[v_x, .int .i64 a2] w11 (NuPost w11 ((mk l0 20))) := shlOut (((((((((H_x.out.below B3.out).below B4.out).below B5.out).below B6.out).below B7.out).below B8.out).below B9.out).below B10.out).below B11.out) (pw_lt1000 X_x.out (by omega)) a2 HO.out
      have HC := Aside0.mk HC
      go_wp2_with fail
      refine HC.out.mono ?_
      clear HC
      rintro e w12 ⟨v_e1, rfl, hN, hB⟩
      have B12 := Aside0.mk hB
      have T12 := Aside0.mk (T11.out.trans (hB.mono T11.out.size))
      have H_e1 := Aside0.mk hN
      have X_e1 := Aside0.mk (show (mk l0 20) < pw 20 from X_x.out)
      clear hN hB
      have HC : Calls Tryd.prog 28 #[v_e1, v_x] w12 (TruePost w12) := sameN H_e1.out ((((((((((H_x.out.below B3.out).below B4.out).below B5.out).below B6.out).below B7.out).below B8.out).below B9.out).below B10.out).below B11.out).below B12.out) (pw_lt1000 X_e1.out (by omega)) (rfl)
      have HC := Aside0.mk HC
      go_wp2_with fail
      refine HC.out.mono ?_
      clear HC
      rintro e w13 ⟨rfl, hB⟩
      have B13 := Aside0.mk hB
      have T13 := Aside0.mk (T12.out.trans (hB.mono T12.out.size))
      clear hB
      have HC : Calls Tryd.prog 32 #[v_x, .int .i64 a2] w13 (NuPost w13 ((mk l0 20))) := shrOut (((((((((((H_x.out.below B3.out).below B4.out).below B5.out).below B6.out).below B7.out).below B8.out).below B9.out).below B10.out).below B11.out).below B12.out).below B13.out) (pw_lt1000 X_x.out (by omega)) a2 HO.out
      have HC := Aside0.mk HC
      go_wp2_with fail
      refine HC.out.mono ?_
      clear HC
      rintro e w14 ⟨v_e2, rfl, hN, hB⟩
      have B14 := Aside0.mk hB
      have T14 := Aside0.mk (T13.out.trans (hB.mono T13.out.size))
      have H_e2 := Aside0.mk hN
      have X_e2 := Aside0.mk (show (mk l0 20) < pw 20 from X_x.out)
      clear hN hB
      have HC : Calls Tryd.prog 28 #[v_e2, v_x] w14 (TruePost w14) := sameN H_e2.out ((((((((((((H_x.out.below B3.out).below B4.out).below B5.out).below B6.out).below B7.out).below B8.out).below B9.out).below B10.out).below B11.out).below B12.out).below B13.out).below B14.out) (pw_lt1000 X_e2.out (by omega)) (rfl)
      have HC := Aside0.mk HC
      go_wp2_with fail
      refine HC.out.mono ?_
      clear HC
      rintro e w15 ⟨rfl, hB⟩
      have B15 := Aside0.mk hB
      have T15 := Aside0.mk (T14.out.trans (hB.mono T14.out.size))
      clear hB
      go_wp2_with fail
      go_ret
      exact ⟨rfl, T15.out⟩
    ·
      by_cases hp : 1048576 < a2
      ·
        have HO := Aside0.mk (show a2 < 0 ∨ 1048576 < a2 from .inr hp)
        have HC : Calls Tryd.prog 31 #[v_x, .int .i64 a2] w11 (NuPost w11 ((mk l0 20))) := shlOut (((((((((H_x.out.below B3.out).below B4.out).below B5.out).below B6.out).below B7.out).below B8.out).below B9.out).below B10.out).below B11.out) (pw_lt1000 X_x.out (by omega)) a2 HO.out
        have HC := Aside0.mk HC
        go_wp2_with fail
        refine HC.out.mono ?_
        clear HC
        rintro e w12 ⟨v_e1, rfl, hN, hB⟩
        have B12 := Aside0.mk hB
        have T12 := Aside0.mk (T11.out.trans (hB.mono T11.out.size))
        have H_e1 := Aside0.mk hN
        have X_e1 := Aside0.mk (show (mk l0 20) < pw 20 from X_x.out)
        clear hN hB
        have HC : Calls Tryd.prog 28 #[v_e1, v_x] w12 (TruePost w12) := sameN H_e1.out ((((((((((H_x.out.below B3.out).below B4.out).below B5.out).below B6.out).below B7.out).below B8.out).below B9.out).below B10.out).below B11.out).below B12.out) (pw_lt1000 X_e1.out (by omega)) (rfl)
        have HC := Aside0.mk HC
        go_wp2_with fail
        refine HC.out.mono ?_
        clear HC
        rintro e w13 ⟨rfl, hB⟩
        have B13 := Aside0.mk hB
        have T13 := Aside0.mk (T12.out.trans (hB.mono T12.out.size))
        clear hB
        have HC : Calls Tryd.prog 32 #[v_x, .int .i64 a2] w13 (NuPost w13 ((mk l0 20))) := shrOut (((((((((((H_x.out.below B3.out).below B4.out).below B5.out).below B6.out).below B7.out).below B8.out).below B9.out).below B10.out).below B11.out).below B12.out).below B13.out) (pw_lt1000 X_x.out (by omega)) a2 HO.out
        have HC := Aside0.mk HC
        go_wp2_with fail
        refine HC.out.mono ?_
        clear HC
        rintro e w14 ⟨v_e2, rfl, hN, hB⟩
        have B14 := Aside0.mk hB
        have T14 := Aside0.mk (T13.out.trans (hB.mono T13.out.size))
        have H_e2 := Aside0.mk hN
        have X_e2 := Aside0.mk (show (mk l0 20) < pw 20 from X_x.out)
        clear hN hB
        have HC : Calls Tryd.prog 28 #[v_e2, v_x] w14 (TruePost w14) := sameN H_e2.out ((((((((((((H_x.out.below B3.out).below B4.out).below B5.out).below B6.out).below B7.out).below B8.out).below B9.out).below B10.out).below B11.out).below B12.out).below B13.out).below B14.out) (pw_lt1000 X_e2.out (by omega)) (rfl)
        have HC := Aside0.mk HC
        go_wp2_with fail
        refine HC.out.mono ?_
        clear HC
        rintro e w15 ⟨rfl, hB⟩
        have B15 := Aside0.mk hB
        have T15 := Aside0.mk (T14.out.trans (hB.mono T14.out.size))
        clear hB
        go_wp2_with fail
        go_ret
        exact ⟨rfl, T15.out⟩
      ·
        go_wp2_with fail
        go_ret
        exact ⟨rfl, T11.out⟩
  ·
    obtain ⟨n, hne⟩ : ∃ q, q = nbits ((mk l0 20)) := ⟨_, rfl⟩
    have hn9 : n ≤ 640 := by rw [hne]; exact nbits_pw X_x.out
    have N_n := Aside0.mk hne
    clear hne
    have hn1 : 0 < n := by rw [N_n.out, nbits_pos hz]; omega
    have Z := Aside0.mk hz
    clear hz
    have HC : Calls Tryd.prog 35 #[v_x] w10 (IntPost w10 (n : Int)) := by have h := rbitsN ((((((((H_x.out.below B3.out).below B4.out).below B5.out).below B6.out).below B7.out).below B8.out).below B9.out).below B10.out) (pw_lt1000 X_x.out (by omega)); rw [← N_n.out] at h; exact h
    have HC := Aside0.mk HC
    go_wp2_with fail
    refine HC.out.mono ?_
    clear HC
    rintro e w11 ⟨rfl, hB⟩
    have B11 := Aside0.mk hB
    have T11 := Aside0.mk (T10.out.trans (hB.mono T10.out.size))
    clear hB
    have HC : Calls Tryd.prog 36 #[v_l] w11 (IntPost w11 ((n : Int) + (k : Int))) := by have h := bitsN ((((((((H_l.out.below B4.out).below B5.out).below B6.out).below B7.out).below B8.out).below B9.out).below B10.out).below B11.out) (pw_lt1000 X_l.out (by omega)); rw [nbits_shift Z.out, ← N_n.out, Int.natCast_add] at h; exact h
    have HC := Aside0.mk HC
    go_wp2_with fail
    refine HC.out.mono ?_
    clear HC
    rintro e w12 ⟨rfl, hB⟩
    have B12 := Aside0.mk hB
    have T12 := Aside0.mk (T11.out.trans (hB.mono T11.out.size))
    clear hB
    have HC : Calls Tryd.prog 35 #[v_x] w12 (IntPost w12 (n : Int)) := by have h := rbitsN ((((((((((H_x.out.below B3.out).below B4.out).below B5.out).below B6.out).below B7.out).below B8.out).below B9.out).below B10.out).below B11.out).below B12.out) (pw_lt1000 X_x.out (by omega)); rw [← N_n.out] at h; exact h
    have HC := Aside0.mk HC
    go_wp2_with fail
    refine HC.out.mono ?_
    clear HC
    rintro e w13 ⟨rfl, hB⟩
    have B13 := Aside0.mk hB
    have T13 := Aside0.mk (T12.out.trans (hB.mono T12.out.size))
    clear hB
    by_cases hq : a2 < 0
    ·
      have HO := Aside0.mk (show a2 < 0 ∨ 1048576 < a2 from .inl hq)
      have HC : Calls Tryd.prog 31 #[v_x, .int .i64 a2] w13 (NuPost w13 ((mk l0 20))) := shlOut (((((((((((H_x.out.below B3.out).below B4.out).below B5.out).below B6.out).below B7.out).below B8.out).below B9.out).below B10.out).below B11.out).below B12.out).below B13.out) (pw_lt1000 X_x.out (by omega)) a2 HO.out
      have HC := Aside0.mk HC
      go_wp2_with fail
      refine HC.out.mono ?_
      clear HC
      rintro e w14 ⟨v_e1, rfl, hN, hB⟩
      have B14 := Aside0.mk hB
      have T14 := Aside0.mk (T13.out.trans (hB.mono T13.out.size))
      have H_e1 := Aside0.mk hN
      have X_e1 := Aside0.mk (show (mk l0 20) < pw 20 from X_x.out)
      clear hN hB
      have HC : Calls Tryd.prog 28 #[v_e1, v_x] w14 (TruePost w14) := sameN H_e1.out ((((((((((((H_x.out.below B3.out).below B4.out).below B5.out).below B6.out).below B7.out).below B8.out).below B9.out).below B10.out).below B11.out).below B12.out).below B13.out).below B14.out) (pw_lt1000 X_e1.out (by omega)) (rfl)
      have HC := Aside0.mk HC
      go_wp2_with fail
      refine HC.out.mono ?_
      clear HC
      rintro e w15 ⟨rfl, hB⟩
      have B15 := Aside0.mk hB
      have T15 := Aside0.mk (T14.out.trans (hB.mono T14.out.size))
      clear hB
      have HC : Calls Tryd.prog 32 #[v_x, .int .i64 a2] w15 (NuPost w15 ((mk l0 20))) := shrOut (((((((((((((H_x.out.below B3.out).below B4.out).below B5.out).below B6.out).below B7.out).below B8.out).below B9.out).below B10.out).below B11.out).below B12.out).below B13.out).below B14.out).below B15.out) (pw_lt1000 X_x.out (by omega)) a2 HO.out
      have HC := Aside0.mk HC
      go_wp2_with fail
      refine HC.out.mono ?_
      clear HC
      rintro e w16 ⟨v_e2, rfl, hN, hB⟩
      have B16 := Aside0.mk hB
      have T16 := Aside0.mk (T15.out.trans (hB.mono T15.out.size))
      have H_e2 := Aside0.mk hN
      have X_e2 := Aside0.mk (show (mk l0 20) < pw 20 from X_x.out)
      clear hN hB
      have HC : Calls Tryd.prog 28 #[v_e2, v_x] w16 (TruePost w16) := sameN H_e2.out ((((((((((((((H_x.out.below B3.out).below B4.out).below B5.out).below B6.out).below B7.out).below B8.out).below B9.out).below B10.out).below B11.out).below B12.out).below B13.out).below B14.out).below B15.out).below B16.out) (pw_lt1000 X_e2.out (by omega)) (rfl)
      have HC := Aside0.mk HC
      go_wp2_with fail
      refine HC.out.mono ?_
      clear HC
      rintro e w17 ⟨rfl, hB⟩
      have B17 := Aside0.mk hB
      have T17 := Aside0.mk (T16.out.trans (hB.mono T16.out.size))
      clear hB
      go_wp2_with fail
      go_ret
      exact ⟨rfl, T17.out⟩
    ·
      by_cases hp : 1048576 < a2
      ·
        have HO := Aside0.mk (show a2 < 0 ∨ 1048576 < a2 from .inr hp)
        have HC : Calls Tryd.prog 31 #[v_x, .int .i64 a2] w13 (NuPost w13 ((mk l0 20))) := shlOut (((((((((((H_x.out.below B3.out).below B4.out).below B5.out).below B6.out).below B7.out).below B8.out).below B9.out).below B10.out).below B11.out).below B12.out).below B13.out) (pw_lt1000 X_x.out (by omega)) a2 HO.out
        have HC := Aside0.mk HC
        go_wp2_with fail
        refine HC.out.mono ?_
        clear HC
        rintro e w14 ⟨v_e1, rfl, hN, hB⟩
        have B14 := Aside0.mk hB
        have T14 := Aside0.mk (T13.out.trans (hB.mono T13.out.size))
        have H_e1 := Aside0.mk hN
        have X_e1 := Aside0.mk (show (mk l0 20) < pw 20 from X_x.out)
        clear hN hB
        have HC : Calls Tryd.prog 28 #[v_e1, v_x] w14 (TruePost w14) := sameN H_e1.out ((((((((((((H_x.out.below B3.out).below B4.out).below B5.out).below B6.out).below B7.out).below B8.out).below B9.out).below B10.out).below B11.out).below B12.out).below B13.out).below B14.out) (pw_lt1000 X_e1.out (by omega)) (rfl)
        have HC := Aside0.mk HC
        go_wp2_with fail
        refine HC.out.mono ?_
        clear HC
        rintro e w15 ⟨rfl, hB⟩
        have B15 := Aside0.mk hB
        have T15 := Aside0.mk (T14.out.trans (hB.mono T14.out.size))
        clear hB
        have HC : Calls Tryd.prog 32 #[v_x, .int .i64 a2] w15 (NuPost w15 ((mk l0 20))) := shrOut (((((((((((((H_x.out.below B3.out).below B4.out).below B5.out).below B6.out).below B7.out).below B8.out).below B9.out).below B10.out).below B11.out).below B12.out).below B13.out).below B14.out).below B15.out) (pw_lt1000 X_x.out (by omega)) a2 HO.out
        have HC := Aside0.mk HC
        go_wp2_with fail
        refine HC.out.mono ?_
        clear HC
        rintro e w16 ⟨v_e2, rfl, hN, hB⟩
        have B16 := Aside0.mk hB
        have T16 := Aside0.mk (T15.out.trans (hB.mono T15.out.size))
        have H_e2 := Aside0.mk hN
        have X_e2 := Aside0.mk (show (mk l0 20) < pw 20 from X_x.out)
        clear hN hB
        have HC : Calls Tryd.prog 28 #[v_e2, v_x] w16 (TruePost w16) := sameN H_e2.out ((((((((((((((H_x.out.below B3.out).below B4.out).below B5.out).below B6.out).below B7.out).below B8.out).below B9.out).below B10.out).below B11.out).below B12.out).below B13.out).below B14.out).below B15.out).below B16.out) (pw_lt1000 X_e2.out (by omega)) (rfl)
        have HC := Aside0.mk HC
        go_wp2_with fail
        refine HC.out.mono ?_
        clear HC
        rintro e w17 ⟨rfl, hB⟩
        have B17 := Aside0.mk hB
        have T17 := Aside0.mk (T16.out.trans (hB.mono T16.out.size))
        clear hB
        go_wp2_with fail
        go_ret
        exact ⟨rfl, T17.out⟩
      ·
        go_wp2_with fail
        go_ret
        exact ⟨rfl, T13.out⟩
end Go.Proofs.YtklhpobphloehaaDoor.natShifts
