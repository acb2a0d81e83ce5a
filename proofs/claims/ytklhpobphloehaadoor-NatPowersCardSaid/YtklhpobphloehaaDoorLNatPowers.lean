/- The law NatPowers: the walk through its calls, by their contracts; the row and its card. -/
import Derived.Test.YtklhpobphloehaaDoorB
import Derived.Test.YtklhpobphloehaaDoorG19
set_option linter.unusedVariables false
namespace Go.Proofs.YtklhpobphloehaaDoor.natPowers
open Go.RowKit
open Go.Proofs.YtklhpobphloehaaDoor.G Go.Proofs.YtklhpobphloehaaDoor.Nn Go.Proofs.YtklhpobphloehaaDoorW.PrintWords Go.Proofs.YtklhpobphloehaaDoorW.PrintLast

set_option maxHeartbeats 4000000 in
set_option maxRecDepth 100000 in
theorem walk (a0 : Option Addr) (c0 : Nat) (l0 : List Int) (a1 : Int) (a2 : Int) (w : World) (hr0 : CU w a0 l0.length l0) (hc0 : l0.length ≤ c0) (hL0 : Lim l0) (hi1 : -9223372036854775808 ≤ a1 ∧ a1 ≤ 9223372036854775807) (hi2 : -9223372036854775808 ≤ a2 ∧ a2 ≤ 9223372036854775807) :
    Calls Tryd.prog 13 #[.slice a0 l0.length c0, .int .i64 a1, .int .i64 a2] w (TruePost w) := by
  have C0 := Aside0.mk hr0
  have S0 := Aside0.mk hc0
  have L0 := Aside0.mk hL0
  clear hr0 hc0 hL0
  go_enter Tryd.func13, Tryd.ntmps13
  have HC : Aside0 (Calls Tryd.prog 23 #[] w (TruePost w)) := ⟨known_w w⟩
  go_wp2_with fail
  refine HC.out.mono ?_
  clear HC
  rintro e w1 ⟨rfl, hB⟩
  have B1 := Aside0.mk hB
  have T1 := Aside0.mk (hB.mono (Nat.le_refl _))
  clear hB
  have HC : Aside0 (Calls Tryd.prog 24 #[.slice a0 l0.length c0, .int .i64 10] w1 (NuPost w1 (mk l0 10))) := ⟨makeN 10 (CU_below C0.out T1.out) S0.out L0.out (by decide)⟩
  go_wp2_with fail
  refine HC.out.mono ?_
  clear HC
  rintro e w2 ⟨v_x, rfl, hN, hB⟩
  have B2 := Aside0.mk hB
  have T2 := Aside0.mk (T1.out.trans (hB.mono T1.out.size))
  have H_x := Aside0.mk hN
  have X_x := Aside0.mk (show mk l0 10 < pw 10 from mk_lt L0.out 10)
  clear hN hB
  obtain ⟨k, ke, hk⟩ : ∃ q : Nat, (q : Int) = a1 % 200 ∧ q < 200 := ⟨(a1 % 200).toNat, by omega, by omega⟩
  have HC : Aside0 (Calls Tryd.prog 29 #[.int .i64 a1, .int .i64 200] w2 (fun e w' => e = .returned (.int .i64 (k : Int)) ∧ w2 = w')) := ⟨by have h := within_w a1 200 w2 (by decide) (by decide); rw [← ke] at h; exact h⟩
  go_wp2_with fail
  refine HC.out.mono ?_
  clear HC
  rintro e wx ⟨rfl, hw⟩
  subst hw
  clear ke
  obtain ⟨m, me, hm⟩ : ∃ q : Nat, (q : Int) = a2 % 200 ∧ q < 200 := ⟨(a2 % 200).toNat, by omega, by omega⟩
  have HC : Aside0 (Calls Tryd.prog 29 #[.int .i64 a2, .int .i64 200] w2 (fun e w' => e = .returned (.int .i64 (m : Int)) ∧ w2 = w')) := ⟨by have h := within_w a2 200 w2 (by decide) (by decide); rw [← me] at h; exact h⟩
  go_wp2_with fail
  refine HC.out.mono ?_
  clear HC
  rintro e wx ⟨rfl, hw⟩
  subst hw
  clear me
  have HC : Aside0 (Calls Tryd.prog 45 #[.int .u64 1] w2 (NuPost w2 (1))) := ⟨ofN 1 (by decide)⟩
  go_wp2_with fail
  refine HC.out.mono ?_
  clear HC
  rintro e w3 ⟨v_o, rfl, hN, hB⟩
  have B3 := Aside0.mk hB
  have T3 := Aside0.mk (T2.out.trans (hB.mono T2.out.size))
  have H_o := Aside0.mk hN
  have X_o := Aside0.mk (show 1 < pw 2 from one_lt)
  clear hN hB
  have HC : Aside0 (Calls Tryd.prog 31 #[v_o, .int .i64 (k : Int)] w3 (NuPost w3 ((1) * 2 ^ k))) := ⟨shlN H_o.out (pw_lt1000 X_o.out (by omega)) k (by omega)⟩
  go_wp2_with fail
  refine HC.out.mono ?_
  clear HC
  rintro e w4 ⟨v_p, rfl, hN, hB⟩
  have B4 := Aside0.mk hB
  have T4 := Aside0.mk (T3.out.trans (hB.mono T3.out.size))
  have H_p := Aside0.mk hN
  have X_p := Aside0.mk (show (1) * 2 ^ k < pw 9 from pw_shlb (b := 7) X_o.out (by omega))
  clear hN hB
  have HC : Aside0 (Calls Tryd.prog 51 #[v_x, v_p] w4 (DivPost1 w4 ((mk l0 10) / ((1) * 2 ^ k)) ((mk l0 10) % ((1) * 2 ^ k)))) := ⟨divP ((H_x.out.below B3.out).below B4.out) H_p.out (pw_lt1000 X_x.out (by omega)) (pw_lt1000 X_p.out (by omega)) (by have := Nat.pow_pos (n := k) (show 0 < 2 by decide); rw [Nat.one_mul]; omega)⟩
  go_wp2_with fail
  refine HC.out.mono ?_
  clear HC
  rintro e w5 ⟨v_q, v_r, rfl, hN, hN2, hB⟩
  have B5 := Aside0.mk hB
  have T5 := Aside0.mk (T4.out.trans (hB.mono T4.out.size))
  have H_q := Aside0.mk hN
  have X_q := Aside0.mk (show (mk l0 10) / ((1) * 2 ^ k) < pw 10 from Nat.lt_of_le_of_lt (Nat.div_le_self _ _) X_x.out)
  have H_r := Aside0.mk hN2
  have X_r := Aside0.mk (show (mk l0 10) % ((1) * 2 ^ k) < pw 10 from Nat.lt_of_le_of_lt (Nat.mod_le _ _) X_x.out)
  clear hN hN2 hB
  have HC : Aside0 (Calls Tryd.prog 31 #[v_x, .int .i64 (k : Int)] w5 (NuPost w5 ((mk l0 10) * 2 ^ k))) := ⟨shlN (((H_x.out.below B3.out).below B4.out).below B5.out) (pw_lt1000 X_x.out (by omega)) k (by omega)⟩
  go_wp2_with fail
  refine HC.out.mono ?_
  clear HC
  rintro e w6 ⟨v_s1, rfl, hN, hB⟩
  have B6 := Aside0.mk hB
  have T6 := Aside0.mk (T5.out.trans (hB.mono T5.out.size))
  have H_s1 := Aside0.mk hN
  have X_s1 := Aside0.mk (show (mk l0 10) * 2 ^ k < pw 17 from pw_shlb (b := 7) X_x.out (by omega))
  clear hN hB
  have HC : Aside0 (Calls Tryd.prog 39 #[v_x, v_p] w6 (NuPost w6 ((mk l0 10) * ((1) * 2 ^ k)))) := ⟨mulN ((((H_x.out.below B3.out).below B4.out).below B5.out).below B6.out) ((H_p.out.below B5.out).below B6.out) (pw_lt1000 X_x.out (by omega)) (pw_lt1000 X_p.out (by omega))⟩
  go_wp2_with fail
  refine HC.out.mono ?_
  clear HC
  rintro e w7 ⟨v_m1, rfl, hN, hB⟩
  have B7 := Aside0.mk hB
  have T7 := Aside0.mk (T6.out.trans (hB.mono T6.out.size))
  have H_m1 := Aside0.mk hN
  have X_m1 := Aside0.mk (show (mk l0 10) * ((1) * 2 ^ k) < pw 19 from pw_mulb X_x.out X_p.out)
  clear hN hB
  have HC : Aside0 (Calls Tryd.prog 28 #[v_s1, v_m1] w7 (TruePost w7)) := ⟨sameN (H_s1.out.below B7.out) H_m1.out (pw_lt1000 X_s1.out (by omega)) (by rw [Nat.one_mul])⟩
  go_wp2_with fail
  refine HC.out.mono ?_
  clear HC
  rintro e w8 ⟨rfl, hB⟩
  have B8 := Aside0.mk hB
  have T8 := Aside0.mk (T7.out.trans (hB.mono T7.out.size))
  clear hB
  have HC : Aside0 (Calls Tryd.prog 32 #[v_x, .int .i64 (k : Int)] w8 (NuPost w8 ((mk l0 10) / 2 ^ k))) := ⟨shrN ((((((H_x.out.below B3.out).below B4.out).below B5.out).below B6.out).below B7.out).below B8.out) (pw_lt1000 X_x.out (by omega)) k (by omega)⟩
  go_wp2_with fail
  refine HC.out.mono ?_
  clear HC
  rintro e w9 ⟨v_s2, rfl, hN, hB⟩
  have B9 := Aside0.mk hB
  have T9 := Aside0.mk (T8.out.trans (hB.mono T8.out.size))
  have H_s2 := Aside0.mk hN
  have X_s2 := Aside0.mk (show (mk l0 10) / 2 ^ k < pw 10 from Nat.lt_of_le_of_lt (Nat.div_le_self _ _) X_x.out)
  clear hN hB
  have HC : Aside0 (Calls Tryd.prog 28 #[v_s2, v_q] w9 (TruePost w9)) := ⟨sameN H_s2.out ((((H_q.out.below B6.out).below B7.out).below B8.out).below B9.out) (pw_lt1000 X_s2.out (by omega)) (by rw [Nat.one_mul])⟩
  go_wp2_with fail
  refine HC.out.mono ?_
  clear HC
  rintro e w10 ⟨rfl, hB⟩
  have B10 := Aside0.mk hB
  have T10 := Aside0.mk (T9.out.trans (hB.mono T9.out.size))
  clear hB
  have HC : Aside0 (Calls Tryd.prog 31 #[v_x, .int .i64 (k : Int)] w10 (NuPost w10 ((mk l0 10) * 2 ^ k))) := ⟨shlN ((((((((H_x.out.below B3.out).below B4.out).below B5.out).below B6.out).below B7.out).below B8.out).below B9.out).below B10.out) (pw_lt1000 X_x.out (by omega)) k (by omega)⟩
  go_wp2_with fail
  refine HC.out.mono ?_
  clear HC
  rintro e w11 ⟨v_a1, rfl, hN, hB⟩
  have B11 := Aside0.mk hB
  have T11 := Aside0.mk (T10.out.trans (hB.mono T10.out.size))
  have H_a1 := Aside0.mk hN
  have X_a1 := Aside0.mk (show (mk l0 10) * 2 ^ k < pw 17 from pw_shlb (b := 7) X_x.out (by omega))
  clear hN hB
  have HC : Aside0 (Calls Tryd.prog 31 #[v_a1, .int .i64 (m : Int)] w11 (NuPost w11 (((mk l0 10) * 2 ^ k) * 2 ^ m))) := ⟨shlN H_a1.out (pw_lt1000 X_a1.out (by omega)) m (by omega)⟩
  go_wp2_with fail
  refine HC.out.mono ?_
  clear HC
  rintro e w12 ⟨v_a2, rfl, hN, hB⟩
  have B12 := Aside0.mk hB
  have T12 := Aside0.mk (T11.out.trans (hB.mono T11.out.size))
  have H_a2 := Aside0.mk hN
  have X_a2 := Aside0.mk (show ((mk l0 10) * 2 ^ k) * 2 ^ m < pw 24 from pw_shlb (b := 7) X_a1.out (by omega))
  clear hN hB
  have HC : Aside0 (Calls Tryd.prog 31 #[v_x, .int .i64 ((k : Int) + (m : Int))] w12 (NuPost w12 ((mk l0 10) * 2 ^ (k + m)))) := ⟨by have h := shlN ((((((((((H_x.out.below B3.out).below B4.out).below B5.out).below B6.out).below B7.out).below B8.out).below B9.out).below B10.out).below B11.out).below B12.out) (pw_lt1000 X_x.out (by omega)) (k + m) (by omega); rw [Int.natCast_add] at h; exact h⟩
  go_wp2_with fail
  refine HC.out.mono ?_
  clear HC
  rintro e w13 ⟨v_a3, rfl, hN, hB⟩
  have B13 := Aside0.mk hB
  have T13 := Aside0.mk (T12.out.trans (hB.mono T12.out.size))
  have H_a3 := Aside0.mk hN
  have X_a3 := Aside0.mk (show (mk l0 10) * 2 ^ (k + m) < pw 24 from pw_shlb (b := 14) X_x.out (by omega))
  clear hN hB
  have HC : Aside0 (Calls Tryd.prog 28 #[v_a2, v_a3] w13 (TruePost w13)) := ⟨sameN (H_a2.out.below B13.out) H_a3.out (pw_lt1000 X_a2.out (by omega)) (by rw [Nat.pow_add, Nat.mul_assoc])⟩
  go_wp2_with fail
  refine HC.out.mono ?_
  clear HC
  rintro e w14 ⟨rfl, hB⟩
  have B14 := Aside0.mk hB
  have T14 := Aside0.mk (T13.out.trans (hB.mono T13.out.size))
  clear hB
  have HC : Aside0 (Calls Tryd.prog 32 #[v_x, .int .i64 (k : Int)] w14 (NuPost w14 ((mk l0 10) / 2 ^ k))) := ⟨shrN ((((((((((((H_x.out.below B3.out).below B4.out).below B5.out).below B6.out).below B7.out).below B8.out).below B9.out).below B10.out).below B11.out).below B12.out).below B13.out).below B14.out) (pw_lt1000 X_x.out (by omega)) k (by omega)⟩
  go_wp2_with fail
  refine HC.out.mono ?_
  clear HC
  rintro e w15 ⟨v_b1, rfl, hN, hB⟩
  have B15 := Aside0.mk hB
  have T15 := Aside0.mk (T14.out.trans (hB.mono T14.out.size))
  have H_b1 := Aside0.mk hN
  have X_b1 := Aside0.mk (show (mk l0 10) / 2 ^ k < pw 10 from Nat.lt_of_le_of_lt (Nat.div_le_self _ _) X_x.out)
  clear hN hB
  have HC : Aside0 (Calls Tryd.prog 32 #[v_b1, .int .i64 (m : Int)] w15 (NuPost w15 (((mk l0 10) / 2 ^ k) / 2 ^ m))) := ⟨shrN H_b1.out (pw_lt1000 X_b1.out (by omega)) m (by omega)⟩
  go_wp2_with fail
  refine HC.out.mono ?_
  clear HC
  rintro e w16 ⟨v_b2, rfl, hN, hB⟩
  have B16 := Aside0.mk hB
  have T16 := Aside0.mk (T15.out.trans (hB.mono T15.out.size))
  have H_b2 := Aside0.mk hN
  have X_b2 := Aside0.mk (show ((mk l0 10) / 2 ^ k) / 2 ^ m < pw 10 from Nat.lt_of_le_of_lt (Nat.div_le_self _ _) X_b1.out)
  clear hN hB
  have HC : Aside0 (Calls Tryd.prog 32 #[v_x, .int .i64 ((k : Int) + (m : Int))] w16 (NuPost w16 ((mk l0 10) / 2 ^ (k + m)))) := ⟨by have h := shrN ((((((((((((((H_x.out.below B3.out).below B4.out).below B5.out).below B6.out).below B7.out).below B8.out).below B9.out).below B10.out).below B11.out).below B12.out).below B13.out).below B14.out).below B15.out).below B16.out) (pw_lt1000 X_x.out (by omega)) (k + m) (by omega); rw [Int.natCast_add] at h; exact h⟩
  go_wp2_with fail
  refine HC.out.mono ?_
  clear HC
  rintro e w17 ⟨v_b3, rfl, hN, hB⟩
  have B17 := Aside0.mk hB
  have T17 := Aside0.mk (T16.out.trans (hB.mono T16.out.size))
  have H_b3 := Aside0.mk hN
  have X_b3 := Aside0.mk (show (mk l0 10) / 2 ^ (k + m) < pw 10 from Nat.lt_of_le_of_lt (Nat.div_le_self _ _) X_x.out)
  clear hN hB
  have HC : Aside0 (Calls Tryd.prog 28 #[v_b2, v_b3] w17 (TruePost w17)) := ⟨sameN (H_b2.out.below B17.out) H_b3.out (pw_lt1000 X_b2.out (by omega)) (by rw [Nat.pow_add, Nat.div_div_eq_div_mul])⟩
  go_wp2_with fail
  refine HC.out.mono ?_
  clear HC
  rintro e w18 ⟨rfl, hB⟩
  have B18 := Aside0.mk hB
  have T18 := Aside0.mk (T17.out.trans (hB.mono T17.out.size))
  clear hB
  have HC : Aside0 (Calls Tryd.prog 36 #[v_p] w18 (IntPost w18 ((k : Int) + 1))) := ⟨by have h := bitsN ((((((((((((((H_p.out.below B5.out).below B6.out).below B7.out).below B8.out).below B9.out).below B10.out).below B11.out).below B12.out).below B13.out).below B14.out).below B15.out).below B16.out).below B17.out).below B18.out) (pw_lt1000 X_p.out (by omega)); rw [Nat.one_mul, nbits_two] at h; exact h⟩
  go_wp2_with fail
  refine HC.out.mono ?_
  clear HC
  rintro e w19 ⟨rfl, hB⟩
  have B19 := Aside0.mk hB
  have T19 := Aside0.mk (T18.out.trans (hB.mono T18.out.size))
  clear hB
  go_wp2_with fail
  go_ret
  exact ⟨rfl, T19.out⟩
end Go.Proofs.YtklhpobphloehaaDoor.natPowers
