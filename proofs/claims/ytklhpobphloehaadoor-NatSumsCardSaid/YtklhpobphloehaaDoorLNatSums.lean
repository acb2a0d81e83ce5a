/- The law NatSums: the walk through its calls, by their contracts; the row and its card. -/
import Derived.Test.YtklhpobphloehaaDoorB
import Derived.Test.YtklhpobphloehaaDoorG14
set_option linter.unusedVariables false
namespace Go.Proofs.YtklhpobphloehaaDoor.natSums
open Go.RowKit
open Go.Proofs.YtklhpobphloehaaDoor.G Go.Proofs.YtklhpobphloehaaDoor.Nn Go.Proofs.YtklhpobphloehaaDoorW.PrintWords Go.Proofs.YtklhpobphloehaaDoorW.PrintLast

theorem of_lt {v : Nat} (h : v < 18446744073709551616) : v < pw 2 := by rw [show pw 2 = 18446744073709551616 from by decide]; exact h
set_option maxHeartbeats 4000000 in
set_option maxRecDepth 100000 in
theorem walk (a0 : Option Addr) (c0 : Nat) (l0 : List Int) (a1 : Option Addr) (c1 : Nat) (l1 : List Int) (a2 : Int) (w : World) (hr0 : CU w a0 l0.length l0) (hc0 : l0.length ≤ c0) (hL0 : Lim l0) (hr1 : CU w a1 l1.length l1) (hc1 : l1.length ≤ c1) (hL1 : Lim l1) (hi2 : 0 ≤ a2 ∧ a2 < 18446744073709551616) :
    Calls Tryd.prog 9 #[.slice a0 l0.length c0, .slice a1 l1.length c1, .int .u64 a2] w (TruePost w) := by
  have C0 := Aside0.mk hr0
  have S0 := Aside0.mk hc0
  have L0 := Aside0.mk hL0
  clear hr0 hc0 hL0
  have C1 := Aside0.mk hr1
  have S1 := Aside0.mk hc1
  have L1 := Aside0.mk hL1
  clear hr1 hc1 hL1
  obtain ⟨V, rfl⟩ : ∃ q : Nat, a2 = (q : Int) := ⟨a2.toNat, by omega⟩
  have hV : V < 18446744073709551616 := by omega
  clear hi2
  have HV := Aside0.mk hV
  go_enter Tryd.func9, Tryd.ntmps9
  have HC : Aside0 (Calls Tryd.prog 23 #[] w (TruePost w)) := ⟨known_w w⟩
  go_wp2_with fail
  refine HC.out.mono ?_
  clear HC
  rintro e w1 ⟨rfl, hB⟩
  have B1 := Aside0.mk hB
  have T1 := Aside0.mk (hB.mono (Nat.le_refl _))
  clear hB
  have HC : Aside0 (Calls Tryd.prog 24 #[.slice a0 l0.length c0, .int .i64 20] w1 (NuPost w1 (mk l0 20))) := ⟨makeN 20 (CU_below C0.out T1.out) S0.out L0.out (by decide)⟩
  go_wp2_with fail
  refine HC.out.mono ?_
  clear HC
  rintro e w2 ⟨v_x, rfl, hN, hB⟩
  have B2 := Aside0.mk hB
  have T2 := Aside0.mk (T1.out.trans (hB.mono T1.out.size))
  have H_x := Aside0.mk hN
  have X_x := Aside0.mk (show mk l0 20 < pw 20 from mk_lt L0.out 20)
  clear hN hB
  have HC : Aside0 (Calls Tryd.prog 24 #[.slice a1 l1.length c1, .int .i64 20] w2 (NuPost w2 (mk l1 20))) := ⟨makeN 20 (CU_below C1.out T2.out) S1.out L1.out (by decide)⟩
  go_wp2_with fail
  refine HC.out.mono ?_
  clear HC
  rintro e w3 ⟨v_y, rfl, hN, hB⟩
  have B3 := Aside0.mk hB
  have T3 := Aside0.mk (T2.out.trans (hB.mono T2.out.size))
  have H_y := Aside0.mk hN
  have X_y := Aside0.mk (show mk l1 20 < pw 20 from mk_lt L1.out 20)
  clear hN hB
  obtain ⟨kz, hkz⟩ : ∃ q, q = (if (mk l0 20) < (mk l1 20) then (1 : Int) else 0) := ⟨_, rfl⟩
  have Z_kz := Aside0.mk hkz
  clear hkz
  have HC : Aside0 (Calls Tryd.prog 38 #[v_x, v_y] w3 (NuPost2 w3 ((mk l0 20) - (mk l1 20)) kz)) := ⟨by have h := subN (H_x.out.below B3.out) H_y.out (pw_lt1000 X_x.out (by omega)) (pw_lt1000 X_y.out (by omega)); rw [← Z_kz.out] at h; exact h⟩
  go_wp2_with fail
  refine HC.out.mono ?_
  clear HC
  rintro e w4 ⟨v_d, rfl, hN, hB⟩
  have B4 := Aside0.mk hB
  have T4 := Aside0.mk (T3.out.trans (hB.mono T3.out.size))
  have H_d := Aside0.mk hN
  have X_d := Aside0.mk (show (mk l0 20) - (mk l1 20) < pw 20 from Nat.lt_of_le_of_lt (Nat.sub_le _ _) X_x.out)
  clear hN hB
  have HC : Aside0 (Calls Tryd.prog 42 #[v_x, v_y] w4 (NuPost2 w4 ((mk l0 20) - (mk l1 20)) kz)) := ⟨by have h := rsubN ((H_x.out.below B3.out).below B4.out) (H_y.out.below B4.out) (pw_lt1000 X_x.out (by omega)) (pw_lt1000 X_y.out (by omega)); rw [← Z_kz.out] at h; exact h⟩
  go_wp2_with fail
  refine HC.out.mono ?_
  clear HC
  rintro e w5 ⟨v_f, rfl, hN, hB⟩
  have B5 := Aside0.mk hB
  have T5 := Aside0.mk (T4.out.trans (hB.mono T4.out.size))
  have H_f := Aside0.mk hN
  have X_f := Aside0.mk (show (mk l0 20) - (mk l1 20) < pw 20 from Nat.lt_of_le_of_lt (Nat.sub_le _ _) X_x.out)
  clear hN hB
  obtain ⟨qs, hqs⟩ : ∃ q, q = smV (mk l0 20) := ⟨_, rfl⟩
  have Z_qs := Aside0.mk hqs
  clear hqs
  obtain ⟨bs, hbs⟩ : ∃ q, q = decide ((mk l0 20) < 18446744073709551616) := ⟨_, rfl⟩
  have Z_bs := Aside0.mk hbs
  clear hbs
  have HC : Aside0 (Calls Tryd.prog 43 #[v_x] w5 (fun e w' => e = .returned (.tuple #[.int .u64 (qs : Int), .bool bs]) ∧ Below w5.heap.size w5 w')) := ⟨by have h := smallN (((H_x.out.below B3.out).below B4.out).below B5.out) (pw_lt1000 X_x.out (by omega)); unfold SmPost at h; rw [← Z_qs.out, ← Z_bs.out] at h; exact h⟩
  go_wp2_with fail
  refine HC.out.mono ?_
  clear HC
  rintro e w6 ⟨rfl, hB⟩
  have B6 := Aside0.mk hB
  have T6 := Aside0.mk (T5.out.trans (hB.mono T5.out.size))
  clear hB
  have HC : Aside0 (Calls Tryd.prog 44 #[v_x] w6 (fun e w' => e = .returned (.tuple #[.int .u64 (qs : Int), .bool bs]) ∧ Below w6.heap.size w6 w')) := ⟨by have h := rsmallN ((((H_x.out.below B3.out).below B4.out).below B5.out).below B6.out) (pw_lt1000 X_x.out (by omega)); unfold SmPost at h; rw [← Z_qs.out, ← Z_bs.out] at h; exact h⟩
  go_wp2_with fail
  refine HC.out.mono ?_
  clear HC
  rintro e w7 ⟨rfl, hB⟩
  have B7 := Aside0.mk hB
  have T7 := Aside0.mk (T6.out.trans (hB.mono T6.out.size))
  clear hB
  have HC : Aside0 (Calls Tryd.prog 45 #[.int .u64 (V : Int)] w7 (NuPost w7 (V))) := ⟨ofN V HV.out⟩
  go_wp2_with fail
  refine HC.out.mono ?_
  clear HC
  rintro e w8 ⟨v_o, rfl, hN, hB⟩
  have B8 := Aside0.mk hB
  have T8 := Aside0.mk (T7.out.trans (hB.mono T7.out.size))
  have H_o := Aside0.mk hN
  have X_o := Aside0.mk (show V < pw 2 from of_lt HV.out)
  clear hN hB
  have HC : Aside0 (Calls Tryd.prog 43 #[v_o] w8 (fun e w' => e = .returned (.tuple #[.int .u64 (V : Int), .bool true]) ∧ Below w8.heap.size w8 w')) := ⟨by have h := smallN H_o.out (pw_lt1000 X_o.out (by omega)); unfold SmPost at h; rw [show smV V = V from if_pos HV.out, decide_eq_true HV.out] at h; exact h⟩
  go_wp2_with fail
  refine HC.out.mono ?_
  clear HC
  rintro e w9 ⟨rfl, hB⟩
  have B9 := Aside0.mk hB
  have T9 := Aside0.mk (T8.out.trans (hB.mono T8.out.size))
  clear hB
  have HC : Aside0 (Calls Tryd.prog 45 #[.int .u64 (V : Int)] w9 (NuPost w9 (V))) := ⟨ofN V HV.out⟩
  go_wp2_with fail
  refine HC.out.mono ?_
  clear HC
  rintro e w10 ⟨v_o1, rfl, hN, hB⟩
  have B10 := Aside0.mk hB
  have T10 := Aside0.mk (T9.out.trans (hB.mono T9.out.size))
  have H_o1 := Aside0.mk hN
  have X_o1 := Aside0.mk (show V < pw 2 from of_lt HV.out)
  clear hN hB
  have HC : Aside0 (Calls Tryd.prog 46 #[.int .u64 (V : Int)] w10 (NuPost w10 (V))) := ⟨rofN V HV.out⟩
  go_wp2_with fail
  refine HC.out.mono ?_
  clear HC
  rintro e w11 ⟨v_o2, rfl, hN, hB⟩
  have B11 := Aside0.mk hB
  have T11 := Aside0.mk (T10.out.trans (hB.mono T10.out.size))
  have H_o2 := Aside0.mk hN
  have X_o2 := Aside0.mk (show V < pw 2 from of_lt HV.out)
  clear hN hB
  have HC : Aside0 (Calls Tryd.prog 28 #[v_o1, v_o2] w11 (TruePost w11)) := ⟨sameN (H_o1.out.below B11.out) H_o2.out (pw_lt1000 X_o1.out (by omega)) (rfl)⟩
  go_wp2_with fail
  refine HC.out.mono ?_
  clear HC
  rintro e w12 ⟨rfl, hB⟩
  have B12 := Aside0.mk hB
  have T12 := Aside0.mk (T11.out.trans (hB.mono T11.out.size))
  clear hB
  obtain ⟨rb, hrb⟩ : ∃ q, q = rightB l0 := ⟨_, rfl⟩
  have Z_rb := Aside0.mk hrb
  clear hrb
  have HC : Aside0 (Calls Tryd.prog 47 #[.slice a0 l0.length c0] w12 (fun e w' => e = .returned (.bool rb) ∧ w12 = w')) := ⟨by have h := right_w a0 c0 l0 w12 (CU_below C0.out T12.out); rw [← Z_rb.out] at h; exact h⟩
  go_wp2_with fail
  refine HC.out.mono ?_
  clear HC
  rintro e wx ⟨rfl, hw⟩
  subst hw
  have HC : Aside0 (Calls Tryd.prog 48 #[.slice a0 l0.length c0] w12 (fun e w' => e = .returned (.bool rb) ∧ w12 = w')) := ⟨by have h := rright_w a0 c0 l0 w12 (CU_below C0.out T12.out); rw [← Z_rb.out] at h; exact h⟩
  go_wp2_with fail
  refine HC.out.mono ?_
  clear HC
  rintro e wx ⟨rfl, hw⟩
  subst hw
  obtain ⟨zc, hzc⟩ : ∃ q, q = cmpZ (mk l0 20) (mk l1 20) := ⟨_, rfl⟩
  have Z_zc := Aside0.mk hzc
  clear hzc
  have HC : Aside0 (Calls Tryd.prog 40 #[v_x, v_y] w12 (IntPost w12 zc)) := ⟨by have h := cmpN ((((((((((H_x.out.below B3.out).below B4.out).below B5.out).below B6.out).below B7.out).below B8.out).below B9.out).below B10.out).below B11.out).below B12.out) (((((((((H_y.out.below B4.out).below B5.out).below B6.out).below B7.out).below B8.out).below B9.out).below B10.out).below B11.out).below B12.out) (pw_lt1000 X_x.out (by omega)) (pw_lt1000 X_y.out (by omega)); rw [← Z_zc.out] at h; exact h⟩
  go_wp2_with fail
  refine HC.out.mono ?_
  clear HC
  rintro e w13 ⟨rfl, hB⟩
  have B13 := Aside0.mk hB
  have T13 := Aside0.mk (T12.out.trans (hB.mono T12.out.size))
  clear hB
  have HC : Aside0 (Calls Tryd.prog 41 #[v_x, v_y] w13 (IntPost w13 zc)) := ⟨by have h := rcmpN (((((((((((H_x.out.below B3.out).below B4.out).below B5.out).below B6.out).below B7.out).below B8.out).below B9.out).below B10.out).below B11.out).below B12.out).below B13.out) ((((((((((H_y.out.below B4.out).below B5.out).below B6.out).below B7.out).below B8.out).below B9.out).below B10.out).below B11.out).below B12.out).below B13.out) (pw_lt1000 X_x.out (by omega)) (pw_lt1000 X_y.out (by omega)); rw [← Z_zc.out] at h; exact h⟩
  go_wp2_with fail
  refine HC.out.mono ?_
  clear HC
  rintro e w14 ⟨rfl, hB⟩
  have B14 := Aside0.mk hB
  have T14 := Aside0.mk (T13.out.trans (hB.mono T13.out.size))
  clear hB
  obtain ⟨nb, hnb⟩ : ∃ q, q = nbits (mk l0 20) := ⟨_, rfl⟩
  have Z_nb := Aside0.mk hnb
  clear hnb
  have HC : Aside0 (Calls Tryd.prog 36 #[v_x] w14 (IntPost w14 (nb : Int))) := ⟨by have h := bitsN ((((((((((((H_x.out.below B3.out).below B4.out).below B5.out).below B6.out).below B7.out).below B8.out).below B9.out).below B10.out).below B11.out).below B12.out).below B13.out).below B14.out) (pw_lt1000 X_x.out (by omega)); rw [← Z_nb.out] at h; exact h⟩
  go_wp2_with fail
  refine HC.out.mono ?_
  clear HC
  rintro e w15 ⟨rfl, hB⟩
  have B15 := Aside0.mk hB
  have T15 := Aside0.mk (T14.out.trans (hB.mono T14.out.size))
  clear hB
  have HC : Aside0 (Calls Tryd.prog 35 #[v_x] w15 (IntPost w15 (nb : Int))) := ⟨by have h := rbitsN (((((((((((((H_x.out.below B3.out).below B4.out).below B5.out).below B6.out).below B7.out).below B8.out).below B9.out).below B10.out).below B11.out).below B12.out).below B13.out).below B14.out).below B15.out) (pw_lt1000 X_x.out (by omega)); rw [← Z_nb.out] at h; exact h⟩
  go_wp2_with fail
  refine HC.out.mono ?_
  clear HC
  rintro e w16 ⟨rfl, hB⟩
  have B16 := Aside0.mk hB
  have T16 := Aside0.mk (T15.out.trans (hB.mono T15.out.size))
  clear hB
  have HC : Aside0 (Calls Tryd.prog 37 #[v_x, v_y] w16 (NuPost w16 ((mk l0 20) + (mk l1 20)))) := ⟨addN ((((((((((((((H_x.out.below B3.out).below B4.out).below B5.out).below B6.out).below B7.out).below B8.out).below B9.out).below B10.out).below B11.out).below B12.out).below B13.out).below B14.out).below B15.out).below B16.out) (((((((((((((H_y.out.below B4.out).below B5.out).below B6.out).below B7.out).below B8.out).below B9.out).below B10.out).below B11.out).below B12.out).below B13.out).below B14.out).below B15.out).below B16.out) (pw_lt1000 X_x.out (by omega)) (pw_lt1000 X_y.out (by omega))⟩
  go_wp2_with fail
  refine HC.out.mono ?_
  clear HC
  rintro e w17 ⟨v_s1, rfl, hN, hB⟩
  have B17 := Aside0.mk hB
  have T17 := Aside0.mk (T16.out.trans (hB.mono T16.out.size))
  have H_s1 := Aside0.mk hN
  have X_s1 := Aside0.mk (show (mk l0 20) + (mk l1 20) < pw 21 from pw_addb X_x.out X_y.out (by omega) (by omega))
  clear hN hB
  have HC : Aside0 (Calls Tryd.prog 49 #[v_x, v_y] w17 (NuPost w17 ((mk l0 20) + (mk l1 20)))) := ⟨raddN (((((((((((((((H_x.out.below B3.out).below B4.out).below B5.out).below B6.out).below B7.out).below B8.out).below B9.out).below B10.out).below B11.out).below B12.out).below B13.out).below B14.out).below B15.out).below B16.out).below B17.out) ((((((((((((((H_y.out.below B4.out).below B5.out).below B6.out).below B7.out).below B8.out).below B9.out).below B10.out).below B11.out).below B12.out).below B13.out).below B14.out).below B15.out).below B16.out).below B17.out) (pw_lt1000 X_x.out (by omega)) (pw_lt1000 X_y.out (by omega))⟩
  go_wp2_with fail
  refine HC.out.mono ?_
  clear HC
  rintro e w18 ⟨v_s2, rfl, hN, hB⟩
  have B18 := Aside0.mk hB
  have T18 := Aside0.mk (T17.out.trans (hB.mono T17.out.size))
  have H_s2 := Aside0.mk hN
  have X_s2 := Aside0.mk (show (mk l0 20) + (mk l1 20) < pw 21 from pw_addb X_x.out X_y.out (by omega) (by omega))
  clear hN hB
  have HC : Aside0 (Calls Tryd.prog 28 #[v_s1, v_s2] w18 (TruePost w18)) := ⟨sameN (H_s1.out.below B18.out) H_s2.out (pw_lt1000 X_s1.out (by omega)) (rfl)⟩
  go_wp2_with fail
  refine HC.out.mono ?_
  clear HC
  rintro e w19 ⟨rfl, hB⟩
  have B19 := Aside0.mk hB
  have T19 := Aside0.mk (T18.out.trans (hB.mono T18.out.size))
  clear hB
  have HC : Aside0 (Calls Tryd.prog 28 #[v_d, v_f] w19 (TruePost w19)) := ⟨sameN (((((((((((((((H_d.out.below B5.out).below B6.out).below B7.out).below B8.out).below B9.out).below B10.out).below B11.out).below B12.out).below B13.out).below B14.out).below B15.out).below B16.out).below B17.out).below B18.out).below B19.out) ((((((((((((((H_f.out.below B6.out).below B7.out).below B8.out).below B9.out).below B10.out).below B11.out).below B12.out).below B13.out).below B14.out).below B15.out).below B16.out).below B17.out).below B18.out).below B19.out) (pw_lt1000 X_d.out (by omega)) (rfl)⟩
  go_wp2_with fail
  refine HC.out.mono ?_
  clear HC
  rintro e w20 ⟨rfl, hB⟩
  have B20 := Aside0.mk hB
  have T20 := Aside0.mk (T19.out.trans (hB.mono T19.out.size))
  clear hB
  have HC : Aside0 (Calls Tryd.prog 39 #[v_x, v_y] w20 (NuPost w20 ((mk l0 20) * (mk l1 20)))) := ⟨mulN ((((((((((((((((((H_x.out.below B3.out).below B4.out).below B5.out).below B6.out).below B7.out).below B8.out).below B9.out).below B10.out).below B11.out).below B12.out).below B13.out).below B14.out).below B15.out).below B16.out).below B17.out).below B18.out).below B19.out).below B20.out) (((((((((((((((((H_y.out.below B4.out).below B5.out).below B6.out).below B7.out).below B8.out).below B9.out).below B10.out).below B11.out).below B12.out).below B13.out).below B14.out).below B15.out).below B16.out).below B17.out).below B18.out).below B19.out).below B20.out) (pw_lt1000 X_x.out (by omega)) (pw_lt1000 X_y.out (by omega))⟩
  go_wp2_with fail
  refine HC.out.mono ?_
  clear HC
  rintro e w21 ⟨v_p1, rfl, hN, hB⟩
  have B21 := Aside0.mk hB
  have T21 := Aside0.mk (T20.out.trans (hB.mono T20.out.size))
  have H_p1 := Aside0.mk hN
  have X_p1 := Aside0.mk (show (mk l0 20) * (mk l1 20) < pw 40 from pw_mulb X_x.out X_y.out)
  clear hN hB
  have HC : Aside0 (Calls Tryd.prog 50 #[v_x, v_y] w21 (NuPost w21 ((mk l0 20) * (mk l1 20)))) := ⟨rmulN (((((((((((((((((((H_x.out.below B3.out).below B4.out).below B5.out).below B6.out).below B7.out).below B8.out).below B9.out).below B10.out).below B11.out).below B12.out).below B13.out).below B14.out).below B15.out).below B16.out).below B17.out).below B18.out).below B19.out).below B20.out).below B21.out) ((((((((((((((((((H_y.out.below B4.out).below B5.out).below B6.out).below B7.out).below B8.out).below B9.out).below B10.out).below B11.out).below B12.out).below B13.out).below B14.out).below B15.out).below B16.out).below B17.out).below B18.out).below B19.out).below B20.out).below B21.out) (pw_lt1000 X_x.out (by omega)) (pw_lt1000 X_y.out (by omega))⟩
  go_wp2_with fail
  refine HC.out.mono ?_
  clear HC
  rintro e w22 ⟨v_p2, rfl, hN, hB⟩
  have B22 := Aside0.mk hB
  have T22 := Aside0.mk (T21.out.trans (hB.mono T21.out.size))
  have H_p2 := Aside0.mk hN
  have X_p2 := Aside0.mk (show (mk l0 20) * (mk l1 20) < pw 40 from pw_mulb X_x.out X_y.out)
  clear hN hB
  have HC : Aside0 (Calls Tryd.prog 28 #[v_p1, v_p2] w22 (TruePost w22)) := ⟨sameN (H_p1.out.below B22.out) H_p2.out (pw_lt1000 X_p1.out (by omega)) (rfl)⟩
  go_wp2_with fail
  refine HC.out.mono ?_
  clear HC
  rintro e w23 ⟨rfl, hB⟩
  have B23 := Aside0.mk hB
  have T23 := Aside0.mk (T22.out.trans (hB.mono T22.out.size))
  clear hB
  go_wp2_with fail
  go_ret
  exact ⟨rfl, T23.out⟩
end Go.Proofs.YtklhpobphloehaaDoor.natSums
