/- The law NatKnown: the walk through its calls, by their contracts; the row and its card. -/
import Derived.Test.YtklhpobphloehaaDoorS4
import Derived.Test.YtklhpobphloehaaDoorS2
import Derived.Test.YtklhpobphloehaaDoorS3
set_option linter.unusedVariables false
namespace Go.Proofs.YtklhpobphloehaaDoor.natKnown
open Go.RowKit
open Go.Proofs.YtklhpobphloehaaDoor.G Go.Proofs.YtklhpobphloehaaDoor.Nn Go.Proofs.YtklhpobphloehaaDoorW.PrintWords Go.Proofs.YtklhpobphloehaaDoorW.PrintLast

theorem gcd_ltb {x y a b c : Nat} (hx : x < pw a) (hy : y < pw b) (ha : a ≤ c) (hb : b ≤ c) : Nat.gcd x y < pw c := by
  rcases Nat.eq_zero_or_pos x with h | h
  · rw [h, Nat.gcd_zero_left]; exact Nat.lt_of_lt_of_le hy (pw_le hb)
  · exact Nat.lt_of_le_of_lt (Nat.gcd_le_left y h) (Nat.lt_of_lt_of_le hx (pw_le ha))
theorem litC (W : World) (n : Nat) (l : List Int) (cs : Array Value) (g : Nat) (hn : l.length = n) (hc : cs = (nums .u32 l).toArray) (hp : n < 10 ∧ 0 < n) (hg : W.heap.size = g) : RU (W.alloc (.cells cs 54)) W.heap.size (.slice (some ⟨g, 0, none⟩) n n) l := by
  subst hn hc hg
  exact RU_own (own_lit W W.heap.size 54 .u32 l (Nat.le_refl _) (by omega))
theorem litN (W : World) (N n : Nat) (l : List Int) (cs : Array Value) (g : Nat) (hn : l.length = n) (hc : cs = (nums .u32 l).toArray) (hp : n < 10 ∧ 0 < n) (hv : val l = N ∧ l.getD (l.length - 1) 1 ≠ 0) (hL : ∀ x ∈ l, 0 ≤ x ∧ x < 4294967296) (hg : W.heap.size = g) : Nu (W.alloc (.cells cs 54)) (.slice (some ⟨g, 0, none⟩) n n) N := by
  have h := litC W n l cs g hn hc hp hg
  have e : digs N = l := by rw [← hv.1]; exact digs_val hL hv.2
  rw [← e] at h
  exact Nu_of_RU h
theorem nu_zero {w : World} {v : Value} (h : Nu w v 0) : ∃ A c, v = .slice A 0 c := by
  obtain ⟨A, c, e, _, _⟩ := h
  rw [digs_zero, List.length_nil] at e
  exact ⟨A, c, e⟩
theorem parse_lit (s : ByteArray) (W : World) (N : Nat) (c : Int) (hs : s.size ≤ 100) (h1 : (pcode s.data.toList : Int) = c) (h2 : pnum s.data.toList = N) : Calls Tryd.prog 26 #[.string s] W (NuPost2 W N c) := by
  subst h1 h2
  exact parse_w s W (by omega)
theorem right_lit (W : World) (n : Nat) (l : List Int) (cs : Array Value) (g : Nat) (b : Bool) (hn : l.length = n) (hc : cs = (nums .u32 l).toArray) (hp : n < 10 ∧ 0 < n) (hb : rightB l = b) (hg : W.heap.size = g) :
    Calls Tryd.prog 47 #[.slice (some ⟨g, 0, none⟩) n n] (W.alloc (.cells cs 54)) fun e w' => e = .returned (.bool b) ∧ W.alloc (.cells cs 54) = w' := by
  obtain ⟨A, c, e, h1, h2⟩ := RU_slice (litC W n l cs g hn hc hp hg)
  subst hb hn
  cases e
  exact right_w _ _ l _ h2
theorem right_nil (W : World) : Calls Tryd.prog 47 #[.slice none 0 0] W fun e w' => e = .returned (.bool true) ∧ W = w' := by
  obtain ⟨A, c, e, h1, h2⟩ := Nu_nil W
  rw [digs_zero, List.length_nil] at e
  cases e
  rw [digs_zero, List.length_nil] at h2
  exact right_w none 0 [] W h2
theorem rows_cell (W : World) (g k : Nat) (hg : W.heap.size = g) (hk : k < 12) : (W.alloc (.cells #[.bool true, .bool true, .bool true, .bool true, .bool true, .bool true, .bool true, .bool true, .bool true, .bool true, .bool true, .bool true] 4)).cell? ⟨g, k, none⟩ = some (.bool true) := by
  subst hg
  have : k = 0 ∨ k = 1 ∨ k = 2 ∨ k = 3 ∨ k = 4 ∨ k = 5 ∨ k = 6 ∨ k = 7 ∨ k = 8 ∨ k = 9 ∨ k = 10 ∨ k = 11 := by omega
  rcases this with rfl | rfl | rfl | rfl | rfl | rfl | rfl | rfl | rfl | rfl | rfl | rfl <;> simp
theorem dd_big : Go.Lib.decDigits 18446744073709551616 = [49, 56, 52, 52, 54, 55, 52, 52, 48, 55, 51, 55, 48, 57, 53, 53, 49, 54, 49, 54] := by
  rw [decDigits_big (show ¬ 18446744073709551616 < 10 by decide), show 18446744073709551616 / 10 = 1844674407370955161 from by decide]
  rw [decDigits_big (show ¬ 1844674407370955161 < 10 by decide), show 1844674407370955161 / 10 = 184467440737095516 from by decide]
  rw [decDigits_big (show ¬ 184467440737095516 < 10 by decide), show 184467440737095516 / 10 = 18446744073709551 from by decide]
  rw [decDigits_big (show ¬ 18446744073709551 < 10 by decide), show 18446744073709551 / 10 = 1844674407370955 from by decide]
  rw [decDigits_big (show ¬ 1844674407370955 < 10 by decide), show 1844674407370955 / 10 = 184467440737095 from by decide]
  rw [decDigits_big (show ¬ 184467440737095 < 10 by decide), show 184467440737095 / 10 = 18446744073709 from by decide]
  rw [decDigits_big (show ¬ 18446744073709 < 10 by decide), show 18446744073709 / 10 = 1844674407370 from by decide]
  rw [decDigits_big (show ¬ 1844674407370 < 10 by decide), show 1844674407370 / 10 = 184467440737 from by decide]
  rw [decDigits_big (show ¬ 184467440737 < 10 by decide), show 184467440737 / 10 = 18446744073 from by decide]
  rw [decDigits_big (show ¬ 18446744073 < 10 by decide), show 18446744073 / 10 = 1844674407 from by decide]
  rw [decDigits_big (show ¬ 1844674407 < 10 by decide), show 1844674407 / 10 = 184467440 from by decide]
  rw [decDigits_big (show ¬ 184467440 < 10 by decide), show 184467440 / 10 = 18446744 from by decide]
  rw [decDigits_big (show ¬ 18446744 < 10 by decide), show 18446744 / 10 = 1844674 from by decide]
  rw [decDigits_big (show ¬ 1844674 < 10 by decide), show 1844674 / 10 = 184467 from by decide]
  rw [decDigits_big (show ¬ 184467 < 10 by decide), show 184467 / 10 = 18446 from by decide]
  rw [decDigits_big (show ¬ 18446 < 10 by decide), show 18446 / 10 = 1844 from by decide]
  rw [decDigits_big (show ¬ 1844 < 10 by decide), show 1844 / 10 = 184 from by decide]
  rw [decDigits_big (show ¬ 184 < 10 by decide), show 184 / 10 = 18 from by decide]
  rw [decDigits_big (show ¬ 18 < 10 by decide), show 18 / 10 = 1 from by decide]
  rw [decDigits_small (show 1 < 10 by decide)]
  rfl
set_option maxHeartbeats 8000000 in
set_option maxRecDepth 100000 in
theorem walk (a0 : Int) (w : World) (hi0 : -9223372036854775808 ≤ a0 ∧ a0 ≤ 9223372036854775807) (HT : TabOk w) :
    Calls Tryd.prog 17 #[.int .i64 a0] w (TruePost w) := by
  have TAB := Aside0.mk HT
  clear HT
  go_enter Tryd.func17, Tryd.ntmps17
  have HC : Aside0 (Calls Tryd.prog 23 #[] w (TruePost w)) := ⟨known_w w⟩
  go_wp2_with fail
  refine HC.out.mono ?_
  clear HC
  rintro e w1 ⟨rfl, hB⟩
  have B1 := Aside0.mk hB
  have T1 := Aside0.mk (hB.mono (Nat.le_refl _))
  clear hB
  obtain ⟨k, ke, hk⟩ : ∃ q : Nat, (q : Int) = a0 % 12 ∧ q < 12 := ⟨(a0 % 12).toNat, by omega, by omega⟩
  have KE := Aside0.mk ke
  clear ke
  have B2 := Aside0.mk (below_alloc (Below.refl w1.heap.size w1) (.cells #[.int .u32 0, .int .u32 0, .int .u32 1] 54))
  have T2 := Aside0.mk (T1.out.trans (B2.out.mono T1.out.size))
  have H_big := Aside0.mk (litN w1 18446744073709551616 3 [0, 0, 1] #[.int .u32 0, .int .u32 0, .int .u32 1] (w1.heap.size) rfl rfl (by decide) (by decide) (by decide) (by simp))
  have X_big := Aside0.mk (show 18446744073709551616 < pw 4 by decide)
  have B3 := Aside0.mk (below_alloc (Below.refl (w1.alloc (.cells #[.int .u32 0, .int .u32 0, .int .u32 1] 54)).heap.size (w1.alloc (.cells #[.int .u32 0, .int .u32 0, .int .u32 1] 54))) (.cells #[.int .u32 5, .int .u32 0, .int .u32 7] 54))
  have T3 := Aside0.mk (T2.out.trans (B3.out.mono T2.out.size))
  have H_a := Aside0.mk (litN (w1.alloc (.cells #[.int .u32 0, .int .u32 0, .int .u32 1] 54)) 129127208515966861317 3 [5, 0, 7] #[.int .u32 5, .int .u32 0, .int .u32 7] (w1.heap.size + 1) rfl rfl (by decide) (by decide) (by decide) (by simp))
  have X_a := Aside0.mk (show 129127208515966861317 < pw 4 by decide)
  have B4 := Aside0.mk (below_alloc (Below.refl ((w1.alloc (.cells #[.int .u32 0, .int .u32 0, .int .u32 1] 54)).alloc (.cells #[.int .u32 5, .int .u32 0, .int .u32 7] 54)).heap.size ((w1.alloc (.cells #[.int .u32 0, .int .u32 0, .int .u32 1] 54)).alloc (.cells #[.int .u32 5, .int .u32 0, .int .u32 7] 54))) (.cells #[.int .u32 0, .int .u32 2] 54))
  have T4 := Aside0.mk (T3.out.trans (B4.out.mono T3.out.size))
  have H_b := Aside0.mk (litN ((w1.alloc (.cells #[.int .u32 0, .int .u32 0, .int .u32 1] 54)).alloc (.cells #[.int .u32 5, .int .u32 0, .int .u32 7] 54)) 8589934592 2 [0, 2] #[.int .u32 0, .int .u32 2] (w1.heap.size + 2) rfl rfl (by decide) (by decide) (by decide) (by simp))
  have X_b := Aside0.mk (show 8589934592 < pw 3 by decide)
  have HC : Aside0 (Calls Tryd.prog 51 #[(.slice (some ⟨w1.heap.size + 1, 0, none⟩) 3 3), (.slice (some ⟨w1.heap.size + 2, 0, none⟩) 2 2)] (((w1.alloc (.cells #[.int .u32 0, .int .u32 0, .int .u32 1] 54)).alloc (.cells #[.int .u32 5, .int .u32 0, .int .u32 7] 54)).alloc (.cells #[.int .u32 0, .int .u32 2] 54)) (DivPost1 (((w1.alloc (.cells #[.int .u32 0, .int .u32 0, .int .u32 1] 54)).alloc (.cells #[.int .u32 5, .int .u32 0, .int .u32 7] 54)).alloc (.cells #[.int .u32 0, .int .u32 2] 54)) (129127208515966861317 / 8589934592) (129127208515966861317 % 8589934592))) := ⟨divP (H_a.out.below B4.out) H_b.out (pw_lt1000 X_a.out (by omega)) (pw_lt1000 X_b.out (by omega)) (by decide)⟩
  go_wp2_with fail
  refine HC.out.mono ?_
  clear HC
  rintro e w5 ⟨v_q, v_r, rfl, hN, hN2, hB⟩
  have B5 := Aside0.mk hB
  have T5 := Aside0.mk (T4.out.trans (hB.mono T4.out.size))
  have H_q := Aside0.mk hN
  have X_q := Aside0.mk (show 129127208515966861317 / 8589934592 < pw 4 from Nat.lt_of_le_of_lt (Nat.div_le_self _ _) X_a.out)
  have H_r := Aside0.mk hN2
  have X_r := Aside0.mk (show 129127208515966861317 % 8589934592 < pw 4 from Nat.lt_of_le_of_lt (Nat.mod_le _ _) X_a.out)
  clear hN hN2 hB
  have B6 := Aside0.mk (below_alloc (Below.refl w5.heap.size w5) (.cells #[.int .u32 3] 54))
  have T6 := Aside0.mk (T5.out.trans (B6.out.mono T5.out.size))
  have H_c3 := Aside0.mk (litN w5 3 1 [3] #[.int .u32 3] (w5.heap.size) rfl rfl (by decide) (by decide) (by decide) (by simp))
  have X_c3 := Aside0.mk (show 3 < pw 2 by decide)
  have HC : Aside0 (Calls Tryd.prog 51 #[(.slice (some ⟨w1.heap.size, 0, none⟩) 3 3), (.slice (some ⟨w5.heap.size, 0, none⟩) 1 1)] (w5.alloc (.cells #[.int .u32 3] 54)) (DivPost1 (w5.alloc (.cells #[.int .u32 3] 54)) (18446744073709551616 / 3) (18446744073709551616 % 3))) := ⟨divP ((((H_big.out.below B3.out).below B4.out).below B5.out).below B6.out) H_c3.out (pw_lt1000 X_big.out (by omega)) (pw_lt1000 X_c3.out (by omega)) (by decide)⟩
  go_wp2_with fail
  refine HC.out.mono ?_
  clear HC
  rintro e w7 ⟨v_p, v_s, rfl, hN, hN2, hB⟩
  have B7 := Aside0.mk hB
  have T7 := Aside0.mk (T6.out.trans (hB.mono T6.out.size))
  have H_p := Aside0.mk hN
  have X_p := Aside0.mk (show 18446744073709551616 / 3 < pw 4 from Nat.lt_of_le_of_lt (Nat.div_le_self _ _) X_big.out)
  have H_s := Aside0.mk hN2
  have X_s := Aside0.mk (show 18446744073709551616 % 3 < pw 4 from Nat.lt_of_le_of_lt (Nat.mod_le _ _) X_big.out)
  clear hN hN2 hB
  have H_nil := Aside0.mk (Nu_nil w7)
  have X_nil := Aside0.mk (show 0 < pw 1 from pw_pos 1)
  have HC : Aside0 (Calls Tryd.prog 51 #[(.slice (some ⟨w1.heap.size, 0, none⟩) 3 3), (.slice none 0 0)] w7 (DivPost0 w7)) := ⟨divZ (((((H_big.out.below B3.out).below B4.out).below B5.out).below B6.out).below B7.out) H_nil.out (pw_lt1000 X_big.out (by omega)) (pw_lt1000 X_nil.out (by omega)) (rfl)⟩
  go_wp2_with fail
  refine HC.out.mono ?_
  clear HC
  rintro e w8 ⟨v_z1, v_z2, rfl, hN, hN2, hB⟩
  have B8 := Aside0.mk hB
  have T8 := Aside0.mk (T7.out.trans (hB.mono T7.out.size))
  have H_z1 := Aside0.mk hN
  have X_z1 := Aside0.mk (show 0 < pw 1 from pw_pos 1)
  have H_z2 := Aside0.mk hN2
  have X_z2 := Aside0.mk (show 0 < pw 1 from pw_pos 1)
  clear hN hN2 hB
  have B9 := Aside0.mk (below_alloc (Below.refl w8.heap.size w8) (.cells #[.int .u32 1] 54))
  have T9 := Aside0.mk (T8.out.trans (B9.out.mono T8.out.size))
  have H_c1 := Aside0.mk (litN w8 1 1 [1] #[.int .u32 1] (w8.heap.size) rfl rfl (by decide) (by decide) (by decide) (by simp))
  have X_c1 := Aside0.mk (show 1 < pw 2 by decide)
  have HC : Aside0 (Calls Tryd.prog 38 #[(.slice (some ⟨w1.heap.size, 0, none⟩) 3 3), (.slice (some ⟨w8.heap.size, 0, none⟩) 1 1)] (w8.alloc (.cells #[.int .u32 1] 54)) (NuPost2 (w8.alloc (.cells #[.int .u32 1] 54)) (18446744073709551616 - 1) 0)) := ⟨by have h := subN (((((((H_big.out.below B3.out).below B4.out).below B5.out).below B6.out).below B7.out).below B8.out).below B9.out) H_c1.out (pw_lt1000 X_big.out (by omega)) (pw_lt1000 X_c1.out (by omega)); rwa [if_neg (Nat.not_lt.2 (by decide))] at h⟩
  go_wp2_with fail
  refine HC.out.mono ?_
  clear HC
  rintro e w10 ⟨v_d, rfl, hN, hB⟩
  have B10 := Aside0.mk hB
  have T10 := Aside0.mk (T9.out.trans (hB.mono T9.out.size))
  have H_d := Aside0.mk hN
  have X_d := Aside0.mk (show 18446744073709551616 - 1 < pw 4 from Nat.lt_of_le_of_lt (Nat.sub_le _ _) X_big.out)
  clear hN hB
  have B11 := Aside0.mk (below_alloc (Below.refl w10.heap.size w10) (.cells #[.int .u32 1] 54))
  have T11 := Aside0.mk (T10.out.trans (B11.out.mono T10.out.size))
  have H_c1b := Aside0.mk (litN w10 1 1 [1] #[.int .u32 1] (w10.heap.size) rfl rfl (by decide) (by decide) (by decide) (by simp))
  have X_c1b := Aside0.mk (show 1 < pw 2 by decide)
  have HC : Aside0 (Calls Tryd.prog 38 #[(.slice (some ⟨w10.heap.size, 0, none⟩) 1 1), (.slice (some ⟨w1.heap.size, 0, none⟩) 3 3)] (w10.alloc (.cells #[.int .u32 1] 54)) (NuPost2 (w10.alloc (.cells #[.int .u32 1] 54)) (1 - 18446744073709551616) 1)) := ⟨by have h := subN H_c1b.out (((((((((H_big.out.below B3.out).below B4.out).below B5.out).below B6.out).below B7.out).below B8.out).below B9.out).below B10.out).below B11.out) (pw_lt1000 X_c1b.out (by omega)) (pw_lt1000 X_big.out (by omega)); rwa [if_pos (by decide)] at h⟩
  go_wp2_with fail
  refine HC.out.mono ?_
  clear HC
  rintro e w12 ⟨v_sn, rfl, hN, hB⟩
  have B12 := Aside0.mk hB
  have T12 := Aside0.mk (T11.out.trans (hB.mono T11.out.size))
  clear hN hB
  have HC : Aside0 (Calls Tryd.prog 26 #[.string ⟨#[49, 56, 52, 52, 54, 55, 52, 52, 48, 55, 51, 55, 48, 57, 53, 53, 49, 54, 49, 54]⟩] w12 (NuPost2 w12 18446744073709551616 0)) := ⟨parse_lit ⟨#[49, 56, 52, 52, 54, 55, 52, 52, 48, 55, 51, 55, 48, 57, 53, 53, 49, 54, 49, 54]⟩ w12 18446744073709551616 0 (by decide) (by decide) (by decide)⟩
  go_wp2_with fail
  refine HC.out.mono ?_
  clear HC
  rintro e w13 ⟨v_x, rfl, hN, hB⟩
  have B13 := Aside0.mk hB
  have T13 := Aside0.mk (T12.out.trans (hB.mono T12.out.size))
  have H_x := Aside0.mk hN
  have X_x := Aside0.mk (show 18446744073709551616 < pw 3 by decide)
  clear hN hB
  have HC : Aside0 (Calls Tryd.prog 26 #[.string ⟨#[48, 49]⟩] w13 (NuPost2 w13 0 4)) := ⟨parse_lit ⟨#[48, 49]⟩ w13 0 4 (by decide) (by decide) (by decide)⟩
  go_wp2_with fail
  refine HC.out.mono ?_
  clear HC
  rintro e w14 ⟨v_x1, rfl, hN, hB⟩
  have B14 := Aside0.mk hB
  have T14 := Aside0.mk (T13.out.trans (hB.mono T13.out.size))
  have H_x1 := Aside0.mk hN
  have X_x1 := Aside0.mk (show 0 < pw 3 by decide)
  clear hN hB
  have HC : Aside0 (Calls Tryd.prog 26 #[.string ⟨#[48]⟩] w14 (NuPost2 w14 0 0)) := ⟨parse_lit ⟨#[48]⟩ w14 0 0 (by decide) (by decide) (by decide)⟩
  go_wp2_with fail
  refine HC.out.mono ?_
  clear HC
  rintro e w15 ⟨v_y, rfl, hN, hB⟩
  have B15 := Aside0.mk hB
  have T15 := Aside0.mk (T14.out.trans (hB.mono T14.out.size))
  have H_y := Aside0.mk hN
  have X_y := Aside0.mk (show 0 < pw 3 by decide)
  clear hN hB
  obtain ⟨A_y, c_y, rfl⟩ := nu_zero H_y.out
  have HC : Aside0 (Calls Tryd.prog 43 #[(.slice (some ⟨w1.heap.size, 0, none⟩) 3 3)] w15 (fun e w' => e = .returned (.tuple #[.int .u64 0, .bool false]) ∧ Below w15.heap.size w15 w')) := ⟨by have h := smallN (((((((((((((H_big.out.below B3.out).below B4.out).below B5.out).below B6.out).below B7.out).below B8.out).below B9.out).below B10.out).below B11.out).below B12.out).below B13.out).below B14.out).below B15.out) (pw_lt1000 X_big.out (by omega)); unfold SmPost at h; rw [show smV 18446744073709551616 = 0 from by decide, show decide (18446744073709551616 < 18446744073709551616) = false from by decide] at h; exact h⟩
  go_wp2_with fail
  refine HC.out.mono ?_
  clear HC
  rintro e w16 ⟨rfl, hB⟩
  have B16 := Aside0.mk hB
  have T16 := Aside0.mk (T15.out.trans (hB.mono T15.out.size))
  clear hB
  have B17 := Aside0.mk (below_alloc (Below.refl w16.heap.size w16) (.cells #[.int .u32 1, .int .u32 1] 54))
  have T17 := Aside0.mk (T16.out.trans (B17.out.mono T16.out.size))
  have H_oo := Aside0.mk (litN w16 4294967297 2 [1, 1] #[.int .u32 1, .int .u32 1] (w16.heap.size) rfl rfl (by decide) (by decide) (by decide) (by simp))
  have X_oo := Aside0.mk (show 4294967297 < pw 3 by decide)
  have HC : Aside0 (Calls Tryd.prog 43 #[(.slice (some ⟨w16.heap.size, 0, none⟩) 2 2)] (w16.alloc (.cells #[.int .u32 1, .int .u32 1] 54)) (fun e w' => e = .returned (.tuple #[.int .u64 4294967297, .bool true]) ∧ Below (w16.alloc (.cells #[.int .u32 1, .int .u32 1] 54)).heap.size (w16.alloc (.cells #[.int .u32 1, .int .u32 1] 54)) w')) := ⟨by have h := smallN H_oo.out (pw_lt1000 X_oo.out (by omega)); unfold SmPost at h; rw [show smV 4294967297 = 4294967297 from by decide, show decide (4294967297 < 18446744073709551616) = true from by decide] at h; exact h⟩
  go_wp2_with fail
  refine HC.out.mono ?_
  clear HC
  rintro e w18 ⟨rfl, hB⟩
  have B18 := Aside0.mk hB
  have T18 := Aside0.mk (T17.out.trans (hB.mono T17.out.size))
  clear hB
  have B19 := Aside0.mk (below_alloc (Below.refl w18.heap.size w18) (.cells #[.int .u32 2147483648, .int .u32 3] 54))
  have T19 := Aside0.mk (T18.out.trans (B19.out.mono T18.out.size))
  have H_l18 := Aside0.mk (litN w18 15032385536 2 [2147483648, 3] #[.int .u32 2147483648, .int .u32 3] (w18.heap.size) rfl rfl (by decide) (by decide) (by decide) (by simp))
  have X_l18 := Aside0.mk (show 15032385536 < pw 3 by decide)
  have HC : Aside0 (Calls Tryd.prog 28 #[v_q, (.slice (some ⟨w18.heap.size, 0, none⟩) 2 2)] (w18.alloc (.cells #[.int .u32 2147483648, .int .u32 3] 54)) (TruePost (w18.alloc (.cells #[.int .u32 2147483648, .int .u32 3] 54)))) := ⟨sameN ((((((((((((((H_q.out.below B6.out).below B7.out).below B8.out).below B9.out).below B10.out).below B11.out).below B12.out).below B13.out).below B14.out).below B15.out).below B16.out).below B17.out).below B18.out).below B19.out) H_l18.out (pw_lt1000 X_q.out (by omega)) (by decide)⟩
  go_wp2_with fail
  refine HC.out.mono ?_
  clear HC
  rintro e w20 ⟨rfl, hB⟩
  have B20 := Aside0.mk hB
  have T20 := Aside0.mk (T19.out.trans (hB.mono T19.out.size))
  clear hB
  have B21 := Aside0.mk (below_alloc (Below.refl w20.heap.size w20) (.cells #[.int .u32 5] 54))
  have T21 := Aside0.mk (T20.out.trans (B21.out.mono T20.out.size))
  have H_l20 := Aside0.mk (litN w20 5 1 [5] #[.int .u32 5] (w20.heap.size) rfl rfl (by decide) (by decide) (by decide) (by simp))
  have X_l20 := Aside0.mk (show 5 < pw 2 by decide)
  have HC : Aside0 (Calls Tryd.prog 28 #[v_r, (.slice (some ⟨w20.heap.size, 0, none⟩) 1 1)] (w20.alloc (.cells #[.int .u32 5] 54)) (TruePost (w20.alloc (.cells #[.int .u32 5] 54)))) := ⟨sameN ((((((((((((((((H_r.out.below B6.out).below B7.out).below B8.out).below B9.out).below B10.out).below B11.out).below B12.out).below B13.out).below B14.out).below B15.out).below B16.out).below B17.out).below B18.out).below B19.out).below B20.out).below B21.out) H_l20.out (pw_lt1000 X_r.out (by omega)) (by decide)⟩
  go_wp2_with fail
  refine HC.out.mono ?_
  clear HC
  rintro e w22 ⟨rfl, hB⟩
  have B22 := Aside0.mk hB
  have T22 := Aside0.mk (T21.out.trans (hB.mono T21.out.size))
  clear hB
  have B23 := Aside0.mk (below_alloc (Below.refl w22.heap.size w22) (.cells #[.int .u32 1431655765, .int .u32 1431655765] 54))
  have T23 := Aside0.mk (T22.out.trans (B23.out.mono T22.out.size))
  have H_l22 := Aside0.mk (litN w22 6148914691236517205 2 [1431655765, 1431655765] #[.int .u32 1431655765, .int .u32 1431655765] (w22.heap.size) rfl rfl (by decide) (by decide) (by decide) (by simp))
  have X_l22 := Aside0.mk (show 6148914691236517205 < pw 3 by decide)
  have HC : Aside0 (Calls Tryd.prog 28 #[v_p, (.slice (some ⟨w22.heap.size, 0, none⟩) 2 2)] (w22.alloc (.cells #[.int .u32 1431655765, .int .u32 1431655765] 54)) (TruePost (w22.alloc (.cells #[.int .u32 1431655765, .int .u32 1431655765] 54)))) := ⟨sameN ((((((((((((((((H_p.out.below B8.out).below B9.out).below B10.out).below B11.out).below B12.out).below B13.out).below B14.out).below B15.out).below B16.out).below B17.out).below B18.out).below B19.out).below B20.out).below B21.out).below B22.out).below B23.out) H_l22.out (pw_lt1000 X_p.out (by omega)) (by decide)⟩
  go_wp2_with fail
  refine HC.out.mono ?_
  clear HC
  rintro e w24 ⟨rfl, hB⟩
  have B24 := Aside0.mk hB
  have T24 := Aside0.mk (T23.out.trans (hB.mono T23.out.size))
  clear hB
  have B25 := Aside0.mk (below_alloc (Below.refl w24.heap.size w24) (.cells #[.int .u32 1] 54))
  have T25 := Aside0.mk (T24.out.trans (B25.out.mono T24.out.size))
  have H_l24 := Aside0.mk (litN w24 1 1 [1] #[.int .u32 1] (w24.heap.size) rfl rfl (by decide) (by decide) (by decide) (by simp))
  have X_l24 := Aside0.mk (show 1 < pw 2 by decide)
  have HC : Aside0 (Calls Tryd.prog 28 #[v_s, (.slice (some ⟨w24.heap.size, 0, none⟩) 1 1)] (w24.alloc (.cells #[.int .u32 1] 54)) (TruePost (w24.alloc (.cells #[.int .u32 1] 54)))) := ⟨sameN ((((((((((((((((((H_s.out.below B8.out).below B9.out).below B10.out).below B11.out).below B12.out).below B13.out).below B14.out).below B15.out).below B16.out).below B17.out).below B18.out).below B19.out).below B20.out).below B21.out).below B22.out).below B23.out).below B24.out).below B25.out) H_l24.out (pw_lt1000 X_s.out (by omega)) (by decide)⟩
  go_wp2_with fail
  refine HC.out.mono ?_
  clear HC
  rintro e w26 ⟨rfl, hB⟩
  have B26 := Aside0.mk hB
  have T26 := Aside0.mk (T25.out.trans (hB.mono T25.out.size))
  clear hB
  have B27 := Aside0.mk (below_alloc (Below.refl w26.heap.size w26) (.cells #[.int .u32 4294967295, .int .u32 4294967295] 54))
  have T27 := Aside0.mk (T26.out.trans (B27.out.mono T26.out.size))
  have H_l26 := Aside0.mk (litN w26 18446744073709551615 2 [4294967295, 4294967295] #[.int .u32 4294967295, .int .u32 4294967295] (w26.heap.size) rfl rfl (by decide) (by decide) (by decide) (by simp))
  have X_l26 := Aside0.mk (show 18446744073709551615 < pw 3 by decide)
  have HC : Aside0 (Calls Tryd.prog 28 #[v_d, (.slice (some ⟨w26.heap.size, 0, none⟩) 2 2)] (w26.alloc (.cells #[.int .u32 4294967295, .int .u32 4294967295] 54)) (TruePost (w26.alloc (.cells #[.int .u32 4294967295, .int .u32 4294967295] 54)))) := ⟨sameN (((((((((((((((((H_d.out.below B11.out).below B12.out).below B13.out).below B14.out).below B15.out).below B16.out).below B17.out).below B18.out).below B19.out).below B20.out).below B21.out).below B22.out).below B23.out).below B24.out).below B25.out).below B26.out).below B27.out) H_l26.out (pw_lt1000 X_d.out (by omega)) (by decide)⟩
  go_wp2_with fail
  refine HC.out.mono ?_
  clear HC
  rintro e w28 ⟨rfl, hB⟩
  have B28 := Aside0.mk hB
  have T28 := Aside0.mk (T27.out.trans (hB.mono T27.out.size))
  clear hB
  have HC : Aside0 (Calls Tryd.prog 28 #[v_x, (.slice (some ⟨w1.heap.size, 0, none⟩) 3 3)] w28 (TruePost w28)) := ⟨sameN (((((((((((((((H_x.out.below B14.out).below B15.out).below B16.out).below B17.out).below B18.out).below B19.out).below B20.out).below B21.out).below B22.out).below B23.out).below B24.out).below B25.out).below B26.out).below B27.out).below B28.out) ((((((((((((((((((((((((((H_big.out.below B3.out).below B4.out).below B5.out).below B6.out).below B7.out).below B8.out).below B9.out).below B10.out).below B11.out).below B12.out).below B13.out).below B14.out).below B15.out).below B16.out).below B17.out).below B18.out).below B19.out).below B20.out).below B21.out).below B22.out).below B23.out).below B24.out).below B25.out).below B26.out).below B27.out).below B28.out) (pw_lt1000 X_x.out (by omega)) (rfl)⟩
  go_wp2_with fail
  refine HC.out.mono ?_
  clear HC
  rintro e w29 ⟨rfl, hB⟩
  have B29 := Aside0.mk hB
  have T29 := Aside0.mk (T28.out.trans (hB.mono T28.out.size))
  clear hB
  have HC : Aside0 (Calls Tryd.prog 25 #[(.slice (some ⟨w1.heap.size, 0, none⟩) 3 3)] w29 (TextPost w29 (Go.Lib.decDigits 18446744073709551616))) := ⟨textN (((((((((((((((((((((((((((H_big.out.below B3.out).below B4.out).below B5.out).below B6.out).below B7.out).below B8.out).below B9.out).below B10.out).below B11.out).below B12.out).below B13.out).below B14.out).below B15.out).below B16.out).below B17.out).below B18.out).below B19.out).below B20.out).below B21.out).below B22.out).below B23.out).below B24.out).below B25.out).below B26.out).below B27.out).below B28.out).below B29.out) (pw_lt1000 X_big.out (by omega)) (((((((((((((((((((((((((((((TAB.out.below B1.out).below B2.out).below B3.out).below B4.out).below B5.out).below B6.out).below B7.out).below B8.out).below B9.out).below B10.out).below B11.out).below B12.out).below B13.out).below B14.out).below B15.out).below B16.out).below B17.out).below B18.out).below B19.out).below B20.out).below B21.out).below B22.out).below B23.out).below B24.out).below B25.out).below B26.out).below B27.out).below B28.out).below B29.out)⟩
  go_wp2_with fail
  refine HC.out.mono ?_
  clear HC
  rintro e w30 ⟨tb, rfl, hS, hB⟩
  have B30 := Aside0.mk hB
  have T30 := Aside0.mk (T29.out.trans (hB.mono T29.out.size))
  have HTB := Aside0.mk hS
  clear hS hB
  obtain rfl : tb = ⟨#[49, 56, 52, 52, 54, 55, 52, 52, 48, 55, 51, 55, 48, 57, 53, 53, 49, 54, 49, 54]⟩ := by rw [bytes_eq HTB.out, dd_big]
  have HC : Aside0 (Calls Tryd.prog 36 #[(.slice (some ⟨w1.heap.size, 0, none⟩) 3 3)] w30 (IntPost w30 65)) := ⟨by have h := bitsN ((((((((((((((((((((((((((((H_big.out.below B3.out).below B4.out).below B5.out).below B6.out).below B7.out).below B8.out).below B9.out).below B10.out).below B11.out).below B12.out).below B13.out).below B14.out).below B15.out).below B16.out).below B17.out).below B18.out).below B19.out).below B20.out).below B21.out).below B22.out).below B23.out).below B24.out).below B25.out).below B26.out).below B27.out).below B28.out).below B29.out).below B30.out) (pw_lt1000 X_big.out (by omega)); rw [show nbits 18446744073709551616 = 65 from by decide] at h; exact h⟩
  go_wp2_with fail
  refine HC.out.mono ?_
  clear HC
  rintro e w31 ⟨rfl, hB⟩
  have B31 := Aside0.mk hB
  have T31 := Aside0.mk (T30.out.trans (hB.mono T30.out.size))
  clear hB
  have H_n2 := Aside0.mk (Nu_nil w31)
  have X_n2 := Aside0.mk (show 0 < pw 1 from pw_pos 1)
  have HC : Aside0 (Calls Tryd.prog 36 #[(.slice none 0 0)] w31 (IntPost w31 0)) := ⟨by have h := bitsN H_n2.out (pw_lt1000 X_n2.out (by omega)); rw [nbits_zero] at h; exact h⟩
  go_wp2_with fail
  refine HC.out.mono ?_
  clear HC
  rintro e w32 ⟨rfl, hB⟩
  have B32 := Aside0.mk hB
  have T32 := Aside0.mk (T31.out.trans (hB.mono T31.out.size))
  clear hB
  have B33 := Aside0.mk (below_alloc (Below.refl w32.heap.size w32) (.cells #[.int .u32 1] 54))
  have T33 := Aside0.mk (T32.out.trans (B33.out.mono T32.out.size))
  have H_b1 := Aside0.mk (litN w32 1 1 [1] #[.int .u32 1] (w32.heap.size) rfl rfl (by decide) (by decide) (by decide) (by simp))
  have X_b1 := Aside0.mk (show 1 < pw 2 by decide)
  have HC : Aside0 (Calls Tryd.prog 36 #[(.slice (some ⟨w32.heap.size, 0, none⟩) 1 1)] (w32.alloc (.cells #[.int .u32 1] 54)) (IntPost (w32.alloc (.cells #[.int .u32 1] 54)) 1)) := ⟨by have h := bitsN H_b1.out (pw_lt1000 X_b1.out (by omega)); rw [show nbits 1 = 1 from by decide] at h; exact h⟩
  go_wp2_with fail
  refine HC.out.mono ?_
  clear HC
  rintro e w34 ⟨rfl, hB⟩
  have B34 := Aside0.mk hB
  have T34 := Aside0.mk (T33.out.trans (hB.mono T33.out.size))
  clear hB
  have B35 := Aside0.mk (below_alloc (Below.refl w34.heap.size w34) (.cells #[.int .u32 1, .int .u32 0] 54))
  have T35 := Aside0.mk (T34.out.trans (B35.out.mono T34.out.size))
  have HC : Aside0 (Calls Tryd.prog 47 #[.slice (some ⟨w34.heap.size, 0, none⟩) 2 2] (w34.alloc (.cells #[.int .u32 1, .int .u32 0] 54)) (fun e w' => e = .returned (.bool false) ∧ (w34.alloc (.cells #[.int .u32 1, .int .u32 0] 54)) = w')) := ⟨right_lit w34 2 [1, 0] #[.int .u32 1, .int .u32 0] (w34.heap.size) false rfl rfl (by decide) (by decide) (by simp)⟩
  go_wp2_with fail
  refine HC.out.mono ?_
  clear HC
  rintro e wx ⟨rfl, hw⟩
  subst hw
  have HC : Aside0 (Calls Tryd.prog 47 #[.slice none 0 0] (w34.alloc (.cells #[.int .u32 1, .int .u32 0] 54)) (fun e w' => e = .returned (.bool true) ∧ (w34.alloc (.cells #[.int .u32 1, .int .u32 0] 54)) = w')) := ⟨right_nil (w34.alloc (.cells #[.int .u32 1, .int .u32 0] 54))⟩
  go_wp2_with fail
  refine HC.out.mono ?_
  clear HC
  rintro e wx ⟨rfl, hw⟩
  subst hw
  have B36 := Aside0.mk (below_alloc (Below.refl (w34.alloc (.cells #[.int .u32 1, .int .u32 0] 54)).heap.size (w34.alloc (.cells #[.int .u32 1, .int .u32 0] 54))) (.cells #[.int .u32 0, .int .u32 1] 54))
  have T36 := Aside0.mk (T35.out.trans (B36.out.mono T35.out.size))
  have HC : Aside0 (Calls Tryd.prog 47 #[.slice (some ⟨w34.heap.size + 1, 0, none⟩) 2 2] ((w34.alloc (.cells #[.int .u32 1, .int .u32 0] 54)).alloc (.cells #[.int .u32 0, .int .u32 1] 54)) (fun e w' => e = .returned (.bool true) ∧ ((w34.alloc (.cells #[.int .u32 1, .int .u32 0] 54)).alloc (.cells #[.int .u32 0, .int .u32 1] 54)) = w')) := ⟨right_lit (w34.alloc (.cells #[.int .u32 1, .int .u32 0] 54)) 2 [0, 1] #[.int .u32 0, .int .u32 1] (w34.heap.size + 1) true rfl rfl (by decide) (by decide) (by simp)⟩
  go_wp2_with fail
  refine HC.out.mono ?_
  clear HC
  rintro e wx ⟨rfl, hw⟩
  subst hw
  have B37 := Aside0.mk (below_alloc (Below.refl ((w34.alloc (.cells #[.int .u32 1, .int .u32 0] 54)).alloc (.cells #[.int .u32 0, .int .u32 1] 54)).heap.size ((w34.alloc (.cells #[.int .u32 1, .int .u32 0] 54)).alloc (.cells #[.int .u32 0, .int .u32 1] 54))) (.cells #[.int .u32 3] 54))
  have T37 := Aside0.mk (T36.out.trans (B37.out.mono T36.out.size))
  have H_c33 := Aside0.mk (litN ((w34.alloc (.cells #[.int .u32 1, .int .u32 0] 54)).alloc (.cells #[.int .u32 0, .int .u32 1] 54)) 3 1 [3] #[.int .u32 3] (w34.heap.size + 2) rfl rfl (by decide) (by decide) (by decide) (by simp))
  have X_c33 := Aside0.mk (show 3 < pw 2 by decide)
  have HC : Aside0 (Calls Tryd.prog 31 #[(.slice (some ⟨w34.heap.size + 2, 0, none⟩) 1 1), .int .i64 31] (((w34.alloc (.cells #[.int .u32 1, .int .u32 0] 54)).alloc (.cells #[.int .u32 0, .int .u32 1] 54)).alloc (.cells #[.int .u32 3] 54)) (NuPost (((w34.alloc (.cells #[.int .u32 1, .int .u32 0] 54)).alloc (.cells #[.int .u32 0, .int .u32 1] 54)).alloc (.cells #[.int .u32 3] 54)) (3 * 2 ^ 31))) := ⟨shlN H_c33.out (pw_lt1000 X_c33.out (by omega)) 31 (by decide)⟩
  go_wp2_with fail
  refine HC.out.mono ?_
  clear HC
  rintro e w38 ⟨v_sl, rfl, hN, hB⟩
  have B38 := Aside0.mk hB
  have T38 := Aside0.mk (T37.out.trans (hB.mono T37.out.size))
  have H_sl := Aside0.mk hN
  have X_sl := Aside0.mk (show 3 * 2 ^ 31 < pw 3 from pw_shlb (b := 1) X_c33.out (by omega))
  clear hN hB
  have B39 := Aside0.mk (below_alloc (Below.refl w38.heap.size w38) (.cells #[.int .u32 2147483648, .int .u32 1] 54))
  have T39 := Aside0.mk (T38.out.trans (B39.out.mono T38.out.size))
  have H_l38 := Aside0.mk (litN w38 6442450944 2 [2147483648, 1] #[.int .u32 2147483648, .int .u32 1] (w38.heap.size) rfl rfl (by decide) (by decide) (by decide) (by simp))
  have X_l38 := Aside0.mk (show 6442450944 < pw 3 by decide)
  have HC : Aside0 (Calls Tryd.prog 28 #[v_sl, (.slice (some ⟨w38.heap.size, 0, none⟩) 2 2)] (w38.alloc (.cells #[.int .u32 2147483648, .int .u32 1] 54)) (TruePost (w38.alloc (.cells #[.int .u32 2147483648, .int .u32 1] 54)))) := ⟨sameN (H_sl.out.below B39.out) H_l38.out (pw_lt1000 X_sl.out (by omega)) (by decide)⟩
  go_wp2_with fail
  refine HC.out.mono ?_
  clear HC
  rintro e w40 ⟨rfl, hB⟩
  have B40 := Aside0.mk hB
  have T40 := Aside0.mk (T39.out.trans (hB.mono T39.out.size))
  clear hB
  have HC : Aside0 (Calls Tryd.prog 32 #[(.slice (some ⟨w1.heap.size, 0, none⟩) 3 3), .int .i64 63] w40 (NuPost w40 (18446744073709551616 / 2 ^ 63))) := ⟨shrN ((((((((((((((((((((((((((((((((((((((H_big.out.below B3.out).below B4.out).below B5.out).below B6.out).below B7.out).below B8.out).below B9.out).below B10.out).below B11.out).below B12.out).below B13.out).below B14.out).below B15.out).below B16.out).below B17.out).below B18.out).below B19.out).below B20.out).below B21.out).below B22.out).below B23.out).below B24.out).below B25.out).below B26.out).below B27.out).below B28.out).below B29.out).below B30.out).below B31.out).below B32.out).below B33.out).below B34.out).below B35.out).below B36.out).below B37.out).below B38.out).below B39.out).below B40.out) (pw_lt1000 X_big.out (by omega)) 63 (by decide)⟩
  go_wp2_with fail
  refine HC.out.mono ?_
  clear HC
  rintro e w41 ⟨v_sr, rfl, hN, hB⟩
  have B41 := Aside0.mk hB
  have T41 := Aside0.mk (T40.out.trans (hB.mono T40.out.size))
  have H_sr := Aside0.mk hN
  have X_sr := Aside0.mk (show 18446744073709551616 / 2 ^ 63 < pw 4 from Nat.lt_of_le_of_lt (Nat.div_le_self _ _) X_big.out)
  clear hN hB
  have B42 := Aside0.mk (below_alloc (Below.refl w41.heap.size w41) (.cells #[.int .u32 2] 54))
  have T42 := Aside0.mk (T41.out.trans (B42.out.mono T41.out.size))
  have H_l41 := Aside0.mk (litN w41 2 1 [2] #[.int .u32 2] (w41.heap.size) rfl rfl (by decide) (by decide) (by decide) (by simp))
  have X_l41 := Aside0.mk (show 2 < pw 2 by decide)
  have HC : Aside0 (Calls Tryd.prog 28 #[v_sr, (.slice (some ⟨w41.heap.size, 0, none⟩) 1 1)] (w41.alloc (.cells #[.int .u32 2] 54)) (TruePost (w41.alloc (.cells #[.int .u32 2] 54)))) := ⟨sameN (H_sr.out.below B42.out) H_l41.out (pw_lt1000 X_sr.out (by omega)) (by decide)⟩
  go_wp2_with fail
  refine HC.out.mono ?_
  clear HC
  rintro e w43 ⟨rfl, hB⟩
  have B43 := Aside0.mk hB
  have T43 := Aside0.mk (T42.out.trans (hB.mono T42.out.size))
  clear hB
  have HC : Aside0 (Calls Tryd.prog 32 #[(.slice (some ⟨w1.heap.size, 0, none⟩) 3 3), .int .i64 65] w43 (NuPost w43 (18446744073709551616 / 2 ^ 65))) := ⟨shrN (((((((((((((((((((((((((((((((((((((((((H_big.out.below B3.out).below B4.out).below B5.out).below B6.out).below B7.out).below B8.out).below B9.out).below B10.out).below B11.out).below B12.out).below B13.out).below B14.out).below B15.out).below B16.out).below B17.out).below B18.out).below B19.out).below B20.out).below B21.out).below B22.out).below B23.out).below B24.out).below B25.out).below B26.out).below B27.out).below B28.out).below B29.out).below B30.out).below B31.out).below B32.out).below B33.out).below B34.out).below B35.out).below B36.out).below B37.out).below B38.out).below B39.out).below B40.out).below B41.out).below B42.out).below B43.out) (pw_lt1000 X_big.out (by omega)) 65 (by decide)⟩
  go_wp2_with fail
  refine HC.out.mono ?_
  clear HC
  rintro e w44 ⟨v_sz, rfl, hN, hB⟩
  have B44 := Aside0.mk hB
  have T44 := Aside0.mk (T43.out.trans (hB.mono T43.out.size))
  have H_sz := Aside0.mk hN
  have X_sz := Aside0.mk (show 18446744073709551616 / 2 ^ 65 < pw 4 from Nat.lt_of_le_of_lt (Nat.div_le_self _ _) X_big.out)
  clear hN hB
  obtain ⟨A_sz, c_sz, e_sz⟩ := nu_zero (show Nu w44 v_sz 0 from H_sz.out)
  subst e_sz
  have B45 := Aside0.mk (below_alloc (Below.refl w44.heap.size w44) (.cells #[.int .u32 12] 54))
  have T45 := Aside0.mk (T44.out.trans (B45.out.mono T44.out.size))
  have H_g12 := Aside0.mk (litN w44 12 1 [12] #[.int .u32 12] (w44.heap.size) rfl rfl (by decide) (by decide) (by decide) (by simp))
  have X_g12 := Aside0.mk (show 12 < pw 2 by decide)
  have B46 := Aside0.mk (below_alloc (Below.refl (w44.alloc (.cells #[.int .u32 12] 54)).heap.size (w44.alloc (.cells #[.int .u32 12] 54))) (.cells #[.int .u32 18] 54))
  have T46 := Aside0.mk (T45.out.trans (B46.out.mono T45.out.size))
  have H_g18 := Aside0.mk (litN (w44.alloc (.cells #[.int .u32 12] 54)) 18 1 [18] #[.int .u32 18] (w44.heap.size + 1) rfl rfl (by decide) (by decide) (by decide) (by simp))
  have X_g18 := Aside0.mk (show 18 < pw 2 by decide)
  have HC : Aside0 (Calls Tryd.prog 53 #[(.slice (some ⟨w44.heap.size, 0, none⟩) 1 1), (.slice (some ⟨w44.heap.size + 1, 0, none⟩) 1 1)] ((w44.alloc (.cells #[.int .u32 12] 54)).alloc (.cells #[.int .u32 18] 54)) (NuPost ((w44.alloc (.cells #[.int .u32 12] 54)).alloc (.cells #[.int .u32 18] 54)) (Nat.gcd 12 18))) := ⟨gcdN (H_g12.out.below B46.out) H_g18.out (pw_lt1000 X_g12.out (by omega)) (pw_lt1000 X_g18.out (by omega))⟩
  go_wp2_with fail
  refine HC.out.mono ?_
  clear HC
  rintro e w47 ⟨v_g6, rfl, hN, hB⟩
  have B47 := Aside0.mk hB
  have T47 := Aside0.mk (T46.out.trans (hB.mono T46.out.size))
  have H_g6 := Aside0.mk hN
  have X_g6 := Aside0.mk (show Nat.gcd 12 18 < pw 2 from gcd_ltb X_g12.out X_g18.out (by omega) (by omega))
  clear hN hB
  have B48 := Aside0.mk (below_alloc (Below.refl w47.heap.size w47) (.cells #[.int .u32 6] 54))
  have T48 := Aside0.mk (T47.out.trans (B48.out.mono T47.out.size))
  have H_l47 := Aside0.mk (litN w47 6 1 [6] #[.int .u32 6] (w47.heap.size) rfl rfl (by decide) (by decide) (by decide) (by simp))
  have X_l47 := Aside0.mk (show 6 < pw 2 by decide)
  have HC : Aside0 (Calls Tryd.prog 28 #[v_g6, (.slice (some ⟨w47.heap.size, 0, none⟩) 1 1)] (w47.alloc (.cells #[.int .u32 6] 54)) (TruePost (w47.alloc (.cells #[.int .u32 6] 54)))) := ⟨sameN (H_g6.out.below B48.out) H_l47.out (pw_lt1000 X_g6.out (by omega)) (by decide)⟩
  go_wp2_with fail
  refine HC.out.mono ?_
  clear HC
  rintro e w49 ⟨rfl, hB⟩
  have B49 := Aside0.mk hB
  have T49 := Aside0.mk (T48.out.trans (hB.mono T48.out.size))
  clear hB
  have B50 := Aside0.mk (below_alloc (Below.refl w49.heap.size w49) (.cells #[.int .u32 9] 54))
  have T50 := Aside0.mk (T49.out.trans (B50.out.mono T49.out.size))
  have H_g9 := Aside0.mk (litN w49 9 1 [9] #[.int .u32 9] (w49.heap.size) rfl rfl (by decide) (by decide) (by decide) (by simp))
  have X_g9 := Aside0.mk (show 9 < pw 2 by decide)
  have H_n3 := Aside0.mk (Nu_nil (w49.alloc (.cells #[.int .u32 9] 54)))
  have X_n3 := Aside0.mk (show 0 < pw 1 from pw_pos 1)
  have HC : Aside0 (Calls Tryd.prog 53 #[(.slice none 0 0), (.slice (some ⟨w49.heap.size, 0, none⟩) 1 1)] (w49.alloc (.cells #[.int .u32 9] 54)) (NuPost (w49.alloc (.cells #[.int .u32 9] 54)) (Nat.gcd 0 9))) := ⟨gcdN H_n3.out H_g9.out (pw_lt1000 X_n3.out (by omega)) (pw_lt1000 X_g9.out (by omega))⟩
  go_wp2_with fail
  refine HC.out.mono ?_
  clear HC
  rintro e w51 ⟨v_gn, rfl, hN, hB⟩
  have B51 := Aside0.mk hB
  have T51 := Aside0.mk (T50.out.trans (hB.mono T50.out.size))
  have H_gn := Aside0.mk hN
  have X_gn := Aside0.mk (show Nat.gcd 0 9 < pw 2 from gcd_ltb X_n3.out X_g9.out (by omega) (by omega))
  clear hN hB
  have B52 := Aside0.mk (below_alloc (Below.refl w51.heap.size w51) (.cells #[.int .u32 9] 54))
  have T52 := Aside0.mk (T51.out.trans (B52.out.mono T51.out.size))
  have H_l51 := Aside0.mk (litN w51 9 1 [9] #[.int .u32 9] (w51.heap.size) rfl rfl (by decide) (by decide) (by decide) (by simp))
  have X_l51 := Aside0.mk (show 9 < pw 2 by decide)
  have HC : Aside0 (Calls Tryd.prog 28 #[v_gn, (.slice (some ⟨w51.heap.size, 0, none⟩) 1 1)] (w51.alloc (.cells #[.int .u32 9] 54)) (TruePost (w51.alloc (.cells #[.int .u32 9] 54)))) := ⟨sameN (H_gn.out.below B52.out) H_l51.out (pw_lt1000 X_gn.out (by omega)) (by decide)⟩
  go_wp2_with fail
  refine HC.out.mono ?_
  clear HC
  rintro e w53 ⟨rfl, hB⟩
  have B53 := Aside0.mk hB
  have T53 := Aside0.mk (T52.out.trans (hB.mono T52.out.size))
  clear hB
  have H_n4 := Aside0.mk (Nu_nil w53)
  have X_n4 := Aside0.mk (show 0 < pw 1 from pw_pos 1)
  have HC : Aside0 (Calls Tryd.prog 53 #[(.slice none 0 0), (.slice none 0 0)] w53 (NuPost w53 (Nat.gcd 0 0))) := ⟨gcdN H_n4.out H_n4.out (pw_lt1000 X_n4.out (by omega)) (pw_lt1000 X_n4.out (by omega))⟩
  go_wp2_with fail
  refine HC.out.mono ?_
  clear HC
  rintro e w54 ⟨v_gz, rfl, hN, hB⟩
  have B54 := Aside0.mk hB
  have T54 := Aside0.mk (T53.out.trans (hB.mono T53.out.size))
  have H_gz := Aside0.mk hN
  have X_gz := Aside0.mk (show Nat.gcd 0 0 < pw 1 from gcd_ltb X_n4.out X_n4.out (by omega) (by omega))
  clear hN hB
  obtain ⟨A_gz, c_gz, e_gz⟩ := nu_zero (show Nu w54 v_gz 0 from H_gz.out)
  subst e_gz
  have B55 := Aside0.mk (below_alloc (Below.refl w54.heap.size w54) (.cells #[.int .u32 4294967295] 54))
  have T55 := Aside0.mk (T54.out.trans (B55.out.mono T54.out.size))
  have H_m1 := Aside0.mk (litN w54 4294967295 1 [4294967295] #[.int .u32 4294967295] (w54.heap.size) rfl rfl (by decide) (by decide) (by decide) (by simp))
  have X_m1 := Aside0.mk (show 4294967295 < pw 2 by decide)
  have B56 := Aside0.mk (below_alloc (Below.refl (w54.alloc (.cells #[.int .u32 4294967295] 54)).heap.size (w54.alloc (.cells #[.int .u32 4294967295] 54))) (.cells #[.int .u32 4294967295] 54))
  have T56 := Aside0.mk (T55.out.trans (B56.out.mono T55.out.size))
  have H_m2 := Aside0.mk (litN (w54.alloc (.cells #[.int .u32 4294967295] 54)) 4294967295 1 [4294967295] #[.int .u32 4294967295] (w54.heap.size + 1) rfl rfl (by decide) (by decide) (by decide) (by simp))
  have X_m2 := Aside0.mk (show 4294967295 < pw 2 by decide)
  have HC : Aside0 (Calls Tryd.prog 39 #[(.slice (some ⟨w54.heap.size, 0, none⟩) 1 1), (.slice (some ⟨w54.heap.size + 1, 0, none⟩) 1 1)] ((w54.alloc (.cells #[.int .u32 4294967295] 54)).alloc (.cells #[.int .u32 4294967295] 54)) (NuPost ((w54.alloc (.cells #[.int .u32 4294967295] 54)).alloc (.cells #[.int .u32 4294967295] 54)) (4294967295 * 4294967295))) := ⟨mulN (H_m1.out.below B56.out) H_m2.out (pw_lt1000 X_m1.out (by omega)) (pw_lt1000 X_m2.out (by omega))⟩
  go_wp2_with fail
  refine HC.out.mono ?_
  clear HC
  rintro e w57 ⟨v_mm, rfl, hN, hB⟩
  have B57 := Aside0.mk hB
  have T57 := Aside0.mk (T56.out.trans (hB.mono T56.out.size))
  have H_mm := Aside0.mk hN
  have X_mm := Aside0.mk (show 4294967295 * 4294967295 < pw 4 from pw_mulb X_m1.out X_m2.out)
  clear hN hB
  have B58 := Aside0.mk (below_alloc (Below.refl w57.heap.size w57) (.cells #[.int .u32 1, .int .u32 4294967294] 54))
  have T58 := Aside0.mk (T57.out.trans (B58.out.mono T57.out.size))
  have H_l57 := Aside0.mk (litN w57 18446744065119617025 2 [1, 4294967294] #[.int .u32 1, .int .u32 4294967294] (w57.heap.size) rfl rfl (by decide) (by decide) (by decide) (by simp))
  have X_l57 := Aside0.mk (show 18446744065119617025 < pw 3 by decide)
  have HC : Aside0 (Calls Tryd.prog 28 #[v_mm, (.slice (some ⟨w57.heap.size, 0, none⟩) 2 2)] (w57.alloc (.cells #[.int .u32 1, .int .u32 4294967294] 54)) (TruePost (w57.alloc (.cells #[.int .u32 1, .int .u32 4294967294] 54)))) := ⟨sameN (H_mm.out.below B58.out) H_l57.out (pw_lt1000 X_mm.out (by omega)) (by decide)⟩
  go_wp2_with fail
  refine HC.out.mono ?_
  clear HC
  rintro e w59 ⟨rfl, hB⟩
  have B59 := Aside0.mk hB
  have T59 := Aside0.mk (T58.out.trans (hB.mono T58.out.size))
  clear hB
  have B60 := Aside0.mk (below_alloc (Below.refl w59.heap.size w59) (.cells #[.int .u32 4294967295] 54))
  have T60 := Aside0.mk (T59.out.trans (B60.out.mono T59.out.size))
  have H_d1 := Aside0.mk (litN w59 4294967295 1 [4294967295] #[.int .u32 4294967295] (w59.heap.size) rfl rfl (by decide) (by decide) (by decide) (by simp))
  have X_d1 := Aside0.mk (show 4294967295 < pw 2 by decide)
  have B61 := Aside0.mk (below_alloc (Below.refl (w59.alloc (.cells #[.int .u32 4294967295] 54)).heap.size (w59.alloc (.cells #[.int .u32 4294967295] 54))) (.cells #[.int .u32 1] 54))
  have T61 := Aside0.mk (T60.out.trans (B61.out.mono T60.out.size))
  have H_d2 := Aside0.mk (litN (w59.alloc (.cells #[.int .u32 4294967295] 54)) 1 1 [1] #[.int .u32 1] (w59.heap.size + 1) rfl rfl (by decide) (by decide) (by decide) (by simp))
  have X_d2 := Aside0.mk (show 1 < pw 2 by decide)
  have HC : Aside0 (Calls Tryd.prog 37 #[(.slice (some ⟨w59.heap.size, 0, none⟩) 1 1), (.slice (some ⟨w59.heap.size + 1, 0, none⟩) 1 1)] ((w59.alloc (.cells #[.int .u32 4294967295] 54)).alloc (.cells #[.int .u32 1] 54)) (NuPost ((w59.alloc (.cells #[.int .u32 4294967295] 54)).alloc (.cells #[.int .u32 1] 54)) (4294967295 + 1))) := ⟨addN (H_d1.out.below B61.out) H_d2.out (pw_lt1000 X_d1.out (by omega)) (pw_lt1000 X_d2.out (by omega))⟩
  go_wp2_with fail
  refine HC.out.mono ?_
  clear HC
  rintro e w62 ⟨v_da, rfl, hN, hB⟩
  have B62 := Aside0.mk hB
  have T62 := Aside0.mk (T61.out.trans (hB.mono T61.out.size))
  have H_da := Aside0.mk hN
  have X_da := Aside0.mk (show 4294967295 + 1 < pw 3 from pw_addb X_d1.out X_d2.out (by omega) (by omega))
  clear hN hB
  have B63 := Aside0.mk (below_alloc (Below.refl w62.heap.size w62) (.cells #[.int .u32 0, .int .u32 1] 54))
  have T63 := Aside0.mk (T62.out.trans (B63.out.mono T62.out.size))
  have H_l62 := Aside0.mk (litN w62 4294967296 2 [0, 1] #[.int .u32 0, .int .u32 1] (w62.heap.size) rfl rfl (by decide) (by decide) (by decide) (by simp))
  have X_l62 := Aside0.mk (show 4294967296 < pw 3 by decide)
  have HC : Aside0 (Calls Tryd.prog 28 #[v_da, (.slice (some ⟨w62.heap.size, 0, none⟩) 2 2)] (w62.alloc (.cells #[.int .u32 0, .int .u32 1] 54)) (TruePost (w62.alloc (.cells #[.int .u32 0, .int .u32 1] 54)))) := ⟨sameN (H_da.out.below B63.out) H_l62.out (pw_lt1000 X_da.out (by omega)) (by decide)⟩
  go_wp2_with fail
  refine HC.out.mono ?_
  clear HC
  rintro e w64 ⟨rfl, hB⟩
  have B64 := Aside0.mk hB
  have T64 := Aside0.mk (T63.out.trans (hB.mono T63.out.size))
  clear hB
  have B65 := Aside0.mk (below_alloc (Below.refl w64.heap.size w64) (.cells #[.bool true, .bool true, .bool true, .bool true, .bool true, .bool true, .bool true, .bool true, .bool true, .bool true, .bool true, .bool true] 4))
  have T65 := Aside0.mk (T64.out.trans (B65.out.mono T64.out.size))
  have hcell := rows_cell w64 (w64.heap.size) k (by simp) hk
  have HCELL := Aside0.mk hcell
  clear hcell
  have HC : Aside0 (Calls Tryd.prog 29 #[.int .i64 a0, .int .i64 12] (w64.alloc (.cells #[.bool true, .bool true, .bool true, .bool true, .bool true, .bool true, .bool true, .bool true, .bool true, .bool true, .bool true, .bool true] 4)) (fun e w' => e = .returned (.int .i64 (k : Int)) ∧ (w64.alloc (.cells #[.bool true, .bool true, .bool true, .bool true, .bool true, .bool true, .bool true, .bool true, .bool true, .bool true, .bool true, .bool true] 4)) = w')) := ⟨by have h := within_w a0 12 (w64.alloc (.cells #[.bool true, .bool true, .bool true, .bool true, .bool true, .bool true, .bool true, .bool true, .bool true, .bool true, .bool true, .bool true] 4)) (by decide) (by decide); rw [← KE.out] at h; exact h⟩
  go_wp2_with fail
  refine HC.out.mono ?_
  clear HC
  rintro e wx ⟨rfl, hw⟩
  subst hw
  have hcell := HCELL.out
  go_wp2_with fail
  go_ret
  exact ⟨rfl, T65.out⟩
end Go.Proofs.YtklhpobphloehaaDoor.natKnown
