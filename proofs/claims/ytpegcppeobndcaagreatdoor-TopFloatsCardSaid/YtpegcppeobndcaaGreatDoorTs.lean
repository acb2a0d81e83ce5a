/- The reference's sfloat.Rat: its error; and the law's End, by hand. -/
import Derived.Test.YtpegcppeobndcaaGreatDoorAb
import Derived.Test.YtpegcppeobndcaaGreatDoorTr
import Derived.Test.YtpegcppeobndcaaGreatDoorS6
set_option linter.unusedVariables false
namespace Go.Proofs.YtpegcppeobndcaaGreatDoor.Fl
open Go.RowKit YtpegcppeobndcaaGreatDoorW.PrintWords YtpegcppeobndcaaGreatDoorW.PrintLast YtpegcppeobndcaaGreatDoorW.PrintMore Go.Proofs.YtpegcppeobndcaaGreatDoor.Nn Go.Proofs.YtpegcppeobndcaaGreatDoor.G Go.Proofs.YtpegcppeobndcaaGreatDoor.Giv Go.Proofs.YtpegcppeobndcaaGreatDoor.PFl
theorem rnone_f {a : Nat} (h : a < 18446744073709551616) : anticlineref3_none.f (a : Int) = some (decide (9218868437227405312 < a % 9223372036854775808)) := by
 unfold anticlineref3_none.f
 rw [mag_bits h]
 congr 1
 rw [decide_eq_decide]
 omega
theorem rendless_f {a : Nat} (h : a < 18446744073709551616) : anticlineref3_endless.f (a : Int) = some (decide (a % 9223372036854775808 = 9218868437227405312)) := by
 unfold anticlineref3_endless.f
 rw [mag_bits h]
 congr 1
 by_cases c : a % 9223372036854775808 = 9218868437227405312
 ·rw [decide_eq_true c, c]; rfl
 ·rw [decide_eq_false c, beq_eq_false_iff_ne]; omega
theorem rminus_f {a : Nat} (h : a < 18446744073709551616) : anticlineref3_minus.f (a : Int) = some (decide (9223372036854775808 ≤ a)) := by
 unfold anticlineref3_minus.f
 rw [sign_bit h]
theorem rparts_f {f : Nat} (h : ffin f) : anticlineref3_parts.f (f : Int) = some ((fman f : Int), fexp f) := by
 have h1 := h.1
 have h2 := h.2
 unfold anticlineref3_parts.f
 rw [mag_bits h1, frac_bits h1, unit_bits (Nat.mod_lt _ Z5)]
 have e : ((f % 9223372036854775808 : Nat) : Int) / 4503599627370496 = ((f / 4503599627370496 % 2048 : Nat) : Int) := by omega
 rw [e, Go.IntWalk.wrap64_in ((f / 4503599627370496 % 2048 : Nat) : Int) (by omega), Go.IntWalk.wrap64_in (((f / 4503599627370496 % 2048 : Nat) : Int) - 1023) (by omega), Go.IntWalk.wrap64_in _ (by omega)]
 unfold fman fexp
 by_cases c : 0 < f / 4503599627370496 % 2048
 ·rw [if_neg (by omega), if_pos c, if_pos c]
  congr 2
  omega
 ·rw [if_pos (by omega), if_neg c, if_neg c]
def ErrPost (w : World) (k : Int) (e : Ending) (w' : World) : Prop := ∃ (g : Bool) (A : Option Addr) (L c : Nat) (B : Option Addr) (M d : Nat), e = .returned (.tuple #[.agg #[.bool g, .slice A L c, .slice B M d], .int .i64 k]) ∧ Below w.heap.size w w'
set_option maxHeartbeats 4000000 in
set_option maxRecDepth 100000 in
theorem rRat_bad {w : World} {f : Nat} (h1 : f < 18446744073709551616) (hb : 9218868437227405312 ≤ f % 9223372036854775808) : Calls Tryz.prog 19 #[.int .u64 (f : Int)] w (ErrPost w 10) := by
 have HK := Aside0.mk (Blk_alloc w (.bool false) (.slice none 0 0) (.slice none 0 0) 27)
 have HW := Aside0.mk (below_alloc (Below.refl w.heap.size w) (.cells #[.bool false, .slice none 0 0, .slice none 0 0] 27))
 have HN := Aside0.mk (fun (W : World) => anticlineref3_none.calls (f : Int) _ W (rnone_f h1))
 have HE := Aside0.mk (fun (W : World) => anticlineref3_endless.calls (f : Int) _ W (rendless_f h1))
 by_cases c : 9218868437227405312 < f % 9223372036854775808
 ·rw [decide_eq_true c] at HN
  go_enter Tryz.func19, Tryz.ntmps19
  go_wp2_with fail
  refine (HN.out _).mono ?_
  rintro e1 w1 ⟨rfl, hd⟩
  have HW1 := Aside0.mk (HW.out.trans (drawn_below (B := w.heap.size) hd))
  obtain ⟨⟨hc0, hc1, hc2⟩, hf0, hf1, hf2⟩ := HK.out.below (drawn_below hd)
  clear hd
  go_wp2_with fail
  exact bodyPost_ret (v := .tuple #[.agg #[.bool false, .slice none 0 0, .slice none 0 0], .int .i64 10]) (by simp [results, Tryz.results19, go_sem, *]) rfl ⟨_, _, _, _, _, _, _, rfl, below_set3 HW1.out (Nat.le_refl _) _ _ _⟩
 ·have c2 : f % 9223372036854775808 = 9218868437227405312 := by omega
  rw [decide_eq_false c] at HN
  rw [decide_eq_true c2] at HE
  go_enter Tryz.func19, Tryz.ntmps19
  go_wp2_with fail
  refine (HN.out _).mono ?_
  rintro e1 w1 ⟨rfl, hd⟩
  have HW1 := Aside0.mk (HW.out.trans (drawn_below (B := w.heap.size) hd))
  have HK1 := Aside0.mk (HK.out.below (drawn_below hd))
  clear hd
  go_wp2_with fail
  refine (HE.out _).mono ?_
  rintro e2 w2 ⟨rfl, hd⟩
  have HW2 := Aside0.mk (HW1.out.trans (drawn_below (B := w.heap.size) hd))
  obtain ⟨⟨hc0, hc1, hc2⟩, hf0, hf1, hf2⟩ := HK1.out.below (drawn_below hd)
  clear hd
  go_wp2_with fail
  exact bodyPost_ret (v := .tuple #[.agg #[.bool false, .slice none 0 0, .slice none 0 0], .int .i64 10]) (by simp [results, Tryz.results19, go_sem, *]) rfl ⟨_, _, _, _, _, _, _, rfl, below_set3 HW2.out (Nat.le_refl _) _ _ _⟩
set_option maxHeartbeats 4000000 in
set_option maxRecDepth 100000 in
theorem rRat_fin {w : World} {f : Nat} (hf : ffin f) : Calls Tryz.prog 19 #[.int .u64 (f : Int)] w (ErrPost w 0) := by
 have h1 := hf.1
 have h2 := hf.2
 have h5 := fexp_in hf
 have HK := Aside0.mk (Blk_alloc w (.bool false) (.slice none 0 0) (.slice none 0 0) 27)
 have HW := Aside0.mk (below_alloc (Below.refl w.heap.size w) (.cells #[.bool false, .slice none 0 0, .slice none 0 0] 27))
 have HN := Aside0.mk (fun (W : World) => anticlineref3_none.calls (f : Int) _ W (rnone_f h1))
 have HE := Aside0.mk (fun (W : World) => anticlineref3_endless.calls (f : Int) _ W (rendless_f h1))
 have HM := Aside0.mk (fun (W : World) => anticlineref3_minus.calls (f : Int) _ W (rminus_f h1))
 have HP := Aside0.mk (fun (W : World) => anticlineref3_parts.calls (f : Int) _ _ W (rparts_f hf))
 rw [decide_eq_false (by omega)] at HN
 rw [decide_eq_false (by omega)] at HE
 have hb1 : fman f * 2 ^ (fexp f).toNat < pw 500 := Nat.lt_trans (shifted_lt (by omega)) (pw_lt Z5)
 have hb2 : 1 * 2 ^ (-fexp f).toNat < pw 500 := by rw [Nat.one_mul]; exact pw_of_two (k := (-fexp f).toNat + 1) (Nat.pow_lt_pow_right Z5 (Nat.lt_succ_self _)) (by omega)
 have hd0 : 1 * 2 ^ (-fexp f).toNat ≠ 0 := by rw [Nat.one_mul]; exact Nat.ne_of_gt (Nat.two_pow_pos _)
 have hm := fman_lt f
 generalize fexp f = ex at *
 generalize fman f = mm at *
 generalize hbb : decide (9223372036854775808 ≤ f) = b at *
 have hm9 : mm < pw 1000 := pw_of_two (show mm < 2 ^ 53 from hm) Z5
 go_enter Tryz.func19, Tryz.ntmps19
 go_wp2_with fail
 refine (HN.out _).mono ?_
 rintro e1 w1 ⟨rfl, hd⟩
 have HW1 := Aside0.mk (HW.out.trans (drawn_below (B := w.heap.size) hd))
 have HK1 := Aside0.mk (HK.out.below (drawn_below hd))
 clear hd
 go_wp2_with fail
 refine (HE.out _).mono ?_
 rintro e2 w2 ⟨rfl, hd⟩
 have HW2 := Aside0.mk (HW1.out.trans (drawn_below (B := w.heap.size) hd))
 have HK2 := Aside0.mk (HK1.out.below (drawn_below hd))
 clear hd
 go_wp2_with fail
 refine (HP.out _).mono ?_
 rintro e3 w3 ⟨rfl, hd⟩
 have HW3 := Aside0.mk (HW2.out.trans (drawn_below (B := w.heap.size) hd))
 have HK3 := Aside0.mk (HK2.out.below (drawn_below hd))
 clear hd
 go_wp2_with fail
 refine (rofN mm (by omega)).mono ?_
 rintro e4 w4 ⟨v4, rfl, hN4, hB⟩
 have HW4 := tT HW3 hB
 have HK4 := Aside0.mk (HK3.out.below hB)
 have HL := Aside0.mk (litU w4 1 Z5 Z5)
 have HA := Aside0.mk (below_alloc (Below.refl w4.heap.size w4) (.cells #[.int .u32 1] 94))
 have HN4 := Aside0.mk (hN4.below HA.out)
 have HW5 := tT HW4 HA.out
 have HK5 := Aside0.mk (HK4.out.below HA.out)
 clear hB hN4
 go_wp2_with fail
 refine (shift_w ex HN4.out HL.out hm9 (pw_of_two (k := 1) Z5 Z5) (by omega) (by omega)).mono ?_
 rintro e6 w6 ⟨v1, v2, rfl, hN1, hN2, hB⟩
 have HW6 := tT HW5 hB
 have HK6 := Aside0.mk (HK5.out.below hB)
 have HV1 := Aside0.mk hN1
 have HV2 := Aside0.mk hN2
 clear hB hN1 hN2
 go_wp2_with fail
 refine (HM.out _).mono ?_
 rintro e7 w7 ⟨rfl, hd⟩
 have HW7 := Aside0.mk (HW6.out.trans (drawn_below (B := w.heap.size) hd))
 have HK7 := Aside0.mk (HK6.out.below (drawn_below hd))
 have HV3 := Aside0.mk (HV1.out.below (drawn_below hd))
 have HV4 := Aside0.mk (HV2.out.below (drawn_below hd))
 clear hd
 go_wp2_with fail
 refine (smake_w b HV3.out HV4.out hb1 hb2 hd0).mono ?_
 intro e8 w8 hp
 obtain ⟨v, rfl, ⟨A2, L2, c2, A3, L3, c3, rfl, _, _⟩, hB⟩ := hp
 have HW8 := tT HW7 hB
 obtain ⟨⟨hc0, hc1, hc2⟩, hf0, hf1, hf2⟩ := HK7.out.below hB
 clear hB
 go_wp2_with fail
 exact bodyPost_ret (v := .tuple #[.agg #[.bool (!decide (mm * 2 ^ ex.toNat = 0) && b), .slice A2 L2 c2, .slice A3 L3 c3], .int .i64 0]) (by simp [results, Tryz.results19, go_sem, hc0, hc1, hc2, hf0, hf1, hf2]) rfl ⟨_, _, _, _, _, _, _, rfl, below_set3 HW8.out (Nat.le_refl _) _ _ _⟩
end Go.Proofs.YtpegcppeobndcaaGreatDoor.Fl
