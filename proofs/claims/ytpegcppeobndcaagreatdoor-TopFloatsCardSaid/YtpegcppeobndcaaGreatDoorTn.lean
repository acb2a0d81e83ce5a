/- sfloat.Of, by hand: the number that a float is comes back as the float. -/
import Derived.Test.YtpegcppeobndcaaGreatDoorAb
import Derived.Test.YtpegcppeobndcaaGreatDoorTm
set_option linter.unusedVariables false
namespace Go.Proofs.YtpegcppeobndcaaGreatDoor.Fl
open Go.RowKit YtpegcppeobndcaaGreatDoorW.PrintWords YtpegcppeobndcaaGreatDoorW.PrintLast YtpegcppeobndcaaGreatDoorW.PrintMore Go.Proofs.YtpegcppeobndcaaGreatDoor.Nn Go.Proofs.YtpegcppeobndcaaGreatDoor.G Go.Proofs.YtpegcppeobndcaaGreatDoor.Giv Go.Proofs.YtpegcppeobndcaaGreatDoor.PFl
theorem q_pos {n d : Nat} (hn : n ≠ 0) (hd : d ≠ 0) : n * 2 ^ fk n d / d ≠ 0 := by
 have h1 := le_nbits hn
 have h2 := lt_nbits d
 have h3 : 1 ≤ nbits n := by rw [nbits_pos hn]; omega
 have h4 : 2 ^ nbits d ≤ n * 2 ^ fk n d := by
  refine Nat.le_trans (Nat.pow_le_pow_right Z5 (show nbits d ≤ (nbits n - 1) + fk n d by unfold fk; omega)) ?_
  rw [Nat.pow_add]
  exact Nat.mul_le_mul_right _ h1
 have h5 : 0 < n * 2 ^ fk n d / d := Nat.div_pos (by omega) (Nat.pos_of_ne_zero hd)
 omega
set_option maxHeartbeats 4000000 in
set_option maxRecDepth 100000 in
theorem Of_w {w : World} {A B : Option Addr} {L c M c' n d f : Nat} (mode : Int) (hn : Nu w (.slice A L c) n) (hd : Nu w (.slice B M c') d) (bn : n < pw 70) (bd : d < pw 70) (h0 : 0 ≤ mode) (h5 : mode < 5) (hf : ffin f) (hm : fman f ≠ 0)
  (hx : n * 2 ^ (-fexp f).toNat = fman f * 2 ^ (fexp f).toNat * d) (hc : Nat.Coprime n d) (hd0 : d ≠ 0) :
  Calls Tryz.prog 9 #[.agg #[.bool (decide (9223372036854775808 ≤ f)), .slice A L c, .slice B M c'], .int .i64 mode] w (IntsPost w (f : Int) 0) := by
 obtain ⟨A', cc, e1, hcc, hC⟩ := hn
 cases e1
 obtain ⟨B', cd, e2, hcd, hD⟩ := hd
 cases e2
 have hn0 : n ≠ 0 := by
  rintro rfl
  rw [Nat.zero_mul] at hx
  have : fman f * 2 ^ (fexp f).toNat * d ≠ 0 := Nat.mul_ne_zero (Nat.mul_ne_zero hm (Nat.ne_of_gt (Nat.two_pow_pos _))) hd0
  omega
 obtain ⟨k1, k2, k3, k4⟩ := fback hf hm hx hc hd0 mode
 have nb1 : nbits n ≤ 32 * 70 := nbits_pw bn
 have nb2 : nbits d ≤ 32 * 70 := nbits_pw bd
 have hkb : fk n d < 3000 := by unfold fk; omega
 have hq0 := q_pos hn0 hd0
 have hqb : n * 2 ^ fk n d / d < pw 300 := by
  refine Nat.lt_of_le_of_lt (Nat.div_le_self _ _) ?_
  have h1 := bn
  rw [pw_two] at h1
  generalize hmm : 32 * 70 = m at h1
  refine pw_of_two (k := m + fk n d) ?_ (by omega)
  rw [Nat.pow_add]
  exact Nat.mul_lt_mul_of_pos_right h1 (Nat.two_pow_pos _)
 generalize hq : n * 2 ^ fk n d / d = q at *
 have hspan : fat q (-(fk n d : Int)) - -(fk n d : Int) < 10000 := by
  have := nbits_pw hqb
  unfold fat
  omega
 have hmore : decide (n * 2 ^ fk n d % d ≠ 0) = false := by rw [k1]; rfl
 have hfl : fflags (decide (9223372036854775808 ≤ f)) q (-(fk n d : Int)) false mode = 0 := by unfold fflags; rw [k4, k3]; rfl
 have HO := Aside0.mk (fun (W : World) (hW : Below w.heap.size w W) => show Calls Tryz.prog 32 #[.bool (decide (9223372036854775808 ≤ f)), .slice A (digs n).length c, .slice B (digs d).length c', .int .i64 0] W (OverPost W (decide (9223372036854775808 ≤ f)) q (-(fk n d : Int)) false) from by
  have h := over_w (decide (9223372036854775808 ≤ f)) 0 (Nu.below ⟨A, c, rfl, hcc, hC⟩ hW) (Nu.below ⟨B, c', rfl, hcd, hD⟩ hW) bn bd hd0 (by omega)
  rw [hq, hmore, Int.zero_sub] at h
  exact h)
 have HR := Aside0.mk (fun (W : World) (A : Option Addr) (L c : Nat) (hN : Nu W (.slice A L c) q) => show Calls Tryz.prog 33 #[.agg #[.bool (decide (9223372036854775808 ≤ f)), .slice A L c, .int .i64 (-(fk n d : Int)), .bool false], .int .i64 mode] W (IntsPost W (f : Int) 0) from by
  have h := round_nu (decide (9223372036854775808 ≤ f)) false (-(fk n d : Int)) mode hN h0 h5 hqb hq0 (by omega) (by omega) hspan rfl
  rw [k2, hfl] at h
  exact h)
 have l1 : (((digs n).length : Int) == 0) = false := by rw [beq_eq_false_iff_ne]; have := digs_len.2 hn0; omega
 have l2 : (((digs d).length : Int) == 0) = false := by rw [beq_eq_false_iff_ne]; have := digs_len.2 hd0; omega
 generalize hg : decide (9223372036854775808 ≤ f) = g at HO HR ⊢
 have HK := Aside0.mk (Blk_alloc w (.bool g) (.slice A (digs n).length c) (.slice B (digs d).length c') 27)
 have HW := Aside0.mk (below_alloc (Below.refl w.heap.size w) (.cells #[.bool g, .slice A (digs n).length c, .slice B (digs d).length c'] 27))
 clear hC hD hx hc k1 k2 k3 k4 hq hfl hmore hspan hqb hq0
 obtain ⟨⟨hc0, hc1, hc2⟩, hf0, hf1, hf2⟩ := HK.out
 go_enter Tryz.func9, Tryz.ntmps9
 go_wp2_with fail
 refine (HO.out _ HW.out).mono ?_
 rintro e1 w1 ⟨Aq, Lq, cq, rfl, hN, hB1⟩
 have HW1 := tT HW hB1
 have HQ := Aside0.mk hN
 clear hB1 hN
 go_wp2_with fail
 refine (HR.out _ _ _ _ HQ.out).mono ?_
 rintro e2 w2 ⟨rfl, hB2⟩
 have HW2 := tT HW1 hB2
 clear hB2
 go_wp2_with fail
 exact bodyPost_ret (v := .tuple #[.int .u64 (f : Int), .int .i64 0]) (by simp [results, Tryz.results9, go_sem]) rfl ⟨rfl, HW2.out⟩
end Go.Proofs.YtpegcppeobndcaaGreatDoor.Fl
