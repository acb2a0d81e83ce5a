/- sfloat.over, by hand. -/
import Derived.Test.YtpegcppeobndcaaGreatDoorAb
import Derived.Test.YtpegcppeobndcaaGreatDoorTl
set_option linter.unusedVariables false
namespace Go.Proofs.YtpegcppeobndcaaGreatDoor.Fl
open Go.RowKit YtpegcppeobndcaaGreatDoorW.PrintWords YtpegcppeobndcaaGreatDoorW.PrintLast YtpegcppeobndcaaGreatDoorW.PrintMore Go.Proofs.YtpegcppeobndcaaGreatDoor.Nn Go.Proofs.YtpegcppeobndcaaGreatDoor.G Go.Proofs.YtpegcppeobndcaaGreatDoor.Giv Go.Proofs.YtpegcppeobndcaaGreatDoor.PFl
attribute [local go_sem] max2_int min2_int max_two min_two
def Blk4 (w : World) (g : Nat) (a b c d : Value) : Prop := Blk w g a b c ∧ w.cell? ⟨g, 3, none⟩ = some d ∧ w.frozen? ⟨g, 3, none⟩ = false
theorem Blk4.below {w w1 : World} {g : Nat} {a b c d : Value} (h : Blk4 w g a b c d) (hb : Below w.heap.size w w1) : Blk4 w1 g a b c d := by
 obtain ⟨h0, h1, h2⟩ := h
 have hg := cell_lt h1
 exact ⟨h0.below hb, by rw [hb.cell (p := ⟨g, 3, none⟩) hg]; exact h1, by rw [hb.frozen (p := ⟨g, 3, none⟩) hg]; exact h2⟩
theorem Blk4_alloc (w : World) (a b c d : Value) (t : TypeId) : Blk4 (w.alloc (.cells #[a, b, c, d] t)) w.heap.size a b c d := ⟨⟨⟨by simp, by simp, by simp⟩, by simp, by simp, by simp⟩, by simp, by simp⟩
theorem Nu_setu {w : World} {g i : Nat} {u u' : Value} (hu : ∀ x, u ≠ .int .u32 x) (hc : w.cell? ⟨g, i, none⟩ = some u) {v : Value} {n : Nat} (h : Nu w v n) : Nu (w.setCell ⟨g, i, none⟩ u') v n := by
 obtain ⟨A, c, rfl, h1, hC⟩ := h
 refine ⟨A, c, rfl, h1, reads_CU ?_⟩
 have hR := CU_reads hC
 refine ⟨hR.1, hR.2.1, fun hp => ?_⟩
 obtain ⟨ad, e, hc2⟩ := hR.2.2 hp
 refine ⟨ad, e, fun j hj => ?_⟩
 have h3 := hc2 j hj
 rw [World.cell?_setCell_other (h := by
  intro h'
  rw [← h', hc] at h3
  exact hu _ (Option.some.inj h3))]
 exact h3
theorem set4 {W w : World} {g : Nat} {x y : Bool} {A : Option Addr} {L c : Nat} {z : Int} (hb : Blk4 w g (.bool x) (.slice A L c) (.int .i64 z) (.bool y)) (hB : Below W.heap.size W w) (hg : W.heap.size ≤ g) (a b c' d : Value) {v : Value} {n : Nat} (h : Nu w v n) :
  Nu ((((w.setCell ⟨g, 0, none⟩ a).setCell ⟨g, 1, none⟩ b).setCell ⟨g, 2, none⟩ c').setCell ⟨g, 3, none⟩ d) v n ∧ Below W.heap.size W ((((w.setCell ⟨g, 0, none⟩ a).setCell ⟨g, 1, none⟩ b).setCell ⟨g, 2, none⟩ c').setCell ⟨g, 3, none⟩ d) := by
 obtain ⟨⟨⟨h0, h1, h2⟩, _⟩, h3, _⟩ := hb
 have k1 : (w.setCell ⟨g, 0, none⟩ a).cell? ⟨g, 1, none⟩ = some (.slice A L c) := by rw [World.cell?_setCell_other (h := by intro h; cases h)]; exact h1
 have k2 : ((w.setCell ⟨g, 0, none⟩ a).setCell ⟨g, 1, none⟩ b).cell? ⟨g, 2, none⟩ = some (.int .i64 z) := by rw [World.cell?_setCell_other (h := by intro h; cases h), World.cell?_setCell_other (h := by intro h; cases h)]; exact h2
 have k3 : (((w.setCell ⟨g, 0, none⟩ a).setCell ⟨g, 1, none⟩ b).setCell ⟨g, 2, none⟩ c').cell? ⟨g, 3, none⟩ = some (.bool y) := by rw [World.cell?_setCell_other (h := by intro h; cases h), World.cell?_setCell_other (h := by intro h; cases h), World.cell?_setCell_other (h := by intro h; cases h)]; exact h3
 exact ⟨Nu_setu (fun _ h => by cases h) k3 (Nu_setu (fun _ h => by cases h) k2 (Nu_setu (fun _ h => by cases h) k1 (Nu_setu (fun _ h => by cases h) h0 h))), G.below_set (G.below_set (G.below_set (G.below_set hB hg 0 a) hg 1 b) hg 2 c') hg 3 d⟩
theorem shl_nuI {w : World} {v : Value} {n : Nat} {k : Int} (s : Nat) (hk : k = (s : Int)) (h : Nu w v n) (hn : n < pw 900) (hs : s < 1048576) : Calls Tryz.prog 24 #[v, .int .i64 k] w (NuPost w (n * 2 ^ s)) := by
 subst hk
 exact shl_nu h hn s hs
def OverPost (w : World) (neg : Bool) (q : Nat) (e : Int) (more : Bool) (e' : Ending) (w' : World) : Prop := ∃ A L c, e' = .returned (.agg #[.bool neg, .slice A L c, .int .i64 e, .bool more]) ∧ Nu w' (.slice A L c) q ∧ Below w.heap.size w w'
theorem over_bound {n k : Nat} (hn : n < pw 70) (hk : k < 3000) : n * 2 ^ k < pw 1000 := by
 rw [pw_two] at hn
 generalize hm : 32 * 70 = m at hn
 have h1 : n * 2 ^ k < 2 ^ (m + k) := by
  rw [Nat.pow_add]
  exact Nat.mul_lt_mul_of_pos_right hn (Nat.two_pow_pos _)
 exact pw_of_two h1 (by omega)
set_option maxHeartbeats 4000000 in
set_option maxRecDepth 100000 in
theorem over_w {w : World} {vn vd : Value} {n d : Nat} (neg : Bool) (e : Int) (hn : Nu w vn n) (hd : Nu w vd d) (bn : n < pw 70) (bd : d < pw 70) (hd0 : d ≠ 0) (he : -4000 ≤ e ∧ e ≤ 4000) :
  Calls Tryz.prog 32 #[.bool neg, vn, vd, .int .i64 e] w (OverPost w neg (n * 2 ^ fk n d / d) (e - (fk n d : Int)) (decide (n * 2 ^ fk n d % d ≠ 0))) := by
 have HK := Aside0.mk (Blk4_alloc w (.bool false) (.slice none 0 0) (.int .i64 0) (.bool false) 56)
 have HW := Aside0.mk (below_alloc (Below.refl w.heap.size w) (.cells #[.bool false, .slice none 0 0, .int .i64 0, .bool false] 56))
 have nb1 : nbits n ≤ 32 * 70 := nbits_pw bn
 have nb2 : nbits d ≤ 32 * 70 := nbits_pw bd
 have hkb : fk n d < 3000 := by unfold fk; omega
 have HN := Aside0.mk hn
 have HD := Aside0.mk hd
 go_enter Tryz.func32, Tryz.ntmps32
 go_wp2_with fail
 refine (bitsN (HD.out.below HW.out) (Nat.lt_trans bd (pw_lt Z5))).mono ?_
 rintro e1 w1 ⟨rfl, hB1⟩
 have HW1 := tT HW hB1
 have HK1 := Aside0.mk (HK.out.below hB1)
 clear hB1
 go_wp2_with fail
 refine (bitsN (HN.out.below HW1.out) (Nat.lt_trans bn (pw_lt Z5))).mono ?_
 rintro e2 w2 ⟨rfl, hB2⟩
 have HW2 := tT HW1 hB2
 have HK2 := Aside0.mk (HK1.out.below hB2)
 clear hB2
 by_cases c : 66 + (nbits d : Int) - (nbits n : Int) < 0
 case' pos => have c' : ¬ 0 ≤ 66 + (nbits d : Int) - (nbits n : Int) := by omega
 case' neg => have c' : 0 ≤ 66 + (nbits d : Int) - (nbits n : Int) := by omega
 all_goals
  go_wp2_with fail
  refine (shl_nuI (fk n d) (by unfold fk; omega) (HN.out.below HW2.out) (Nat.lt_trans bn (pw_lt Z5)) (by omega)).mono ?_
  rintro e3 w3 ⟨vs, rfl, hS, hB3⟩
  have HW3 := tT HW2 hB3
  have HK3 := Aside0.mk (HK2.out.below hB3)
  clear hB3
  go_wp2_with fail
  refine (divP hS (HD.out.below HW3.out) (over_bound bn hkb) (Nat.lt_trans bd (pw_lt Z5)) hd0).mono ?_
  rintro e4 w4 ⟨vq, vr, rfl, hq, hr, hB4⟩
  have HW4 := tT HW3 hB4
  have HK4 := Aside0.mk (HK3.out.below hB4)
  obtain ⟨Aq, Lq, cq, rfl, hq⟩ := Nu_open hq
  obtain ⟨Ar, cr, rfl, _, _⟩ := hr
  have HQ := Aside0.mk hq
  clear hB4 hS hq
  obtain ⟨⟨⟨hc0, hc1, hc2⟩, hf0, hf1, hf2⟩, hc3, hf3⟩ := HK4.out
  go_wp2_with fail
  have hY : decide (0 < (digs (n * 2 ^ fk n d % d)).length) = decide (n * 2 ^ fk n d % d ≠ 0) := by
   rw [decide_eq_decide]
   have := digs_len (n := n * 2 ^ fk n d % d)
   omega
  have S4 := fun (X : Int) (Y : Bool) => set4 (W := w) HK4.out HW4.out (Nat.le_refl _) (.bool neg) (.slice Aq Lq cq) (.int .i64 X) (.bool Y) HQ.out
  first
  | exact bodyPost_ret (v := .agg #[.bool neg, .slice Aq Lq cq, .int .i64 e, .bool (decide (0 < (digs (n * 2 ^ fk n d % d)).length))]) (by simp [results, Tryz.results32, go_sem, hc0, hc1, hc2, hc3, hf0, hf1, hf2, hf3]) rfl ⟨Aq, Lq, cq, by rw [hY, show e - (fk n d : Int) = e by unfold fk; omega], (S4 _ _).1, (S4 _ _).2⟩
  | exact bodyPost_ret (v := .agg #[.bool neg, .slice Aq Lq cq, .int .i64 (e - (66 + (nbits d : Int) - (nbits n : Int))), .bool (decide (0 < (digs (n * 2 ^ fk n d % d)).length))]) (by simp [results, Tryz.results32, go_sem, hc0, hc1, hc2, hc3, hf0, hf1, hf2, hf3]) rfl ⟨Aq, Lq, cq, by rw [hY, show e - (fk n d : Int) = e - (66 + (nbits d : Int) - (nbits n : Int)) by unfold fk; omega], (S4 _ _).1, (S4 _ _).2⟩
end Go.Proofs.YtpegcppeobndcaaGreatDoor.Fl
