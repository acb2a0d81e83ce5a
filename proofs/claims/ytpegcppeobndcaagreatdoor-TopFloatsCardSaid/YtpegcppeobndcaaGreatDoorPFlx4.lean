/- Made by program out of the translation: what these functions compute. -/
import Derived.Test.YtpegcppeobndcaaGreatDoorAb
import Derived.Test.YtpegcppeobndcaaGreatDoorPFlx0
import Derived.Test.YtpegcppeobndcaaGreatDoorPFlx1
import Derived.Test.YtpegcppeobndcaaGreatDoorPFlx2
import Derived.Test.YtpegcppeobndcaaGreatDoorPFlx3
import Derived.Test.YtpegcppeobndcaaGreatDoorGivF
namespace Go.Proofs.YtpegcppeobndcaaGreatDoor.PFl
open Go.RowKit Go.Proofs.YtpegcppeobndcaaGreatDoor.Giv YtpegcppeobndcaaGreatDoorW.PrintWords YtpegcppeobndcaaGreatDoorW.PrintLast YtpegcppeobndcaaGreatDoorW.PrintMore
attribute [local go_sem] max2_int min2_int max_two min_two max_three min_three max_four min_four   -- for this text's walks alone
set_option linter.unusedVariables false
set_option linter.unusedSimpArgs false
def sfloat_added.j0 : Nat → Int → Bool → Bool → List Int → Int → Bool → Option (Int × Int)
 | 0, _, _, _, _, _, _ => none
 | k + 1, x2, x31, x167000, x167001, x167002, x167003 => if x31 = true then ((sfloat_signed.f 0 x167000).bind fun t177 => (some (t177, 0))) else ((sfloat_signed.f 0 (x2 == 2)).bind fun t178 => (some (t178, 0)))
def sfloat_added.f (k : Nat) (a0_0 : Bool) (l0_1 : List Int) (a0_2 : Int) (a0_3 : Bool) (a1_0 : Bool) (l1_1 : List Int) (a1_2 : Int) (a1_3 : Bool) (a2 : Int) : Option (Int × Int) := (sfloat_sum.f k a0_0 l0_1 a0_2 a0_3 a1_0 l1_1 a1_2 a1_3).bind fun bt168 => (if (bt168.2.1.length : Int) > 0 then ((sfloat_num_round.f k bt168.1 bt168.2.1 bt168.2.2.1 bt168.2.2.2 a2).bind fun bt175 => (some (bt175.1, bt175.2))) else (if (l0_1.length : Int) = 0 then (sfloat_added.j0 k a2 (a0_0 == a1_0) a0_0 l0_1 a0_2 a0_3) else (sfloat_added.j0 k a2 false a0_0 l0_1 a0_2 a0_3)))
set_option maxHeartbeats 8000000 in
set_option maxRecDepth 100000 in
theorem sfloat_added.calls (k : Nat) (a0_0 : Bool) (A0_1 : Option Addr) (c0_1 : Nat) (l0_1 : List Int) (a0_2 : Int) (a0_3 : Bool) (a1_0 : Bool) (A1_1 : Option Addr) (c1_1 : Nat) (l1_1 : List Int) (a1_2 : Int) (a1_3 : Bool) (a2 : Int) (r1 : Int) (r2 : Int) (w : World) (hr0_1 : Kd.C (Kd.int .u32) w A0_1 l0_1.length l0_1) (hc0_1 : l0_1.length ≤ c0_1) (hr1_1 : Kd.C (Kd.int .u32) w A1_1 l1_1.length l1_1) (hc1_1 : l1_1.length ≤ c1_1) (h : sfloat_added.f k a0_0 l0_1 a0_2 a0_3 a1_0 l1_1 a1_2 a1_3 a2 = some (r1, r2)) :
  Calls Tryz.prog 37 #[.agg #[.bool a0_0, .slice A0_1 l0_1.length c0_1, .int .i64 a0_2, .bool a0_3], .agg #[.bool a1_0, .slice A1_1 l1_1.length c1_1, .int .i64 a1_2, .bool a1_3], .int .i64 a2] w fun e w' => e = .returned (.tuple #[.int .u64 r1, .int .i64 r2]) ∧ Below w.heap.size w w' := by
 have hu56 := Tryz.underlying56
 have HR0_1 := Aside0.mk hr0_1
 have HC0_1 := Aside0.mk hc0_1
 clear hr0_1 hc0_1
 have HR1_1 := Aside0.mk hr1_1
 have HC1_1 := Aside0.mk hc1_1
 clear hr1_1 hc1_1
 have HB := Aside0.mk (Below.refl w.heap.size w)
 have H : ((sfloat_sum.f k a0_0 l0_1 a0_2 a0_3 a1_0 l1_1 a1_2 a1_3).bind fun bt168 => (if (bt168.2.1.length : Int) > 0 then ((sfloat_num_round.f k bt168.1 bt168.2.1 bt168.2.2.1 bt168.2.2.2 a2).bind fun bt175 => (some (bt175.1, bt175.2))) else (if (l0_1.length : Int) = 0 then (sfloat_added.j0 k a2 (a0_0 == a1_0) a0_0 l0_1 a0_2 a0_3) else (sfloat_added.j0 k a2 false a0_0 l0_1 a0_2 a0_3)))) = some (r1, r2) := h
 clear h
 replace H := Option.bind_eq_some_iff.mp H
 obtain ⟨⟨t168, t169, t172, t173⟩, A40, H⟩ := H
 replace H : (if (t169.length : Int) > 0 then ((sfloat_num_round.f k t168 t169 t172 t173 a2).bind fun bt175 => (some (bt175.1, bt175.2))) else (if (l0_1.length : Int) = 0 then (sfloat_added.j0 k a2 (a0_0 == a1_0) a0_0 l0_1 a0_2 a0_3) else (sfloat_added.j0 k a2 false a0_0 l0_1 a0_2 a0_3))) = some (r1, r2) := H
 have A4 := Aside0.mk A40
 clear A40
 by_cases c5 : (t169.length : Int) > 0
 ·rw [if_pos c5] at H
  have c5b0 : decide (0 < (t169.length : Int)) = true := decide_eq_true c5
  have c5b1 : decide (0 < t169.length) = true := decide_eq_true (by omega)
  clear c5
  replace H := Option.bind_eq_some_iff.mp H
  obtain ⟨⟨t175, t176⟩, A60, H⟩ := H
  replace H : (some (t175, t176)) = some (r1, r2) := H
  have A6 := Aside0.mk A60
  clear A60
  simp only [Option.some.injEq, Prod.mk.injEq] at H
  obtain ⟨rfl, rfl⟩ := H
  go_enter Tryz.func37, Tryz.ntmps37
  go_wp2_with (first | ((with_reducible refine gate_dst (N := 3) rfl ?_); refine box_event ?hg (N := 3) ?hd (cs := #[.bool a0_0, .slice A0_1 l0_1.length c0_1, .int .i64 a0_2, .bool a0_3]) (t := 56) ?hr ?_; (case hd => rfl); (case hg => rfl); (case hr => first | (go_simp; done) | (go_simp; rfl)); intro gb166 hg w7 hbox hb; have n0_ := Aside0.mk (below_step Z0 hb); have n1_ := Aside0.mk (hbox); have n2_ := Aside0.mk ((by rw [hg]; exact (below_size Z0) : w.heap.size ≤ gb166)); have n3_ := Aside0.mk ((by rw [hg]; exact (below_size Z0) : w.heap.size ≤ gb166)); clear HB; have HB := n0_; have BK166 := n1_; have GW166 := n2_; have GE166 := n3_; clear n0_ n1_ n2_ n3_; clear hb hbox hg) | ((with_reducible refine gate_dst (N := 4) rfl ?_); refine box_event ?hg (N := 4) ?hd (cs := #[.bool a1_0, .slice A1_1 l1_1.length c1_1, .int .i64 a1_2, .bool a1_3]) (t := 56) ?hr ?_; (case hd => rfl); (case hg => rfl); (case hr => first | (go_simp; done) | (go_simp; rfl)); intro gb167 hg w8 hbox hb; have n0_ := Aside0.mk (blk_below (g := gb166) (o := .cells #[.bool a0_0, .slice A0_1 l0_1.length c0_1, .int .i64 a0_2, .bool a0_3] 56 (0, 0)) Z10 hb); have n1_ := Aside0.mk (below_step Z24 hb); have n2_ := Aside0.mk (hbox); have n3_ := Aside0.mk ((by rw [hg]; exact (below_size Z24) : w.heap.size ≤ gb167)); have n4_ := Aside0.mk ((by rw [hg]; exact (below_size Z24) : w.heap.size ≤ gb167)); have n5_ := Aside0.mk ((by rw [hg]; exact Nat.ne_of_lt (blk_lt (g := gb166) (o := .cells #[.bool a0_0, .slice A0_1 l0_1.length c0_1, .int .i64 a0_2, .bool a0_3] 56 (0, 0)) Z10) : gb166 ≠ gb167)); have n6_ := Aside0.mk ((by rw [hg]; exact Nat.ne_of_gt (blk_lt (g := gb166) (o := .cells #[.bool a0_0, .slice A0_1 l0_1.length c0_1, .int .i64 a0_2, .bool a0_3] 56 (0, 0)) Z10) : gb167 ≠ gb166)); clear BK166; clear HB; have BK166 := n0_; have HB := n1_; have BK167 := n2_; have GW167 := n3_; have GE167 := n4_; have NB166_167 := n5_; have NB167_166 := n6_; clear n0_ n1_ n2_ n3_ n4_ n5_ n6_; clear hb hbox hg; have hnb9 := NB166_167.out; have hnc9 := NB167_166.out; have hcz10_0 : w8.cell? ⟨gb166, 0, none⟩ = some (.bool a0_0) := (blk_cell BK166.out 0).trans rfl; have hcz10_1 : w8.cell? ⟨gb166, 1, none⟩ = some (.slice A0_1 l0_1.length c0_1) := (blk_cell BK166.out 1).trans rfl; have hcz10_2 : w8.cell? ⟨gb166, 2, none⟩ = some (.int .i64 a0_2) := (blk_cell BK166.out 2).trans rfl; have hcz10_3 : w8.cell? ⟨gb166, 3, none⟩ = some (.bool a0_3) := (blk_cell BK166.out 3).trans rfl; have hfz10_0 := blk_frozen BK166.out 0; have hfz10_1 := blk_frozen BK166.out 1; have hfz10_2 := blk_frozen BK166.out 2; have hfz10_3 := blk_frozen BK166.out 3; have hcz11_0 : w8.cell? ⟨gb167, 0, none⟩ = some (.bool a1_0) := (blk_cell BK167.out 0).trans rfl; have hcz11_1 : w8.cell? ⟨gb167, 1, none⟩ = some (.slice A1_1 l1_1.length c1_1) := (blk_cell BK167.out 1).trans rfl; have hcz11_2 : w8.cell? ⟨gb167, 2, none⟩ = some (.int .i64 a1_2) := (blk_cell BK167.out 2).trans rfl; have hcz11_3 : w8.cell? ⟨gb167, 3, none⟩ = some (.bool a1_3) := (blk_cell BK167.out 3).trans rfl; have hfz11_0 := blk_frozen BK167.out 0; have hfz11_1 := blk_frozen BK167.out 1; have hfz11_2 := blk_frozen BK167.out 2; have hfz11_3 := blk_frozen BK167.out 3) | ((with_reducible refine gate_callee (f := 75) rfl ?_); refine goesL_ (some 11) rfl rfl Tryz.func75 Z4 rfl #[.agg #[.bool a0_0, .slice A0_1 l0_1.length c0_1, .int .i64 a0_2, .bool a0_3], .agg #[.bool a1_0, .slice A1_1 l1_1.length c1_1, .int .i64 a1_2, .bool a1_3]] rfl Z1 ?_; (with_reducible refine (sfloat_sum.calls k a0_0 _ _ l0_1 a0_2 a0_3 a1_0 _ _ l1_1 a1_2 a1_3 t168 t169 t172 t173 _ ?side1 ?side2 ?side3 ?side4 A4.out).mono ?_); (case side1 => repeat (first | exact (Kd.C_below HR0_1.out HB.out) | (with_reducible refine Kd.C_alloc ?_ _) | (with_reducible refine Kd.C_drewN ?_ _) | (with_reducible refine Kd.C_drew ?_))); (case side2 => exact HC0_1.out); (case side3 => repeat (first | exact (Kd.C_below HR1_1.out HB.out) | (with_reducible refine Kd.C_alloc ?_ _) | (with_reducible refine Kd.C_drewN ?_ _) | (with_reducible refine Kd.C_drew ?_))); (case side4 => exact HC1_1.out); rintro e w12 ⟨v170, rfl, ho0, hb⟩; refine ⟨_, rfl, ?_⟩; have n0_ := Aside0.mk (Kd.R_lower ho0 (below_size Z8)); have n1_ := Aside0.mk (blk_below (g := gb166) (o := .cells #[.bool a0_0, .slice A0_1 l0_1.length c0_1, .int .i64 a0_2, .bool a0_3] 56 (0, 0)) Z10 hb); have n2_ := Aside0.mk (blk_below (g := gb167) (o := .cells #[.bool a1_0, .slice A1_1 l1_1.length c1_1, .int .i64 a1_2, .bool a1_3] 56 (0, 0)) Z22 hb); have n3_ := Aside0.mk (below_step Z8 hb); clear BK166; clear BK167; clear HB; have HO171 := n0_; have BK166 := n1_; have BK167 := n2_; have HB := n3_; clear n0_ n1_ n2_ n3_; (try clear hb); (try clear hb2); (try clear hk); (try clear hi); (try clear ho0)) | ((with_reducible refine gate_dst (N := 8) rfl ?_); refine box_event ?hg (N := 8) ?hd (cs := #[.bool false, .slice none 0 0, .int .i64 0, .bool false]) (t := 56) ?hr ?_; (case hd => rfl); (case hg => rfl); (case hr => first | (go_simp; done) | (go_simp; rfl)); intro gb174 hg w13 hbox hb; have n0_ := Aside0.mk (Kd.R_below (by (with_reducible repeat (first | apply Kd.R_alloc | apply Kd.R_drewN | apply Kd.R_drew)); exact HO171.out) hb); have n1_ := Aside0.mk (blk_below (g := gb166) (o := .cells #[.bool a0_0, .slice A0_1 l0_1.length c0_1, .int .i64 a0_2, .bool a0_3] 56 (0, 0)) Z10 hb); have n2_ := Aside0.mk (blk_below (g := gb167) (o := .cells #[.bool a1_0, .slice A1_1 l1_1.length c1_1, .int .i64 a1_2, .bool a1_3] 56 (0, 0)) Z22 hb); have n3_ := Aside0.mk (below_step Z8 hb); have n4_ := Aside0.mk (hbox); have n5_ := Aside0.mk ((by rw [hg]; exact (below_size Z8) : w.heap.size ≤ gb174)); have n6_ := Aside0.mk ((by rw [hg]; exact (below_size Z8) : w.heap.size ≤ gb174)); have n7_ := Aside0.mk ((by rw [hg]; exact Nat.ne_of_lt (blk_lt (g := gb166) (o := .cells #[.bool a0_0, .slice A0_1 l0_1.length c0_1, .int .i64 a0_2, .bool a0_3] 56 (0, 0)) Z10) : gb166 ≠ gb174)); have n8_ := Aside0.mk ((by rw [hg]; exact Nat.ne_of_gt (blk_lt (g := gb166) (o := .cells #[.bool a0_0, .slice A0_1 l0_1.length c0_1, .int .i64 a0_2, .bool a0_3] 56 (0, 0)) Z10) : gb174 ≠ gb166)); have n9_ := Aside0.mk ((by rw [hg]; exact Nat.ne_of_lt (blk_lt (g := gb167) (o := .cells #[.bool a1_0, .slice A1_1 l1_1.length c1_1, .int .i64 a1_2, .bool a1_3] 56 (0, 0)) Z22) : gb167 ≠ gb174)); have n10_ := Aside0.mk ((by rw [hg]; exact Nat.ne_of_gt (blk_lt (g := gb167) (o := .cells #[.bool a1_0, .slice A1_1 l1_1.length c1_1, .int .i64 a1_2, .bool a1_3] 56 (0, 0)) Z22) : gb174 ≠ gb167)); clear HO171; clear BK166; clear BK167; clear HB; have HO171 := n0_; have BK166 := n1_; have BK167 := n2_; have HB := n3_; have BK174 := n4_; have GW174 := n5_; have GE174 := n6_; have NB166_174 := n7_; have NB174_166 := n8_; have NB167_174 := n9_; have NB174_167 := n10_; clear n0_ n1_ n2_ n3_ n4_ n5_ n6_ n7_ n8_ n9_ n10_; clear hb hbox hg; have hnb14 := NB174_166.out; have hnc14 := NB166_174.out; have hnb15 := NB174_167.out; have hnc15 := NB167_174.out; have hcz16_0 : w13.cell? ⟨gb174, 0, none⟩ = some (.bool false) := (blk_cell BK174.out 0).trans rfl; have hcz16_1 : w13.cell? ⟨gb174, 1, none⟩ = some (.slice none 0 0) := (blk_cell BK174.out 1).trans rfl; have hcz16_2 : w13.cell? ⟨gb174, 2, none⟩ = some (.int .i64 0) := (blk_cell BK174.out 2).trans rfl; have hcz16_3 : w13.cell? ⟨gb174, 3, none⟩ = some (.bool false) := (blk_cell BK174.out 3).trans rfl; have hfz16_0 := blk_frozen BK174.out 0; have hfz16_1 := blk_frozen BK174.out 1; have hfz16_2 := blk_frozen BK174.out 2; have hfz16_3 := blk_frozen BK174.out 3; obtain ⟨Ao17, co17, eo17⟩ := Kd.R_slice HO171.out; subst eo17) | ((with_reducible refine gate_callee (f := 33) rfl ?_); refine goesL_ (some 18) rfl rfl Tryz.func33 Z4 rfl #[.agg #[.bool t168, .slice Ao17 t169.length co17, .int .i64 t172, .bool t173], .int .i64 a2] rfl Z1 ?_; (with_reducible refine (sfloat_num_round.calls k t168 _ _ t169 t172 t173 a2 t175 t176 _ ?side1 ?side2 A6.out).mono ?_); (case side1 => refine (Kd.R_reads' (e := 94) (base := w.heap.size) (ok := fun k_ => True) (n := t169.length) (c := co17) ?_).2.2; exact Z28); (case side2 => exact (Kd.R_reads' HO171.out).2.1); rintro e w18 ⟨rfl, hb⟩; refine ⟨_, rfl, ?_⟩; have n0_ := Aside0.mk (Kd.R_below Z28 hb); have n1_ := Aside0.mk (blk_below (g := gb166) (o := .cells #[.bool a0_0, .slice A0_1 l0_1.length c0_1, .int .i64 a0_2, .bool a0_3] 56 (0, 0)) (by (with_reducible repeat (first | refine blk_drewN ?_ _ | refine blk_drew ?_ | refine blk_alloc ?_ _)); refine blk_far ?_ NB166_174.out _; (with_reducible repeat (first | refine blk_drewN ?_ _ | refine blk_drew ?_ | refine blk_alloc ?_ _)); refine blk_far ?_ NB166_174.out _; (with_reducible repeat (first | refine blk_drewN ?_ _ | refine blk_drew ?_ | refine blk_alloc ?_ _)); refine blk_far ?_ NB166_174.out _; (with_reducible repeat (first | refine blk_drewN ?_ _ | refine blk_drew ?_ | refine blk_alloc ?_ _)); refine blk_far ?_ NB166_174.out _; (with_reducible repeat (first | refine blk_drewN ?_ _ | refine blk_drew ?_ | refine blk_alloc ?_ _)); exact BK166.out) hb); have n2_ := Aside0.mk (blk_below (g := gb167) (o := .cells #[.bool a1_0, .slice A1_1 l1_1.length c1_1, .int .i64 a1_2, .bool a1_3] 56 (0, 0)) (by (with_reducible repeat (first | refine blk_drewN ?_ _ | refine blk_drew ?_ | refine blk_alloc ?_ _)); refine blk_far ?_ NB167_174.out _; (with_reducible repeat (first | refine blk_drewN ?_ _ | refine blk_drew ?_ | refine blk_alloc ?_ _)); refine blk_far ?_ NB167_174.out _; (with_reducible repeat (first | refine blk_drewN ?_ _ | refine blk_drew ?_ | refine blk_alloc ?_ _)); refine blk_far ?_ NB167_174.out _; (with_reducible repeat (first | refine blk_drewN ?_ _ | refine blk_drew ?_ | refine blk_alloc ?_ _)); refine blk_far ?_ NB167_174.out _; (with_reducible repeat (first | refine blk_drewN ?_ _ | refine blk_drew ?_ | refine blk_alloc ?_ _)); exact BK167.out) hb); have n3_ := Aside0.mk (blk_below (g := gb174) (o := .cells #[.bool t168, .slice Ao17 t169.length co17, .int .i64 t172, .bool t173] 56 (0, 0)) (by (with_reducible repeat (first | refine blk_drewN ?_ _ | refine blk_drew ?_ | refine blk_alloc ?_ _)); refine blk_put (cs := #[.bool t168, .slice Ao17 t169.length co17, .int .i64 t172, .bool false]) ?_ 3 _ rfl; (with_reducible repeat (first | refine blk_drewN ?_ _ | refine blk_drew ?_ | refine blk_alloc ?_ _)); refine blk_put (cs := #[.bool t168, .slice Ao17 t169.length co17, .int .i64 0, .bool false]) ?_ 2 _ rfl; (with_reducible repeat (first | refine blk_drewN ?_ _ | refine blk_drew ?_ | refine blk_alloc ?_ _)); refine blk_put (cs := #[.bool t168, .slice none 0 0, .int .i64 0, .bool false]) ?_ 1 _ rfl; (with_reducible repeat (first | refine blk_drewN ?_ _ | refine blk_drew ?_ | refine blk_alloc ?_ _)); refine blk_put (cs := #[.bool false, .slice none 0 0, .int .i64 0, .bool false]) ?_ 0 _ rfl; (with_reducible repeat (first | refine blk_drewN ?_ _ | refine blk_drew ?_ | refine blk_alloc ?_ _)); exact BK174.out) hb); have n4_ := Aside0.mk (below_step (by repeat (first | (with_reducible first | exact HB.out | apply below_alloc | apply pw_below_drewN | apply below_drew1 | refine below_set ?_ GE166.out | refine below_set ?_ GE167.out | refine below_set ?_ GE174.out) | exact HB.out)) hb); clear HO171; clear BK166; clear BK167; clear BK174; clear HB; have HO171 := n0_; have BK166 := n1_; have BK167 := n2_; have BK174 := n3_; have HB := n4_; clear n0_ n1_ n2_ n3_ n4_; (try clear hb); (try clear hb2); (try clear hk); (try clear hi)))
  go_ret2
  exact ⟨by first | rfl | (simp [errW_none, errW_some] <;> rfl) | (simp [*, errW_none, errW_some] <;> rfl), by repeat (first | (with_reducible first | exact HB.out | apply below_alloc | apply pw_below_drewN | apply below_drew1 | refine below_set ?_ GE166.out | refine below_set ?_ GE167.out | refine below_set ?_ GE174.out) | exact HB.out)⟩
 ·rw [if_neg c5] at H
  have c5b0 : decide (0 < (t169.length : Int)) = false := decide_eq_false c5
  have c5b1 : decide (0 < t169.length) = false := decide_eq_false (by omega)
  clear c5
  have HC19 := Aside0.mk H
  clear H
  go_enter Tryz.func37, Tryz.ntmps37
  go_upto_region 4 with (first | ((with_reducible refine gate_dst (N := 3) rfl ?_); refine box_event ?hg (N := 3) ?hd (cs := #[.bool a0_0, .slice A0_1 l0_1.length c0_1, .int .i64 a0_2, .bool a0_3]) (t := 56) ?hr ?_; (case hd => rfl); (case hg => rfl); (case hr => first | (go_simp; done) | (go_simp; rfl)); intro gb166 hg w20 hbox hb; have n0_ := Aside0.mk (below_step Z0 hb); have n1_ := Aside0.mk (hbox); have n2_ := Aside0.mk ((by rw [hg]; exact (below_size Z0) : w.heap.size ≤ gb166)); have n3_ := Aside0.mk ((by rw [hg]; exact (below_size Z0) : w.heap.size ≤ gb166)); clear HB; have HB := n0_; have BK166 := n1_; have GW166 := n2_; have GE166 := n3_; clear n0_ n1_ n2_ n3_; clear hb hbox hg) | ((with_reducible refine gate_dst (N := 4) rfl ?_); refine box_event ?hg (N := 4) ?hd (cs := #[.bool a1_0, .slice A1_1 l1_1.length c1_1, .int .i64 a1_2, .bool a1_3]) (t := 56) ?hr ?_; (case hd => rfl); (case hg => rfl); (case hr => first | (go_simp; done) | (go_simp; rfl)); intro gb167 hg w21 hbox hb; have n0_ := Aside0.mk (blk_below (g := gb166) (o := .cells #[.bool a0_0, .slice A0_1 l0_1.length c0_1, .int .i64 a0_2, .bool a0_3] 56 (0, 0)) Z10 hb); have n1_ := Aside0.mk (below_step Z24 hb); have n2_ := Aside0.mk (hbox); have n3_ := Aside0.mk ((by rw [hg]; exact (below_size Z24) : w.heap.size ≤ gb167)); have n4_ := Aside0.mk ((by rw [hg]; exact (below_size Z24) : w.heap.size ≤ gb167)); have n5_ := Aside0.mk ((by rw [hg]; exact Nat.ne_of_lt (blk_lt (g := gb166) (o := .cells #[.bool a0_0, .slice A0_1 l0_1.length c0_1, .int .i64 a0_2, .bool a0_3] 56 (0, 0)) Z10) : gb166 ≠ gb167)); have n6_ := Aside0.mk ((by rw [hg]; exact Nat.ne_of_gt (blk_lt (g := gb166) (o := .cells #[.bool a0_0, .slice A0_1 l0_1.length c0_1, .int .i64 a0_2, .bool a0_3] 56 (0, 0)) Z10) : gb167 ≠ gb166)); clear BK166; clear HB; have BK166 := n0_; have HB := n1_; have BK167 := n2_; have GW167 := n3_; have GE167 := n4_; have NB166_167 := n5_; have NB167_166 := n6_; clear n0_ n1_ n2_ n3_ n4_ n5_ n6_; clear hb hbox hg; have hnb22 := NB166_167.out; have hnc22 := NB167_166.out; have hcz23_0 : w21.cell? ⟨gb166, 0, none⟩ = some (.bool a0_0) := (blk_cell BK166.out 0).trans rfl; have hcz23_1 : w21.cell? ⟨gb166, 1, none⟩ = some (.slice A0_1 l0_1.length c0_1) := (blk_cell BK166.out 1).trans rfl; have hcz23_2 : w21.cell? ⟨gb166, 2, none⟩ = some (.int .i64 a0_2) := (blk_cell BK166.out 2).trans rfl; have hcz23_3 : w21.cell? ⟨gb166, 3, none⟩ = some (.bool a0_3) := (blk_cell BK166.out 3).trans rfl; have hfz23_0 := blk_frozen BK166.out 0; have hfz23_1 := blk_frozen BK166.out 1; have hfz23_2 := blk_frozen BK166.out 2; have hfz23_3 := blk_frozen BK166.out 3; have hcz24_0 : w21.cell? ⟨gb167, 0, none⟩ = some (.bool a1_0) := (blk_cell BK167.out 0).trans rfl; have hcz24_1 : w21.cell? ⟨gb167, 1, none⟩ = some (.slice A1_1 l1_1.length c1_1) := (blk_cell BK167.out 1).trans rfl; have hcz24_2 : w21.cell? ⟨gb167, 2, none⟩ = some (.int .i64 a1_2) := (blk_cell BK167.out 2).trans rfl; have hcz24_3 : w21.cell? ⟨gb167, 3, none⟩ = some (.bool a1_3) := (blk_cell BK167.out 3).trans rfl; have hfz24_0 := blk_frozen BK167.out 0; have hfz24_1 := blk_frozen BK167.out 1; have hfz24_2 := blk_frozen BK167.out 2; have hfz24_3 := blk_frozen BK167.out 3) | ((with_reducible refine gate_callee (f := 75) rfl ?_); refine goesL_ (some 11) rfl rfl Tryz.func75 Z4 rfl #[.agg #[.bool a0_0, .slice A0_1 l0_1.length c0_1, .int .i64 a0_2, .bool a0_3], .agg #[.bool a1_0, .slice A1_1 l1_1.length c1_1, .int .i64 a1_2, .bool a1_3]] rfl Z1 ?_; (with_reducible refine (sfloat_sum.calls k a0_0 _ _ l0_1 a0_2 a0_3 a1_0 _ _ l1_1 a1_2 a1_3 t168 t169 t172 t173 _ ?side1 ?side2 ?side3 ?side4 A4.out).mono ?_); (case side1 => repeat (first | exact (Kd.C_below HR0_1.out HB.out) | (with_reducible refine Kd.C_alloc ?_ _) | (with_reducible refine Kd.C_drewN ?_ _) | (with_reducible refine Kd.C_drew ?_))); (case side2 => exact HC0_1.out); (case side3 => repeat (first | exact (Kd.C_below HR1_1.out HB.out) | (with_reducible refine Kd.C_alloc ?_ _) | (with_reducible refine Kd.C_drewN ?_ _) | (with_reducible refine Kd.C_drew ?_))); (case side4 => exact HC1_1.out); rintro e w25 ⟨v170, rfl, ho0, hb⟩; refine ⟨_, rfl, ?_⟩; have n0_ := Aside0.mk (Kd.R_lower ho0 (below_size Z8)); have n1_ := Aside0.mk (blk_below (g := gb166) (o := .cells #[.bool a0_0, .slice A0_1 l0_1.length c0_1, .int .i64 a0_2, .bool a0_3] 56 (0, 0)) Z10 hb); have n2_ := Aside0.mk (blk_below (g := gb167) (o := .cells #[.bool a1_0, .slice A1_1 l1_1.length c1_1, .int .i64 a1_2, .bool a1_3] 56 (0, 0)) Z22 hb); have n3_ := Aside0.mk (below_step Z8 hb); clear BK166; clear BK167; clear HB; have HO171 := n0_; have BK166 := n1_; have BK167 := n2_; have HB := n3_; clear n0_ n1_ n2_ n3_; (try clear hb); (try clear hb2); (try clear hk); (try clear hi); (try clear ho0)) | ((with_reducible refine gate_dst (N := 8) rfl ?_); refine box_event ?hg (N := 8) ?hd (cs := #[.bool false, .slice none 0 0, .int .i64 0, .bool false]) (t := 56) ?hr ?_; (case hd => rfl); (case hg => rfl); (case hr => first | (go_simp; done) | (go_simp; rfl)); intro gb174 hg w26 hbox hb; have n0_ := Aside0.mk (Kd.R_below (by (with_reducible repeat (first | apply Kd.R_alloc | apply Kd.R_drewN | apply Kd.R_drew)); exact HO171.out) hb); have n1_ := Aside0.mk (blk_below (g := gb166) (o := .cells #[.bool a0_0, .slice A0_1 l0_1.length c0_1, .int .i64 a0_2, .bool a0_3] 56 (0, 0)) Z10 hb); have n2_ := Aside0.mk (blk_below (g := gb167) (o := .cells #[.bool a1_0, .slice A1_1 l1_1.length c1_1, .int .i64 a1_2, .bool a1_3] 56 (0, 0)) Z22 hb); have n3_ := Aside0.mk (below_step Z8 hb); have n4_ := Aside0.mk (hbox); have n5_ := Aside0.mk ((by rw [hg]; exact (below_size Z8) : w.heap.size ≤ gb174)); have n6_ := Aside0.mk ((by rw [hg]; exact (below_size Z8) : w.heap.size ≤ gb174)); have n7_ := Aside0.mk ((by rw [hg]; exact Nat.ne_of_lt (blk_lt (g := gb166) (o := .cells #[.bool a0_0, .slice A0_1 l0_1.length c0_1, .int .i64 a0_2, .bool a0_3] 56 (0, 0)) Z10) : gb166 ≠ gb174)); have n8_ := Aside0.mk ((by rw [hg]; exact Nat.ne_of_gt (blk_lt (g := gb166) (o := .cells #[.bool a0_0, .slice A0_1 l0_1.length c0_1, .int .i64 a0_2, .bool a0_3] 56 (0, 0)) Z10) : gb174 ≠ gb166)); have n9_ := Aside0.mk ((by rw [hg]; exact Nat.ne_of_lt (blk_lt (g := gb167) (o := .cells #[.bool a1_0, .slice A1_1 l1_1.length c1_1, .int .i64 a1_2, .bool a1_3] 56 (0, 0)) Z22) : gb167 ≠ gb174)); have n10_ := Aside0.mk ((by rw [hg]; exact Nat.ne_of_gt (blk_lt (g := gb167) (o := .cells #[.bool a1_0, .slice A1_1 l1_1.length c1_1, .int .i64 a1_2, .bool a1_3] 56 (0, 0)) Z22) : gb174 ≠ gb167)); clear HO171; clear BK166; clear BK167; clear HB; have HO171 := n0_; have BK166 := n1_; have BK167 := n2_; have HB := n3_; have BK174 := n4_; have GW174 := n5_; have GE174 := n6_; have NB166_174 := n7_; have NB174_166 := n8_; have NB167_174 := n9_; have NB174_167 := n10_; clear n0_ n1_ n2_ n3_ n4_ n5_ n6_ n7_ n8_ n9_ n10_; clear hb hbox hg; have hnb27 := NB174_166.out; have hnc27 := NB166_174.out; have hnb28 := NB174_167.out; have hnc28 := NB167_174.out; have hcz29_0 : w26.cell? ⟨gb174, 0, none⟩ = some (.bool false) := (blk_cell BK174.out 0).trans rfl; have hcz29_1 : w26.cell? ⟨gb174, 1, none⟩ = some (.slice none 0 0) := (blk_cell BK174.out 1).trans rfl; have hcz29_2 : w26.cell? ⟨gb174, 2, none⟩ = some (.int .i64 0) := (blk_cell BK174.out 2).trans rfl; have hcz29_3 : w26.cell? ⟨gb174, 3, none⟩ = some (.bool false) := (blk_cell BK174.out 3).trans rfl; have hfz29_0 := blk_frozen BK174.out 0; have hfz29_1 := blk_frozen BK174.out 1; have hfz29_2 := blk_frozen BK174.out 2; have hfz29_3 := blk_frozen BK174.out 3; obtain ⟨Ao30, co30, eo30⟩ := Kd.R_slice HO171.out; subst eo30))
  (try simp only [PU])
  go_cut [31] (fun v31 wc => ∃ (kq : Nat) (x31_18 : Bool), v31 = .bool x31_18 ∧ Aside0 (sfloat_added.j0 kq a2 x31_18 a0_0 l0_1 a0_2 a0_3 = some (r1, r2)) ∧ Aside0 (kq ≤ k) ∧ Aside0 (Kd.R (Kd.int .u32) 94 wc w.heap.size (fun _ => True) (.slice Ao30 t169.length co30) t169) ∧ Aside0 (wc.heap[gb166]? = some (.cells #[.bool a0_0, (.slice A0_1 l0_1.length c0_1), .int .i64 a0_2, .bool a0_3] 56 (0, 0))) ∧ Aside0 (wc.heap[gb167]? = some (.cells #[.bool a1_0, (.slice A1_1 l1_1.length c1_1), .int .i64 a1_2, .bool a1_3] 56 (0, 0))) ∧ Aside0 (wc.heap[gb174]? = some (.cells #[.bool t168, (.slice Ao30 t169.length co30), .int .i64 t172, .bool t173] 56 (0, 0))) ∧ Aside0 (Below w.heap.size w wc))
  case first =>
   have H := HC19.out
   clear HC19
   by_cases c31 : (l0_1.length : Int) = 0
   ·rw [if_pos c31] at H
    have c31b0 : ((l0_1.length : Int) == 0) = true := beq_iff_eq.mpr c31
    have c31b1 : ((l0_1.length : Int) != 0) = false := bne_eq_false_iff_eq.mpr c31
    clear c31
    (first | rw [c31b0] | (simp only [i64_w, i32_w]; rw [c31b0]) | skip)
    have H' := Aside0.mk H
    clear H
    have hnb32 := NB166_167.out
    have hnc32 := NB167_166.out
    have hnb33 := NB166_174.out
    have hnc33 := NB174_166.out
    have hcz34_0 : w26.cell? ⟨gb166, 0, none⟩ = some (.bool a0_0) := (blk_cell BK166.out 0).trans rfl
    have hcz34_1 : w26.cell? ⟨gb166, 1, none⟩ = some (.slice A0_1 l0_1.length c0_1) := (blk_cell BK166.out 1).trans rfl
    have hcz34_2 : w26.cell? ⟨gb166, 2, none⟩ = some (.int .i64 a0_2) := (blk_cell BK166.out 2).trans rfl
    have hcz34_3 : w26.cell? ⟨gb166, 3, none⟩ = some (.bool a0_3) := (blk_cell BK166.out 3).trans rfl
    have hfz34_0 := blk_frozen BK166.out 0
    have hfz34_1 := blk_frozen BK166.out 1
    have hfz34_2 := blk_frozen BK166.out 2
    have hfz34_3 := blk_frozen BK166.out 3
    have hnb35 := NB167_174.out
    have hnc35 := NB174_167.out
    have hcz36_0 : w26.cell? ⟨gb167, 0, none⟩ = some (.bool a1_0) := (blk_cell BK167.out 0).trans rfl
    have hcz36_1 : w26.cell? ⟨gb167, 1, none⟩ = some (.slice A1_1 l1_1.length c1_1) := (blk_cell BK167.out 1).trans rfl
    have hcz36_2 : w26.cell? ⟨gb167, 2, none⟩ = some (.int .i64 a1_2) := (blk_cell BK167.out 2).trans rfl
    have hcz36_3 : w26.cell? ⟨gb167, 3, none⟩ = some (.bool a1_3) := (blk_cell BK167.out 3).trans rfl
    have hfz36_0 := blk_frozen BK167.out 0
    have hfz36_1 := blk_frozen BK167.out 1
    have hfz36_2 := blk_frozen BK167.out 2
    have hfz36_3 := blk_frozen BK167.out 3
    go_wp2
    go_meet
    case rel => exact ⟨_, ((a0_0 == a1_0)), Z25, H', ⟨by first | omega | exact Nat.le_refl _⟩, ⟨by (with_reducible repeat (first | apply Kd.R_alloc | apply Kd.R_drewN | apply Kd.R_drew)); exact Kd.R_mono (Kd.R_far (p := ⟨gb174, 3, none⟩) (Kd.R_far (p := ⟨gb174, 2, none⟩) (Kd.R_far (p := ⟨gb174, 1, none⟩) (Kd.R_far (p := ⟨gb174, 0, none⟩) (Kd.R_types HO171.out BK174.out Z5) (fun _ hk => hk.2) (.bool t168)) (fun _ hk => hk.2) (.slice Ao30 t169.length co30)) (fun _ hk => hk.2) (.int .i64 t172)) (fun _ hk => hk.2) (.bool t173)) (fun _ hk => trivial)⟩, ⟨by (with_reducible repeat (first | refine blk_drewN ?_ _ | refine blk_drew ?_ | refine blk_alloc ?_ _)); refine blk_far ?_ NB166_174.out _; (with_reducible repeat (first | refine blk_drewN ?_ _ | refine blk_drew ?_ | refine blk_alloc ?_ _)); refine blk_far ?_ NB166_174.out _; (with_reducible repeat (first | refine blk_drewN ?_ _ | refine blk_drew ?_ | refine blk_alloc ?_ _)); refine blk_far ?_ NB166_174.out _; (with_reducible repeat (first | refine blk_drewN ?_ _ | refine blk_drew ?_ | refine blk_alloc ?_ _)); refine blk_far ?_ NB166_174.out _; (with_reducible repeat (first | refine blk_drewN ?_ _ | refine blk_drew ?_ | refine blk_alloc ?_ _)); exact BK166.out⟩, ⟨by (with_reducible repeat (first | refine blk_drewN ?_ _ | refine blk_drew ?_ | refine blk_alloc ?_ _)); refine blk_far ?_ NB167_174.out _; (with_reducible repeat (first | refine blk_drewN ?_ _ | refine blk_drew ?_ | refine blk_alloc ?_ _)); refine blk_far ?_ NB167_174.out _; (with_reducible repeat (first | refine blk_drewN ?_ _ | refine blk_drew ?_ | refine blk_alloc ?_ _)); refine blk_far ?_ NB167_174.out _; (with_reducible repeat (first | refine blk_drewN ?_ _ | refine blk_drew ?_ | refine blk_alloc ?_ _)); refine blk_far ?_ NB167_174.out _; (with_reducible repeat (first | refine blk_drewN ?_ _ | refine blk_drew ?_ | refine blk_alloc ?_ _)); exact BK167.out⟩, ⟨by (with_reducible repeat (first | refine blk_drewN ?_ _ | refine blk_drew ?_ | refine blk_alloc ?_ _)); refine blk_put (cs := #[.bool t168, .slice Ao30 t169.length co30, .int .i64 t172, .bool false]) ?_ 3 _ rfl; (with_reducible repeat (first | refine blk_drewN ?_ _ | refine blk_drew ?_ | refine blk_alloc ?_ _)); refine blk_put (cs := #[.bool t168, .slice Ao30 t169.length co30, .int .i64 0, .bool false]) ?_ 2 _ rfl; (with_reducible repeat (first | refine blk_drewN ?_ _ | refine blk_drew ?_ | refine blk_alloc ?_ _)); refine blk_put (cs := #[.bool t168, .slice none 0 0, .int .i64 0, .bool false]) ?_ 1 _ rfl; (with_reducible repeat (first | refine blk_drewN ?_ _ | refine blk_drew ?_ | refine blk_alloc ?_ _)); refine blk_put (cs := #[.bool false, .slice none 0 0, .int .i64 0, .bool false]) ?_ 0 _ rfl; (with_reducible repeat (first | refine blk_drewN ?_ _ | refine blk_drew ?_ | refine blk_alloc ?_ _)); exact BK174.out⟩, ⟨by repeat (first | (with_reducible first | exact HB.out | apply below_alloc | apply pw_below_drewN | apply below_drew1 | refine below_set ?_ GE166.out | refine below_set ?_ GE167.out | refine below_set ?_ GE174.out) | exact HB.out)⟩⟩
   ·rw [if_neg c31] at H
    have c31b0 : ((l0_1.length : Int) == 0) = false := beq_eq_false_iff_ne.mpr c31
    have c31b1 : ((l0_1.length : Int) != 0) = true := bne_iff_ne.mpr c31
    have c31b2 : ¬ (l0_1 = []) := fun h_ => c31 (by rw [h_]; rfl)
    (first | rw [c31b0] | (simp only [i64_w, i32_w]; rw [c31b0]) | skip)
    have H' := Aside0.mk H
    clear H
    have hnb37 := NB166_167.out
    have hnc37 := NB167_166.out
    have hnb38 := NB166_174.out
    have hnc38 := NB174_166.out
    have hcz39_0 : w26.cell? ⟨gb166, 0, none⟩ = some (.bool a0_0) := (blk_cell BK166.out 0).trans rfl
    have hcz39_1 : w26.cell? ⟨gb166, 1, none⟩ = some (.slice A0_1 l0_1.length c0_1) := (blk_cell BK166.out 1).trans rfl
    have hcz39_2 : w26.cell? ⟨gb166, 2, none⟩ = some (.int .i64 a0_2) := (blk_cell BK166.out 2).trans rfl
    have hcz39_3 : w26.cell? ⟨gb166, 3, none⟩ = some (.bool a0_3) := (blk_cell BK166.out 3).trans rfl
    have hfz39_0 := blk_frozen BK166.out 0
    have hfz39_1 := blk_frozen BK166.out 1
    have hfz39_2 := blk_frozen BK166.out 2
    have hfz39_3 := blk_frozen BK166.out 3
    go_wp2
    go_meet
    case rel => exact ⟨_, (false), Z25, H', ⟨by first | omega | exact Nat.le_refl _⟩, ⟨by (with_reducible repeat (first | apply Kd.R_alloc | apply Kd.R_drewN | apply Kd.R_drew)); exact Kd.R_mono (Kd.R_far (p := ⟨gb174, 3, none⟩) (Kd.R_far (p := ⟨gb174, 2, none⟩) (Kd.R_far (p := ⟨gb174, 1, none⟩) (Kd.R_far (p := ⟨gb174, 0, none⟩) (Kd.R_types HO171.out BK174.out Z5) (fun _ hk => hk.2) (.bool t168)) (fun _ hk => hk.2) (.slice Ao30 t169.length co30)) (fun _ hk => hk.2) (.int .i64 t172)) (fun _ hk => hk.2) (.bool t173)) (fun _ hk => trivial)⟩, ⟨by (with_reducible repeat (first | refine blk_drewN ?_ _ | refine blk_drew ?_ | refine blk_alloc ?_ _)); refine blk_far ?_ NB166_174.out _; (with_reducible repeat (first | refine blk_drewN ?_ _ | refine blk_drew ?_ | refine blk_alloc ?_ _)); refine blk_far ?_ NB166_174.out _; (with_reducible repeat (first | refine blk_drewN ?_ _ | refine blk_drew ?_ | refine blk_alloc ?_ _)); refine blk_far ?_ NB166_174.out _; (with_reducible repeat (first | refine blk_drewN ?_ _ | refine blk_drew ?_ | refine blk_alloc ?_ _)); refine blk_far ?_ NB166_174.out _; (with_reducible repeat (first | refine blk_drewN ?_ _ | refine blk_drew ?_ | refine blk_alloc ?_ _)); exact BK166.out⟩, ⟨by (with_reducible repeat (first | refine blk_drewN ?_ _ | refine blk_drew ?_ | refine blk_alloc ?_ _)); refine blk_far ?_ NB167_174.out _; (with_reducible repeat (first | refine blk_drewN ?_ _ | refine blk_drew ?_ | refine blk_alloc ?_ _)); refine blk_far ?_ NB167_174.out _; (with_reducible repeat (first | refine blk_drewN ?_ _ | refine blk_drew ?_ | refine blk_alloc ?_ _)); refine blk_far ?_ NB167_174.out _; (with_reducible repeat (first | refine blk_drewN ?_ _ | refine blk_drew ?_ | refine blk_alloc ?_ _)); refine blk_far ?_ NB167_174.out _; (with_reducible repeat (first | refine blk_drewN ?_ _ | refine blk_drew ?_ | refine blk_alloc ?_ _)); exact BK167.out⟩, ⟨by (with_reducible repeat (first | refine blk_drewN ?_ _ | refine blk_drew ?_ | refine blk_alloc ?_ _)); refine blk_put (cs := #[.bool t168, .slice Ao30 t169.length co30, .int .i64 t172, .bool false]) ?_ 3 _ rfl; (with_reducible repeat (first | refine blk_drewN ?_ _ | refine blk_drew ?_ | refine blk_alloc ?_ _)); refine blk_put (cs := #[.bool t168, .slice Ao30 t169.length co30, .int .i64 0, .bool false]) ?_ 2 _ rfl; (with_reducible repeat (first | refine blk_drewN ?_ _ | refine blk_drew ?_ | refine blk_alloc ?_ _)); refine blk_put (cs := #[.bool t168, .slice none 0 0, .int .i64 0, .bool false]) ?_ 1 _ rfl; (with_reducible repeat (first | refine blk_drewN ?_ _ | refine blk_drew ?_ | refine blk_alloc ?_ _)); refine blk_put (cs := #[.bool false, .slice none 0 0, .int .i64 0, .bool false]) ?_ 0 _ rfl; (with_reducible repeat (first | refine blk_drewN ?_ _ | refine blk_drew ?_ | refine blk_alloc ?_ _)); exact BK174.out⟩, ⟨by repeat (first | (with_reducible first | exact HB.out | apply below_alloc | apply pw_below_drewN | apply below_drew1 | refine below_set ?_ GE166.out | refine below_set ?_ GE167.out | refine below_set ?_ GE174.out) | exact HB.out)⟩⟩
  case rest =>
   clear HC19
   try clear c1
   try clear c2
   try clear p2
   try clear c3
   try clear c5
   try clear c5b0
   try clear c5b1
   try clear c7
   try clear c9
   try clear c14
   try clear c15
   try clear c22
   try clear c27
   try clear c28
   try clear c31
   try clear c31b0
   try clear c31b1
   try clear c31b2
   try clear c32
   try clear c33
   try clear c35
   try clear c37
   try clear c38
   try clear hcz10_0
   try clear hcz10_1
   try clear hcz10_2
   try clear hcz10_3
   try clear hcz11_0
   try clear hcz11_1
   try clear hcz11_2
   try clear hcz11_3
   try clear hcz16_0
   try clear hcz16_1
   try clear hcz16_2
   try clear hcz16_3
   try clear hcz23_0
   try clear hcz23_1
   try clear hcz23_2
   try clear hcz23_3
   try clear hcz24_0
   try clear hcz24_1
   try clear hcz24_2
   try clear hcz24_3
   try clear hcz29_0
   try clear hcz29_1
   try clear hcz29_2
   try clear hcz29_3
   try clear hcz34_0
   try clear hcz34_1
   try clear hcz34_2
   try clear hcz34_3
   try clear hcz36_0
   try clear hcz36_1
   try clear hcz36_2
   try clear hcz36_3
   try clear hcz39_0
   try clear hcz39_1
   try clear hcz39_2
   try clear hcz39_3
   try clear hfz10_0
   try clear hfz10_1
   try clear hfz10_2
   try clear hfz10_3
   try clear hfz11_0
   try clear hfz11_1
   try clear hfz11_2
   try clear hfz11_3
   try clear hfz16_0
   try clear hfz16_1
   try clear hfz16_2
   try clear hfz16_3
   try clear hfz23_0
   try clear hfz23_1
   try clear hfz23_2
   try clear hfz23_3
   try clear hfz24_0
   try clear hfz24_1
   try clear hfz24_2
   try clear hfz24_3
   try clear hfz29_0
   try clear hfz29_1
   try clear hfz29_2
   try clear hfz29_3
   try clear hfz34_0
   try clear hfz34_1
   try clear hfz34_2
   try clear hfz34_3
   try clear hfz36_0
   try clear hfz36_1
   try clear hfz36_2
   try clear hfz36_3
   try clear hfz39_0
   try clear hfz39_1
   try clear hfz39_2
   try clear hfz39_3
   obtain ⟨kq, x31_18, rfl, HA, HJ18, HO_175001, BK166, BK167, BK174, HB⟩ := hcut
   cases kq with
   | zero => exact absurd HA.out (by simp [sfloat_added.j0])
   | succ kj18 =>
    have H := HA.out
    clear HA
    simp only [sfloat_added.j0] at H
    by_cases c40 : x31_18 = true
    ·subst c40
     have H1 : ((sfloat_signed.f 0 a0_0).bind fun t177 => (some (t177, 0))) = some (r1, r2) := by rw [if_pos rfl] at H; exact H
     clear H
     have H := H1
     clear H1
     replace H := Option.bind_eq_some_iff.mp H
     obtain ⟨t177, A410, H⟩ := H
     replace H : (some (t177, 0)) = some (r1, r2) := H
     have A41 := Aside0.mk A410
     clear A410
     simp only [Option.some.injEq, Prod.mk.injEq] at H
     obtain ⟨rfl, rfl⟩ := H
     have hnb42 := NB166_167.out
     have hnc42 := NB167_166.out
     have hnb43 := NB166_174.out
     have hnc43 := NB174_166.out
     have hcz44_0 : wc.cell? ⟨gb166, 0, none⟩ = some (.bool a0_0) := (blk_cell BK166.out 0).trans rfl
     have hcz44_1 : wc.cell? ⟨gb166, 1, none⟩ = some (.slice A0_1 l0_1.length c0_1) := (blk_cell BK166.out 1).trans rfl
     have hcz44_2 : wc.cell? ⟨gb166, 2, none⟩ = some (.int .i64 a0_2) := (blk_cell BK166.out 2).trans rfl
     have hcz44_3 : wc.cell? ⟨gb166, 3, none⟩ = some (.bool a0_3) := (blk_cell BK166.out 3).trans rfl
     have hfz44_0 := blk_frozen BK166.out 0
     have hfz44_1 := blk_frozen BK166.out 1
     have hfz44_2 := blk_frozen BK166.out 2
     have hfz44_3 := blk_frozen BK166.out 3
     go_wp2_with (first | ((with_reducible refine gate_callee (f := 74) rfl ?_); refine goesL_ (some 34) rfl rfl Tryz.func74 Z4 rfl #[.int .u64 0, .bool a0_0] rfl Z1 ?_; (with_reducible refine (sfloat_signed.calls 0 a0_0 t177 _ A41.out).mono ?_); rintro e w' ⟨rfl, ⟨nd, rfl⟩⟩; refine ⟨_, rfl, ?_⟩))
     go_ret2
     exact ⟨by first | rfl | (simp [errW_none, errW_some] <;> rfl) | (simp [*, errW_none, errW_some] <;> rfl), by repeat (first | (with_reducible first | exact HB.out | apply below_alloc | apply pw_below_drewN | apply below_drew1 | refine below_set ?_ GE166.out | refine below_set ?_ GE167.out | refine below_set ?_ GE174.out) | exact HB.out)⟩
    ·replace c40 := Bool.eq_false_iff.mpr c40
     subst c40
     have H1 : ((sfloat_signed.f 0 (a2 == 2)).bind fun t178 => (some (t178, 0))) = some (r1, r2) := by rw [if_neg (show ¬ (false = true) by decide)] at H; exact H
     clear H
     have H := H1
     clear H1
     replace H := Option.bind_eq_some_iff.mp H
     obtain ⟨t178, A450, H⟩ := H
     replace H : (some (t178, 0)) = some (r1, r2) := H
     have A45 := Aside0.mk A450
     clear A450
     simp only [Option.some.injEq, Prod.mk.injEq] at H
     obtain ⟨rfl, rfl⟩ := H
     go_wp2_with (first | ((with_reducible refine gate_callee (f := 74) rfl ?_); refine goesL_ (some 37) rfl rfl Tryz.func74 Z4 rfl #[.int .u64 0, .bool (a2 == 2)] rfl Z1 ?_; (with_reducible refine (sfloat_signed.calls 0 (a2 == 2) t178 _ A45.out).mono ?_); rintro e w' ⟨rfl, ⟨nd, rfl⟩⟩; refine ⟨_, rfl, ?_⟩))
     go_ret2
     exact ⟨by first | rfl | (simp [errW_none, errW_some] <;> rfl) | (simp [*, errW_none, errW_some] <;> rfl), by repeat (first | (with_reducible first | exact HB.out | apply below_alloc | apply pw_below_drewN | apply below_drew1 | refine below_set ?_ GE166.out | refine below_set ?_ GE167.out | refine below_set ?_ GE174.out) | exact HB.out)⟩
def sfloat_place.f (a0 : Int) : Option (Int) := (sfloat_below.f a0).bind fun t185 => (if t185 = true then (some (wrap64 (-(wrap64 (Go.bits .andNot .u64 a0 9223372036854775808))))) else (some (wrap64 (a0))))
set_option maxHeartbeats 8000000 in
set_option maxRecDepth 100000 in
theorem sfloat_place.calls (a0 : Int) (r : Int) (w : World) (h : sfloat_place.f a0 = some r) :
  Calls Tryz.prog 38 #[.int .u64 a0] w fun e w' => e = .returned (.int .i64 r) ∧ Drawn0 w w' := by
 have H : ((sfloat_below.f a0).bind fun t185 => (if t185 = true then (some (wrap64 (-(wrap64 (Go.bits .andNot .u64 a0 9223372036854775808))))) else (some (wrap64 (a0))))) = some r := h
 clear h
 replace H := Option.bind_eq_some_iff.mp H
 obtain ⟨t185, A20, H⟩ := H
 replace H : (if t185 = true then (some (wrap64 (-(wrap64 (Go.bits .andNot .u64 a0 9223372036854775808))))) else (some (wrap64 (a0)))) = some r := H
 have A2 := Aside0.mk A20
 clear A20
 by_cases c3 : t185 = true
 ·subst c3
  have H1 : (some (wrap64 (-(wrap64 (Go.bits .andNot .u64 a0 9223372036854775808))))) = some r := by rw [if_pos rfl] at H; exact H
  clear H
  have H := H1
  clear H1
  obtain rfl := Option.some.inj H
  go_enter Tryz.func38, Tryz.ntmps38
  go_wp2_with (first | ((with_reducible refine gate_callee (f := 54) rfl ?_); refine goesL_ (some 4) rfl rfl Tryz.func54 Z4 rfl #[.int .u64 a0] rfl Z1 ?_; (with_reducible refine (sfloat_below.calls a0 true _ A2.out).mono ?_); rintro e w' ⟨rfl, ⟨nd, rfl⟩⟩; refine ⟨_, rfl, ?_⟩))
  go_ret
  exact Z52
 ·replace c3 := Bool.eq_false_iff.mpr c3
  subst c3
  have H1 : (some (wrap64 (a0))) = some r := by rw [if_neg (show ¬ (false = true) by decide)] at H; exact H
  clear H
  have H := H1
  clear H1
  obtain rfl := Option.some.inj H
  go_enter Tryz.func38, Tryz.ntmps38
  go_wp2_with (first | ((with_reducible refine gate_callee (f := 54) rfl ?_); refine goesL_ (some 4) rfl rfl Tryz.func54 Z4 rfl #[.int .u64 a0] rfl Z1 ?_; (with_reducible refine (sfloat_below.calls a0 false _ A2.out).mono ?_); rintro e w' ⟨rfl, ⟨nd, rfl⟩⟩; refine ⟨_, rfl, ?_⟩))
  go_ret
  exact Z52
def sfloat_Cmp.j0 : Nat → Int → Int → Bool → Option (Int × Bool)
 | 0, _, _, _ => none
 | k + 1, x0, x1, x13 => if x13 = true then (some (0, false)) else ((sfloat_place.f x0).bind fun t188 => ((sfloat_place.f x1).bind fun t189 => (if t188 < t189 then (some ((-1), true)) else (if t188 > t189 then (some (1, true)) else (some (0, true))))))
def sfloat_Cmp.f (k : Nat) (a0 : Int) (a1 : Int) : Option (Int × Bool) := (sfloat_nan.f a0).bind fun t186 => (if t186 = true then (sfloat_Cmp.j0 k a0 a1 true) else ((sfloat_nan.f a1).bind fun t187 => (sfloat_Cmp.j0 k a0 a1 t187)))
set_option maxHeartbeats 8000000 in
set_option maxRecDepth 100000 in
theorem sfloat_Cmp.calls (k : Nat) (a0 : Int) (a1 : Int) (r1 : Int) (r2 : Bool) (w : World) (h : sfloat_Cmp.f k a0 a1 = some (r1, r2)) :
  Calls Tryz.prog 13 #[.int .u64 a0, .int .u64 a1] w fun e w' => e = .returned (.tuple #[.int .i64 r1, .bool r2]) ∧ Drawn0 w w' := by
 have H : ((sfloat_nan.f a0).bind fun t186 => (if t186 = true then (sfloat_Cmp.j0 k a0 a1 true) else ((sfloat_nan.f a1).bind fun t187 => (sfloat_Cmp.j0 k a0 a1 t187)))) = some (r1, r2) := h
 clear h
 have HC3 := Aside0.mk H
 clear H
 go_enter Tryz.func13, Tryz.ntmps13
 go_upto_region 1 with (fail)
 go_cut [13] (fun v13 wc => ∃ (kq : Nat) (x13_2 : Bool), v13 = .bool x13_2 ∧ Aside0 (sfloat_Cmp.j0 kq a0 a1 x13_2 = some (r1, r2)) ∧ Aside0 (kq ≤ k) ∧ Drawn0 w wc)
 case first =>
  have H := HC3.out
  clear HC3
  replace H := Option.bind_eq_some_iff.mp H
  obtain ⟨t186, A40, H⟩ := H
  replace H : (if t186 = true then (sfloat_Cmp.j0 k a0 a1 true) else ((sfloat_nan.f a1).bind fun t187 => (sfloat_Cmp.j0 k a0 a1 t187))) = some (r1, r2) := H
  have A4 := Aside0.mk A40
  clear A40
  by_cases c5 : t186 = true
  ·subst c5
   have H1 : (sfloat_Cmp.j0 k a0 a1 true) = some (r1, r2) := by rw [if_pos rfl] at H; exact H
   clear H
   have H := H1
   clear H1
   have H' := Aside0.mk H
   clear H
   go_wp2_with (first | ((with_reducible refine gate_callee (f := 20) rfl ?_); refine goesL_ (some 9) rfl rfl Tryz.func20 Z4 rfl #[.int .u64 a0] rfl Z1 ?_; (with_reducible refine (sfloat_nan.calls a0 true _ A4.out).mono ?_); rintro e w' ⟨rfl, ⟨nd, rfl⟩⟩; refine ⟨_, rfl, ?_⟩))
   go_meet
   case rel => exact ⟨_, (true), Z25, H', ⟨by first | omega | exact Nat.le_refl _⟩, by repeat (first | exact Drawn0.refl _ | apply Drawn0.step)⟩
  ·replace c5 := Bool.eq_false_iff.mpr c5
   subst c5
   have H1 : ((sfloat_nan.f a1).bind fun t187 => (sfloat_Cmp.j0 k a0 a1 t187)) = some (r1, r2) := by rw [if_neg (show ¬ (false = true) by decide)] at H; exact H
   clear H
   have H := H1
   clear H1
   replace H := Option.bind_eq_some_iff.mp H
   obtain ⟨t187, A60, H⟩ := H
   replace H : (sfloat_Cmp.j0 k a0 a1 t187) = some (r1, r2) := H
   have A6 := Aside0.mk A60
   clear A60
   have H' := Aside0.mk H
   clear H
   go_wp2_with (first | ((with_reducible refine gate_callee (f := 20) rfl ?_); refine goesL_ (some 9) rfl rfl Tryz.func20 Z4 rfl #[.int .u64 a0] rfl Z1 ?_; (with_reducible refine (sfloat_nan.calls a0 false _ A4.out).mono ?_); rintro e w' ⟨rfl, ⟨nd, rfl⟩⟩; refine ⟨_, rfl, ?_⟩) | (go_at_call 20; (with_reducible refine (sfloat_nan.calls a1 t187 _ A6.out).mono ?_); rintro e w' ⟨rfl, ⟨nd, rfl⟩⟩))
   go_meet
   case rel => exact ⟨_, (t187), Z25, H', ⟨by first | omega | exact Nat.le_refl _⟩, by repeat (first | exact Drawn0.refl _ | apply Drawn0.step)⟩
 case rest =>
  clear HC3
  try clear c1
  try clear c2
  try clear p2
  try clear c5
  obtain ⟨kq, x13_2, rfl, HA, HJ2, ⟨mc2, rfl⟩⟩ := hcut
  cases kq with
  | zero => exact absurd HA.out (by simp [sfloat_Cmp.j0])
  | succ kj2 =>
   have H := HA.out
   clear HA
   simp only [sfloat_Cmp.j0] at H
   by_cases c7 : x13_2 = true
   ·subst c7
    have H1 : (some (0, false)) = some (r1, r2) := by rw [if_pos rfl] at H; exact H
    clear H
    have H := H1
    clear H1
    simp only [Option.some.injEq, Prod.mk.injEq] at H
    obtain ⟨rfl, rfl⟩ := H
    go_wp2
    go_ret2
    exact Z52
   ·replace c7 := Bool.eq_false_iff.mpr c7
    subst c7
    have H1 : ((sfloat_place.f a0).bind fun t188 => ((sfloat_place.f a1).bind fun t189 => (if t188 < t189 then (some ((-1), true)) else (if t188 > t189 then (some (1, true)) else (some (0, true)))))) = some (r1, r2) := by rw [if_neg (show ¬ (false = true) by decide)] at H; exact H
    clear H
    have H := H1
    clear H1
    replace H := Option.bind_eq_some_iff.mp H
    obtain ⟨t188, A80, H⟩ := H
    replace H : ((sfloat_place.f a1).bind fun t189 => (if t188 < t189 then (some ((-1), true)) else (if t188 > t189 then (some (1, true)) else (some (0, true))))) = some (r1, r2) := H
    have A8 := Aside0.mk A80
    clear A80
    replace H := Option.bind_eq_some_iff.mp H
    obtain ⟨t189, A90, H⟩ := H
    replace H : (if t188 < t189 then (some ((-1), true)) else (if t188 > t189 then (some (1, true)) else (some (0, true)))) = some (r1, r2) := H
    have A9 := Aside0.mk A90
    clear A90
    by_cases c10 : t188 < t189
    ·rw [if_pos c10] at H
     have c10b0 : decide (t188 < t189) = true := decide_eq_true c10
     clear c10
     simp only [Option.some.injEq, Prod.mk.injEq] at H
     obtain ⟨rfl, rfl⟩ := H
     go_wp2_with (first | ((with_reducible refine gate_callee (f := 38) rfl ?_); refine goesL_ (some 15) rfl rfl Tryz.func38 Z4 rfl #[.int .u64 a0] rfl Z1 ?_; (with_reducible refine (sfloat_place.calls a0 t188 _ A8.out).mono ?_); rintro e w' ⟨rfl, ⟨nd, rfl⟩⟩; refine ⟨_, rfl, ?_⟩) | ((with_reducible refine gate_callee (f := 38) rfl ?_); refine goesL_ (some 17) rfl rfl Tryz.func38 Z4 rfl #[.int .u64 a1] rfl Z1 ?_; (with_reducible refine (sfloat_place.calls a1 t189 _ A9.out).mono ?_); rintro e w' ⟨rfl, ⟨nd, rfl⟩⟩; refine ⟨_, rfl, ?_⟩))
     go_ret2
     exact Z52
    ·rw [if_neg c10] at H
     have c10b0 : decide (t188 < t189) = false := decide_eq_false c10
     clear c10
     by_cases c11 : t188 > t189
     ·rw [if_pos c11] at H
      have c11b0 : decide (t189 < t188) = true := decide_eq_true c11
      clear c11
      simp only [Option.some.injEq, Prod.mk.injEq] at H
      obtain ⟨rfl, rfl⟩ := H
      go_wp2_with (first | ((with_reducible refine gate_callee (f := 38) rfl ?_); refine goesL_ (some 15) rfl rfl Tryz.func38 Z4 rfl #[.int .u64 a0] rfl Z1 ?_; (with_reducible refine (sfloat_place.calls a0 t188 _ A8.out).mono ?_); rintro e w' ⟨rfl, ⟨nd, rfl⟩⟩; refine ⟨_, rfl, ?_⟩) | ((with_reducible refine gate_callee (f := 38) rfl ?_); refine goesL_ (some 17) rfl rfl Tryz.func38 Z4 rfl #[.int .u64 a1] rfl Z1 ?_; (with_reducible refine (sfloat_place.calls a1 t189 _ A9.out).mono ?_); rintro e w' ⟨rfl, ⟨nd, rfl⟩⟩; refine ⟨_, rfl, ?_⟩))
      go_ret2
      exact Z52
     ·rw [if_neg c11] at H
      have c11b0 : decide (t189 < t188) = false := decide_eq_false c11
      clear c11
      simp only [Option.some.injEq, Prod.mk.injEq] at H
      obtain ⟨rfl, rfl⟩ := H
      go_wp2_with (first | ((with_reducible refine gate_callee (f := 38) rfl ?_); refine goesL_ (some 15) rfl rfl Tryz.func38 Z4 rfl #[.int .u64 a0] rfl Z1 ?_; (with_reducible refine (sfloat_place.calls a0 t188 _ A8.out).mono ?_); rintro e w' ⟨rfl, ⟨nd, rfl⟩⟩; refine ⟨_, rfl, ?_⟩) | ((with_reducible refine gate_callee (f := 38) rfl ?_); refine goesL_ (some 17) rfl rfl Tryz.func38 Z4 rfl #[.int .u64 a1] rfl Z1 ?_; (with_reducible refine (sfloat_place.calls a1 t189 _ A9.out).mono ?_); rintro e w' ⟨rfl, ⟨nd, rfl⟩⟩; refine ⟨_, rfl, ?_⟩))
      go_ret2
      exact Z52
def anticlinelaw3_within.f (a0 : Int) (a1 : Int) : Option (Int) := if a1 = 0 then (none) else (if (Int.tmod a0 a1) < 0 then (some (wrap64 ((Int.tmod a0 a1) + a1))) else (some (Int.tmod a0 a1)))
set_option maxHeartbeats 8000000 in
set_option maxRecDepth 100000 in
theorem anticlinelaw3_within.calls (a0 : Int) (a1 : Int) (r : Int) (w : World) (h : anticlinelaw3_within.f a0 a1 = some r) :
  Calls Tryz.prog 46 #[.int .i64 a0, .int .i64 a1] w fun e w' => e = .returned (.int .i64 r) ∧ Drawn0 w w' := by
 have H : (if a1 = 0 then (none) else (if (Int.tmod a0 a1) < 0 then (some (wrap64 ((Int.tmod a0 a1) + a1))) else (some (Int.tmod a0 a1)))) = some r := h
 clear h
 by_cases c3 : a1 = 0
 ·rw [if_pos c3] at H
  exact absurd H Z33
 ·rw [if_neg c3] at H
  have c3b0 : (a1 == 0) = false := beq_eq_false_iff_ne.mpr c3
  have c3b1 : (a1 != 0) = true := bne_iff_ne.mpr c3
  by_cases c4 : (Int.tmod a0 a1) < 0
  ·rw [if_pos c4] at H
   have c4b0 : decide ((Int.tmod a0 a1) < 0) = true := decide_eq_true c4
   clear c4
   obtain rfl := Option.some.inj H
   go_enter Tryz.func46, Tryz.ntmps46
   go_wp2
   go_ret
   exact Z52
  ·rw [if_neg c4] at H
   have c4b0 : decide ((Int.tmod a0 a1) < 0) = false := decide_eq_false c4
   clear c4
   obtain rfl := Option.some.inj H
   go_enter Tryz.func46, Tryz.ntmps46
   go_wp2
   go_ret
   exact Z52
def anticlinelaw3_Make.j0 : Nat → Int → Int → Bool → Option (Int)
 | 0, _, _, _ => none
 | k + 1, x0, x6, x48 => if x48 = true then (some (Go.bits .or .u64 (Go.bits .or .u64 (Go.bits .and .u64 x0 9223372036854775808) (IntKind.u64.wrap ((IntKind.u64.wrap ((IntKind.u64.wrap (1023 + (Go.bits .and .u64 (x0 / 4294967296) 31))) - 16)) * 4503599627370496))) (IntKind.u64.wrap ((Go.bits .and .u64 x0 255) * 17592186044416)))) else (if x6 = 9 then (some (Go.bits .or .u64 (Go.bits .or .u64 (Go.bits .and .u64 x0 9223372036854775808) (IntKind.u64.wrap ((IntKind.u64.wrap ((IntKind.u64.wrap (1023 + (Go.bits .and .u64 (x0 / 4294967296) 127))) - 64)) * 4503599627370496))) (Go.bits .and .u64 x0 4503599627370495))) else (some x0))
def anticlinelaw3_Make.f (k : Nat) (a0 : Int) (a1 : Int) : Option (Int) := (anticlinelaw3_within.f a1 12).bind fun t215 => (if t215 = 0 then (some (Go.bits .and .u64 a0 9223372036854775808)) else (if t215 = 1 then (some (Go.bits .or .u64 (Go.bits .and .u64 a0 9223372036854775808) 9218868437227405312)) else (if t215 = 2 then (some (Go.bits .or .u64 (Go.bits .or .u64 (Go.bits .or .u64 (Go.bits .and .u64 a0 9223372036854775808) 9218868437227405312) (Go.bits .and .u64 a0 65535)) 1)) else (if t215 = 3 then (some (Go.bits .or .u64 (Go.bits .and .u64 a0 9223372036854775808) (Go.bits .and .u64 a0 255))) else (if t215 = 4 then (some (Go.bits .or .u64 (Go.bits .and .u64 a0 9223372036854775808) (IntKind.u64.wrap (4503599627370492 + (Go.bits .and .u64 a0 7))))) else (if t215 = 5 then (some (Go.bits .or .u64 (Go.bits .and .u64 a0 9223372036854775808) (IntKind.u64.wrap (9218868437227405311 - (Go.bits .and .u64 a0 7))))) else (if t215 = 6 then (anticlinelaw3_Make.j0 k a0 t215 (t215 == 6)) else (if t215 = 7 then (anticlinelaw3_Make.j0 k a0 t215 (t215 == 7)) else (anticlinelaw3_Make.j0 k a0 t215 (t215 == 8))))))))))
set_option maxHeartbeats 8000000 in
set_option maxRecDepth 100000 in
theorem anticlinelaw3_Make.calls (k : Nat) (a0 : Int) (a1 : Int) (r : Int) (w : World) (h : anticlinelaw3_Make.f k a0 a1 = some r) :
  Calls Tryz.prog 18 #[.int .u64 a0, .int .i64 a1] w fun e w' => e = .returned (.int .u64 r) ∧ Drawn0 w w' := by
 have H : ((anticlinelaw3_within.f a1 12).bind fun t215 => (if t215 = 0 then (some (Go.bits .and .u64 a0 9223372036854775808)) else (if t215 = 1 then (some (Go.bits .or .u64 (Go.bits .and .u64 a0 9223372036854775808) 9218868437227405312)) else (if t215 = 2 then (some (Go.bits .or .u64 (Go.bits .or .u64 (Go.bits .or .u64 (Go.bits .and .u64 a0 9223372036854775808) 9218868437227405312) (Go.bits .and .u64 a0 65535)) 1)) else (if t215 = 3 then (some (Go.bits .or .u64 (Go.bits .and .u64 a0 9223372036854775808) (Go.bits .and .u64 a0 255))) else (if t215 = 4 then (some (Go.bits .or .u64 (Go.bits .and .u64 a0 9223372036854775808) (IntKind.u64.wrap (4503599627370492 + (Go.bits .and .u64 a0 7))))) else (if t215 = 5 then (some (Go.bits .or .u64 (Go.bits .and .u64 a0 9223372036854775808) (IntKind.u64.wrap (9218868437227405311 - (Go.bits .and .u64 a0 7))))) else (if t215 = 6 then (anticlinelaw3_Make.j0 k a0 t215 (t215 == 6)) else (if t215 = 7 then (anticlinelaw3_Make.j0 k a0 t215 (t215 == 7)) else (anticlinelaw3_Make.j0 k a0 t215 (t215 == 8))))))))))) = some r := h
 clear h
 replace H := Option.bind_eq_some_iff.mp H
 obtain ⟨t215, A30, H⟩ := H
 replace H : (if t215 = 0 then (some (Go.bits .and .u64 a0 9223372036854775808)) else (if t215 = 1 then (some (Go.bits .or .u64 (Go.bits .and .u64 a0 9223372036854775808) 9218868437227405312)) else (if t215 = 2 then (some (Go.bits .or .u64 (Go.bits .or .u64 (Go.bits .or .u64 (Go.bits .and .u64 a0 9223372036854775808) 9218868437227405312) (Go.bits .and .u64 a0 65535)) 1)) else (if t215 = 3 then (some (Go.bits .or .u64 (Go.bits .and .u64 a0 9223372036854775808) (Go.bits .and .u64 a0 255))) else (if t215 = 4 then (some (Go.bits .or .u64 (Go.bits .and .u64 a0 9223372036854775808) (IntKind.u64.wrap (4503599627370492 + (Go.bits .and .u64 a0 7))))) else (if t215 = 5 then (some (Go.bits .or .u64 (Go.bits .and .u64 a0 9223372036854775808) (IntKind.u64.wrap (9218868437227405311 - (Go.bits .and .u64 a0 7))))) else (if t215 = 6 then (anticlinelaw3_Make.j0 k a0 t215 (t215 == 6)) else (if t215 = 7 then (anticlinelaw3_Make.j0 k a0 t215 (t215 == 7)) else (anticlinelaw3_Make.j0 k a0 t215 (t215 == 8)))))))))) = some r := H
 have A3 := Aside0.mk A30
 clear A30
 by_cases c4 : t215 = 0
 ·rw [if_pos c4] at H
  have c4b0 : (t215 == 0) = true := beq_iff_eq.mpr c4
  have c4b1 : (t215 != 0) = false := bne_eq_false_iff_eq.mpr c4
  clear c4
  obtain rfl := Option.some.inj H
  go_enter Tryz.func18, Tryz.ntmps18
  go_wp2_with (first | ((with_reducible refine gate_callee (f := 46) rfl ?_); refine goesL_ (some 6) rfl rfl Tryz.func46 Z4 rfl #[.int .i64 a1, .int .i64 12] rfl Z1 ?_; (with_reducible refine (anticlinelaw3_within.calls a1 12 t215 _ A3.out).mono ?_); rintro e w' ⟨rfl, ⟨nd, rfl⟩⟩; refine ⟨_, rfl, ?_⟩))
  go_ret
  exact Z52
 ·rw [if_neg c4] at H
  have c4b0 : (t215 == 0) = false := beq_eq_false_iff_ne.mpr c4
  have c4b1 : (t215 != 0) = true := bne_iff_ne.mpr c4
  by_cases c5 : t215 = 1
  ·rw [if_pos c5] at H
   have c5b0 : (t215 == 1) = true := beq_iff_eq.mpr c5
   have c5b1 : (t215 != 1) = false := bne_eq_false_iff_eq.mpr c5
   clear c5
   obtain rfl := Option.some.inj H
   go_enter Tryz.func18, Tryz.ntmps18
   go_wp2_with (first | ((with_reducible refine gate_callee (f := 46) rfl ?_); refine goesL_ (some 6) rfl rfl Tryz.func46 Z4 rfl #[.int .i64 a1, .int .i64 12] rfl Z1 ?_; (with_reducible refine (anticlinelaw3_within.calls a1 12 t215 _ A3.out).mono ?_); rintro e w' ⟨rfl, ⟨nd, rfl⟩⟩; refine ⟨_, rfl, ?_⟩))
   go_ret
   exact Z52
  ·rw [if_neg c5] at H
   have c5b0 : (t215 == 1) = false := beq_eq_false_iff_ne.mpr c5
   have c5b1 : (t215 != 1) = true := bne_iff_ne.mpr c5
   by_cases c6 : t215 = 2
   ·rw [if_pos c6] at H
    have c6b0 : (t215 == 2) = true := beq_iff_eq.mpr c6
    have c6b1 : (t215 != 2) = false := bne_eq_false_iff_eq.mpr c6
    clear c6
    obtain rfl := Option.some.inj H
    go_enter Tryz.func18, Tryz.ntmps18
    go_wp2_with (first | ((with_reducible refine gate_callee (f := 46) rfl ?_); refine goesL_ (some 6) rfl rfl Tryz.func46 Z4 rfl #[.int .i64 a1, .int .i64 12] rfl Z1 ?_; (with_reducible refine (anticlinelaw3_within.calls a1 12 t215 _ A3.out).mono ?_); rintro e w' ⟨rfl, ⟨nd, rfl⟩⟩; refine ⟨_, rfl, ?_⟩))
    go_ret
    exact Z52
   ·rw [if_neg c6] at H
    have c6b0 : (t215 == 2) = false := beq_eq_false_iff_ne.mpr c6
    have c6b1 : (t215 != 2) = true := bne_iff_ne.mpr c6
    by_cases c7 : t215 = 3
    ·rw [if_pos c7] at H
     have c7b0 : (t215 == 3) = true := beq_iff_eq.mpr c7
     have c7b1 : (t215 != 3) = false := bne_eq_false_iff_eq.mpr c7
     clear c7
     obtain rfl := Option.some.inj H
     go_enter Tryz.func18, Tryz.ntmps18
     go_wp2_with (first | ((with_reducible refine gate_callee (f := 46) rfl ?_); refine goesL_ (some 6) rfl rfl Tryz.func46 Z4 rfl #[.int .i64 a1, .int .i64 12] rfl Z1 ?_; (with_reducible refine (anticlinelaw3_within.calls a1 12 t215 _ A3.out).mono ?_); rintro e w' ⟨rfl, ⟨nd, rfl⟩⟩; refine ⟨_, rfl, ?_⟩))
     go_ret
     exact Z52
    ·rw [if_neg c7] at H
     have c7b0 : (t215 == 3) = false := beq_eq_false_iff_ne.mpr c7
     have c7b1 : (t215 != 3) = true := bne_iff_ne.mpr c7
     by_cases c8 : t215 = 4
     ·rw [if_pos c8] at H
      have c8b0 : (t215 == 4) = true := beq_iff_eq.mpr c8
      have c8b1 : (t215 != 4) = false := bne_eq_false_iff_eq.mpr c8
      clear c8
      obtain rfl := Option.some.inj H
      go_enter Tryz.func18, Tryz.ntmps18
      go_wp2_with (first | ((with_reducible refine gate_callee (f := 46) rfl ?_); refine goesL_ (some 6) rfl rfl Tryz.func46 Z4 rfl #[.int .i64 a1, .int .i64 12] rfl Z1 ?_; (with_reducible refine (anticlinelaw3_within.calls a1 12 t215 _ A3.out).mono ?_); rintro e w' ⟨rfl, ⟨nd, rfl⟩⟩; refine ⟨_, rfl, ?_⟩))
      go_ret
      exact Z52
     ·rw [if_neg c8] at H
      have c8b0 : (t215 == 4) = false := beq_eq_false_iff_ne.mpr c8
      have c8b1 : (t215 != 4) = true := bne_iff_ne.mpr c8
      by_cases c9 : t215 = 5
      ·rw [if_pos c9] at H
       have c9b0 : (t215 == 5) = true := beq_iff_eq.mpr c9
       have c9b1 : (t215 != 5) = false := bne_eq_false_iff_eq.mpr c9
       clear c9
       obtain rfl := Option.some.inj H
       go_enter Tryz.func18, Tryz.ntmps18
       go_wp2_with (first | ((with_reducible refine gate_callee (f := 46) rfl ?_); refine goesL_ (some 6) rfl rfl Tryz.func46 Z4 rfl #[.int .i64 a1, .int .i64 12] rfl Z1 ?_; (with_reducible refine (anticlinelaw3_within.calls a1 12 t215 _ A3.out).mono ?_); rintro e w' ⟨rfl, ⟨nd, rfl⟩⟩; refine ⟨_, rfl, ?_⟩))
       go_ret
       exact Z52
      ·rw [if_neg c9] at H
       have c9b0 : (t215 == 5) = false := beq_eq_false_iff_ne.mpr c9
       have c9b1 : (t215 != 5) = true := bne_iff_ne.mpr c9
       have HC10 := Aside0.mk H
       clear H
       go_enter Tryz.func18, Tryz.ntmps18
       go_upto_if 48 with (first | ((with_reducible refine gate_callee (f := 46) rfl ?_); refine goesL_ (some 6) rfl rfl Tryz.func46 Z4 rfl #[.int .i64 a1, .int .i64 12] rfl Z1 ?_; (with_reducible refine (anticlinelaw3_within.calls a1 12 t215 _ A3.out).mono ?_); rintro e w' ⟨rfl, ⟨nd, rfl⟩⟩; refine ⟨_, rfl, ?_⟩))
       (try simp only [PU])
       go_cut [48] (fun v48 wc => ∃ (kq : Nat) (x48_9 : Bool), v48 = .bool x48_9 ∧ Aside0 (anticlinelaw3_Make.j0 kq a0 t215 x48_9 = some r) ∧ Aside0 (kq ≤ k) ∧ Drawn0 w wc)
       case first =>
        have H := HC10.out
        clear HC10
        by_cases c11 : t215 = 6
        ·rw [if_pos c11] at H
         have c11b0 : (t215 == 6) = true := beq_iff_eq.mpr c11
         have c11b1 : (t215 != 6) = false := bne_eq_false_iff_eq.mpr c11
         clear c11
         (first | rw [c11b0] | (simp only [i64_w, i32_w]; rw [c11b0]) | skip)
         have H' := Aside0.mk H
         clear H
         go_wp2
         go_meet
         case rel => exact ⟨_, ((t215 == 6)), Z25, H', ⟨by first | omega | exact Nat.le_refl _⟩, by repeat (first | exact Drawn0.refl _ | apply Drawn0.step)⟩
        ·rw [if_neg c11] at H
         have c11b0 : (t215 == 6) = false := beq_eq_false_iff_ne.mpr c11
         have c11b1 : (t215 != 6) = true := bne_iff_ne.mpr c11
         (first | rw [c11b0] | (simp only [i64_w, i32_w]; rw [c11b0]) | skip)
         by_cases c12 : t215 = 7
         ·rw [if_pos c12] at H
          have c12b0 : (t215 == 7) = true := beq_iff_eq.mpr c12
          have c12b1 : (t215 != 7) = false := bne_eq_false_iff_eq.mpr c12
          clear c12
          have H' := Aside0.mk H
          clear H
          go_wp2
          go_meet
          case rel => exact ⟨_, ((t215 == 7)), Z25, H', ⟨by first | omega | exact Nat.le_refl _⟩, by repeat (first | exact Drawn0.refl _ | apply Drawn0.step)⟩
         ·rw [if_neg c12] at H
          have c12b0 : (t215 == 7) = false := beq_eq_false_iff_ne.mpr c12
          have c12b1 : (t215 != 7) = true := bne_iff_ne.mpr c12
          have H' := Aside0.mk H
          clear H
          go_wp2
          go_meet
          case rel => exact ⟨_, ((t215 == 8)), Z25, H', ⟨by first | omega | exact Nat.le_refl _⟩, by repeat (first | exact Drawn0.refl _ | apply Drawn0.step)⟩
       case rest =>
        clear HC10
        try clear c1
        try clear p2
        try clear c4
        try clear c4b0
        try clear c4b1
        try clear c5
        try clear c5b0
        try clear c5b1
        try clear c6
        try clear c6b0
        try clear c6b1
        try clear c7
        try clear c7b0
        try clear c7b1
        try clear c8
        try clear c8b0
        try clear c8b1
        try clear c9
        try clear c9b0
        try clear c9b1
        try clear c11
        try clear c11b0
        try clear c11b1
        try clear c12
        try clear c12b0
        try clear c12b1
        obtain ⟨kq, x48_9, rfl, HA, HJ9, ⟨mc9, rfl⟩⟩ := hcut
        cases kq with
        | zero => exact absurd HA.out (by simp [anticlinelaw3_Make.j0])
        | succ kj9 =>
         have H := HA.out
         clear HA
         simp only [anticlinelaw3_Make.j0] at H
         by_cases c13 : x48_9 = true
         ·subst c13
          have H1 : (some (Go.bits .or .u64 (Go.bits .or .u64 (Go.bits .and .u64 a0 9223372036854775808) (IntKind.u64.wrap ((IntKind.u64.wrap ((IntKind.u64.wrap (1023 + (Go.bits .and .u64 (a0 / 4294967296) 31))) - 16)) * 4503599627370496))) (IntKind.u64.wrap ((Go.bits .and .u64 a0 255) * 17592186044416)))) = some r := by rw [if_pos rfl] at H; exact H
          clear H
          have H := H1
          clear H1
          obtain rfl := Option.some.inj H
          go_wp2
          go_ret
          exact Z52
         ·replace c13 := Bool.eq_false_iff.mpr c13
          subst c13
          have H1 : (if t215 = 9 then (some (Go.bits .or .u64 (Go.bits .or .u64 (Go.bits .and .u64 a0 9223372036854775808) (IntKind.u64.wrap ((IntKind.u64.wrap ((IntKind.u64.wrap (1023 + (Go.bits .and .u64 (a0 / 4294967296) 127))) - 64)) * 4503599627370496))) (Go.bits .and .u64 a0 4503599627370495))) else (some a0)) = some r := by rw [if_neg (show ¬ (false = true) by decide)] at H; exact H
          clear H
          have H := H1
          clear H1
          by_cases c14 : t215 = 9
          ·rw [if_pos c14] at H
           have c14b0 : (t215 == 9) = true := beq_iff_eq.mpr c14
           have c14b1 : (t215 != 9) = false := bne_eq_false_iff_eq.mpr c14
           clear c14
           obtain rfl := Option.some.inj H
           go_wp2
           go_ret
           exact Z52
          ·rw [if_neg c14] at H
           have c14b0 : (t215 == 9) = false := beq_eq_false_iff_ne.mpr c14
           have c14b1 : (t215 != 9) = true := bne_iff_ne.mpr c14
           obtain rfl := Option.some.inj H
           go_wp2
           go_ret
           exact Z52
def anticlineref3_parts.f (a0 : Int) : Option (Int × Int) := if (wrap64 ((Go.bits .andNot .u64 a0 9223372036854775808) / 4503599627370496)) = 0 then (some (Go.bits .and .u64 a0 4503599627370495, (-1074))) else (some (Go.bits .or .u64 (Go.bits .and .u64 a0 4503599627370495) 4503599627370496, wrap64 ((wrap64 ((wrap64 ((Go.bits .andNot .u64 a0 9223372036854775808) / 4503599627370496)) - 1023)) - 52)))
set_option maxHeartbeats 8000000 in
set_option maxRecDepth 100000 in
theorem anticlineref3_parts.calls (a0 : Int) (r1 : Int) (r2 : Int) (w : World) (h : anticlineref3_parts.f a0 = some (r1, r2)) :
  Calls Tryz.prog 49 #[.int .u64 a0] w fun e w' => e = .returned (.tuple #[.int .u64 r1, .int .i64 r2]) ∧ Drawn0 w w' := by
 have H : (if (wrap64 ((Go.bits .andNot .u64 a0 9223372036854775808) / 4503599627370496)) = 0 then (some (Go.bits .and .u64 a0 4503599627370495, (-1074))) else (some (Go.bits .or .u64 (Go.bits .and .u64 a0 4503599627370495) 4503599627370496, wrap64 ((wrap64 ((wrap64 ((Go.bits .andNot .u64 a0 9223372036854775808) / 4503599627370496)) - 1023)) - 52)))) = some (r1, r2) := h
 clear h
 by_cases c2 : (wrap64 ((Go.bits .andNot .u64 a0 9223372036854775808) / 4503599627370496)) = 0
 ·rw [if_pos c2] at H
  have c2b0 : ((wrap64 ((Go.bits .andNot .u64 a0 9223372036854775808) / 4503599627370496)) == 0) = true := beq_iff_eq.mpr c2
  have c2b1 : ((wrap64 ((Go.bits .andNot .u64 a0 9223372036854775808) / 4503599627370496)) != 0) = false := bne_eq_false_iff_eq.mpr c2
  clear c2
  simp only [Option.some.injEq, Prod.mk.injEq] at H
  obtain ⟨rfl, rfl⟩ := H
  go_enter Tryz.func49, Tryz.ntmps49
  go_wp2
  go_ret2
  exact Z52
 ·rw [if_neg c2] at H
  have c2b0 : ((wrap64 ((Go.bits .andNot .u64 a0 9223372036854775808) / 4503599627370496)) == 0) = false := beq_eq_false_iff_ne.mpr c2
  have c2b1 : ((wrap64 ((Go.bits .andNot .u64 a0 9223372036854775808) / 4503599627370496)) != 0) = true := bne_iff_ne.mpr c2
  simp only [Option.some.injEq, Prod.mk.injEq] at H
  obtain ⟨rfl, rfl⟩ := H
  go_enter Tryz.func49, Tryz.ntmps49
  go_wp2
  go_ret2
  exact Z52
def anticlineref3_none.f (a0 : Int) : Option (Bool) := some (decide ((Go.bits .andNot .u64 a0 9223372036854775808) > 9218868437227405312))
set_option maxHeartbeats 8000000 in
set_option maxRecDepth 100000 in
theorem anticlineref3_none.calls (a0 : Int) (r : Bool) (w : World) (h : anticlineref3_none.f a0 = some r) :
  Calls Tryz.prog 47 #[.int .u64 a0] w fun e w' => e = .returned (.bool r) ∧ Drawn0 w w' := by
 have H : (some (decide ((Go.bits .andNot .u64 a0 9223372036854775808) > 9218868437227405312))) = some r := h
 clear h
 obtain rfl := Option.some.inj H
 go_enter Tryz.func47, Tryz.ntmps47
 go_wp2
 go_ret
 exact Z52
def anticlineref3_none.Pure : Prop := ∀ (a0 : Int), (Lit.int .u64 a0).wf = true → anticlineref3_none.f a0 = some true
def anticlineref3_endless.f (a0 : Int) : Option (Bool) := some ((Go.bits .andNot .u64 a0 9223372036854775808) == 9218868437227405312)
set_option maxHeartbeats 8000000 in
set_option maxRecDepth 100000 in
theorem anticlineref3_endless.calls (a0 : Int) (r : Bool) (w : World) (h : anticlineref3_endless.f a0 = some r) :
  Calls Tryz.prog 48 #[.int .u64 a0] w fun e w' => e = .returned (.bool r) ∧ Drawn0 w w' := by
 have H : (some ((Go.bits .andNot .u64 a0 9223372036854775808) == 9218868437227405312)) = some r := h
 clear h
 obtain rfl := Option.some.inj H
 go_enter Tryz.func48, Tryz.ntmps48
 go_wp2
 go_ret
 exact Z52
def anticlineref3_endless.Pure : Prop := ∀ (a0 : Int), (Lit.int .u64 a0).wf = true → anticlineref3_endless.f a0 = some true
def anticlineref3_minus.f (a0 : Int) : Option (Bool) := some ((Go.bits .and .u64 a0 9223372036854775808) != 0)
set_option maxHeartbeats 8000000 in
set_option maxRecDepth 100000 in
theorem anticlineref3_minus.calls (a0 : Int) (r : Bool) (w : World) (h : anticlineref3_minus.f a0 = some r) :
  Calls Tryz.prog 53 #[.int .u64 a0] w fun e w' => e = .returned (.bool r) ∧ Drawn0 w w' := by
 have H : (some ((Go.bits .and .u64 a0 9223372036854775808) != 0)) = some r := h
 clear h
 obtain rfl := Option.some.inj H
 go_enter Tryz.func53, Tryz.ntmps53
 go_wp2
 go_ret
 exact Z52
def anticlineref3_minus.Pure : Prop := ∀ (a0 : Int), (Lit.int .u64 a0).wf = true → anticlineref3_minus.f a0 = some true
end Go.Proofs.YtpegcppeobndcaaGreatDoor.PFl
