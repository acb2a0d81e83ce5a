/- Made by program out of the translation: what these functions compute. -/
import Derived.Test.YtpegcppeobndcaaGreatDoorAb
import Derived.Test.YtpegcppeobndcaaGreatDoorPFlx0
import Derived.Test.YtpegcppeobndcaaGreatDoorPFlx1
import Derived.Test.YtpegcppeobndcaaGreatDoorGivF
namespace Go.Proofs.YtpegcppeobndcaaGreatDoor.PFl
open Go.RowKit Go.Proofs.YtpegcppeobndcaaGreatDoor.Giv YtpegcppeobndcaaGreatDoorW.PrintWords YtpegcppeobndcaaGreatDoorW.PrintLast YtpegcppeobndcaaGreatDoorW.PrintMore
attribute [local go_sem] max2_int min2_int max_two min_two max_three min_three max_four min_four   -- for this text's walks alone
set_option linter.unusedVariables false
set_option linter.unusedSimpArgs false
mutual
def sfloat_num_round.j0 : Nat → Int → Int → Int → Int → List Int → Bool → List Int → Int → Bool → Bool → Int → Option (Int × Int)
 | 0, _, _, _, _, _, _, _, _, _, _, _ => none
 | k + 1, x1, x5, x6, x7, x9, x124000, x124001, x124002, x124003, x131000, x131001 => (nat_Small.f x9).bind fun bt134 => ((sfloat_part_up.f x131000 x131001 x1 x124000 ((Go.bits .and .u64 bt134.1 1) == 1)).bind fun t136 => (if t136 = true then (sfloat_num_round.j1 k x1 x5 x6 x7 (IntKind.u64.wrap (bt134.1 + 1)) x124000 x124001 x124002 x124003 x131000 x131001) else (sfloat_num_round.j1 k x1 x5 x6 x7 bt134.1 x124000 x124001 x124002 x124003 x131000 x131001)))
def sfloat_num_round.j1 : Nat → Int → Int → Int → Int → Int → Bool → List Int → Int → Bool → Bool → Int → Option (Int × Int)
 | 0, _, _, _, _, _, _, _, _, _, _, _ => none
 | k + 1, x1, x5, x6, x7, x11, x124000, x124001, x124002, x124003, x131000, x131001 => if x11 = 9007199254740992 then (sfloat_num_round.j2 k x1 x5 x6 (wrap64 (x7 + 1)) 4503599627370496 x124000 x124001 x124002 x124003 x131000 x131001) else (sfloat_num_round.j2 k x1 x5 x6 x7 x11 x124000 x124001 x124002 x124003 x131000 x131001)
def sfloat_num_round.j2 : Nat → Int → Int → Int → Int → Int → Bool → List Int → Int → Bool → Bool → Int → Option (Int × Int)
 | 0, _, _, _, _, _, _, _, _, _, _, _ => none
 | k + 1, x1, x5, x6, x7, x11, x124000, x124001, x124002, x124003, x131000, x131001 => if x11 ≥ 4503599627370496 then (sfloat_num_round.j3 k x1 x5 x6 x7 x11 (decide ((wrap64 (x7 + 52)) ≥ 1024)) x124000 x124001 x124002 x124003 x131000 x131001) else (sfloat_num_round.j3 k x1 x5 x6 x7 x11 false x124000 x124001 x124002 x124003 x131000 x131001)
def sfloat_num_round.j3 : Nat → Int → Int → Int → Int → Int → Bool → Bool → List Int → Int → Bool → Bool → Int → Option (Int × Int)
 | 0, _, _, _, _, _, _, _, _, _, _, _, _ => none
 | k + 1, x1, x5, x6, x7, x11, x68, x124000, x124001, x124002, x124003, x131000, x131001 => if x68 = true then ((sfloat_beyond.f x124000 x1).bind fun bt137 => (some (bt137.1, bt137.2))) else (if x131000 = true then (if x6 < (-1022) then (if x11 ≥ 4503599627370496 then ((sfloat_signed.f (IntKind.u64.wrap (x11 + (IntKind.u64.wrap ((IntKind.u64.wrap (wrap64 ((wrap64 (x7 + 1075)) - 1))) * 4503599627370496)))) x124000).bind fun t139 => (some (t139, Go.bits .or .i64 1 2))) else ((sfloat_signed.f x11 x124000).bind fun t140 => (some (t140, Go.bits .or .i64 1 2)))) else (if x11 ≥ 4503599627370496 then ((sfloat_signed.f (IntKind.u64.wrap (x11 + (IntKind.u64.wrap ((IntKind.u64.wrap (wrap64 ((wrap64 (x7 + 1075)) - 1))) * 4503599627370496)))) x124000).bind fun t141 => (some (t141, 1))) else ((sfloat_signed.f x11 x124000).bind fun t142 => (some (t142, 1))))) else (if x11 ≥ 4503599627370496 then ((sfloat_signed.f (IntKind.u64.wrap (x11 + (IntKind.u64.wrap ((IntKind.u64.wrap (wrap64 ((wrap64 (x7 + 1075)) - 1))) * 4503599627370496)))) x124000).bind fun t143 => (some (t143, x5))) else ((sfloat_signed.f x11 x124000).bind fun t144 => (some (t144, x5)))))
end
def sfloat_num_round.f (k : Nat) (a0_0 : Bool) (l0_1 : List Int) (a0_2 : Int) (a0_3 : Bool) (a1 : Int) : Option (Int × Int) := (nat_Bits.f l0_1).bind fun t124 => ((sfloat_shr.f k l0_1 (mx (wrap64 ((mx (wrap64 ((wrap64 ((wrap64 (t124 - 1)) + a0_2)) - 52)) (-1074)) - a0_2)) 0)).bind fun t125 => ((sfloat_num_rest.f a0_0 l0_1 a0_2 a0_3 t125 (wrap64 ((mx (wrap64 ((wrap64 ((wrap64 (t124 - 1)) + a0_2)) - 52)) (-1074)) - a0_2))).bind fun bt128 => (if (wrap64 ((mx (wrap64 ((wrap64 ((wrap64 (t124 - 1)) + a0_2)) - 52)) (-1074)) - a0_2)) < 0 then ((sfloat_shl.f k l0_1 (wrap64 (-(wrap64 ((mx (wrap64 ((wrap64 ((wrap64 (t124 - 1)) + a0_2)) - 52)) (-1074)) - a0_2))))).bind fun t131 => (sfloat_num_round.j0 k a1 0 (wrap64 ((wrap64 (t124 - 1)) + a0_2)) (mx (wrap64 ((wrap64 ((wrap64 (t124 - 1)) + a0_2)) - 52)) (-1074)) t131 a0_0 l0_1 a0_2 a0_3 bt128.1 bt128.2)) else (sfloat_num_round.j0 k a1 0 (wrap64 ((wrap64 (t124 - 1)) + a0_2)) (mx (wrap64 ((wrap64 ((wrap64 (t124 - 1)) + a0_2)) - 52)) (-1074)) t125 a0_0 l0_1 a0_2 a0_3 bt128.1 bt128.2))))
def sfloat_num_round.T1 : Bool × List (List Nat × List Nat) := (true, [([], []), ([0], [0]), ([1], [1]), ([2], [2]), ([], []), ([4], [4]), ([3, 5], [3, 5]), ([6, 2, 0, 1, 2, 3, 4, 5, 6], [6])])
def sfloat_num_round.B1 : List Nat := [0, 1, 3, 7, 0, 16, 63, 127]
theorem sfloat_num_round.tab1 : rtab .any (opsOf Tryz.f33 1) = sfloat_num_round.T1 := by kernel_rfl
theorem sfloat_num_round.bits1 : waitsOk sfloat_num_round.T1.2 sfloat_num_round.B1 = true := by kernel_rfl
set_option maxHeartbeats 8000000 in
set_option maxRecDepth 100000 in
theorem sfloat_num_round.calls (k : Nat) (a0_0 : Bool) (A0_1 : Option Addr) (c0_1 : Nat) (l0_1 : List Int) (a0_2 : Int) (a0_3 : Bool) (a1 : Int) (r1 : Int) (r2 : Int) (w : World) (hr0_1 : Kd.C (Kd.int .u32) w A0_1 l0_1.length l0_1) (hc0_1 : l0_1.length ≤ c0_1) (h : sfloat_num_round.f k a0_0 l0_1 a0_2 a0_3 a1 = some (r1, r2)) :
  Calls Tryz.prog 33 #[.agg #[.bool a0_0, .slice A0_1 l0_1.length c0_1, .int .i64 a0_2, .bool a0_3], .int .i64 a1] w fun e w' => e = .returned (.tuple #[.int .u64 r1, .int .i64 r2]) ∧ Below w.heap.size w w' := by
 have hu56 := Tryz.underlying56
 have hu111 := Tryz.underlying111
 have HR0_1 := Aside0.mk hr0_1
 have HC0_1 := Aside0.mk hc0_1
 clear hr0_1 hc0_1
 have HB := Aside0.mk (Below.refl w.heap.size w)
 have H : ((nat_Bits.f l0_1).bind fun t124 => ((sfloat_shr.f k l0_1 (mx (wrap64 ((mx (wrap64 ((wrap64 ((wrap64 (t124 - 1)) + a0_2)) - 52)) (-1074)) - a0_2)) 0)).bind fun t125 => ((sfloat_num_rest.f a0_0 l0_1 a0_2 a0_3 t125 (wrap64 ((mx (wrap64 ((wrap64 ((wrap64 (t124 - 1)) + a0_2)) - 52)) (-1074)) - a0_2))).bind fun bt128 => (if (wrap64 ((mx (wrap64 ((wrap64 ((wrap64 (t124 - 1)) + a0_2)) - 52)) (-1074)) - a0_2)) < 0 then ((sfloat_shl.f k l0_1 (wrap64 (-(wrap64 ((mx (wrap64 ((wrap64 ((wrap64 (t124 - 1)) + a0_2)) - 52)) (-1074)) - a0_2))))).bind fun t131 => (sfloat_num_round.j0 k a1 0 (wrap64 ((wrap64 (t124 - 1)) + a0_2)) (mx (wrap64 ((wrap64 ((wrap64 (t124 - 1)) + a0_2)) - 52)) (-1074)) t131 a0_0 l0_1 a0_2 a0_3 bt128.1 bt128.2)) else (sfloat_num_round.j0 k a1 0 (wrap64 ((wrap64 (t124 - 1)) + a0_2)) (mx (wrap64 ((wrap64 ((wrap64 (t124 - 1)) + a0_2)) - 52)) (-1074)) t125 a0_0 l0_1 a0_2 a0_3 bt128.1 bt128.2))))) = some (r1, r2) := h
 clear h
 replace H := Option.bind_eq_some_iff.mp H
 obtain ⟨t124, A30, H⟩ := H
 replace H : ((sfloat_shr.f k l0_1 (mx (wrap64 ((mx (wrap64 ((wrap64 ((wrap64 (t124 - 1)) + a0_2)) - 52)) (-1074)) - a0_2)) 0)).bind fun t125 => ((sfloat_num_rest.f a0_0 l0_1 a0_2 a0_3 t125 (wrap64 ((mx (wrap64 ((wrap64 ((wrap64 (t124 - 1)) + a0_2)) - 52)) (-1074)) - a0_2))).bind fun bt128 => (if (wrap64 ((mx (wrap64 ((wrap64 ((wrap64 (t124 - 1)) + a0_2)) - 52)) (-1074)) - a0_2)) < 0 then ((sfloat_shl.f k l0_1 (wrap64 (-(wrap64 ((mx (wrap64 ((wrap64 ((wrap64 (t124 - 1)) + a0_2)) - 52)) (-1074)) - a0_2))))).bind fun t131 => (sfloat_num_round.j0 k a1 0 (wrap64 ((wrap64 (t124 - 1)) + a0_2)) (mx (wrap64 ((wrap64 ((wrap64 (t124 - 1)) + a0_2)) - 52)) (-1074)) t131 a0_0 l0_1 a0_2 a0_3 bt128.1 bt128.2)) else (sfloat_num_round.j0 k a1 0 (wrap64 ((wrap64 (t124 - 1)) + a0_2)) (mx (wrap64 ((wrap64 ((wrap64 (t124 - 1)) + a0_2)) - 52)) (-1074)) t125 a0_0 l0_1 a0_2 a0_3 bt128.1 bt128.2)))) = some (r1, r2) := H
 have A3 := Aside0.mk A30
 clear A30
 obtain ⟨ji4, hji4⟩ : ∃ j_ : Int, (mx (wrap64 ((wrap64 ((wrap64 (t124 - 1)) + a0_2)) - 52)) (-1074)) = j_ := ⟨_, rfl⟩
 replace H : ((sfloat_shr.f k l0_1 (mx (wrap64 ((ji4) - a0_2)) 0)).bind fun t125 => ((sfloat_num_rest.f a0_0 l0_1 a0_2 a0_3 t125 (wrap64 ((ji4) - a0_2))).bind fun bt128 => (if (wrap64 ((ji4) - a0_2)) < 0 then ((sfloat_shl.f k l0_1 (wrap64 (-(wrap64 ((ji4) - a0_2))))).bind fun t131 => (sfloat_num_round.j0 k a1 0 (wrap64 ((wrap64 (t124 - 1)) + a0_2)) ji4 t131 a0_0 l0_1 a0_2 a0_3 bt128.1 bt128.2)) else (sfloat_num_round.j0 k a1 0 (wrap64 ((wrap64 (t124 - 1)) + a0_2)) ji4 t125 a0_0 l0_1 a0_2 a0_3 bt128.1 bt128.2)))) = some (r1, r2) := by first | (rw [hji4] at H; exact H) | (simp only [hji4] at H ⊢; exact H)
 (try rw [hji4] at A3)
 have hji4_ : (if (wrap64 ((wrap64 ((wrap64 (t124 - 1)) + a0_2)) - 52)) < (-1074) then (-1074) else (wrap64 ((wrap64 ((wrap64 (t124 - 1)) + a0_2)) - 52))) = ji4 := hji4
 obtain ⟨ji5, hji5⟩ : ∃ j_ : Int, (mx (wrap64 ((ji4) - a0_2)) 0) = j_ := ⟨_, rfl⟩
 replace H : ((sfloat_shr.f k l0_1 (ji5)).bind fun t125 => ((sfloat_num_rest.f a0_0 l0_1 a0_2 a0_3 t125 (wrap64 ((ji4) - a0_2))).bind fun bt128 => (if (wrap64 ((ji4) - a0_2)) < 0 then ((sfloat_shl.f k l0_1 (wrap64 (-(wrap64 ((ji4) - a0_2))))).bind fun t131 => (sfloat_num_round.j0 k a1 0 (wrap64 ((wrap64 (t124 - 1)) + a0_2)) ji4 t131 a0_0 l0_1 a0_2 a0_3 bt128.1 bt128.2)) else (sfloat_num_round.j0 k a1 0 (wrap64 ((wrap64 (t124 - 1)) + a0_2)) ji4 t125 a0_0 l0_1 a0_2 a0_3 bt128.1 bt128.2)))) = some (r1, r2) := by first | (rw [hji5] at H; exact H) | (simp only [hji5] at H ⊢; exact H)
 (try rw [hji5] at A3)
 have hji5_ : (if (wrap64 ((ji4) - a0_2)) < 0 then 0 else (wrap64 ((ji4) - a0_2))) = ji5 := hji5
 replace H := Option.bind_eq_some_iff.mp H
 obtain ⟨t125, A60, H⟩ := H
 replace H : ((sfloat_num_rest.f a0_0 l0_1 a0_2 a0_3 t125 (wrap64 ((ji4) - a0_2))).bind fun bt128 => (if (wrap64 ((ji4) - a0_2)) < 0 then ((sfloat_shl.f k l0_1 (wrap64 (-(wrap64 ((ji4) - a0_2))))).bind fun t131 => (sfloat_num_round.j0 k a1 0 (wrap64 ((wrap64 (t124 - 1)) + a0_2)) ji4 t131 a0_0 l0_1 a0_2 a0_3 bt128.1 bt128.2)) else (sfloat_num_round.j0 k a1 0 (wrap64 ((wrap64 (t124 - 1)) + a0_2)) ji4 t125 a0_0 l0_1 a0_2 a0_3 bt128.1 bt128.2))) = some (r1, r2) := H
 have A6 := Aside0.mk A60
 clear A60
 replace H := Option.bind_eq_some_iff.mp H
 obtain ⟨⟨t128, t129⟩, A70, H⟩ := H
 replace H : (if (wrap64 ((ji4) - a0_2)) < 0 then ((sfloat_shl.f k l0_1 (wrap64 (-(wrap64 ((ji4) - a0_2))))).bind fun t131 => (sfloat_num_round.j0 k a1 0 (wrap64 ((wrap64 (t124 - 1)) + a0_2)) ji4 t131 a0_0 l0_1 a0_2 a0_3 t128 t129)) else (sfloat_num_round.j0 k a1 0 (wrap64 ((wrap64 (t124 - 1)) + a0_2)) ji4 t125 a0_0 l0_1 a0_2 a0_3 t128 t129)) = some (r1, r2) := H
 have A7 := Aside0.mk A70
 clear A70
 have HC8 := Aside0.mk H
 clear H
 go_enter Tryz.func33, Tryz.ntmps33
 try go_wp2_with (first | ((with_reducible refine gate_dst (N := 2) rfl ?_); refine box_event ?hg (N := 2) ?hd (cs := #[.bool a0_0, .slice A0_1 l0_1.length c0_1, .int .i64 a0_2, .bool a0_3]) (t := 56) ?hr ?_; (case hd => rfl); (case hg => rfl); (case hr => first | (go_simp; done) | (go_simp; rfl)); intro gb123 hg w9 hbox hb; have n0_ := Aside0.mk (below_step Z0 hb); have n1_ := Aside0.mk (hbox); have n2_ := Aside0.mk ((by rw [hg]; exact (below_size Z0) : w.heap.size ≤ gb123)); have n3_ := Aside0.mk ((by rw [hg]; exact (below_size Z0) : w.heap.size ≤ gb123)); clear HB; have HB := n0_; have BK123 := n1_; have GW123 := n2_; have GE123 := n3_; clear n0_ n1_ n2_ n3_; clear hb hbox hg))
 have n0_ := Aside0.mk (blk_drew BK123.out)
 have n1_ := Aside0.mk (below_drew1 HB.out)
 clear BK123
 clear HB
 have BK123 := n0_
 have HB := n1_
 clear n0_ n1_
 refine start_ (n := 8) (S := fun w' => w'.cell? ⟨gb123, 0, none⟩ = some (.bool a0_0) ∧ w'.cell? ⟨gb123, 1, none⟩ = some (.slice A0_1 l0_1.length c0_1) ∧ w'.cell? ⟨gb123, 2, none⟩ = some (.int .i64 a0_2) ∧ w'.cell? ⟨gb123, 3, none⟩ = some (.bool a0_3)) (ds := []) #[false, false, false, false, false, false, false, false] Z4 rfl rfl ⟨(blk_cell BK123.out 0).trans rfl, (blk_cell BK123.out 1).trans rfl, (blk_cell BK123.out 2).trans rfl, (blk_cell BK123.out 3).trans rfl⟩ (fun hHeld => ?_); refine with_tabW sfloat_num_round.tab1 sfloat_num_round.bits1 (fun HT_ HW_ => ?_)
 generalize w9.drew = w10 at BK123 HB hHeld ⊢
 refine pure_ (i := 0) (N := some 13) (v := ?_) (a' := ?_) #[true, false, false, false, false, false, false, false] rfl rfl (any_of HT_.out Z4) (fun _ _ _ h => h) (Or.inl ⟨by rfl, ?_⟩) ?_ ?_
 rotate_left
 ·intro w'
  go_simp
  with_reducible rfl
 rotate_left
 ·simp only [PU, i64_w, i32_w]
  rfl
 refine pure_ (i := 4) (N := some 17) (v := ?_) (a' := ?_) #[true, false, false, false, true, false, false, false] rfl rfl (any_of HT_.out Z4) (fun _ _ _ h => h) (Or.inl ⟨by rfl, ?_⟩) ?_ ?_
 rotate_left
 ·intro w'
  go_simp
  with_reducible rfl
 rotate_left
 ·simp only [PU, i64_w, i32_w]
  rfl
 refine take_ (i := 1) (N := some 14) (v := ?_) (a' := ?_) #[true, true, false, false, true, false, false, false] rfl rfl (take_ofW HT_.out HW_.out Z4) (fun _ _ _ h => h) (Or.inl ⟨by rfl, ?_⟩) hHeld ?_ ?_
 rotate_left
 ·rintro w' ⟨s0, s1, s2, s3⟩
  go_simp
  with_reducible rfl
 rotate_left
 ·simp only [PU, i64_w, i32_w]
  rfl
 refine take_ (i := 5) (N := some 18) (v := ?_) (a' := ?_) #[true, true, false, false, true, true, false, false] rfl rfl (take_ofW HT_.out HW_.out Z4) (fun _ _ _ h => h) (Or.inl ⟨by rfl, ?_⟩) hHeld ?_ ?_
 rotate_left
 ·rintro w' ⟨s0, s1, s2, s3⟩
  go_simp
  with_reducible rfl
 rotate_left
 ·simp only [PU, i64_w, i32_w]
  rfl
 refine one_ (i := 2) (N := some 15) #[true, true, true, false, true, true, false, false] rfl rfl (one_of HT_.out Z4) Z5 (fun K hK => ?_)
 refine goes_ Tryz.func67 Z4 rfl #[.slice A0_1 l0_1.length c0_1] (by rfl) rfl rfl Z1 ?_
 with_reducible refine (nat_Bits.calls _ _ l0_1 t124 _ ?side1 ?side2 A3.out).mono ?_
 (case side1 => repeat (first | exact (Kd.C_below HR0_1.out HB.out) | (with_reducible refine Kd.C_alloc ?_ _) | (with_reducible refine Kd.C_drewN ?_ _) | (with_reducible refine Kd.C_drew ?_)))
 (case side2 => exact HC0_1.out)
 rintro e w11 ⟨rfl, hb⟩
 refine ⟨_, rfl, ?_⟩
 have n0_ := Aside0.mk (blk_below (g := gb123) (o := .cells #[.bool a0_0, .slice A0_1 l0_1.length c0_1, .int .i64 a0_2, .bool a0_3] 56 (0, 0)) Z17 hb)
 have n1_ := Aside0.mk (below_step Z13 hb)
 clear BK123
 clear HB
 have BK123 := n0_
 have HB := n1_
 clear n0_ n1_
 (try clear hb)
 (try clear hb2)
 (try clear hk)
 (try clear hi)
 refine hK.out _ _ ⟨(blk_cell BK123.out 0).trans rfl, (blk_cell BK123.out 1).trans rfl, (blk_cell BK123.out 2).trans rfl, (blk_cell BK123.out 3).trans rfl⟩ (fun hHeld => ?_)
 clear hK K
 refine norm_ (a' := ?_) ?_ ?_
 rotate_left
 ·show Act.put _ (some 15) _ = _
  simp only [PU, i64_w, i32_w]
  rfl
 refine pure_ (i := 3) (N := some 16) (v := ?_) (a' := ?_) #[true, true, true, true, true, true, false, false] rfl rfl (any_of HT_.out Z4) (fun _ _ _ h => h) (Or.inl ⟨by rfl, ?_⟩) ?_ ?_
 rotate_left
 ·intro w'
  go_simp
  with_reducible rfl
 rotate_left
 ·simp only [PU, i64_w, i32_w]
  rfl
 refine pure_ (i := 6) (N := some 19) (v := ?_) (a' := ?_) #[true, true, true, true, true, true, true, false] rfl rfl (any_of HT_.out Z4) (fun _ _ _ h => h) (Or.inl ⟨by rfl, ?_⟩) ?_ ?_
 rotate_left
 ·intro w'
  go_simp
  with_reducible rfl
 rotate_left
 ·simp only [PU, i64_w, i32_w]
  rfl
 refine pure_ (i := 7) (N := some 6) (v := ?_) (a' := ?_) #[true, true, true, true, true, true, true, true] rfl rfl (any_of HT_.out Z4) (fun _ _ _ h => h) (Or.inl ⟨by rfl, ?_⟩) ?_ ?_
 rotate_left
 ·intro w'
  go_simp
  with_reducible rfl
 rotate_left
 ·simp only [PU, i64_w, i32_w]
  rfl
 refine done_ (done_of HT_.out Z4) ?_
 have hcz12_0 : w11.cell? ⟨gb123, 0, none⟩ = some (.bool a0_0) := (blk_cell BK123.out 0).trans rfl
 have hcz12_1 : w11.cell? ⟨gb123, 1, none⟩ = some (.slice A0_1 l0_1.length c0_1) := (blk_cell BK123.out 1).trans rfl
 have hcz12_2 : w11.cell? ⟨gb123, 2, none⟩ = some (.int .i64 a0_2) := (blk_cell BK123.out 2).trans rfl
 have hcz12_3 : w11.cell? ⟨gb123, 3, none⟩ = some (.bool a0_3) := (blk_cell BK123.out 3).trans rfl
 have hfz12_0 := blk_frozen BK123.out 0
 have hfz12_1 := blk_frozen BK123.out 1
 have hfz12_2 := blk_frozen BK123.out 2
 have hfz12_3 := blk_frozen BK123.out 3
 go_upto_if 37 with (first | ((with_reducible refine gate_callee (f := 69) rfl ?_); refine goesL_ (some 31) rfl rfl Tryz.func69 Z4 rfl #[.slice A0_1 l0_1.length c0_1, .int .i64 ji5] rfl (by (try simp only [List.map_toArray, List.map_cons, List.map_nil]); first | done | (simp only [hji5]; rfl) | rfl | (simp only [List.length_drop, List.length_take]; rfl)) ?_; (with_reducible refine (sfloat_shr.calls k (fun k_ => k_ < w.heap.size) _ _ l0_1 ji5 t125 _ ?side1 A6.out).mono ?_); (case side1 => exact Kd.V_mk HC0_1.out (Kd.F_below (Kd.C_F (Kd.heap_int .u32) HR0_1.out) Z13)); rintro e w13 ⟨v126, rfl, ho0, hb⟩; refine ⟨_, rfl, ?_⟩; have n0_ := Aside0.mk (Kd.R_lower (Kd.R_mono (ok' := fun k_ => True) ho0 (fun _ hk_ => trivial)) (below_size Z13)); have n1_ := Aside0.mk (blk_below (g := gb123) (o := .cells #[.bool a0_0, .slice A0_1 l0_1.length c0_1, .int .i64 a0_2, .bool a0_3] 56 (0, 0)) Z17 hb); have n2_ := Aside0.mk (below_step Z13 hb); clear BK123; clear HB; have HO127 := n0_; have BK123 := n1_; have HB := n2_; clear n0_ n1_ n2_; (try clear hb); (try clear hb2); (try clear hk); (try clear hi); (try clear ho0); have hcz14_0 : w13.cell? ⟨gb123, 0, none⟩ = some (.bool a0_0) := (blk_cell BK123.out 0).trans rfl; have hcz14_1 : w13.cell? ⟨gb123, 1, none⟩ = some (.slice A0_1 l0_1.length c0_1) := (blk_cell BK123.out 1).trans rfl; have hcz14_2 : w13.cell? ⟨gb123, 2, none⟩ = some (.int .i64 a0_2) := (blk_cell BK123.out 2).trans rfl; have hcz14_3 : w13.cell? ⟨gb123, 3, none⟩ = some (.bool a0_3) := (blk_cell BK123.out 3).trans rfl; have hfz14_0 := blk_frozen BK123.out 0; have hfz14_1 := blk_frozen BK123.out 1; have hfz14_2 := blk_frozen BK123.out 2; have hfz14_3 := blk_frozen BK123.out 3; obtain ⟨Ao15, co15, eo15⟩ := Kd.R_slice HO127.out; subst eo15) | ((with_reducible refine gate_callee (f := 70) rfl ?_); refine goesL_ (some 35) rfl rfl Tryz.func70 Z4 rfl #[.agg #[.bool a0_0, .slice A0_1 l0_1.length c0_1, .int .i64 a0_2, .bool a0_3], .slice Ao15 t125.length co15, .int .i64 (wrap64 ((ji4) - a0_2))] rfl Z43 ?_; (with_reducible refine (sfloat_num_rest.calls a0_0 _ _ l0_1 a0_2 a0_3 _ _ t125 (wrap64 ((ji4) - a0_2)) t128 t129 _ ?side1 ?side2 ?side3 ?side4 A7.out).mono ?_); (case side1 => repeat (first | exact (Kd.C_below HR0_1.out HB.out) | (with_reducible refine Kd.C_alloc ?_ _) | (with_reducible refine Kd.C_drewN ?_ _) | (with_reducible refine Kd.C_drew ?_))); (case side2 => exact HC0_1.out); (case side3 => repeat (first | exact (Kd.R_reads' HO127.out).2.2 | (with_reducible refine Kd.C_alloc ?_ _) | (with_reducible refine Kd.C_drewN ?_ _) | (with_reducible refine Kd.C_drew ?_))); (case side4 => exact (Kd.R_reads' HO127.out).2.1); rintro e w16 ⟨rfl, hb⟩; refine ⟨_, rfl, ?_⟩; have n0_ := Aside0.mk (Kd.R_below (by (with_reducible repeat (first | apply Kd.R_alloc | apply Kd.R_drewN | apply Kd.R_drew)); exact HO127.out) hb); have n1_ := Aside0.mk (blk_below (g := gb123) (o := .cells #[.bool a0_0, .slice A0_1 l0_1.length c0_1, .int .i64 a0_2, .bool a0_3] 56 (0, 0)) Z17 hb); have n2_ := Aside0.mk (below_step Z13 hb); clear HO127; clear BK123; clear HB; have HO127 := n0_; have BK123 := n1_; have HB := n2_; clear n0_ n1_ n2_; (try clear hb); (try clear hb2); (try clear hk); (try clear hi)) | ((with_reducible refine gate_dst (N := 10) rfl ?_); refine box_event ?hg (N := 10) ?hd (cs := #[.bool false, .int .i64 0]) (t := 111) ?hr ?_; (case hd => rfl); (case hg => rfl); (case hr => first | (go_simp; done) | (go_simp; rfl)); intro gb130 hg w17 hbox hb; have n0_ := Aside0.mk (Kd.R_below (by (with_reducible repeat (first | apply Kd.R_alloc | apply Kd.R_drewN | apply Kd.R_drew)); exact HO127.out) hb); have n1_ := Aside0.mk (blk_below (g := gb123) (o := .cells #[.bool a0_0, .slice A0_1 l0_1.length c0_1, .int .i64 a0_2, .bool a0_3] 56 (0, 0)) Z17 hb); have n2_ := Aside0.mk (below_step Z13 hb); have n3_ := Aside0.mk (hbox); have n4_ := Aside0.mk ((by rw [hg]; exact (below_size Z13) : w.heap.size ≤ gb130)); have n5_ := Aside0.mk ((by rw [hg]; exact (below_size Z13) : w.heap.size ≤ gb130)); have n6_ := Aside0.mk ((by rw [hg]; exact Nat.ne_of_lt (blk_lt (g := gb123) (o := .cells #[.bool a0_0, .slice A0_1 l0_1.length c0_1, .int .i64 a0_2, .bool a0_3] 56 (0, 0)) Z17) : gb123 ≠ gb130)); have n7_ := Aside0.mk ((by rw [hg]; exact Nat.ne_of_gt (blk_lt (g := gb123) (o := .cells #[.bool a0_0, .slice A0_1 l0_1.length c0_1, .int .i64 a0_2, .bool a0_3] 56 (0, 0)) Z17) : gb130 ≠ gb123)); clear HO127; clear BK123; clear HB; have HO127 := n0_; have BK123 := n1_; have HB := n2_; have BK130 := n3_; have GW130 := n4_; have GE130 := n5_; have NB123_130 := n6_; have NB130_123 := n7_; clear n0_ n1_ n2_ n3_ n4_ n5_ n6_ n7_; clear hb hbox hg; have hnb18 := NB130_123.out; have hnc18 := NB123_130.out; have hcz19_0 : w17.cell? ⟨gb130, 0, none⟩ = some (.bool false) := (blk_cell BK130.out 0).trans rfl; have hcz19_1 : w17.cell? ⟨gb130, 1, none⟩ = some (.int .i64 0) := (blk_cell BK130.out 1).trans rfl; have hfz19_0 := blk_frozen BK130.out 0; have hfz19_1 := blk_frozen BK130.out 1))
 (try simp only [PU])
 go_cut [9] (fun v9 wc => ∃ (kq : Nat) (x9_7 : List Int), Aside0 (sfloat_num_round.j0 kq a1 0 (wrap64 ((wrap64 (t124 - 1)) + a0_2)) ji4 x9_7 a0_0 l0_1 a0_2 a0_3 t128 t129 = some (r1, r2)) ∧ Aside0 (kq ≤ k) ∧ Aside0 (Kd.R (Kd.int .u32) 94 wc w.heap.size (fun _ => True) v9 x9_7) ∧ Aside0 (wc.heap[gb123]? = some (.cells #[.bool a0_0, (.slice A0_1 l0_1.length c0_1), .int .i64 a0_2, .bool a0_3] 56 (0, 0))) ∧ Aside0 (wc.heap[gb130]? = some (.cells #[.bool t128, .int .i64 t129] 111 (0, 0))) ∧ Aside0 (Below w.heap.size w wc))
 case first =>
  have H := HC8.out
  clear HC8
  by_cases c20 : (wrap64 ((ji4) - a0_2)) < 0
  ·rw [if_pos c20] at H
   have c20b0 : decide ((wrap64 ((ji4) - a0_2)) < 0) = true := decide_eq_true c20
   clear c20
   (first | rw [c20b0] | (simp only [i64_w, i32_w]; rw [c20b0]) | skip)
   replace H := Option.bind_eq_some_iff.mp H
   obtain ⟨t131, A210, H⟩ := H
   replace H : (sfloat_num_round.j0 k a1 0 (wrap64 ((wrap64 (t124 - 1)) + a0_2)) ji4 t131 a0_0 l0_1 a0_2 a0_3 t128 t129) = some (r1, r2) := H
   have A21 := Aside0.mk A210
   clear A210
   have H' := Aside0.mk H
   clear H
   have hnb22 := NB123_130.out
   have hnc22 := NB130_123.out
   have hcz23_0 : w17.cell? ⟨gb123, 0, none⟩ = some (.bool a0_0) := (blk_cell BK123.out 0).trans rfl
   have hcz23_1 : w17.cell? ⟨gb123, 1, none⟩ = some (.slice A0_1 l0_1.length c0_1) := (blk_cell BK123.out 1).trans rfl
   have hcz23_2 : w17.cell? ⟨gb123, 2, none⟩ = some (.int .i64 a0_2) := (blk_cell BK123.out 2).trans rfl
   have hcz23_3 : w17.cell? ⟨gb123, 3, none⟩ = some (.bool a0_3) := (blk_cell BK123.out 3).trans rfl
   have hfz23_0 := blk_frozen BK123.out 0
   have hfz23_1 := blk_frozen BK123.out 1
   have hfz23_2 := blk_frozen BK123.out 2
   have hfz23_3 := blk_frozen BK123.out 3
   go_wp2_with (first | ((with_reducible refine gate_callee (f := 24) rfl ?_); refine goesL_ (some 42) rfl rfl Tryz.func24 Z4 rfl #[.slice A0_1 l0_1.length c0_1, .int .i64 (wrap64 (-(wrap64 ((ji4) - a0_2))))] rfl Z43 ?_; (with_reducible refine (sfloat_shl.calls k (fun k_ => k_ < w.heap.size) _ _ l0_1 (wrap64 (-(wrap64 ((ji4) - a0_2)))) t131 _ ?side1 A21.out).mono ?_); (case side1 => exact Kd.V_mk HC0_1.out (Kd.F_below (Kd.C_F (Kd.heap_int .u32) HR0_1.out) Z16)); rintro e w24 ⟨v132, rfl, ho0, hb⟩; refine ⟨_, rfl, ?_⟩; have n0_ := Aside0.mk (Kd.R_elder' Z35 (Kd.R_base ho0) hb); have n1_ := Aside0.mk (Kd.R_lower (Kd.R_new' (Kd.R_mono (ok' := fun k_ => True) ho0 (fun _ hk_ => trivial)) (Kd.R_lt Z35)) (below_size Z16)); have n2_ := Aside0.mk (blk_below (g := gb123) (o := .cells #[.bool a0_0, .slice A0_1 l0_1.length c0_1, .int .i64 a0_2, .bool a0_3] 56 (0, 0)) (by (with_reducible repeat (first | refine blk_drewN ?_ _ | refine blk_drew ?_ | refine blk_alloc ?_ _)); refine blk_far ?_ NB123_130.out _; (with_reducible repeat (first | refine blk_drewN ?_ _ | refine blk_drew ?_ | refine blk_alloc ?_ _)); refine blk_far ?_ NB123_130.out _; (with_reducible repeat (first | refine blk_drewN ?_ _ | refine blk_drew ?_ | refine blk_alloc ?_ _)); exact BK123.out) hb); have n3_ := Aside0.mk (blk_below (g := gb130) (o := .cells #[.bool t128, .int .i64 t129] 111 (0, 0)) (by (with_reducible repeat (first | refine blk_drewN ?_ _ | refine blk_drew ?_ | refine blk_alloc ?_ _)); refine blk_put (cs := #[.bool t128, .int .i64 0]) ?_ 1 _ rfl; (with_reducible repeat (first | refine blk_drewN ?_ _ | refine blk_drew ?_ | refine blk_alloc ?_ _)); refine blk_put (cs := #[.bool false, .int .i64 0]) ?_ 0 _ rfl; (with_reducible repeat (first | refine blk_drewN ?_ _ | refine blk_drew ?_ | refine blk_alloc ?_ _)); exact BK130.out) hb); have n4_ := Aside0.mk (below_step Z16 hb); clear HO127; clear BK123; clear BK130; clear HB; have HO127 := n0_; have HO133 := n1_; have BK123 := n2_; have BK130 := n3_; have HB := n4_; clear n0_ n1_ n2_ n3_ n4_; (try clear hb); (try clear hb2); (try clear hk); (try clear hi); (try clear ho0)))
   go_meet
   case rel => exact ⟨_, (t131), H', ⟨by first | omega | exact Nat.le_refl _⟩, ⟨by (with_reducible repeat (first | apply Kd.R_alloc | apply Kd.R_drewN | apply Kd.R_drew)); exact Kd.R_mono HO133.out (fun _ hk => trivial)⟩, ⟨by (with_reducible repeat (first | refine blk_drewN ?_ _ | refine blk_drew ?_ | refine blk_alloc ?_ _)); exact BK123.out⟩, ⟨by (with_reducible repeat (first | refine blk_drewN ?_ _ | refine blk_drew ?_ | refine blk_alloc ?_ _)); exact BK130.out⟩, ⟨by repeat (first | (with_reducible first | exact HB.out | apply below_alloc | apply pw_below_drewN | apply below_drew1 | refine below_set ?_ GE123.out | refine below_set ?_ GE130.out) | exact HB.out)⟩⟩
  ·rw [if_neg c20] at H
   have c20b0 : decide ((wrap64 ((ji4) - a0_2)) < 0) = false := decide_eq_false c20
   clear c20
   (first | rw [c20b0] | (simp only [i64_w, i32_w]; rw [c20b0]) | skip)
   have H' := Aside0.mk H
   clear H
   go_wp2
   go_meet
   case rel => exact ⟨_, (t125), H', ⟨by first | omega | exact Nat.le_refl _⟩, ⟨by (with_reducible repeat (first | apply Kd.R_alloc | apply Kd.R_drewN | apply Kd.R_drew)); exact Kd.R_mono (Kd.R_far (p := ⟨gb130, 1, none⟩) (Kd.R_far (p := ⟨gb130, 0, none⟩) (Kd.R_types HO127.out BK130.out Z5) (fun _ hk => hk.2) (.bool t128)) (fun _ hk => hk.2) (.int .i64 t129)) (fun _ hk => trivial)⟩, ⟨by (with_reducible repeat (first | refine blk_drewN ?_ _ | refine blk_drew ?_ | refine blk_alloc ?_ _)); refine blk_far ?_ NB123_130.out _; (with_reducible repeat (first | refine blk_drewN ?_ _ | refine blk_drew ?_ | refine blk_alloc ?_ _)); refine blk_far ?_ NB123_130.out _; (with_reducible repeat (first | refine blk_drewN ?_ _ | refine blk_drew ?_ | refine blk_alloc ?_ _)); exact BK123.out⟩, ⟨by (with_reducible repeat (first | refine blk_drewN ?_ _ | refine blk_drew ?_ | refine blk_alloc ?_ _)); refine blk_put (cs := #[.bool t128, .int .i64 0]) ?_ 1 _ rfl; (with_reducible repeat (first | refine blk_drewN ?_ _ | refine blk_drew ?_ | refine blk_alloc ?_ _)); refine blk_put (cs := #[.bool false, .int .i64 0]) ?_ 0 _ rfl; (with_reducible repeat (first | refine blk_drewN ?_ _ | refine blk_drew ?_ | refine blk_alloc ?_ _)); exact BK130.out⟩, ⟨by repeat (first | (with_reducible first | exact HB.out | apply below_alloc | apply pw_below_drewN | apply below_drew1 | refine below_set ?_ GE123.out | refine below_set ?_ GE130.out) | exact HB.out)⟩⟩
 case rest =>
  clear HC8
  try clear c1
  try clear c2
  try clear p2
  try clear c3
  try clear c6
  try clear p6
  try clear c7
  try clear c18
  try clear c20
  try clear c20b0
  try clear c22
  try clear c24
  try clear hcz12_0
  try clear hcz12_1
  try clear hcz12_2
  try clear hcz12_3
  try clear hcz14_0
  try clear hcz14_1
  try clear hcz14_2
  try clear hcz14_3
  try clear hcz19_0
  try clear hcz19_1
  try clear hcz23_0
  try clear hcz23_1
  try clear hcz23_2
  try clear hcz23_3
  try clear hfz12_0
  try clear hfz12_1
  try clear hfz12_2
  try clear hfz12_3
  try clear hfz14_0
  try clear hfz14_1
  try clear hfz14_2
  try clear hfz14_3
  try clear hfz19_0
  try clear hfz19_1
  try clear hfz23_0
  try clear hfz23_1
  try clear hfz23_2
  try clear hfz23_3
  obtain ⟨kq, x9_7, HA, HJ7, HO_9, BK123, BK130, HB⟩ := hcut
  cases kq with
  | zero => exact absurd HA.out (by simp [sfloat_num_round.j0])
  | succ kj7 =>
   have H := HA.out
   clear HA
   simp only [sfloat_num_round.j0] at H
   replace H := Option.bind_eq_some_iff.mp H
   obtain ⟨⟨t134, t135⟩, A250, H⟩ := H
   replace H : ((sfloat_part_up.f t128 t129 a1 a0_0 ((Go.bits .and .u64 t134 1) == 1)).bind fun t136 => (if t136 = true then (sfloat_num_round.j1 kj7 a1 0 (wrap64 ((wrap64 (t124 - 1)) + a0_2)) ji4 (IntKind.u64.wrap (t134 + 1)) a0_0 l0_1 a0_2 a0_3 t128 t129) else (sfloat_num_round.j1 kj7 a1 0 (wrap64 ((wrap64 (t124 - 1)) + a0_2)) ji4 t134 a0_0 l0_1 a0_2 a0_3 t128 t129))) = some (r1, r2) := H
   have A25 := Aside0.mk A250
   clear A250
   replace H := Option.bind_eq_some_iff.mp H
   obtain ⟨t136, A260, H⟩ := H
   replace H : (if t136 = true then (sfloat_num_round.j1 kj7 a1 0 (wrap64 ((wrap64 (t124 - 1)) + a0_2)) ji4 (IntKind.u64.wrap (t134 + 1)) a0_0 l0_1 a0_2 a0_3 t128 t129) else (sfloat_num_round.j1 kj7 a1 0 (wrap64 ((wrap64 (t124 - 1)) + a0_2)) ji4 t134 a0_0 l0_1 a0_2 a0_3 t128 t129)) = some (r1, r2) := H
   have A26 := Aside0.mk A260
   clear A260
   have HC27 := Aside0.mk H
   clear H
   obtain ⟨Ao28, co28, eo28⟩ := Kd.R_slice HO_9.out
   subst eo28
   go_upto_if 55 with (first | ((with_reducible refine gate_callee (f := 71) rfl ?_); refine goesL_ (some 45) rfl rfl Tryz.func71 Z4 rfl #[.slice Ao28 x9_7.length co28] rfl Z1 ?_; (with_reducible refine (nat_Small.calls _ _ x9_7 t134 t135 _ ?side1 ?side2 A25.out).mono ?_); (case side1 => repeat (first | exact (Kd.R_reads' HO_9.out).2.2 | (with_reducible refine Kd.C_alloc ?_ _) | (with_reducible refine Kd.C_drewN ?_ _) | (with_reducible refine Kd.C_drew ?_))); (case side2 => exact (Kd.R_reads' HO_9.out).2.1); rintro e w29 ⟨rfl, hb⟩; refine ⟨_, rfl, ?_⟩; have n0_ := Aside0.mk (Kd.R_below (by (with_reducible repeat (first | apply Kd.R_alloc | apply Kd.R_drewN | apply Kd.R_drew)); exact HO_9.out) hb); have n1_ := Aside0.mk (blk_below (g := gb123) (o := .cells #[.bool a0_0, .slice A0_1 l0_1.length c0_1, .int .i64 a0_2, .bool a0_3] 56 (0, 0)) Z17 hb); have n2_ := Aside0.mk (blk_below (g := gb130) (o := .cells #[.bool t128, .int .i64 t129] 111 (0, 0)) Z37 hb); have n3_ := Aside0.mk (below_step Z16 hb); clear HO_9; clear BK123; clear BK130; clear HB; have HO_9 := n0_; have BK123 := n1_; have BK130 := n2_; have HB := n3_; clear n0_ n1_ n2_ n3_; (try clear hb); (try clear hb2); (try clear hk); (try clear hi); have hnb30 := NB130_123.out; have hnc30 := NB123_130.out; have hcz31_0 : w29.cell? ⟨gb130, 0, none⟩ = some (.bool t128) := (blk_cell BK130.out 0).trans rfl; have hcz31_1 : w29.cell? ⟨gb130, 1, none⟩ = some (.int .i64 t129) := (blk_cell BK130.out 1).trans rfl; have hfz31_0 := blk_frozen BK130.out 0; have hfz31_1 := blk_frozen BK130.out 1; have hcz32_0 : w29.cell? ⟨gb123, 0, none⟩ = some (.bool a0_0) := (blk_cell BK123.out 0).trans rfl; have hcz32_1 : w29.cell? ⟨gb123, 1, none⟩ = some (.slice A0_1 l0_1.length c0_1) := (blk_cell BK123.out 1).trans rfl; have hcz32_2 : w29.cell? ⟨gb123, 2, none⟩ = some (.int .i64 a0_2) := (blk_cell BK123.out 2).trans rfl; have hcz32_3 : w29.cell? ⟨gb123, 3, none⟩ = some (.bool a0_3) := (blk_cell BK123.out 3).trans rfl; have hfz32_0 := blk_frozen BK123.out 0; have hfz32_1 := blk_frozen BK123.out 1; have hfz32_2 := blk_frozen BK123.out 2; have hfz32_3 := blk_frozen BK123.out 3) | ((with_reducible refine gate_callee (f := 72) rfl ?_); refine goesL_ (some 55) rfl rfl Tryz.func72 Z4 rfl #[.agg #[.bool t128, .int .i64 t129], .int .i64 a1, .bool a0_0, .bool ((Go.bits .and .u64 t134 1) == 1)] rfl Z1 ?_; (with_reducible refine (sfloat_part_up.calls t128 t129 a1 a0_0 ((Go.bits .and .u64 t134 1) == 1) t136 _ A26.out).mono ?_); rintro e w33 ⟨rfl, hb⟩; refine ⟨_, rfl, ?_⟩; have n0_ := Aside0.mk (Kd.R_below (by (with_reducible repeat (first | apply Kd.R_alloc | apply Kd.R_drewN | apply Kd.R_drew)); exact HO_9.out) hb); have n1_ := Aside0.mk (blk_below (g := gb123) (o := .cells #[.bool a0_0, .slice A0_1 l0_1.length c0_1, .int .i64 a0_2, .bool a0_3] 56 (0, 0)) Z17 hb); have n2_ := Aside0.mk (blk_below (g := gb130) (o := .cells #[.bool t128, .int .i64 t129] 111 (0, 0)) Z37 hb); have n3_ := Aside0.mk (below_step Z16 hb); clear HO_9; clear BK123; clear BK130; clear HB; have HO_9 := n0_; have BK123 := n1_; have BK130 := n2_; have HB := n3_; clear n0_ n1_ n2_ n3_; (try clear hb); (try clear hb2); (try clear hk); (try clear hi)))
   (try simp only [PU])
   go_cut [11] (fun v11 wc => ∃ (kq : Nat) (x11_26 : Int), v11 = .int .u64 x11_26 ∧ Aside0 (sfloat_num_round.j1 kq a1 0 (wrap64 ((wrap64 (t124 - 1)) + a0_2)) ji4 x11_26 a0_0 l0_1 a0_2 a0_3 t128 t129 = some (r1, r2)) ∧ Aside0 (kq ≤ kj7) ∧ Aside0 (wc.heap[gb123]? = some (.cells #[.bool a0_0, (.slice A0_1 l0_1.length c0_1), .int .i64 a0_2, .bool a0_3] 56 (0, 0))) ∧ Aside0 (wc.heap[gb130]? = some (.cells #[.bool t128, .int .i64 t129] 111 (0, 0))) ∧ Aside0 (Below w.heap.size w wc))
   case first =>
    have H := HC27.out
    clear HC27
    by_cases c34 : t136 = true
    ·subst c34
     have H1 : (sfloat_num_round.j1 kj7 a1 0 (wrap64 ((wrap64 (t124 - 1)) + a0_2)) ji4 (IntKind.u64.wrap (t134 + 1)) a0_0 l0_1 a0_2 a0_3 t128 t129) = some (r1, r2) := by rw [if_pos rfl] at H; exact H
     clear H
     have H := H1
     clear H1
     have H' := Aside0.mk H
     clear H
     go_wp2
     go_meet
     case rel => exact ⟨_, (IntKind.u64.wrap (t134 + 1)), Z25, H', ⟨by have := HJ7.out; first | omega | exact Nat.le_refl _⟩, ⟨by (with_reducible repeat (first | refine blk_drewN ?_ _ | refine blk_drew ?_ | refine blk_alloc ?_ _)); exact BK123.out⟩, ⟨by (with_reducible repeat (first | refine blk_drewN ?_ _ | refine blk_drew ?_ | refine blk_alloc ?_ _)); exact BK130.out⟩, ⟨by repeat (first | (with_reducible first | exact HB.out | apply below_alloc | apply pw_below_drewN | apply below_drew1 | refine below_set ?_ GE123.out | refine below_set ?_ GE130.out) | exact HB.out)⟩⟩
    ·replace c34 := Bool.eq_false_iff.mpr c34
     subst c34
     have H1 : (sfloat_num_round.j1 kj7 a1 0 (wrap64 ((wrap64 (t124 - 1)) + a0_2)) ji4 t134 a0_0 l0_1 a0_2 a0_3 t128 t129) = some (r1, r2) := by rw [if_neg (show ¬ (false = true) by decide)] at H; exact H
     clear H
     have H := H1
     clear H1
     have H' := Aside0.mk H
     clear H
     go_wp2
     go_meet
     case rel => exact ⟨_, (t134), Z25, H', ⟨by have := HJ7.out; first | omega | exact Nat.le_refl _⟩, ⟨by (with_reducible repeat (first | refine blk_drewN ?_ _ | refine blk_drew ?_ | refine blk_alloc ?_ _)); exact BK123.out⟩, ⟨by (with_reducible repeat (first | refine blk_drewN ?_ _ | refine blk_drew ?_ | refine blk_alloc ?_ _)); exact BK130.out⟩, ⟨by repeat (first | (with_reducible first | exact HB.out | apply below_alloc | apply pw_below_drewN | apply below_drew1 | refine below_set ?_ GE123.out | refine below_set ?_ GE130.out) | exact HB.out)⟩⟩
   case rest =>
    clear HC27
    try clear c1
    try clear c2
    try clear p2
    try clear c3
    try clear c6
    try clear p6
    try clear c7
    try clear c18
    try clear c20
    try clear c20b0
    try clear c22
    try clear c24
    try clear c30
    try clear c33
    try clear c34
    try clear hcz12_0
    try clear hcz12_1
    try clear hcz12_2
    try clear hcz12_3
    try clear hcz14_0
    try clear hcz14_1
    try clear hcz14_2
    try clear hcz14_3
    try clear hcz19_0
    try clear hcz19_1
    try clear hcz23_0
    try clear hcz23_1
    try clear hcz23_2
    try clear hcz23_3
    try clear hcz31_0
    try clear hcz31_1
    try clear hcz32_0
    try clear hcz32_1
    try clear hcz32_2
    try clear hcz32_3
    try clear hfz12_0
    try clear hfz12_1
    try clear hfz12_2
    try clear hfz12_3
    try clear hfz14_0
    try clear hfz14_1
    try clear hfz14_2
    try clear hfz14_3
    try clear hfz19_0
    try clear hfz19_1
    try clear hfz23_0
    try clear hfz23_1
    try clear hfz23_2
    try clear hfz23_3
    try clear hfz31_0
    try clear hfz31_1
    try clear hfz32_0
    try clear hfz32_1
    try clear hfz32_2
    try clear hfz32_3
    try clear p2
    try clear p6
    obtain ⟨kq, x11_26, rfl, HA, HJ26, BK123, BK130, HB⟩ := hcut
    cases kq with
    | zero => exact absurd HA.out (by simp [sfloat_num_round.j1])
    | succ kj26 =>
     have H := HA.out
     clear HA
     simp only [sfloat_num_round.j1] at H
     have HC35 := Aside0.mk H
     clear H
     go_upto_if 59 with (fail)
     go_cut [7, 11] (fun v7 v11 wc => ∃ (kq : Nat) (x7_34 : Int) (x11_34 : Int), v7 = .int .i64 x7_34 ∧ v11 = .int .u64 x11_34 ∧ Aside0 (sfloat_num_round.j2 kq a1 0 (wrap64 ((wrap64 (t124 - 1)) + a0_2)) x7_34 x11_34 a0_0 l0_1 a0_2 a0_3 t128 t129 = some (r1, r2)) ∧ Aside0 (kq ≤ kj26) ∧ Aside0 (wc.heap[gb123]? = some (.cells #[.bool a0_0, (.slice A0_1 l0_1.length c0_1), .int .i64 a0_2, .bool a0_3] 56 (0, 0))) ∧ Aside0 (wc.heap[gb130]? = some (.cells #[.bool t128, .int .i64 t129] 111 (0, 0))) ∧ Aside0 (Below w.heap.size w wc))
     case first =>
      have H := HC35.out
      clear HC35
      by_cases c36 : x11_26 = 9007199254740992
      ·rw [if_pos c36] at H
       have c36b0 : (x11_26 == 9007199254740992) = true := beq_iff_eq.mpr c36
       have c36b1 : (x11_26 != 9007199254740992) = false := bne_eq_false_iff_eq.mpr c36
       clear c36
       (first | rw [c36b0] | (simp only [i64_w, i32_w]; rw [c36b0]) | skip)
       have H' := Aside0.mk H
       clear H
       go_wp2
       go_meet
       case rel => exact ⟨_, (wrap64 (ji4 + 1)), (4503599627370496), (by first | rfl | (simp; done) | (simp only [← hji4] <;> (first | rfl | simp)) | (simp [*]; done)), Z25, H', ⟨by have := HJ7.out; have := HJ26.out; first | omega | exact Nat.le_refl _⟩, ⟨by (with_reducible repeat (first | refine blk_drewN ?_ _ | refine blk_drew ?_ | refine blk_alloc ?_ _)); exact BK123.out⟩, ⟨by (with_reducible repeat (first | refine blk_drewN ?_ _ | refine blk_drew ?_ | refine blk_alloc ?_ _)); exact BK130.out⟩, ⟨by repeat (first | (with_reducible first | exact HB.out | apply below_alloc | apply pw_below_drewN | apply below_drew1 | refine below_set ?_ GE123.out | refine below_set ?_ GE130.out) | exact HB.out)⟩⟩
      ·rw [if_neg c36] at H
       have c36b0 : (x11_26 == 9007199254740992) = false := beq_eq_false_iff_ne.mpr c36
       have c36b1 : (x11_26 != 9007199254740992) = true := bne_iff_ne.mpr c36
       (first | rw [c36b0] | (simp only [i64_w, i32_w]; rw [c36b0]) | skip)
       have H' := Aside0.mk H
       clear H
       go_wp2
       go_meet
       case rel => exact ⟨_, (ji4), (x11_26), (by first | rfl | (simp; done) | (simp only [← hji4] <;> (first | rfl | simp)) | (simp [*]; done)), Z25, H', ⟨by have := HJ7.out; have := HJ26.out; first | omega | exact Nat.le_refl _⟩, ⟨by (with_reducible repeat (first | refine blk_drewN ?_ _ | refine blk_drew ?_ | refine blk_alloc ?_ _)); exact BK123.out⟩, ⟨by (with_reducible repeat (first | refine blk_drewN ?_ _ | refine blk_drew ?_ | refine blk_alloc ?_ _)); exact BK130.out⟩, ⟨by repeat (first | (with_reducible first | exact HB.out | apply below_alloc | apply pw_below_drewN | apply below_drew1 | refine below_set ?_ GE123.out | refine below_set ?_ GE130.out) | exact HB.out)⟩⟩
     case rest =>
      clear HC35
      try clear c1
      try clear c2
      try clear p2
      try clear c3
      try clear c6
      try clear p6
      try clear c7
      try clear c18
      try clear c20
      try clear c20b0
      try clear c22
      try clear c24
      try clear c30
      try clear c33
      try clear c34
      try clear c36
      try clear c36b0
      try clear c36b1
      try clear hcz12_0
      try clear hcz12_1
      try clear hcz12_2
      try clear hcz12_3
      try clear hcz14_0
      try clear hcz14_1
      try clear hcz14_2
      try clear hcz14_3
      try clear hcz19_0
      try clear hcz19_1
      try clear hcz23_0
      try clear hcz23_1
      try clear hcz23_2
      try clear hcz23_3
      try clear hcz31_0
      try clear hcz31_1
      try clear hcz32_0
      try clear hcz32_1
      try clear hcz32_2
      try clear hcz32_3
      try clear hfz12_0
      try clear hfz12_1
      try clear hfz12_2
      try clear hfz12_3
      try clear hfz14_0
      try clear hfz14_1
      try clear hfz14_2
      try clear hfz14_3
      try clear hfz19_0
      try clear hfz19_1
      try clear hfz23_0
      try clear hfz23_1
      try clear hfz23_2
      try clear hfz23_3
      try clear hfz31_0
      try clear hfz31_1
      try clear hfz32_0
      try clear hfz32_1
      try clear hfz32_2
      try clear hfz32_3
      try clear p2
      try clear p6
      obtain ⟨kq, x7_34, x11_34, rfl, rfl, HA, HJ34, BK123, BK130, HB⟩ := hcut
      cases kq with
      | zero => exact absurd HA.out (by simp [sfloat_num_round.j2])
      | succ kj34 =>
       have H := HA.out
       clear HA
       simp only [sfloat_num_round.j2] at H
       have HC37 := Aside0.mk H
       clear H
       go_upto_region 13 with (fail)
       go_cut [68] (fun v68 wc => ∃ (kq : Nat) (x68_36 : Bool), v68 = .bool x68_36 ∧ Aside0 (sfloat_num_round.j3 kq a1 0 (wrap64 ((wrap64 (t124 - 1)) + a0_2)) x7_34 x11_34 x68_36 a0_0 l0_1 a0_2 a0_3 t128 t129 = some (r1, r2)) ∧ Aside0 (kq ≤ kj34) ∧ Aside0 (wc.heap[gb123]? = some (.cells #[.bool a0_0, (.slice A0_1 l0_1.length c0_1), .int .i64 a0_2, .bool a0_3] 56 (0, 0))) ∧ Aside0 (wc.heap[gb130]? = some (.cells #[.bool t128, .int .i64 t129] 111 (0, 0))) ∧ Aside0 (Below w.heap.size w wc))
       case first =>
        have H := HC37.out
        clear HC37
        by_cases c38 : x11_34 ≥ 4503599627370496
        ·rw [if_pos c38] at H
         have c38b0 : decide (4503599627370496 ≤ x11_34) = true := decide_eq_true c38
         clear c38
         (first | rw [c38b0] | (simp only [i64_w, i32_w]; rw [c38b0]) | skip)
         have H' := Aside0.mk H
         clear H
         go_wp2
         go_meet
         case rel => exact ⟨_, (decide ((wrap64 (x7_34 + 52)) ≥ 1024)), Z25, H', ⟨by have := HJ7.out; have := HJ26.out; have := HJ34.out; first | omega | exact Nat.le_refl _⟩, ⟨by (with_reducible repeat (first | refine blk_drewN ?_ _ | refine blk_drew ?_ | refine blk_alloc ?_ _)); exact BK123.out⟩, ⟨by (with_reducible repeat (first | refine blk_drewN ?_ _ | refine blk_drew ?_ | refine blk_alloc ?_ _)); exact BK130.out⟩, ⟨by repeat (first | (with_reducible first | exact HB.out | apply below_alloc | apply pw_below_drewN | apply below_drew1 | refine below_set ?_ GE123.out | refine below_set ?_ GE130.out) | exact HB.out)⟩⟩
        ·rw [if_neg c38] at H
         have c38b0 : decide (4503599627370496 ≤ x11_34) = false := decide_eq_false c38
         clear c38
         (first | rw [c38b0] | (simp only [i64_w, i32_w]; rw [c38b0]) | skip)
         have H' := Aside0.mk H
         clear H
         go_wp2
         go_meet
         case rel => exact ⟨_, (false), Z25, H', ⟨by have := HJ7.out; have := HJ26.out; have := HJ34.out; first | omega | exact Nat.le_refl _⟩, ⟨by (with_reducible repeat (first | refine blk_drewN ?_ _ | refine blk_drew ?_ | refine blk_alloc ?_ _)); exact BK123.out⟩, ⟨by (with_reducible repeat (first | refine blk_drewN ?_ _ | refine blk_drew ?_ | refine blk_alloc ?_ _)); exact BK130.out⟩, ⟨by repeat (first | (with_reducible first | exact HB.out | apply below_alloc | apply pw_below_drewN | apply below_drew1 | refine below_set ?_ GE123.out | refine below_set ?_ GE130.out) | exact HB.out)⟩⟩
       case rest =>
        clear HC37
        try clear c1
        try clear c2
        try clear p2
        try clear c3
        try clear c6
        try clear p6
        try clear c7
        try clear c18
        try clear c20
        try clear c20b0
        try clear c22
        try clear c24
        try clear c30
        try clear c33
        try clear c34
        try clear c36
        try clear c36b0
        try clear c36b1
        try clear c38
        try clear c38b0
        try clear hcz12_0
        try clear hcz12_1
        try clear hcz12_2
        try clear hcz12_3
        try clear hcz14_0
        try clear hcz14_1
        try clear hcz14_2
        try clear hcz14_3
        try clear hcz19_0
        try clear hcz19_1
        try clear hcz23_0
        try clear hcz23_1
        try clear hcz23_2
        try clear hcz23_3
        try clear hcz31_0
        try clear hcz31_1
        try clear hcz32_0
        try clear hcz32_1
        try clear hcz32_2
        try clear hcz32_3
        try clear hfz12_0
        try clear hfz12_1
        try clear hfz12_2
        try clear hfz12_3
        try clear hfz14_0
        try clear hfz14_1
        try clear hfz14_2
        try clear hfz14_3
        try clear hfz19_0
        try clear hfz19_1
        try clear hfz23_0
        try clear hfz23_1
        try clear hfz23_2
        try clear hfz23_3
        try clear hfz31_0
        try clear hfz31_1
        try clear hfz32_0
        try clear hfz32_1
        try clear hfz32_2
        try clear hfz32_3
        try clear p2
        try clear p6
        obtain ⟨kq, x68_36, rfl, HA, HJ36, BK123, BK130, HB⟩ := hcut
        cases kq with
        | zero => exact absurd HA.out (by simp [sfloat_num_round.j3])
        | succ kj36 =>
         have H := HA.out
         clear HA
         simp only [sfloat_num_round.j3] at H
         by_cases c39 : x68_36 = true
         ·subst c39
          have H1 : ((sfloat_beyond.f a0_0 a1).bind fun bt137 => (some (bt137.1, bt137.2))) = some (r1, r2) := by rw [if_pos rfl] at H; exact H
          clear H
          have H := H1
          clear H1
          replace H := Option.bind_eq_some_iff.mp H
          obtain ⟨⟨t137, t138⟩, A400, H⟩ := H
          replace H : (some (t137, t138)) = some (r1, r2) := H
          have A40 := Aside0.mk A400
          clear A400
          simp only [Option.some.injEq, Prod.mk.injEq] at H
          obtain ⟨rfl, rfl⟩ := H
          have hnb41 := NB123_130.out
          have hnc41 := NB130_123.out
          have hcz42_0 : wc.cell? ⟨gb123, 0, none⟩ = some (.bool a0_0) := (blk_cell BK123.out 0).trans rfl
          have hcz42_1 : wc.cell? ⟨gb123, 1, none⟩ = some (.slice A0_1 l0_1.length c0_1) := (blk_cell BK123.out 1).trans rfl
          have hcz42_2 : wc.cell? ⟨gb123, 2, none⟩ = some (.int .i64 a0_2) := (blk_cell BK123.out 2).trans rfl
          have hcz42_3 : wc.cell? ⟨gb123, 3, none⟩ = some (.bool a0_3) := (blk_cell BK123.out 3).trans rfl
          have hfz42_0 := blk_frozen BK123.out 0
          have hfz42_1 := blk_frozen BK123.out 1
          have hfz42_2 := blk_frozen BK123.out 2
          have hfz42_3 := blk_frozen BK123.out 3
          go_wp2_with (first | ((with_reducible refine gate_callee (f := 73) rfl ?_); refine goesL_ (some 72) rfl rfl Tryz.func73 Z4 rfl #[.bool a0_0, .int .i64 a1] rfl Z1 ?_; (with_reducible refine (sfloat_beyond.calls a0_0 a1 t137 t138 _ A40.out).mono ?_); rintro e w43 ⟨rfl, hb⟩; refine ⟨_, rfl, ?_⟩; have n0_ := Aside0.mk (blk_below (g := gb123) (o := .cells #[.bool a0_0, .slice A0_1 l0_1.length c0_1, .int .i64 a0_2, .bool a0_3] 56 (0, 0)) Z17 hb); have n1_ := Aside0.mk (blk_below (g := gb130) (o := .cells #[.bool t128, .int .i64 t129] 111 (0, 0)) Z37 hb); have n2_ := Aside0.mk (below_step Z16 hb); clear BK123; clear BK130; clear HB; have BK123 := n0_; have BK130 := n1_; have HB := n2_; clear n0_ n1_ n2_; (try clear hb); (try clear hb2); (try clear hk); (try clear hi)))
          go_ret2
          exact ⟨by first | rfl | (simp [errW_none, errW_some] <;> rfl) | (simp only [← hji4, ← hji5]; first | rfl | (simp [errW_none, errW_some] <;> rfl)) | (simp [*, errW_none, errW_some] <;> rfl), by repeat (first | (with_reducible first | exact HB.out | apply below_alloc | apply pw_below_drewN | apply below_drew1 | refine below_set ?_ GE123.out | refine below_set ?_ GE130.out) | exact HB.out)⟩
         ·replace c39 := Bool.eq_false_iff.mpr c39
          subst c39
          have H1 : (if t128 = true then (if (wrap64 ((wrap64 (t124 - 1)) + a0_2)) < (-1022) then (if x11_34 ≥ 4503599627370496 then ((sfloat_signed.f (IntKind.u64.wrap (x11_34 + (IntKind.u64.wrap ((IntKind.u64.wrap (wrap64 ((wrap64 (x7_34 + 1075)) - 1))) * 4503599627370496)))) a0_0).bind fun t139 => (some (t139, Go.bits .or .i64 1 2))) else ((sfloat_signed.f x11_34 a0_0).bind fun t140 => (some (t140, Go.bits .or .i64 1 2)))) else (if x11_34 ≥ 4503599627370496 then ((sfloat_signed.f (IntKind.u64.wrap (x11_34 + (IntKind.u64.wrap ((IntKind.u64.wrap (wrap64 ((wrap64 (x7_34 + 1075)) - 1))) * 4503599627370496)))) a0_0).bind fun t141 => (some (t141, 1))) else ((sfloat_signed.f x11_34 a0_0).bind fun t142 => (some (t142, 1))))) else (if x11_34 ≥ 4503599627370496 then ((sfloat_signed.f (IntKind.u64.wrap (x11_34 + (IntKind.u64.wrap ((IntKind.u64.wrap (wrap64 ((wrap64 (x7_34 + 1075)) - 1))) * 4503599627370496)))) a0_0).bind fun t143 => (some (t143, 0))) else ((sfloat_signed.f x11_34 a0_0).bind fun t144 => (some (t144, 0))))) = some (r1, r2) := by rw [if_neg (show ¬ (false = true) by decide)] at H; exact H
          clear H
          have H := H1
          clear H1
          by_cases c44 : t128 = true
          ·subst c44
           have H1 : (if (wrap64 ((wrap64 (t124 - 1)) + a0_2)) < (-1022) then (if x11_34 ≥ 4503599627370496 then ((sfloat_signed.f (IntKind.u64.wrap (x11_34 + (IntKind.u64.wrap ((IntKind.u64.wrap (wrap64 ((wrap64 (x7_34 + 1075)) - 1))) * 4503599627370496)))) a0_0).bind fun t139 => (some (t139, Go.bits .or .i64 1 2))) else ((sfloat_signed.f x11_34 a0_0).bind fun t140 => (some (t140, Go.bits .or .i64 1 2)))) else (if x11_34 ≥ 4503599627370496 then ((sfloat_signed.f (IntKind.u64.wrap (x11_34 + (IntKind.u64.wrap ((IntKind.u64.wrap (wrap64 ((wrap64 (x7_34 + 1075)) - 1))) * 4503599627370496)))) a0_0).bind fun t141 => (some (t141, 1))) else ((sfloat_signed.f x11_34 a0_0).bind fun t142 => (some (t142, 1))))) = some (r1, r2) := by rw [if_pos rfl] at H; exact H
           clear H
           have H := H1
           clear H1
           by_cases c45 : (wrap64 ((wrap64 (t124 - 1)) + a0_2)) < (-1022)
           ·rw [if_pos c45] at H
            have c45b0 : decide ((wrap64 ((wrap64 (t124 - 1)) + a0_2)) < (-1022)) = true := decide_eq_true c45
            clear c45
            by_cases c46 : x11_34 ≥ 4503599627370496
            ·rw [if_pos c46] at H
             have c46b0 : decide (4503599627370496 ≤ x11_34) = true := decide_eq_true c46
             clear c46
             replace H := Option.bind_eq_some_iff.mp H
             obtain ⟨t139, A470, H⟩ := H
             replace H : (some (t139, Go.bits .or .i64 1 2)) = some (r1, r2) := H
             have A47 := Aside0.mk A470
             clear A470
             simp only [Option.some.injEq, Prod.mk.injEq] at H
             obtain ⟨rfl, rfl⟩ := H
             have hnb48 := NB130_123.out
             have hnc48 := NB123_130.out
             have hcz49_0 : wc.cell? ⟨gb130, 0, none⟩ = some (.bool true) := (blk_cell BK130.out 0).trans rfl
             have hcz49_1 : wc.cell? ⟨gb130, 1, none⟩ = some (.int .i64 t129) := (blk_cell BK130.out 1).trans rfl
             have hfz49_0 := blk_frozen BK130.out 0
             have hfz49_1 := blk_frozen BK130.out 1
             have hcz50_0 : wc.cell? ⟨gb123, 0, none⟩ = some (.bool a0_0) := (blk_cell BK123.out 0).trans rfl
             have hcz50_1 : wc.cell? ⟨gb123, 1, none⟩ = some (.slice A0_1 l0_1.length c0_1) := (blk_cell BK123.out 1).trans rfl
             have hcz50_2 : wc.cell? ⟨gb123, 2, none⟩ = some (.int .i64 a0_2) := (blk_cell BK123.out 2).trans rfl
             have hcz50_3 : wc.cell? ⟨gb123, 3, none⟩ = some (.bool a0_3) := (blk_cell BK123.out 3).trans rfl
             have hfz50_0 := blk_frozen BK123.out 0
             have hfz50_1 := blk_frozen BK123.out 1
             have hfz50_2 := blk_frozen BK123.out 2
             have hfz50_3 := blk_frozen BK123.out 3
             go_wp2_with (first | ((with_reducible refine gate_callee (f := 74) rfl ?_); refine goesL_ (some 93) rfl rfl Tryz.func74 Z4 rfl #[.int .u64 (IntKind.u64.wrap (x11_34 + (IntKind.u64.wrap ((IntKind.u64.wrap (wrap64 ((wrap64 (x7_34 + 1075)) - 1))) * 4503599627370496)))), .bool a0_0] rfl Z1 ?_; (with_reducible refine (sfloat_signed.calls (IntKind.u64.wrap (x11_34 + (IntKind.u64.wrap ((IntKind.u64.wrap (wrap64 ((wrap64 (x7_34 + 1075)) - 1))) * 4503599627370496)))) a0_0 t139 _ A47.out).mono ?_); rintro e w' ⟨rfl, ⟨nd, rfl⟩⟩; refine ⟨_, rfl, ?_⟩))
             go_ret2
             exact ⟨by first | rfl | (simp [errW_none, errW_some] <;> rfl) | (simp only [← hji4, ← hji5]; first | rfl | (simp [errW_none, errW_some] <;> rfl)) | (simp [*, errW_none, errW_some] <;> rfl), by repeat (first | (with_reducible first | exact HB.out | apply below_alloc | apply pw_below_drewN | apply below_drew1 | refine below_set ?_ GE123.out | refine below_set ?_ GE130.out) | exact HB.out)⟩
            ·rw [if_neg c46] at H
             have c46b0 : decide (4503599627370496 ≤ x11_34) = false := decide_eq_false c46
             clear c46
             replace H := Option.bind_eq_some_iff.mp H
             obtain ⟨t140, A510, H⟩ := H
             replace H : (some (t140, Go.bits .or .i64 1 2)) = some (r1, r2) := H
             have A51 := Aside0.mk A510
             clear A510
             simp only [Option.some.injEq, Prod.mk.injEq] at H
             obtain ⟨rfl, rfl⟩ := H
             have hnb52 := NB130_123.out
             have hnc52 := NB123_130.out
             have hcz53_0 : wc.cell? ⟨gb130, 0, none⟩ = some (.bool true) := (blk_cell BK130.out 0).trans rfl
             have hcz53_1 : wc.cell? ⟨gb130, 1, none⟩ = some (.int .i64 t129) := (blk_cell BK130.out 1).trans rfl
             have hfz53_0 := blk_frozen BK130.out 0
             have hfz53_1 := blk_frozen BK130.out 1
             have hcz54_0 : wc.cell? ⟨gb123, 0, none⟩ = some (.bool a0_0) := (blk_cell BK123.out 0).trans rfl
             have hcz54_1 : wc.cell? ⟨gb123, 1, none⟩ = some (.slice A0_1 l0_1.length c0_1) := (blk_cell BK123.out 1).trans rfl
             have hcz54_2 : wc.cell? ⟨gb123, 2, none⟩ = some (.int .i64 a0_2) := (blk_cell BK123.out 2).trans rfl
             have hcz54_3 : wc.cell? ⟨gb123, 3, none⟩ = some (.bool a0_3) := (blk_cell BK123.out 3).trans rfl
             have hfz54_0 := blk_frozen BK123.out 0
             have hfz54_1 := blk_frozen BK123.out 1
             have hfz54_2 := blk_frozen BK123.out 2
             have hfz54_3 := blk_frozen BK123.out 3
             go_wp2_with (first | ((with_reducible refine gate_callee (f := 74) rfl ?_); refine goesL_ (some 93) rfl rfl Tryz.func74 Z4 rfl #[.int .u64 x11_34, .bool a0_0] rfl Z1 ?_; (with_reducible refine (sfloat_signed.calls x11_34 a0_0 t140 _ A51.out).mono ?_); rintro e w' ⟨rfl, ⟨nd, rfl⟩⟩; refine ⟨_, rfl, ?_⟩))
             go_ret2
             exact ⟨by first | rfl | (simp [errW_none, errW_some] <;> rfl) | (simp only [← hji4, ← hji5]; first | rfl | (simp [errW_none, errW_some] <;> rfl)) | (simp [*, errW_none, errW_some] <;> rfl), by repeat (first | (with_reducible first | exact HB.out | apply below_alloc | apply pw_below_drewN | apply below_drew1 | refine below_set ?_ GE123.out | refine below_set ?_ GE130.out) | exact HB.out)⟩
           ·rw [if_neg c45] at H
            have c45b0 : decide ((wrap64 ((wrap64 (t124 - 1)) + a0_2)) < (-1022)) = false := decide_eq_false c45
            clear c45
            by_cases c55 : x11_34 ≥ 4503599627370496
            ·rw [if_pos c55] at H
             have c55b0 : decide (4503599627370496 ≤ x11_34) = true := decide_eq_true c55
             clear c55
             replace H := Option.bind_eq_some_iff.mp H
             obtain ⟨t141, A560, H⟩ := H
             replace H : (some (t141, 1)) = some (r1, r2) := H
             have A56 := Aside0.mk A560
             clear A560
             simp only [Option.some.injEq, Prod.mk.injEq] at H
             obtain ⟨rfl, rfl⟩ := H
             have hnb57 := NB130_123.out
             have hnc57 := NB123_130.out
             have hcz58_0 : wc.cell? ⟨gb130, 0, none⟩ = some (.bool true) := (blk_cell BK130.out 0).trans rfl
             have hcz58_1 : wc.cell? ⟨gb130, 1, none⟩ = some (.int .i64 t129) := (blk_cell BK130.out 1).trans rfl
             have hfz58_0 := blk_frozen BK130.out 0
             have hfz58_1 := blk_frozen BK130.out 1
             have hcz59_0 : wc.cell? ⟨gb123, 0, none⟩ = some (.bool a0_0) := (blk_cell BK123.out 0).trans rfl
             have hcz59_1 : wc.cell? ⟨gb123, 1, none⟩ = some (.slice A0_1 l0_1.length c0_1) := (blk_cell BK123.out 1).trans rfl
             have hcz59_2 : wc.cell? ⟨gb123, 2, none⟩ = some (.int .i64 a0_2) := (blk_cell BK123.out 2).trans rfl
             have hcz59_3 : wc.cell? ⟨gb123, 3, none⟩ = some (.bool a0_3) := (blk_cell BK123.out 3).trans rfl
             have hfz59_0 := blk_frozen BK123.out 0
             have hfz59_1 := blk_frozen BK123.out 1
             have hfz59_2 := blk_frozen BK123.out 2
             have hfz59_3 := blk_frozen BK123.out 3
             go_wp2_with (first | ((with_reducible refine gate_callee (f := 74) rfl ?_); refine goesL_ (some 93) rfl rfl Tryz.func74 Z4 rfl #[.int .u64 (IntKind.u64.wrap (x11_34 + (IntKind.u64.wrap ((IntKind.u64.wrap (wrap64 ((wrap64 (x7_34 + 1075)) - 1))) * 4503599627370496)))), .bool a0_0] rfl Z1 ?_; (with_reducible refine (sfloat_signed.calls (IntKind.u64.wrap (x11_34 + (IntKind.u64.wrap ((IntKind.u64.wrap (wrap64 ((wrap64 (x7_34 + 1075)) - 1))) * 4503599627370496)))) a0_0 t141 _ A56.out).mono ?_); rintro e w' ⟨rfl, ⟨nd, rfl⟩⟩; refine ⟨_, rfl, ?_⟩))
             go_ret2
             exact ⟨by first | rfl | (simp [errW_none, errW_some] <;> rfl) | (simp only [← hji4, ← hji5]; first | rfl | (simp [errW_none, errW_some] <;> rfl)) | (simp [*, errW_none, errW_some] <;> rfl), by repeat (first | (with_reducible first | exact HB.out | apply below_alloc | apply pw_below_drewN | apply below_drew1 | refine below_set ?_ GE123.out | refine below_set ?_ GE130.out) | exact HB.out)⟩
            ·rw [if_neg c55] at H
             have c55b0 : decide (4503599627370496 ≤ x11_34) = false := decide_eq_false c55
             clear c55
             replace H := Option.bind_eq_some_iff.mp H
             obtain ⟨t142, A600, H⟩ := H
             replace H : (some (t142, 1)) = some (r1, r2) := H
             have A60 := Aside0.mk A600
             clear A600
             simp only [Option.some.injEq, Prod.mk.injEq] at H
             obtain ⟨rfl, rfl⟩ := H
             have hnb61 := NB130_123.out
             have hnc61 := NB123_130.out
             have hcz62_0 : wc.cell? ⟨gb130, 0, none⟩ = some (.bool true) := (blk_cell BK130.out 0).trans rfl
             have hcz62_1 : wc.cell? ⟨gb130, 1, none⟩ = some (.int .i64 t129) := (blk_cell BK130.out 1).trans rfl
             have hfz62_0 := blk_frozen BK130.out 0
             have hfz62_1 := blk_frozen BK130.out 1
             have hcz63_0 : wc.cell? ⟨gb123, 0, none⟩ = some (.bool a0_0) := (blk_cell BK123.out 0).trans rfl
             have hcz63_1 : wc.cell? ⟨gb123, 1, none⟩ = some (.slice A0_1 l0_1.length c0_1) := (blk_cell BK123.out 1).trans rfl
             have hcz63_2 : wc.cell? ⟨gb123, 2, none⟩ = some (.int .i64 a0_2) := (blk_cell BK123.out 2).trans rfl
             have hcz63_3 : wc.cell? ⟨gb123, 3, none⟩ = some (.bool a0_3) := (blk_cell BK123.out 3).trans rfl
             have hfz63_0 := blk_frozen BK123.out 0
             have hfz63_1 := blk_frozen BK123.out 1
             have hfz63_2 := blk_frozen BK123.out 2
             have hfz63_3 := blk_frozen BK123.out 3
             go_wp2_with (first | ((with_reducible refine gate_callee (f := 74) rfl ?_); refine goesL_ (some 93) rfl rfl Tryz.func74 Z4 rfl #[.int .u64 x11_34, .bool a0_0] rfl Z1 ?_; (with_reducible refine (sfloat_signed.calls x11_34 a0_0 t142 _ A60.out).mono ?_); rintro e w' ⟨rfl, ⟨nd, rfl⟩⟩; refine ⟨_, rfl, ?_⟩))
             go_ret2
             exact ⟨by first | rfl | (simp [errW_none, errW_some] <;> rfl) | (simp only [← hji4, ← hji5]; first | rfl | (simp [errW_none, errW_some] <;> rfl)) | (simp [*, errW_none, errW_some] <;> rfl), by repeat (first | (with_reducible first | exact HB.out | apply below_alloc | apply pw_below_drewN | apply below_drew1 | refine below_set ?_ GE123.out | refine below_set ?_ GE130.out) | exact HB.out)⟩
          ·replace c44 := Bool.eq_false_iff.mpr c44
           subst c44
           have H1 : (if x11_34 ≥ 4503599627370496 then ((sfloat_signed.f (IntKind.u64.wrap (x11_34 + (IntKind.u64.wrap ((IntKind.u64.wrap (wrap64 ((wrap64 (x7_34 + 1075)) - 1))) * 4503599627370496)))) a0_0).bind fun t143 => (some (t143, 0))) else ((sfloat_signed.f x11_34 a0_0).bind fun t144 => (some (t144, 0)))) = some (r1, r2) := by rw [if_neg (show ¬ (false = true) by decide)] at H; exact H
           clear H
           have H := H1
           clear H1
           by_cases c64 : x11_34 ≥ 4503599627370496
           ·rw [if_pos c64] at H
            have c64b0 : decide (4503599627370496 ≤ x11_34) = true := decide_eq_true c64
            clear c64
            replace H := Option.bind_eq_some_iff.mp H
            obtain ⟨t143, A650, H⟩ := H
            replace H : (some (t143, 0)) = some (r1, r2) := H
            have A65 := Aside0.mk A650
            clear A650
            simp only [Option.some.injEq, Prod.mk.injEq] at H
            obtain ⟨rfl, rfl⟩ := H
            have hnb66 := NB130_123.out
            have hnc66 := NB123_130.out
            have hcz67_0 : wc.cell? ⟨gb130, 0, none⟩ = some (.bool false) := (blk_cell BK130.out 0).trans rfl
            have hcz67_1 : wc.cell? ⟨gb130, 1, none⟩ = some (.int .i64 t129) := (blk_cell BK130.out 1).trans rfl
            have hfz67_0 := blk_frozen BK130.out 0
            have hfz67_1 := blk_frozen BK130.out 1
            have hcz68_0 : wc.cell? ⟨gb123, 0, none⟩ = some (.bool a0_0) := (blk_cell BK123.out 0).trans rfl
            have hcz68_1 : wc.cell? ⟨gb123, 1, none⟩ = some (.slice A0_1 l0_1.length c0_1) := (blk_cell BK123.out 1).trans rfl
            have hcz68_2 : wc.cell? ⟨gb123, 2, none⟩ = some (.int .i64 a0_2) := (blk_cell BK123.out 2).trans rfl
            have hcz68_3 : wc.cell? ⟨gb123, 3, none⟩ = some (.bool a0_3) := (blk_cell BK123.out 3).trans rfl
            have hfz68_0 := blk_frozen BK123.out 0
            have hfz68_1 := blk_frozen BK123.out 1
            have hfz68_2 := blk_frozen BK123.out 2
            have hfz68_3 := blk_frozen BK123.out 3
            go_wp2_with (first | ((with_reducible refine gate_callee (f := 74) rfl ?_); refine goesL_ (some 93) rfl rfl Tryz.func74 Z4 rfl #[.int .u64 (IntKind.u64.wrap (x11_34 + (IntKind.u64.wrap ((IntKind.u64.wrap (wrap64 ((wrap64 (x7_34 + 1075)) - 1))) * 4503599627370496)))), .bool a0_0] rfl Z1 ?_; (with_reducible refine (sfloat_signed.calls (IntKind.u64.wrap (x11_34 + (IntKind.u64.wrap ((IntKind.u64.wrap (wrap64 ((wrap64 (x7_34 + 1075)) - 1))) * 4503599627370496)))) a0_0 t143 _ A65.out).mono ?_); rintro e w' ⟨rfl, ⟨nd, rfl⟩⟩; refine ⟨_, rfl, ?_⟩))
            go_ret2
            exact ⟨by first | rfl | (simp [errW_none, errW_some] <;> rfl) | (simp only [← hji4, ← hji5]; first | rfl | (simp [errW_none, errW_some] <;> rfl)) | (simp [*, errW_none, errW_some] <;> rfl), by repeat (first | (with_reducible first | exact HB.out | apply below_alloc | apply pw_below_drewN | apply below_drew1 | refine below_set ?_ GE123.out | refine below_set ?_ GE130.out) | exact HB.out)⟩
           ·rw [if_neg c64] at H
            have c64b0 : decide (4503599627370496 ≤ x11_34) = false := decide_eq_false c64
            clear c64
            replace H := Option.bind_eq_some_iff.mp H
            obtain ⟨t144, A690, H⟩ := H
            replace H : (some (t144, 0)) = some (r1, r2) := H
            have A69 := Aside0.mk A690
            clear A690
            simp only [Option.some.injEq, Prod.mk.injEq] at H
            obtain ⟨rfl, rfl⟩ := H
            have hnb70 := NB130_123.out
            have hnc70 := NB123_130.out
            have hcz71_0 : wc.cell? ⟨gb130, 0, none⟩ = some (.bool false) := (blk_cell BK130.out 0).trans rfl
            have hcz71_1 : wc.cell? ⟨gb130, 1, none⟩ = some (.int .i64 t129) := (blk_cell BK130.out 1).trans rfl
            have hfz71_0 := blk_frozen BK130.out 0
            have hfz71_1 := blk_frozen BK130.out 1
            have hcz72_0 : wc.cell? ⟨gb123, 0, none⟩ = some (.bool a0_0) := (blk_cell BK123.out 0).trans rfl
            have hcz72_1 : wc.cell? ⟨gb123, 1, none⟩ = some (.slice A0_1 l0_1.length c0_1) := (blk_cell BK123.out 1).trans rfl
            have hcz72_2 : wc.cell? ⟨gb123, 2, none⟩ = some (.int .i64 a0_2) := (blk_cell BK123.out 2).trans rfl
            have hcz72_3 : wc.cell? ⟨gb123, 3, none⟩ = some (.bool a0_3) := (blk_cell BK123.out 3).trans rfl
            have hfz72_0 := blk_frozen BK123.out 0
            have hfz72_1 := blk_frozen BK123.out 1
            have hfz72_2 := blk_frozen BK123.out 2
            have hfz72_3 := blk_frozen BK123.out 3
            go_wp2_with (first | ((with_reducible refine gate_callee (f := 74) rfl ?_); refine goesL_ (some 93) rfl rfl Tryz.func74 Z4 rfl #[.int .u64 x11_34, .bool a0_0] rfl Z1 ?_; (with_reducible refine (sfloat_signed.calls x11_34 a0_0 t144 _ A69.out).mono ?_); rintro e w' ⟨rfl, ⟨nd, rfl⟩⟩; refine ⟨_, rfl, ?_⟩))
            go_ret2
            exact ⟨by first | rfl | (simp [errW_none, errW_some] <;> rfl) | (simp only [← hji4, ← hji5]; first | rfl | (simp [errW_none, errW_some] <;> rfl)) | (simp [*, errW_none, errW_some] <;> rfl), by repeat (first | (with_reducible first | exact HB.out | apply below_alloc | apply pw_below_drewN | apply below_drew1 | refine below_set ?_ GE123.out | refine below_set ?_ GE130.out) | exact HB.out)⟩
end Go.Proofs.YtpegcppeobndcaaGreatDoor.PFl
