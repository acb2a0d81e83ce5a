/- Made by program out of the translation: what these functions compute. -/
import Derived.Test.YtccahbfbbaaicaaGreatDoorPWdx0
import Derived.Test.YtccahbfbbaaicaaGreatDoorPWdx3
import Derived.Test.YtccahbfbbaaicaaGreatDoorGiv
namespace Go.Proofs.YtccahbfbbaaicaaGreatDoor.PWd
open Go.RowKit Go.Proofs.YtccahbfbbaaicaaGreatDoor.Giv Go.Proofs.YtccahbfbbaaicaaGreatDoorW.PrintWords Go.Proofs.YtccahbfbbaaicaaGreatDoorW.PrintLast Go.Proofs.YtccahbfbbaaicaaGreatDoorW.PrintMore
attribute [local go_sem] max2_int min2_int max_two min_two max_three min_three max_four min_four   -- for this text's walks alone
set_option linter.unusedVariables false
set_option linter.unusedSimpArgs false
mutual
def anticlineref18_quoted.l0 : Nat → ByteArray → Int → List Int → Option (ByteArray × Int)
 | 0, _, _, _ => none
 | k + 1, x0, x1, x6 => if x1 < (x0.size : Int) then (if 0 ≤ x1 then (anticlineref18_quoted.j1 k x0 x1 x6 ((bt x0 x1) != 34)) else (none)) else (anticlineref18_quoted.j1 k x0 x1 x6 false)
def anticlineref18_quoted.j1 : Nat → ByteArray → Int → List Int → Bool → Option (ByteArray × Int)
 | 0, _, _, _, _ => none
 | k + 1, x0, x1, x6, x18 => if x18 = true then (if 0 ≤ x1 then (if x1 < (x0.size : Int) then (if (bt x0 x1) = 92 then (if (wrap64 (x1 + 1)) ≥ (x0.size : Int) then (some ((⟨#[]⟩ : ByteArray), (-1))) else (if 0 ≤ (wrap64 (x1 + 1)) then (if (wrap64 (x1 + 1)) < (x0.size : Int) then (if (bt x0 (wrap64 (x1 + 1))) = 92 then (anticlineref18_quoted.j2 k x0 x1 x6 (bt x0 (wrap64 (x1 + 1))) ((bt x0 (wrap64 (x1 + 1))) == 92)) else (anticlineref18_quoted.j2 k x0 x1 x6 (bt x0 (wrap64 (x1 + 1))) ((bt x0 (wrap64 (x1 + 1))) == 34))) else (none)) else (none))) else (if x6.length < 140737488355328 then (anticlineref18_quoted.l0 k x0 (wrap64 (x1 + 1)) (x6 ++ [bt x0 x1])) else (none))) else (none)) else (none)) else (if x1 ≥ (x0.size : Int) then (some ((⟨#[]⟩ : ByteArray), (-1))) else (some (strOfNums x6, wrap64 (x1 + 1))))
def anticlineref18_quoted.j2 : Nat → ByteArray → Int → List Int → Int → Bool → Option (ByteArray × Int)
 | 0, _, _, _, _, _ => none
 | k + 1, x0, x1, x6, x39, x40 => if x40 = true then (if 0 ≤ (wrap64 (x1 + 1)) then (if (wrap64 (x1 + 1)) < (x0.size : Int) then (if x6.length < 140737488355328 then (anticlineref18_quoted.l0 k x0 (wrap64 (x1 + 2)) (x6 ++ [bt x0 (wrap64 (x1 + 1))])) else (none)) else (none)) else (none)) else (if x39 = 110 then (if x6.length < 140737488355328 then (anticlineref18_quoted.l0 k x0 (wrap64 (x1 + 2)) (x6 ++ [10])) else (none)) else (if x39 = 116 then (if x6.length < 140737488355328 then (anticlineref18_quoted.l0 k x0 (wrap64 (x1 + 2)) (x6 ++ [9])) else (none)) else (if x39 = 120 then (if (wrap64 (x1 + 3)) ≥ (x0.size : Int) then (anticlineref18_quoted.j3 k x0 x1 x6 true) else (if 0 ≤ (wrap64 (x1 + 2)) then (if (wrap64 (x1 + 2)) < (x0.size : Int) then ((anticlineref18_hex.f k (bt x0 (wrap64 (x1 + 2)))).bind fun t135 => (if t135 < 0 then (anticlineref18_quoted.j3 k x0 x1 x6 true) else (if 0 ≤ (wrap64 (x1 + 3)) then (if (wrap64 (x1 + 3)) < (x0.size : Int) then ((anticlineref18_hex.f k (bt x0 (wrap64 (x1 + 3)))).bind fun t136 => (anticlineref18_quoted.j3 k x0 x1 x6 (decide (t136 < 0)))) else (none)) else (none)))) else (none)) else (none))) else (some ((⟨#[]⟩ : ByteArray), (-1))))))
def anticlineref18_quoted.j3 : Nat → ByteArray → Int → List Int → Bool → Option (ByteArray × Int)
 | 0, _, _, _, _ => none
 | k + 1, x0, x1, x6, x82 => if x82 = true then (some ((⟨#[]⟩ : ByteArray), (-1))) else (if 0 ≤ (wrap64 (x1 + 2)) then (if (wrap64 (x1 + 2)) < (x0.size : Int) then ((anticlineref18_hex.f k (bt x0 (wrap64 (x1 + 2)))).bind fun t137 => (if 0 ≤ (wrap64 (x1 + 3)) then (if (wrap64 (x1 + 3)) < (x0.size : Int) then ((anticlineref18_hex.f k (bt x0 (wrap64 (x1 + 3)))).bind fun t138 => (if x6.length < 140737488355328 then (anticlineref18_quoted.l0 k x0 (wrap64 ((wrap64 (x1 + 2)) + 2)) (x6 ++ [(wrap64 ((wrap64 (16 * t137)) + t138)) % 256])) else (none))) else (none)) else (none))) else (none)) else (none))
end
def anticlineref18_quoted.f (k : Nat) (a0 : ByteArray) (a1 : Int) : Option (ByteArray × Int) := anticlineref18_quoted.l0 k a0 (wrap64 (a1 + 1)) ([] : List Int)
def anticlineref18_quoted.T21 : Bool × List (List Nat × List Nat) := (true, [([], []), ([], []), ([], []), ([2], [2]), ([1, 3], [1, 3]), ([4], [4]), ([5], [5]), ([], []), ([], []), ([8], [8]), ([7, 9], [7, 9]), ([10, 5], [10]), ([6, 11], [6, 11]), ([12], [12]), ([13], [13]), ([0, 14, 11], [0, 14]), ([15, 15, 0, 1, 2, 3, 4, 5, 6, 7, 8, 9, 10, 11, 12, 13, 14, 15], [0, 15])])
def anticlineref18_quoted.B21 : List Nat := [0, 0, 0, 4, 14, 30, 62, 0, 0, 256, 896, 1982, 4094, 8190, 16382, 32767, 65535]
theorem anticlineref18_quoted.tab21 : rtab .any (opsOf Tryz.f12 21) = anticlineref18_quoted.T21 := by kernel_rfl
theorem anticlineref18_quoted.bits21 : waitsOk anticlineref18_quoted.T21.2 anticlineref18_quoted.B21 = true := by kernel_rfl
set_option maxHeartbeats 8000000 in
set_option maxRecDepth 100000 in
theorem anticlineref18_quoted.calls (k : Nat) (a0 : ByteArray) (a1 : Int) (r1 : ByteArray) (r2 : Int) (w : World) (h : anticlineref18_quoted.f k a0 a1 = some (r1, r2)) :
  Calls Tryz.prog 12 #[.string a0, .int .i64 a1] w fun e w' => e = .returned (.tuple #[.string r1, .int .i64 r2]) ∧ Below w.heap.size w w' := by
 have HB := Aside0.mk (Below.refl w.heap.size w)
 have H : (anticlineref18_quoted.l0 k a0 (wrap64 (a1 + 1)) ([] : List Int)) = some (r1, r2) := h
 clear h
 have H' := Aside0.mk H
 clear H
 go_enter Tryz.func12, Tryz.ntmps12
 go_wp2
 go_loopg [1, 6] k (fun kq v1 v6 w' => ∃ (x1_1 : Int) (x6_1 : List Int), v1 = .int .i64 x1_1 ∧ Aside0 (anticlineref18_quoted.l0 kq a0 x1_1 x6_1 = some (r1, r2)) ∧ Aside0 (kq ≤ k) ∧ Aside0 (Kd.R (Kd.int .u8) 5 w' w.heap.size (fun _ => True) v6 x6_1) ∧ Aside0 (Below w.heap.size w w'))
 case atStart => exact ⟨(wrap64 (a1 + 1)), (([] : List Int)), (by first | rfl | (simp; done) | (simp [*]; done)), H', ⟨Nat.le_refl _⟩, ⟨by first | exact Kd.R_nil _ _ _ _ _ | exact Kd.N_nil _ _ _ _ _ | exact Kd.V_nil _ _ _ _ _ | exact Kd.Q_nil _ _ _ _ _ | exact Kd.S_nil _ _ _ _ _⟩, ⟨by repeat (first | (with_reducible first | exact HB.out | apply below_alloc | apply pw_below_drewN | apply below_drew1) | exact HB.out)⟩⟩
 case round =>
  clear H'
  try clear c1
  try clear p2
  obtain ⟨x1_1, x6_1, rfl, HA, HK1, HO_6, HB⟩ := hrel
  cases gk with
  | zero => exact absurd HA.out (by simp [anticlineref18_quoted.l0])
  | succ k1 =>
   have H := HA.out
   clear HA
   simp only [anticlineref18_quoted.l0] at H
   have HC3 := Aside0.mk H
   clear H
   go_upto_region 3 with (fail)
   go_cut [18] (fun v18 wc => ∃ (kq : Nat) (x18_2 : Bool), v18 = .bool x18_2 ∧ Aside0 (anticlineref18_quoted.j1 kq a0 x1_1 x6_1 x18_2 = some (r1, r2)) ∧ Aside0 (kq ≤ k1) ∧ Aside0 (Kd.R (Kd.int .u8) 5 wc w.heap.size (fun _ => True) u6 x6_1) ∧ Aside0 (Below w.heap.size w wc))
   case first =>
    have H := HC3.out
    clear HC3
    by_cases c4 : x1_1 < (a0.size : Int)
    ·rw [if_pos c4] at H
     have c4b0 : decide (x1_1 < (a0.size : Int)) = true := decide_eq_true c4
     clear c4
     (first | rw [c4b0] | (simp only [i64_w, i32_w]; rw [c4b0]) | skip)
     by_cases c5 : 0 ≤ x1_1
     ·rw [if_pos c5] at H
      have c5b0 : decide (0 ≤ x1_1) = true := decide_eq_true c5
      clear c5
      have H' := Aside0.mk H
      clear H
      have p6 : 0 ≤ (x1_1 : Int) := of_decide_eq_true (by first | (with_reducible assumption) | assumption)
      have q6 : x1_1 < (a0.size : Int) := of_decide_eq_true (by first | (with_reducible assumption) | assumption)
      have hx6 := bt_at a0 x1_1
      replace p6 := eq_true p6
      replace q6 := eq_true q6
      go_wp2
      go_meet
      case rel => exact ⟨_, (((bt a0 x1_1) != 34)), (by first | rfl | (simp; done) | (simp [*]; done)), H', ⟨by have := HK1.out; first | omega | exact Nat.le_refl _⟩, ⟨by (with_reducible repeat (first | apply Kd.R_alloc | apply Kd.R_drewN | apply Kd.R_drew)); exact HO_6.out⟩, ⟨by repeat (first | (with_reducible first | exact HB.out | apply below_alloc | apply pw_below_drewN | apply below_drew1) | exact HB.out)⟩⟩
     ·rw [if_neg c5] at H
      exact absurd H (by simp)
    ·rw [if_neg c4] at H
     have c4b0 : decide (x1_1 < (a0.size : Int)) = false := decide_eq_false c4
     clear c4
     (first | rw [c4b0] | (simp only [i64_w, i32_w]; rw [c4b0]) | skip)
     have H' := Aside0.mk H
     clear H
     go_wp2
     go_meet
     case rel => exact ⟨_, (false), (by first | rfl | (simp; done) | (simp [*]; done)), H', ⟨by have := HK1.out; first | omega | exact Nat.le_refl _⟩, ⟨by (with_reducible repeat (first | apply Kd.R_alloc | apply Kd.R_drewN | apply Kd.R_drew)); exact HO_6.out⟩, ⟨by repeat (first | (with_reducible first | exact HB.out | apply below_alloc | apply pw_below_drewN | apply below_drew1) | exact HB.out)⟩⟩
   case rest =>
    clear HC3
    try clear c1
    try clear p2
    try clear c4
    try clear c4b0
    try clear c5
    try clear c5b0
    try clear p6
    try clear q6
    try clear hx6
    try clear p2
    try clear p6
    try clear q6
    obtain ⟨kq, x18_2, rfl, HA, HJ2, HO_6, HB⟩ := hcut
    cases kq with
    | zero => exact absurd HA.out (by simp [anticlineref18_quoted.j1])
    | succ kj2 =>
     have H := HA.out
     clear HA
     simp only [anticlineref18_quoted.j1] at H
     by_cases c7 : x18_2 = true
     ·subst c7
      have H1 : (if 0 ≤ x1_1 then (if x1_1 < (a0.size : Int) then (if (bt a0 x1_1) = 92 then (if (wrap64 (x1_1 + 1)) ≥ (a0.size : Int) then (some ((⟨#[]⟩ : ByteArray), (-1))) else (if 0 ≤ (wrap64 (x1_1 + 1)) then (if (wrap64 (x1_1 + 1)) < (a0.size : Int) then (if (bt a0 (wrap64 (x1_1 + 1))) = 92 then (anticlineref18_quoted.j2 kj2 a0 x1_1 x6_1 (bt a0 (wrap64 (x1_1 + 1))) ((bt a0 (wrap64 (x1_1 + 1))) == 92)) else (anticlineref18_quoted.j2 kj2 a0 x1_1 x6_1 (bt a0 (wrap64 (x1_1 + 1))) ((bt a0 (wrap64 (x1_1 + 1))) == 34))) else (none)) else (none))) else (if x6_1.length < 140737488355328 then (anticlineref18_quoted.l0 kj2 a0 (wrap64 (x1_1 + 1)) (x6_1 ++ [bt a0 x1_1])) else (none))) else (none)) else (none)) = some (r1, r2) := by rw [if_pos rfl] at H; exact H
      clear H
      have H := H1
      clear H1
      by_cases c8 : 0 ≤ x1_1
      ·rw [if_pos c8] at H
       have c8b0 : decide (0 ≤ x1_1) = true := decide_eq_true c8
       clear c8
       by_cases c9 : x1_1 < (a0.size : Int)
       ·rw [if_pos c9] at H
        have c9b0 : decide (x1_1 < (a0.size : Int)) = true := decide_eq_true c9
        clear c9
        by_cases c11 : (bt a0 x1_1) = 92
        ·rw [if_pos c11] at H
         have c11b0 : ((bt a0 x1_1) == 92) = true := beq_iff_eq.mpr c11
         have c11b1 : ((bt a0 x1_1) != 92) = false := bne_eq_false_iff_eq.mpr c11
         clear c11
         by_cases c12 : (wrap64 (x1_1 + 1)) ≥ (a0.size : Int)
         ·rw [if_pos c12] at H
          have c12b0 : decide ((a0.size : Int) ≤ (wrap64 (x1_1 + 1))) = true := decide_eq_true c12
          clear c12
          simp only [Option.some.injEq, Prod.mk.injEq] at H
          obtain ⟨rfl, rfl⟩ := H
          have p10 : 0 ≤ (x1_1 : Int) := of_decide_eq_true (by first | (with_reducible assumption) | assumption)
          have q10 : x1_1 < (a0.size : Int) := of_decide_eq_true (by first | (with_reducible assumption) | assumption)
          have hx10 := bt_at a0 x1_1
          replace p10 := eq_true p10
          replace q10 := eq_true q10
          go_wp2
          go_ret2
          exact ⟨by first | rfl | (simp [errW_none, errW_some] <;> rfl) | (simp [*, errW_none, errW_some] <;> rfl), by repeat (first | (with_reducible first | exact HB.out | apply below_alloc | apply pw_below_drewN | apply below_drew1) | exact HB.out)⟩
         ·rw [if_neg c12] at H
          have c12b0 : decide ((a0.size : Int) ≤ (wrap64 (x1_1 + 1))) = false := decide_eq_false c12
          clear c12
          obtain ⟨ji13, hji13⟩ : ∃ j_ : Int, (wrap64 (x1_1 + 1)) = j_ := ⟨_, rfl⟩
          replace H : (if 0 ≤ (ji13) then (if (ji13) < (a0.size : Int) then (if (bt a0 (ji13)) = 92 then (anticlineref18_quoted.j2 kj2 a0 x1_1 x6_1 (bt a0 (ji13)) ((bt a0 (ji13)) == 92)) else (anticlineref18_quoted.j2 kj2 a0 x1_1 x6_1 (bt a0 (ji13)) ((bt a0 (ji13)) == 34))) else (none)) else (none)) = some (r1, r2) := by first | (rw [hji13] at H; exact H) | (simp only [hji13] at H ⊢; exact H)
          (try rw [hji13] at c12b0)
          have hji13w : (IntKind.i64.wrap (x1_1 + 1)) = ji13 := (i64_w _).trans hji13
          by_cases c14 : 0 ≤ (ji13)
          ·rw [if_pos c14] at H
           have c14b0 : decide (0 ≤ (ji13)) = true := decide_eq_true c14
           clear c14
           by_cases c15 : (ji13) < (a0.size : Int)
           ·rw [if_pos c15] at H
            have c15b0 : decide ((ji13) < (a0.size : Int)) = true := decide_eq_true c15
            clear c15
            have HC17 := Aside0.mk H
            clear H
            have p10 : 0 ≤ (x1_1 : Int) := of_decide_eq_true (by first | (with_reducible assumption) | assumption)
            have q10 : x1_1 < (a0.size : Int) := of_decide_eq_true (by first | (with_reducible assumption) | assumption)
            have hx10 := bt_at a0 x1_1
            replace p10 := eq_true p10
            replace q10 := eq_true q10
            have p16 : 0 ≤ ((ji13) : Int) := of_decide_eq_true (by first | (with_reducible assumption) | assumption)
            have q16 : (ji13) < (a0.size : Int) := of_decide_eq_true (by first | (with_reducible assumption) | assumption)
            have hx16 := bt_at a0 (ji13)
            replace p16 := eq_true p16
            replace q16 := eq_true q16
            go_upto_if 40 with (fail)
            go_cut [40] (fun v40 wc => ∃ (kq : Nat) (x40_16 : Bool), v40 = .bool x40_16 ∧ Aside0 (anticlineref18_quoted.j2 kq a0 x1_1 x6_1 (bt a0 (ji13)) x40_16 = some (r1, r2)) ∧ Aside0 (kq ≤ kj2) ∧ Aside0 (Kd.R (Kd.int .u8) 5 wc w.heap.size (fun _ => True) u6 x6_1) ∧ Aside0 (Below w.heap.size w wc))
            case first =>
             have H := HC17.out
             clear HC17
             by_cases c18 : (bt a0 (ji13)) = 92
             ·rw [if_pos c18] at H
              have c18b0 : ((bt a0 (ji13)) == 92) = true := beq_iff_eq.mpr c18
              have c18b1 : ((bt a0 (ji13)) != 92) = false := bne_eq_false_iff_eq.mpr c18
              clear c18
              (first | rw [c18b0] | (simp only [i64_w, i32_w]; rw [c18b0]) | skip)
              have H' := Aside0.mk H
              clear H
              go_wp2
              go_meet
              case rel => exact ⟨_, (((bt a0 (ji13)) == 92)), (by first | rfl | (rw [c18b0]; done) | (rw [c18b0]) | (simp; done) | (simp only [← hji13] <;> (first | rfl | simp)) | (simp [*]; done)), H', ⟨by have := HK1.out; have := HJ2.out; first | omega | exact Nat.le_refl _⟩, ⟨by (with_reducible repeat (first | apply Kd.R_alloc | apply Kd.R_drewN | apply Kd.R_drew)); exact HO_6.out⟩, ⟨by repeat (first | (with_reducible first | exact HB.out | apply below_alloc | apply pw_below_drewN | apply below_drew1) | exact HB.out)⟩⟩
             ·rw [if_neg c18] at H
              have c18b0 : ((bt a0 (ji13)) == 92) = false := beq_eq_false_iff_ne.mpr c18
              have c18b1 : ((bt a0 (ji13)) != 92) = true := bne_iff_ne.mpr c18
              (first | rw [c18b0] | (simp only [i64_w, i32_w]; rw [c18b0]) | skip)
              have H' := Aside0.mk H
              clear H
              go_wp2
              go_meet
              case rel => exact ⟨_, (((bt a0 (ji13)) == 34)), (by first | rfl | (simp; done) | (simp only [← hji13] <;> (first | rfl | simp)) | (simp [*]; done)), H', ⟨by have := HK1.out; have := HJ2.out; first | omega | exact Nat.le_refl _⟩, ⟨by (with_reducible repeat (first | apply Kd.R_alloc | apply Kd.R_drewN | apply Kd.R_drew)); exact HO_6.out⟩, ⟨by repeat (first | (with_reducible first | exact HB.out | apply below_alloc | apply pw_below_drewN | apply below_drew1) | exact HB.out)⟩⟩
            case rest =>
             clear HC17
             try clear c1
             try clear p1
             try clear q1
             try clear hx1
             try clear p2
             try clear c4
             try clear c4b0
             try clear c5
             try clear c5b0
             try clear p6
             try clear q6
             try clear hx6
             try clear c7
             try clear c8
             try clear c8b0
             try clear c9
             try clear c9b0
             try clear p10
             try clear q10
             try clear hx10
             try clear c11
             try clear c11b0
             try clear c11b1
             try clear c12
             try clear c12b0
             try clear c14
             try clear c14b0
             try clear c15
             try clear c15b0
             try clear p16
             try clear q16
             try clear hx16
             try clear c18
             try clear c18b0
             try clear c18b1
             try clear p10
             try clear p16
             try clear p2
             try clear p6
             try clear q10
             try clear q16
             try clear q6
             obtain ⟨kq, x40_16, rfl, HA, HJ16, HO_6, HB⟩ := hcut
             cases kq with
             | zero => exact absurd HA.out (by simp [anticlineref18_quoted.j2])
             | succ kj16 =>
              have H := HA.out
              clear HA
              simp only [anticlineref18_quoted.j2] at H
              by_cases c19 : x40_16 = true
              ·subst c19
               have H1 : (if 0 ≤ (wrap64 (x1_1 + 1)) then (if (wrap64 (x1_1 + 1)) < (a0.size : Int) then (if x6_1.length < 140737488355328 then (anticlineref18_quoted.l0 kj16 a0 (wrap64 (x1_1 + 2)) (x6_1 ++ [bt a0 (wrap64 (x1_1 + 1))])) else (none)) else (none)) else (none)) = some (r1, r2) := by rw [if_pos rfl] at H; exact H
               clear H
               have H := H1
               clear H1
               obtain ⟨ji20, hji20⟩ : ∃ j_ : Int, (wrap64 (x1_1 + 1)) = j_ := ⟨_, rfl⟩
               replace H : (if 0 ≤ (ji20) then (if (ji20) < (a0.size : Int) then (if x6_1.length < 140737488355328 then (anticlineref18_quoted.l0 kj16 a0 (wrap64 (x1_1 + 2)) (x6_1 ++ [bt a0 (ji20)])) else (none)) else (none)) else (none)) = some (r1, r2) := by first | (rw [hji20] at H; exact H) | (simp only [hji20] at H ⊢; exact H)
               have hj_ : ji20 = ji13 := hji20.symm.trans hji13
               subst hj_
               (try rw [hji20] at c12b0)
               have hji20w : (IntKind.i64.wrap (x1_1 + 1)) = ji20 := (i64_w _).trans hji20
               by_cases c21 : 0 ≤ (ji20)
               ·rw [if_pos c21] at H
                have c21b0 : decide (0 ≤ (ji20)) = true := decide_eq_true c21
                clear c21
                by_cases c22 : (ji20) < (a0.size : Int)
                ·rw [if_pos c22] at H
                 have c22b0 : decide ((ji20) < (a0.size : Int)) = true := decide_eq_true c22
                 clear c22
                 by_cases c24 : x6_1.length < 140737488355328
                 ·rw [if_pos c24] at H
                  have LMc24 := Aside0.mk c24
                  clear c24
                  obtain ⟨y126, hy126⟩ : ∃ y_ : List Int, y_ = (x6_1 ++ [bt a0 (ji20)]) := ⟨_, rfl⟩
                  replace H : (anticlineref18_quoted.l0 kj16 a0 (wrap64 (x1_1 + 2)) y126) = some (r1, r2) := by first | (rw [hy126]; with_reducible exact H) | (have H2_ := (Option.bind_some _ _).symm.trans H; rw [hy126]; with_reducible exact H2_) | (have H2_ := (Option.bind_some _ _).symm.trans H; with_reducible exact H2_) | with_reducible exact H | (rw [hy126]; exact H) | exact H
                  have Ny126 := Aside0.mk hy126
                  clear hy126
                  have H' := Aside0.mk H
                  clear H
                  have p23 : 0 ≤ ((ji20) : Int) := of_decide_eq_true (by first | (with_reducible assumption) | assumption)
                  have q23 : (ji20) < (a0.size : Int) := of_decide_eq_true (by first | (with_reducible assumption) | assumption)
                  have hx23 := bt_at a0 (ji20)
                  replace p23 := eq_true p23
                  replace q23 := eq_true q23
                  go_wp2_with (first | ((with_reducible refine gate_builtin (b := .append) (xs := #[.tmp 43, .tmp 48]) rfl ?_); at_builtin; refine Kd.R_append (Kd.int .u8) (w0 := w) w.heap.size rfl (.tmp 43) (.tmp 48) 22 5 (.int .u8 0) 1 rfl Tryz.underlying22 info5 rfl (by decide) (by omega) u6 x6_1 (bt a0 (ji20)) [.int .u8 (bt a0 (ji20))] (fun _ => True) (fun _ => False) rfl rfl ?aP (fun _ hk => hk.elim) ?aF ?aO ?aB ?aS ?aL ?_; (case aP => exact rfl); (case aB => exact (by repeat (first | (with_reducible first | exact HB.out | apply below_alloc | apply pw_below_drewN | apply below_drew1) | exact HB.out))); (case aF => exact (fun _ _ => trivial)); (case aO => exact (by (with_reducible repeat (first | apply Kd.R_alloc | apply Kd.R_drewN | apply Kd.R_drew)); exact HO_6.out)); (case aS => exact (below_size (by repeat (first | (with_reducible first | exact HB.out | apply below_alloc | apply pw_below_drewN | apply below_drew1) | exact HB.out)))); (case aL => have := LMc24.out; omega); intro v127 w25 ho hb hg hat; rw [← Ny126.out] at ho; have n0_ := Aside0.mk (hb); have n1_ := Aside0.mk (ho); clear HB; clear HO_6; have HB := n0_; have HO128 := n1_; clear n0_ n1_; clear ho hb hg hat))
                  go_roundg kj16
                  case measure => have := HK1.out; have := HJ2.out; have := HJ16.out; omega
                  case rel => exact ⟨(wrap64 (x1_1 + 2)), (y126), (by first | rfl | (simp; done) | (simp [*]; done)), H', ⟨by have := HK1.out; have := HJ2.out; have := HJ16.out; omega⟩, ⟨by (with_reducible repeat (first | apply Kd.R_alloc | apply Kd.R_drewN | apply Kd.R_drew)); exact HO128.out⟩, ⟨by repeat (first | (with_reducible first | exact HB.out | apply below_alloc | apply pw_below_drewN | apply below_drew1) | exact HB.out)⟩⟩
                 ·rw [if_neg c24] at H
                  exact absurd H (by simp)
                ·rw [if_neg c22] at H
                 exact absurd H (by simp)
               ·rw [if_neg c21] at H
                exact absurd H (by simp)
              ·replace c19 := Bool.eq_false_iff.mpr c19
               subst c19
               have H1 : (if (bt a0 (ji13)) = 110 then (if x6_1.length < 140737488355328 then (anticlineref18_quoted.l0 kj16 a0 (wrap64 (x1_1 + 2)) (x6_1 ++ [10])) else (none)) else (if (bt a0 (ji13)) = 116 then (if x6_1.length < 140737488355328 then (anticlineref18_quoted.l0 kj16 a0 (wrap64 (x1_1 + 2)) (x6_1 ++ [9])) else (none)) else (if (bt a0 (ji13)) = 120 then (if (wrap64 (x1_1 + 3)) ≥ (a0.size : Int) then (anticlineref18_quoted.j3 kj16 a0 x1_1 x6_1 true) else (if 0 ≤ (wrap64 (x1_1 + 2)) then (if (wrap64 (x1_1 + 2)) < (a0.size : Int) then ((anticlineref18_hex.f kj16 (bt a0 (wrap64 (x1_1 + 2)))).bind fun t135 => (if t135 < 0 then (anticlineref18_quoted.j3 kj16 a0 x1_1 x6_1 true) else (if 0 ≤ (wrap64 (x1_1 + 3)) then (if (wrap64 (x1_1 + 3)) < (a0.size : Int) then ((anticlineref18_hex.f kj16 (bt a0 (wrap64 (x1_1 + 3)))).bind fun t136 => (anticlineref18_quoted.j3 kj16 a0 x1_1 x6_1 (decide (t136 < 0)))) else (none)) else (none)))) else (none)) else (none))) else (some ((⟨#[]⟩ : ByteArray), (-1)))))) = some (r1, r2) := by rw [if_neg (show ¬ (false = true) by decide)] at H; exact H
               clear H
               have H := H1
               clear H1
               by_cases c26 : (bt a0 (ji13)) = 110
               ·rw [if_pos c26] at H
                have c26b0 : ((bt a0 (ji13)) == 110) = true := beq_iff_eq.mpr c26
                have c26b1 : ((bt a0 (ji13)) != 110) = false := bne_eq_false_iff_eq.mpr c26
                clear c26
                by_cases c27 : x6_1.length < 140737488355328
                ·rw [if_pos c27] at H
                 have LMc27 := Aside0.mk c27
                 clear c27
                 obtain ⟨y129, hy129⟩ : ∃ y_ : List Int, y_ = (x6_1 ++ [10]) := ⟨_, rfl⟩
                 replace H : (anticlineref18_quoted.l0 kj16 a0 (wrap64 (x1_1 + 2)) y129) = some (r1, r2) := by first | (rw [hy129]; with_reducible exact H) | (have H2_ := (Option.bind_some _ _).symm.trans H; rw [hy129]; with_reducible exact H2_) | (have H2_ := (Option.bind_some _ _).symm.trans H; with_reducible exact H2_) | with_reducible exact H | (rw [hy129]; exact H) | exact H
                 have Ny129 := Aside0.mk hy129
                 clear hy129
                 have H' := Aside0.mk H
                 clear H
                 go_wp2_with (first | ((with_reducible refine gate_builtin (b := .append) (xs := #[.tmp 52, .tmp 53]) rfl ?_); at_builtin; refine Kd.R_append (Kd.int .u8) (w0 := w) w.heap.size rfl (.tmp 52) (.tmp 53) 22 5 (.int .u8 0) 1 rfl Tryz.underlying22 info5 rfl (by decide) (by omega) u6 x6_1 10 [.int .u8 10] (fun _ => True) (fun _ => False) rfl rfl ?aP (fun _ hk => hk.elim) ?aF ?aO ?aB ?aS ?aL ?_; (case aP => exact rfl); (case aB => exact (by repeat (first | (with_reducible first | exact HB.out | apply below_alloc | apply pw_below_drewN | apply below_drew1) | exact HB.out))); (case aF => exact (fun _ _ => trivial)); (case aO => exact (by (with_reducible repeat (first | apply Kd.R_alloc | apply Kd.R_drewN | apply Kd.R_drew)); exact HO_6.out)); (case aS => exact (below_size (by repeat (first | (with_reducible first | exact HB.out | apply below_alloc | apply pw_below_drewN | apply below_drew1) | exact HB.out)))); (case aL => have := LMc27.out; omega); intro v130 w28 ho hb hg hat; rw [← Ny129.out] at ho; have n0_ := Aside0.mk (hb); have n1_ := Aside0.mk (ho); clear HB; clear HO_6; have HB := n0_; have HO131 := n1_; clear n0_ n1_; clear ho hb hg hat))
                 go_roundg kj16
                 case measure => have := HK1.out; have := HJ2.out; have := HJ16.out; omega
                 case rel => exact ⟨(wrap64 (x1_1 + 2)), (y129), (by first | rfl | (simp; done) | (simp [*]; done)), H', ⟨by have := HK1.out; have := HJ2.out; have := HJ16.out; omega⟩, ⟨by (with_reducible repeat (first | apply Kd.R_alloc | apply Kd.R_drewN | apply Kd.R_drew)); exact HO131.out⟩, ⟨by repeat (first | (with_reducible first | exact HB.out | apply below_alloc | apply pw_below_drewN | apply below_drew1) | exact HB.out)⟩⟩
                ·rw [if_neg c27] at H
                 exact absurd H (by simp)
               ·rw [if_neg c26] at H
                have c26b0 : ((bt a0 (ji13)) == 110) = false := beq_eq_false_iff_ne.mpr c26
                have c26b1 : ((bt a0 (ji13)) != 110) = true := bne_iff_ne.mpr c26
                by_cases c29 : (bt a0 (ji13)) = 116
                ·rw [if_pos c29] at H
                 have c29b0 : ((bt a0 (ji13)) == 116) = true := beq_iff_eq.mpr c29
                 have c29b1 : ((bt a0 (ji13)) != 116) = false := bne_eq_false_iff_eq.mpr c29
                 clear c29
                 by_cases c30 : x6_1.length < 140737488355328
                 ·rw [if_pos c30] at H
                  have LMc30 := Aside0.mk c30
                  clear c30
                  obtain ⟨y132, hy132⟩ : ∃ y_ : List Int, y_ = (x6_1 ++ [9]) := ⟨_, rfl⟩
                  replace H : (anticlineref18_quoted.l0 kj16 a0 (wrap64 (x1_1 + 2)) y132) = some (r1, r2) := by first | (rw [hy132]; with_reducible exact H) | (have H2_ := (Option.bind_some _ _).symm.trans H; rw [hy132]; with_reducible exact H2_) | (have H2_ := (Option.bind_some _ _).symm.trans H; with_reducible exact H2_) | with_reducible exact H | (rw [hy132]; exact H) | exact H
                  have Ny132 := Aside0.mk hy132
                  clear hy132
                  have H' := Aside0.mk H
                  clear H
                  go_wp2_with (first | ((with_reducible refine gate_builtin (b := .append) (xs := #[.tmp 57, .tmp 58]) rfl ?_); at_builtin; refine Kd.R_append (Kd.int .u8) (w0 := w) w.heap.size rfl (.tmp 57) (.tmp 58) 22 5 (.int .u8 0) 1 rfl Tryz.underlying22 info5 rfl (by decide) (by omega) u6 x6_1 9 [.int .u8 9] (fun _ => True) (fun _ => False) rfl rfl ?aP (fun _ hk => hk.elim) ?aF ?aO ?aB ?aS ?aL ?_; (case aP => exact rfl); (case aB => exact (by repeat (first | (with_reducible first | exact HB.out | apply below_alloc | apply pw_below_drewN | apply below_drew1) | exact HB.out))); (case aF => exact (fun _ _ => trivial)); (case aO => exact (by (with_reducible repeat (first | apply Kd.R_alloc | apply Kd.R_drewN | apply Kd.R_drew)); exact HO_6.out)); (case aS => exact (below_size (by repeat (first | (with_reducible first | exact HB.out | apply below_alloc | apply pw_below_drewN | apply below_drew1) | exact HB.out)))); (case aL => have := LMc30.out; omega); intro v133 w31 ho hb hg hat; rw [← Ny132.out] at ho; have n0_ := Aside0.mk (hb); have n1_ := Aside0.mk (ho); clear HB; clear HO_6; have HB := n0_; have HO134 := n1_; clear n0_ n1_; clear ho hb hg hat))
                  go_roundg kj16
                  case measure => have := HK1.out; have := HJ2.out; have := HJ16.out; omega
                  case rel => exact ⟨(wrap64 (x1_1 + 2)), (y132), (by first | rfl | (simp; done) | (simp [*]; done)), H', ⟨by have := HK1.out; have := HJ2.out; have := HJ16.out; omega⟩, ⟨by (with_reducible repeat (first | apply Kd.R_alloc | apply Kd.R_drewN | apply Kd.R_drew)); exact HO134.out⟩, ⟨by repeat (first | (with_reducible first | exact HB.out | apply below_alloc | apply pw_below_drewN | apply below_drew1) | exact HB.out)⟩⟩
                 ·rw [if_neg c30] at H
                  exact absurd H (by simp)
                ·rw [if_neg c29] at H
                 have c29b0 : ((bt a0 (ji13)) == 116) = false := beq_eq_false_iff_ne.mpr c29
                 have c29b1 : ((bt a0 (ji13)) != 116) = true := bne_iff_ne.mpr c29
                 by_cases c32 : (bt a0 (ji13)) = 120
                 ·rw [if_pos c32] at H
                  have c32b0 : ((bt a0 (ji13)) == 120) = true := beq_iff_eq.mpr c32
                  have c32b1 : ((bt a0 (ji13)) != 120) = false := bne_eq_false_iff_eq.mpr c32
                  clear c32
                  have HC33 := Aside0.mk H
                  clear H
                  go_upto_region 19 with (fail)
                  go_cut [82] (fun v82 wc => ∃ (kq : Nat) (x82_32 : Bool), v82 = .bool x82_32 ∧ Aside0 (anticlineref18_quoted.j3 kq a0 x1_1 x6_1 x82_32 = some (r1, r2)) ∧ Aside0 (kq ≤ kj16) ∧ Aside0 (Kd.R (Kd.int .u8) 5 wc w.heap.size (fun _ => True) u6 x6_1) ∧ Aside0 (Below w.heap.size w wc))
                  case first =>
                   have H := HC33.out
                   clear HC33
                   by_cases c34 : (wrap64 (x1_1 + 3)) ≥ (a0.size : Int)
                   ·rw [if_pos c34] at H
                    have c34b0 : decide ((a0.size : Int) ≤ (wrap64 (x1_1 + 3))) = true := decide_eq_true c34
                    clear c34
                    (first | rw [c34b0] | (simp only [i64_w, i32_w]; rw [c34b0]) | skip)
                    have H' := Aside0.mk H
                    clear H
                    go_wp2
                    go_meet
                    case rel => exact ⟨_, (true), (by first | rfl | (simp; done) | (simp [*]; done)), H', ⟨by have := HK1.out; have := HJ2.out; have := HJ16.out; first | omega | exact Nat.le_refl _⟩, ⟨by (with_reducible repeat (first | apply Kd.R_alloc | apply Kd.R_drewN | apply Kd.R_drew)); exact HO_6.out⟩, ⟨by repeat (first | (with_reducible first | exact HB.out | apply below_alloc | apply pw_below_drewN | apply below_drew1) | exact HB.out)⟩⟩
                   ·rw [if_neg c34] at H
                    have c34b0 : decide ((a0.size : Int) ≤ (wrap64 (x1_1 + 3))) = false := decide_eq_false c34
                    clear c34
                    (first | rw [c34b0] | (simp only [i64_w, i32_w]; rw [c34b0]) | skip)
                    obtain ⟨ji35, hji35⟩ : ∃ j_ : Int, (wrap64 (x1_1 + 2)) = j_ := ⟨_, rfl⟩
                    replace H : (if 0 ≤ (ji35) then (if (ji35) < (a0.size : Int) then ((anticlineref18_hex.f kj16 (bt a0 (ji35))).bind fun t135 => (if t135 < 0 then (anticlineref18_quoted.j3 kj16 a0 x1_1 x6_1 true) else (if 0 ≤ (wrap64 (x1_1 + 3)) then (if (wrap64 (x1_1 + 3)) < (a0.size : Int) then ((anticlineref18_hex.f kj16 (bt a0 (wrap64 (x1_1 + 3)))).bind fun t136 => (anticlineref18_quoted.j3 kj16 a0 x1_1 x6_1 (decide (t136 < 0)))) else (none)) else (none)))) else (none)) else (none)) = some (r1, r2) := by first | (rw [hji35] at H; exact H) | (simp only [hji35] at H ⊢; exact H)
                    have hji35w : (IntKind.i64.wrap (x1_1 + 2)) = ji35 := (i64_w _).trans hji35
                    by_cases c36 : 0 ≤ (ji35)
                    ·rw [if_pos c36] at H
                     have c36b0 : decide (0 ≤ (ji35)) = true := decide_eq_true c36
                     clear c36
                     by_cases c37 : (ji35) < (a0.size : Int)
                     ·rw [if_pos c37] at H
                      have c37b0 : decide ((ji35) < (a0.size : Int)) = true := decide_eq_true c37
                      clear c37
                      replace H := Option.bind_eq_some_iff.mp H
                      obtain ⟨t135, A390, H⟩ := H
                      replace H : (if t135 < 0 then (anticlineref18_quoted.j3 kj16 a0 x1_1 x6_1 true) else (if 0 ≤ (wrap64 (x1_1 + 3)) then (if (wrap64 (x1_1 + 3)) < (a0.size : Int) then ((anticlineref18_hex.f kj16 (bt a0 (wrap64 (x1_1 + 3)))).bind fun t136 => (anticlineref18_quoted.j3 kj16 a0 x1_1 x6_1 (decide (t136 < 0)))) else (none)) else (none))) = some (r1, r2) := H
                      have A39 := Aside0.mk A390
                      clear A390
                      by_cases c40 : t135 < 0
                      ·rw [if_pos c40] at H
                       have c40b0 : decide (t135 < 0) = true := decide_eq_true c40
                       clear c40
                       have H' := Aside0.mk H
                       clear H
                       have p38 : 0 ≤ ((ji35) : Int) := of_decide_eq_true (by first | (with_reducible assumption) | assumption)
                       have q38 : (ji35) < (a0.size : Int) := of_decide_eq_true (by first | (with_reducible assumption) | assumption)
                       have hx38 := bt_at a0 (ji35)
                       replace p38 := eq_true p38
                       replace q38 := eq_true q38
                       go_wp2_with (first | (go_at_call 18; (with_reducible refine (anticlineref18_hex.calls kj16 (bt a0 (ji35)) t135 _ A39.out).mono ?_); rintro e w' ⟨rfl, ⟨nd, rfl⟩⟩))
                       go_meet
                       case rel => exact ⟨_, (true), (by first | rfl | (simp; done) | (simp [*]; done)), H', ⟨by have := HK1.out; have := HJ2.out; have := HJ16.out; first | omega | exact Nat.le_refl _⟩, ⟨by (with_reducible repeat (first | apply Kd.R_alloc | apply Kd.R_drewN | apply Kd.R_drew)); exact HO_6.out⟩, ⟨by repeat (first | (with_reducible first | exact HB.out | apply below_alloc | apply pw_below_drewN | apply below_drew1) | exact HB.out)⟩⟩
                      ·rw [if_neg c40] at H
                       have c40b0 : decide (t135 < 0) = false := decide_eq_false c40
                       clear c40
                       obtain ⟨ji41, hji41⟩ : ∃ j_ : Int, (wrap64 (x1_1 + 3)) = j_ := ⟨_, rfl⟩
                       replace H : (if 0 ≤ (ji41) then (if (ji41) < (a0.size : Int) then ((anticlineref18_hex.f kj16 (bt a0 (ji41))).bind fun t136 => (anticlineref18_quoted.j3 kj16 a0 x1_1 x6_1 (decide (t136 < 0)))) else (none)) else (none)) = some (r1, r2) := by first | (rw [hji41] at H; exact H) | (simp only [hji41] at H ⊢; exact H)
                       (try rw [hji41] at c34b0)
                       (try rw [hji41] at A39)
                       have hji41w : (IntKind.i64.wrap (x1_1 + 3)) = ji41 := (i64_w _).trans hji41
                       by_cases c42 : 0 ≤ (ji41)
                       ·rw [if_pos c42] at H
                        have c42b0 : decide (0 ≤ (ji41)) = true := decide_eq_true c42
                        clear c42
                        by_cases c43 : (ji41) < (a0.size : Int)
                        ·rw [if_pos c43] at H
                         have c43b0 : decide ((ji41) < (a0.size : Int)) = true := decide_eq_true c43
                         clear c43
                         replace H := Option.bind_eq_some_iff.mp H
                         obtain ⟨t136, A450, H⟩ := H
                         replace H : (anticlineref18_quoted.j3 kj16 a0 x1_1 x6_1 (decide (t136 < 0))) = some (r1, r2) := H
                         have A45 := Aside0.mk A450
                         clear A450
                         have H' := Aside0.mk H
                         clear H
                         have p38 : 0 ≤ ((ji35) : Int) := of_decide_eq_true (by first | (with_reducible assumption) | assumption)
                         have q38 : (ji35) < (a0.size : Int) := of_decide_eq_true (by first | (with_reducible assumption) | assumption)
                         have hx38 := bt_at a0 (ji35)
                         replace p38 := eq_true p38
                         replace q38 := eq_true q38
                         go_wp2_with (first | (go_at_call 18; (with_reducible refine (anticlineref18_hex.calls kj16 (bt a0 (ji35)) t135 _ A39.out).mono ?_); rintro e w' ⟨rfl, ⟨nd, rfl⟩⟩; have p44 : 0 ≤ ((ji41) : Int) := of_decide_eq_true (by first | (with_reducible assumption) | assumption); have q44 : (ji41) < (a0.size : Int) := of_decide_eq_true (by first | (with_reducible assumption) | assumption); have hx44 := bt_at a0 (ji41); replace p44 := eq_true p44; replace q44 := eq_true q44) | (go_at_call 18; (with_reducible refine (anticlineref18_hex.calls kj16 (bt a0 (ji41)) t136 _ A45.out).mono ?_); rintro e w' ⟨rfl, ⟨nd, rfl⟩⟩))
                         go_meet
                         case rel => exact ⟨_, (decide (t136 < 0)), (by first | rfl | (simp; done) | (simp [*]; done)), H', ⟨by have := HK1.out; have := HJ2.out; have := HJ16.out; first | omega | exact Nat.le_refl _⟩, ⟨by (with_reducible repeat (first | apply Kd.R_alloc | apply Kd.R_drewN | apply Kd.R_drew)); exact HO_6.out⟩, ⟨by repeat (first | (with_reducible first | exact HB.out | apply below_alloc | apply pw_below_drewN | apply below_drew1) | exact HB.out)⟩⟩
                        ·rw [if_neg c43] at H
                         exact absurd H (by simp)
                       ·rw [if_neg c42] at H
                        exact absurd H (by simp)
                     ·rw [if_neg c37] at H
                      exact absurd H (by simp)
                    ·rw [if_neg c36] at H
                     exact absurd H (by simp)
                  case rest =>
                   clear HC33
                   try clear c1
                   try clear p1
                   try clear q1
                   try clear hx1
                   try clear c2
                   try clear p2
                   try clear q2
                   try clear hx2
                   try clear c3
                   try clear p3
                   try clear q3
                   try clear hx3
                   try clear c4
                   try clear c4b0
                   try clear p4
                   try clear q4
                   try clear hx4
                   try clear c5
                   try clear c5b0
                   try clear p6
                   try clear q6
                   try clear hx6
                   try clear c7
                   try clear c8
                   try clear c8b0
                   try clear c9
                   try clear c9b0
                   try clear p10
                   try clear q10
                   try clear hx10
                   try clear c11
                   try clear c11b0
                   try clear c11b1
                   try clear c12
                   try clear c12b0
                   try clear c14
                   try clear c14b0
                   try clear c15
                   try clear c15b0
                   try clear p16
                   try clear q16
                   try clear hx16
                   try clear c18
                   try clear c18b0
                   try clear c18b1
                   try clear c19
                   try clear c21
                   try clear c21b0
                   try clear c22
                   try clear c22b0
                   try clear p23
                   try clear q23
                   try clear hx23
                   try clear c24
                   try clear c26
                   try clear c26b0
                   try clear c26b1
                   try clear c27
                   try clear c29
                   try clear c29b0
                   try clear c29b1
                   try clear c30
                   try clear c32
                   try clear c32b0
                   try clear c32b1
                   try clear c34
                   try clear c34b0
                   try clear c36
                   try clear c36b0
                   try clear c37
                   try clear c37b0
                   try clear p38
                   try clear q38
                   try clear hx38
                   try clear c40
                   try clear c40b0
                   try clear c42
                   try clear c42b0
                   try clear c43
                   try clear c43b0
                   try clear p44
                   try clear q44
                   try clear hx44
                   try clear p1
                   try clear p10
                   try clear p16
                   try clear p2
                   try clear p23
                   try clear p38
                   try clear p44
                   try clear p6
                   try clear q1
                   try clear q10
                   try clear q16
                   try clear q23
                   try clear q38
                   try clear q44
                   try clear q6
                   obtain ⟨kq, x82_32, rfl, HA, HJ32, HO_6, HB⟩ := hcut
                   cases kq with
                   | zero => exact absurd HA.out (by simp [anticlineref18_quoted.j3])
                   | succ kj32 =>
                    have H := HA.out
                    clear HA
                    simp only [anticlineref18_quoted.j3] at H
                    by_cases c46 : x82_32 = true
                    ·subst c46
                     have H1 : (some ((⟨#[]⟩ : ByteArray), (-1))) = some (r1, r2) := by rw [if_pos rfl] at H; exact H
                     clear H
                     have H := H1
                     clear H1
                     simp only [Option.some.injEq, Prod.mk.injEq] at H
                     obtain ⟨rfl, rfl⟩ := H
                     go_wp2
                     go_ret2
                     exact ⟨by first | rfl | (simp [errW_none, errW_some] <;> rfl) | (simp only [← hji13]; first | rfl | (simp [errW_none, errW_some] <;> rfl)) | (simp [*, errW_none, errW_some] <;> rfl), by repeat (first | (with_reducible first | exact HB.out | apply below_alloc | apply pw_below_drewN | apply below_drew1) | exact HB.out)⟩
                    ·replace c46 := Bool.eq_false_iff.mpr c46
                     subst c46
                     have H1 : (if 0 ≤ (wrap64 (x1_1 + 2)) then (if (wrap64 (x1_1 + 2)) < (a0.size : Int) then ((anticlineref18_hex.f kj32 (bt a0 (wrap64 (x1_1 + 2)))).bind fun t137 => (if 0 ≤ (wrap64 (x1_1 + 3)) then (if (wrap64 (x1_1 + 3)) < (a0.size : Int) then ((anticlineref18_hex.f kj32 (bt a0 (wrap64 (x1_1 + 3)))).bind fun t138 => (if x6_1.length < 140737488355328 then (anticlineref18_quoted.l0 kj32 a0 (wrap64 ((wrap64 (x1_1 + 2)) + 2)) (x6_1 ++ [(wrap64 ((wrap64 (16 * t137)) + t138)) % 256])) else (none))) else (none)) else (none))) else (none)) else (none)) = some (r1, r2) := by rw [if_neg (show ¬ (false = true) by decide)] at H; exact H
                     clear H
                     have H := H1
                     clear H1
                     obtain ⟨ji47, hji47⟩ : ∃ j_ : Int, (wrap64 (x1_1 + 2)) = j_ := ⟨_, rfl⟩
                     replace H : (if 0 ≤ (ji47) then (if (ji47) < (a0.size : Int) then ((anticlineref18_hex.f kj32 (bt a0 (ji47))).bind fun t137 => (if 0 ≤ (wrap64 (x1_1 + 3)) then (if (wrap64 (x1_1 + 3)) < (a0.size : Int) then ((anticlineref18_hex.f kj32 (bt a0 (wrap64 (x1_1 + 3)))).bind fun t138 => (if x6_1.length < 140737488355328 then (anticlineref18_quoted.l0 kj32 a0 (wrap64 ((ji47) + 2)) (x6_1 ++ [(wrap64 ((wrap64 (16 * t137)) + t138)) % 256])) else (none))) else (none)) else (none))) else (none)) else (none)) = some (r1, r2) := by first | (rw [hji47] at H; exact H) | (simp only [hji47] at H ⊢; exact H)
                     have hji47w : (IntKind.i64.wrap (x1_1 + 2)) = ji47 := (i64_w _).trans hji47
                     by_cases c48 : 0 ≤ (ji47)
                     ·rw [if_pos c48] at H
                      have c48b0 : decide (0 ≤ (ji47)) = true := decide_eq_true c48
                      clear c48
                      by_cases c49 : (ji47) < (a0.size : Int)
                      ·rw [if_pos c49] at H
                       have c49b0 : decide ((ji47) < (a0.size : Int)) = true := decide_eq_true c49
                       clear c49
                       replace H := Option.bind_eq_some_iff.mp H
                       obtain ⟨t137, A510, H⟩ := H
                       replace H : (if 0 ≤ (wrap64 (x1_1 + 3)) then (if (wrap64 (x1_1 + 3)) < (a0.size : Int) then ((anticlineref18_hex.f kj32 (bt a0 (wrap64 (x1_1 + 3)))).bind fun t138 => (if x6_1.length < 140737488355328 then (anticlineref18_quoted.l0 kj32 a0 (wrap64 ((ji47) + 2)) (x6_1 ++ [(wrap64 ((wrap64 (16 * t137)) + t138)) % 256])) else (none))) else (none)) else (none)) = some (r1, r2) := H
                       have A51 := Aside0.mk A510
                       clear A510
                       obtain ⟨ji52, hji52⟩ : ∃ j_ : Int, (wrap64 (x1_1 + 3)) = j_ := ⟨_, rfl⟩
                       replace H : (if 0 ≤ (ji52) then (if (ji52) < (a0.size : Int) then ((anticlineref18_hex.f kj32 (bt a0 (ji52))).bind fun t138 => (if x6_1.length < 140737488355328 then (anticlineref18_quoted.l0 kj32 a0 (wrap64 ((ji47) + 2)) (x6_1 ++ [(wrap64 ((wrap64 (16 * t137)) + t138)) % 256])) else (none))) else (none)) else (none)) = some (r1, r2) := by first | (rw [hji52] at H; exact H) | (simp only [hji52] at H ⊢; exact H)
                       (try rw [hji52] at A51)
                       have hji52w : (IntKind.i64.wrap (x1_1 + 3)) = ji52 := (i64_w _).trans hji52
                       by_cases c53 : 0 ≤ (ji52)
                       ·rw [if_pos c53] at H
                        have c53b0 : decide (0 ≤ (ji52)) = true := decide_eq_true c53
                        clear c53
                        by_cases c54 : (ji52) < (a0.size : Int)
                        ·rw [if_pos c54] at H
                         have c54b0 : decide ((ji52) < (a0.size : Int)) = true := decide_eq_true c54
                         clear c54
                         replace H := Option.bind_eq_some_iff.mp H
                         obtain ⟨t138, A560, H⟩ := H
                         replace H : (if x6_1.length < 140737488355328 then (anticlineref18_quoted.l0 kj32 a0 (wrap64 ((ji47) + 2)) (x6_1 ++ [(wrap64 ((wrap64 (16 * t137)) + t138)) % 256])) else (none)) = some (r1, r2) := H
                         have A56 := Aside0.mk A560
                         clear A560
                         by_cases c57 : x6_1.length < 140737488355328
                         ·rw [if_pos c57] at H
                          have LMc57 := Aside0.mk c57
                          clear c57
                          obtain ⟨y139, hy139⟩ : ∃ y_ : List Int, y_ = (x6_1 ++ [(wrap64 ((wrap64 (16 * t137)) + t138)) % 256]) := ⟨_, rfl⟩
                          replace H : (anticlineref18_quoted.l0 kj32 a0 (wrap64 ((ji47) + 2)) y139) = some (r1, r2) := by first | (rw [hy139]; with_reducible exact H) | (have H2_ := (Option.bind_some _ _).symm.trans H; rw [hy139]; with_reducible exact H2_) | (have H2_ := (Option.bind_some _ _).symm.trans H; with_reducible exact H2_) | with_reducible exact H | (rw [hy139]; exact H) | exact H
                          have Ny139 := Aside0.mk hy139
                          clear hy139
                          have H' := Aside0.mk H
                          clear H
                          try go_wp2
                          have n0_ := Aside0.mk (Kd.R_drew HO_6.out)
                          have n1_ := Aside0.mk (below_drew1 HB.out)
                          clear HO_6
                          clear HB
                          have HO_6 := n0_
                          have HB := n1_
                          clear n0_ n1_
                          have p50 : 0 ≤ ((ji47) : Int) := of_decide_eq_true (by first | (with_reducible assumption) | assumption)
                          have q50 : (ji47) < (a0.size : Int) := of_decide_eq_true (by first | (with_reducible assumption) | assumption)
                          have hx50 := bt_at a0 (ji47)
                          replace p50 := eq_true p50
                          replace q50 := eq_true q50
                          have p55 : 0 ≤ ((ji52) : Int) := of_decide_eq_true (by first | (with_reducible assumption) | assumption)
                          have q55 : (ji52) < (a0.size : Int) := of_decide_eq_true (by first | (with_reducible assumption) | assumption)
                          have hx55 := bt_at a0 (ji52)
                          replace p55 := eq_true p55
                          replace q55 := eq_true q55
                          refine start_ (n := 17) (S := fun w' => True) (ds := []) #[false, false, false, false, false, false, false, false, false, false, false, false, false, false, false, false, false] (by kernel_rfl) rfl rfl trivial (fun hHeld => ?_); refine with_tabW anticlineref18_quoted.tab21 anticlineref18_quoted.bits21 (fun HT_ HW_ => ?_)
                          generalize wc.drew = w58 at HO_6 HB hHeld ⊢
                          refine pure_ (i := 0) (N := some 83) (v := ?_) (a' := ?_) #[true, false, false, false, false, false, false, false, false, false, false, false, false, false, false, false, false] rfl rfl (any_of HT_.out (by kernel_rfl)) (fun _ _ _ h => h) (Or.inl ⟨by rfl, ?_⟩) ?_ ?_
                          rotate_left
                          ·intro w'
                           go_simp
                           with_reducible rfl
                          rotate_left
                          ·simp only [Act.put, List.setIfInBounds_toArray, List.set_cons_zero, List.set_cons_succ, i64_w, i32_w]
                           rfl
                          refine pure_ (i := 1) (N := some 84) (v := ?_) (a' := ?_) #[true, true, false, false, false, false, false, false, false, false, false, false, false, false, false, false, false] rfl rfl (any_of HT_.out (by kernel_rfl)) (fun _ _ _ h => h) (Or.inl ⟨by rfl, ?_⟩) ?_ ?_
                          rotate_left
                          ·intro w'
                           go_simp
                           with_reducible rfl
                          rotate_left
                          ·simp only [Act.put, List.setIfInBounds_toArray, List.set_cons_zero, List.set_cons_succ, i64_w, i32_w]
                           rfl
                          refine pure_ (i := 2) (N := some 85) (v := ?_) (a' := ?_) #[true, true, true, false, false, false, false, false, false, false, false, false, false, false, false, false, false] rfl rfl (any_of HT_.out (by kernel_rfl)) (fun _ _ _ h => h) (Or.inl ⟨by rfl, ?_⟩) ?_ ?_
                          rotate_left
                          ·intro w'
                           go_simp
                           with_reducible rfl
                          rotate_left
                          ·simp only [Act.put, List.setIfInBounds_toArray, List.set_cons_zero, List.set_cons_succ, i64_w, i32_w]
                           rfl
                          refine pure_ (i := 3) (N := some 86) (v := ?_) (a' := ?_) #[true, true, true, true, false, false, false, false, false, false, false, false, false, false, false, false, false] rfl rfl (any_of HT_.out (by kernel_rfl)) (fun _ _ _ h => h) (Or.inl ⟨by rfl, ?_⟩) ?_ ?_
                          rotate_left
                          ·intro w'
                           go_simp
                           with_reducible rfl
                          rotate_left
                          ·simp only [Act.put, List.setIfInBounds_toArray, List.set_cons_zero, List.set_cons_succ, i64_w, i32_w]
                           rfl
                          refine pure_ (i := 7) (N := some 90) (v := ?_) (a' := ?_) #[true, true, true, true, false, false, false, true, false, false, false, false, false, false, false, false, false] rfl rfl (any_of HT_.out (by kernel_rfl)) (fun _ _ _ h => h) (Or.inl ⟨by rfl, ?_⟩) ?_ ?_
                          rotate_left
                          ·intro w'
                           go_simp
                           with_reducible rfl
                          rotate_left
                          ·simp only [Act.put, List.setIfInBounds_toArray, List.set_cons_zero, List.set_cons_succ, i64_w, i32_w]
                           rfl
                          refine pure_ (i := 8) (N := some 91) (v := ?_) (a' := ?_) #[true, true, true, true, false, false, false, true, true, false, false, false, false, false, false, false, false] rfl rfl (any_of HT_.out (by kernel_rfl)) (fun _ _ _ h => h) (Or.inl ⟨by rfl, ?_⟩) ?_ ?_
                          rotate_left
                          ·intro w'
                           go_simp
                           with_reducible rfl
                          rotate_left
                          ·simp only [Act.put, List.setIfInBounds_toArray, List.set_cons_zero, List.set_cons_succ, i64_w, i32_w]
                           rfl
                          refine pure_ (i := 9) (N := some 92) (v := ?_) (a' := ?_) #[true, true, true, true, false, false, false, true, true, true, false, false, false, false, false, false, false] rfl rfl (any_of HT_.out (by kernel_rfl)) (fun _ _ _ h => h) (Or.inl ⟨by rfl, ?_⟩) ?_ ?_
                          rotate_left
                          ·intro w'
                           go_simp
                           with_reducible rfl
                          rotate_left
                          ·simp only [Act.put, List.setIfInBounds_toArray, List.set_cons_zero, List.set_cons_succ, i64_w, i32_w]
                           rfl
                          refine take_ (i := 4) (N := some 87) (v := ?_) (a' := ?_) #[true, true, true, true, true, false, false, true, true, true, false, false, false, false, false, false, false] rfl rfl (take_ofW HT_.out HW_.out (by kernel_rfl)) (fun _ _ _ h => h) (Or.inl ⟨by rfl, ?_⟩) hHeld ?_ ?_
                          rotate_left
                          ·intro w' _
                           go_simp
                           with_reducible rfl
                          rotate_left
                          ·simp only [Act.put, List.setIfInBounds_toArray, List.set_cons_zero, List.set_cons_succ, i64_w, i32_w]
                           rfl
                          refine take_ (i := 10) (N := some 93) (v := ?_) (a' := ?_) #[true, true, true, true, true, false, false, true, true, true, true, false, false, false, false, false, false] rfl rfl (take_ofW HT_.out HW_.out (by kernel_rfl)) (fun _ _ _ h => h) (Or.inl ⟨by rfl, ?_⟩) hHeld ?_ ?_
                          rotate_left
                          ·intro w' _
                           go_simp
                           with_reducible rfl
                          rotate_left
                          ·simp only [Act.put, List.setIfInBounds_toArray, List.set_cons_zero, List.set_cons_succ, i64_w, i32_w]
                           rfl
                          refine one_ (i := 5) (N := some 88) #[true, true, true, true, true, true, false, true, true, true, true, false, false, false, false, false, false] rfl rfl (one_of HT_.out (by kernel_rfl)) (by decide) (fun K hK => ?_)
                          refine goes_ Tryz.func18 (by kernel_rfl) rfl #[.int .u8 (bt a0 (ji47))] (by rfl) rfl rfl (by (try simp only [List.map_toArray, List.map_cons, List.map_nil]); first | done | (simp only [hji47]; rfl) | rfl | (simp only [List.length_drop, List.length_take]; rfl)) ?_
                          with_reducible refine (anticlineref18_hex.calls kj32 (bt a0 (ji47)) t137 _ A51.out).mono ?_
                          rintro e w' ⟨rfl, ⟨nd, rfl⟩⟩
                          refine ⟨_, rfl, ?_⟩
                          refine hK.out _ _ trivial (fun hHeld => ?_)
                          clear hK K
                          refine norm_ (a' := ?_) ?_ ?_
                          rotate_left
                          ·show Act.put _ (some 88) _ = _
                           simp only [Act.put, List.setIfInBounds_toArray, List.set_cons_zero, List.set_cons_succ, i64_w, i32_w]
                           rfl
                          refine pure_ (i := 6) (N := some 89) (v := ?_) (a' := ?_) #[true, true, true, true, true, true, true, true, true, true, true, false, false, false, false, false, false] rfl rfl (any_of HT_.out (by kernel_rfl)) (fun _ _ _ h => h) (Or.inl ⟨by rfl, ?_⟩) ?_ ?_
                          rotate_left
                          ·intro w'
                           go_simp
                           with_reducible rfl
                          rotate_left
                          ·simp only [Act.put, List.setIfInBounds_toArray, List.set_cons_zero, List.set_cons_succ, i64_w, i32_w]
                           rfl
                          refine one_ (i := 11) (N := some 94) #[true, true, true, true, true, true, true, true, true, true, true, true, false, false, false, false, false] rfl rfl (one_of HT_.out (by kernel_rfl)) (by decide) (fun K hK => ?_)
                          refine goes_ Tryz.func18 (by kernel_rfl) rfl #[.int .u8 (bt a0 (ji52))] (by rfl) rfl rfl (by (try simp only [List.map_toArray, List.map_cons, List.map_nil]); first | done | (simp only [hji52]; rfl) | rfl | (simp only [List.length_drop, List.length_take]; rfl)) ?_
                          with_reducible refine (anticlineref18_hex.calls kj32 (bt a0 (ji52)) t138 _ A56.out).mono ?_
                          rintro e w' ⟨rfl, ⟨nd, rfl⟩⟩
                          refine ⟨_, rfl, ?_⟩
                          refine hK.out _ _ trivial (fun hHeld => ?_)
                          clear hK K
                          refine norm_ (a' := ?_) ?_ ?_
                          rotate_left
                          ·show Act.put _ (some 94) _ = _
                           simp only [Act.put, List.setIfInBounds_toArray, List.set_cons_zero, List.set_cons_succ, i64_w, i32_w]
                           rfl
                          refine pure_ (i := 12) (N := some 95) (v := ?_) (a' := ?_) #[true, true, true, true, true, true, true, true, true, true, true, true, true, false, false, false, false] rfl rfl (any_of HT_.out (by kernel_rfl)) (fun _ _ _ h => h) (Or.inl ⟨by rfl, ?_⟩) ?_ ?_
                          rotate_left
                          ·intro w'
                           go_simp
                           with_reducible rfl
                          rotate_left
                          ·simp only [Act.put, List.setIfInBounds_toArray, List.set_cons_zero, List.set_cons_succ, i64_w, i32_w]
                           rfl
                          refine pure_ (i := 13) (N := some 96) (v := ?_) (a' := ?_) #[true, true, true, true, true, true, true, true, true, true, true, true, true, true, false, false, false] rfl rfl (any_of HT_.out (by kernel_rfl)) (fun _ _ _ h => h) (Or.inl ⟨by rfl, ?_⟩) ?_ ?_
                          rotate_left
                          ·intro w'
                           go_simp
                           with_reducible rfl
                          rotate_left
                          ·simp only [Act.put, List.setIfInBounds_toArray, List.set_cons_zero, List.set_cons_succ, i64_w, i32_w]
                           rfl
                          refine one_ (i := 14) (N := some 97) #[true, true, true, true, true, true, true, true, true, true, true, true, true, true, true, false, false] rfl rfl (one_of HT_.out (by kernel_rfl)) (by decide) (fun K hK => ?_)
                          refine value_ (w1 := ?_) (v := ?_) (by rfl) rfl ?_ ?_
                          rotate_left 2
                          ·go_simp
                           constructor
                           ·rfl
                           ·rfl
                          refine hK.out _ _ trivial (fun hHeld => ?_)
                          clear hK K
                          refine norm_ (a' := ?_) ?_ ?_
                          rotate_left
                          ·show Act.put _ (some 97) _ = _
                           simp only [Act.put, List.setIfInBounds_toArray, List.set_cons_zero, List.set_cons_succ, i64_w, i32_w]
                           rfl
                          refine one_ (i := 15) (N := some 98) #[true, true, true, true, true, true, true, true, true, true, true, true, true, true, true, true, false] rfl rfl (one_of HT_.out (by kernel_rfl)) (by decide) (fun K hK => ?_)
                          refine Kd.R_append_step (Kd.int .u8) (w0 := w) w.heap.size (by rfl) (.tmp 83) (.tmp 97) 22 5 (.int .u8 0) 1 rfl Tryz.underlying22 info5 rfl (by decide) (by omega) u6 x6_1 ((wrap64 ((wrap64 (16 * t137)) + t138)) % 256) [.int .u8 ((wrap64 ((wrap64 (16 * t137)) + t138)) % 256)] (fun _ => True) (fun _ => False) rfl rfl ?aP (fun _ hk => hk.elim) ?aF ?aO ?aB ?aS ?aL ?_
                          (case aP => exact rfl)
                          (case aB => exact (by repeat (first | (with_reducible first | exact HB.out | apply below_alloc | apply pw_below_drewN | apply below_drew1) | exact HB.out)))
                          (case aF => exact (fun _ _ => trivial))
                          (case aO => exact (by (with_reducible repeat (first | apply Kd.R_alloc | apply Kd.R_drewN | apply Kd.R_drew)); exact HO_6.out))
                          (case aS => exact (below_size (by repeat (first | (with_reducible first | exact HB.out | apply below_alloc | apply pw_below_drewN | apply below_drew1) | exact HB.out))))
                          (case aL => have := LMc57.out; omega)
                          intro v140 w59 ho hb hg hat
                          rw [← Ny139.out] at ho
                          have n0_ := Aside0.mk (hb)
                          have n1_ := Aside0.mk (ho)
                          clear HB
                          clear HO_6
                          have HB := n0_
                          have HO141 := n1_
                          clear n0_ n1_
                          clear ho hb hg hat
                          refine hK.out _ _ trivial (fun hHeld => ?_)
                          clear hK K
                          refine norm_ (a' := ?_) ?_ ?_
                          rotate_left
                          ·show Act.put _ (some 98) _ = _
                           simp only [Act.put, List.setIfInBounds_toArray, List.set_cons_zero, List.set_cons_succ, i64_w, i32_w]
                           rfl
                          refine pure_ (i := 16) (N := some 6) (v := ?_) (a' := ?_) #[true, true, true, true, true, true, true, true, true, true, true, true, true, true, true, true, true] rfl rfl (any_of HT_.out (by kernel_rfl)) (fun _ _ _ h => h) (Or.inl ⟨by rfl, ?_⟩) ?_ ?_
                          rotate_left
                          ·intro w'
                           go_simp
                           with_reducible rfl
                          rotate_left
                          ·simp only [Act.put, List.setIfInBounds_toArray, List.set_cons_zero, List.set_cons_succ, i64_w, i32_w]
                           rfl
                          refine done_ (done_of HT_.out (by kernel_rfl)) ?_
                          try go_wp2
                          go_roundg kj32
                          case measure => have := HK1.out; have := HJ2.out; have := HJ16.out; have := HJ32.out; omega
                          case rel => exact ⟨(wrap64 ((ji47) + 2)), (y139), (by first | rfl | (simp; done) | (simp only [← hji47] <;> (first | rfl | simp)) | (simp [*]; done)), H', ⟨by have := HK1.out; have := HJ2.out; have := HJ16.out; have := HJ32.out; omega⟩, ⟨by (with_reducible repeat (first | apply Kd.R_alloc | apply Kd.R_drewN | apply Kd.R_drew)); exact HO141.out⟩, ⟨by repeat (first | (with_reducible first | exact HB.out | apply below_alloc | apply pw_below_drewN | apply below_drew1) | exact HB.out)⟩⟩
                         ·rw [if_neg c57] at H
                          exact absurd H (by simp)
                        ·rw [if_neg c54] at H
                         exact absurd H (by simp)
                       ·rw [if_neg c53] at H
                        exact absurd H (by simp)
                      ·rw [if_neg c49] at H
                       exact absurd H (by simp)
                     ·rw [if_neg c48] at H
                      exact absurd H (by simp)
                 ·rw [if_neg c32] at H
                  have c32b0 : ((bt a0 (ji13)) == 120) = false := beq_eq_false_iff_ne.mpr c32
                  have c32b1 : ((bt a0 (ji13)) != 120) = true := bne_iff_ne.mpr c32
                  simp only [Option.some.injEq, Prod.mk.injEq] at H
                  obtain ⟨rfl, rfl⟩ := H
                  go_wp2
                  go_ret2
                  exact ⟨by first | rfl | (simp [errW_none, errW_some] <;> rfl) | (simp only [← hji13]; first | rfl | (simp [errW_none, errW_some] <;> rfl)) | (simp [*, errW_none, errW_some] <;> rfl), by repeat (first | (with_reducible first | exact HB.out | apply below_alloc | apply pw_below_drewN | apply below_drew1) | exact HB.out)⟩
           ·rw [if_neg c15] at H
            exact absurd H (by simp)
          ·rw [if_neg c14] at H
           exact absurd H (by simp)
        ·rw [if_neg c11] at H
         have c11b0 : ((bt a0 x1_1) == 92) = false := beq_eq_false_iff_ne.mpr c11
         have c11b1 : ((bt a0 x1_1) != 92) = true := bne_iff_ne.mpr c11
         by_cases c61 : x6_1.length < 140737488355328
         ·rw [if_pos c61] at H
          have LMc61 := Aside0.mk c61
          clear c61
          obtain ⟨y123, hy123⟩ : ∃ y_ : List Int, y_ = (x6_1 ++ [bt a0 x1_1]) := ⟨_, rfl⟩
          replace H : (anticlineref18_quoted.l0 kj2 a0 (wrap64 (x1_1 + 1)) y123) = some (r1, r2) := by first | (rw [hy123]; with_reducible exact H) | (have H2_ := (Option.bind_some _ _).symm.trans H; rw [hy123]; with_reducible exact H2_) | (have H2_ := (Option.bind_some _ _).symm.trans H; with_reducible exact H2_) | with_reducible exact H | (rw [hy123]; exact H) | exact H
          have Ny123 := Aside0.mk hy123
          clear hy123
          have H' := Aside0.mk H
          clear H
          have p10 : 0 ≤ (x1_1 : Int) := of_decide_eq_true (by first | (with_reducible assumption) | assumption)
          have q10 : x1_1 < (a0.size : Int) := of_decide_eq_true (by first | (with_reducible assumption) | assumption)
          have hx10 := bt_at a0 x1_1
          replace p10 := eq_true p10
          replace q10 := eq_true q10
          have p60 : 0 ≤ (x1_1 : Int) := of_decide_eq_true (by first | (with_reducible assumption) | assumption)
          have q60 : x1_1 < (a0.size : Int) := of_decide_eq_true (by first | (with_reducible assumption) | assumption)
          have hx60 := bt_at a0 x1_1
          replace p60 := eq_true p60
          replace q60 := eq_true q60
          go_wp2_with (first | ((with_reducible refine gate_builtin (b := .append) (xs := #[.tmp 23, .tmp 27]) rfl ?_); at_builtin; refine Kd.R_append (Kd.int .u8) (w0 := w) w.heap.size rfl (.tmp 23) (.tmp 27) 22 5 (.int .u8 0) 1 rfl Tryz.underlying22 info5 rfl (by decide) (by omega) u6 x6_1 (bt a0 x1_1) [.int .u8 (bt a0 x1_1)] (fun _ => True) (fun _ => False) rfl rfl ?aP (fun _ hk => hk.elim) ?aF ?aO ?aB ?aS ?aL ?_; (case aP => exact rfl); (case aB => exact (by repeat (first | (with_reducible first | exact HB.out | apply below_alloc | apply pw_below_drewN | apply below_drew1) | exact HB.out))); (case aF => exact (fun _ _ => trivial)); (case aO => exact (by (with_reducible repeat (first | apply Kd.R_alloc | apply Kd.R_drewN | apply Kd.R_drew)); exact HO_6.out)); (case aS => exact (below_size (by repeat (first | (with_reducible first | exact HB.out | apply below_alloc | apply pw_below_drewN | apply below_drew1) | exact HB.out)))); (case aL => have := LMc61.out; omega); intro v124 w62 ho hb hg hat; rw [← Ny123.out] at ho; have n0_ := Aside0.mk (hb); have n1_ := Aside0.mk (ho); clear HB; clear HO_6; have HB := n0_; have HO125 := n1_; clear n0_ n1_; clear ho hb hg hat))
          go_roundg kj2
          case measure => have := HK1.out; have := HJ2.out; omega
          case rel => exact ⟨(wrap64 (x1_1 + 1)), (y123), (by first | rfl | (simp; done) | (simp [*]; done)), H', ⟨by have := HK1.out; have := HJ2.out; omega⟩, ⟨by (with_reducible repeat (first | apply Kd.R_alloc | apply Kd.R_drewN | apply Kd.R_drew)); exact HO125.out⟩, ⟨by repeat (first | (with_reducible first | exact HB.out | apply below_alloc | apply pw_below_drewN | apply below_drew1) | exact HB.out)⟩⟩
         ·rw [if_neg c61] at H
          exact absurd H (by simp)
       ·rw [if_neg c9] at H
        exact absurd H (by simp)
      ·rw [if_neg c8] at H
       exact absurd H (by simp)
     ·replace c7 := Bool.eq_false_iff.mpr c7
      subst c7
      have H1 : (if x1_1 ≥ (a0.size : Int) then (some ((⟨#[]⟩ : ByteArray), (-1))) else (some (strOfNums x6_1, wrap64 (x1_1 + 1)))) = some (r1, r2) := by rw [if_neg (show ¬ (false = true) by decide)] at H; exact H
      clear H
      have H := H1
      clear H1
      by_cases c63 : x1_1 ≥ (a0.size : Int)
      ·rw [if_pos c63] at H
       have c63b0 : decide ((a0.size : Int) ≤ x1_1) = true := decide_eq_true c63
       clear c63
       simp only [Option.some.injEq, Prod.mk.injEq] at H
       obtain ⟨rfl, rfl⟩ := H
       go_wp2
       go_ret2
       exact ⟨by first | rfl | (simp [errW_none, errW_some] <;> rfl) | (simp [*, errW_none, errW_some] <;> rfl), by repeat (first | (with_reducible first | exact HB.out | apply below_alloc | apply pw_below_drewN | apply below_drew1) | exact HB.out)⟩
      ·rw [if_neg c63] at H
       have c63b0 : decide ((a0.size : Int) ≤ x1_1) = false := decide_eq_false c63
       clear c63
       simp only [Option.some.injEq, Prod.mk.injEq] at H
       obtain ⟨rfl, rfl⟩ := H
       have hcv64 := own_string (P := Tryz.prog) Tryz.underlying22 Tryz.underlying5 Tryz.underlying9 (Kd.own_of_R HO_6.out)
       go_wp2
       go_ret2
       exact ⟨by first | rfl | (simp [errW_none, errW_some] <;> rfl) | (simp [*, errW_none, errW_some] <;> rfl), by repeat (first | (with_reducible first | exact HB.out | apply below_alloc | apply pw_below_drewN | apply below_drew1) | exact HB.out)⟩
end Go.Proofs.YtccahbfbbaaicaaGreatDoor.PWd
