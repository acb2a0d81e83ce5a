/- Made by program out of the translation: what these functions compute. -/
import Derived.Test.YtccahbfbbaaicaaGreatDoorPWdx0
import Derived.Test.YtccahbfbbaaicaaGreatDoorPWdx4
import Derived.Test.YtccahbfbbaaicaaGreatDoorGiv
namespace Go.Proofs.YtccahbfbbaaicaaGreatDoor.PWd
open Go.RowKit Go.Proofs.YtccahbfbbaaicaaGreatDoor.Giv Go.Proofs.YtccahbfbbaaicaaGreatDoorW.PrintWords Go.Proofs.YtccahbfbbaaicaaGreatDoorW.PrintLast Go.Proofs.YtccahbfbbaaicaaGreatDoorW.PrintMore
attribute [local go_sem] max2_int min2_int max_two min_two max_three min_three max_four min_four   -- for this text's walks alone
set_option linter.unusedVariables false
set_option linter.unusedSimpArgs false
mutual
def anticlineref18_Words.l0 : Nat → ByteArray → List ByteArray → Int → Option (List ByteArray × Int)
 | 0, _, _, _ => none
 | k + 1, x0, x4, x5 => anticlineref18_Words.l1 k x0 x4 x5
def anticlineref18_Words.j2 : Nat → ByteArray → List ByteArray → Int → Option (List ByteArray × Int)
 | 0, _, _, _ => none
 | k + 1, x0, x4, x5 => if x5 ≥ (x0.size : Int) then (anticlineref18_Words.j3 k x0 x4 x5 true) else (if 0 ≤ x5 then (if x5 < (x0.size : Int) then (anticlineref18_Words.j3 k x0 x4 x5 ((bt x0 x5) == 35)) else (none)) else (none))
def anticlineref18_Words.j3 : Nat → ByteArray → List ByteArray → Int → Bool → Option (List ByteArray × Int)
 | 0, _, _, _, _ => none
 | k + 1, x0, x4, x5, x36 => if x36 = true then (some (x4, 0)) else (if 0 ≤ x5 then (if x5 < (x0.size : Int) then (if (bt x0 x5) = 34 then ((anticlineref18_quoted.f k x0 x5).bind fun bt142 => (if bt142.2 < 0 then (some (([] : List ByteArray), 13)) else (if bt142.2 < (x0.size : Int) then (if 0 ≤ bt142.2 then (if (bt x0 bt142.2) = 32 then (if x4.length < 8796093022208 then (anticlineref18_Words.l0 k x0 (x4 ++ [bt142.1]) bt142.2) else (none)) else (if (bt x0 bt142.2) = 9 then (if x4.length < 8796093022208 then (anticlineref18_Words.l0 k x0 (x4 ++ [bt142.1]) bt142.2) else (none)) else (some (([] : List ByteArray), 13)))) else (none)) else (if x4.length < 8796093022208 then (anticlineref18_Words.l0 k x0 (x4 ++ [bt142.1]) bt142.2) else (none))))) else (anticlineref18_Words.l2 k x0 x4 x5 x5)) else (none)) else (none))
def anticlineref18_Words.l2 : Nat → ByteArray → List ByteArray → Int → Int → Option (List ByteArray × Int)
 | 0, _, _, _, _ => none
 | k + 1, x0, x4, x5, x8 => if x5 < (x0.size : Int) then (if 0 ≤ x5 then (if (bt x0 x5) = 32 then (anticlineref18_Words.j5 k x0 x4 x5 x8 false) else (anticlineref18_Words.j5 k x0 x4 x5 x8 ((bt x0 x5) != 9))) else (none)) else (anticlineref18_Words.j5 k x0 x4 x5 x8 false)
def anticlineref18_Words.j5 : Nat → ByteArray → List ByteArray → Int → Int → Bool → Option (List ByteArray × Int)
 | 0, _, _, _, _, _ => none
 | k + 1, x0, x4, x5, x8, x89 => if x89 = true then (if 0 ≤ x5 then (if x5 < (x0.size : Int) then (if (bt x0 x5) = 34 then (some (([] : List ByteArray), 13)) else (anticlineref18_Words.l2 k x0 x4 (wrap64 (x5 + 1)) x8)) else (none)) else (none)) else (if 0 ≤ x8 then (if x8 ≤ x5 then (if x5 ≤ (x0.size : Int) then (if x4.length < 8796093022208 then (anticlineref18_Words.l0 k x0 (x4 ++ [x0.extract (x8 : Int).toNat (x5 : Int).toNat]) x5) else (none)) else (none)) else (none)) else (none))
def anticlineref18_Words.l1 : Nat → ByteArray → List ByteArray → Int → Option (List ByteArray × Int)
 | 0, _, _, _ => none
 | k + 1, x0, x4, x5 => if x5 < (x0.size : Int) then (if 0 ≤ x5 then (if (bt x0 x5) = 32 then (anticlineref18_Words.l1 k x0 x4 (wrap64 (x5 + 1))) else (if (bt x0 x5) = 9 then (anticlineref18_Words.l1 k x0 x4 (wrap64 (x5 + 1))) else (anticlineref18_Words.j2 k x0 x4 x5))) else (none)) else (anticlineref18_Words.j2 k x0 x4 x5)
end
def anticlineref18_Words.f (k : Nat) (a0 : ByteArray) : Option (List ByteArray × Int) := anticlineref18_Words.l0 k a0 ([] : List ByteArray) 0
set_option maxHeartbeats 8000000 in
set_option maxRecDepth 100000 in
theorem anticlineref18_Words.calls (k : Nat) (a0 : ByteArray) (r1 : List ByteArray) (r2 : Int) (w : World) (h : anticlineref18_Words.f k a0 = some (r1, r2)) :
  Calls Tryz.prog 7 #[.string a0] w fun e w' => ∃ v0_ : Value, e = .returned (.tuple #[v0_, .int .i64 r2]) ∧ Kd.R Kd.string 9 w' w.heap.size (fun _ => True) v0_ r1 ∧ Below w.heap.size w w' := by
 have HB := Aside0.mk (Below.refl w.heap.size w)
 have H : (anticlineref18_Words.l0 k a0 ([] : List ByteArray) 0) = some (r1, r2) := h
 clear h
 have H' := Aside0.mk H
 clear H
 go_enter Tryz.func7, Tryz.ntmps7
 go_wp2
 go_loopg [4, 5] k (fun kq v4 v5 w' => ∃ (x4_1 : List ByteArray) (x5_1 : Int), v5 = .int .i64 x5_1 ∧ Aside0 (anticlineref18_Words.l0 kq a0 x4_1 x5_1 = some (r1, r2)) ∧ Aside0 (kq ≤ k) ∧ Aside0 (Kd.R Kd.string 9 w' w.heap.size (fun _ => True) v4 x4_1) ∧ Aside0 (Below w.heap.size w w'))
 case atStart => exact ⟨(([] : List ByteArray)), (0), (by first | rfl | (simp; done) | (simp [*]; done)), H', ⟨Nat.le_refl _⟩, ⟨by first | exact Kd.R_nil _ _ _ _ _ | exact Kd.N_nil _ _ _ _ _ | exact Kd.V_nil _ _ _ _ _ | exact Kd.Q_nil _ _ _ _ _ | exact Kd.S_nil _ _ _ _ _⟩, ⟨by repeat (first | (with_reducible first | exact HB.out | apply below_alloc | apply pw_below_drewN | apply below_drew1) | exact HB.out)⟩⟩
 case round =>
  clear H'
  obtain ⟨x4_1, x5_1, rfl, HA, HK1, HO_4, HB⟩ := hrel
  cases gk with
  | zero => exact absurd HA.out (by simp [anticlineref18_Words.l0])
  | succ k1 =>
   have H := HA.out
   clear HA
   simp only [anticlineref18_Words.l0] at H
   have HC2 := Aside0.mk H
   clear H
   go_upto_block 2 with (fail)
   go_cut [5] (fun v5 wc => ∃ (kq : Nat) (x5_1 : Int), v5 = .int .i64 x5_1 ∧ Aside0 (anticlineref18_Words.j2 kq a0 x4_1 x5_1 = some (r1, r2)) ∧ Aside0 (kq ≤ k1) ∧ Aside0 (Kd.R Kd.string 9 wc w.heap.size (fun _ => True) u4 x4_1) ∧ Aside0 (Below w.heap.size w wc))
   case first =>
    have H := HC2.out
    clear HC2
    have H' := Aside0.mk H
    clear H
    go_wp2
    go_loopg [5] k1 (fun kq v5 w' => ∃ (x5_2 : Int), v5 = .int .i64 x5_2 ∧ Aside0 (anticlineref18_Words.l1 kq a0 x4_1 x5_2 = some (r1, r2)) ∧ Aside0 (kq ≤ k1) ∧ Aside0 (Kd.R Kd.string 9 w' w.heap.size (fun _ => True) u4 x4_1) ∧ Aside0 (Below w.heap.size w w'))
    case atStart => exact ⟨(x5_1), (by first | rfl | (simp; done) | (simp [*]; done)), H', ⟨Nat.le_refl _⟩, ⟨by (with_reducible repeat (first | apply Kd.R_alloc | apply Kd.R_drewN | apply Kd.R_drew)); exact HO_4.out⟩, ⟨by repeat (first | (with_reducible first | exact HB.out | apply below_alloc | apply pw_below_drewN | apply below_drew1) | exact HB.out)⟩⟩
    case round =>
     clear H'
     try clear p2
     obtain ⟨x5_2, rfl, HA, HK2, HO_4, HB⟩ := hrel
     cases gk with
     | zero => exact absurd HA.out (by simp [anticlineref18_Words.l1])
     | succ k2 =>
      have H := HA.out
      clear HA
      simp only [anticlineref18_Words.l1] at H
      by_cases c3 : x5_2 < (a0.size : Int)
      ·rw [if_pos c3] at H
       have c3b0 : decide (x5_2 < (a0.size : Int)) = true := decide_eq_true c3
       clear c3
       (first | rw [c3b0] | (simp only [i64_w, i32_w]; rw [c3b0]) | skip)
       by_cases c4 : 0 ≤ x5_2
       ·rw [if_pos c4] at H
        have c4b0 : decide (0 ≤ x5_2) = true := decide_eq_true c4
        clear c4
        by_cases c6 : (bt a0 x5_2) = 32
        ·rw [if_pos c6] at H
         have c6b0 : ((bt a0 x5_2) == 32) = true := beq_iff_eq.mpr c6
         have c6b1 : ((bt a0 x5_2) != 32) = false := bne_eq_false_iff_eq.mpr c6
         clear c6
         have H' := Aside0.mk H
         clear H
         have p5 : 0 ≤ (x5_2 : Int) := of_decide_eq_true (by first | (with_reducible assumption) | assumption)
         have q5 : x5_2 < (a0.size : Int) := of_decide_eq_true (by first | (with_reducible assumption) | assumption)
         have hx5 := bt_at a0 x5_2
         replace p5 := eq_true p5
         replace q5 := eq_true q5
         go_wp2
         go_roundg k2
         case measure => have := HK1.out; have := HK2.out; omega
         case rel => exact ⟨(wrap64 (x5_2 + 1)), (by first | rfl | (simp; done) | (simp [*]; done)), H', ⟨by have := HK1.out; have := HK2.out; omega⟩, ⟨by (with_reducible repeat (first | apply Kd.R_alloc | apply Kd.R_drewN | apply Kd.R_drew)); exact HO_4.out⟩, ⟨by repeat (first | (with_reducible first | exact HB.out | apply below_alloc | apply pw_below_drewN | apply below_drew1) | exact HB.out)⟩⟩
        ·rw [if_neg c6] at H
         have c6b0 : ((bt a0 x5_2) == 32) = false := beq_eq_false_iff_ne.mpr c6
         have c6b1 : ((bt a0 x5_2) != 32) = true := bne_iff_ne.mpr c6
         by_cases c8 : (bt a0 x5_2) = 9
         ·rw [if_pos c8] at H
          have c8b0 : ((bt a0 x5_2) == 9) = true := beq_iff_eq.mpr c8
          have c8b1 : ((bt a0 x5_2) != 9) = false := bne_eq_false_iff_eq.mpr c8
          clear c8
          have H' := Aside0.mk H
          clear H
          have p5 : 0 ≤ (x5_2 : Int) := of_decide_eq_true (by first | (with_reducible assumption) | assumption)
          have q5 : x5_2 < (a0.size : Int) := of_decide_eq_true (by first | (with_reducible assumption) | assumption)
          have hx5 := bt_at a0 x5_2
          replace p5 := eq_true p5
          replace q5 := eq_true q5
          have p7 : 0 ≤ (x5_2 : Int) := of_decide_eq_true (by first | (with_reducible assumption) | assumption)
          have q7 : x5_2 < (a0.size : Int) := of_decide_eq_true (by first | (with_reducible assumption) | assumption)
          have hx7 := bt_at a0 x5_2
          replace p7 := eq_true p7
          replace q7 := eq_true q7
          go_wp2
          go_roundg k2
          case measure => have := HK1.out; have := HK2.out; omega
          case rel => exact ⟨(wrap64 (x5_2 + 1)), (by first | rfl | (simp; done) | (simp [*]; done)), H', ⟨by have := HK1.out; have := HK2.out; omega⟩, ⟨by (with_reducible repeat (first | apply Kd.R_alloc | apply Kd.R_drewN | apply Kd.R_drew)); exact HO_4.out⟩, ⟨by repeat (first | (with_reducible first | exact HB.out | apply below_alloc | apply pw_below_drewN | apply below_drew1) | exact HB.out)⟩⟩
         ·rw [if_neg c8] at H
          have c8b0 : ((bt a0 x5_2) == 9) = false := beq_eq_false_iff_ne.mpr c8
          have c8b1 : ((bt a0 x5_2) != 9) = true := bne_iff_ne.mpr c8
          have H' := Aside0.mk H
          clear H
          have p5 : 0 ≤ (x5_2 : Int) := of_decide_eq_true (by first | (with_reducible assumption) | assumption)
          have q5 : x5_2 < (a0.size : Int) := of_decide_eq_true (by first | (with_reducible assumption) | assumption)
          have hx5 := bt_at a0 x5_2
          replace p5 := eq_true p5
          replace q5 := eq_true q5
          have p7 : 0 ≤ (x5_2 : Int) := of_decide_eq_true (by first | (with_reducible assumption) | assumption)
          have q7 : x5_2 < (a0.size : Int) := of_decide_eq_true (by first | (with_reducible assumption) | assumption)
          have hx7 := bt_at a0 x5_2
          replace p7 := eq_true p7
          replace q7 := eq_true q7
          go_wp2
          go_meet
          case rel => exact ⟨_, (x5_2), (by first | rfl | (simp; done) | (simp [*]; done)), H', ⟨by have := HK1.out; have := HK2.out; first | omega | exact Nat.le_refl _⟩, ⟨by (with_reducible repeat (first | apply Kd.R_alloc | apply Kd.R_drewN | apply Kd.R_drew)); exact HO_4.out⟩, ⟨by repeat (first | (with_reducible first | exact HB.out | apply below_alloc | apply pw_below_drewN | apply below_drew1) | exact HB.out)⟩⟩
       ·rw [if_neg c4] at H
        exact absurd H (by simp)
      ·rw [if_neg c3] at H
       have c3b0 : decide (x5_2 < (a0.size : Int)) = false := decide_eq_false c3
       clear c3
       (first | rw [c3b0] | (simp only [i64_w, i32_w]; rw [c3b0]) | skip)
       have H' := Aside0.mk H
       clear H
       go_wp2
       go_meet
       case rel => exact ⟨_, (x5_2), (by first | rfl | (simp; done) | (simp [*]; done)), H', ⟨by have := HK1.out; have := HK2.out; first | omega | exact Nat.le_refl _⟩, ⟨by (with_reducible repeat (first | apply Kd.R_alloc | apply Kd.R_drewN | apply Kd.R_drew)); exact HO_4.out⟩, ⟨by repeat (first | (with_reducible first | exact HB.out | apply below_alloc | apply pw_below_drewN | apply below_drew1) | exact HB.out)⟩⟩
   case rest =>
    clear HC2
    try clear p2
    try clear c3
    try clear c3b0
    try clear c4
    try clear c4b0
    try clear p5
    try clear q5
    try clear hx5
    try clear c6
    try clear c6b0
    try clear c6b1
    try clear p6
    try clear c7
    try clear p7
    try clear q7
    try clear hx7
    try clear c8
    try clear c8b0
    try clear c8b1
    try clear p2
    try clear p5
    try clear p7
    try clear q5
    try clear q7
    obtain ⟨kq, x5_1, rfl, HA, HJ1, HO_4, HB⟩ := hcut
    cases kq with
    | zero => exact absurd HA.out (by simp [anticlineref18_Words.j2])
    | succ kj1 =>
     have H := HA.out
     clear HA
     simp only [anticlineref18_Words.j2] at H
     have HC9 := Aside0.mk H
     clear H
     go_upto_region 5 with (fail)
     go_cut [36] (fun v36 wc => ∃ (kq : Nat) (x36_8 : Bool), v36 = .bool x36_8 ∧ Aside0 (anticlineref18_Words.j3 kq a0 x4_1 x5_1 x36_8 = some (r1, r2)) ∧ Aside0 (kq ≤ kj1) ∧ Aside0 (Kd.R Kd.string 9 wc w.heap.size (fun _ => True) u4 x4_1) ∧ Aside0 (Below w.heap.size w wc))
     case first =>
      have H := HC9.out
      clear HC9
      by_cases c10 : x5_1 ≥ (a0.size : Int)
      ·rw [if_pos c10] at H
       have c10b0 : decide ((a0.size : Int) ≤ x5_1) = true := decide_eq_true c10
       clear c10
       (first | rw [c10b0] | (simp only [i64_w, i32_w]; rw [c10b0]) | skip)
       have H' := Aside0.mk H
       clear H
       go_wp2
       go_meet
       case rel => exact ⟨_, (true), (by first | rfl | (simp; done) | (simp [*]; done)), H', ⟨by have := HK1.out; have := HJ1.out; first | omega | exact Nat.le_refl _⟩, ⟨by (with_reducible repeat (first | apply Kd.R_alloc | apply Kd.R_drewN | apply Kd.R_drew)); exact HO_4.out⟩, ⟨by repeat (first | (with_reducible first | exact HB.out | apply below_alloc | apply pw_below_drewN | apply below_drew1) | exact HB.out)⟩⟩
      ·rw [if_neg c10] at H
       have c10b0 : decide ((a0.size : Int) ≤ x5_1) = false := decide_eq_false c10
       clear c10
       (first | rw [c10b0] | (simp only [i64_w, i32_w]; rw [c10b0]) | skip)
       by_cases c11 : 0 ≤ x5_1
       ·rw [if_pos c11] at H
        have c11b0 : decide (0 ≤ x5_1) = true := decide_eq_true c11
        clear c11
        by_cases c12 : x5_1 < (a0.size : Int)
        ·rw [if_pos c12] at H
         have c12b0 : decide (x5_1 < (a0.size : Int)) = true := decide_eq_true c12
         clear c12
         have H' := Aside0.mk H
         clear H
         have p13 : 0 ≤ (x5_1 : Int) := of_decide_eq_true (by first | (with_reducible assumption) | assumption)
         have q13 : x5_1 < (a0.size : Int) := of_decide_eq_true (by first | (with_reducible assumption) | assumption)
         have hx13 := bt_at a0 x5_1
         replace p13 := eq_true p13
         replace q13 := eq_true q13
         go_wp2
         go_meet
         case rel => exact ⟨_, (((bt a0 x5_1) == 35)), (by first | rfl | (simp; done) | (simp [*]; done)), H', ⟨by have := HK1.out; have := HJ1.out; first | omega | exact Nat.le_refl _⟩, ⟨by (with_reducible repeat (first | apply Kd.R_alloc | apply Kd.R_drewN | apply Kd.R_drew)); exact HO_4.out⟩, ⟨by repeat (first | (with_reducible first | exact HB.out | apply below_alloc | apply pw_below_drewN | apply below_drew1) | exact HB.out)⟩⟩
        ·rw [if_neg c12] at H
         exact absurd H (by simp)
       ·rw [if_neg c11] at H
        exact absurd H (by simp)
     case rest =>
      clear HC9
      try clear c1
      try clear p1
      try clear q1
      try clear hx1
      try clear p2
      try clear c3
      try clear c3b0
      try clear c4
      try clear c4b0
      try clear p5
      try clear q5
      try clear hx5
      try clear c6
      try clear c6b0
      try clear c6b1
      try clear p6
      try clear c7
      try clear p7
      try clear q7
      try clear hx7
      try clear c8
      try clear c8b0
      try clear c8b1
      try clear c10
      try clear c10b0
      try clear c11
      try clear c11b0
      try clear c12
      try clear c12b0
      try clear p13
      try clear q13
      try clear hx13
      try clear p13
      try clear p2
      try clear p5
      try clear p6
      try clear p7
      try clear q13
      try clear q5
      try clear q7
      obtain ⟨kq, x36_8, rfl, HA, HJ8, HO_4, HB⟩ := hcut
      cases kq with
      | zero => exact absurd HA.out (by simp [anticlineref18_Words.j3])
      | succ kj8 =>
       have H := HA.out
       clear HA
       simp only [anticlineref18_Words.j3] at H
       by_cases c14 : x36_8 = true
       ·subst c14
        have H1 : (some (x4_1, 0)) = some (r1, r2) := by rw [if_pos rfl] at H; exact H
        clear H
        have H := H1
        clear H1
        simp only [Option.some.injEq, Prod.mk.injEq] at H
        obtain ⟨rfl, rfl⟩ := H
        go_wp2
        go_ret2
        exact ⟨_, by first | rfl | (simp [errW_none, errW_some] <;> rfl) | (simp [*, errW_none, errW_some] <;> rfl), by (with_reducible repeat (first | apply Kd.R_alloc | apply Kd.R_drewN | apply Kd.R_drew)); exact HO_4.out, by repeat (first | (with_reducible first | exact HB.out | apply below_alloc | apply pw_below_drewN | apply below_drew1) | exact HB.out)⟩
       ·replace c14 := Bool.eq_false_iff.mpr c14
        subst c14
        have H1 : (if 0 ≤ x5_1 then (if x5_1 < (a0.size : Int) then (if (bt a0 x5_1) = 34 then ((anticlineref18_quoted.f kj8 a0 x5_1).bind fun bt142 => (if bt142.2 < 0 then (some (([] : List ByteArray), 13)) else (if bt142.2 < (a0.size : Int) then (if 0 ≤ bt142.2 then (if (bt a0 bt142.2) = 32 then (if x4_1.length < 8796093022208 then (anticlineref18_Words.l0 kj8 a0 (x4_1 ++ [bt142.1]) bt142.2) else (none)) else (if (bt a0 bt142.2) = 9 then (if x4_1.length < 8796093022208 then (anticlineref18_Words.l0 kj8 a0 (x4_1 ++ [bt142.1]) bt142.2) else (none)) else (some (([] : List ByteArray), 13)))) else (none)) else (if x4_1.length < 8796093022208 then (anticlineref18_Words.l0 kj8 a0 (x4_1 ++ [bt142.1]) bt142.2) else (none))))) else (anticlineref18_Words.l2 kj8 a0 x4_1 x5_1 x5_1)) else (none)) else (none)) = some (r1, r2) := by rw [if_neg (show ¬ (false = true) by decide)] at H; exact H
        clear H
        have H := H1
        clear H1
        by_cases c15 : 0 ≤ x5_1
        ·rw [if_pos c15] at H
         have c15b0 : decide (0 ≤ x5_1) = true := decide_eq_true c15
         clear c15
         by_cases c16 : x5_1 < (a0.size : Int)
         ·rw [if_pos c16] at H
          have c16b0 : decide (x5_1 < (a0.size : Int)) = true := decide_eq_true c16
          clear c16
          by_cases c18 : (bt a0 x5_1) = 34
          ·rw [if_pos c18] at H
           have c18b0 : ((bt a0 x5_1) == 34) = true := beq_iff_eq.mpr c18
           have c18b1 : ((bt a0 x5_1) != 34) = false := bne_eq_false_iff_eq.mpr c18
           clear c18
           replace H := Option.bind_eq_some_iff.mp H
           obtain ⟨⟨t142, t143⟩, A190, H⟩ := H
           replace H : (if t143 < 0 then (some (([] : List ByteArray), 13)) else (if t143 < (a0.size : Int) then (if 0 ≤ t143 then (if (bt a0 t143) = 32 then (if x4_1.length < 8796093022208 then (anticlineref18_Words.l0 kj8 a0 (x4_1 ++ [t142]) t143) else (none)) else (if (bt a0 t143) = 9 then (if x4_1.length < 8796093022208 then (anticlineref18_Words.l0 kj8 a0 (x4_1 ++ [t142]) t143) else (none)) else (some (([] : List ByteArray), 13)))) else (none)) else (if x4_1.length < 8796093022208 then (anticlineref18_Words.l0 kj8 a0 (x4_1 ++ [t142]) t143) else (none)))) = some (r1, r2) := H
           have A19 := Aside0.mk A190
           clear A190
           by_cases c20 : t143 < 0
           ·rw [if_pos c20] at H
            have c20b0 : decide (t143 < 0) = true := decide_eq_true c20
            clear c20
            simp only [Option.some.injEq, Prod.mk.injEq] at H
            obtain ⟨rfl, rfl⟩ := H
            have p17 : 0 ≤ (x5_1 : Int) := of_decide_eq_true (by first | (with_reducible assumption) | assumption)
            have q17 : x5_1 < (a0.size : Int) := of_decide_eq_true (by first | (with_reducible assumption) | assumption)
            have hx17 := bt_at a0 x5_1
            replace p17 := eq_true p17
            replace q17 := eq_true q17
            go_wp2_with (first | ((with_reducible refine gate_callee (f := 12) rfl ?_); refine goesL_ (some 45) rfl rfl Tryz.func12 (by kernel_rfl) rfl #[.string a0, .int .i64 x5_1] rfl (by (try simp only [List.map_toArray, List.map_cons, List.map_nil]); first | done | rfl | (simp only [List.length_drop, List.length_take]; rfl)) ?_; (with_reducible refine (anticlineref18_quoted.calls kj8 a0 x5_1 t142 t143 _ A19.out).mono ?_); rintro e w21 ⟨rfl, hb⟩; refine ⟨_, rfl, ?_⟩; have n0_ := Aside0.mk (Kd.R_below (by (with_reducible repeat (first | apply Kd.R_alloc | apply Kd.R_drewN | apply Kd.R_drew)); exact HO_4.out) hb); have n1_ := Aside0.mk (below_step (by repeat (first | (with_reducible first | exact HB.out | apply below_alloc | apply pw_below_drewN | apply below_drew1) | exact HB.out)) hb); clear HO_4; clear HB; have HO_4 := n0_; have HB := n1_; clear n0_ n1_; (try clear hb); (try clear hb2); (try clear hk); (try clear hi)))
            go_ret2
            exact ⟨_, by first | rfl | (simp [errW_none, errW_some] <;> rfl) | (simp [*, errW_none, errW_some] <;> rfl), by first | exact Kd.R_nil _ _ _ _ _ | exact Kd.N_nil _ _ _ _ _ | exact Kd.V_nil _ _ _ _ _ | exact Kd.Q_nil _ _ _ _ _ | exact Kd.S_nil _ _ _ _ _, by repeat (first | (with_reducible first | exact HB.out | apply below_alloc | apply pw_below_drewN | apply below_drew1) | exact HB.out)⟩
           ·rw [if_neg c20] at H
            have c20b0 : decide (t143 < 0) = false := decide_eq_false c20
            clear c20
            by_cases c22 : t143 < (a0.size : Int)
            ·rw [if_pos c22] at H
             have c22b0 : decide (t143 < (a0.size : Int)) = true := decide_eq_true c22
             clear c22
             by_cases c23 : 0 ≤ t143
             ·rw [if_pos c23] at H
              have c23b0 : decide (0 ≤ t143) = true := decide_eq_true c23
              clear c23
              by_cases c25 : (bt a0 t143) = 32
              ·rw [if_pos c25] at H
               have c25b0 : ((bt a0 t143) == 32) = true := beq_iff_eq.mpr c25
               have c25b1 : ((bt a0 t143) != 32) = false := bne_eq_false_iff_eq.mpr c25
               clear c25
               by_cases c26 : x4_1.length < 8796093022208
               ·rw [if_pos c26] at H
                have LMc26 := Aside0.mk c26
                clear c26
                obtain ⟨y144, hy144⟩ : ∃ y_ : List ByteArray, y_ = (x4_1 ++ [t142]) := ⟨_, rfl⟩
                replace H : (anticlineref18_Words.l0 kj8 a0 y144 t143) = some (r1, r2) := by first | (rw [hy144]; with_reducible exact H) | (have H2_ := (Option.bind_some _ _).symm.trans H; rw [hy144]; with_reducible exact H2_) | (have H2_ := (Option.bind_some _ _).symm.trans H; with_reducible exact H2_) | with_reducible exact H | (rw [hy144]; exact H) | exact H
                have Ny144 := Aside0.mk hy144
                clear hy144
                have H' := Aside0.mk H
                clear H
                have p17 : 0 ≤ (x5_1 : Int) := of_decide_eq_true (by first | (with_reducible assumption) | assumption)
                have q17 : x5_1 < (a0.size : Int) := of_decide_eq_true (by first | (with_reducible assumption) | assumption)
                have hx17 := bt_at a0 x5_1
                replace p17 := eq_true p17
                replace q17 := eq_true q17
                go_wp2_with (first | ((with_reducible refine gate_callee (f := 12) rfl ?_); refine goesL_ (some 45) rfl rfl Tryz.func12 (by kernel_rfl) rfl #[.string a0, .int .i64 x5_1] rfl (by (try simp only [List.map_toArray, List.map_cons, List.map_nil]); first | done | rfl | (simp only [List.length_drop, List.length_take]; rfl)) ?_; (with_reducible refine (anticlineref18_quoted.calls kj8 a0 x5_1 t142 t143 _ A19.out).mono ?_); rintro e w27 ⟨rfl, hb⟩; refine ⟨_, rfl, ?_⟩; have n0_ := Aside0.mk (Kd.R_below (by (with_reducible repeat (first | apply Kd.R_alloc | apply Kd.R_drewN | apply Kd.R_drew)); exact HO_4.out) hb); have n1_ := Aside0.mk (below_step (by repeat (first | (with_reducible first | exact HB.out | apply below_alloc | apply pw_below_drewN | apply below_drew1) | exact HB.out)) hb); clear HO_4; clear HB; have HO_4 := n0_; have HB := n1_; clear n0_ n1_; (try clear hb); (try clear hb2); (try clear hk); (try clear hi); have p24 : 0 ≤ (t143 : Int) := of_decide_eq_true (by first | (with_reducible assumption) | assumption); have q24 : t143 < (a0.size : Int) := of_decide_eq_true (by first | (with_reducible assumption) | assumption); have hx24 := bt_at a0 t143; replace p24 := eq_true p24; replace q24 := eq_true q24) | ((with_reducible refine gate_builtin (b := .append) (xs := #[.tmp 68, .tmp 70]) rfl ?_); (try (refine gate_guard (by rfl) ?_; dsimp only)); at_builtin; refine Kd.R_append Kd.string (w0 := w) w.heap.size rfl (.tmp 68) (.tmp 70) 24 9 (.string ⟨#[]⟩) 16 rfl Tryz.underlying24 info9 rfl (by decide) (by omega) u4 x4_1 t142 [.string t142] (fun _ => True) (fun _ => False) rfl rfl ?aP (fun _ hk => hk.elim) ?aF ?aO ?aB ?aS ?aL ?_; (case aP => exact rfl); (case aB => exact (by repeat (first | (with_reducible first | exact HB.out | apply below_alloc | apply pw_below_drewN | apply below_drew1) | exact HB.out))); (case aF => exact (fun _ _ => trivial)); (case aO => exact (by (with_reducible repeat (first | apply Kd.R_alloc | apply Kd.R_drewN | apply Kd.R_drew)); exact HO_4.out)); (case aS => exact (below_size (by repeat (first | (with_reducible first | exact HB.out | apply below_alloc | apply pw_below_drewN | apply below_drew1) | exact HB.out)))); (case aL => have := LMc26.out; omega); intro v145 w28 ho hb hg hat; rw [← Ny144.out] at ho; have n0_ := Aside0.mk (hb); have n1_ := Aside0.mk (ho); clear HB; clear HO_4; have HB := n0_; have HO146 := n1_; clear n0_ n1_; clear ho hb hg hat))
                go_roundg kj8
                case measure => have := HK1.out; have := HJ1.out; have := HJ8.out; omega
                case rel => exact ⟨(y144), (t143), (by first | rfl | (simp; done) | (simp [*]; done)), H', ⟨by have := HK1.out; have := HJ1.out; have := HJ8.out; omega⟩, ⟨by (with_reducible repeat (first | apply Kd.R_alloc | apply Kd.R_drewN | apply Kd.R_drew)); exact HO146.out⟩, ⟨by repeat (first | (with_reducible first | exact HB.out | apply below_alloc | apply pw_below_drewN | apply below_drew1) | exact HB.out)⟩⟩
               ·rw [if_neg c26] at H
                exact absurd H (by simp)
              ·rw [if_neg c25] at H
               have c25b0 : ((bt a0 t143) == 32) = false := beq_eq_false_iff_ne.mpr c25
               have c25b1 : ((bt a0 t143) != 32) = true := bne_iff_ne.mpr c25
               by_cases c30 : (bt a0 t143) = 9
               ·rw [if_pos c30] at H
                have c30b0 : ((bt a0 t143) == 9) = true := beq_iff_eq.mpr c30
                have c30b1 : ((bt a0 t143) != 9) = false := bne_eq_false_iff_eq.mpr c30
                clear c30
                by_cases c31 : x4_1.length < 8796093022208
                ·rw [if_pos c31] at H
                 have LMc31 := Aside0.mk c31
                 clear c31
                 obtain ⟨y147, hy147⟩ : ∃ y_ : List ByteArray, y_ = (x4_1 ++ [t142]) := ⟨_, rfl⟩
                 replace H : (anticlineref18_Words.l0 kj8 a0 y147 t143) = some (r1, r2) := by first | (rw [hy147]; with_reducible exact H) | (have H2_ := (Option.bind_some _ _).symm.trans H; rw [hy147]; with_reducible exact H2_) | (have H2_ := (Option.bind_some _ _).symm.trans H; with_reducible exact H2_) | with_reducible exact H | (rw [hy147]; exact H) | exact H
                 have Ny147 := Aside0.mk hy147
                 clear hy147
                 have H' := Aside0.mk H
                 clear H
                 have p17 : 0 ≤ (x5_1 : Int) := of_decide_eq_true (by first | (with_reducible assumption) | assumption)
                 have q17 : x5_1 < (a0.size : Int) := of_decide_eq_true (by first | (with_reducible assumption) | assumption)
                 have hx17 := bt_at a0 x5_1
                 replace p17 := eq_true p17
                 replace q17 := eq_true q17
                 go_wp2_with (first | ((with_reducible refine gate_callee (f := 12) rfl ?_); refine goesL_ (some 45) rfl rfl Tryz.func12 (by kernel_rfl) rfl #[.string a0, .int .i64 x5_1] rfl (by (try simp only [List.map_toArray, List.map_cons, List.map_nil]); first | done | rfl | (simp only [List.length_drop, List.length_take]; rfl)) ?_; (with_reducible refine (anticlineref18_quoted.calls kj8 a0 x5_1 t142 t143 _ A19.out).mono ?_); rintro e w32 ⟨rfl, hb⟩; refine ⟨_, rfl, ?_⟩; have n0_ := Aside0.mk (Kd.R_below (by (with_reducible repeat (first | apply Kd.R_alloc | apply Kd.R_drewN | apply Kd.R_drew)); exact HO_4.out) hb); have n1_ := Aside0.mk (below_step (by repeat (first | (with_reducible first | exact HB.out | apply below_alloc | apply pw_below_drewN | apply below_drew1) | exact HB.out)) hb); clear HO_4; clear HB; have HO_4 := n0_; have HB := n1_; clear n0_ n1_; (try clear hb); (try clear hb2); (try clear hk); (try clear hi); have p24 : 0 ≤ (t143 : Int) := of_decide_eq_true (by first | (with_reducible assumption) | assumption); have q24 : t143 < (a0.size : Int) := of_decide_eq_true (by first | (with_reducible assumption) | assumption); have hx24 := bt_at a0 t143; replace p24 := eq_true p24; replace q24 := eq_true q24; have p29 : 0 ≤ (t143 : Int) := of_decide_eq_true (by first | (with_reducible assumption) | assumption); have q29 : t143 < (a0.size : Int) := of_decide_eq_true (by first | (with_reducible assumption) | assumption); have hx29 := bt_at a0 t143; replace p29 := eq_true p29; replace q29 := eq_true q29) | ((with_reducible refine gate_builtin (b := .append) (xs := #[.tmp 68, .tmp 70]) rfl ?_); (try (refine gate_guard (by rfl) ?_; dsimp only)); at_builtin; refine Kd.R_append Kd.string (w0 := w) w.heap.size rfl (.tmp 68) (.tmp 70) 24 9 (.string ⟨#[]⟩) 16 rfl Tryz.underlying24 info9 rfl (by decide) (by omega) u4 x4_1 t142 [.string t142] (fun _ => True) (fun _ => False) rfl rfl ?aP (fun _ hk => hk.elim) ?aF ?aO ?aB ?aS ?aL ?_; (case aP => exact rfl); (case aB => exact (by repeat (first | (with_reducible first | exact HB.out | apply below_alloc | apply pw_below_drewN | apply below_drew1) | exact HB.out))); (case aF => exact (fun _ _ => trivial)); (case aO => exact (by (with_reducible repeat (first | apply Kd.R_alloc | apply Kd.R_drewN | apply Kd.R_drew)); exact HO_4.out)); (case aS => exact (below_size (by repeat (first | (with_reducible first | exact HB.out | apply below_alloc | apply pw_below_drewN | apply below_drew1) | exact HB.out)))); (case aL => have := LMc31.out; omega); intro v148 w33 ho hb hg hat; rw [← Ny147.out] at ho; have n0_ := Aside0.mk (hb); have n1_ := Aside0.mk (ho); clear HB; clear HO_4; have HB := n0_; have HO149 := n1_; clear n0_ n1_; clear ho hb hg hat))
                 go_roundg kj8
                 case measure => have := HK1.out; have := HJ1.out; have := HJ8.out; omega
                 case rel => exact ⟨(y147), (t143), (by first | rfl | (simp; done) | (simp [*]; done)), H', ⟨by have := HK1.out; have := HJ1.out; have := HJ8.out; omega⟩, ⟨by (with_reducible repeat (first | apply Kd.R_alloc | apply Kd.R_drewN | apply Kd.R_drew)); exact HO149.out⟩, ⟨by repeat (first | (with_reducible first | exact HB.out | apply below_alloc | apply pw_below_drewN | apply below_drew1) | exact HB.out)⟩⟩
                ·rw [if_neg c31] at H
                 exact absurd H (by simp)
               ·rw [if_neg c30] at H
                have c30b0 : ((bt a0 t143) == 9) = false := beq_eq_false_iff_ne.mpr c30
                have c30b1 : ((bt a0 t143) != 9) = true := bne_iff_ne.mpr c30
                simp only [Option.some.injEq, Prod.mk.injEq] at H
                obtain ⟨rfl, rfl⟩ := H
                have p17 : 0 ≤ (x5_1 : Int) := of_decide_eq_true (by first | (with_reducible assumption) | assumption)
                have q17 : x5_1 < (a0.size : Int) := of_decide_eq_true (by first | (with_reducible assumption) | assumption)
                have hx17 := bt_at a0 x5_1
                replace p17 := eq_true p17
                replace q17 := eq_true q17
                go_wp2_with (first | ((with_reducible refine gate_callee (f := 12) rfl ?_); refine goesL_ (some 45) rfl rfl Tryz.func12 (by kernel_rfl) rfl #[.string a0, .int .i64 x5_1] rfl (by (try simp only [List.map_toArray, List.map_cons, List.map_nil]); first | done | rfl | (simp only [List.length_drop, List.length_take]; rfl)) ?_; (with_reducible refine (anticlineref18_quoted.calls kj8 a0 x5_1 t142 t143 _ A19.out).mono ?_); rintro e w34 ⟨rfl, hb⟩; refine ⟨_, rfl, ?_⟩; have n0_ := Aside0.mk (Kd.R_below (by (with_reducible repeat (first | apply Kd.R_alloc | apply Kd.R_drewN | apply Kd.R_drew)); exact HO_4.out) hb); have n1_ := Aside0.mk (below_step (by repeat (first | (with_reducible first | exact HB.out | apply below_alloc | apply pw_below_drewN | apply below_drew1) | exact HB.out)) hb); clear HO_4; clear HB; have HO_4 := n0_; have HB := n1_; clear n0_ n1_; (try clear hb); (try clear hb2); (try clear hk); (try clear hi); have p24 : 0 ≤ (t143 : Int) := of_decide_eq_true (by first | (with_reducible assumption) | assumption); have q24 : t143 < (a0.size : Int) := of_decide_eq_true (by first | (with_reducible assumption) | assumption); have hx24 := bt_at a0 t143; replace p24 := eq_true p24; replace q24 := eq_true q24; have p29 : 0 ≤ (t143 : Int) := of_decide_eq_true (by first | (with_reducible assumption) | assumption); have q29 : t143 < (a0.size : Int) := of_decide_eq_true (by first | (with_reducible assumption) | assumption); have hx29 := bt_at a0 t143; replace p29 := eq_true p29; replace q29 := eq_true q29))
                go_ret2
                exact ⟨_, by first | rfl | (simp [errW_none, errW_some] <;> rfl) | (simp [*, errW_none, errW_some] <;> rfl), by first | exact Kd.R_nil _ _ _ _ _ | exact Kd.N_nil _ _ _ _ _ | exact Kd.V_nil _ _ _ _ _ | exact Kd.Q_nil _ _ _ _ _ | exact Kd.S_nil _ _ _ _ _, by repeat (first | (with_reducible first | exact HB.out | apply below_alloc | apply pw_below_drewN | apply below_drew1) | exact HB.out)⟩
             ·rw [if_neg c23] at H
              exact absurd H (by simp)
            ·rw [if_neg c22] at H
             have c22b0 : decide (t143 < (a0.size : Int)) = false := decide_eq_false c22
             clear c22
             by_cases c35 : x4_1.length < 8796093022208
             ·rw [if_pos c35] at H
              have LMc35 := Aside0.mk c35
              clear c35
              obtain ⟨y150, hy150⟩ : ∃ y_ : List ByteArray, y_ = (x4_1 ++ [t142]) := ⟨_, rfl⟩
              replace H : (anticlineref18_Words.l0 kj8 a0 y150 t143) = some (r1, r2) := by first | (rw [hy150]; with_reducible exact H) | (have H2_ := (Option.bind_some _ _).symm.trans H; rw [hy150]; with_reducible exact H2_) | (have H2_ := (Option.bind_some _ _).symm.trans H; with_reducible exact H2_) | with_reducible exact H | (rw [hy150]; exact H) | exact H
              have Ny150 := Aside0.mk hy150
              clear hy150
              have H' := Aside0.mk H
              clear H
              have p17 : 0 ≤ (x5_1 : Int) := of_decide_eq_true (by first | (with_reducible assumption) | assumption)
              have q17 : x5_1 < (a0.size : Int) := of_decide_eq_true (by first | (with_reducible assumption) | assumption)
              have hx17 := bt_at a0 x5_1
              replace p17 := eq_true p17
              replace q17 := eq_true q17
              go_wp2_with (first | ((with_reducible refine gate_callee (f := 12) rfl ?_); refine goesL_ (some 45) rfl rfl Tryz.func12 (by kernel_rfl) rfl #[.string a0, .int .i64 x5_1] rfl (by (try simp only [List.map_toArray, List.map_cons, List.map_nil]); first | done | rfl | (simp only [List.length_drop, List.length_take]; rfl)) ?_; (with_reducible refine (anticlineref18_quoted.calls kj8 a0 x5_1 t142 t143 _ A19.out).mono ?_); rintro e w36 ⟨rfl, hb⟩; refine ⟨_, rfl, ?_⟩; have n0_ := Aside0.mk (Kd.R_below (by (with_reducible repeat (first | apply Kd.R_alloc | apply Kd.R_drewN | apply Kd.R_drew)); exact HO_4.out) hb); have n1_ := Aside0.mk (below_step (by repeat (first | (with_reducible first | exact HB.out | apply below_alloc | apply pw_below_drewN | apply below_drew1) | exact HB.out)) hb); clear HO_4; clear HB; have HO_4 := n0_; have HB := n1_; clear n0_ n1_; (try clear hb); (try clear hb2); (try clear hk); (try clear hi)) | ((with_reducible refine gate_builtin (b := .append) (xs := #[.tmp 68, .tmp 70]) rfl ?_); (try (refine gate_guard (by rfl) ?_; dsimp only)); at_builtin; refine Kd.R_append Kd.string (w0 := w) w.heap.size rfl (.tmp 68) (.tmp 70) 24 9 (.string ⟨#[]⟩) 16 rfl Tryz.underlying24 info9 rfl (by decide) (by omega) u4 x4_1 t142 [.string t142] (fun _ => True) (fun _ => False) rfl rfl ?aP (fun _ hk => hk.elim) ?aF ?aO ?aB ?aS ?aL ?_; (case aP => exact rfl); (case aB => exact (by repeat (first | (with_reducible first | exact HB.out | apply below_alloc | apply pw_below_drewN | apply below_drew1) | exact HB.out))); (case aF => exact (fun _ _ => trivial)); (case aO => exact (by (with_reducible repeat (first | apply Kd.R_alloc | apply Kd.R_drewN | apply Kd.R_drew)); exact HO_4.out)); (case aS => exact (below_size (by repeat (first | (with_reducible first | exact HB.out | apply below_alloc | apply pw_below_drewN | apply below_drew1) | exact HB.out)))); (case aL => have := LMc35.out; omega); intro v151 w37 ho hb hg hat; rw [← Ny150.out] at ho; have n0_ := Aside0.mk (hb); have n1_ := Aside0.mk (ho); clear HB; clear HO_4; have HB := n0_; have HO152 := n1_; clear n0_ n1_; clear ho hb hg hat))
              go_roundg kj8
              case measure => have := HK1.out; have := HJ1.out; have := HJ8.out; omega
              case rel => exact ⟨(y150), (t143), (by first | rfl | (simp; done) | (simp [*]; done)), H', ⟨by have := HK1.out; have := HJ1.out; have := HJ8.out; omega⟩, ⟨by (with_reducible repeat (first | apply Kd.R_alloc | apply Kd.R_drewN | apply Kd.R_drew)); exact HO152.out⟩, ⟨by repeat (first | (with_reducible first | exact HB.out | apply below_alloc | apply pw_below_drewN | apply below_drew1) | exact HB.out)⟩⟩
             ·rw [if_neg c35] at H
              exact absurd H (by simp)
          ·rw [if_neg c18] at H
           have c18b0 : ((bt a0 x5_1) == 34) = false := beq_eq_false_iff_ne.mpr c18
           have c18b1 : ((bt a0 x5_1) != 34) = true := bne_iff_ne.mpr c18
           have H' := Aside0.mk H
           clear H
           have p17 : 0 ≤ (x5_1 : Int) := of_decide_eq_true (by first | (with_reducible assumption) | assumption)
           have q17 : x5_1 < (a0.size : Int) := of_decide_eq_true (by first | (with_reducible assumption) | assumption)
           have hx17 := bt_at a0 x5_1
           replace p17 := eq_true p17
           replace q17 := eq_true q17
           go_wp2
           go_loopg [5] kj8 (fun kq v5 w' => ∃ (x5_4 : Int), v5 = .int .i64 x5_4 ∧ Aside0 (anticlineref18_Words.l2 kq a0 x4_1 x5_4 x5_1 = some (r1, r2)) ∧ Aside0 (kq ≤ kj8) ∧ Aside0 (Kd.R Kd.string 9 w' w.heap.size (fun _ => True) u4 x4_1) ∧ Aside0 (Below w.heap.size w w'))
           case atStart => exact ⟨(x5_1), (by first | rfl | (simp; done) | (simp [*]; done)), H', ⟨Nat.le_refl _⟩, ⟨by (with_reducible repeat (first | apply Kd.R_alloc | apply Kd.R_drewN | apply Kd.R_drew)); exact HO_4.out⟩, ⟨by repeat (first | (with_reducible first | exact HB.out | apply below_alloc | apply pw_below_drewN | apply below_drew1) | exact HB.out)⟩⟩
           case round =>
            clear H'
            try clear c1
            try clear p1
            try clear q1
            try clear hx1
            try clear c2
            try clear p2
            try clear q2
            try clear hx2
            try clear c3
            try clear c3b0
            try clear c4
            try clear c4b0
            try clear p5
            try clear q5
            try clear hx5
            try clear c6
            try clear c6b0
            try clear c6b1
            try clear p6
            try clear c7
            try clear p7
            try clear q7
            try clear hx7
            try clear c8
            try clear c8b0
            try clear c8b1
            try clear c10
            try clear c10b0
            try clear c11
            try clear c11b0
            try clear c12
            try clear c12b0
            try clear p13
            try clear q13
            try clear hx13
            try clear c14
            try clear c15
            try clear c15b0
            try clear c16
            try clear c16b0
            try clear p17
            try clear q17
            try clear hx17
            try clear c18
            try clear c18b0
            try clear c18b1
            try clear c20
            try clear c20b0
            try clear c22
            try clear c22b0
            try clear c23
            try clear c23b0
            try clear p24
            try clear q24
            try clear hx24
            try clear c25
            try clear c25b0
            try clear c25b1
            try clear c26
            try clear p29
            try clear q29
            try clear hx29
            try clear c30
            try clear c30b0
            try clear c30b1
            try clear c31
            try clear c35
            try clear p1
            try clear p13
            try clear p17
            try clear p2
            try clear p24
            try clear p29
            try clear p5
            try clear p6
            try clear p7
            try clear q1
            try clear q13
            try clear q17
            try clear q24
            try clear q29
            try clear q5
            try clear q7
            obtain ⟨x5_4, rfl, HA, HK4, HO_4, HB⟩ := hrel
            cases gk with
            | zero => exact absurd HA.out (by simp [anticlineref18_Words.l2])
            | succ k4 =>
             have H := HA.out
             clear HA
             simp only [anticlineref18_Words.l2] at H
             have HC38 := Aside0.mk H
             clear H
             go_upto_region 14 with (fail)
             go_cut [89] (fun v89 wc => ∃ (kq : Nat) (x89_37 : Bool), v89 = .bool x89_37 ∧ Aside0 (anticlineref18_Words.j5 kq a0 x4_1 x5_4 x5_1 x89_37 = some (r1, r2)) ∧ Aside0 (kq ≤ k4) ∧ Aside0 (Kd.R Kd.string 9 wc w.heap.size (fun _ => True) u4 x4_1) ∧ Aside0 (Below w.heap.size w wc))
             case first =>
              have H := HC38.out
              clear HC38
              by_cases c39 : x5_4 < (a0.size : Int)
              ·rw [if_pos c39] at H
               have c39b0 : decide (x5_4 < (a0.size : Int)) = true := decide_eq_true c39
               clear c39
               (first | rw [c39b0] | (simp only [i64_w, i32_w]; rw [c39b0]) | skip)
               by_cases c40 : 0 ≤ x5_4
               ·rw [if_pos c40] at H
                have c40b0 : decide (0 ≤ x5_4) = true := decide_eq_true c40
                clear c40
                by_cases c42 : (bt a0 x5_4) = 32
                ·rw [if_pos c42] at H
                 have c42b0 : ((bt a0 x5_4) == 32) = true := beq_iff_eq.mpr c42
                 have c42b1 : ((bt a0 x5_4) != 32) = false := bne_eq_false_iff_eq.mpr c42
                 clear c42
                 have H' := Aside0.mk H
                 clear H
                 have p41 : 0 ≤ (x5_4 : Int) := of_decide_eq_true (by first | (with_reducible assumption) | assumption)
                 have q41 : x5_4 < (a0.size : Int) := of_decide_eq_true (by first | (with_reducible assumption) | assumption)
                 have hx41 := bt_at a0 x5_4
                 replace p41 := eq_true p41
                 replace q41 := eq_true q41
                 go_wp2
                 go_meet
                 case rel => exact ⟨_, (false), (by first | rfl | (simp; done) | (simp [*]; done)), H', ⟨by have := HK1.out; have := HJ1.out; have := HJ8.out; have := HK4.out; first | omega | exact Nat.le_refl _⟩, ⟨by (with_reducible repeat (first | apply Kd.R_alloc | apply Kd.R_drewN | apply Kd.R_drew)); exact HO_4.out⟩, ⟨by repeat (first | (with_reducible first | exact HB.out | apply below_alloc | apply pw_below_drewN | apply below_drew1) | exact HB.out)⟩⟩
                ·rw [if_neg c42] at H
                 have c42b0 : ((bt a0 x5_4) == 32) = false := beq_eq_false_iff_ne.mpr c42
                 have c42b1 : ((bt a0 x5_4) != 32) = true := bne_iff_ne.mpr c42
                 have H' := Aside0.mk H
                 clear H
                 have p41 : 0 ≤ (x5_4 : Int) := of_decide_eq_true (by first | (with_reducible assumption) | assumption)
                 have q41 : x5_4 < (a0.size : Int) := of_decide_eq_true (by first | (with_reducible assumption) | assumption)
                 have hx41 := bt_at a0 x5_4
                 replace p41 := eq_true p41
                 replace q41 := eq_true q41
                 have p43 : 0 ≤ (x5_4 : Int) := of_decide_eq_true (by first | (with_reducible assumption) | assumption)
                 have q43 : x5_4 < (a0.size : Int) := of_decide_eq_true (by first | (with_reducible assumption) | assumption)
                 have hx43 := bt_at a0 x5_4
                 replace p43 := eq_true p43
                 replace q43 := eq_true q43
                 go_wp2
                 go_meet
                 case rel => exact ⟨_, (((bt a0 x5_4) != 9)), (by first | rfl | (simp; done) | (simp [*]; done)), H', ⟨by have := HK1.out; have := HJ1.out; have := HJ8.out; have := HK4.out; first | omega | exact Nat.le_refl _⟩, ⟨by (with_reducible repeat (first | apply Kd.R_alloc | apply Kd.R_drewN | apply Kd.R_drew)); exact HO_4.out⟩, ⟨by repeat (first | (with_reducible first | exact HB.out | apply below_alloc | apply pw_below_drewN | apply below_drew1) | exact HB.out)⟩⟩
               ·rw [if_neg c40] at H
                exact absurd H (by simp)
              ·rw [if_neg c39] at H
               have c39b0 : decide (x5_4 < (a0.size : Int)) = false := decide_eq_false c39
               clear c39
               (first | rw [c39b0] | (simp only [i64_w, i32_w]; rw [c39b0]) | skip)
               have H' := Aside0.mk H
               clear H
               go_wp2
               go_meet
               case rel => exact ⟨_, (false), (by first | rfl | (simp; done) | (simp [*]; done)), H', ⟨by have := HK1.out; have := HJ1.out; have := HJ8.out; have := HK4.out; first | omega | exact Nat.le_refl _⟩, ⟨by (with_reducible repeat (first | apply Kd.R_alloc | apply Kd.R_drewN | apply Kd.R_drew)); exact HO_4.out⟩, ⟨by repeat (first | (with_reducible first | exact HB.out | apply below_alloc | apply pw_below_drewN | apply below_drew1) | exact HB.out)⟩⟩
             case rest =>
              clear HC38
              try clear c1
              try clear p1
              try clear q1
              try clear hx1
              try clear c2
              try clear p2
              try clear q2
              try clear hx2
              try clear c3
              try clear c3b0
              try clear c4
              try clear c4b0
              try clear p4
              try clear q4
              try clear hx4
              try clear p5
              try clear q5
              try clear hx5
              try clear c6
              try clear c6b0
              try clear c6b1
              try clear p6
              try clear c7
              try clear p7
              try clear q7
              try clear hx7
              try clear c8
              try clear c8b0
              try clear c8b1
              try clear c10
              try clear c10b0
              try clear c11
              try clear c11b0
              try clear c12
              try clear c12b0
              try clear p13
              try clear q13
              try clear hx13
              try clear c14
              try clear c15
              try clear c15b0
              try clear c16
              try clear c16b0
              try clear p17
              try clear q17
              try clear hx17
              try clear c18
              try clear c18b0
              try clear c18b1
              try clear c20
              try clear c20b0
              try clear c22
              try clear c22b0
              try clear c23
              try clear c23b0
              try clear p24
              try clear q24
              try clear hx24
              try clear c25
              try clear c25b0
              try clear c25b1
              try clear c26
              try clear p29
              try clear q29
              try clear hx29
              try clear c30
              try clear c30b0
              try clear c30b1
              try clear c31
              try clear c35
              try clear c39
              try clear c39b0
              try clear c40
              try clear c40b0
              try clear p41
              try clear q41
              try clear hx41
              try clear c42
              try clear c42b0
              try clear c42b1
              try clear p43
              try clear q43
              try clear hx43
              try clear p1
              try clear p13
              try clear p17
              try clear p2
              try clear p24
              try clear p29
              try clear p41
              try clear p43
              try clear p5
              try clear p6
              try clear p7
              try clear q1
              try clear q13
              try clear q17
              try clear q2
              try clear q24
              try clear q29
              try clear q41
              try clear q43
              try clear q5
              try clear q7
              obtain ⟨kq, x89_37, rfl, HA, HJ37, HO_4, HB⟩ := hcut
              cases kq with
              | zero => exact absurd HA.out (by simp [anticlineref18_Words.j5])
              | succ kj37 =>
               have H := HA.out
               clear HA
               simp only [anticlineref18_Words.j5] at H
               by_cases c44 : x89_37 = true
               ·subst c44
                have H1 : (if 0 ≤ x5_4 then (if x5_4 < (a0.size : Int) then (if (bt a0 x5_4) = 34 then (some (([] : List ByteArray), 13)) else (anticlineref18_Words.l2 kj37 a0 x4_1 (wrap64 (x5_4 + 1)) x5_1)) else (none)) else (none)) = some (r1, r2) := by rw [if_pos rfl] at H; exact H
                clear H
                have H := H1
                clear H1
                by_cases c45 : 0 ≤ x5_4
                ·rw [if_pos c45] at H
                 have c45b0 : decide (0 ≤ x5_4) = true := decide_eq_true c45
                 clear c45
                 by_cases c46 : x5_4 < (a0.size : Int)
                 ·rw [if_pos c46] at H
                  have c46b0 : decide (x5_4 < (a0.size : Int)) = true := decide_eq_true c46
                  clear c46
                  by_cases c48 : (bt a0 x5_4) = 34
                  ·rw [if_pos c48] at H
                   have c48b0 : ((bt a0 x5_4) == 34) = true := beq_iff_eq.mpr c48
                   have c48b1 : ((bt a0 x5_4) != 34) = false := bne_eq_false_iff_eq.mpr c48
                   clear c48
                   simp only [Option.some.injEq, Prod.mk.injEq] at H
                   obtain ⟨rfl, rfl⟩ := H
                   have p47 : 0 ≤ (x5_4 : Int) := of_decide_eq_true (by first | (with_reducible assumption) | assumption)
                   have q47 : x5_4 < (a0.size : Int) := of_decide_eq_true (by first | (with_reducible assumption) | assumption)
                   have hx47 := bt_at a0 x5_4
                   replace p47 := eq_true p47
                   replace q47 := eq_true q47
                   go_wp2
                   go_ret2
                   exact ⟨_, by first | rfl | (simp [errW_none, errW_some] <;> rfl) | (simp [*, errW_none, errW_some] <;> rfl), by first | exact Kd.R_nil _ _ _ _ _ | exact Kd.N_nil _ _ _ _ _ | exact Kd.V_nil _ _ _ _ _ | exact Kd.Q_nil _ _ _ _ _ | exact Kd.S_nil _ _ _ _ _, by repeat (first | (with_reducible first | exact HB.out | apply below_alloc | apply pw_below_drewN | apply below_drew1) | exact HB.out)⟩
                  ·rw [if_neg c48] at H
                   have c48b0 : ((bt a0 x5_4) == 34) = false := beq_eq_false_iff_ne.mpr c48
                   have c48b1 : ((bt a0 x5_4) != 34) = true := bne_iff_ne.mpr c48
                   have H' := Aside0.mk H
                   clear H
                   have p47 : 0 ≤ (x5_4 : Int) := of_decide_eq_true (by first | (with_reducible assumption) | assumption)
                   have q47 : x5_4 < (a0.size : Int) := of_decide_eq_true (by first | (with_reducible assumption) | assumption)
                   have hx47 := bt_at a0 x5_4
                   replace p47 := eq_true p47
                   replace q47 := eq_true q47
                   go_wp2
                   go_roundg kj37
                   case measure => have := HK1.out; have := HJ1.out; have := HJ8.out; have := HK4.out; have := HJ37.out; omega
                   case rel => exact ⟨(wrap64 (x5_4 + 1)), (by first | rfl | (simp; done) | (simp [*]; done)), H', ⟨by have := HK1.out; have := HJ1.out; have := HJ8.out; have := HK4.out; have := HJ37.out; omega⟩, ⟨by (with_reducible repeat (first | apply Kd.R_alloc | apply Kd.R_drewN | apply Kd.R_drew)); exact HO_4.out⟩, ⟨by repeat (first | (with_reducible first | exact HB.out | apply below_alloc | apply pw_below_drewN | apply below_drew1) | exact HB.out)⟩⟩
                 ·rw [if_neg c46] at H
                  exact absurd H (by simp)
                ·rw [if_neg c45] at H
                 exact absurd H (by simp)
               ·replace c44 := Bool.eq_false_iff.mpr c44
                subst c44
                have H1 : (if 0 ≤ x5_1 then (if x5_1 ≤ x5_4 then (if x5_4 ≤ (a0.size : Int) then (if x4_1.length < 8796093022208 then (anticlineref18_Words.l0 kj37 a0 (x4_1 ++ [a0.extract (x5_1 : Int).toNat (x5_4 : Int).toNat]) x5_4) else (none)) else (none)) else (none)) else (none)) = some (r1, r2) := by rw [if_neg (show ¬ (false = true) by decide)] at H; exact H
                clear H
                have H := H1
                clear H1
                by_cases c49 : 0 ≤ x5_1
                ·rw [if_pos c49] at H
                 have c49b0 := eq_true c49
                 have c49b1 : decide (0 ≤ x5_1) = true := decide_eq_true c49
                 clear c49
                 by_cases c50 : x5_1 ≤ x5_4
                 ·rw [if_pos c50] at H
                  have c50b0 := eq_true c50
                  have c50b1 : decide (x5_1 ≤ x5_4) = true := decide_eq_true c50
                  clear c50
                  by_cases c51 : x5_4 ≤ (a0.size : Int)
                  ·rw [if_pos c51] at H
                   have c51b0 := eq_true c51
                   have c51b1 : decide (x5_4 ≤ (a0.size : Int)) = true := decide_eq_true c51
                   clear c51
                   by_cases c52 : x4_1.length < 8796093022208
                   ·rw [if_pos c52] at H
                    have LMc52 := Aside0.mk c52
                    clear c52
                    obtain ⟨y153, hy153⟩ : ∃ y_ : List ByteArray, y_ = (x4_1 ++ [a0.extract (x5_1 : Int).toNat (x5_4 : Int).toNat]) := ⟨_, rfl⟩
                    replace H : (anticlineref18_Words.l0 kj37 a0 y153 x5_4) = some (r1, r2) := by first | (rw [hy153]; with_reducible exact H) | (have H2_ := (Option.bind_some _ _).symm.trans H; rw [hy153]; with_reducible exact H2_) | (have H2_ := (Option.bind_some _ _).symm.trans H; with_reducible exact H2_) | with_reducible exact H | (rw [hy153]; exact H) | exact H
                    have Ny153 := Aside0.mk hy153
                    clear hy153
                    have H' := Aside0.mk H
                    clear H
                    go_wp2_with (first | ((with_reducible refine gate_builtin (b := .append) (xs := #[.tmp 96, .tmp 101]) rfl ?_); (try (refine gate_guard (by rfl) ?_; dsimp only)); at_builtin; refine Kd.R_append Kd.string (w0 := w) w.heap.size rfl (.tmp 96) (.tmp 101) 24 9 (.string ⟨#[]⟩) 16 rfl Tryz.underlying24 info9 rfl (by decide) (by omega) u4 x4_1 (a0.extract (x5_1 : Int).toNat (x5_4 : Int).toNat) [.string (a0.extract (x5_1 : Int).toNat (x5_4 : Int).toNat)] (fun _ => True) (fun _ => False) rfl rfl ?aP (fun _ hk => hk.elim) ?aF ?aO ?aB ?aS ?aL ?_; (case aP => exact rfl); (case aB => exact (by repeat (first | (with_reducible first | exact HB.out | apply below_alloc | apply pw_below_drewN | apply below_drew1) | exact HB.out))); (case aF => exact (fun _ _ => trivial)); (case aO => exact (by (with_reducible repeat (first | apply Kd.R_alloc | apply Kd.R_drewN | apply Kd.R_drew)); exact HO_4.out)); (case aS => exact (below_size (by repeat (first | (with_reducible first | exact HB.out | apply below_alloc | apply pw_below_drewN | apply below_drew1) | exact HB.out)))); (case aL => have := LMc52.out; omega); intro v154 w53 ho hb hg hat; rw [← Ny153.out] at ho; have n0_ := Aside0.mk (hb); have n1_ := Aside0.mk (ho); clear HB; clear HO_4; have HB := n0_; have HO155 := n1_; clear n0_ n1_; clear ho hb hg hat))
                    go_roundg kj37
                    case measure => have := HK1.out; have := HJ1.out; have := HJ8.out; have := HK4.out; have := HJ37.out; omega
                    case rel => exact ⟨(y153), (x5_4), (by first | rfl | (simp; done) | (simp [*]; done)), H', ⟨by have := HK1.out; have := HJ1.out; have := HJ8.out; have := HK4.out; have := HJ37.out; omega⟩, ⟨by (with_reducible repeat (first | apply Kd.R_alloc | apply Kd.R_drewN | apply Kd.R_drew)); exact HO155.out⟩, ⟨by repeat (first | (with_reducible first | exact HB.out | apply below_alloc | apply pw_below_drewN | apply below_drew1) | exact HB.out)⟩⟩
                   ·rw [if_neg c52] at H
                    exact absurd H (by simp)
                  ·rw [if_neg c51] at H
                   exact absurd H (by simp)
                 ·rw [if_neg c50] at H
                  exact absurd H (by simp)
                ·rw [if_neg c49] at H
                 exact absurd H (by simp)
         ·rw [if_neg c16] at H
          exact absurd H (by simp)
        ·rw [if_neg c15] at H
         exact absurd H (by simp)
end Go.Proofs.YtccahbfbbaaicaaGreatDoor.PWd
