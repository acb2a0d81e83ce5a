/- Made by program out of the translation: what these functions compute. -/
import Derived.Test.YtccahbfbbaaicaaGreatDoorPWdx0
import Derived.Test.YtccahbfbbaaicaaGreatDoorPWdx1
import Derived.Test.YtccahbfbbaaicaaGreatDoorGiv
namespace Go.Proofs.YtccahbfbbaaicaaGreatDoor.PWd
open Go.RowKit Go.Proofs.YtccahbfbbaaicaaGreatDoor.Giv Go.Proofs.YtccahbfbbaaicaaGreatDoorW.PrintWords Go.Proofs.YtccahbfbbaaicaaGreatDoorW.PrintLast Go.Proofs.YtccahbfbbaaicaaGreatDoorW.PrintMore
attribute [local go_sem] max2_int min2_int max_two min_two max_three min_three max_four min_four   -- for this text's walks alone
set_option linter.unusedVariables false
set_option linter.unusedSimpArgs false
mutual
def shell_Words.l0 : Nat → ByteArray → List ByteArray → Int → Option (List ByteArray × Int)
 | 0, _, _, _ => none
 | k + 1, x0, x4, x5 => if x5 < (x0.size : Int) then (if 0 ≤ x5 then (if (bt x0 x5) = 32 then (shell_Words.j1 k x0 x4 x5 true) else (shell_Words.j1 k x0 x4 x5 ((bt x0 x5) == 9))) else (none)) else (some (x4, 0))
def shell_Words.j1 : Nat → ByteArray → List ByteArray → Int → Bool → Option (List ByteArray × Int)
 | 0, _, _, _, _ => none
 | k + 1, x0, x4, x5, x23 => if x23 = true then (shell_Words.l0 k x0 x4 (wrap64 (x5 + 1))) else (if 0 ≤ x5 then (if x5 < (x0.size : Int) then (if (bt x0 x5) = 35 then (some (x4, 0)) else (if (bt x0 x5) = 34 then (if 0 ≤ (wrap64 (x5 + 1)) then (if (wrap64 (x5 + 1)) ≤ (x0.size : Int) then ((shell_quoted.f k (x0.extract ((wrap64 (x5 + 1)) : Int).toNat x0.size)).bind fun bt108 => (if bt108.2.2 = true then (if (wrap64 (x5 + (wrap64 (1 + bt108.2.1)))) < (x0.size : Int) then (if 0 ≤ (wrap64 (x5 + (wrap64 (1 + bt108.2.1)))) then (if (bt x0 (wrap64 (x5 + (wrap64 (1 + bt108.2.1))))) = 32 then (if x4.length < 8796093022208 then (shell_Words.l0 k x0 (x4 ++ [bt108.1]) (wrap64 (x5 + (wrap64 (1 + bt108.2.1))))) else (none)) else (if (bt x0 (wrap64 (x5 + (wrap64 (1 + bt108.2.1))))) = 9 then (if x4.length < 8796093022208 then (shell_Words.l0 k x0 (x4 ++ [bt108.1]) (wrap64 (x5 + (wrap64 (1 + bt108.2.1))))) else (none)) else (some (([] : List ByteArray), 13)))) else (none)) else (if x4.length < 8796093022208 then (shell_Words.l0 k x0 (x4 ++ [bt108.1]) (wrap64 (x5 + (wrap64 (1 + bt108.2.1))))) else (none))) else (some (([] : List ByteArray), 13)))) else (none)) else (none)) else (shell_Words.l1 k x0 x4 x5 x5))) else (none)) else (none))
def shell_Words.l1 : Nat → ByteArray → List ByteArray → Int → Int → Option (List ByteArray × Int)
 | 0, _, _, _, _ => none
 | k + 1, x0, x4, x5, x9 => if x5 < (x0.size : Int) then (if 0 ≤ x5 then (if (bt x0 x5) = 32 then (shell_Words.j3 k x0 x4 x5 x9 false) else (shell_Words.j3 k x0 x4 x5 x9 ((bt x0 x5) != 9))) else (none)) else (shell_Words.j3 k x0 x4 x5 x9 false)
def shell_Words.j3 : Nat → ByteArray → List ByteArray → Int → Int → Bool → Option (List ByteArray × Int)
 | 0, _, _, _, _, _ => none
 | k + 1, x0, x4, x5, x9, x87 => if x87 = true then (if 0 ≤ x5 then (if x5 < (x0.size : Int) then (if (bt x0 x5) = 34 then (some (([] : List ByteArray), 13)) else (shell_Words.l1 k x0 x4 (wrap64 (x5 + 1)) x9)) else (none)) else (none)) else (if 0 ≤ x9 then (if x9 ≤ x5 then (if x5 ≤ (x0.size : Int) then (if x4.length < 8796093022208 then (shell_Words.l0 k x0 (x4 ++ [x0.extract (x9 : Int).toNat (x5 : Int).toNat]) x5) else (none)) else (none)) else (none)) else (none))
end
def shell_Words.f (k : Nat) (a0 : ByteArray) : Option (List ByteArray × Int) := shell_Words.l0 k a0 ([] : List ByteArray) 0
set_option maxHeartbeats 8000000 in
set_option maxRecDepth 100000 in
theorem shell_Words.calls (k : Nat) (a0 : ByteArray) (r1 : List ByteArray) (r2 : Int) (w : World) (h : shell_Words.f k a0 = some (r1, r2)) :
  Calls Tryz.prog 6 #[.string a0] w fun e w' => ∃ v0_ : Value, e = .returned (.tuple #[v0_, .int .i64 r2]) ∧ Kd.R Kd.string 9 w' w.heap.size (fun _ => True) v0_ r1 ∧ Below w.heap.size w w' := by
 have HB := Aside0.mk (Below.refl w.heap.size w)
 have H : (shell_Words.l0 k a0 ([] : List ByteArray) 0) = some (r1, r2) := h
 clear h
 have H' := Aside0.mk H
 clear H
 go_enter Tryz.func6, Tryz.ntmps6
 go_wp2
 go_loopg [4, 5] k (fun kq v4 v5 w' => ∃ (x4_1 : List ByteArray) (x5_1 : Int), v5 = .int .i64 x5_1 ∧ Aside0 (shell_Words.l0 kq a0 x4_1 x5_1 = some (r1, r2)) ∧ Aside0 (kq ≤ k) ∧ Aside0 (Kd.R Kd.string 9 w' w.heap.size (fun _ => True) v4 x4_1) ∧ Aside0 (Below w.heap.size w w'))
 case atStart => exact ⟨(([] : List ByteArray)), (0), (by first | rfl | (simp; done) | (simp [*]; done)), H', ⟨Nat.le_refl _⟩, ⟨by first | exact Kd.R_nil _ _ _ _ _ | exact Kd.N_nil _ _ _ _ _ | exact Kd.V_nil _ _ _ _ _ | exact Kd.Q_nil _ _ _ _ _ | exact Kd.S_nil _ _ _ _ _⟩, ⟨by repeat (first | (with_reducible first | exact HB.out | apply below_alloc | apply pw_below_drewN | apply below_drew1) | exact HB.out)⟩⟩
 case round =>
  clear H'
  obtain ⟨x4_1, x5_1, rfl, HA, HK1, HO_4, HB⟩ := hrel
  cases gk with
  | zero => exact absurd HA.out (by simp [shell_Words.l0])
  | succ k1 =>
   have H := HA.out
   clear HA
   simp only [shell_Words.l0] at H
   by_cases c2 : x5_1 < (a0.size : Int)
   ·rw [if_pos c2] at H
    have c2b0 : decide (x5_1 < (a0.size : Int)) = true := decide_eq_true c2
    clear c2
    have HC3 := Aside0.mk H
    clear H
    go_upto_region 4 with (fail)
    go_cut [23] (fun v23 wc => ∃ (kq : Nat) (x23_2 : Bool), v23 = .bool x23_2 ∧ Aside0 (shell_Words.j1 kq a0 x4_1 x5_1 x23_2 = some (r1, r2)) ∧ Aside0 (kq ≤ k1) ∧ Aside0 (Kd.R Kd.string 9 wc w.heap.size (fun _ => True) u4 x4_1) ∧ Aside0 (Below w.heap.size w wc))
    case first =>
     have H := HC3.out
     clear HC3
     by_cases c4 : 0 ≤ x5_1
     ·rw [if_pos c4] at H
      have c4b0 : decide (0 ≤ x5_1) = true := decide_eq_true c4
      clear c4
      (first | rw [c4b0] | (simp only [i64_w, i32_w]; rw [c4b0]) | skip)
      by_cases c6 : (bt a0 x5_1) = 32
      ·rw [if_pos c6] at H
       have c6b0 : ((bt a0 x5_1) == 32) = true := beq_iff_eq.mpr c6
       have c6b1 : ((bt a0 x5_1) != 32) = false := bne_eq_false_iff_eq.mpr c6
       clear c6
       have H' := Aside0.mk H
       clear H
       have p5 : 0 ≤ (x5_1 : Int) := of_decide_eq_true (by first | (with_reducible assumption) | assumption)
       have q5 : x5_1 < (a0.size : Int) := of_decide_eq_true (by first | (with_reducible assumption) | assumption)
       have hx5 := bt_at a0 x5_1
       replace p5 := eq_true p5
       replace q5 := eq_true q5
       go_wp2
       go_meet
       case rel => exact ⟨_, (true), (by first | rfl | (simp; done) | (simp [*]; done)), H', ⟨by have := HK1.out; first | omega | exact Nat.le_refl _⟩, ⟨by (with_reducible repeat (first | apply Kd.R_alloc | apply Kd.R_drewN | apply Kd.R_drew)); exact HO_4.out⟩, ⟨by repeat (first | (with_reducible first | exact HB.out | apply below_alloc | apply pw_below_drewN | apply below_drew1) | exact HB.out)⟩⟩
      ·rw [if_neg c6] at H
       have c6b0 : ((bt a0 x5_1) == 32) = false := beq_eq_false_iff_ne.mpr c6
       have c6b1 : ((bt a0 x5_1) != 32) = true := bne_iff_ne.mpr c6
       have H' := Aside0.mk H
       clear H
       have p5 : 0 ≤ (x5_1 : Int) := of_decide_eq_true (by first | (with_reducible assumption) | assumption)
       have q5 : x5_1 < (a0.size : Int) := of_decide_eq_true (by first | (with_reducible assumption) | assumption)
       have hx5 := bt_at a0 x5_1
       replace p5 := eq_true p5
       replace q5 := eq_true q5
       have p7 : 0 ≤ (x5_1 : Int) := of_decide_eq_true (by first | (with_reducible assumption) | assumption)
       have q7 : x5_1 < (a0.size : Int) := of_decide_eq_true (by first | (with_reducible assumption) | assumption)
       have hx7 := bt_at a0 x5_1
       replace p7 := eq_true p7
       replace q7 := eq_true q7
       go_wp2
       go_meet
       case rel => exact ⟨_, (((bt a0 x5_1) == 9)), (by first | rfl | (simp; done) | (simp [*]; done)), H', ⟨by have := HK1.out; first | omega | exact Nat.le_refl _⟩, ⟨by (with_reducible repeat (first | apply Kd.R_alloc | apply Kd.R_drewN | apply Kd.R_drew)); exact HO_4.out⟩, ⟨by repeat (first | (with_reducible first | exact HB.out | apply below_alloc | apply pw_below_drewN | apply below_drew1) | exact HB.out)⟩⟩
     ·rw [if_neg c4] at H
      exact absurd H (by simp)
    case rest =>
     clear HC3
     try clear c2
     try clear c2b0
     try clear p2
     try clear c4
     try clear c4b0
     try clear p5
     try clear q5
     try clear hx5
     try clear c6
     try clear c6b0
     try clear c6b1
     try clear p7
     try clear q7
     try clear hx7
     try clear p5
     try clear p7
     try clear q5
     try clear q7
     obtain ⟨kq, x23_2, rfl, HA, HJ2, HO_4, HB⟩ := hcut
     cases kq with
     | zero => exact absurd HA.out (by simp [shell_Words.j1])
     | succ kj2 =>
      have H := HA.out
      clear HA
      simp only [shell_Words.j1] at H
      by_cases c8 : x23_2 = true
      ·subst c8
       have H1 : (shell_Words.l0 kj2 a0 x4_1 (wrap64 (x5_1 + 1))) = some (r1, r2) := by rw [if_pos rfl] at H; exact H
       clear H
       have H := H1
       clear H1
       have H' := Aside0.mk H
       clear H
       go_wp2
       go_roundg kj2
       case measure => have := HK1.out; have := HJ2.out; omega
       case rel => exact ⟨(x4_1), (wrap64 (x5_1 + 1)), (by first | rfl | (simp; done) | (simp [*]; done)), H', ⟨by have := HK1.out; have := HJ2.out; omega⟩, ⟨by (with_reducible repeat (first | apply Kd.R_alloc | apply Kd.R_drewN | apply Kd.R_drew)); exact HO_4.out⟩, ⟨by repeat (first | (with_reducible first | exact HB.out | apply below_alloc | apply pw_below_drewN | apply below_drew1) | exact HB.out)⟩⟩
      ·replace c8 := Bool.eq_false_iff.mpr c8
       subst c8
       have H1 : (if 0 ≤ x5_1 then (if x5_1 < (a0.size : Int) then (if (bt a0 x5_1) = 35 then (some (x4_1, 0)) else (if (bt a0 x5_1) = 34 then (if 0 ≤ (wrap64 (x5_1 + 1)) then (if (wrap64 (x5_1 + 1)) ≤ (a0.size : Int) then ((shell_quoted.f kj2 (a0.extract ((wrap64 (x5_1 + 1)) : Int).toNat a0.size)).bind fun bt108 => (if bt108.2.2 = true then (if (wrap64 (x5_1 + (wrap64 (1 + bt108.2.1)))) < (a0.size : Int) then (if 0 ≤ (wrap64 (x5_1 + (wrap64 (1 + bt108.2.1)))) then (if (bt a0 (wrap64 (x5_1 + (wrap64 (1 + bt108.2.1))))) = 32 then (if x4_1.length < 8796093022208 then (shell_Words.l0 kj2 a0 (x4_1 ++ [bt108.1]) (wrap64 (x5_1 + (wrap64 (1 + bt108.2.1))))) else (none)) else (if (bt a0 (wrap64 (x5_1 + (wrap64 (1 + bt108.2.1))))) = 9 then (if x4_1.length < 8796093022208 then (shell_Words.l0 kj2 a0 (x4_1 ++ [bt108.1]) (wrap64 (x5_1 + (wrap64 (1 + bt108.2.1))))) else (none)) else (some (([] : List ByteArray), 13)))) else (none)) else (if x4_1.length < 8796093022208 then (shell_Words.l0 kj2 a0 (x4_1 ++ [bt108.1]) (wrap64 (x5_1 + (wrap64 (1 + bt108.2.1))))) else (none))) else (some (([] : List ByteArray), 13)))) else (none)) else (none)) else (shell_Words.l1 kj2 a0 x4_1 x5_1 x5_1))) else (none)) else (none)) = some (r1, r2) := by rw [if_neg (show ¬ (false = true) by decide)] at H; exact H
       clear H
       have H := H1
       clear H1
       by_cases c9 : 0 ≤ x5_1
       ·rw [if_pos c9] at H
        have c9b0 : decide (0 ≤ x5_1) = true := decide_eq_true c9
        clear c9
        by_cases c10 : x5_1 < (a0.size : Int)
        ·rw [if_pos c10] at H
         have c10b0 : decide (x5_1 < (a0.size : Int)) = true := decide_eq_true c10
         clear c10
         by_cases c12 : (bt a0 x5_1) = 35
         ·rw [if_pos c12] at H
          have c12b0 : ((bt a0 x5_1) == 35) = true := beq_iff_eq.mpr c12
          have c12b1 : ((bt a0 x5_1) != 35) = false := bne_eq_false_iff_eq.mpr c12
          clear c12
          simp only [Option.some.injEq, Prod.mk.injEq] at H
          obtain ⟨rfl, rfl⟩ := H
          have p11 : 0 ≤ (x5_1 : Int) := of_decide_eq_true (by first | (with_reducible assumption) | assumption)
          have q11 : x5_1 < (a0.size : Int) := of_decide_eq_true (by first | (with_reducible assumption) | assumption)
          have hx11 := bt_at a0 x5_1
          replace p11 := eq_true p11
          replace q11 := eq_true q11
          go_wp2
          go_ret2
          exact ⟨_, by first | rfl | (simp [errW_none, errW_some] <;> rfl) | (simp [*, errW_none, errW_some] <;> rfl), by (with_reducible repeat (first | apply Kd.R_alloc | apply Kd.R_drewN | apply Kd.R_drew)); exact HO_4.out, by repeat (first | (with_reducible first | exact HB.out | apply below_alloc | apply pw_below_drewN | apply below_drew1) | exact HB.out)⟩
         ·rw [if_neg c12] at H
          have c12b0 : ((bt a0 x5_1) == 35) = false := beq_eq_false_iff_ne.mpr c12
          have c12b1 : ((bt a0 x5_1) != 35) = true := bne_iff_ne.mpr c12
          by_cases c14 : (bt a0 x5_1) = 34
          ·rw [if_pos c14] at H
           have c14b0 : ((bt a0 x5_1) == 34) = true := beq_iff_eq.mpr c14
           have c14b1 : ((bt a0 x5_1) != 34) = false := bne_eq_false_iff_eq.mpr c14
           clear c14
           obtain ⟨ji15, hji15⟩ : ∃ j_ : Int, (wrap64 (x5_1 + 1)) = j_ := ⟨_, rfl⟩
           replace H : (if 0 ≤ (ji15) then (if (ji15) ≤ (a0.size : Int) then ((shell_quoted.f kj2 (a0.extract ((ji15) : Int).toNat a0.size)).bind fun bt108 => (if bt108.2.2 = true then (if (wrap64 (x5_1 + (wrap64 (1 + bt108.2.1)))) < (a0.size : Int) then (if 0 ≤ (wrap64 (x5_1 + (wrap64 (1 + bt108.2.1)))) then (if (bt a0 (wrap64 (x5_1 + (wrap64 (1 + bt108.2.1))))) = 32 then (if x4_1.length < 8796093022208 then (shell_Words.l0 kj2 a0 (x4_1 ++ [bt108.1]) (wrap64 (x5_1 + (wrap64 (1 + bt108.2.1))))) else (none)) else (if (bt a0 (wrap64 (x5_1 + (wrap64 (1 + bt108.2.1))))) = 9 then (if x4_1.length < 8796093022208 then (shell_Words.l0 kj2 a0 (x4_1 ++ [bt108.1]) (wrap64 (x5_1 + (wrap64 (1 + bt108.2.1))))) else (none)) else (some (([] : List ByteArray), 13)))) else (none)) else (if x4_1.length < 8796093022208 then (shell_Words.l0 kj2 a0 (x4_1 ++ [bt108.1]) (wrap64 (x5_1 + (wrap64 (1 + bt108.2.1))))) else (none))) else (some (([] : List ByteArray), 13)))) else (none)) else (none)) = some (r1, r2) := by first | (rw [hji15] at H; exact H) | (simp only [hji15] at H ⊢; exact H)
           have hji15w : (IntKind.i64.wrap (x5_1 + 1)) = ji15 := (i64_w _).trans hji15
           by_cases c16 : 0 ≤ (ji15)
           ·rw [if_pos c16] at H
            have c16b0 := eq_true c16
            have c16b1 : decide (0 ≤ (ji15)) = true := decide_eq_true c16
            clear c16
            by_cases c17 : (ji15) ≤ (a0.size : Int)
            ·rw [if_pos c17] at H
             have c17b0 := eq_true c17
             have c17b1 : decide ((ji15) ≤ (a0.size : Int)) = true := decide_eq_true c17
             clear c17
             replace H := Option.bind_eq_some_iff.mp H
             obtain ⟨⟨t108, t109, t110⟩, A180, H⟩ := H
             replace H : (if t110 = true then (if (wrap64 (x5_1 + (wrap64 (1 + t109)))) < (a0.size : Int) then (if 0 ≤ (wrap64 (x5_1 + (wrap64 (1 + t109)))) then (if (bt a0 (wrap64 (x5_1 + (wrap64 (1 + t109))))) = 32 then (if x4_1.length < 8796093022208 then (shell_Words.l0 kj2 a0 (x4_1 ++ [t108]) (wrap64 (x5_1 + (wrap64 (1 + t109))))) else (none)) else (if (bt a0 (wrap64 (x5_1 + (wrap64 (1 + t109))))) = 9 then (if x4_1.length < 8796093022208 then (shell_Words.l0 kj2 a0 (x4_1 ++ [t108]) (wrap64 (x5_1 + (wrap64 (1 + t109))))) else (none)) else (some (([] : List ByteArray), 13)))) else (none)) else (if x4_1.length < 8796093022208 then (shell_Words.l0 kj2 a0 (x4_1 ++ [t108]) (wrap64 (x5_1 + (wrap64 (1 + t109))))) else (none))) else (some (([] : List ByteArray), 13))) = some (r1, r2) := H
             have A18 := Aside0.mk A180
             clear A180
             by_cases c19 : t110 = true
             ·subst c19
              have H1 : (if (wrap64 (x5_1 + (wrap64 (1 + t109)))) < (a0.size : Int) then (if 0 ≤ (wrap64 (x5_1 + (wrap64 (1 + t109)))) then (if (bt a0 (wrap64 (x5_1 + (wrap64 (1 + t109))))) = 32 then (if x4_1.length < 8796093022208 then (shell_Words.l0 kj2 a0 (x4_1 ++ [t108]) (wrap64 (x5_1 + (wrap64 (1 + t109))))) else (none)) else (if (bt a0 (wrap64 (x5_1 + (wrap64 (1 + t109))))) = 9 then (if x4_1.length < 8796093022208 then (shell_Words.l0 kj2 a0 (x4_1 ++ [t108]) (wrap64 (x5_1 + (wrap64 (1 + t109))))) else (none)) else (some (([] : List ByteArray), 13)))) else (none)) else (if x4_1.length < 8796093022208 then (shell_Words.l0 kj2 a0 (x4_1 ++ [t108]) (wrap64 (x5_1 + (wrap64 (1 + t109))))) else (none))) = some (r1, r2) := by rw [if_pos rfl] at H; exact H
              clear H
              have H := H1
              clear H1
              by_cases c20 : (wrap64 (x5_1 + (wrap64 (1 + t109)))) < (a0.size : Int)
              ·rw [if_pos c20] at H
               have c20b0 : decide ((wrap64 (x5_1 + (wrap64 (1 + t109)))) < (a0.size : Int)) = true := decide_eq_true c20
               clear c20
               obtain ⟨ji21, hji21⟩ : ∃ j_ : Int, (wrap64 (x5_1 + (wrap64 (1 + t109)))) = j_ := ⟨_, rfl⟩
               replace H : (if 0 ≤ (ji21) then (if (bt a0 (ji21)) = 32 then (if x4_1.length < 8796093022208 then (shell_Words.l0 kj2 a0 (x4_1 ++ [t108]) ji21) else (none)) else (if (bt a0 (ji21)) = 9 then (if x4_1.length < 8796093022208 then (shell_Words.l0 kj2 a0 (x4_1 ++ [t108]) ji21) else (none)) else (some (([] : List ByteArray), 13)))) else (none)) = some (r1, r2) := by first | (rw [hji21] at H; exact H) | (simp only [hji21] at H ⊢; exact H)
               (try rw [hji21] at c20b0)
               (try rw [hji21] at A18)
               have hji21w : (IntKind.i64.wrap (x5_1 + (wrap64 (1 + t109)))) = ji21 := (i64_w _).trans hji21
               by_cases c22 : 0 ≤ (ji21)
               ·rw [if_pos c22] at H
                have c22b0 : decide (0 ≤ (ji21)) = true := decide_eq_true c22
                clear c22
                by_cases c24 : (bt a0 (ji21)) = 32
                ·rw [if_pos c24] at H
                 have c24b0 : ((bt a0 (ji21)) == 32) = true := beq_iff_eq.mpr c24
                 have c24b1 : ((bt a0 (ji21)) != 32) = false := bne_eq_false_iff_eq.mpr c24
                 clear c24
                 by_cases c25 : x4_1.length < 8796093022208
                 ·rw [if_pos c25] at H
                  have LMc25 := Aside0.mk c25
                  clear c25
                  obtain ⟨y111, hy111⟩ : ∃ y_ : List ByteArray, y_ = (x4_1 ++ [t108]) := ⟨_, rfl⟩
                  replace H : (shell_Words.l0 kj2 a0 y111 ji21) = some (r1, r2) := by first | (rw [hy111]; with_reducible exact H) | (have H2_ := (Option.bind_some _ _).symm.trans H; rw [hy111]; with_reducible exact H2_) | (have H2_ := (Option.bind_some _ _).symm.trans H; with_reducible exact H2_) | with_reducible exact H | (rw [hy111]; exact H) | exact H
                  have Ny111 := Aside0.mk hy111
                  clear hy111
                  have H' := Aside0.mk H
                  clear H
                  have p11 : 0 ≤ (x5_1 : Int) := of_decide_eq_true (by first | (with_reducible assumption) | assumption)
                  have q11 : x5_1 < (a0.size : Int) := of_decide_eq_true (by first | (with_reducible assumption) | assumption)
                  have hx11 := bt_at a0 x5_1
                  replace p11 := eq_true p11
                  replace q11 := eq_true q11
                  have p13 : 0 ≤ (x5_1 : Int) := of_decide_eq_true (by first | (with_reducible assumption) | assumption)
                  have q13 : x5_1 < (a0.size : Int) := of_decide_eq_true (by first | (with_reducible assumption) | assumption)
                  have hx13 := bt_at a0 x5_1
                  replace p13 := eq_true p13
                  replace q13 := eq_true q13
                  go_wp2_with (first | ((with_reducible refine gate_callee (f := 11) rfl ?_); refine goesL_ (some 39) rfl rfl Tryz.func11 (by kernel_rfl) rfl #[.string (a0.extract ((ji15) : Int).toNat a0.size)] rfl (by (try simp only [List.map_toArray, List.map_cons, List.map_nil]); first | done | (simp only [hji15]; rfl) | rfl | (simp only [List.length_drop, List.length_take]; rfl)) ?_; (with_reducible refine (shell_quoted.calls kj2 (a0.extract ((ji15) : Int).toNat a0.size) t108 t109 true _ A18.out).mono ?_); rintro e w26 ⟨rfl, hb⟩; refine ⟨_, rfl, ?_⟩; have n0_ := Aside0.mk (Kd.R_below (by (with_reducible repeat (first | apply Kd.R_alloc | apply Kd.R_drewN | apply Kd.R_drew)); exact HO_4.out) hb); have n1_ := Aside0.mk (below_step (by repeat (first | (with_reducible first | exact HB.out | apply below_alloc | apply pw_below_drewN | apply below_drew1) | exact HB.out)) hb); clear HO_4; clear HB; have HO_4 := n0_; have HB := n1_; clear n0_ n1_; (try clear hb); (try clear hb2); (try clear hk); (try clear hi); have p23 : 0 ≤ ((ji21) : Int) := of_decide_eq_true (by first | (with_reducible assumption) | assumption); have q23 : (ji21) < (a0.size : Int) := of_decide_eq_true (by first | (with_reducible assumption) | assumption); have hx23 := bt_at a0 (ji21); replace p23 := eq_true p23; replace q23 := eq_true q23) | ((with_reducible refine gate_builtin (b := .append) (xs := #[.tmp 67, .tmp 69]) rfl ?_); (try (refine gate_guard (by rfl) ?_; dsimp only)); at_builtin; refine Kd.R_append Kd.string (w0 := w) w.heap.size rfl (.tmp 67) (.tmp 69) 24 9 (.string ⟨#[]⟩) 16 rfl Tryz.underlying24 info9 rfl (by decide) (by omega) u4 x4_1 t108 [.string t108] (fun _ => True) (fun _ => False) rfl rfl ?aP (fun _ hk => hk.elim) ?aF ?aO ?aB ?aS ?aL ?_; (case aP => exact rfl); (case aB => exact (by repeat (first | (with_reducible first | exact HB.out | apply below_alloc | apply pw_below_drewN | apply below_drew1) | exact HB.out))); (case aF => exact (fun _ _ => trivial)); (case aO => exact (by (with_reducible repeat (first | apply Kd.R_alloc | apply Kd.R_drewN | apply Kd.R_drew)); exact HO_4.out)); (case aS => exact (below_size (by repeat (first | (with_reducible first | exact HB.out | apply below_alloc | apply pw_below_drewN | apply below_drew1) | exact HB.out)))); (case aL => have := LMc25.out; omega); intro v112 w27 ho hb hg hat; rw [← Ny111.out] at ho; have n0_ := Aside0.mk (hb); have n1_ := Aside0.mk (ho); clear HB; clear HO_4; have HB := n0_; have HO113 := n1_; clear n0_ n1_; clear ho hb hg hat))
                  go_roundg kj2
                  case measure => have := HK1.out; have := HJ2.out; omega
                  case rel => exact ⟨(y111), (ji21), (by first | rfl | (simp; done) | (simp only [← hji21] <;> (first | rfl | simp)) | (simp [*]; done)), H', ⟨by have := HK1.out; have := HJ2.out; omega⟩, ⟨by (with_reducible repeat (first | apply Kd.R_alloc | apply Kd.R_drewN | apply Kd.R_drew)); exact HO113.out⟩, ⟨by repeat (first | (with_reducible first | exact HB.out | apply below_alloc | apply pw_below_drewN | apply below_drew1) | exact HB.out)⟩⟩
                 ·rw [if_neg c25] at H
                  exact absurd H (by simp)
                ·rw [if_neg c24] at H
                 have c24b0 : ((bt a0 (ji21)) == 32) = false := beq_eq_false_iff_ne.mpr c24
                 have c24b1 : ((bt a0 (ji21)) != 32) = true := bne_iff_ne.mpr c24
                 by_cases c29 : (bt a0 (ji21)) = 9
                 ·rw [if_pos c29] at H
                  have c29b0 : ((bt a0 (ji21)) == 9) = true := beq_iff_eq.mpr c29
                  have c29b1 : ((bt a0 (ji21)) != 9) = false := bne_eq_false_iff_eq.mpr c29
                  clear c29
                  by_cases c30 : x4_1.length < 8796093022208
                  ·rw [if_pos c30] at H
                   have LMc30 := Aside0.mk c30
                   clear c30
                   obtain ⟨y114, hy114⟩ : ∃ y_ : List ByteArray, y_ = (x4_1 ++ [t108]) := ⟨_, rfl⟩
                   replace H : (shell_Words.l0 kj2 a0 y114 ji21) = some (r1, r2) := by first | (rw [hy114]; with_reducible exact H) | (have H2_ := (Option.bind_some _ _).symm.trans H; rw [hy114]; with_reducible exact H2_) | (have H2_ := (Option.bind_some _ _).symm.trans H; with_reducible exact H2_) | with_reducible exact H | (rw [hy114]; exact H) | exact H
                   have Ny114 := Aside0.mk hy114
                   clear hy114
                   have H' := Aside0.mk H
                   clear H
                   have p11 : 0 ≤ (x5_1 : Int) := of_decide_eq_true (by first | (with_reducible assumption) | assumption)
                   have q11 : x5_1 < (a0.size : Int) := of_decide_eq_true (by first | (with_reducible assumption) | assumption)
                   have hx11 := bt_at a0 x5_1
                   replace p11 := eq_true p11
                   replace q11 := eq_true q11
                   have p13 : 0 ≤ (x5_1 : Int) := of_decide_eq_true (by first | (with_reducible assumption) | assumption)
                   have q13 : x5_1 < (a0.size : Int) := of_decide_eq_true (by first | (with_reducible assumption) | assumption)
                   have hx13 := bt_at a0 x5_1
                   replace p13 := eq_true p13
                   replace q13 := eq_true q13
                   go_wp2_with (first | ((with_reducible refine gate_callee (f := 11) rfl ?_); refine goesL_ (some 39) rfl rfl Tryz.func11 (by kernel_rfl) rfl #[.string (a0.extract ((ji15) : Int).toNat a0.size)] rfl (by (try simp only [List.map_toArray, List.map_cons, List.map_nil]); first | done | (simp only [hji15]; rfl) | rfl | (simp only [List.length_drop, List.length_take]; rfl)) ?_; (with_reducible refine (shell_quoted.calls kj2 (a0.extract ((ji15) : Int).toNat a0.size) t108 t109 true _ A18.out).mono ?_); rintro e w31 ⟨rfl, hb⟩; refine ⟨_, rfl, ?_⟩; have n0_ := Aside0.mk (Kd.R_below (by (with_reducible repeat (first | apply Kd.R_alloc | apply Kd.R_drewN | apply Kd.R_drew)); exact HO_4.out) hb); have n1_ := Aside0.mk (below_step (by repeat (first | (with_reducible first | exact HB.out | apply below_alloc | apply pw_below_drewN | apply below_drew1) | exact HB.out)) hb); clear HO_4; clear HB; have HO_4 := n0_; have HB := n1_; clear n0_ n1_; (try clear hb); (try clear hb2); (try clear hk); (try clear hi); have p23 : 0 ≤ ((ji21) : Int) := of_decide_eq_true (by first | (with_reducible assumption) | assumption); have q23 : (ji21) < (a0.size : Int) := of_decide_eq_true (by first | (with_reducible assumption) | assumption); have hx23 := bt_at a0 (ji21); replace p23 := eq_true p23; replace q23 := eq_true q23; have p28 : 0 ≤ ((ji21) : Int) := of_decide_eq_true (by first | (with_reducible assumption) | assumption); have q28 : (ji21) < (a0.size : Int) := of_decide_eq_true (by first | (with_reducible assumption) | assumption); have hx28 := bt_at a0 (ji21); replace p28 := eq_true p28; replace q28 := eq_true q28) | ((with_reducible refine gate_builtin (b := .append) (xs := #[.tmp 67, .tmp 69]) rfl ?_); (try (refine gate_guard (by rfl) ?_; dsimp only)); at_builtin; refine Kd.R_append Kd.string (w0 := w) w.heap.size rfl (.tmp 67) (.tmp 69) 24 9 (.string ⟨#[]⟩) 16 rfl Tryz.underlying24 info9 rfl (by decide) (by omega) u4 x4_1 t108 [.string t108] (fun _ => True) (fun _ => False) rfl rfl ?aP (fun _ hk => hk.elim) ?aF ?aO ?aB ?aS ?aL ?_; (case aP => exact rfl); (case aB => exact (by repeat (first | (with_reducible first | exact HB.out | apply below_alloc | apply pw_below_drewN | apply below_drew1) | exact HB.out))); (case aF => exact (fun _ _ => trivial)); (case aO => exact (by (with_reducible repeat (first | apply Kd.R_alloc | apply Kd.R_drewN | apply Kd.R_drew)); exact HO_4.out)); (case aS => exact (below_size (by repeat (first | (with_reducible first | exact HB.out | apply below_alloc | apply pw_below_drewN | apply below_drew1) | exact HB.out)))); (case aL => have := LMc30.out; omega); intro v115 w32 ho hb hg hat; rw [← Ny114.out] at ho; have n0_ := Aside0.mk (hb); have n1_ := Aside0.mk (ho); clear HB; clear HO_4; have HB := n0_; have HO116 := n1_; clear n0_ n1_; clear ho hb hg hat))
                   go_roundg kj2
                   case measure => have := HK1.out; have := HJ2.out; omega
                   case rel => exact ⟨(y114), (ji21), (by first | rfl | (simp; done) | (simp only [← hji21] <;> (first | rfl | simp)) | (simp [*]; done)), H', ⟨by have := HK1.out; have := HJ2.out; omega⟩, ⟨by (with_reducible repeat (first | apply Kd.R_alloc | apply Kd.R_drewN | apply Kd.R_drew)); exact HO116.out⟩, ⟨by repeat (first | (with_reducible first | exact HB.out | apply below_alloc | apply pw_below_drewN | apply below_drew1) | exact HB.out)⟩⟩
                  ·rw [if_neg c30] at H
                   exact absurd H (by simp)
                 ·rw [if_neg c29] at H
                  have c29b0 : ((bt a0 (ji21)) == 9) = false := beq_eq_false_iff_ne.mpr c29
                  have c29b1 : ((bt a0 (ji21)) != 9) = true := bne_iff_ne.mpr c29
                  simp only [Option.some.injEq, Prod.mk.injEq] at H
                  obtain ⟨rfl, rfl⟩ := H
                  have p11 : 0 ≤ (x5_1 : Int) := of_decide_eq_true (by first | (with_reducible assumption) | assumption)
                  have q11 : x5_1 < (a0.size : Int) := of_decide_eq_true (by first | (with_reducible assumption) | assumption)
                  have hx11 := bt_at a0 x5_1
                  replace p11 := eq_true p11
                  replace q11 := eq_true q11
                  have p13 : 0 ≤ (x5_1 : Int) := of_decide_eq_true (by first | (with_reducible assumption) | assumption)
                  have q13 : x5_1 < (a0.size : Int) := of_decide_eq_true (by first | (with_reducible assumption) | assumption)
                  have hx13 := bt_at a0 x5_1
                  replace p13 := eq_true p13
                  replace q13 := eq_true q13
                  go_wp2_with (first | ((with_reducible refine gate_callee (f := 11) rfl ?_); refine goesL_ (some 39) rfl rfl Tryz.func11 (by kernel_rfl) rfl #[.string (a0.extract ((ji15) : Int).toNat a0.size)] rfl (by (try simp only [List.map_toArray, List.map_cons, List.map_nil]); first | done | (simp only [hji15]; rfl) | rfl | (simp only [List.length_drop, List.length_take]; rfl)) ?_; (with_reducible refine (shell_quoted.calls kj2 (a0.extract ((ji15) : Int).toNat a0.size) t108 t109 true _ A18.out).mono ?_); rintro e w33 ⟨rfl, hb⟩; refine ⟨_, rfl, ?_⟩; have n0_ := Aside0.mk (Kd.R_below (by (with_reducible repeat (first | apply Kd.R_alloc | apply Kd.R_drewN | apply Kd.R_drew)); exact HO_4.out) hb); have n1_ := Aside0.mk (below_step (by repeat (first | (with_reducible first | exact HB.out | apply below_alloc | apply pw_below_drewN | apply below_drew1) | exact HB.out)) hb); clear HO_4; clear HB; have HO_4 := n0_; have HB := n1_; clear n0_ n1_; (try clear hb); (try clear hb2); (try clear hk); (try clear hi); have p23 : 0 ≤ ((ji21) : Int) := of_decide_eq_true (by first | (with_reducible assumption) | assumption); have q23 : (ji21) < (a0.size : Int) := of_decide_eq_true (by first | (with_reducible assumption) | assumption); have hx23 := bt_at a0 (ji21); replace p23 := eq_true p23; replace q23 := eq_true q23; have p28 : 0 ≤ ((ji21) : Int) := of_decide_eq_true (by first | (with_reducible assumption) | assumption); have q28 : (ji21) < (a0.size : Int) := of_decide_eq_true (by first | (with_reducible assumption) | assumption); have hx28 := bt_at a0 (ji21); replace p28 := eq_true p28; replace q28 := eq_true q28))
                  go_ret2
                  exact ⟨_, by first | rfl | (simp [errW_none, errW_some] <;> rfl) | (simp only [← hji15, ← hji21]; first | rfl | (simp [errW_none, errW_some] <;> rfl)) | (simp [*, errW_none, errW_some] <;> rfl), by first | exact Kd.R_nil _ _ _ _ _ | exact Kd.N_nil _ _ _ _ _ | exact Kd.V_nil _ _ _ _ _ | exact Kd.Q_nil _ _ _ _ _ | exact Kd.S_nil _ _ _ _ _, by repeat (first | (with_reducible first | exact HB.out | apply below_alloc | apply pw_below_drewN | apply below_drew1) | exact HB.out)⟩
               ·rw [if_neg c22] at H
                exact absurd H (by simp)
              ·rw [if_neg c20] at H
               have c20b0 : decide ((wrap64 (x5_1 + (wrap64 (1 + t109)))) < (a0.size : Int)) = false := decide_eq_false c20
               clear c20
               by_cases c34 : x4_1.length < 8796093022208
               ·rw [if_pos c34] at H
                have LMc34 := Aside0.mk c34
                clear c34
                obtain ⟨y117, hy117⟩ : ∃ y_ : List ByteArray, y_ = (x4_1 ++ [t108]) := ⟨_, rfl⟩
                replace H : (shell_Words.l0 kj2 a0 y117 (wrap64 (x5_1 + (wrap64 (1 + t109))))) = some (r1, r2) := by first | (rw [hy117]; with_reducible exact H) | (have H2_ := (Option.bind_some _ _).symm.trans H; rw [hy117]; with_reducible exact H2_) | (have H2_ := (Option.bind_some _ _).symm.trans H; with_reducible exact H2_) | with_reducible exact H | (rw [hy117]; exact H) | exact H
                have Ny117 := Aside0.mk hy117
                clear hy117
                have H' := Aside0.mk H
                clear H
                have p11 : 0 ≤ (x5_1 : Int) := of_decide_eq_true (by first | (with_reducible assumption) | assumption)
                have q11 : x5_1 < (a0.size : Int) := of_decide_eq_true (by first | (with_reducible assumption) | assumption)
                have hx11 := bt_at a0 x5_1
                replace p11 := eq_true p11
                replace q11 := eq_true q11
                have p13 : 0 ≤ (x5_1 : Int) := of_decide_eq_true (by first | (with_reducible assumption) | assumption)
                have q13 : x5_1 < (a0.size : Int) := of_decide_eq_true (by first | (with_reducible assumption) | assumption)
                have hx13 := bt_at a0 x5_1
                replace p13 := eq_true p13
                replace q13 := eq_true q13
                go_wp2_with (first | ((with_reducible refine gate_callee (f := 11) rfl ?_); refine goesL_ (some 39) rfl rfl Tryz.func11 (by kernel_rfl) rfl #[.string (a0.extract ((ji15) : Int).toNat a0.size)] rfl (by (try simp only [List.map_toArray, List.map_cons, List.map_nil]); first | done | (simp only [hji15]; rfl) | rfl | (simp only [List.length_drop, List.length_take]; rfl)) ?_; (with_reducible refine (shell_quoted.calls kj2 (a0.extract ((ji15) : Int).toNat a0.size) t108 t109 true _ A18.out).mono ?_); rintro e w35 ⟨rfl, hb⟩; refine ⟨_, rfl, ?_⟩; have n0_ := Aside0.mk (Kd.R_below (by (with_reducible repeat (first | apply Kd.R_alloc | apply Kd.R_drewN | apply Kd.R_drew)); exact HO_4.out) hb); have n1_ := Aside0.mk (below_step (by repeat (first | (with_reducible first | exact HB.out | apply below_alloc | apply pw_below_drewN | apply below_drew1) | exact HB.out)) hb); clear HO_4; clear HB; have HO_4 := n0_; have HB := n1_; clear n0_ n1_; (try clear hb); (try clear hb2); (try clear hk); (try clear hi)) | ((with_reducible refine gate_builtin (b := .append) (xs := #[.tmp 67, .tmp 69]) rfl ?_); (try (refine gate_guard (by rfl) ?_; dsimp only)); at_builtin; refine Kd.R_append Kd.string (w0 := w) w.heap.size rfl (.tmp 67) (.tmp 69) 24 9 (.string ⟨#[]⟩) 16 rfl Tryz.underlying24 info9 rfl (by decide) (by omega) u4 x4_1 t108 [.string t108] (fun _ => True) (fun _ => False) rfl rfl ?aP (fun _ hk => hk.elim) ?aF ?aO ?aB ?aS ?aL ?_; (case aP => exact rfl); (case aB => exact (by repeat (first | (with_reducible first | exact HB.out | apply below_alloc | apply pw_below_drewN | apply below_drew1) | exact HB.out))); (case aF => exact (fun _ _ => trivial)); (case aO => exact (by (with_reducible repeat (first | apply Kd.R_alloc | apply Kd.R_drewN | apply Kd.R_drew)); exact HO_4.out)); (case aS => exact (below_size (by repeat (first | (with_reducible first | exact HB.out | apply below_alloc | apply pw_below_drewN | apply below_drew1) | exact HB.out)))); (case aL => have := LMc34.out; omega); intro v118 w36 ho hb hg hat; rw [← Ny117.out] at ho; have n0_ := Aside0.mk (hb); have n1_ := Aside0.mk (ho); clear HB; clear HO_4; have HB := n0_; have HO119 := n1_; clear n0_ n1_; clear ho hb hg hat))
                go_roundg kj2
                case measure => have := HK1.out; have := HJ2.out; omega
                case rel => exact ⟨(y117), (wrap64 (x5_1 + (wrap64 (1 + t109)))), (by first | rfl | (simp; done) | (simp [*]; done)), H', ⟨by have := HK1.out; have := HJ2.out; omega⟩, ⟨by (with_reducible repeat (first | apply Kd.R_alloc | apply Kd.R_drewN | apply Kd.R_drew)); exact HO119.out⟩, ⟨by repeat (first | (with_reducible first | exact HB.out | apply below_alloc | apply pw_below_drewN | apply below_drew1) | exact HB.out)⟩⟩
               ·rw [if_neg c34] at H
                exact absurd H (by simp)
             ·replace c19 := Bool.eq_false_iff.mpr c19
              subst c19
              have H1 : (some (([] : List ByteArray), 13)) = some (r1, r2) := by rw [if_neg (show ¬ (false = true) by decide)] at H; exact H
              clear H
              have H := H1
              clear H1
              simp only [Option.some.injEq, Prod.mk.injEq] at H
              obtain ⟨rfl, rfl⟩ := H
              have p11 : 0 ≤ (x5_1 : Int) := of_decide_eq_true (by first | (with_reducible assumption) | assumption)
              have q11 : x5_1 < (a0.size : Int) := of_decide_eq_true (by first | (with_reducible assumption) | assumption)
              have hx11 := bt_at a0 x5_1
              replace p11 := eq_true p11
              replace q11 := eq_true q11
              have p13 : 0 ≤ (x5_1 : Int) := of_decide_eq_true (by first | (with_reducible assumption) | assumption)
              have q13 : x5_1 < (a0.size : Int) := of_decide_eq_true (by first | (with_reducible assumption) | assumption)
              have hx13 := bt_at a0 x5_1
              replace p13 := eq_true p13
              replace q13 := eq_true q13
              go_wp2_with (first | ((with_reducible refine gate_callee (f := 11) rfl ?_); refine goesL_ (some 39) rfl rfl Tryz.func11 (by kernel_rfl) rfl #[.string (a0.extract ((ji15) : Int).toNat a0.size)] rfl (by (try simp only [List.map_toArray, List.map_cons, List.map_nil]); first | done | (simp only [hji15]; rfl) | rfl | (simp only [List.length_drop, List.length_take]; rfl)) ?_; (with_reducible refine (shell_quoted.calls kj2 (a0.extract ((ji15) : Int).toNat a0.size) t108 t109 false _ A18.out).mono ?_); rintro e w37 ⟨rfl, hb⟩; refine ⟨_, rfl, ?_⟩; have n0_ := Aside0.mk (Kd.R_below (by (with_reducible repeat (first | apply Kd.R_alloc | apply Kd.R_drewN | apply Kd.R_drew)); exact HO_4.out) hb); have n1_ := Aside0.mk (below_step (by repeat (first | (with_reducible first | exact HB.out | apply below_alloc | apply pw_below_drewN | apply below_drew1) | exact HB.out)) hb); clear HO_4; clear HB; have HO_4 := n0_; have HB := n1_; clear n0_ n1_; (try clear hb); (try clear hb2); (try clear hk); (try clear hi)))
              go_ret2
              exact ⟨_, by first | rfl | (simp [errW_none, errW_some] <;> rfl) | (simp only [← hji15]; first | rfl | (simp [errW_none, errW_some] <;> rfl)) | (simp [*, errW_none, errW_some] <;> rfl), by first | exact Kd.R_nil _ _ _ _ _ | exact Kd.N_nil _ _ _ _ _ | exact Kd.V_nil _ _ _ _ _ | exact Kd.Q_nil _ _ _ _ _ | exact Kd.S_nil _ _ _ _ _, by repeat (first | (with_reducible first | exact HB.out | apply below_alloc | apply pw_below_drewN | apply below_drew1) | exact HB.out)⟩
            ·rw [if_neg c17] at H
             exact absurd H (by simp)
           ·rw [if_neg c16] at H
            exact absurd H (by simp)
          ·rw [if_neg c14] at H
           have c14b0 : ((bt a0 x5_1) == 34) = false := beq_eq_false_iff_ne.mpr c14
           have c14b1 : ((bt a0 x5_1) != 34) = true := bne_iff_ne.mpr c14
           have H' := Aside0.mk H
           clear H
           have p11 : 0 ≤ (x5_1 : Int) := of_decide_eq_true (by first | (with_reducible assumption) | assumption)
           have q11 : x5_1 < (a0.size : Int) := of_decide_eq_true (by first | (with_reducible assumption) | assumption)
           have hx11 := bt_at a0 x5_1
           replace p11 := eq_true p11
           replace q11 := eq_true q11
           have p13 : 0 ≤ (x5_1 : Int) := of_decide_eq_true (by first | (with_reducible assumption) | assumption)
           have q13 : x5_1 < (a0.size : Int) := of_decide_eq_true (by first | (with_reducible assumption) | assumption)
           have hx13 := bt_at a0 x5_1
           replace p13 := eq_true p13
           replace q13 := eq_true q13
           go_wp2
           go_loopg [5] kj2 (fun kq v5 w' => ∃ (x5_3 : Int), v5 = .int .i64 x5_3 ∧ Aside0 (shell_Words.l1 kq a0 x4_1 x5_3 x5_1 = some (r1, r2)) ∧ Aside0 (kq ≤ kj2) ∧ Aside0 (Kd.R Kd.string 9 w' w.heap.size (fun _ => True) u4 x4_1) ∧ Aside0 (Below w.heap.size w w'))
           case atStart => exact ⟨(x5_1), (by first | rfl | (simp; done) | (simp [*]; done)), H', ⟨Nat.le_refl _⟩, ⟨by (with_reducible repeat (first | apply Kd.R_alloc | apply Kd.R_drewN | apply Kd.R_drew)); exact HO_4.out⟩, ⟨by repeat (first | (with_reducible first | exact HB.out | apply below_alloc | apply pw_below_drewN | apply below_drew1) | exact HB.out)⟩⟩
           case round =>
            clear H'
            try clear c1
            try clear p1
            try clear q1
            try clear hx1
            try clear c2
            try clear c2b0
            try clear p2
            try clear q2
            try clear hx2
            try clear c3
            try clear c4
            try clear c4b0
            try clear p5
            try clear q5
            try clear hx5
            try clear c6
            try clear c6b0
            try clear c6b1
            try clear p6
            try clear p7
            try clear q7
            try clear hx7
            try clear c8
            try clear c9
            try clear c9b0
            try clear c10
            try clear c10b0
            try clear c11
            try clear p11
            try clear q11
            try clear hx11
            try clear c12
            try clear c12b0
            try clear c12b1
            try clear p13
            try clear q13
            try clear hx13
            try clear c14
            try clear c14b0
            try clear c14b1
            try clear c16
            try clear c16b0
            try clear c16b1
            try clear c17
            try clear c17b0
            try clear c17b1
            try clear c19
            try clear c20
            try clear c20b0
            try clear c22
            try clear c22b0
            try clear p23
            try clear q23
            try clear hx23
            try clear c24
            try clear c24b0
            try clear c24b1
            try clear c25
            try clear p28
            try clear q28
            try clear hx28
            try clear c29
            try clear c29b0
            try clear c29b1
            try clear c30
            try clear c34
            try clear p11
            try clear p13
            try clear p2
            try clear p23
            try clear p28
            try clear p5
            try clear p7
            try clear q11
            try clear q13
            try clear q23
            try clear q28
            try clear q5
            try clear q7
            obtain ⟨x5_3, rfl, HA, HK3, HO_4, HB⟩ := hrel
            cases gk with
            | zero => exact absurd HA.out (by simp [shell_Words.l1])
            | succ k3 =>
             have H := HA.out
             clear HA
             simp only [shell_Words.l1] at H
             have HC38 := Aside0.mk H
             clear H
             go_upto_region 14 with (fail)
             go_cut [87] (fun v87 wc => ∃ (kq : Nat) (x87_37 : Bool), v87 = .bool x87_37 ∧ Aside0 (shell_Words.j3 kq a0 x4_1 x5_3 x5_1 x87_37 = some (r1, r2)) ∧ Aside0 (kq ≤ k3) ∧ Aside0 (Kd.R Kd.string 9 wc w.heap.size (fun _ => True) u4 x4_1) ∧ Aside0 (Below w.heap.size w wc))
             case first =>
              have H := HC38.out
              clear HC38
              by_cases c39 : x5_3 < (a0.size : Int)
              ·rw [if_pos c39] at H
               have c39b0 : decide (x5_3 < (a0.size : Int)) = true := decide_eq_true c39
               clear c39
               (first | rw [c39b0] | (simp only [i64_w, i32_w]; rw [c39b0]) | skip)
               by_cases c40 : 0 ≤ x5_3
               ·rw [if_pos c40] at H
                have c40b0 : decide (0 ≤ x5_3) = true := decide_eq_true c40
                clear c40
                by_cases c42 : (bt a0 x5_3) = 32
                ·rw [if_pos c42] at H
                 have c42b0 : ((bt a0 x5_3) == 32) = true := beq_iff_eq.mpr c42
                 have c42b1 : ((bt a0 x5_3) != 32) = false := bne_eq_false_iff_eq.mpr c42
                 clear c42
                 have H' := Aside0.mk H
                 clear H
                 have p41 : 0 ≤ (x5_3 : Int) := of_decide_eq_true (by first | (with_reducible assumption) | assumption)
                 have q41 : x5_3 < (a0.size : Int) := of_decide_eq_true (by first | (with_reducible assumption) | assumption)
                 have hx41 := bt_at a0 x5_3
                 replace p41 := eq_true p41
                 replace q41 := eq_true q41
                 go_wp2
                 go_meet
                 case rel => exact ⟨_, (false), (by first | rfl | (simp; done) | (simp [*]; done)), H', ⟨by have := HK1.out; have := HJ2.out; have := HK3.out; first | omega | exact Nat.le_refl _⟩, ⟨by (with_reducible repeat (first | apply Kd.R_alloc | apply Kd.R_drewN | apply Kd.R_drew)); exact HO_4.out⟩, ⟨by repeat (first | (with_reducible first | exact HB.out | apply below_alloc | apply pw_below_drewN | apply below_drew1) | exact HB.out)⟩⟩
                ·rw [if_neg c42] at H
                 have c42b0 : ((bt a0 x5_3) == 32) = false := beq_eq_false_iff_ne.mpr c42
                 have c42b1 : ((bt a0 x5_3) != 32) = true := bne_iff_ne.mpr c42
                 have H' := Aside0.mk H
                 clear H
                 have p41 : 0 ≤ (x5_3 : Int) := of_decide_eq_true (by first | (with_reducible assumption) | assumption)
                 have q41 : x5_3 < (a0.size : Int) := of_decide_eq_true (by first | (with_reducible assumption) | assumption)
                 have hx41 := bt_at a0 x5_3
                 replace p41 := eq_true p41
                 replace q41 := eq_true q41
                 have p43 : 0 ≤ (x5_3 : Int) := of_decide_eq_true (by first | (with_reducible assumption) | assumption)
                 have q43 : x5_3 < (a0.size : Int) := of_decide_eq_true (by first | (with_reducible assumption) | assumption)
                 have hx43 := bt_at a0 x5_3
                 replace p43 := eq_true p43
                 replace q43 := eq_true q43
                 go_wp2
                 go_meet
                 case rel => exact ⟨_, (((bt a0 x5_3) != 9)), (by first | rfl | (simp; done) | (simp [*]; done)), H', ⟨by have := HK1.out; have := HJ2.out; have := HK3.out; first | omega | exact Nat.le_refl _⟩, ⟨by (with_reducible repeat (first | apply Kd.R_alloc | apply Kd.R_drewN | apply Kd.R_drew)); exact HO_4.out⟩, ⟨by repeat (first | (with_reducible first | exact HB.out | apply below_alloc | apply pw_below_drewN | apply below_drew1) | exact HB.out)⟩⟩
               ·rw [if_neg c40] at H
                exact absurd H (by simp)
              ·rw [if_neg c39] at H
               have c39b0 : decide (x5_3 < (a0.size : Int)) = false := decide_eq_false c39
               clear c39
               (first | rw [c39b0] | (simp only [i64_w, i32_w]; rw [c39b0]) | skip)
               have H' := Aside0.mk H
               clear H
               go_wp2
               go_meet
               case rel => exact ⟨_, (false), (by first | rfl | (simp; done) | (simp [*]; done)), H', ⟨by have := HK1.out; have := HJ2.out; have := HK3.out; first | omega | exact Nat.le_refl _⟩, ⟨by (with_reducible repeat (first | apply Kd.R_alloc | apply Kd.R_drewN | apply Kd.R_drew)); exact HO_4.out⟩, ⟨by repeat (first | (with_reducible first | exact HB.out | apply below_alloc | apply pw_below_drewN | apply below_drew1) | exact HB.out)⟩⟩
             case rest =>
              clear HC38
              try clear c1
              try clear p1
              try clear q1
              try clear hx1
              try clear c2
              try clear c2b0
              try clear p2
              try clear q2
              try clear hx2
              try clear c3
              try clear c4
              try clear c4b0
              try clear p4
              try clear q4
              try clear hx4
              try clear p5
              try clear q5
              try clear hx5
              try clear c6
              try clear c6b0
              try clear c6b1
              try clear p6
              try clear p7
              try clear q7
              try clear hx7
              try clear c8
              try clear c9
              try clear c9b0
              try clear c10
              try clear c10b0
              try clear c11
              try clear p11
              try clear q11
              try clear hx11
              try clear c12
              try clear c12b0
              try clear c12b1
              try clear p13
              try clear q13
              try clear hx13
              try clear c14
              try clear c14b0
              try clear c14b1
              try clear c16
              try clear c16b0
              try clear c16b1
              try clear c17
              try clear c17b0
              try clear c17b1
              try clear c19
              try clear c20
              try clear c20b0
              try clear c22
              try clear c22b0
              try clear p23
              try clear q23
              try clear hx23
              try clear c24
              try clear c24b0
              try clear c24b1
              try clear c25
              try clear p28
              try clear q28
              try clear hx28
              try clear c29
              try clear c29b0
              try clear c29b1
              try clear c30
              try clear c34
              try clear c39
              try clear c39b0
              try clear c40
              try clear c40b0
              try clear p41
              try clear q41
              try clear hx41
              try clear c42
              try clear c42b0
              try clear c42b1
              try clear p43
              try clear q43
              try clear hx43
              try clear p1
              try clear p11
              try clear p13
              try clear p2
              try clear p23
              try clear p28
              try clear p41
              try clear p43
              try clear p5
              try clear p6
              try clear p7
              try clear q1
              try clear q11
              try clear q13
              try clear q2
              try clear q23
              try clear q28
              try clear q41
              try clear q43
              try clear q5
              try clear q7
              obtain ⟨kq, x87_37, rfl, HA, HJ37, HO_4, HB⟩ := hcut
              cases kq with
              | zero => exact absurd HA.out (by simp [shell_Words.j3])
              | succ kj37 =>
               have H := HA.out
               clear HA
               simp only [shell_Words.j3] at H
               by_cases c44 : x87_37 = true
               ·subst c44
                have H1 : (if 0 ≤ x5_3 then (if x5_3 < (a0.size : Int) then (if (bt a0 x5_3) = 34 then (some (([] : List ByteArray), 13)) else (shell_Words.l1 kj37 a0 x4_1 (wrap64 (x5_3 + 1)) x5_1)) else (none)) else (none)) = some (r1, r2) := by rw [if_pos rfl] at H; exact H
                clear H
                have H := H1
                clear H1
                by_cases c45 : 0 ≤ x5_3
                ·rw [if_pos c45] at H
                 have c45b0 : decide (0 ≤ x5_3) = true := decide_eq_true c45
                 clear c45
                 by_cases c46 : x5_3 < (a0.size : Int)
                 ·rw [if_pos c46] at H
                  have c46b0 : decide (x5_3 < (a0.size : Int)) = true := decide_eq_true c46
                  clear c46
                  by_cases c48 : (bt a0 x5_3) = 34
                  ·rw [if_pos c48] at H
                   have c48b0 : ((bt a0 x5_3) == 34) = true := beq_iff_eq.mpr c48
                   have c48b1 : ((bt a0 x5_3) != 34) = false := bne_eq_false_iff_eq.mpr c48
                   clear c48
                   simp only [Option.some.injEq, Prod.mk.injEq] at H
                   obtain ⟨rfl, rfl⟩ := H
                   have p47 : 0 ≤ (x5_3 : Int) := of_decide_eq_true (by first | (with_reducible assumption) | assumption)
                   have q47 : x5_3 < (a0.size : Int) := of_decide_eq_true (by first | (with_reducible assumption) | assumption)
                   have hx47 := bt_at a0 x5_3
                   replace p47 := eq_true p47
                   replace q47 := eq_true q47
                   go_wp2
                   go_ret2
                   exact ⟨_, by first | rfl | (simp [errW_none, errW_some] <;> rfl) | (simp [*, errW_none, errW_some] <;> rfl), by first | exact Kd.R_nil _ _ _ _ _ | exact Kd.N_nil _ _ _ _ _ | exact Kd.V_nil _ _ _ _ _ | exact Kd.Q_nil _ _ _ _ _ | exact Kd.S_nil _ _ _ _ _, by repeat (first | (with_reducible first | exact HB.out | apply below_alloc | apply pw_below_drewN | apply below_drew1) | exact HB.out)⟩
                  ·rw [if_neg c48] at H
                   have c48b0 : ((bt a0 x5_3) == 34) = false := beq_eq_false_iff_ne.mpr c48
                   have c48b1 : ((bt a0 x5_3) != 34) = true := bne_iff_ne.mpr c48
                   have H' := Aside0.mk H
                   clear H
                   have p47 : 0 ≤ (x5_3 : Int) := of_decide_eq_true (by first | (with_reducible assumption) | assumption)
                   have q47 : x5_3 < (a0.size : Int) := of_decide_eq_true (by first | (with_reducible assumption) | assumption)
                   have hx47 := bt_at a0 x5_3
                   replace p47 := eq_true p47
                   replace q47 := eq_true q47
                   go_wp2
                   go_roundg kj37
                   case measure => have := HK1.out; have := HJ2.out; have := HK3.out; have := HJ37.out; omega
                   case rel => exact ⟨(wrap64 (x5_3 + 1)), (by first | rfl | (simp; done) | (simp [*]; done)), H', ⟨by have := HK1.out; have := HJ2.out; have := HK3.out; have := HJ37.out; omega⟩, ⟨by (with_reducible repeat (first | apply Kd.R_alloc | apply Kd.R_drewN | apply Kd.R_drew)); exact HO_4.out⟩, ⟨by repeat (first | (with_reducible first | exact HB.out | apply below_alloc | apply pw_below_drewN | apply below_drew1) | exact HB.out)⟩⟩
                 ·rw [if_neg c46] at H
                  exact absurd H (by simp)
                ·rw [if_neg c45] at H
                 exact absurd H (by simp)
               ·replace c44 := Bool.eq_false_iff.mpr c44
                subst c44
                have H1 : (if 0 ≤ x5_1 then (if x5_1 ≤ x5_3 then (if x5_3 ≤ (a0.size : Int) then (if x4_1.length < 8796093022208 then (shell_Words.l0 kj37 a0 (x4_1 ++ [a0.extract (x5_1 : Int).toNat (x5_3 : Int).toNat]) x5_3) else (none)) else (none)) else (none)) else (none)) = some (r1, r2) := by rw [if_neg (show ¬ (false = true) by decide)] at H; exact H
                clear H
                have H := H1
                clear H1
                by_cases c49 : 0 ≤ x5_1
                ·rw [if_pos c49] at H
                 have c49b0 := eq_true c49
                 have c49b1 : decide (0 ≤ x5_1) = true := decide_eq_true c49
                 clear c49
                 by_cases c50 : x5_1 ≤ x5_3
                 ·rw [if_pos c50] at H
                  have c50b0 := eq_true c50
                  have c50b1 : decide (x5_1 ≤ x5_3) = true := decide_eq_true c50
                  clear c50
                  by_cases c51 : x5_3 ≤ (a0.size : Int)
                  ·rw [if_pos c51] at H
                   have c51b0 := eq_true c51
                   have c51b1 : decide (x5_3 ≤ (a0.size : Int)) = true := decide_eq_true c51
                   clear c51
                   by_cases c52 : x4_1.length < 8796093022208
                   ·rw [if_pos c52] at H
                    have LMc52 := Aside0.mk c52
                    clear c52
                    obtain ⟨y120, hy120⟩ : ∃ y_ : List ByteArray, y_ = (x4_1 ++ [a0.extract (x5_1 : Int).toNat (x5_3 : Int).toNat]) := ⟨_, rfl⟩
                    replace H : (shell_Words.l0 kj37 a0 y120 x5_3) = some (r1, r2) := by first | (rw [hy120]; with_reducible exact H) | (have H2_ := (Option.bind_some _ _).symm.trans H; rw [hy120]; with_reducible exact H2_) | (have H2_ := (Option.bind_some _ _).symm.trans H; with_reducible exact H2_) | with_reducible exact H | (rw [hy120]; exact H) | exact H
                    have Ny120 := Aside0.mk hy120
                    clear hy120
                    have H' := Aside0.mk H
                    clear H
                    go_wp2_with (first | ((with_reducible refine gate_builtin (b := .append) (xs := #[.tmp 94, .tmp 99]) rfl ?_); (try (refine gate_guard (by rfl) ?_; dsimp only)); at_builtin; refine Kd.R_append Kd.string (w0 := w) w.heap.size rfl (.tmp 94) (.tmp 99) 24 9 (.string ⟨#[]⟩) 16 rfl Tryz.underlying24 info9 rfl (by decide) (by omega) u4 x4_1 (a0.extract (x5_1 : Int).toNat (x5_3 : Int).toNat) [.string (a0.extract (x5_1 : Int).toNat (x5_3 : Int).toNat)] (fun _ => True) (fun _ => False) rfl rfl ?aP (fun _ hk => hk.elim) ?aF ?aO ?aB ?aS ?aL ?_; (case aP => exact rfl); (case aB => exact (by repeat (first | (with_reducible first | exact HB.out | apply below_alloc | apply pw_below_drewN | apply below_drew1) | exact HB.out))); (case aF => exact (fun _ _ => trivial)); (case aO => exact (by (with_reducible repeat (first | apply Kd.R_alloc | apply Kd.R_drewN | apply Kd.R_drew)); exact HO_4.out)); (case aS => exact (below_size (by repeat (first | (with_reducible first | exact HB.out | apply below_alloc | apply pw_below_drewN | apply below_drew1) | exact HB.out)))); (case aL => have := LMc52.out; omega); intro v121 w53 ho hb hg hat; rw [← Ny120.out] at ho; have n0_ := Aside0.mk (hb); have n1_ := Aside0.mk (ho); clear HB; clear HO_4; have HB := n0_; have HO122 := n1_; clear n0_ n1_; clear ho hb hg hat))
                    go_roundg kj37
                    case measure => have := HK1.out; have := HJ2.out; have := HK3.out; have := HJ37.out; omega
                    case rel => exact ⟨(y120), (x5_3), (by first | rfl | (simp; done) | (simp [*]; done)), H', ⟨by have := HK1.out; have := HJ2.out; have := HK3.out; have := HJ37.out; omega⟩, ⟨by (with_reducible repeat (first | apply Kd.R_alloc | apply Kd.R_drewN | apply Kd.R_drew)); exact HO122.out⟩, ⟨by repeat (first | (with_reducible first | exact HB.out | apply below_alloc | apply pw_below_drewN | apply below_drew1) | exact HB.out)⟩⟩
                   ·rw [if_neg c52] at H
                    exact absurd H (by simp)
                  ·rw [if_neg c51] at H
                   exact absurd H (by simp)
                 ·rw [if_neg c50] at H
                  exact absurd H (by simp)
                ·rw [if_neg c49] at H
                 exact absurd H (by simp)
        ·rw [if_neg c10] at H
         exact absurd H (by simp)
       ·rw [if_neg c9] at H
        exact absurd H (by simp)
   ·rw [if_neg c2] at H
    have c2b0 : decide (x5_1 < (a0.size : Int)) = false := decide_eq_false c2
    clear c2
    simp only [Option.some.injEq, Prod.mk.injEq] at H
    obtain ⟨rfl, rfl⟩ := H
    go_wp2
    go_ret2
    exact ⟨_, by first | rfl | (simp [errW_none, errW_some] <;> rfl) | (simp [*, errW_none, errW_some] <;> rfl), by (with_reducible repeat (first | apply Kd.R_alloc | apply Kd.R_drewN | apply Kd.R_drew)); exact HO_4.out, by repeat (first | (with_reducible first | exact HB.out | apply below_alloc | apply pw_below_drewN | apply below_drew1) | exact HB.out)⟩
end Go.Proofs.YtccahbfbbaaicaaGreatDoor.PWd
