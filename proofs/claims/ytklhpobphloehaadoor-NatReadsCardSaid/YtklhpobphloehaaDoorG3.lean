/- Contracts by hand: Cmp of the program and of the reference: which of two numbers is greater. -/
import Derived.Test.YtklhpobphloehaaDoorG1
set_option linter.unusedVariables false
namespace Go.Proofs.YtklhpobphloehaaDoor.G
open Go.RowKit Go.Proofs.YtklhpobphloehaaDoorW.PrintWords Go.Proofs.YtklhpobphloehaaDoorW.PrintLast Go.Proofs.YtklhpobphloehaaDoor.Nn

def IntPost (w : World) (x : Int) (e : Ending) (w' : World) : Prop := e = .returned (.int .i64 x) ∧ Below w.heap.size w w'
theorem drewN_below (w : World) (n : Nat) : Below w.heap.size w (w.drewN n) := pw_below_drewN (Below.refl _ _) n
theorem IntPost_of {w w' : World} {x y : Int} (h : x = y) (hb : Below w.heap.size w w') : IntPost w y (.returned (.int .i64 x)) w' := ⟨by rw [h], hb⟩

set_option maxHeartbeats 2000000 in
set_option maxRecDepth 100000 in
theorem cmp_w (A0 A1 : Option Addr) (c0 c1 : Nat) (l0 l1 : List Int) (w : World) (hr0 : CU w A0 l0.length l0) (hr1 : CU w A1 l1.length l1) (hL0 : Lim l0) (hL1 : Lim l1) (hN0 : Norm l0) (hN1 : Norm l1) (hl0 : l0.length < 1000000) (hl1 : l1.length < 1000000) :
    Calls Tryd.prog 40 #[.slice A0 l0.length c0, .slice A1 l1.length c1] w (IntPost w (cmpZ (val l0) (val l1))) := by
  have HR0 := Aside0.mk hr0
  have HR1 := Aside0.mk hr1
  clear hr0 hr1
  by_cases hne : l0.length = l1.length
  · have hb : ((l0.length : Int) != (l1.length : Int)) = false := by rw [bne_eq_false_iff_eq]; omega
    have hb2 : (l0.length != l1.length) = false := by rw [bne_eq_false_iff_eq]; omega
    have HNE := Aside0.mk hne
    have hle : l1.length ≤ l0.length := by omega
    have hge : l0.length ≤ l1.length := by omega
    clear hne
    go_enter Tryd.func40, Tryd.ntmps40
    go_wp2_with fail
    go_loopw [5] (fun i wr => ∃ k : Nat, k ≤ l0.length ∧ i = .int .i64 ((k : Int) - 1) ∧ Aside0 (val (l0.drop k) = val (l1.drop k)) ∧ Aside0 (Below w.heap.size w wr)) (fun i _ => (intOf i + 1).toNat)
    case atStart => exact ⟨l0.length, Nat.le_refl _, by go_num, ⟨by rw [List.drop_of_length_le (Nat.le_refl _), List.drop_of_length_le (by omega)]⟩, ⟨Below.refl _ _⟩⟩
    case round =>
      obtain ⟨k, hk, rfl, HD, HB⟩ := hrel
      rcases Nat.eq_zero_or_pos k with rfl | hk0
      · go_wp2_with fail
        go_ret
        exact IntPost_of (cmpZ_eq HD.out).symm HB.out
      · obtain ⟨j, rfl⟩ : ∃ j, k = j + 1 := ⟨k - 1, by omega⟩
        rw [show ((j + 1 : Nat) : Int) - 1 = (j : Int) from by omega]
        obtain ⟨a0, e, h0⟩ := CU_at (CU_below HR0.out HB.out) j (by omega)
        obtain ⟨a1, e1, h1⟩ := CU_at (CU_below HR1.out HB.out) j (by omega)
        subst e e1
        rw [lm_cast hL0] at h0
        rw [lm_cast hL1] at h1
        obtain ⟨x, hx⟩ : ∃ x, x = lm l0 j := ⟨_, rfl⟩
        obtain ⟨y, hy⟩ : ∃ y, y = lm l1 j := ⟨_, rfl⟩
        rw [← hx] at h0
        rw [← hy] at h1
        have HX := Aside0.mk hx
        have HY := Aside0.mk hy
        clear hx hy
        have hj : j < l0.length := by omega
        have hj1 : j < l1.length := by omega
        by_cases hxy : x = y
        · have q1 : ((x : Int) != (y : Int)) = false := by rw [bne_eq_false_iff_eq]; omega
          have q2 : (x != y) = false := by rw [bne_eq_false_iff_eq]; omega
          have HXY := Aside0.mk hxy
          clear hxy
          go_wp2_with fail
          go_quiet (fail)
          go_wp2_with fail
          go_roundw
          case rel => exact ⟨j, by omega, by go_num, ⟨by rw [val_drop_at l0, val_drop_at l1, ← HX.out, ← HY.out, HXY.out, HD.out]⟩, ⟨pw_below_drewN HB.out _⟩⟩
          case measure => first | (simp [intOf]; done) | (simp [intOf]; omega)
        · have q1 : ((x : Int) != (y : Int)) = true := by rw [bne_iff_ne]; omega
          have q2 : (x != y) = true := by rw [bne_iff_ne]; omega
          have q3 : ((x : Int) == (y : Int)) = false := by rw [beq_eq_false_iff_ne]; omega
          have HXY := Aside0.mk hxy
          clear hxy
          by_cases hlt : x < y
          · go_wp2_with fail
            go_quiet (fail)
            go_wp2_with fail
            go_quiet (fail)
            go_wp2_with fail
            go_ret
            exact IntPost_of (cmpZ_lt (lt_at hL0 j HD.out hj (by rw [← HX.out, ← HY.out]; exact hlt))).symm (by first | exact pw_below_drewN HB.out _ | exact pw_below_drewN (pw_below_drewN HB.out _) _)
          · have HLT := Aside0.mk hlt
            go_wp2_with fail
            go_quiet (fail)
            go_wp2_with fail
            go_quiet (fail)
            go_wp2_with fail
            go_ret
            exact IntPost_of (cmpZ_gt (lt_at hL1 j HD.out.symm hj1 (by rw [← HX.out, ← HY.out]; have := HXY.out; have := HLT.out; omega))).symm (by first | exact pw_below_drewN HB.out _ | exact pw_below_drewN (pw_below_drewN HB.out _) _)
  · have hb : ((l0.length : Int) != (l1.length : Int)) = true := by rw [bne_iff_ne]; omega
    have hb2 : (l0.length != l1.length) = true := by rw [bne_iff_ne]; omega
    have hb3 : ((l0.length : Int) == (l1.length : Int)) = false := by rw [beq_eq_false_iff_ne]; omega
    have HNE := Aside0.mk hne
    clear hne
    by_cases hlt : l0.length < l1.length
    · go_enter Tryd.func40, Tryd.ntmps40
      go_wp2_with fail
      go_ret
      exact IntPost_of (cmpZ_lt (norm_long hL0 hL1 hN1 hlt)).symm (Below.refl _ _)
    · have HLT := Aside0.mk hlt
      go_enter Tryd.func40, Tryd.ntmps40
      go_wp2_with fail
      go_ret
      exact IntPost_of (cmpZ_gt (norm_long hL1 hL0 hN0 (by have := HNE.out; have := HLT.out; omega))).symm (Below.refl _ _)
set_option maxHeartbeats 2000000 in
set_option maxRecDepth 100000 in
theorem rcmp_w (A0 A1 : Option Addr) (c0 c1 : Nat) (l0 l1 : List Int) (w : World) (hr0 : CU w A0 l0.length l0) (hr1 : CU w A1 l1.length l1) (hL0 : Lim l0) (hL1 : Lim l1) (hN0 : Norm l0) (hN1 : Norm l1) (hl0 : l0.length < 1000000) (hl1 : l1.length < 1000000) :
    Calls Tryd.prog 41 #[.slice A0 l0.length c0, .slice A1 l1.length c1] w (IntPost w (cmpZ (val l0) (val l1))) := by
  have HR0 := Aside0.mk hr0
  have HR1 := Aside0.mk hr1
  clear hr0 hr1
  by_cases hne : l0.length = l1.length
  · have hb : ((l0.length : Int) != (l1.length : Int)) = false := by rw [bne_eq_false_iff_eq]; omega
    have hb2 : (l0.length != l1.length) = false := by rw [bne_eq_false_iff_eq]; omega
    have HNE := Aside0.mk hne
    have hle : l1.length ≤ l0.length := by omega
    have hge : l0.length ≤ l1.length := by omega
    clear hne
    go_enter Tryd.func41, Tryd.ntmps41
    go_wp2_with fail
    go_loopw [5] (fun i wr => ∃ k : Nat, k ≤ l0.length ∧ i = .int .i64 (k : Int) ∧ Aside0 (val (l0.drop k) = val (l1.drop k)) ∧ Aside0 (Below w.heap.size w wr)) (fun i _ => (intOf i).toNat)
    case atStart => exact ⟨l0.length, Nat.le_refl _, by go_num, ⟨by rw [List.drop_of_length_le (Nat.le_refl _), List.drop_of_length_le (by omega)]⟩, ⟨Below.refl _ _⟩⟩
    case round =>
      obtain ⟨k, hk, rfl, HD, HB⟩ := hrel
      rcases Nat.eq_zero_or_pos k with rfl | hk0
      · go_wp2_with fail
        go_ret
        exact IntPost_of (cmpZ_eq HD.out).symm HB.out
      · obtain ⟨j, rfl⟩ : ∃ j, k = j + 1 := ⟨k - 1, by omega⟩
        obtain ⟨a0, e, h0⟩ := CU_at (CU_below HR0.out HB.out) j (by omega)
        obtain ⟨a1, e1, h1⟩ := CU_at (CU_below HR1.out HB.out) j (by omega)
        subst e e1
        rw [lm_cast hL0] at h0
        rw [lm_cast hL1] at h1
        obtain ⟨x, hx⟩ : ∃ x, x = lm l0 j := ⟨_, rfl⟩
        obtain ⟨y, hy⟩ : ∃ y, y = lm l1 j := ⟨_, rfl⟩
        rw [← hx] at h0
        rw [← hy] at h1
        have HX := Aside0.mk hx
        have HY := Aside0.mk hy
        clear hx hy
        have hj : j < l0.length := by omega
        have hj1 : j < l1.length := by omega
        by_cases hxy : x = y
        · have q1 : ¬ ((x : Int) < (y : Int)) := by omega
          have q2 : ¬ ((y : Int) < (x : Int)) := by omega
          have HXY := Aside0.mk hxy
          clear hxy
          go_wp2_with fail
          go_quiet (fail)
          go_wp2_with fail
          go_quiet (fail)
          go_wp2_with fail
          go_roundw
          case rel => exact ⟨j, by omega, by go_num, ⟨by rw [val_drop_at l0, val_drop_at l1, ← HX.out, ← HY.out, HXY.out, HD.out]⟩, ⟨by first | exact pw_below_drewN HB.out _ | exact pw_below_drewN (pw_below_drewN HB.out _) _⟩⟩
          case measure => first | (simp [intOf]; done) | (simp [intOf]; omega)
        · have q1 : ((x : Int) != (y : Int)) = true := by rw [bne_iff_ne]; omega
          have q2 : (x != y) = true := by rw [bne_iff_ne]; omega
          have q3 : ((x : Int) == (y : Int)) = false := by rw [beq_eq_false_iff_ne]; omega
          have HXY := Aside0.mk hxy
          clear hxy
          by_cases hlt : x < y
          · go_wp2_with fail
            go_quiet (fail)
            go_wp2_with fail
            go_ret
            exact IntPost_of (cmpZ_lt (lt_at hL0 j HD.out hj (by rw [← HX.out, ← HY.out]; exact hlt))).symm (pw_below_drewN HB.out _)
          · have HLT := Aside0.mk hlt
            have hgt : y < x := by have := HXY.out; omega
            go_wp2_with fail
            go_quiet (fail)
            go_wp2_with fail
            go_quiet (fail)
            go_wp2_with fail
            go_ret
            exact IntPost_of (cmpZ_gt (lt_at hL1 j HD.out.symm hj1 (by rw [← HX.out, ← HY.out]; have := HXY.out; have := HLT.out; omega))).symm (by first | exact pw_below_drewN HB.out _ | exact pw_below_drewN (pw_below_drewN HB.out _) _)
  · have hb : ((l0.length : Int) != (l1.length : Int)) = true := by rw [bne_iff_ne]; omega
    have hb2 : (l0.length != l1.length) = true := by rw [bne_iff_ne]; omega
    have hb3 : ((l0.length : Int) == (l1.length : Int)) = false := by rw [beq_eq_false_iff_ne]; omega
    have HNE := Aside0.mk hne
    clear hne
    by_cases hlt : l0.length < l1.length
    · go_enter Tryd.func41, Tryd.ntmps41
      go_wp2_with fail
      go_ret
      exact IntPost_of (cmpZ_lt (norm_long hL0 hL1 hN1 hlt)).symm (Below.refl _ _)
    · have HLT := Aside0.mk hlt
      go_enter Tryd.func41, Tryd.ntmps41
      go_wp2_with fail
      go_ret
      exact IntPost_of (cmpZ_gt (norm_long hL1 hL0 hN0 (by have := HNE.out; have := HLT.out; omega))).symm (Below.refl _ _)
end Go.Proofs.YtklhpobphloehaaDoor.G
