/- Contracts by hand: Bits, of the program and of the reference. -/
import Derived.Test.YtklhpobphloehaaDoorN
import Derived.Test.YtklhpobphloehaaDoorBitsP
import Derived.Test.YtklhpobphloehaaDoorLibA
set_option linter.unusedVariables false
namespace Go.Proofs.YtklhpobphloehaaDoor.G
open Go.RowKit Go.Proofs.YtklhpobphloehaaDoorW.PrintWords Go.Proofs.YtklhpobphloehaaDoorW.PrintLast Go.Proofs.YtklhpobphloehaaDoor.Nn

theorem bits_nil {w : World} : IntPost w ((nbits (val []) : Nat) : Int) (.returned (.int .i64 0)) w := ⟨by rw [show val [] = 0 from rfl, nbits_zero]; rfl, Below.refl _ _⟩
theorem bits_top {w : World} {l : List Int} {b : Nat} (h : Lim l) (hn : Norm l) (hp : 0 < l.length) (hb : b = nbits (lm l (l.length - 1))) : IntPost w ((nbits (val l) : Nat) : Int) (.returned (.int .i64 (32 * ((l.length : Int) - 1) + (b : Int)))) w :=
  IntPost_of (by rw [nbits_top h hn hp, hb]; omega) (Below.refl _ _)
set_option maxHeartbeats 2000000 in
set_option maxRecDepth 100000 in
theorem bits_w (A : Option Addr) (c : Nat) (l : List Int) (w : World) (hr : CU w A l.length l) (hL : Lim l) (hN : Norm l) (hl : l.length < 1000000) :
    Calls Tryd.prog 36 #[.slice A l.length c] w (IntPost w ((nbits (val l) : Nat) : Int)) := by
  have HR := Aside0.mk hr
  have HL := Aside0.mk hL
  have HN := Aside0.mk hN
  clear hr hN
  rcases Nat.eq_zero_or_pos l.length with h0 | h0
  · obtain rfl := List.eq_nil_of_length_eq_zero h0
    rw [List.length_nil] at HR ⊢
    go_enter Tryd.func36, Tryd.ntmps36
    go_wp2_with fail
    go_ret
    exact bits_nil
  · obtain ⟨ad, e, hcell⟩ := CU_at HR.out (l.length - 1) (by omega)
    subst e
    have hb1 : ((l.length : Int) == 0) = false := by rw [beq_eq_false_iff_ne]; omega
    have hb2 : (l.length == 0) = false := by rw [beq_eq_false_iff_ne]; omega
    have hb3 : ¬ (l = []) := by intro h; rw [h] at h0; exact absurd h0 (by decide)
    have hi : ((l.length : Int) - 1).toNat = l.length - 1 := by omega
    have hx1 := lm_lt hL (l.length - 1)
    rw [lm_cast hL] at hcell
    obtain ⟨x, hx⟩ : ∃ x, x = lm l (l.length - 1) := ⟨_, rfl⟩
    rw [← hx] at hcell hx1
    have hX := Aside0.mk hx
    have HP := Aside0.mk h0
    obtain ⟨b, hb⟩ : ∃ b, b = nbits x := ⟨_, rfl⟩
    have hb9 : b ≤ 32 := by rw [hb]; exact nbits_limb hx1
    have HB := Aside0.mk (show b = nbits (lm l (l.length - 1)) by rw [hb, hx])
    have HC : Calls Tryd.prog 90 #[.int .u32 (x : Int)] w fun e w' => e = .returned (.int .i64 (b : Int)) ∧ w' = w := by
      have h := Tryd.bits_Len32 (x : Int) w (by omega) (by omega)
      rw [show ((x : Int)).toNat = x from by omega, bitLen_nbits 32 x hx1 (by omega), ← hb] at h
      exact h
    have HC := Aside0.mk HC
    clear hx hb
    go_enter Tryd.func36, Tryd.ntmps36
    go_wp2_with fail
    refine HC.out.mono ?_
    rintro e w1 ⟨rfl, rfl⟩
    go_wp2_with fail
    go_ret
    exact bits_top HL.out HN.out HP.out HB.out
set_option maxHeartbeats 2000000 in
set_option maxRecDepth 100000 in
theorem rbits_w (A : Option Addr) (c : Nat) (l : List Int) (w : World) (hr : CU w A l.length l) (hL : Lim l) (hN : Norm l) (hl : l.length < 1000000) :
    Calls Tryd.prog 35 #[.slice A l.length c] w (IntPost w ((nbits (val l) : Nat) : Int)) := by
  have HR := Aside0.mk hr
  have HL := Aside0.mk hL
  have HN := Aside0.mk hN
  clear hr hN
  rcases Nat.eq_zero_or_pos l.length with h0 | h0
  · obtain rfl := List.eq_nil_of_length_eq_zero h0
    rw [List.length_nil] at HR ⊢
    go_enter Tryd.func35, Tryd.ntmps35
    go_wp2_with fail
    go_ret
    exact bits_nil
  · obtain ⟨ad, e, hcell⟩ := CU_at HR.out (l.length - 1) (by omega)
    subst e
    have hb1 : ((l.length : Int) == 0) = false := by rw [beq_eq_false_iff_ne]; omega
    have hb2 : (l.length == 0) = false := by rw [beq_eq_false_iff_ne]; omega
    have hb3 : ¬ (l = []) := by intro h; rw [h] at h0; exact absurd h0 (by decide)
    have hi : ((l.length : Int) - 1).toNat = l.length - 1 := by omega
    have hx1 := lm_lt hL (l.length - 1)
    rw [lm_cast hL] at hcell
    obtain ⟨x, hx⟩ : ∃ x, x = lm l (l.length - 1) := ⟨_, rfl⟩
    rw [← hx] at hcell hx1
    obtain ⟨T, hT⟩ : ∃ T, T = 32 * (l.length - 1) + nbits x := ⟨_, rfl⟩
    have hT9 : T ≤ 32 * l.length := by rw [hT]; have := nbits_limb hx1; omega
    have HT := Aside0.mk hT
    have HE := Aside0.mk (show T = nbits (val l) by rw [hT, hx, nbits_top hL HN.out h0])
    have HP := Aside0.mk h0
    clear hx hT
    go_enter Tryd.func35, Tryd.ntmps35
    go_wp2_with fail
    go_loopw [3, 4] (fun n i wr => ∃ (j y : Nat), n = .int .i64 (j : Int) ∧ i = .int .u32 (y : Int) ∧ y < 4294967296 ∧ Aside0 (j + nbits y = T) ∧ wr = w) (fun _ i _ => (intOf i).toNat)
    case atStart => exact ⟨32 * (l.length - 1), x, by go_num, rfl, hx1, ⟨HT.out.symm⟩, rfl⟩
    case round =>
      obtain ⟨j, y, rfl, rfl, hy, HJ, rfl⟩ := hrel
      have hj : j ≤ T := by have := HJ.out; omega
      by_cases hy0 : y = 0
      · subst hy0
        have HJT := Aside0.mk (show j = T by have := HJ.out; rw [nbits_zero] at this; omega)
        go_wp2_with fail
        go_ret
        exact IntPost_of (by rw [HJT.out, HE.out]) (Below.refl _ _)
      · have HH := Aside0.mk (nbits_half hy0)
        have hyp : 0 < y := by omega
        have hj2 : j + 1 ≤ T := by have := HJ.out; have := HH.out; omega
        clear hy0
        go_wp2_with fail
        go_roundw
        case rel => exact ⟨j + 1, y / 2, by go_num, by go_num, by omega, ⟨by have := HJ.out; have := HH.out; omega⟩, by trivial⟩
        case measure => simp [intOf]; omega
theorem bitsN {w : World} {vx : Value} {x : Nat} (hx : Nu w vx x) (bx : x < pw 1000) : Calls Tryd.prog 36 #[vx] w (IntPost w ((nbits x : Nat) : Int)) := by
  obtain ⟨A0, c0, rfl, h0, C0⟩ := hx
  have h := bits_w A0 c0 (digs x) w C0 (lim_digs x) (norm_digs x) (small_len bx)
  rwa [val_digs] at h
theorem rbitsN {w : World} {vx : Value} {x : Nat} (hx : Nu w vx x) (bx : x < pw 1000) : Calls Tryd.prog 35 #[vx] w (IntPost w ((nbits x : Nat) : Int)) := by
  obtain ⟨A0, c0, rfl, h0, C0⟩ := hx
  have h := rbits_w A0 c0 (digs x) w C0 (lim_digs x) (norm_digs x) (small_len bx)
  rwa [val_digs] at h
theorem nbits_pw {x k : Nat} (h : x < pw k) : nbits x ≤ 32 * k := by rw [pw_two] at h; exact nbits_le h
end Go.Proofs.YtklhpobphloehaaDoor.G
