/- Contracts by hand: shifts (the program's Shl, Shr). -/
import Derived.Test.YtklhpobphloehaaDoorG5
import Derived.RegionTactic
import Derived.Deep.RegionWith
set_option linter.unusedVariables false
namespace Go.Proofs.YtklhpobphloehaaDoor.G
open Go.RowKit Go.Proofs.YtklhpobphloehaaDoorW.PrintWords Go.Proofs.YtklhpobphloehaaDoorW.PrintLast Go.Proofs.YtklhpobphloehaaDoor.Nn

theorem i64_in2 {x : Int} (h0 : -9223372036854775808 ≤ x) (h1 : x < 9223372036854775808) : IntKind.i64.wrap x = x := by
  unfold IntKind.wrap
  simp [IntKind.bits, IntKind.signed]
  omega
theorem RU.drew_ {w : World} {base : Nat} {v : Value} {l : List Int} (h : RU w base v l) : RU w.drew base v l := Kd.R_drew h
/-- A limb at a whole number's place; nought ahead of the begin, and behind the end. -/
def lmi (l : List Int) (i : Int) : Nat := if 0 ≤ i then lm l i.toNat else 0
theorem lmi_nat (l : List Int) (i : Nat) : lmi l (i : Int) = lm l i := by unfold lmi; rw [if_pos (by omega)]; simp
theorem lmi_neg (l : List Int) {i : Int} (h : i < 0) : lmi l i = 0 := by unfold lmi; rw [if_neg (by omega)]
theorem lmi_lt {l : List Int} (h : Lim l) (i : Int) : lmi l i < 4294967296 := by
  unfold lmi
  split
  · exact lm_lt h _
  · omega
/-- Two parts that do not overlap, laid together. -/
theorem or_parts {a b s : Nat} (ha : a % 2 ^ s = 0) (hb : b < 2 ^ s) : a ||| b = a + b := by
  have := Nat.two_pow_add_eq_or_of_lt hb (a / 2 ^ s)
  rw [Nat.mul_div_cancel' (Nat.dvd_of_mod_eq_zero ha)] at this
  exact this.symm
theorem pow_le {s : Nat} (hs : s < 32) : 2 ^ s ≤ 2147483648 := by
  have := Nat.pow_le_pow_right (n := 2) (by decide) (show s ≤ 31 by omega)
  omega
theorem two_pos (s : Nat) : 0 < 2 ^ s := Nat.pow_pos (by decide)
theorem pow_part (s : Nat) (hs : s < 32) : 2 ^ (32 - s) * 2 ^ s = 4294967296 := by
  rw [← Nat.pow_add, show 32 - s + s = 32 from by omega]
theorem low_part {x s : Nat} (hs : s < 32) : (x * 2 ^ s % 4294967296) % 2 ^ s = 0 ∧ x * 2 ^ s % 4294967296 + 2 ^ s ≤ 4294967296 := by
  have h := pow_part s hs
  have h1 : x * 2 ^ s % 4294967296 = x % 2 ^ (32 - s) * 2 ^ s := by rw [← h, Nat.mul_mod_mul_right]
  rw [h1]
  refine ⟨Nat.mul_mod_left _ _, ?_⟩
  have h2 : x % 2 ^ (32 - s) + 1 ≤ 2 ^ (32 - s) := Nat.mod_lt _ (two_pos _)
  have h3 := Nat.mul_le_mul_right (2 ^ s) h2
  rw [Nat.add_mul, h] at h3
  omega
theorem high_part {y s : Nat} (hy : y < 4294967296) : y * 2 ^ s / 4294967296 < 2 ^ s := by
  rw [Nat.div_lt_iff_lt_mul (by decide), Nat.mul_comm (2 ^ s)]
  exact Nat.mul_lt_mul_of_pos_right hy (two_pos s)
theorem bits_or_u32_nat (a b : Nat) (ha : a < 4294967296) (hb : b < 4294967296) : bits .or .u32 (a : Int) (b : Int) = ((a ||| b : Nat) : Int) :=
  (bits_nat .u32 32 (by decide) (fun n h0 h1 => by rw [IntKind.wrap_u32]; omega) a b (by omega) (by omega)).2
theorem wrap64_pow {x s : Nat} (hx : x < 4294967296) (hs : s < 32) : IntKind.u64.wrap ((x : Int) * 2 ^ s) = ((x * 2 ^ s : Nat) : Int) := by
  have h1 := pow_le hs
  have h2 : x * 2 ^ s ≤ 4294967295 * 2147483648 := Nat.mul_le_mul (by omega) h1
  have e : (x : Int) * 2 ^ s = ((x * 2 ^ s : Nat) : Int) := by rw [Int.natCast_mul, Int.natCast_pow]; rfl
  rw [e]
  exact u64_in (by omega) (by omega)
theorem shl_limb {x y s : Nat} (hx : x < 4294967296) (hy : y < 4294967296) (hs : s < 32) :
    bits .or .u32 (IntKind.u32.wrap (IntKind.u64.wrap ((x : Int) * 2 ^ s))) (IntKind.u32.wrap (IntKind.u64.wrap ((y : Int) * 2 ^ s) / 4294967296)) = ((x * 2 ^ s % 4294967296 + y * 2 ^ s / 4294967296 : Nat) : Int) := by
  have hl := low_part (x := x) hs
  have hh := high_part (s := s) hy
  have hp := pow_le hs
  rw [wrap64_pow hx hs, wrap64_pow hy hs, IntKind.wrap_u32, IntKind.wrap_u32]
  rw [show ((x * 2 ^ s : Nat) : Int) % 4294967296 = ((x * 2 ^ s % 4294967296 : Nat) : Int) from by omega, show ((y * 2 ^ s : Nat) : Int) / 4294967296 % 4294967296 = ((y * 2 ^ s / 4294967296 : Nat) : Int) from by omega]
  rw [bits_or_u32_nat _ _ (by omega) (by omega), or_parts hl.1 hh]
theorem shl_lt {x y s : Nat} (hy : y < 4294967296) (hs : s < 32) : x * 2 ^ s % 4294967296 + y * 2 ^ s / 4294967296 < 4294967296 := by
  have hl := low_part (x := x) hs
  have hh := high_part (s := s) hy
  omega
theorem lm_set_self {o : List Int} {i r : Nat} (h : i < o.length) : lm (o.set i (r : Int)) i = r := by
  unfold lm
  rw [List.getD_eq_getElem?_getD, List.getElem?_set_self h]
  simp
theorem take_set_self (o : List Int) (i : Nat) (v : Int) : (o.set i v).take i = o.take i := by
  rw [List.take_set, List.set_eq_of_length_le (by rw [List.length_take]; omega)]
/-- One place of a number shifted to the left. -/
theorem shl_step {o l : List Int} {i q s x y : Nat} (hi : i < o.length) (hx : x = lmi l ((i : Int) - q)) (hy : y = lmi l ((i : Int) - q - 1))
    (h : val (o.take i) + pw i * (y * 2 ^ s / 4294967296) = pw q * 2 ^ s * val (l.take (i - q))) :
    val ((o.set i ((x * 2 ^ s % 4294967296 + y * 2 ^ s / 4294967296 : Nat) : Int)).take (i + 1)) + pw (i + 1) * (x * 2 ^ s / 4294967296) = pw q * 2 ^ s * val (l.take (i + 1 - q)) := by
  rw [val_take_succ, take_set_self, lm_set_self hi, pw_succ, Nat.mul_add]
  have h1 : pw i * (x * 2 ^ s % 4294967296) + 4294967296 * pw i * (x * 2 ^ s / 4294967296) = pw i * (x * 2 ^ s) := by
    rw [Nat.mul_comm 4294967296, Nat.mul_assoc, ← Nat.mul_add, Nat.mod_add_div]
  rcases Nat.lt_or_ge i q with h2 | h2
  · have hx0 : x = 0 := by rw [hx]; exact lmi_neg l (by omega)
    rw [show i + 1 - q = 0 from by omega]
    rw [show i - q = 0 from by omega] at h
    subst hx0
    simp [val] at h h1 ⊢
    omega
  · have hx1 : x = lm l (i - q) := by rw [hx, show (i : Int) - q = ((i - q : Nat) : Int) from by omega]; exact lmi_nat l _
    rw [show i + 1 - q = (i - q) + 1 from by omega, val_take_succ, ← hx1, Nat.mul_add]
    have h3 : pw q * 2 ^ s * (pw (i - q) * x) = pw i * (x * 2 ^ s) := by
      rw [show pw i = pw q * pw (i - q) from by rw [← pw_add]; congr 1; omega]
      rw [Nat.mul_assoc, Nat.mul_assoc, Nat.mul_left_comm (2 ^ s), Nat.mul_comm (2 ^ s) x]
    omega
theorem clone_post {w w' : World} {l : List Int} {v : Value} (hL : Lim l) (hn : Norm l) (hR : RU w' w.heap.size v l) (hB : Below w.heap.size w w') : NumPost w (val l) (.returned v) w' :=
  ⟨v, rfl, by rw [digs_val hL hn]; exact hR, hB⟩
theorem at_any (A : Option Addr) (c : Nat) (l : List Int) (i : Int) (w : World) (hr : CU w A l.length l) (hL : Lim l) (hl : l.length ≤ 35184372088832) (hi : i ≤ 70368744177664) :
    Calls Tryd.prog 88 #[.slice A l.length c, .int .i64 i] w fun e w' => e = .returned (.int .u64 (lmi l i : Int)) ∧ w = w' := by
  by_cases h : 0 ≤ i
  · obtain ⟨n, rfl⟩ := Int.eq_ofNat_of_zero_le h
    rw [lmi_nat]
    exact at_w A c l n w hr hL hl (by omega)
  · rw [lmi_neg l (by omega)]
    exact at_w_neg A c l i w (by omega)
set_option maxHeartbeats 4000000 in
set_option maxRecDepth 100000 in
theorem shl_w (A0 : Option Addr) (c0 : Nat) (l0 : List Int) (q s : Nat) (w : World) (hr0 : CU w A0 l0.length l0) (hL0 : Lim l0) (hl0 : l0.length < 1000000) (hs : s < 32) (hq : q < 32768) :
    Calls Tryd.prog 31 #[.slice A0 l0.length c0, .int .i64 ((32 * q + s : Nat) : Int)] w (NumPost w (val l0 * 2 ^ (32 * q + s))) := by
  have HR0 := Aside0.mk hr0
  clear hr0
  have hk0 : (0 : Int) ≤ ((32 * q + s : Nat) : Int) := by omega
  have hk1 : ((32 * q + s : Nat) : Int) ≤ 1048576 := by omega
  have hdiv : ((32 * q + s : Nat) : Int) / 32 = (q : Int) := by omega
  have hmod : ((32 * q + s : Nat) : Int) % 32 = (s : Int) := by omega
  generalize hK : ((32 * q + s : Nat) : Int) = K at hk0 hk1 hdiv hmod ⊢
  have HKK := Aside0.mk hK
  clear hK
  have hmk : ∀ W : World, (Instr.makeSlice 22 (.int .i64 ((l0.length : Int) + (q : Int) + 1)) (.int .i64 ((l0.length : Int) + (q : Int) + 1))).run Tryd.prog W = .ok (.slice (some ⟨W.heap.size, 0, none⟩) (l0.length + q + 1) (l0.length + q + 1)) (W.alloc (.cells (madeCells #[.int .u32 0] (l0.length + q + 1)) 54)) := fun W => make_u (l0.length + q + 1) (by omega) W
  have HM := Aside0.mk (RU_made w (l0.length + q + 1) (by omega))
  go_enter Tryd.func31, Tryd.ntmps31
  go_wp2_with fail
  rw [hdiv, hmod]
  clear hdiv hmod
  go_loopw [29] (fun ii wr => ∃ (i : Nat) (o : List Int), i ≤ l0.length + q + 1 ∧ ii = .int .i64 (i : Int) ∧ Aside0 (o.length = l0.length + q + 1 ∧ Lim o ∧ val (o.take i) + pw i * (lmi l0 ((i : Int) - q - 1) * 2 ^ s / 4294967296) = pw q * 2 ^ s * val (l0.take (i - q)) ∧ RU wr w.heap.size (.slice (some ⟨w.heap.size, 0, none⟩) (l0.length + q + 1) (l0.length + q + 1)) o) ∧ Aside0 (Below w.heap.size w wr)) (fun ii _ => l0.length + q + 1 - (intOf ii).toNat)
  case atStart => exact ⟨0, List.replicate (l0.length + q + 1) 0, Nat.zero_le _, rfl, ⟨by simp, Lim.replicate _, by rw [lmi_neg l0 (by omega), Nat.zero_sub]; simp [val], HM.out⟩, ⟨below_alloc (Below.refl _ _) _⟩⟩
  case round =>
    obtain ⟨i, o, hi, rfl, HO, HB⟩ := hrel
    by_cases hiN : i < l0.length + q + 1
    · obtain ⟨hc1, hc2⟩ := RU_at HO.out.2.2.2 HO.out.1 i hiN
      have HAT : ∀ (j : Int) (wx : World), j ≤ 10000000 → Below w.heap.size w wx → Calls Tryd.prog 88 #[.slice A0 l0.length c0, .int .i64 j] wx fun e w' => e = .returned (.int .u64 (lmi l0 j : Int)) ∧ wx = w' := fun j wx hj hB => at_any A0 c0 l0 j wx (CU_below HR0.out hB) hL0 (by omega) (by omega)
      have HAT := Aside0.mk HAT
      have hB1 := below_drew HB.out
      have HB1 := Aside0.mk hB1
      clear hB1
      have ha := lmi_lt hL0 ((i : Int) - (q : Int))
      have hb := lmi_lt hL0 ((i : Int) - (q : Int) - 1)
      obtain ⟨x, hx⟩ : ∃ x, x = lmi l0 ((i : Int) - (q : Int)) := ⟨_, rfl⟩
      obtain ⟨y, hy⟩ : ∃ y, y = lmi l0 ((i : Int) - (q : Int) - 1) := ⟨_, rfl⟩
      rw [← hx] at ha
      rw [← hy] at hb
      have HX := Aside0.mk hx
      have HY := Aside0.mk hy
      clear hx hy
      have hw1 : IntKind.i64.wrap ((i : Int) - (q : Int) - 1) = (i : Int) - (q : Int) - 1 := i64_in2 (by omega) (by omega)
      go_wp2_with fail
      go_region_with (go_at_call 88; refine (HAT.out _ _ (by omega) HB1.out).mono ?_; rintro e w1 ⟨rfl, rfl⟩)
      have hlimb := shl_limb (x := x) (y := y) ha hb hs
      rw [← HX.out, ← HY.out, hlimb]
      clear hlimb
      go_wp2_with fail
      go_roundw
      case rel =>
        exact ⟨i + 1, o.set i ((x * 2 ^ s % 4294967296 + y * 2 ^ s / 4294967296 : Nat) : Int), by omega, by go_num, ⟨by rw [List.length_set]; exact HO.out.1, HO.out.2.1.set i (by omega) (by have := shl_lt (x := x) hb hs; omega), by
        rw [show ((i + 1 : Nat) : Int) - q - 1 = (i : Int) - q from by omega, ← HX.out]
        exact shl_step (by rw [HO.out.1]; exact hiN) HX.out HY.out (by rw [HY.out]; exact HO.out.2.2.1), (RU_set HO.out.2.2.2 HO.out.1 i _).drew_⟩, ⟨(below_set HB.out (Nat.le_refl _) _ _).drew⟩⟩
      case measure => simp [intOf]; omega
    · have hk2 : i = l0.length + q + 1 := by omega
      subst hk2
      have HC := cut_own HO.out.2.2.2 HO.out.1 HO.out.2.1 (by omega) HB.out
      have HC := Aside0.mk HC
      have hv : val o = val l0 * 2 ^ (32 * q + s) := by
        have h := HO.out.2.2.1
        rw [List.take_of_length_le (by rw [HO.out.1]; exact Nat.le_refl _), show ((l0.length + q + 1 : Nat) : Int) - q - 1 = ((l0.length : Nat) : Int) from by omega, lmi_nat, lm_out _ (Nat.le_refl _), List.take_of_length_le (l := l0) (by omega)] at h
        rw [Nat.pow_add, ← pw_two, Nat.mul_comm (val l0)]
        simpa using h
      have HV := Aside0.mk hv
      clear hv
      go_wp2_with fail
      refine HC.out.mono ?_
      rintro e w1 ⟨v, rfl, hR1, hB1⟩
      have HR2 := Aside0.mk hR1
      have HB2 := Aside0.mk hB1
      clear hR1 hB1
      go_wp2_with fail
      go_ret
      exact ⟨_, rfl, by rw [← HV.out]; exact HR2.out, HB2.out⟩
end Go.Proofs.YtklhpobphloehaaDoor.G
