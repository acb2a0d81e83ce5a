/- Contracts by hand: shifts to the right, and what is not shifted. -/
import Derived.Test.YtklhpobphloehaaDoorG6
set_option linter.unusedVariables false
namespace Go.Proofs.YtklhpobphloehaaDoor.G
open Go.RowKit Go.Proofs.YtklhpobphloehaaDoorW.PrintWords Go.Proofs.YtklhpobphloehaaDoorW.PrintLast Go.Proofs.YtklhpobphloehaaDoor.Nn

theorem lm_val {l : List Int} (h : Lim l) (i : Nat) : lm l i = val l / pw i % 4294967296 := by
  have := val_at h i
  unfold lm
  omega
theorem shr_digit {X i q s : Nat} (hs : s < 32) : X / 2 ^ (32 * q + s) / pw i % 4294967296 = (X / pw (i + q) % 4294967296 + X / pw (i + q + 1) % 4294967296 * 4294967296) / 2 ^ s % 4294967296 := by
  have h1 : X / 2 ^ (32 * q + s) / pw i = X / pw (i + q) / 2 ^ s := by
    rw [Nat.div_div_eq_div_mul, Nat.div_div_eq_div_mul, Nat.pow_add, ← pw_two, pw_add]
    congr 1
    rw [Nat.mul_assoc, Nat.mul_comm, Nat.mul_assoc, Nat.mul_comm (2 ^ s), Nat.mul_assoc]
  have h2 : X / pw (i + q + 1) = X / pw (i + q) / 4294967296 := by rw [pw_succ, Nat.mul_comm, Nat.div_div_eq_div_mul]
  rw [h1, h2]
  generalize X / pw (i + q) = Z
  have h3 : Z = (Z % 4294967296 + Z / 4294967296 % 4294967296 * 4294967296) + 4294967296 * 4294967296 * (Z / 4294967296 / 4294967296) := by omega
  have h4 : 4294967296 * 4294967296 * (Z / 4294967296 / 4294967296) = 2 ^ s * (2 ^ (32 - s) * 4294967296 * (Z / 4294967296 / 4294967296)) := by
    rw [← Nat.mul_assoc, ← Nat.mul_assoc, Nat.mul_comm (2 ^ s), pow_part s hs]
  conv => lhs; rw [h3, h4, Nat.add_mul_div_left _ _ (two_pos s)]
  rw [Nat.mul_comm (2 ^ (32 - s)), Nat.mul_assoc, Nat.add_mul_mod_self_left]
theorem mod_succ (Y i : Nat) : Y % pw (i + 1) = Y % pw i + pw i * (Y / pw i % 4294967296) := by
  rw [pw_succ, Nat.mul_comm, Nat.mod_mul]
/-- One place of a number shifted to the right. -/
theorem shr_step {o l : List Int} {i q s r : Nat} (hL : Lim l) (hs : s < 32) (hi : i < o.length) (hr : r = (lm l (i + q) + lm l (i + q + 1) * 4294967296) / 2 ^ s % 4294967296)
    (h : val (o.take i) = val l / 2 ^ (32 * q + s) % pw i) : val ((o.set i (r : Int)).take (i + 1)) = val l / 2 ^ (32 * q + s) % pw (i + 1) := by
  rw [val_take_succ, take_set_self, lm_set_self hi, mod_succ, h, shr_digit hs, hr, lm_val hL, lm_val hL]
theorem shr_end {o l : List Int} {q s N : Nat} (hL : Lim l) (hN : N = l.length - q) (ho : o.length = N) (h : val (o.take N) = val l / 2 ^ (32 * q + s) % pw N) : val o = val l / 2 ^ (32 * q + s) := by
  rw [List.take_of_length_le (by omega)] at h
  rw [h]
  refine Nat.mod_eq_of_lt ?_
  have h1 := val_lt hL
  have h2 : val l < pw N * pw q := by rw [← pw_add]; exact Nat.lt_of_lt_of_le h1 (pw_le (by omega))
  have h3 : val l / pw q < pw N := by rw [Nat.div_lt_iff_lt_mul (pw_pos q)]; exact h2
  rw [Nat.pow_add, ← pw_two, ← Nat.div_div_eq_div_mul]
  exact Nat.lt_of_le_of_lt (Nat.div_le_self _ _) h3
theorem or_high {x y : Nat} (hx : x < 4294967296) (hy : y < 4294967296) : bits .or .u64 (x : Int) ((y : Int) * 4294967296) = ((x + y * 4294967296 : Nat) : Int) := by
  rw [show (y : Int) * 4294967296 = ((y * 4294967296 : Nat) : Int) from by omega, bits_or_u64_nat _ _ (by omega) (by omega)]
  congr 1
  have := or_parts (a := y * 4294967296) (b := x) (s := 32) (by omega) (by omega)
  rw [Nat.or_comm, this]
  omega
theorem shr_cast {z s : Nat} : ((z : Int) / 2 ^ s) % 4294967296 = ((z / 2 ^ s % 4294967296 : Nat) : Int) := by
  have : ((2 : Int) ^ s) = ((2 ^ s : Nat) : Int) := by rw [Int.natCast_pow]; rfl
  rw [this]
  omega
set_option maxHeartbeats 4000000 in
set_option maxRecDepth 100000 in
theorem shr_w (A0 : Option Addr) (c0 : Nat) (l0 : List Int) (q s : Nat) (w : World) (hr0 : CU w A0 l0.length l0) (hL0 : Lim l0) (hl0 : l0.length < 1000000) (hs : s < 32) (hq : q < 32768) :
    Calls Tryd.prog 32 #[.slice A0 l0.length c0, .int .i64 ((32 * q + s : Nat) : Int)] w (NumPost w (val l0 / 2 ^ (32 * q + s))) := by
  have HR0 := Aside0.mk hr0
  clear hr0
  have hk0 : (0 : Int) ≤ ((32 * q + s : Nat) : Int) := by omega
  have hk1 : ((32 * q + s : Nat) : Int) ≤ 1048576 := by omega
  have hdiv : ((32 * q + s : Nat) : Int) / 32 = (q : Int) := by omega
  have hmod : ((32 * q + s : Nat) : Int) % 32 = (s : Int) := by omega
  generalize hK : ((32 * q + s : Nat) : Int) = K at hk0 hk1 hdiv hmod ⊢
  clear hK
  obtain ⟨N, hN⟩ : ∃ N, N = l0.length - q := ⟨_, rfl⟩
  have hNb : N < 1000000 := by omega
  have hmk : ∀ (z : Int) (W : World), z = (N : Int) → (Instr.makeSlice 22 (.int .i64 z) (.int .i64 z)).run Tryd.prog W = .ok (.slice (some ⟨W.heap.size, 0, none⟩) N N) (W.alloc (.cells (madeCells #[.int .u32 0] N) 54)) := fun z W h => by
    subst h; exact make_u N (by omega) W
  have HM := Aside0.mk (RU_made w N (by omega))
  have HN := Aside0.mk hN
  by_cases hql : q ≤ l0.length
  · have hmk := fun W => hmk ((l0.length : Int) - (q : Int)) W (by omega)
    clear hN
    go_enter Tryd.func32, Tryd.ntmps32
    go_wp2_with fail
    (try rw [hdiv]); (try rw [hmod])
    clear hdiv hmod
    go_loopw [28] (fun ii wr => ∃ (i : Nat) (o : List Int), i ≤ N ∧ ii = .int .i64 (i : Int) ∧ Aside0 (o.length = N ∧ Lim o ∧ val (o.take i) = val l0 / 2 ^ (32 * q + s) % pw i ∧ RU wr w.heap.size (.slice (some ⟨w.heap.size, 0, none⟩) N N) o) ∧ Aside0 (Below w.heap.size w wr)) (fun ii _ => N - (intOf ii).toNat)
    case atStart => exact ⟨0, List.replicate N 0, Nat.zero_le _, rfl, ⟨by simp, Lim.replicate _, by simp [val, pw_zero, Nat.mod_one], HM.out⟩, ⟨below_alloc (Below.refl _ _) _⟩⟩
    case round =>
      obtain ⟨i, o, hi, rfl, HO, HB⟩ := hrel
      by_cases hiN : i < N
      · obtain ⟨hc1, hc2⟩ := RU_at HO.out.2.2.2 HO.out.1 i hiN
        have HAT : ∀ (j : Nat), j ≤ 10000000 → Calls Tryd.prog 88 #[.slice A0 l0.length c0, .int .i64 (j : Int)] wr fun e w' => e = .returned (.int .u64 (lm l0 j : Int)) ∧ wr = w' := fun j hj => at_w A0 c0 l0 j wr (CU_below HR0.out HB.out) hL0 (by omega) (by omega)
        have HAT1 := Aside0.mk (HAT (i + q) (by omega))
        have HAT2 := Aside0.mk (HAT (i + q + 1) (by omega))
        have ha := lm_lt hL0 (i + q)
        have hb := lm_lt hL0 (i + q + 1)
        obtain ⟨x, hx⟩ : ∃ x, x = lm l0 (i + q) := ⟨_, rfl⟩
        obtain ⟨y, hy⟩ : ∃ y, y = lm l0 (i + q + 1) := ⟨_, rfl⟩
        rw [← hx] at ha HAT1
        rw [← hy] at hb HAT2
        have hor := or_high ha hb
        obtain ⟨z, hz⟩ : ∃ z, z = x + y * 4294967296 := ⟨_, rfl⟩
        rw [← hz] at hor
        have hz64 : z < 18446744073709551616 := by omega
        have HZ := Aside0.mk (show z = lm l0 (i + q) + lm l0 (i + q + 1) * 4294967296 by rw [← hx, ← hy]; exact hz)
        clear hx hy hz HAT
        have hsc := shr_cast (z := z) (s := s)
        obtain ⟨r, hr⟩ : ∃ r, r = z / 2 ^ s % 4294967296 := ⟨_, rfl⟩
        rw [← hr] at hsc
        have hrl : r < 4294967296 := by rw [hr]; exact Nat.mod_lt _ (by decide)
        have HRR := Aside0.mk hr
        clear hr
        go_wp2_with fail
        refine HAT1.out.mono ?_
        rintro e w1 ⟨rfl, rfl⟩
        go_wp2_with fail
        refine HAT2.out.mono ?_
        rintro e w1 ⟨rfl, rfl⟩
        go_wp2_with fail
        go_roundw
        case rel => exact ⟨i + 1, o.set i (r : Int), by omega, by go_num, ⟨by rw [List.length_set]; exact HO.out.1, HO.out.2.1.set i (by omega) (by omega), shr_step hL0 hs (by rw [HO.out.1]; exact hiN) (by rw [HRR.out, HZ.out]) HO.out.2.2.1, RU_set HO.out.2.2.2 HO.out.1 i _⟩, ⟨below_set HB.out (Nat.le_refl _) _ _⟩⟩
        case measure => simp [intOf]; omega
      · have hk2 : i = N := by omega
        subst hk2
        have HC := cut_own HO.out.2.2.2 HO.out.1 HO.out.2.1 (by omega) HB.out
        have HC := Aside0.mk HC
        have HV := Aside0.mk (shr_end hL0 HN.out HO.out.1 HO.out.2.2.1)
        go_wp2_with fail
        refine HC.out.mono ?_
        rintro e w1 ⟨v, rfl, hR1, hB1⟩
        have HR2 := Aside0.mk hR1
        have HB2 := Aside0.mk hB1
        clear hR1 hB1
        go_wp2_with fail
        go_ret
        exact ⟨_, rfl, by rw [← HV.out]; exact HR2.out, HB2.out⟩
  · have hN0 : N = 0 := by omega
    have hmk := fun W => hmk 0 W (by omega)
    have HQL := Aside0.mk hql
    have HN0 := Aside0.mk hN0
    have hql2 : l0.length < q := by omega
    clear hN hql hN0
    go_enter Tryd.func32, Tryd.ntmps32
    go_wp2_with fail
    (try rw [hdiv]); (try rw [hmod])
    clear hdiv hmod
    go_loopw [28] (fun ii wr => ∃ (i : Nat) (o : List Int), i ≤ N ∧ ii = .int .i64 (i : Int) ∧ Aside0 (o.length = N ∧ Lim o ∧ val (o.take i) = val l0 / 2 ^ (32 * q + s) % pw i ∧ RU wr w.heap.size (.slice (some ⟨w.heap.size, 0, none⟩) N N) o) ∧ Aside0 (Below w.heap.size w wr)) (fun ii _ => N - (intOf ii).toNat)
    case atStart => exact ⟨0, List.replicate N 0, Nat.zero_le _, rfl, ⟨by simp, Lim.replicate _, by simp [val, pw_zero, Nat.mod_one], HM.out⟩, ⟨below_alloc (Below.refl _ _) _⟩⟩
    case round =>
      obtain ⟨i, o, hi, rfl, HO, HB⟩ := hrel
      by_cases hiN : i < N
      · obtain ⟨hc1, hc2⟩ := RU_at HO.out.2.2.2 HO.out.1 i hiN
        have HAT : ∀ (j : Nat), j ≤ 10000000 → Calls Tryd.prog 88 #[.slice A0 l0.length c0, .int .i64 (j : Int)] wr fun e w' => e = .returned (.int .u64 (lm l0 j : Int)) ∧ wr = w' := fun j hj => at_w A0 c0 l0 j wr (CU_below HR0.out HB.out) hL0 (by omega) (by omega)
        have HAT1 := Aside0.mk (HAT (i + q) (by omega))
        have HAT2 := Aside0.mk (HAT (i + q + 1) (by omega))
        have ha := lm_lt hL0 (i + q)
        have hb := lm_lt hL0 (i + q + 1)
        obtain ⟨x, hx⟩ : ∃ x, x = lm l0 (i + q) := ⟨_, rfl⟩
        obtain ⟨y, hy⟩ : ∃ y, y = lm l0 (i + q + 1) := ⟨_, rfl⟩
        rw [← hx] at ha HAT1
        rw [← hy] at hb HAT2
        have hor := or_high ha hb
        obtain ⟨z, hz⟩ : ∃ z, z = x + y * 4294967296 := ⟨_, rfl⟩
        rw [← hz] at hor
        have hz64 : z < 18446744073709551616 := by omega
        have HZ := Aside0.mk (show z = lm l0 (i + q) + lm l0 (i + q + 1) * 4294967296 by rw [← hx, ← hy]; exact hz)
        clear hx hy hz HAT
        have hsc := shr_cast (z := z) (s := s)
        obtain ⟨r, hr⟩ : ∃ r, r = z / 2 ^ s % 4294967296 := ⟨_, rfl⟩
        rw [← hr] at hsc
        have hrl : r < 4294967296 := by rw [hr]; exact Nat.mod_lt _ (by decide)
        have HRR := Aside0.mk hr
        clear hr
        go_wp2_with fail
        refine HAT1.out.mono ?_
        rintro e w1 ⟨rfl, rfl⟩
        go_wp2_with fail
        refine HAT2.out.mono ?_
        rintro e w1 ⟨rfl, rfl⟩
        go_wp2_with fail
        go_roundw
        case rel => exact ⟨i + 1, o.set i (r : Int), by omega, by go_num, ⟨by rw [List.length_set]; exact HO.out.1, HO.out.2.1.set i (by omega) (by omega), shr_step hL0 hs (by rw [HO.out.1]; exact hiN) (by rw [HRR.out, HZ.out]) HO.out.2.2.1, RU_set HO.out.2.2.2 HO.out.1 i _⟩, ⟨below_set HB.out (Nat.le_refl _) _ _⟩⟩
        case measure => simp [intOf]; omega
      · have hk2 : i = N := by omega
        subst hk2
        have HC := cut_own HO.out.2.2.2 HO.out.1 HO.out.2.1 (by omega) HB.out
        have HC := Aside0.mk HC
        have HV := Aside0.mk (shr_end hL0 HN.out HO.out.1 HO.out.2.2.1)
        go_wp2_with fail
        refine HC.out.mono ?_
        rintro e w1 ⟨v, rfl, hR1, hB1⟩
        have HR2 := Aside0.mk hR1
        have HB2 := Aside0.mk hB1
        clear hR1 hB1
        go_wp2_with fail
        go_ret
        exact ⟨_, rfl, by rw [← HV.out]; exact HR2.out, HB2.out⟩
set_option maxHeartbeats 4000000 in
set_option maxRecDepth 100000 in
/-- A count of places that may not be: nothing is shifted. -/
theorem shl_w_out (A0 : Option Addr) (c0 : Nat) (l0 : List Int) (K : Int) (w : World) (hr0 : CU w A0 l0.length l0) (hc : l0.length ≤ c0) (hL0 : Lim l0) (hn : Norm l0) (hl0 : l0.length < 1000000) (hK : K < 0 ∨ 1048576 < K) :
    Calls Tryd.prog 31 #[.slice A0 l0.length c0, .int .i64 K] w (NumPost w (val l0)) := by
  have HC := slices_Clone_uint32_uint32.calls A0 c0 l0 l0 w hr0 hc (by unfold slices_Clone_uint32_uint32.f; rw [if_pos (by omega)])
  have HC := Aside0.mk HC
  clear hr0
  rcases hK with hK | hK
  · go_enter Tryd.func31, Tryd.ntmps31
    go_wp2_with fail
    refine HC.out.mono ?_
    rintro e w1 ⟨v, rfl, hR1, hB1⟩
    have HR2 := Aside0.mk hR1
    have HB2 := Aside0.mk hB1
    clear hR1 hB1
    go_wp2_with fail
    go_ret
    exact clone_post hL0 hn HR2.out HB2.out
  · have h0 : ¬ K < 0 := by omega
    go_enter Tryd.func31, Tryd.ntmps31
    go_wp2_with fail
    refine HC.out.mono ?_
    rintro e w1 ⟨v, rfl, hR1, hB1⟩
    have HR2 := Aside0.mk hR1
    have HB2 := Aside0.mk hB1
    clear hR1 hB1
    go_wp2_with fail
    go_ret
    exact clone_post hL0 hn HR2.out HB2.out
set_option maxHeartbeats 4000000 in
set_option maxRecDepth 100000 in
/-- A count of places that may not be: nothing is shifted. -/
theorem shr_w_out (A0 : Option Addr) (c0 : Nat) (l0 : List Int) (K : Int) (w : World) (hr0 : CU w A0 l0.length l0) (hc : l0.length ≤ c0) (hL0 : Lim l0) (hn : Norm l0) (hl0 : l0.length < 1000000) (hK : K < 0 ∨ 1048576 < K) :
    Calls Tryd.prog 32 #[.slice A0 l0.length c0, .int .i64 K] w (NumPost w (val l0)) := by
  have HC := slices_Clone_uint32_uint32.calls A0 c0 l0 l0 w hr0 hc (by unfold slices_Clone_uint32_uint32.f; rw [if_pos (by omega)])
  have HC := Aside0.mk HC
  clear hr0
  rcases hK with hK | hK
  · go_enter Tryd.func32, Tryd.ntmps32
    go_wp2_with fail
    refine HC.out.mono ?_
    rintro e w1 ⟨v, rfl, hR1, hB1⟩
    have HR2 := Aside0.mk hR1
    have HB2 := Aside0.mk hB1
    clear hR1 hB1
    go_wp2_with fail
    go_ret
    exact clone_post hL0 hn HR2.out HB2.out
  · have h0 : ¬ K < 0 := by omega
    go_enter Tryd.func32, Tryd.ntmps32
    go_wp2_with fail
    refine HC.out.mono ?_
    rintro e w1 ⟨v, rfl, hR1, hB1⟩
    have HR2 := Aside0.mk hR1
    have HB2 := Aside0.mk hB1
    clear hR1 hB1
    go_wp2_with fail
    go_ret
    exact clone_post hL0 hn HR2.out HB2.out
set_option maxHeartbeats 4000000 in
set_option maxRecDepth 100000 in
theorem rshr_w (A0 : Option Addr) (c0 : Nat) (l0 : List Int) (q s : Nat) (w : World) (hr0 : CU w A0 l0.length l0) (hL0 : Lim l0) (hl0 : l0.length < 1000000) (hs : s < 32) (hq : q < 32768) :
    Calls Tryd.prog 34 #[.slice A0 l0.length c0, .int .i64 ((32 * q + s : Nat) : Int)] w (NumPost w (val l0 / 2 ^ (32 * q + s))) := by
  have HR0 := Aside0.mk hr0
  clear hr0
  have hk0 : (0 : Int) ≤ ((32 * q + s : Nat) : Int) := by omega
  have hk1 : ((32 * q + s : Nat) : Int) ≤ 1048576 := by omega
  have hdiv : ((32 * q + s : Nat) : Int) / 32 = (q : Int) := by omega
  have hmod : ((32 * q + s : Nat) : Int) % 32 = (s : Int) := by omega
  generalize hK : ((32 * q + s : Nat) : Int) = K at hk0 hk1 hdiv hmod ⊢
  clear hK
  obtain ⟨N, hN⟩ : ∃ N, N = l0.length - q := ⟨_, rfl⟩
  have hNb : N < 1000000 := by omega
  have hmk : ∀ (z : Int) (W : World), z = (N : Int) → (Instr.makeSlice 22 (.int .i64 z) (.int .i64 z)).run Tryd.prog W = .ok (.slice (some ⟨W.heap.size, 0, none⟩) N N) (W.alloc (.cells (madeCells #[.int .u32 0] N) 54)) := fun z W h => by
    subst h; exact make_u N (by omega) W
  have HM := Aside0.mk (RU_made w N (by omega))
  have HN := Aside0.mk hN
  by_cases hql : q < l0.length
  · have hmk := fun W => hmk ((l0.length : Int) - (q : Int)) W (by omega)
    clear hN
    have hd1 : decide (l0.length ≤ q) = false := decide_eq_false (by omega)
    have hd2 : decide ((l0.length : Int) ≤ (q : Int)) = false := decide_eq_false (by omega)
    go_enter Tryd.func34, Tryd.ntmps34
    go_wp2_with fail
    (try rw [hdiv]); (try rw [hmod])
    clear hdiv hmod hd1 hd2
    go_loopw [8] (fun ii wr => ∃ (i : Nat) (o : List Int), i ≤ N ∧ ii = .int .i64 (i : Int) ∧ Aside0 (o.length = N ∧ Lim o ∧ val (o.take i) = val l0 / 2 ^ (32 * q + s) % pw i ∧ RU wr w.heap.size (.slice (some ⟨w.heap.size, 0, none⟩) N N) o) ∧ Aside0 (Below w.heap.size w wr)) (fun ii _ => N - (intOf ii).toNat)
    case atStart => exact ⟨0, List.replicate N 0, Nat.zero_le _, rfl, ⟨by simp, Lim.replicate _, by simp [val, pw_zero, Nat.mod_one], HM.out⟩, ⟨below_alloc (Below.refl _ _) _⟩⟩
    case round =>
      obtain ⟨i, o, hi, rfl, HO, HB⟩ := hrel
      by_cases hiN : i < N
      · obtain ⟨hc1, hc2⟩ := RU_at HO.out.2.2.2 HO.out.1 i hiN
        have HAT : ∀ (j : Nat), j ≤ 10000000 → Calls Tryd.prog 89 #[.slice A0 l0.length c0, .int .i64 (j : Int)] wr fun e w' => e = .returned (.int .u64 (lm l0 j : Int)) ∧ wr = w' := fun j hj => rat_w A0 c0 l0 j wr (CU_below HR0.out HB.out) hL0 (by omega) (by omega)
        have HAT1 := Aside0.mk (HAT (i + q) (by omega))
        have HAT2 := Aside0.mk (HAT (i + q + 1) (by omega))
        have ha := lm_lt hL0 (i + q)
        have hb := lm_lt hL0 (i + q + 1)
        obtain ⟨x, hx⟩ : ∃ x, x = lm l0 (i + q) := ⟨_, rfl⟩
        obtain ⟨y, hy⟩ : ∃ y, y = lm l0 (i + q + 1) := ⟨_, rfl⟩
        rw [← hx] at ha HAT1
        rw [← hy] at hb HAT2
        have hor := or_high ha hb
        obtain ⟨z, hz⟩ : ∃ z, z = x + y * 4294967296 := ⟨_, rfl⟩
        rw [← hz] at hor
        have hz64 : z < 18446744073709551616 := by omega
        have HZ := Aside0.mk (show z = lm l0 (i + q) + lm l0 (i + q + 1) * 4294967296 by rw [← hx, ← hy]; exact hz)
        clear hx hy hz HAT
        have hsc := shr_cast (z := z) (s := s)
        obtain ⟨r, hr⟩ : ∃ r, r = z / 2 ^ s % 4294967296 := ⟨_, rfl⟩
        rw [← hr] at hsc
        have hrl : r < 4294967296 := by rw [hr]; exact Nat.mod_lt _ (by decide)
        have HRR := Aside0.mk hr
        clear hr
        go_wp2_with fail
        refine HAT1.out.mono ?_
        rintro e w1 ⟨rfl, rfl⟩
        go_wp2_with fail
        refine HAT2.out.mono ?_
        rintro e w1 ⟨rfl, rfl⟩
        go_wp2_with fail
        go_roundw
        case rel => exact ⟨i + 1, o.set i (r : Int), by omega, by go_num, ⟨by rw [List.length_set]; exact HO.out.1, HO.out.2.1.set i (by omega) (by omega), shr_step hL0 hs (by rw [HO.out.1]; exact hiN) (by rw [HRR.out, HZ.out]) HO.out.2.2.1, RU_set HO.out.2.2.2 HO.out.1 i _⟩, ⟨below_set HB.out (Nat.le_refl _) _ _⟩⟩
        case measure => simp [intOf]; omega
      · have hk2 : i = N := by omega
        subst hk2
        have HC := trim_own HO.out.2.2.2 HO.out.1 HO.out.2.1 (by omega) HB.out
        have HC := Aside0.mk HC
        have HV := Aside0.mk (shr_end hL0 HN.out HO.out.1 HO.out.2.2.1)
        go_wp2_with fail
        refine HC.out.mono ?_
        rintro e w1 ⟨v, rfl, hR1, hB1⟩
        have HR2 := Aside0.mk hR1
        have HB2 := Aside0.mk hB1
        clear hR1 hB1
        go_wp2_with fail
        go_ret
        exact ⟨_, rfl, by rw [← HV.out]; exact HR2.out, HB2.out⟩
  · have hN0 : N = 0 := by omega
    have hmk := fun W => hmk 0 W (by omega)
    have HQL := Aside0.mk hql
    have HN0 := Aside0.mk hN0
    have hql2 : l0.length ≤ q := by omega
    clear hN hql hN0
    go_enter Tryd.func34, Tryd.ntmps34
    go_wp2_with fail
    go_ret
    refine ⟨_, rfl, ?_, Below.refl _ _⟩
    have h0 : val l0 / 2 ^ (32 * q + s) = 0 := by
      have := shr_end (o := []) (q := q) (s := s) hL0 HN.out (by rw [HN0.out]; rfl) (by rw [HN0.out]; simp [val, pw_zero, Nat.mod_one])
      rw [← this]
      rfl
    rw [h0, digs_zero]
    exact Kd.R_nil _ _ _ _ _
set_option maxHeartbeats 4000000 in
set_option maxRecDepth 100000 in
/-- A count of places that may not be: nothing is shifted. -/
theorem rshr_w_out (A0 : Option Addr) (c0 : Nat) (l0 : List Int) (K : Int) (w : World) (hr0 : CU w A0 l0.length l0) (hc : l0.length ≤ c0) (hL0 : Lim l0) (hn : Norm l0) (hl0 : l0.length < 1000000) (hK : K < 0 ∨ 1048576 < K) :
    Calls Tryd.prog 34 #[.slice A0 l0.length c0, .int .i64 K] w (NumPost w (val l0)) := by
  have HC := trim_w A0 c0 l0 w hr0 hc (by omega)
  have HC := Aside0.mk HC
  clear hr0
  rcases hK with hK | hK
  · go_enter Tryd.func34, Tryd.ntmps34
    go_wp2_with fail
    refine HC.out.mono ?_
    rintro e w1 ⟨v, rfl, hR1, hB1⟩
    have HR2 := Aside0.mk hR1
    have HB2 := Aside0.mk hB1
    clear hR1 hB1
    go_wp2_with fail
    go_ret
    exact ⟨_, rfl, by rw [← strip_eq hL0]; exact HR2.out, HB2.out⟩
  · have h0 : ¬ K < 0 := by omega
    go_enter Tryd.func34, Tryd.ntmps34
    go_wp2_with fail
    refine HC.out.mono ?_
    rintro e w1 ⟨v, rfl, hR1, hB1⟩
    have HR2 := Aside0.mk hR1
    have HB2 := Aside0.mk hB1
    clear hR1 hB1
    go_wp2_with fail
    go_ret
    exact ⟨_, rfl, by rw [← strip_eq hL0]; exact HR2.out, HB2.out⟩
end Go.Proofs.YtklhpobphloehaaDoor.G
