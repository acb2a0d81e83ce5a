/- Contracts by hand: the reference's shift to the left. -/
import Derived.Test.YtklhpobphloehaaDoorG7
set_option linter.unusedVariables false
namespace Go.Proofs.YtklhpobphloehaaDoor.G
open Go.RowKit Go.Proofs.YtklhpobphloehaaDoorW.PrintWords Go.Proofs.YtklhpobphloehaaDoorW.PrintLast Go.Proofs.YtklhpobphloehaaDoor.Nn

theorem or_limb {y x s : Nat} (hy : y < 2 ^ s) (hs : s < 32) : bits .or .u32 (y : Int) (((x * 2 ^ s : Nat) : Int) % 4294967296) = ((x * 2 ^ s % 4294967296 + y : Nat) : Int) := by
  have hl := low_part (x := x) hs
  have hp := pow_le hs
  rw [show ((x * 2 ^ s : Nat) : Int) % 4294967296 = ((x * 2 ^ s % 4294967296 : Nat) : Int) from by omega, bits_or_u32_nat _ _ (by omega) (by omega), Nat.or_comm, or_parts hl.1 hy]
theorem lm_set2 {o : List Int} {i r r2 : Nat} (h : i + 1 < o.length) : lm ((o.set i (r : Int)).set (i + 1) (r2 : Int)) (i + 1) = r2 := lm_set_self (by rw [List.length_set]; exact h)
theorem rshl_step {o : List Int} {i x s y r M : Nat} (hi : i + 1 < o.length) (hy : y = lm o i) (hz : lm o (i + 1) = 0) (hr : r = x * 2 ^ s % 4294967296 + y) (h : val o = M) :
    val ((o.set i (r : Int)).set (i + 1) ((x * 2 ^ s / 4294967296 : Nat) : Int)) = M + pw i * (x * 2 ^ s) := by
  have h1 := val_set o i r (by omega)
  have h2 := val_set (o.set i (r : Int)) (i + 1) (x * 2 ^ s / 4294967296) (by rw [List.length_set]; exact hi)
  rw [lm_set_ne (by omega), hz, Nat.mul_zero, Nat.add_zero] at h2
  rw [h2, pw_succ]
  rw [← hy, h] at h1
  have h4 : pw i * r = pw i * (x * 2 ^ s % 4294967296) + pw i * y := by rw [hr, Nat.mul_add]
  have h3 : pw i * (x * 2 ^ s % 4294967296) + 4294967296 * pw i * (x * 2 ^ s / 4294967296) = pw i * (x * 2 ^ s) := by
    rw [Nat.mul_comm 4294967296, Nat.mul_assoc, ← Nat.mul_add, Nat.mod_add_div]
  omega
set_option maxHeartbeats 4000000 in
set_option maxRecDepth 100000 in
theorem rshl_w (A0 : Option Addr) (c0 : Nat) (l0 : List Int) (q s : Nat) (w : World) (hr0 : CU w A0 l0.length l0) (hL0 : Lim l0) (hl0 : l0.length < 1000000) (hp : 0 < l0.length) (hs : s < 32) (hq : q < 32768) :
    Calls Tryd.prog 33 #[.slice A0 l0.length c0, .int .i64 ((32 * q + s : Nat) : Int)] w (NumPost w (val l0 * 2 ^ (32 * q + s))) := by
  have HR0 := Aside0.mk hr0
  clear hr0
  have hk0 : (0 : Int) ≤ ((32 * q + s : Nat) : Int) := by omega
  have hk1 : ((32 * q + s : Nat) : Int) ≤ 1048576 := by omega
  have hdiv : ((32 * q + s : Nat) : Int) / 32 = (q : Int) := by omega
  have hmod : ((32 * q + s : Nat) : Int) % 32 = (s : Int) := by omega
  generalize hK : ((32 * q + s : Nat) : Int) = K at hk0 hk1 hdiv hmod ⊢
  clear hK
  have hmk : ∀ W : World, (Instr.makeSlice 22 (.int .i64 ((l0.length : Int) + (q : Int) + 1)) (.int .i64 ((l0.length : Int) + (q : Int) + 1))).run Tryd.prog W = .ok (.slice (some ⟨W.heap.size, 0, none⟩) (l0.length + q + 1) (l0.length + q + 1)) (W.alloc (.cells (madeCells #[.int .u32 0] (l0.length + q + 1)) 54)) := fun W => make_u (l0.length + q + 1) (by omega) W
  have HM := Aside0.mk (RU_made w (l0.length + q + 1) (by omega))
  have hb1 : ((l0.length : Int) == 0) = false := by rw [beq_eq_false_iff_ne]; omega
  have hb2 : (l0.length == 0) = false := by rw [beq_eq_false_iff_ne]; omega
  have hb3 : ¬ (l0 = []) := by intro h; rw [h] at hp; exact absurd hp (by decide)
  have hd1 : decide (K < 0) = false := decide_eq_false (by omega)
  have hd2 : decide (1048576 < K) = false := decide_eq_false (by omega)
  go_enter Tryd.func33, Tryd.ntmps33
  go_wp2_with fail
  (try rw [hdiv]); (try rw [hmod])
  clear hdiv hmod hb1 hb2 hb3 hd1 hd2
  go_loopw [8] (fun ii wr => ∃ (i : Nat) (o : List Int), i ≤ l0.length ∧ ii = .int .i64 (i : Int) ∧ Aside0 (o.length = l0.length + q + 1 ∧ Lim o ∧ val o = pw q * 2 ^ s * val (l0.take i) ∧ (∀ j, i + q < j → lm o j = 0) ∧ lm o (i + q) < 2 ^ s ∧ RU wr w.heap.size (.slice (some ⟨w.heap.size, 0, none⟩) (l0.length + q + 1) (l0.length + q + 1)) o) ∧ Aside0 (Below w.heap.size w wr)) (fun ii _ => l0.length - (intOf ii).toNat)
  case atStart => exact ⟨0, List.replicate (l0.length + q + 1) 0, Nat.zero_le _, rfl, ⟨by simp, Lim.replicate _, by rw [val_replicate]; simp [val], fun j _ => lm_replicate _ j, by rw [lm_replicate]; exact two_pos s, HM.out⟩, ⟨below_alloc (Below.refl _ _) _⟩⟩
  case round =>
    obtain ⟨i, o, hi, rfl, HO, HB⟩ := hrel
    by_cases hiN : i < l0.length
    · obtain ⟨hc1, hc2⟩ := RU_at HO.out.2.2.2.2.2 HO.out.1 (i + q) (by omega)
      obtain ⟨hc3, hc4⟩ := RU_at HO.out.2.2.2.2.2 HO.out.1 (i + q + 1) (by omega)
      obtain ⟨ad, e, hcell⟩ := CU_at (CU_below HR0.out HB.out) i hiN
      subst e
      rw [lm_cast hL0] at hcell
      rw [lm_cast HO.out.2.1] at hc1
      have hx := lm_lt hL0 i
      have hy := lm_lt HO.out.2.1 (i + q)
      have hy2 := HO.out.2.2.2.2.1
      obtain ⟨x, hxe⟩ : ∃ x, x = lm l0 i := ⟨_, rfl⟩
      obtain ⟨y, hye⟩ : ∃ y, y = lm o (i + q) := ⟨_, rfl⟩
      rw [← hxe] at hcell hx
      rw [← hye] at hc1 hy hy2
      have hw1 := wrap64_pow hx hs
      have hor := or_limb (x := x) hy2 hs
      have hpl := pow_le hs
      have hXb : x * 2 ^ s < 18446744073709551616 := by
        have : x * 2 ^ s ≤ 4294967295 * 2147483648 := Nat.mul_le_mul (by omega) hpl
        omega
      have hrl := low_part (x := x) hs
      have hrl2 : x * 2 ^ s % 4294967296 + y < 4294967296 := by omega
      have hhi : x * 2 ^ s / 4294967296 < 2 ^ s := high_part hx
      obtain ⟨r, hr⟩ : ∃ r, r = x * 2 ^ s % 4294967296 + y := ⟨_, rfl⟩
      rw [← hr] at hor hrl2
      obtain ⟨h, hh⟩ : ∃ h, h = x * 2 ^ s / 4294967296 := ⟨_, rfl⟩
      rw [← hh] at hhi
      obtain ⟨X, hX⟩ : ∃ X, X = x * 2 ^ s := ⟨_, rfl⟩
      rw [← hX] at hw1 hor hXb hh
      have HXE := Aside0.mk hxe
      have HYE := Aside0.mk hye
      have HRE := Aside0.mk hr
      have HHE := Aside0.mk (show h = x * 2 ^ s / 4294967296 by rw [← hX]; exact hh)
      have HHI := Aside0.mk hhi
      have hhc : (X : Int) / 4294967296 = (h : Int) := by omega
      have hhl : h < 4294967296 := by omega
      clear hxe hye hr hX hrl hpl hh hhi hy2
      go_wp2_with fail
      go_roundw
      case rel => exact ⟨i + 1, (o.set (i + q) (r : Int)).set (i + q + 1) (h : Int), by omega, by go_num, ⟨by rw [List.length_set, List.length_set]; exact HO.out.1, (HO.out.2.1.set (i + q) (by omega) (by omega)).set (i + q + 1) (by omega) (by omega), by
        rw [HHE.out, rshl_step (by rw [HO.out.1]; omega) HYE.out (HO.out.2.2.2.1 _ (by omega)) HRE.out HO.out.2.2.1, val_take_succ, ← HXE.out, Nat.mul_add, pw_add]
        congr 1
        rw [Nat.mul_comm (pw i), Nat.mul_assoc, Nat.mul_assoc, Nat.mul_left_comm (2 ^ s), Nat.mul_comm (2 ^ s) x], fun j hj => by rw [lm_set_ne (by omega), lm_set_ne (by omega)]; exact HO.out.2.2.2.1 j (by omega), by rw [show i + 1 + q = i + q + 1 from by omega, lm_set2 (by rw [HO.out.1]; omega)]; exact HHI.out, RU_set (RU_set HO.out.2.2.2.2.2 HO.out.1 (i + q) (r : Int)) (by rw [List.length_set]; exact HO.out.1) (i + q + 1) (h : Int)⟩, ⟨below_set (below_set HB.out (Nat.le_refl _) _ _) (Nat.le_refl _) _ _⟩⟩
      case measure => simp [intOf]; omega
    · have hk2 : i = l0.length := by omega
      subst hk2
      have HC := trim_own HO.out.2.2.2.2.2 HO.out.1 HO.out.2.1 (by omega) HB.out
      have HC := Aside0.mk HC
      have hv : val o = val l0 * 2 ^ (32 * q + s) := by
        have h := HO.out.2.2.1
        rw [List.take_of_length_le (Nat.le_refl _)] at h
        rw [Nat.pow_add, ← pw_two, Nat.mul_comm (val l0)]
        exact h
      have HV := Aside0.mk hv
      clear hv
      go_wp2_with fail
      refine HC.out.mono ?_
      rintro e w1 ⟨v, rfl, hR1, hB1⟩
      have HR2 := Aside0.mk hR1
      have HB2 := Aside0.mk hB1
      clear hR1 hB1
      go_wp2_with fail
      go_ret
      exact ⟨_, rfl, by rw [← HV.out]; exact HR2.out, HB2.out⟩
set_option maxHeartbeats 4000000 in
set_option maxRecDepth 100000 in
theorem rshl_out (A0 : Option Addr) (c0 : Nat) (l0 : List Int) (K : Int) (w : World) (hr0 : CU w A0 l0.length l0) (hc : l0.length ≤ c0) (hL0 : Lim l0) (hl0 : l0.length < 1000000) (hK : K < 0 ∨ 1048576 < K ∨ l0 = []) :
    Calls Tryd.prog 33 #[.slice A0 l0.length c0, .int .i64 K] w (NumPost w (val l0)) := by
  have HC := Aside0.mk (trim_w A0 c0 l0 w hr0 hc (by omega))
  clear hr0
  by_cases h1 : K < 0
  · go_enter Tryd.func33, Tryd.ntmps33
    go_wp2_with fail
    refine HC.out.mono ?_
    rintro e w1 ⟨v, rfl, hR1, hB1⟩
    have HR2 := Aside0.mk hR1
    have HB2 := Aside0.mk hB1
    clear hR1 hB1
    go_wp2_with fail
    go_ret
    exact ⟨_, rfl, by rw [← strip_eq hL0]; exact HR2.out, HB2.out⟩
  · by_cases h2 : 1048576 < K
    · go_enter Tryd.func33, Tryd.ntmps33
      go_wp2_with fail
      refine HC.out.mono ?_
      rintro e w1 ⟨v, rfl, hR1, hB1⟩
      have HR2 := Aside0.mk hR1
      have HB2 := Aside0.mk hB1
      clear hR1 hB1
      go_wp2_with fail
      go_ret
      exact ⟨_, rfl, by rw [← strip_eq hL0]; exact HR2.out, HB2.out⟩
    · have h3 : l0 = [] := by
        rcases hK with h | h | h
        · exact absurd h h1
        · exact absurd h h2
        · exact h
      subst h3
      rw [List.length_nil] at HC ⊢
      go_enter Tryd.func33, Tryd.ntmps33
      go_wp2_with fail
      refine HC.out.mono ?_
      rintro e w1 ⟨v, rfl, hR1, hB1⟩
      have HR2 := Aside0.mk hR1
      have HB2 := Aside0.mk hB1
      clear hR1 hB1
      go_wp2_with fail
      go_ret
      exact ⟨_, rfl, by rw [← strip_eq hL0]; exact HR2.out, HB2.out⟩
end Go.Proofs.YtklhpobphloehaaDoor.G
