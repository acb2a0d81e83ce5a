/- Contracts by hand: the product's limbs (the program's Mul, the reference's). -/
import Derived.Test.YtklhpobphloehaaDoorG2
set_option linter.unusedVariables false
namespace Go.Proofs.YtklhpobphloehaaDoor.G
open Go.RowKit Go.Proofs.YtklhpobphloehaaDoorW.PrintWords Go.Proofs.YtklhpobphloehaaDoorW.PrintLast Go.Proofs.YtklhpobphloehaaDoor.Nn

theorem val_set (o : List Int) : ∀ (i v : Nat), i < o.length → val (o.set i (v : Int)) + pw i * lm o i = val o + pw i * v := by
  induction o with
  | nil => intro i v h; simp at h
  | cons x xs ih =>
    intro i v h
    cases i with
    | zero => simp [val, pw_zero, lm]; omega
    | succ i =>
      have h1 := ih i v (by simpa using h)
      have h2 : lm (x :: xs) (i + 1) = lm xs i := by simp [lm]
      simp only [List.set_cons_succ, val]
      rw [h2, pw_succ, Nat.mul_assoc, Nat.mul_assoc]
      omega
theorem lm_set_ne {o : List Int} {i j : Nat} {v : Int} (h : i ≠ j) : lm (o.set i v) j = lm o j := by
  unfold lm
  rw [List.getD_eq_getElem?_getD, List.getD_eq_getElem?_getD, List.getElem?_set_ne h]
theorem lm_replicate (n i : Nat) : lm (List.replicate n 0) i = 0 := by
  unfold lm
  rw [List.getD_eq_getElem?_getD]
  rcases Nat.lt_or_ge i n with h | h
  · rw [List.getElem?_eq_getElem (by simpa using h)]; simp
  · rw [List.getElem?_eq_none (by simpa using h)]; rfl
theorem mul_bound {a b c d : Nat} (ha : a < 4294967296) (hb : b < 4294967296) (hc : c < 4294967296) (hd : d < 4294967296) : a * b ≤ 18446744065119617025 ∧ c + (a * b + d) < 18446744073709551616 := by
  have : a * b ≤ 4294967295 * 4294967295 := Nat.mul_le_mul (by omega) (by omega)
  omega
/-- One place of a row of a product. -/
theorem mul_step {o : List Int} {i k x b c s M : Nat} {va : Nat} (hk : i + k < o.length) (hs : s = c + (x * b + lm o (i + k)))
    (h : val o + c * pw (i + k) = M + x * va * pw i) :
    val (o.set (i + k) ((s % 4294967296 : Nat) : Int)) + s / 4294967296 * pw (i + (k + 1)) = M + x * (va + pw k * b) * pw i := by
  have h1 := val_set o (i + k) (s % 4294967296) hk
  have h2 : pw (i + k) * (s % 4294967296) + s / 4294967296 * pw (i + (k + 1)) = pw (i + k) * s := by
    rw [show i + (k + 1) = (i + k) + 1 from rfl, pw_succ, ← Nat.mul_assoc, Nat.mul_comm _ (pw (i + k)), ← Nat.mul_add]
    congr 1
    omega
  have h3 : pw (i + k) * s = c * pw (i + k) + x * (pw k * b) * pw i + pw (i + k) * lm o (i + k) := by
    rw [hs, Nat.mul_add, Nat.mul_add, Nat.mul_comm (pw (i + k)) c]
    have : pw (i + k) * (x * b) = x * (pw k * b) * pw i := by
      rw [pw_add, Nat.mul_comm (pw i), Nat.mul_assoc, Nat.mul_comm (pw i), ← Nat.mul_assoc, ← Nat.mul_assoc, Nat.mul_comm (pw k) x, Nat.mul_assoc x]
    omega
  rw [Nat.mul_add, Nat.add_mul]
  omega
theorem mul_row {o l0 l1 : List Int} {i n c : Nat} (hn : l1.length = n) (hi : i + n < o.length) (hz : lm o (i + n) = 0) (h : val o + c * pw (i + n) = val (l0.take i) * val l1 + lm l0 i * val (l1.take n) * pw i) :
    val (o.set (i + n) (c : Int)) = val (l0.take (i + 1)) * val l1 := by
  have h1 := val_set o (i + n) c hi
  rw [hz, Nat.mul_zero, Nat.add_zero] at h1
  rw [List.take_of_length_le (l := l1) (show l1.length ≤ n by omega)] at h
  rw [h1, val_take_succ, Nat.add_mul, Nat.mul_comm (pw (i + n)) c, h]
  congr 1
  rw [Nat.mul_comm (pw i), Nat.mul_assoc, Nat.mul_assoc, Nat.mul_comm (pw i)]
theorem mul_wrap {a b : Nat} (ha : a < 4294967296) (hb : b < 4294967296) : IntKind.u64.wrap ((a : Int) * (b : Int)) = ((a * b : Nat) : Int) := by
  have h : a * b ≤ 4294967295 * 4294967295 := Nat.mul_le_mul (by omega) (by omega)
  unfold IntKind.wrap
  simp [IntKind.bits, IntKind.signed]
  rw [← Int.natCast_mul]
  omega
theorem u64_in {x : Int} (h0 : 0 ≤ x) (h1 : x < 18446744073709551616) : IntKind.u64.wrap x = x := by
  unfold IntKind.wrap
  simp [IntKind.bits, IntKind.signed]
  omega
theorem i64_in' {x : Int} (h0 : 0 ≤ x) (h1 : x < 9223372036854775808) : IntKind.i64.wrap x = x := by
  unfold IntKind.wrap
  simp [IntKind.bits, IntKind.signed]
  omega
set_option maxHeartbeats 4000000 in
set_option maxRecDepth 100000 in
theorem mul_w (A0 A1 : Option Addr) (c0 c1 : Nat) (l0 l1 : List Int) (w : World) (hr0 : CU w A0 l0.length l0) (hr1 : CU w A1 l1.length l1) (hL0 : Lim l0) (hL1 : Lim l1) (hl0 : l0.length < 1000000) (hl1 : l1.length < 1000000) :
    Calls Tryd.prog 39 #[.slice A0 l0.length c0, .slice A1 l1.length c1] w (NumPost w (val l0 * val l1)) := by
  have HR0 := Aside0.mk hr0
  have HR1 := Aside0.mk hr1
  clear hr0 hr1
  have hmk : ∀ W : World, (Instr.makeSlice 22 (.int .i64 ((l0.length : Int) + (l1.length : Int))) (.int .i64 ((l0.length : Int) + (l1.length : Int)))).run Tryd.prog W = .ok (.slice (some ⟨W.heap.size, 0, none⟩) (l0.length + l1.length) (l0.length + l1.length)) (W.alloc (.cells (madeCells #[.int .u32 0] (l0.length + l1.length)) 54)) := fun W => make_u (l0.length + l1.length) (by omega) W
  have HM := Aside0.mk (RU_made w (l0.length + l1.length) (by omega))
  go_enter Tryd.func39, Tryd.ntmps39
  go_wp2_with fail
  go_loopw [18] (fun ii wr => ∃ (i : Nat) (o : List Int), i ≤ l0.length ∧ ii = .int .i64 (i : Int) ∧ Aside0 (o.length = l0.length + l1.length ∧ Lim o ∧ val o = val (l0.take i) * val l1 ∧ (∀ j, i + l1.length ≤ j → lm o j = 0) ∧ RU wr w.heap.size (.slice (some ⟨w.heap.size, 0, none⟩) (l0.length + l1.length) (l0.length + l1.length)) o) ∧ Aside0 (Below w.heap.size w wr)) (fun ii _ => l0.length - (intOf ii).toNat)
  case atStart => exact ⟨0, List.replicate (l0.length + l1.length) 0, Nat.zero_le _, rfl, ⟨by simp, Lim.replicate _, by rw [val_replicate]; simp [val], fun j _ => lm_replicate _ j, HM.out⟩, ⟨below_alloc (Below.refl _ _) _⟩⟩
  case round =>
    obtain ⟨i, o, hi, rfl, HO, HB⟩ := hrel
    obtain ⟨wo, rfl⟩ : ∃ wo : World, wo = wr := ⟨_, rfl⟩
    by_cases hiN : i < l0.length
    · obtain ⟨ad, e, hcell⟩ := CU_at (CU_below HR0.out HB.out) i hiN
      subst e
      rw [lm_cast hL0] at hcell
      have hx := lm_lt hL0 i
      obtain ⟨x, hxe⟩ : ∃ x, x = lm l0 i := ⟨_, rfl⟩
      rw [← hxe] at hcell hx
      have HX := Aside0.mk hxe
      clear hxe
      have hHO := HO.out
      rw [show i + l1.length = i + l1.length from rfl] at hHO
      clear hHO
      go_wp2_with fail
      go_loopw [8, 25] (fun cc kk wr => ∃ (k c : Nat) (o : List Int), k ≤ l1.length ∧ kk = .int .i64 (k : Int) ∧ cc = .int .u64 (c : Int) ∧ c < 4294967296 ∧ Aside0 (o.length = l0.length + l1.length ∧ Lim o ∧ val o + c * pw (i + k) = val (l0.take i) * val l1 + x * val (l1.take k) * pw i ∧ (∀ j, i + l1.length ≤ j → lm o j = 0) ∧ RU wr w.heap.size (.slice (some ⟨w.heap.size, 0, none⟩) (l0.length + l1.length) (l0.length + l1.length)) o) ∧ Aside0 (Below w.heap.size w wr)) (fun _ kk _ => l1.length - (intOf kk).toNat)
      case atStart => exact ⟨0, 0, o, Nat.zero_le _, rfl, rfl, by omega, ⟨HO.out.1, HO.out.2.1, by rw [HO.out.2.2.1]; simp [val], HO.out.2.2.2.1, HO.out.2.2.2.2⟩, ⟨HB.out⟩⟩
      case round =>
        clear HO HB hcell
        obtain ⟨k, c, o, hk, rfl, rfl, hc, HO, HB⟩ := hrel
        by_cases hkN : k < l1.length
        · obtain ⟨hc1, hc2⟩ := RU_at HO.out.2.2.2.2 HO.out.1 (i + k) (by omega)
          obtain ⟨ad1, e1, hcell1⟩ := CU_at (CU_below HR1.out HB.out) k hkN
          subst e1
          rw [lm_cast hL1] at hcell1
          rw [lm_cast HO.out.2.1] at hc1
          have hb := lm_lt hL1 k
          have hd := lm_lt HO.out.2.1 (i + k)
          obtain ⟨b, hbe⟩ : ∃ b, b = lm l1 k := ⟨_, rfl⟩
          obtain ⟨d, hde⟩ : ∃ d, d = lm o (i + k) := ⟨_, rfl⟩
          rw [← hbe] at hcell1 hb
          rw [← hde] at hc1 hd
          have hmb := mul_bound hx hb hc hd
          have hmw := mul_wrap hx hb
          obtain ⟨p, hp⟩ : ∃ p, p = x * b := ⟨_, rfl⟩
          obtain ⟨s, hs⟩ : ∃ s, s = c + (p + d) := ⟨_, rfl⟩
          rw [← hp] at hmb hmw
          have hs64 : s < 18446744073709551616 := by omega
          have hw1 : IntKind.u64.wrap ((p : Int) + (d : Int)) = (p : Int) + (d : Int) := u64_in (by omega) (by omega)
          have hw2 : IntKind.u64.wrap ((c : Int) + ((p : Int) + (d : Int))) = (s : Int) := by rw [u64_in (by omega) (by omega)]; omega
          have hw3 : IntKind.i64.wrap ((i : Int) + (k : Int)) = (i : Int) + (k : Int) := i64_in' (by omega) (by omega)
          have hw4 : ((i : Int) + (k : Int)).toNat = i + k := by omega
          have hw5 : (0 : Int) ≤ (i : Int) + (k : Int) := by omega
          have hw6 : (i : Int) + (k : Int) < (l0.length : Int) + (l1.length : Int) := by omega
          have HBE := Aside0.mk hbe
          have HDE := Aside0.mk hde
          have HS := Aside0.mk (show s = c + (x * b + d) by rw [← hp]; exact hs)
          clear hbe hde hs hp hmb
          go_wp2_with fail
          go_quiet (fail)
          clear hw3 hw4 hw1 hw2 hmw
          go_wp2_with fail
          go_roundw
          case rel => exact ⟨k + 1, s / 4294967296, o.set (i + k) ((s % 4294967296 : Nat) : Int), by omega, by go_num, by go_num, by omega, ⟨by rw [List.length_set]; exact HO.out.1, HO.out.2.1.set (i + k) (by omega) (by omega), by rw [val_take_succ l1, ← HBE.out]; exact mul_step (by rw [HO.out.1]; omega) (by rw [HS.out, HDE.out]) HO.out.2.2.1, fun j hj => by rw [lm_set_ne (by omega)]; exact HO.out.2.2.2.1 j hj, by have := RU_set (RU_drewN HO.out.2.2.2.2 nq) HO.out.1 (i + k) ((s % 4294967296 : Nat) : Int); simpa using this⟩, ⟨below_set (pw_below_drewN HB.out _) (Nat.le_refl _) _ _⟩⟩
          case measure => simp [intOf]; omega
        · have hk2 : k = l1.length := by omega
          subst hk2
          obtain ⟨hc1, hc2⟩ := RU_at HO.out.2.2.2.2 HO.out.1 (i + l1.length) (by omega)
          go_wp2_with fail
          go_roundw
          case rel => exact ⟨i + 1, o.set (i + l1.length) ((c : Nat) : Int), by omega, by go_num, ⟨by rw [List.length_set]; exact HO.out.1, HO.out.2.1.set (i + l1.length) (by omega) (by omega), mul_row rfl (by rw [HO.out.1]; omega) (HO.out.2.2.2.1 _ (Nat.le_refl _)) (by rw [← HX.out]; exact HO.out.2.2.1), fun j hj => by rw [lm_set_ne (by omega)]; exact HO.out.2.2.2.1 j (by omega), by have := RU_set HO.out.2.2.2.2 HO.out.1 (i + l1.length) ((c : Nat) : Int); simpa using this⟩, ⟨below_set HB.out (Nat.le_refl _) _ _⟩⟩
          case measure => simp [intOf]; omega
    · have hk2 : i = l0.length := by omega
      subst hk2
      have HC := cut_own HO.out.2.2.2.2 HO.out.1 HO.out.2.1 (by omega) HB.out
      have HC := Aside0.mk HC
      have hv : val o = val l0 * val l1 := by
        have h := HO.out.2.2.1
        rwa [List.take_of_length_le (Nat.le_refl _)] at h
      have HV := Aside0.mk hv
      clear hv
      go_wp2_with fail
      refine HC.out.mono ?_
      rintro e w1 ⟨v, rfl, hR1, hB1⟩
      have HR2 := Aside0.mk hR1
      have HB2 := Aside0.mk hB1
      clear hR1 hB1
      go_wp2_with fail
      go_ret
      exact ⟨_, rfl, by rw [← HV.out]; exact HR2.out, HB2.out⟩
set_option maxHeartbeats 4000000 in
set_option maxRecDepth 100000 in
theorem rmul_w (A0 A1 : Option Addr) (c0 c1 : Nat) (l0 l1 : List Int) (w : World) (hr0 : CU w A0 l0.length l0) (hr1 : CU w A1 l1.length l1) (hL0 : Lim l0) (hL1 : Lim l1) (hl0 : l0.length < 1000000) (hl1 : l1.length < 1000000) :
    Calls Tryd.prog 50 #[.slice A0 l0.length c0, .slice A1 l1.length c1] w (NumPost w (val l0 * val l1)) := by
  have HR0 := Aside0.mk hr0
  have HR1 := Aside0.mk hr1
  clear hr0 hr1
  have hmk : ∀ W : World, (Instr.makeSlice 22 (.int .i64 ((l0.length : Int) + (l1.length : Int))) (.int .i64 ((l0.length : Int) + (l1.length : Int)))).run Tryd.prog W = .ok (.slice (some ⟨W.heap.size, 0, none⟩) (l0.length + l1.length) (l0.length + l1.length)) (W.alloc (.cells (madeCells #[.int .u32 0] (l0.length + l1.length)) 54)) := fun W => make_u (l0.length + l1.length) (by omega) W
  have HM := Aside0.mk (RU_made w (l0.length + l1.length) (by omega))
  go_enter Tryd.func50, Tryd.ntmps50
  go_wp2_with fail
  go_loopw [6] (fun ii wr => ∃ (i : Nat) (o : List Int), i ≤ l0.length ∧ ii = .int .i64 (i : Int) ∧ Aside0 (o.length = l0.length + l1.length ∧ Lim o ∧ val o = val (l0.take i) * val l1 ∧ (∀ j, i + l1.length ≤ j → lm o j = 0) ∧ RU wr w.heap.size (.slice (some ⟨w.heap.size, 0, none⟩) (l0.length + l1.length) (l0.length + l1.length)) o) ∧ Aside0 (Below w.heap.size w wr)) (fun ii _ => l0.length - (intOf ii).toNat)
  case atStart => exact ⟨0, List.replicate (l0.length + l1.length) 0, Nat.zero_le _, rfl, ⟨by simp, Lim.replicate _, by rw [val_replicate]; simp [val], fun j _ => lm_replicate _ j, HM.out⟩, ⟨below_alloc (Below.refl _ _) _⟩⟩
  case round =>
    obtain ⟨i, o, hi, rfl, HO, HB⟩ := hrel
    obtain ⟨wo, rfl⟩ : ∃ wo : World, wo = wr := ⟨_, rfl⟩
    by_cases hiN : i < l0.length
    · obtain ⟨ad, e, hcell⟩ := CU_at (CU_below HR0.out HB.out) i hiN
      subst e
      rw [lm_cast hL0] at hcell
      have hx := lm_lt hL0 i
      obtain ⟨x, hxe⟩ : ∃ x, x = lm l0 i := ⟨_, rfl⟩
      rw [← hxe] at hcell hx
      have HX := Aside0.mk hxe
      clear hxe
      have hHO := HO.out
      rw [show i + l1.length = i + l1.length from rfl] at hHO
      clear hHO
      go_wp2_with fail
      go_loopw [7, 8] (fun cc kk wr => ∃ (k c : Nat) (o : List Int), k ≤ l1.length ∧ kk = .int .i64 (k : Int) ∧ cc = .int .u64 (c : Int) ∧ c < 4294967296 ∧ Aside0 (o.length = l0.length + l1.length ∧ Lim o ∧ val o + c * pw (i + k) = val (l0.take i) * val l1 + x * val (l1.take k) * pw i ∧ (∀ j, i + l1.length ≤ j → lm o j = 0) ∧ RU wr w.heap.size (.slice (some ⟨w.heap.size, 0, none⟩) (l0.length + l1.length) (l0.length + l1.length)) o) ∧ Aside0 (Below w.heap.size w wr)) (fun _ kk _ => l1.length - (intOf kk).toNat)
      case atStart => exact ⟨0, 0, o, Nat.zero_le _, rfl, rfl, by omega, ⟨HO.out.1, HO.out.2.1, by rw [HO.out.2.2.1]; simp [val], HO.out.2.2.2.1, HO.out.2.2.2.2⟩, ⟨HB.out⟩⟩
      case round =>
        clear HO HB hcell
        obtain ⟨k, c, o, hk, rfl, rfl, hc, HO, HB⟩ := hrel
        by_cases hkN : k < l1.length
        · obtain ⟨hc1, hc2⟩ := RU_at HO.out.2.2.2.2 HO.out.1 (i + k) (by omega)
          obtain ⟨ad1, e1, hcell1⟩ := CU_at (CU_below HR1.out HB.out) k hkN
          subst e1
          obtain ⟨ad2, e2, hcell2⟩ := CU_at (CU_below HR0.out HB.out) i hiN
          cases e2
          rw [lm_cast hL0, ← HX.out] at hcell2
          rw [lm_cast hL1] at hcell1
          rw [lm_cast HO.out.2.1] at hc1
          have hb := lm_lt hL1 k
          have hd := lm_lt HO.out.2.1 (i + k)
          obtain ⟨b, hbe⟩ : ∃ b, b = lm l1 k := ⟨_, rfl⟩
          obtain ⟨d, hde⟩ : ∃ d, d = lm o (i + k) := ⟨_, rfl⟩
          rw [← hbe] at hcell1 hb
          rw [← hde] at hc1 hd
          have hmb := mul_bound hx hb hc hd
          have hmw := mul_wrap hx hb
          obtain ⟨p, hp⟩ : ∃ p, p = x * b := ⟨_, rfl⟩
          obtain ⟨s, hs⟩ : ∃ s, s = c + (p + d) := ⟨_, rfl⟩
          rw [← hp] at hmb hmw
          have hs64 : s < 18446744073709551616 := by omega
          have hw1 : IntKind.u64.wrap ((c : Int) + (p : Int)) = (c : Int) + (p : Int) := u64_in (by omega) (by omega)
          have hw2 : IntKind.u64.wrap ((c : Int) + (p : Int) + (d : Int)) = (s : Int) := by rw [u64_in (by omega) (by omega)]; omega
          have hw3 : IntKind.i64.wrap ((i : Int) + (k : Int)) = (i : Int) + (k : Int) := i64_in' (by omega) (by omega)
          have hw4 : ((i : Int) + (k : Int)).toNat = i + k := by omega
          have hw5 : (0 : Int) ≤ (i : Int) + (k : Int) := by omega
          have hw6 : (i : Int) + (k : Int) < (l0.length : Int) + (l1.length : Int) := by omega
          have HBE := Aside0.mk hbe
          have HDE := Aside0.mk hde
          have HS := Aside0.mk (show s = c + (x * b + d) by rw [← hp]; exact hs)
          clear hbe hde hs hp hmb
          go_wp2_with fail
          go_quiet (fail)
          clear hw3 hw4 hw1 hw2 hmw
          go_wp2_with fail
          go_roundw
          case rel => exact ⟨k + 1, s / 4294967296, o.set (i + k) ((s % 4294967296 : Nat) : Int), by omega, by go_num, by go_num, by omega, ⟨by rw [List.length_set]; exact HO.out.1, HO.out.2.1.set (i + k) (by omega) (by omega), by rw [val_take_succ l1, ← HBE.out]; exact mul_step (by rw [HO.out.1]; omega) (by rw [HS.out, HDE.out]) HO.out.2.2.1, fun j hj => by rw [lm_set_ne (by omega)]; exact HO.out.2.2.2.1 j hj, by have := RU_set (RU_drewN HO.out.2.2.2.2 nq) HO.out.1 (i + k) ((s % 4294967296 : Nat) : Int); simpa using this⟩, ⟨below_set (pw_below_drewN HB.out _) (Nat.le_refl _) _ _⟩⟩
          case measure => simp [intOf]; omega
        · have hk2 : k = l1.length := by omega
          subst hk2
          obtain ⟨hc1, hc2⟩ := RU_at HO.out.2.2.2.2 HO.out.1 (i + l1.length) (by omega)
          go_wp2_with fail
          go_roundw
          case rel => exact ⟨i + 1, o.set (i + l1.length) ((c : Nat) : Int), by omega, by go_num, ⟨by rw [List.length_set]; exact HO.out.1, HO.out.2.1.set (i + l1.length) (by omega) (by omega), mul_row rfl (by rw [HO.out.1]; omega) (HO.out.2.2.2.1 _ (Nat.le_refl _)) (by rw [← HX.out]; exact HO.out.2.2.1), fun j hj => by rw [lm_set_ne (by omega)]; exact HO.out.2.2.2.1 j (by omega), by have := RU_set HO.out.2.2.2.2 HO.out.1 (i + l1.length) ((c : Nat) : Int); simpa using this⟩, ⟨below_set HB.out (Nat.le_refl _) _ _⟩⟩
          case measure => simp [intOf]; omega
    · have hk2 : i = l0.length := by omega
      subst hk2
      have HC := trim_own HO.out.2.2.2.2 HO.out.1 HO.out.2.1 (by omega) HB.out
      have HC := Aside0.mk HC
      have hv : val o = val l0 * val l1 := by
        have h := HO.out.2.2.1
        rwa [List.take_of_length_le (Nat.le_refl _)] at h
      have HV := Aside0.mk hv
      clear hv
      go_wp2_with fail
      refine HC.out.mono ?_
      rintro e w1 ⟨v, rfl, hR1, hB1⟩
      have HR2 := Aside0.mk hR1
      have HB2 := Aside0.mk hB1
      clear hR1 hB1
      go_wp2_with fail
      go_ret
      exact ⟨_, rfl, by rw [← HV.out]; exact HR2.out, HB2.out⟩
end Go.Proofs.YtklhpobphloehaaDoor.G
