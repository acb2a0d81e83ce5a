/- Contracts by hand: what is left of a number (the program's Sub, the reference's less and Sub). -/
import Derived.Test.YtklhpobphloehaaDoorG2
import Derived.Test.YtklhpobphloehaaDoorG3
set_option linter.unusedVariables false
namespace Go.Proofs.YtklhpobphloehaaDoor.G
open Go.RowKit Go.Proofs.YtklhpobphloehaaDoorW.PrintWords Go.Proofs.YtklhpobphloehaaDoorW.PrintLast Go.Proofs.YtklhpobphloehaaDoor.Nn

/-- A limb without another one and what was borrowed, in 64 bits. -/
def dif (a b x : Nat) : Nat := (a + 18446744073709551616 - b - x) % 18446744073709551616
theorem dif_wrap {a b x : Nat} (ha : a < 4294967296) (hb : b < 4294967296) (hx : x ≤ 1) : IntKind.u64.wrap (IntKind.u64.wrap ((a : Int) - (b : Int)) - (x : Int)) = (dif a b x : Int) := by
  unfold dif IntKind.wrap
  simp [IntKind.bits, IntKind.signed]
  omega
theorem dif_lt (a b x : Nat) : dif a b x < 18446744073709551616 := by unfold dif; omega
theorem dif_eq {a b x : Nat} (ha : a < 4294967296) (hb : b < 4294967296) (hx : x ≤ 1) : dif a b x % 4294967296 + b + x = a + 4294967296 * (dif a b x / 9223372036854775808) ∧ dif a b x / 9223372036854775808 ≤ 1 := by
  unfold dif
  omega
theorem dif_low {a b x D : Nat} (hD : D = dif a b x) (ha : a < 4294967296) (hb : b < 4294967296) (hx : x ≤ 1) : D % 4294967296 + b + x = a + 4294967296 * (D / 9223372036854775808) ∧ D / 9223372036854775808 ≤ 1 := by
  subst hD
  exact dif_eq ha hb hx

/-- One place of a difference. -/
theorem sub_step {o : List Int} {N k x y a b r va vb : Nat} (hN : o.length = N) (hk : k < N) (hr : r + b + x = a + 4294967296 * y) (h : val (o.take k) + vb = va + x * pw k) :
    val ((o.set k (r : Int)).take (k + 1)) + (vb + pw k * b) = (va + pw k * a) + y * pw (k + 1) := by
  rw [val_take_succ, List.take_set, List.set_eq_of_length_le (by rw [List.length_take]; omega)]
  have e : lm (o.set k (r : Int)) k = r := by
    unfold lm
    rw [List.getD_eq_getElem?_getD, List.getElem?_set_self (by omega)]
    simp
  rw [e, pw_succ]
  have h1 : pw k * (r + b + x) = pw k * (a + 4294967296 * y) := by rw [hr]
  rw [Nat.mul_add, Nat.mul_add, Nat.mul_add] at h1
  have h2 : y * (4294967296 * pw k) = pw k * (4294967296 * y) := by rw [Nat.mul_left_comm y, Nat.mul_left_comm (pw k), Nat.mul_comm y]
  rw [Nat.mul_comm x] at h
  omega
theorem sub_end {o l0 l1 : List Int} {N x : Nat} (hN : o.length = N) (h0 : l0.length = N) (hO : Lim o) (hL0 : Lim l0) (hL1 : Lim l1) (hn : Norm l1) (hle : val l1 ≤ val l0) (h : val (o.take N) + val (l1.take N) = val (l0.take N) + x * pw N) : val o = val l0 - val l1 := by
  have h1 : l1.length ≤ N := by
    refine Nat.le_of_not_lt fun hlt => ?_
    have := norm_long hL0 hL1 hn (by omega)
    omega
  rw [List.take_of_length_le (by omega), List.take_of_length_le (by omega), List.take_of_length_le (by omega)] at h
  have h2 := val_lt hO
  rw [hN] at h2
  rcases Nat.eq_zero_or_pos x with h3 | h3
  · rw [h3] at h; omega
  · have := Nat.mul_le_mul_right (pw N) h3
    omega
set_option maxHeartbeats 2000000 in
set_option maxRecDepth 100000 in
theorem less_w (A0 A1 : Option Addr) (c0 c1 : Nat) (l0 l1 : List Int) (w : World) (hr0 : CU w A0 l0.length l0) (hr1 : CU w A1 l1.length l1) (hL0 : Lim l0) (hL1 : Lim l1) (hN0 : Norm l0) (hN1 : Norm l1) (hl0 : l0.length < 1000000) (hl1 : l1.length < 1000000) (hle : val l1 ≤ val l0) :
    Calls Tryd.prog 91 #[.slice A0 l0.length c0, .slice A1 l1.length c1] w (NumPost w (val l0 - val l1)) := by
  have HR0 := Aside0.mk hr0
  have HR1 := Aside0.mk hr1
  clear hr0 hr1
  have hmk : ∀ W : World, (Instr.makeSlice 22 (.int .i64 (l0.length : Int)) (.int .i64 (l0.length : Int))).run Tryd.prog W = .ok (.slice (some ⟨W.heap.size, 0, none⟩) l0.length l0.length) (W.alloc (.cells (madeCells #[.int .u32 0] l0.length) 54)) := fun W => make_u l0.length (by omega) W
  have HA0 : ∀ (k : Nat) (wr : World), k ≤ l0.length → Below w.heap.size w wr → Calls Tryd.prog 89 #[.slice A0 l0.length c0, .int .i64 (k : Int)] wr fun e w' => e = .returned (.int .u64 (lm l0 k : Int)) ∧ wr = w' := fun k wr hk hB => rat_w A0 c0 l0 k wr (CU_below HR0.out hB) hL0 (by omega) (by omega)
  have HA1 : ∀ (k : Nat) (wr : World), k ≤ l0.length → Below w.heap.size w wr → Calls Tryd.prog 89 #[.slice A1 l1.length c1, .int .i64 (k : Int)] wr fun e w' => e = .returned (.int .u64 (lm l1 k : Int)) ∧ wr = w' := fun k wr hk hB => rat_w A1 c1 l1 k wr (CU_below HR1.out hB) hL1 (by omega) (by omega)
  have HA0 := Aside0.mk HA0
  have HA1 := Aside0.mk HA1
  have HLE := Aside0.mk hle
  clear hle
  obtain ⟨w0, hw0⟩ : ∃ w0 : World, w0 = w := ⟨_, rfl⟩
  have HM : RU (w.alloc (.cells (madeCells #[.int .u32 0] l0.length) 54)) w.heap.size (.slice (some ⟨w0.heap.size, 0, none⟩) l0.length l0.length) (List.replicate l0.length 0) := by rw [hw0]; exact RU_made w l0.length (by omega)
  have HM := Aside0.mk HM
  have HBS := Aside0.mk (below_alloc (Below.refl w.heap.size w) (.cells (madeCells #[.int .u32 0] l0.length) 54))
  have HGE : w.heap.size ≤ w0.heap.size := by rw [hw0]; exact Nat.le_refl _
  have HGE := Aside0.mk HGE
  go_enter Tryd.func91, Tryd.ntmps91
  go_wp2_with fail
  rw [show (⟨w.heap.size, 0, none⟩ : Addr) = ⟨w0.heap.size, 0, none⟩ from by rw [hw0]]
  clear hw0
  go_loopw [6, 7] (fun c i wr => ∃ (k x : Nat) (o : List Int), k ≤ l0.length ∧ i = .int .i64 (k : Int) ∧ c = .int .u64 (x : Int) ∧ x ≤ 1 ∧ Aside0 (o.length = l0.length ∧ Lim o ∧ val (o.take k) + val (l1.take k) = val (l0.take k) + x * pw k ∧ RU wr w.heap.size (.slice (some ⟨w0.heap.size, 0, none⟩) l0.length l0.length) o) ∧ Aside0 (Below w.heap.size w wr)) (fun _ i _ => l0.length - (intOf i).toNat)
  case atStart => exact ⟨0, 0, List.replicate l0.length 0, Nat.zero_le _, rfl, rfl, by omega, ⟨by simp, Lim.replicate _, by simp [val], HM.out⟩, ⟨HBS.out⟩⟩
  case round =>
    obtain ⟨k, x, o, hk, rfl, rfl, hx, HO, HB⟩ := hrel
    by_cases hkN : k < l0.length
    · have hc := RU_at HO.out.2.2.2 HO.out.1 k hkN
      obtain ⟨hc1, hc2⟩ := hc
      have ha := lm_lt hL0 k
      have hb := lm_lt hL1 k
      go_wp2_with fail
      refine (HA0.out k _ (by omega) HB.out).mono ?_
      rintro e w1 ⟨rfl, rfl⟩
      go_wp2_with fail
      refine (HA1.out k _ (by omega) HB.out).mono ?_
      rintro e w1 ⟨rfl, rfl⟩
      generalize hA : lm l0 k = a at ha ⊢
      generalize hBb : lm l1 k = b at hb ⊢
      have HAe := Aside0.mk hA
      have HBe := Aside0.mk hBb
      have hdw := dif_wrap ha hb hx
      obtain ⟨D, hD⟩ : ∃ D, D = dif a b x := ⟨_, rfl⟩
      rw [← hD] at hdw
      have hDlt : D < 18446744073709551616 := by rw [hD]; exact dif_lt _ _ _
      have hDe := dif_low hD ha hb hx
      have HDE := Aside0.mk hDe.1
      have hDy := hDe.2
      clear hA hBb hD hDe
      go_wp2_with fail
      go_roundw
      case rel => exact ⟨k + 1, D / 9223372036854775808, o.set k ((D % 4294967296 : Nat) : Int), by omega, by go_num, by go_num, hDy, ⟨by rw [List.length_set]; exact HO.out.1, HO.out.2.1.set k (by omega) (by omega), by rw [val_take_succ l0, val_take_succ l1, HAe.out, HBe.out]; exact sub_step HO.out.1 hkN HDE.out HO.out.2.2.1, by have := RU_set HO.out.2.2.2 HO.out.1 k ((D % 4294967296 : Nat) : Int); simpa using this⟩, ⟨below_set HB.out (HGE.out) _ _⟩⟩
      case measure => simp [intOf]; omega
    · have hk2 : k = l0.length := by omega
      have HK := Aside0.mk hk2
      subst hk2
      have HC := trim_own HO.out.2.2.2 HO.out.1 HO.out.2.1 (by omega) HB.out
      have HC := Aside0.mk HC
      have hv : val o = val l0 - val l1 := sub_end HO.out.1 rfl HO.out.2.1 hL0 hL1 hN1 HLE.out HO.out.2.2.1
      have HV := Aside0.mk hv
      clear hv
      go_wp2_with fail
      refine HC.out.mono ?_
      rintro e w1 ⟨v, rfl, hR1, hB1⟩
      have HR2 := Aside0.mk hR1
      have HB2 := Aside0.mk hB1
      clear hR1 hB1
      go_wp2_with fail
      go_ret
      exact ⟨_, rfl, by rw [← HV.out]; exact HR2.out, HB2.out⟩
def SubPost (w : World) (a b : Nat) (e : Ending) (w' : World) : Prop := ∃ v, e = .returned (.tuple #[v, .int .i64 (if a < b then 1 else 0)]) ∧ RU w' w.heap.size v (digs (a - b)) ∧ Below w.heap.size w w'
theorem sub_less {w w' : World} {a b : Nat} (h : a < b) (hB : Below w.heap.size w w') : SubPost w a b (.returned (.tuple #[.slice none 0 0, .int .i64 1])) w' :=
  ⟨_, by rw [if_pos h], by rw [Nat.sub_eq_zero_of_le (by omega), digs_zero]; exact Kd.R_nil _ _ _ _ _, hB⟩
theorem sub_more {w w' : World} {a b : Nat} {v : Value} (h : ¬ a < b) (hR : RU w' w.heap.size v (digs (a - b))) (hB : Below w.heap.size w w') : SubPost w a b (.returned (.tuple #[v, .int .i64 0])) w' :=
  ⟨_, by rw [if_neg h], hR, hB⟩
set_option maxHeartbeats 2000000 in
set_option maxRecDepth 100000 in
theorem rsub_w (A0 A1 : Option Addr) (c0 c1 : Nat) (l0 l1 : List Int) (w : World) (hr0 : CU w A0 l0.length l0) (hr1 : CU w A1 l1.length l1) (hL0 : Lim l0) (hL1 : Lim l1) (hN0 : Norm l0) (hN1 : Norm l1) (hl0 : l0.length < 1000000) (hl1 : l1.length < 1000000) :
    Calls Tryd.prog 42 #[.slice A0 l0.length c0, .slice A1 l1.length c1] w (SubPost w (val l0) (val l1)) := by
  have HR0 := Aside0.mk hr0
  have HR1 := Aside0.mk hr1
  have HC := Aside0.mk (rcmp_w A0 A1 c0 c1 l0 l1 w hr0 hr1 hL0 hL1 hN0 hN1 hl0 hl1)
  clear hr0 hr1
  by_cases hle : val l1 ≤ val l0
  · have hz : 0 ≤ cmpZ (val l0) (val l1) := by
      rcases Nat.lt_or_ge (val l1) (val l0) with h | h
      · rw [cmpZ_gt h]; omega
      · rw [cmpZ_eq (by omega)]; omega
    obtain ⟨z, hzz⟩ : ∃ z, z = cmpZ (val l0) (val l1) := ⟨_, rfl⟩
    rw [← hzz] at HC hz
    clear hzz
    have HLE := Aside0.mk hle
    clear hle
    go_enter Tryd.func42, Tryd.ntmps42
    go_wp2_with fail
    refine HC.out.mono ?_
    rintro e w1 ⟨rfl, hB1⟩
    have HB1 := Aside0.mk hB1
    clear hB1
    go_wp2_with fail
    refine (less_w A0 A1 c0 c1 l0 l1 _ (CU_below HR0.out HB1.out) (CU_below HR1.out HB1.out) hL0 hL1 hN0 hN1 hl0 hl1 HLE.out).mono ?_
    rintro e w2 ⟨v, rfl, hR2, hB2⟩
    have HR2 := Aside0.mk hR2
    have HB2 := Aside0.mk hB2
    clear hR2 hB2
    go_wp2_with fail
    go_ret2
    exact sub_more (by have := HLE.out; omega) (RU_lower HR2.out HB1.out.size) (HB1.out.trans (HB2.out.mono HB1.out.size))
  · have hz : cmpZ (val l0) (val l1) < 0 := by rw [cmpZ_lt (by omega)]; omega
    obtain ⟨z, hzz⟩ : ∃ z, z = cmpZ (val l0) (val l1) := ⟨_, rfl⟩
    rw [← hzz] at HC hz
    clear hzz
    have HLE := Aside0.mk hle
    clear hle
    go_enter Tryd.func42, Tryd.ntmps42
    go_wp2_with fail
    refine HC.out.mono ?_
    rintro e w1 ⟨rfl, hB1⟩
    have HB1 := Aside0.mk hB1
    clear hB1
    go_wp2_with fail
    go_ret2
    exact sub_less (by have := HLE.out; omega) HB1.out
set_option maxHeartbeats 2000000 in
set_option maxRecDepth 100000 in
theorem sub_w (A0 A1 : Option Addr) (c0 c1 : Nat) (l0 l1 : List Int) (w : World) (hr0 : CU w A0 l0.length l0) (hr1 : CU w A1 l1.length l1) (hL0 : Lim l0) (hL1 : Lim l1) (hN0 : Norm l0) (hN1 : Norm l1) (hl0 : l0.length < 1000000) (hl1 : l1.length < 1000000) :
    Calls Tryd.prog 38 #[.slice A0 l0.length c0, .slice A1 l1.length c1] w (SubPost w (val l0) (val l1)) := by
  have HR0 := Aside0.mk hr0
  have HR1 := Aside0.mk hr1
  have HC := Aside0.mk (cmp_w A0 A1 c0 c1 l0 l1 w hr0 hr1 hL0 hL1 hN0 hN1 hl0 hl1)
  clear hr0 hr1
  by_cases hle : val l1 ≤ val l0
  · have hz : 0 ≤ cmpZ (val l0) (val l1) := by
      rcases Nat.lt_or_ge (val l1) (val l0) with h | h
      · rw [cmpZ_gt h]; omega
      · rw [cmpZ_eq (by omega)]; omega
    obtain ⟨z, hzz⟩ : ∃ z, z = cmpZ (val l0) (val l1) := ⟨_, rfl⟩
    rw [← hzz] at HC hz
    clear hzz
    have hmk : ∀ W : World, (Instr.makeSlice 22 (.int .i64 (l0.length : Int)) (.int .i64 (l0.length : Int))).run Tryd.prog W = .ok (.slice (some ⟨W.heap.size, 0, none⟩) l0.length l0.length) (W.alloc (.cells (madeCells #[.int .u32 0] l0.length) 54)) := fun W => make_u l0.length (by omega) W
    have HA0 : ∀ (k : Nat) (wr : World), k ≤ l0.length → Below w.heap.size w wr → Calls Tryd.prog 88 #[.slice A0 l0.length c0, .int .i64 (k : Int)] wr fun e w' => e = .returned (.int .u64 (lm l0 k : Int)) ∧ wr = w' := fun k wr hk hB => at_w A0 c0 l0 k wr (CU_below HR0.out hB) hL0 (by omega) (by omega)
    have HA1 : ∀ (k : Nat) (wr : World), k ≤ l0.length → Below w.heap.size w wr → Calls Tryd.prog 88 #[.slice A1 l1.length c1, .int .i64 (k : Int)] wr fun e w' => e = .returned (.int .u64 (lm l1 k : Int)) ∧ wr = w' := fun k wr hk hB => at_w A1 c1 l1 k wr (CU_below HR1.out hB) hL1 (by omega) (by omega)
    have HA0 := Aside0.mk HA0
    have HA1 := Aside0.mk HA1
    have HLE := Aside0.mk hle
    clear hle
    go_enter Tryd.func38, Tryd.ntmps38
    go_wp2_with fail
    refine HC.out.mono ?_
    rintro e w1 ⟨rfl, hB1⟩
    have HB1 := Aside0.mk hB1
    have HM : RU (w1.alloc (.cells (madeCells #[.int .u32 0] l0.length) 54)) w.heap.size (.slice (some ⟨w1.heap.size, 0, none⟩) l0.length l0.length) (List.replicate l0.length 0) := RU_lower (RU_made w1 l0.length (by omega)) hB1.size
    have HM := Aside0.mk HM
    have HBS := Aside0.mk (hB1.alloc hB1.size (.cells (madeCells #[.int .u32 0] l0.length) 54))
    have HGE := Aside0.mk hB1.size
    clear hB1
    go_wp2_with fail
    go_loopw [7, 19] (fun c i wr => ∃ (k x : Nat) (o : List Int), k ≤ l0.length ∧ i = .int .i64 (k : Int) ∧ c = .int .u64 (x : Int) ∧ x ≤ 1 ∧ Aside0 (o.length = l0.length ∧ Lim o ∧ val (o.take k) + val (l1.take k) = val (l0.take k) + x * pw k ∧ RU wr w.heap.size (.slice (some ⟨w1.heap.size, 0, none⟩) l0.length l0.length) o) ∧ Aside0 (Below w.heap.size w wr)) (fun _ i _ => l0.length - (intOf i).toNat)
    case atStart => exact ⟨0, 0, List.replicate l0.length 0, Nat.zero_le _, rfl, rfl, by omega, ⟨by simp, Lim.replicate _, by simp [val], HM.out⟩, ⟨HBS.out⟩⟩
    case round =>
      obtain ⟨k, x, o, hk, rfl, rfl, hx, HO, HB⟩ := hrel
      by_cases hkN : k < l0.length
      · have hc := RU_at HO.out.2.2.2 HO.out.1 k hkN
        obtain ⟨hc1, hc2⟩ := hc
        have ha := lm_lt hL0 k
        have hb := lm_lt hL1 k
        go_wp2_with fail
        refine (HA0.out k _ (by omega) HB.out).mono ?_
        rintro e w2 ⟨rfl, rfl⟩
        go_wp2_with fail
        refine (HA1.out k _ (by omega) HB.out).mono ?_
        rintro e w2 ⟨rfl, rfl⟩
        generalize hA : lm l0 k = a at ha ⊢
        generalize hBb : lm l1 k = b at hb ⊢
        have HAe := Aside0.mk hA
        have HBe := Aside0.mk hBb
        have hdw := dif_wrap ha hb hx
        obtain ⟨D, hD⟩ : ∃ D, D = dif a b x := ⟨_, rfl⟩
        rw [← hD] at hdw
        have hDlt : D < 18446744073709551616 := by rw [hD]; exact dif_lt _ _ _
        have hDe := dif_low hD ha hb hx
        have HDE := Aside0.mk hDe.1
        have hDy := hDe.2
        clear hA hBb hD hDe
        go_wp2_with fail
        go_roundw
        case rel => exact ⟨k + 1, D / 9223372036854775808, o.set k ((D % 4294967296 : Nat) : Int), by omega, by go_num, by go_num, hDy, ⟨by rw [List.length_set]; exact HO.out.1, HO.out.2.1.set k (by omega) (by omega), by rw [val_take_succ l0, val_take_succ l1, HAe.out, HBe.out]; exact sub_step HO.out.1 hkN HDE.out HO.out.2.2.1, by have := RU_set HO.out.2.2.2 HO.out.1 k ((D % 4294967296 : Nat) : Int); simpa using this⟩, ⟨below_set HB.out (HGE.out) _ _⟩⟩
        case measure => simp [intOf]; omega
      · have hk2 : k = l0.length := by omega
        have HK := Aside0.mk hk2
        subst hk2
        have HC := cut_own HO.out.2.2.2 HO.out.1 HO.out.2.1 (by omega) HB.out
        have HC := Aside0.mk HC
        have hv : val o = val l0 - val l1 := sub_end HO.out.1 rfl HO.out.2.1 hL0 hL1 hN1 HLE.out HO.out.2.2.1
        have HV := Aside0.mk hv
        clear hv
        go_wp2_with fail
        refine HC.out.mono ?_
        rintro e w2 ⟨v, rfl, hR1, hB1⟩
        have HR2 := Aside0.mk hR1
        have HB2 := Aside0.mk hB1
        clear hR1 hB1
        go_wp2_with fail
        go_ret2
        exact sub_more (by have := HLE.out; omega) (by rw [← HV.out]; exact HR2.out) HB2.out
  · have hz : cmpZ (val l0) (val l1) < 0 := by rw [cmpZ_lt (by omega)]; omega
    obtain ⟨z, hzz⟩ : ∃ z, z = cmpZ (val l0) (val l1) := ⟨_, rfl⟩
    rw [← hzz] at HC hz
    clear hzz
    have HLE := Aside0.mk hle
    clear hle
    go_enter Tryd.func38, Tryd.ntmps38
    go_wp2_with fail
    refine HC.out.mono ?_
    rintro e w1 ⟨rfl, hB1⟩
    have HB1 := Aside0.mk hB1
    clear hB1
    go_wp2_with fail
    go_ret2
    exact sub_less (by have := HLE.out; omega) HB1.out
end Go.Proofs.YtklhpobphloehaaDoor.G
