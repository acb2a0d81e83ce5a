/- Contracts by hand: nat.at, nat.Add: the sum's limbs. -/
import Derived.Test.YtklhpobphloehaaDoorG1
set_option linter.unusedVariables false
namespace Go.Proofs.YtklhpobphloehaaDoor.G
open Go.RowKit Go.Proofs.YtklhpobphloehaaDoorW.PrintWords Go.Proofs.YtklhpobphloehaaDoorW.PrintLast Go.Proofs.YtklhpobphloehaaDoor.Nn

set_option maxHeartbeats 1000000 in
set_option maxRecDepth 100000 in
theorem at_w (A : Option Addr) (c : Nat) (l : List Int) (i : Nat) (w : World) (hr : CU w A l.length l) (hL : Lim l) (hl : l.length ≤ 35184372088832) (hi : i ≤ 70368744177664) :
    Calls Tryd.prog 88 #[.slice A l.length c, .int .i64 (i : Int)] w fun e w' => e = .returned (.int .u64 (lm l i : Int)) ∧ w = w' := by
  have HR := Aside0.mk hr
  clear hr
  by_cases h : i < l.length
  · obtain ⟨ad, e, hcell⟩ := CU_at HR.out i h
    subst e
    rw [lm_cast hL] at hcell
    have hlt := lm_lt hL i
    obtain ⟨x, hx⟩ : ∃ x, x = lm l i := ⟨_, rfl⟩
    rw [← hx] at hcell hlt ⊢
    clear hx
    go_enter Tryd.func88, Tryd.ntmps88
    go_wp2
    go_ret
    exact ⟨rfl, rfl⟩
  · rw [lm_out i (by omega)]
    go_enter Tryd.func88, Tryd.ntmps88
    go_wp2
    go_ret
    exact ⟨rfl, rfl⟩
set_option maxHeartbeats 1000000 in
set_option maxRecDepth 100000 in
theorem at_w_neg (A : Option Addr) (c : Nat) (l : List Int) (i : Int) (w : World) (hi : i < 0) :
    Calls Tryd.prog 88 #[.slice A l.length c, .int .i64 i] w fun e w' => e = .returned (.int .u64 0) ∧ w = w' := by
  go_enter Tryd.func88, Tryd.ntmps88
  go_wp2
  go_ret
  exact ⟨rfl, rfl⟩

def NumPost (w : World) (n : Nat) (e : Ending) (w' : World) : Prop := ∃ v, e = .returned v ∧ RU w' w.heap.size v (digs n) ∧ Below w.heap.size w w'
/-- A call of cut, on limbs of the call's own. -/
theorem cut_own {w wr : World} {g n cap : Nat} {l : List Int} (hR : RU wr w.heap.size (.slice (some ⟨g, 0, none⟩) n cap) l) (hn : l.length = n) (hL : Lim l) (hl : n ≤ 35184372088832) (hB : Below w.heap.size w wr) :
    Calls Tryd.prog 86 #[.slice (some ⟨g, 0, none⟩) n cap] wr fun e w' => ∃ v, e = .returned v ∧ RU w' w.heap.size v (digs (val l)) ∧ Below w.heap.size w w' := by
  subst hn
  obtain ⟨A, c, e, hc, hC⟩ := RU_slice hR
  cases e
  refine (cut_w _ _ l wr hC hc hl).mono ?_
  rintro e w' ⟨v, rfl, hR', hB'⟩
  rw [strip_eq hL] at hR'
  exact ⟨v, rfl, RU_lower hR' hB.size, hB.trans (hB'.mono hB.size)⟩
theorem below_set {B : Nat} {w wr : World} (h : Below B w wr) {g : Nat} (hg : B ≤ g) (i : Nat) (u : Value) : Below B w (wr.setCell ⟨g, i, none⟩ u) := h.setCell hg u

/-- One place of a sum. -/
theorem add_step {o : List Int} {N k x a b va vb : Nat} (hN : o.length = N) (hk : k < N) (h : val (o.take k) + x * pw k = va + vb) :
    val ((o.set k (((x + (a + b)) % 4294967296 : Nat) : Int)).take (k + 1)) + (x + (a + b)) / 4294967296 * pw (k + 1) = (va + pw k * a) + (vb + pw k * b) := by
  rw [val_take_succ, List.take_set, List.set_eq_of_length_le (by rw [List.length_take]; omega)]
  have e : lm (o.set k (((x + (a + b)) % 4294967296 : Nat) : Int)) k = (x + (a + b)) % 4294967296 := by
    unfold lm
    rw [List.getD_eq_getElem?_getD, List.getElem?_set_self (by omega)]
    simp
    omega
  rw [e, pw_succ]
  have h1 : pw k * ((x + (a + b)) % 4294967296) + (x + (a + b)) / 4294967296 * (4294967296 * pw k) = pw k * (x + (a + b)) := by
    rw [← Nat.mul_assoc, Nat.mul_comm _ (pw k), ← Nat.mul_add]
    congr 1
    omega
  rw [Nat.mul_add, Nat.mul_add, Nat.mul_comm (pw k) x] at h1
  omega

set_option maxHeartbeats 2000000 in
set_option maxRecDepth 100000 in
theorem add_w (A0 A1 : Option Addr) (c0 c1 : Nat) (l0 l1 : List Int) (w : World) (hr0 : CU w A0 l0.length l0) (hr1 : CU w A1 l1.length l1) (hL0 : Lim l0) (hL1 : Lim l1) (hl0 : l0.length < 1000000) (hl1 : l1.length < 1000000) :
    Calls Tryd.prog 37 #[.slice A0 l0.length c0, .slice A1 l1.length c1] w (NumPost w (val l0 + val l1)) := by
  have HR0 := Aside0.mk hr0
  have HR1 := Aside0.mk hr1
  clear hr0 hr1
  obtain ⟨N, hN⟩ : ∃ N, N = max l0.length l1.length + 1 := ⟨_, rfl⟩
  have hN0 : l0.length < N := by omega
  have hN1 : l1.length < N := by omega
  have hNb : N ≤ 1000000 := by omega
  have hmk : ∀ M : Nat, M + 1 = N → ∀ W : World, (Instr.makeSlice 22 (.int .i64 ((M : Int) + 1)) (.int .i64 ((M : Int) + 1))).run Tryd.prog W = .ok (.slice (some ⟨W.heap.size, 0, none⟩) N N) (W.alloc (.cells (madeCells #[.int .u32 0] N) 54)) := fun M h W => by
    subst h; exact make_u (M + 1) (by omega) W
  have HA0 : ∀ (k : Nat) (wr : World), k ≤ N → Below w.heap.size w wr → Calls Tryd.prog 88 #[.slice A0 l0.length c0, .int .i64 (k : Int)] wr fun e w' => e = .returned (.int .u64 (lm l0 k : Int)) ∧ wr = w' := fun k wr hk hB => at_w A0 c0 l0 k wr (CU_below HR0.out hB) hL0 (by omega) (by omega)
  have HA1 : ∀ (k : Nat) (wr : World), k ≤ N → Below w.heap.size w wr → Calls Tryd.prog 88 #[.slice A1 l1.length c1, .int .i64 (k : Int)] wr fun e w' => e = .returned (.int .u64 (lm l1 k : Int)) ∧ wr = w' := fun k wr hk hB => at_w A1 c1 l1 k wr (CU_below HR1.out hB) hL1 (by omega) (by omega)
  have HA0 := Aside0.mk HA0
  have HA1 := Aside0.mk HA1
  have HM := RU_made w N (by omega)
  have HM := Aside0.mk HM
  have HE : (val l0 + val l1) < pw N := by
    have h0 := val_lt hL0
    have h1 := val_lt hL1
    have h2 : pw N = 4294967296 * pw (max l0.length l1.length) := by rw [hN, pw_succ]
    have h3 := pw_le (Nat.le_max_left l0.length l1.length)
    have h4 := pw_le (Nat.le_max_right l0.length l1.length)
    omega
  have HE := Aside0.mk HE
  by_cases hlt : l0.length < l1.length
  · have hmk := hmk l1.length (by omega)
    clear hN
    go_enter Tryd.func37, Tryd.ntmps37
    go_wp2_with fail
    go_loopw [6, 17] (fun c i wr => ∃ (k x : Nat) (o : List Int), k ≤ N ∧ i = .int .i64 (k : Int) ∧ c = .int .u64 (x : Int) ∧ x ≤ 1 ∧ Aside0 (o.length = N ∧ Lim o ∧ val (o.take k) + x * pw k = val (l0.take k) + val (l1.take k) ∧ RU wr w.heap.size (.slice (some ⟨w.heap.size, 0, none⟩) N N) o) ∧ Aside0 (Below w.heap.size w wr)) (fun _ i _ => N - (intOf i).toNat)
    case atStart => exact ⟨0, 0, List.replicate N 0, Nat.zero_le _, rfl, rfl, by omega, ⟨by simp, Lim.replicate N, by simp [val], HM.out⟩, ⟨below_alloc (Below.refl _ _) _⟩⟩
    case round =>
      obtain ⟨k, x, o, hk, rfl, rfl, hx, HO, HB⟩ := hrel
      by_cases hkN : k < N
      · have hc := RU_at HO.out.2.2.2 HO.out.1 k hkN
        obtain ⟨hc1, hc2⟩ := hc
        have ha := lm_lt hL0 k
        have hb := lm_lt hL1 k
        go_wp2_with fail
        refine (HA0.out k _ hk HB.out).mono ?_
        rintro e w1 ⟨rfl, rfl⟩
        go_wp2_with fail
        refine (HA1.out k _ hk HB.out).mono ?_
        rintro e w1 ⟨rfl, rfl⟩
        generalize hA : lm l0 k = a at ha ⊢
        generalize hBb : lm l1 k = b at hb ⊢
        have HAe := Aside0.mk hA
        have HBe := Aside0.mk hBb
        clear hA hBb
        go_wp2_with fail
        go_roundw
        case rel => exact ⟨k + 1, (x + (a + b)) / 4294967296, o.set k (((x + (a + b)) % 4294967296 : Nat) : Int), by omega, by go_num, by go_num, by omega, ⟨by rw [List.length_set]; exact HO.out.1, HO.out.2.1.set k (by omega) (by omega), by rw [val_take_succ l0, val_take_succ l1, HAe.out, HBe.out]; exact add_step HO.out.1 hkN HO.out.2.2.1, by have := RU_set HO.out.2.2.2 HO.out.1 k (((x + (a + b)) % 4294967296 : Nat) : Int); simpa using this⟩, ⟨below_set HB.out (Nat.le_refl _) _ _⟩⟩
        case measure => simp [intOf]; omega
      · have hk2 : k = N := by omega
        subst hk2
        have HC := cut_own HO.out.2.2.2 HO.out.1 HO.out.2.1 (by omega) HB.out
        have HC := Aside0.mk HC
        have hv : val o = val l0 + val l1 := by
          have h := HO.out.2.2.1
          rw [List.take_of_length_le (by rw [HO.out.1]; exact Nat.le_refl _), List.take_of_length_le (by omega), List.take_of_length_le (by omega)] at h
          have h2 := HE.out
          rcases Nat.eq_zero_or_pos x with h0 | h0
          · rw [h0] at h; omega
          · obtain rfl : x = 1 := by omega
            omega
        have HV := Aside0.mk hv
        clear hv
        go_wp2_with fail
        refine HC.out.mono ?_
        rintro e w1 ⟨v, rfl, hR1, hB1⟩
        have HR2 := Aside0.mk hR1
        have HB2 := Aside0.mk hB1
        clear hR1 hB1
        go_wp2_with fail
        go_ret
        exact ⟨_, rfl, by rw [← HV.out]; exact HR2.out, HB2.out⟩
  · have hmk := hmk l0.length (by omega)
    clear hN
    go_enter Tryd.func37, Tryd.ntmps37
    go_wp2_with fail
    go_loopw [6, 17] (fun c i wr => ∃ (k x : Nat) (o : List Int), k ≤ N ∧ i = .int .i64 (k : Int) ∧ c = .int .u64 (x : Int) ∧ x ≤ 1 ∧ Aside0 (o.length = N ∧ Lim o ∧ val (o.take k) + x * pw k = val (l0.take k) + val (l1.take k) ∧ RU wr w.heap.size (.slice (some ⟨w.heap.size, 0, none⟩) N N) o) ∧ Aside0 (Below w.heap.size w wr)) (fun _ i _ => N - (intOf i).toNat)
    case atStart => exact ⟨0, 0, List.replicate N 0, Nat.zero_le _, rfl, rfl, by omega, ⟨by simp, Lim.replicate N, by simp [val], HM.out⟩, ⟨below_alloc (Below.refl _ _) _⟩⟩
    case round =>
      obtain ⟨k, x, o, hk, rfl, rfl, hx, HO, HB⟩ := hrel
      by_cases hkN : k < N
      · have hc := RU_at HO.out.2.2.2 HO.out.1 k hkN
        obtain ⟨hc1, hc2⟩ := hc
        have ha := lm_lt hL0 k
        have hb := lm_lt hL1 k
        go_wp2_with fail
        refine (HA0.out k _ hk HB.out).mono ?_
        rintro e w1 ⟨rfl, rfl⟩
        go_wp2_with fail
        refine (HA1.out k _ hk HB.out).mono ?_
        rintro e w1 ⟨rfl, rfl⟩
        generalize hA : lm l0 k = a at ha ⊢
        generalize hBb : lm l1 k = b at hb ⊢
        have HAe := Aside0.mk hA
        have HBe := Aside0.mk hBb
        clear hA hBb
        go_wp2_with fail
        go_roundw
        case rel => exact ⟨k + 1, (x + (a + b)) / 4294967296, o.set k (((x + (a + b)) % 4294967296 : Nat) : Int), by omega, by go_num, by go_num, by omega, ⟨by rw [List.length_set]; exact HO.out.1, HO.out.2.1.set k (by omega) (by omega), by rw [val_take_succ l0, val_take_succ l1, HAe.out, HBe.out]; exact add_step HO.out.1 hkN HO.out.2.2.1, by have := RU_set HO.out.2.2.2 HO.out.1 k (((x + (a + b)) % 4294967296 : Nat) : Int); simpa using this⟩, ⟨below_set HB.out (Nat.le_refl _) _ _⟩⟩
        case measure => simp [intOf]; omega
      · have hk2 : k = N := by omega
        subst hk2
        have HC := cut_own HO.out.2.2.2 HO.out.1 HO.out.2.1 (by omega) HB.out
        have HC := Aside0.mk HC
        have hv : val o = val l0 + val l1 := by
          have h := HO.out.2.2.1
          rw [List.take_of_length_le (by rw [HO.out.1]; exact Nat.le_refl _), List.take_of_length_le (by omega), List.take_of_length_le (by omega)] at h
          have h2 := HE.out
          rcases Nat.eq_zero_or_pos x with h0 | h0
          · rw [h0] at h; omega
          · obtain rfl : x = 1 := by omega
            omega
        have HV := Aside0.mk hv
        clear hv
        go_wp2_with fail
        refine HC.out.mono ?_
        rintro e w1 ⟨v, rfl, hR1, hB1⟩
        have HR2 := Aside0.mk hR1
        have HB2 := Aside0.mk hB1
        clear hR1 hB1
        go_wp2_with fail
        go_ret
        exact ⟨_, rfl, by rw [← HV.out]; exact HR2.out, HB2.out⟩
/-- A call of trim, on limbs of the call's own. -/
theorem trim_own {w wr : World} {g n cap : Nat} {l : List Int} (hR : RU wr w.heap.size (.slice (some ⟨g, 0, none⟩) n cap) l) (hn : l.length = n) (hL : Lim l) (hl : n ≤ 35184372088832) (hB : Below w.heap.size w wr) :
    Calls Tryd.prog 87 #[.slice (some ⟨g, 0, none⟩) n cap] wr fun e w' => ∃ v, e = .returned v ∧ RU w' w.heap.size v (digs (val l)) ∧ Below w.heap.size w w' := by
  subst hn
  obtain ⟨A, c, e, hc, hC⟩ := RU_slice hR
  cases e
  refine (trim_w _ _ l wr hC hc hl).mono ?_
  rintro e w' ⟨v, rfl, hR', hB'⟩
  rw [strip_eq hL] at hR'
  exact ⟨v, rfl, RU_lower hR' hB.size, hB.trans (hB'.mono hB.size)⟩
set_option maxHeartbeats 1000000 in
set_option maxRecDepth 100000 in
theorem rat_w (A : Option Addr) (c : Nat) (l : List Int) (i : Nat) (w : World) (hr : CU w A l.length l) (hL : Lim l) (hl : l.length ≤ 35184372088832) (hi : i ≤ 70368744177664) :
    Calls Tryd.prog 89 #[.slice A l.length c, .int .i64 (i : Int)] w fun e w' => e = .returned (.int .u64 (lm l i : Int)) ∧ w = w' := by
  have HR := Aside0.mk hr
  clear hr
  by_cases h : i < l.length
  · obtain ⟨ad, e, hcell⟩ := CU_at HR.out i h
    subst e
    rw [lm_cast hL] at hcell
    have hlt := lm_lt hL i
    obtain ⟨x, hx⟩ : ∃ x, x = lm l i := ⟨_, rfl⟩
    rw [← hx] at hcell hlt ⊢
    clear hx
    go_enter Tryd.func89, Tryd.ntmps89
    go_wp2
    go_ret
    exact ⟨rfl, rfl⟩
  · rw [lm_out i (by omega)]
    go_enter Tryd.func89, Tryd.ntmps89
    go_wp2
    go_ret
    exact ⟨rfl, rfl⟩
theorem radd_step {o : List Int} {N k x a b va vb : Nat} (hN : o.length = N) (hk : k < N) (h : val (o.take k) + x * pw k = va + vb) :
    val ((o.set k (((x + a + b) % 4294967296 : Nat) : Int)).take (k + 1)) + (x + a + b) / 4294967296 * pw (k + 1) = (va + pw k * a) + (vb + pw k * b) := by
  rw [Nat.add_assoc x a b]
  exact add_step hN hk h
set_option maxHeartbeats 2000000 in
set_option maxRecDepth 100000 in
theorem radd_w (A0 A1 : Option Addr) (c0 c1 : Nat) (l0 l1 : List Int) (w : World) (hr0 : CU w A0 l0.length l0) (hr1 : CU w A1 l1.length l1) (hL0 : Lim l0) (hL1 : Lim l1) (hl0 : l0.length < 1000000) (hl1 : l1.length < 1000000) :
    Calls Tryd.prog 49 #[.slice A0 l0.length c0, .slice A1 l1.length c1] w (NumPost w (val l0 + val l1)) := by
  have HR0 := Aside0.mk hr0
  have HR1 := Aside0.mk hr1
  clear hr0 hr1
  obtain ⟨N, hN⟩ : ∃ N, N = max l0.length l1.length + 1 := ⟨_, rfl⟩
  have hN0 : l0.length < N := by omega
  have hN1 : l1.length < N := by omega
  have hNb : N ≤ 1000000 := by omega
  have hmk : ∀ M : Nat, M + 1 = N → ∀ W : World, (Instr.makeSlice 22 (.int .i64 ((M : Int) + 1)) (.int .i64 ((M : Int) + 1))).run Tryd.prog W = .ok (.slice (some ⟨W.heap.size, 0, none⟩) N N) (W.alloc (.cells (madeCells #[.int .u32 0] N) 54)) := fun M h W => by
    subst h; exact make_u (M + 1) (by omega) W
  have HA0 : ∀ (k : Nat) (wr : World), k ≤ N → Below w.heap.size w wr → Calls Tryd.prog 89 #[.slice A0 l0.length c0, .int .i64 (k : Int)] wr fun e w' => e = .returned (.int .u64 (lm l0 k : Int)) ∧ wr = w' := fun k wr hk hB => rat_w A0 c0 l0 k wr (CU_below HR0.out hB) hL0 (by omega) (by omega)
  have HA1 : ∀ (k : Nat) (wr : World), k ≤ N → Below w.heap.size w wr → Calls Tryd.prog 89 #[.slice A1 l1.length c1, .int .i64 (k : Int)] wr fun e w' => e = .returned (.int .u64 (lm l1 k : Int)) ∧ wr = w' := fun k wr hk hB => rat_w A1 c1 l1 k wr (CU_below HR1.out hB) hL1 (by omega) (by omega)
  have HA0 := Aside0.mk HA0
  have HA1 := Aside0.mk HA1
  have HM := RU_made w N (by omega)
  have HM := Aside0.mk HM
  have HE : (val l0 + val l1) < pw N := by
    have h0 := val_lt hL0
    have h1 := val_lt hL1
    have h2 : pw N = 4294967296 * pw (max l0.length l1.length) := by rw [hN, pw_succ]
    have h3 := pw_le (Nat.le_max_left l0.length l1.length)
    have h4 := pw_le (Nat.le_max_right l0.length l1.length)
    omega
  have HE := Aside0.mk HE
  by_cases hlt : l0.length < l1.length
  · have hmk := hmk l1.length (by omega)
    clear hN
    go_enter Tryd.func49, Tryd.ntmps49
    go_wp2_with fail
    go_loopw [6, 7] (fun c i wr => ∃ (k x : Nat) (o : List Int), k ≤ N ∧ i = .int .i64 (k : Int) ∧ c = .int .u64 (x : Int) ∧ x ≤ 1 ∧ Aside0 (o.length = N ∧ Lim o ∧ val (o.take k) + x * pw k = val (l0.take k) + val (l1.take k) ∧ RU wr w.heap.size (.slice (some ⟨w.heap.size, 0, none⟩) N N) o) ∧ Aside0 (Below w.heap.size w wr)) (fun _ i _ => N - (intOf i).toNat)
    case atStart => exact ⟨0, 0, List.replicate N 0, Nat.zero_le _, rfl, rfl, by omega, ⟨by simp, Lim.replicate N, by simp [val], HM.out⟩, ⟨below_alloc (Below.refl _ _) _⟩⟩
    case round =>
      obtain ⟨k, x, o, hk, rfl, rfl, hx, HO, HB⟩ := hrel
      by_cases hkN : k < N
      · have hc := RU_at HO.out.2.2.2 HO.out.1 k hkN
        obtain ⟨hc1, hc2⟩ := hc
        have ha := lm_lt hL0 k
        have hb := lm_lt hL1 k
        go_wp2_with fail
        refine (HA0.out k _ hk HB.out).mono ?_
        rintro e w1 ⟨rfl, rfl⟩
        go_wp2_with fail
        refine (HA1.out k _ hk HB.out).mono ?_
        rintro e w1 ⟨rfl, rfl⟩
        generalize hA : lm l0 k = a at ha ⊢
        generalize hBb : lm l1 k = b at hb ⊢
        have HAe := Aside0.mk hA
        have HBe := Aside0.mk hBb
        clear hA hBb
        go_wp2_with fail
        go_roundw
        case rel => exact ⟨k + 1, (x + a + b) / 4294967296, o.set k (((x + a + b) % 4294967296 : Nat) : Int), by omega, by go_num, by go_num, by omega, ⟨by rw [List.length_set]; exact HO.out.1, HO.out.2.1.set k (by omega) (by omega), by rw [val_take_succ l0, val_take_succ l1, HAe.out, HBe.out]; exact radd_step HO.out.1 hkN HO.out.2.2.1, by have := RU_set HO.out.2.2.2 HO.out.1 k (((x + a + b) % 4294967296 : Nat) : Int); simpa using this⟩, ⟨below_set HB.out (Nat.le_refl _) _ _⟩⟩
        case measure => simp [intOf]; omega
      · have hk2 : k = N := by omega
        subst hk2
        have HC := trim_own HO.out.2.2.2 HO.out.1 HO.out.2.1 (by omega) HB.out
        have HC := Aside0.mk HC
        have hv : val o = val l0 + val l1 := by
          have h := HO.out.2.2.1
          rw [List.take_of_length_le (by rw [HO.out.1]; exact Nat.le_refl _), List.take_of_length_le (by omega), List.take_of_length_le (by omega)] at h
          have h2 := HE.out
          rcases Nat.eq_zero_or_pos x with h0 | h0
          · rw [h0] at h; omega
          · obtain rfl : x = 1 := by omega
            omega
        have HV := Aside0.mk hv
        clear hv
        go_wp2_with fail
        refine HC.out.mono ?_
        rintro e w1 ⟨v, rfl, hR1, hB1⟩
        have HR2 := Aside0.mk hR1
        have HB2 := Aside0.mk hB1
        clear hR1 hB1
        go_wp2_with fail
        go_ret
        exact ⟨_, rfl, by rw [← HV.out]; exact HR2.out, HB2.out⟩
  · have hmk := hmk l0.length (by omega)
    clear hN
    go_enter Tryd.func49, Tryd.ntmps49
    go_wp2_with fail
    go_loopw [6, 7] (fun c i wr => ∃ (k x : Nat) (o : List Int), k ≤ N ∧ i = .int .i64 (k : Int) ∧ c = .int .u64 (x : Int) ∧ x ≤ 1 ∧ Aside0 (o.length = N ∧ Lim o ∧ val (o.take k) + x * pw k = val (l0.take k) + val (l1.take k) ∧ RU wr w.heap.size (.slice (some ⟨w.heap.size, 0, none⟩) N N) o) ∧ Aside0 (Below w.heap.size w wr)) (fun _ i _ => N - (intOf i).toNat)
    case atStart => exact ⟨0, 0, List.replicate N 0, Nat.zero_le _, rfl, rfl, by omega, ⟨by simp, Lim.replicate N, by simp [val], HM.out⟩, ⟨below_alloc (Below.refl _ _) _⟩⟩
    case round =>
      obtain ⟨k, x, o, hk, rfl, rfl, hx, HO, HB⟩ := hrel
      by_cases hkN : k < N
      · have hc := RU_at HO.out.2.2.2 HO.out.1 k hkN
        obtain ⟨hc1, hc2⟩ := hc
        have ha := lm_lt hL0 k
        have hb := lm_lt hL1 k
        go_wp2_with fail
        refine (HA0.out k _ hk HB.out).mono ?_
        rintro e w1 ⟨rfl, rfl⟩
        go_wp2_with fail
        refine (HA1.out k _ hk HB.out).mono ?_
        rintro e w1 ⟨rfl, rfl⟩
        generalize hA : lm l0 k = a at ha ⊢
        generalize hBb : lm l1 k = b at hb ⊢
        have HAe := Aside0.mk hA
        have HBe := Aside0.mk hBb
        clear hA hBb
        go_wp2_with fail
        go_roundw
        case rel => exact ⟨k + 1, (x + a + b) / 4294967296, o.set k (((x + a + b) % 4294967296 : Nat) : Int), by omega, by go_num, by go_num, by omega, ⟨by rw [List.length_set]; exact HO.out.1, HO.out.2.1.set k (by omega) (by omega), by rw [val_take_succ l0, val_take_succ l1, HAe.out, HBe.out]; exact radd_step HO.out.1 hkN HO.out.2.2.1, by have := RU_set HO.out.2.2.2 HO.out.1 k (((x + a + b) % 4294967296 : Nat) : Int); simpa using this⟩, ⟨below_set HB.out (Nat.le_refl _) _ _⟩⟩
        case measure => simp [intOf]; omega
      · have hk2 : k = N := by omega
        subst hk2
        have HC := trim_own HO.out.2.2.2 HO.out.1 HO.out.2.1 (by omega) HB.out
        have HC := Aside0.mk HC
        have hv : val o = val l0 + val l1 := by
          have h := HO.out.2.2.1
          rw [List.take_of_length_le (by rw [HO.out.1]; exact Nat.le_refl _), List.take_of_length_le (by omega), List.take_of_length_le (by omega)] at h
          have h2 := HE.out
          rcases Nat.eq_zero_or_pos x with h0 | h0
          · rw [h0] at h; omega
          · obtain rfl : x = 1 := by omega
            omega
        have HV := Aside0.mk hv
        clear hv
        go_wp2_with fail
        refine HC.out.mono ?_
        rintro e w1 ⟨v, rfl, hR1, hB1⟩
        have HR2 := Aside0.mk hR1
        have HB2 := Aside0.mk hB1
        clear hR1 hB1
        go_wp2_with fail
        go_ret
        exact ⟨_, rfl, by rw [← HV.out]; exact HR2.out, HB2.out⟩
end Go.Proofs.YtklhpobphloehaaDoor.G
