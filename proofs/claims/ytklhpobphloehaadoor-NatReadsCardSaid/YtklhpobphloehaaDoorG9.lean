/- Contracts by hand: Of, Right, the law's Make, Same, within. -/
import Derived.Test.YtklhpobphloehaaDoorG4
set_option linter.unusedVariables false
namespace Go.Proofs.YtklhpobphloehaaDoor.G
open Go.RowKit Go.Proofs.YtklhpobphloehaaDoorW.PrintWords Go.Proofs.YtklhpobphloehaaDoorW.PrintLast Go.Proofs.YtklhpobphloehaaDoor.Nn

theorem val_two (v : Nat) (hv : v < 18446744073709551616) : val [((v % 4294967296 : Nat) : Int), ((v / 4294967296 : Nat) : Int)] = v := by
  simp only [val]
  omega
theorem lim_two (v : Nat) (hv : v < 18446744073709551616) : Lim [((v % 4294967296 : Nat) : Int), ((v / 4294967296 : Nat) : Int)] :=
  Lim.cons (by omega) (by omega) (Lim.cons (by omega) (by omega) Lim.nil)
theorem RU_two (w : World) (a b : Int) : RU (w.alloc (.cells #[.int .u32 a, .int .u32 b] 54)) w.heap.size (.slice (some ⟨w.heap.size, 0, none⟩) 2 2) [a, b] := by
  have h := own_lit w w.heap.size 54 .u32 [a, b] (Nat.le_refl _) (by simp)
  exact RU_own h
set_option maxHeartbeats 2000000 in
set_option maxRecDepth 100000 in
theorem of_w (v : Nat) (w : World) (hv : v < 18446744073709551616) : Calls Tryd.prog 45 #[.int .u64 (v : Int)] w (NumPost w v) := by
  obtain ⟨a, ha⟩ : ∃ a, a = v % 4294967296 := ⟨_, rfl⟩
  obtain ⟨b, hb⟩ : ∃ b, b = v / 4294967296 := ⟨_, rfl⟩
  have hE : val [(a : Int), (b : Int)] = v := by rw [ha, hb]; exact val_two v hv
  have hLm : Lim [(a : Int), (b : Int)] := by rw [ha, hb]; exact lim_two v hv
  have HC := Aside0.mk (cut_own (RU_two w (a : Int) (b : Int)) rfl hLm (by omega) (below_alloc (Below.refl _ _) _))
  have HV := Aside0.mk hE
  have h1 : (v : Int) % 4294967296 = (a : Int) := by omega
  have h2 : (v : Int) / 4294967296 = (b : Int) := by omega
  have h3 : b < 4294967296 := by omega
  clear ha hb hE hv hLm
  go_enter Tryd.func45, Tryd.ntmps45
  go_wp2_with fail
  refine HC.out.mono ?_
  rintro e w1 ⟨v1, rfl, hR1, hB1⟩
  have HR2 := Aside0.mk hR1
  have HB2 := Aside0.mk hB1
  clear hR1 hB1
  go_wp2_with fail
  go_ret
  exact ⟨_, rfl, by have := HR2.out; rwa [HV.out] at this, HB2.out⟩
set_option maxHeartbeats 2000000 in
set_option maxRecDepth 100000 in
theorem rof_w (v : Nat) (w : World) (hv : v < 18446744073709551616) : Calls Tryd.prog 46 #[.int .u64 (v : Int)] w (NumPost w v) := by
  obtain ⟨a, ha⟩ : ∃ a, a = v % 4294967296 := ⟨_, rfl⟩
  obtain ⟨b, hb⟩ : ∃ b, b = v / 4294967296 := ⟨_, rfl⟩
  have hE : val [(a : Int), (b : Int)] = v := by rw [ha, hb]; exact val_two v hv
  have hLm : Lim [(a : Int), (b : Int)] := by rw [ha, hb]; exact lim_two v hv
  have HC := Aside0.mk (trim_own (RU_two w (a : Int) (b : Int)) rfl hLm (by omega) (below_alloc (Below.refl _ _) _))
  have HV := Aside0.mk hE
  have h1 : (v : Int) % 4294967296 = (a : Int) := by omega
  have h2 : (v : Int) / 4294967296 = (b : Int) := by omega
  have h3 : b < 4294967296 := by omega
  clear ha hb hE hv hLm
  go_enter Tryd.func46, Tryd.ntmps46
  go_wp2_with fail
  refine HC.out.mono ?_
  rintro e w1 ⟨v1, rfl, hR1, hB1⟩
  have HR2 := Aside0.mk hR1
  have HB2 := Aside0.mk hB1
  clear hR1 hB1
  go_wp2_with fail
  go_ret
  exact ⟨_, rfl, by have := HR2.out; rwa [HV.out] at this, HB2.out⟩

def rightB (l : List Int) : Bool := l.isEmpty || l.getD (l.length - 1) 0 != 0
theorem rightB_norm {l : List Int} (h : Norm l) : rightB l = true := by
  unfold rightB
  cases l with
  | nil => rfl
  | cons x xs =>
    unfold Norm at h
    have : (x :: xs).getD ((x :: xs).length - 1) 1 = (x :: xs).getD ((x :: xs).length - 1) 0 := by
      rw [List.getD_eq_getElem?_getD, List.getD_eq_getElem?_getD, List.getElem?_eq_getElem (by simp)]
      rfl
    rw [this] at h
    rw [bne_iff_ne.2 h, Bool.or_true]
set_option maxHeartbeats 2000000 in
set_option maxRecDepth 100000 in
theorem right_w (A : Option Addr) (c : Nat) (l : List Int) (w : World) (hr : CU w A l.length l) : Calls Tryd.prog 47 #[.slice A l.length c] w fun e w' => e = .returned (.bool (rightB l)) ∧ w = w' := by
  have HR := Aside0.mk hr
  have hm : l.length ≤ 9223372036854775807 := hr.2.1
  clear hr
  rcases Nat.eq_zero_or_pos l.length with h0 | h0
  · obtain rfl := List.eq_nil_of_length_eq_zero h0
    rw [List.length_nil] at HR ⊢
    go_enter Tryd.func47, Tryd.ntmps47
    go_wp2_with fail
    go_ret
    exact ⟨rfl, rfl⟩
  · obtain ⟨ad, e, hcell⟩ := CU_at HR.out (l.length - 1) (by omega)
    subst e
    have hb1 : ((l.length : Int) == 0) = false := by rw [beq_eq_false_iff_ne]; omega
    have hb2 : (l.length == 0) = false := by rw [beq_eq_false_iff_ne]; omega
    have hb3 : ¬ (l = []) := by intro h; rw [h] at h0; exact absurd h0 (by decide)
    have HRB : (l.getD (l.length - 1) 0 != 0) = rightB l := by
      unfold rightB
      cases l with
      | nil => exact absurd rfl hb3
      | cons x xs => rfl
    have hi : ((l.length : Int) - 1).toNat = l.length - 1 := by omega
    obtain ⟨x, hx⟩ : ∃ x, x = l.getD (l.length - 1) 0 := ⟨_, rfl⟩
    rw [← hx] at hcell HRB
    have HRB := Aside0.mk HRB
    clear hx
    go_enter Tryd.func47, Tryd.ntmps47
    go_wp2_with fail
    go_ret
    exact ⟨by rw [← HRB.out]; rfl, rfl⟩
set_option maxHeartbeats 2000000 in
set_option maxRecDepth 100000 in
theorem rright_w (A : Option Addr) (c : Nat) (l : List Int) (w : World) (hr : CU w A l.length l) : Calls Tryd.prog 48 #[.slice A l.length c] w fun e w' => e = .returned (.bool (rightB l)) ∧ w = w' := by
  have HR := Aside0.mk hr
  have hm : l.length ≤ 9223372036854775807 := hr.2.1
  clear hr
  rcases Nat.eq_zero_or_pos l.length with h0 | h0
  · obtain rfl := List.eq_nil_of_length_eq_zero h0
    rw [List.length_nil] at HR ⊢
    go_enter Tryd.func48, Tryd.ntmps48
    go_wp2_with fail
    go_ret
    exact ⟨rfl, rfl⟩
  · obtain ⟨ad, e, hcell⟩ := CU_at HR.out (l.length - 1) (by omega)
    subst e
    have hb1 : ((l.length : Int) == 0) = false := by rw [beq_eq_false_iff_ne]; omega
    have hb2 : (l.length == 0) = false := by rw [beq_eq_false_iff_ne]; omega
    have hb3 : ¬ (l = []) := by intro h; rw [h] at h0; exact absurd h0 (by decide)
    have HRB : (l.getD (l.length - 1) 0 != 0) = rightB l := by
      unfold rightB
      cases l with
      | nil => exact absurd rfl hb3
      | cons x xs => rfl
    have hi : ((l.length : Int) - 1).toNat = l.length - 1 := by omega
    obtain ⟨x, hx⟩ : ∃ x, x = l.getD (l.length - 1) 0 := ⟨_, rfl⟩
    rw [← hx] at hcell HRB
    have HRB := Aside0.mk HRB
    clear hx
    go_enter Tryd.func48, Tryd.ntmps48
    go_wp2_with fail
    go_ret
    exact ⟨by rw [← HRB.out]; rfl, rfl⟩

set_option maxHeartbeats 2000000 in
set_option maxRecDepth 100000 in
/-- Two that are the same. -/
theorem same_w (A0 A1 : Option Addr) (c0 c1 : Nat) (l0 l1 : List Int) (w : World) (hr0 : CU w A0 l0.length l0) (hr1 : CU w A1 l1.length l1) (hL0 : Lim l0) (hL1 : Lim l1) (hN0 : Norm l0) (hN1 : Norm l1) (hl0 : l0.length < 1000000) (hl1 : l1.length < 1000000) (he : val l0 = val l1) :
    Calls Tryd.prog 28 #[.slice A0 l0.length c0, .slice A1 l1.length c1] w fun e w' => e = .returned (.bool true) ∧ Below w.heap.size w w' := by
  have HC := rcmp_w A0 A1 c0 c1 l0 l1 w hr0 hr1 hL0 hL1 hN0 hN1 hl0 hl1
  rw [cmpZ_eq he] at HC
  have HC := Aside0.mk HC
  have HR := rright_w A0 c0 l0 w hr0
  rw [rightB_norm hN0] at HR
  have HR := Aside0.mk HR
  clear hr0 hr1 he
  go_enter Tryd.func28, Tryd.ntmps28
  go_wp2_with fail
  refine HR.out.mono ?_
  rintro e w1 ⟨rfl, rfl⟩
  go_wp2_with fail
  refine HC.out.mono ?_
  rintro e w1 ⟨rfl, hB⟩
  have HB := Aside0.mk hB
  clear hB
  go_wp2_with fail
  go_ret
  exact ⟨rfl, HB.out⟩

theorem tmod_neg {a : Int} {m : Nat} (ha : a < 0) : a.tmod m = -((-a) % m) := by
  have h : a = -(-a) := by omega
  conv => lhs; rw [h]
  rw [Int.neg_tmod, Int.tmod_eq_emod_of_nonneg (by omega)]
theorem tmod_emod {a : Int} {m : Nat} (hm : 0 < m) : (a.tmod m < 0 → a.tmod m + m = a % m) ∧ (¬ a.tmod m < 0 → a.tmod m = a % m) ∧ a.tmod m < m ∧ -(m : Int) < a.tmod m := by
  have h0 : a.tmod m % (m : Int) = a % m := by
    have h := Int.mul_tdiv_add_tmod a m
    have h2 : a = a.tmod m + m * a.tdiv m := by omega
    have h3 : a % (m : Int) = (a.tmod m + m * a.tdiv m) % m := by rw [← h2]
    rw [h3, Int.add_mul_emod_self_left]
  have h1 : a.tmod m < m := Int.tmod_lt_of_pos a (by omega)
  have h2 : -(m : Int) < a.tmod m := by
    rcases Int.lt_or_le a 0 with h | h
    · rw [tmod_neg h]
      have := Int.emod_lt_of_pos (-a) (b := m) (by omega)
      omega
    · have := Int.emod_nonneg a (b := m) (by omega)
      rw [Int.tmod_eq_emod_of_nonneg h]
      omega
  refine ⟨fun h => ?_, fun h => ?_, h1, h2⟩
  · rw [← h0, ← Int.add_emod_right, Int.emod_eq_of_lt (by omega) (by omega)]
  · rw [← h0, Int.emod_eq_of_lt (by omega) (by omega)]
set_option maxHeartbeats 2000000 in
set_option maxRecDepth 100000 in
theorem within_w (a n : Int) (w : World) (hn : 0 < n) (hn1 : n < 1000000) :
    Calls Tryd.prog 29 #[.int .i64 a, .int .i64 n] w fun e w' => e = .returned (.int .i64 (a % n)) ∧ w = w' := by
  obtain ⟨m, rfl⟩ : ∃ m : Nat, n = (m : Int) := ⟨n.toNat, by omega⟩
  have hmb := (tmod_emod (a := a) (m := m) (by omega))
  have H := Aside0.mk hmb
  have hb1 := hmb.2.2.1
  have hb2 := hmb.2.2.2
  have hz : ¬ (m = 0) := by omega
  clear hmb
  by_cases ha : 0 ≤ a
  · have hm0 : 0 ≤ a % (m : Int) := Int.emod_nonneg a (by omega)
    have hd : decide (a % (m : Int) < 0) = false := decide_eq_false (by omega)
    clear hb1 hb2 hm0
    go_enter Tryd.func29, Tryd.ntmps29
    go_wp2_with fail
    go_ret
    exact ⟨rfl, rfl⟩
  · by_cases hs : a.tmod m < 0
    · go_enter Tryd.func29, Tryd.ntmps29
      go_wp2_with fail
      go_ret
      exact ⟨by rw [← H.out.1 hs]; rfl, rfl⟩
    · go_enter Tryd.func29, Tryd.ntmps29
      go_wp2_with fail
      go_ret
      exact ⟨by rw [← H.out.2.1 hs]; rfl, rfl⟩
end Go.Proofs.YtklhpobphloehaaDoor.G
