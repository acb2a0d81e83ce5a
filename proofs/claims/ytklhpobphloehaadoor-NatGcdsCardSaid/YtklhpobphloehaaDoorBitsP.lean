/- How many binary digits a number has: plain arithmetic. -/
import Derived.Test.YtklhpobphloehaaDoorNum
import Derived.Lib.BitFns
namespace Go.Proofs.YtklhpobphloehaaDoor.Nn

def nbits (n : Nat) : Nat := if n = 0 then 0 else n.log2 + 1
theorem nbits_zero : nbits 0 = 0 := by unfold nbits; rw [if_pos rfl]
theorem nbits_pos {n : Nat} (h : n ≠ 0) : nbits n = n.log2 + 1 := by unfold nbits; rw [if_neg h]
theorem nbits_half {n : Nat} (h : n ≠ 0) : nbits n = nbits (n / 2) + 1 := by
  rw [nbits_pos h, Nat.log2_def]
  by_cases h2 : 2 ≤ n
  · rw [if_pos h2, nbits_pos (by omega)]
  · rw [if_neg h2, show n / 2 = 0 from by omega, nbits_zero]
theorem lt_nbits (n : Nat) : n < 2 ^ nbits n := by
  by_cases h : n = 0
  · subst h; rw [nbits_zero]; decide
  · rw [nbits_pos h]; exact Nat.lt_log2_self
theorem le_nbits {n : Nat} (h : n ≠ 0) : 2 ^ (nbits n - 1) ≤ n := by
  rw [nbits_pos h]; exact Nat.log2_self_le h
theorem nbits_le {n k : Nat} (h : n < 2 ^ k) : nbits n ≤ k := by
  by_cases h0 : n = 0
  · subst h0; rw [nbits_zero]; exact Nat.zero_le _
  · have h1 := le_nbits h0
    have h2 : 2 ^ (nbits n - 1) < 2 ^ k := Nat.lt_of_le_of_lt h1 h
    have h3 := (Nat.pow_lt_pow_iff_right (by decide : 1 < 2)).1 h2
    omega
theorem nbits_ge {n k : Nat} (h : 2 ^ k ≤ n) : k + 1 ≤ nbits n := by
  have h1 := lt_nbits n
  have h2 : 2 ^ k < 2 ^ nbits n := Nat.lt_of_le_of_lt h h1
  exact (Nat.pow_lt_pow_iff_right (by decide : 1 < 2)).1 h2
theorem nbits_eq {n k : Nat} (h0 : 2 ^ k ≤ n) (h1 : n < 2 ^ (k + 1)) : nbits n = k + 1 := by
  have := nbits_ge h0
  have := nbits_le h1
  omega
theorem nbits_mono {a b : Nat} (h : a ≤ b) : nbits a ≤ nbits b := nbits_le (Nat.lt_of_le_of_lt h (lt_nbits b))
theorem nbits_two (k : Nat) : nbits (2 ^ k) = k + 1 := nbits_eq (Nat.le_refl _) (Nat.pow_lt_pow_right (by decide) (Nat.lt_succ_self k))
theorem nbits_shift {n : Nat} (h : n ≠ 0) (k : Nat) : nbits (n * 2 ^ k) = nbits n + k := by
  have h1 := lt_nbits n
  have h2 := le_nbits h
  have hp := nbits_pos h
  have h3 := Nat.mul_le_mul_right (2 ^ k) h2
  have h4 := Nat.mul_lt_mul_of_pos_right h1 (Nat.pow_pos (by decide : 0 < 2) (n := k))
  rw [← Nat.pow_add] at h3 h4
  have h5 := nbits_ge h3
  have h6 := nbits_le h4
  omega
theorem bitLen_nbits : ∀ (k n : Nat), n < 2 ^ k → k ≤ 64 → Lib.bitLen n = nbits n := by
  intro k
  induction k with
  | zero => intro n hn _; rw [show n = 0 from by omega, nbits_zero]; decide
  | succ k ih =>
    intro n hn hk
    by_cases h : n = 0
    · subst h; rw [nbits_zero]; decide
    · rw [Lib.bitLen_half n h (Nat.lt_of_lt_of_le hn (Nat.pow_le_pow_right (by decide) hk)), nbits_half h, ih (n / 2) (by rw [Nat.pow_succ] at hn; omega) (by omega), Nat.add_comm]
/-- A number's last limb tells. -/
theorem nbits_top {l : List Int} (h : Lim l) (hn : Norm l) (hp : 0 < l.length) : nbits (val l) = 32 * (l.length - 1) + nbits (lm l (l.length - 1)) := by
  have e := val_take_succ l (l.length - 1)
  rw [show l.length - 1 + 1 = l.length from by omega, List.take_length] at e
  have hlt := val_lt (h.take (l.length - 1))
  rw [List.length_take, Nat.min_eq_left (by omega)] at hlt
  have h0 : lm l (l.length - 1) ≠ 0 := by
    intro hz
    unfold Norm at hn
    have h1 := h.getD (l.length - 1)
    have h2 : l.getD (l.length - 1) 1 = l.getD (l.length - 1) 0 := by
      rw [List.getD_eq_getElem?_getD, List.getD_eq_getElem?_getD, List.getElem?_eq_getElem (by omega)]; rfl
    unfold lm at hz
    omega
  generalize lm l (l.length - 1) = t at *
  generalize val (l.take (l.length - 1)) = v at *
  rw [e, pw_two]
  rw [pw_two] at hlt
  have h1 := lt_nbits t
  have h2 := le_nbits h0
  have hp := nbits_pos h0
  generalize hd : 32 * (l.length - 1) = d at *
  have hge : 2 ^ (d + (nbits t - 1)) ≤ v + 2 ^ d * t := by
    rw [Nat.pow_add]
    exact Nat.le_trans (Nat.mul_le_mul_left _ h2) (Nat.le_add_left _ _)
  have hlt2 : v + 2 ^ d * t < 2 ^ (d + nbits t) := by
    rw [Nat.pow_add]
    have h3 : 2 ^ d * (t + 1) ≤ 2 ^ d * 2 ^ nbits t := Nat.mul_le_mul_left _ h1
    rw [Nat.mul_add, Nat.mul_one] at h3
    omega
  have h5 := nbits_ge hge
  have h6 := nbits_le hlt2
  omega
theorem nbits_limb {x : Nat} (h : x < 4294967296) : nbits x ≤ 32 := nbits_le h
end Go.Proofs.YtklhpobphloehaaDoor.Nn
