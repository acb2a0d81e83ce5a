/- Floats by their bits: the number that a float is, over its denominator, comes back as the float. Plain. -/
import Derived.Test.YtpegcppeobndcaaGreatDoorTf1
set_option linter.unusedVariables false
namespace Go.Proofs.YtpegcppeobndcaaGreatDoor.Nn
theorem two_of_mul : ∀ (n a b : Nat), a * b = 2 ^ n → ∃ i, i ≤ n ∧ a = 2 ^ i
 | 0, a, b, h => ⟨0, Nat.le_refl _, by rw [Nat.pow_zero] at *; exact Nat.eq_one_of_mul_eq_one_right h⟩
 | n + 1, a, b, h => by
  rw [Nat.pow_succ] at h
  rcases Nat.mod_two_eq_zero_or_one a with c | c
  ·obtain ⟨a', rfl⟩ : ∃ a', a = 2 * a' := ⟨a / 2, by omega⟩
   have h' : a' * b = 2 ^ n := by rw [Nat.mul_assoc] at h; omega
   obtain ⟨i, hi, rfl⟩ := two_of_mul n a' b h'
   exact ⟨i + 1, by omega, by rw [Nat.pow_succ]; omega⟩
  ·rcases Nat.mod_two_eq_zero_or_one b with e | e
   ·obtain ⟨b', rfl⟩ : ∃ b', b = 2 * b' := ⟨b / 2, by omega⟩
    have h' : a * b' = 2 ^ n := by rw [Nat.mul_left_comm] at h; omega
    obtain ⟨i, hi, rfl⟩ := two_of_mul n a b' h'
    exact ⟨i, by omega, rfl⟩
   ·have h1 : a * b % 2 = 1 := by rw [Nat.mul_mod, c, e]
    rw [h] at h1
    omega
theorem over_exact {M n d : Nat} {E : Int} (hM : M < 9007199254740992) (h0 : M ≠ 0) (h : n * 2 ^ (-E).toNat = M * 2 ^ E.toNat * d) (hc : Nat.Coprime n d) (hd : d ≠ 0) (k : Nat) (hk : 66 + nbits d ≤ k + nbits n) :
  (n * 2 ^ k) % d = 0 ∧ ((∃ i : Nat, (n * 2 ^ k) / d = M * 2 ^ i ∧ (-(k : Int)) = E - i) ∨ ∃ i : Nat, M = (n * 2 ^ k) / d * 2 ^ i ∧ (-(k : Int)) = E + i) := by
 have hdv : d ∣ 2 ^ (-E).toNat := by
  have : d ∣ n * 2 ^ (-E).toNat := ⟨M * 2 ^ E.toNat, by rw [h, Nat.mul_comm]⟩
  exact (Nat.Coprime.symm hc).dvd_of_dvd_mul_left this
 obtain ⟨b, hb⟩ := hdv
 obtain ⟨j, hj, rfl⟩ := two_of_mul _ d b hb.symm
 rcases Int.lt_or_le E 0 with c | c
 ·have e1 : E.toNat = 0 := by omega
  obtain ⟨s, hs⟩ : ∃ s : Nat, E = -(s : Int) := ⟨(-E).toNat, by omega⟩
  subst hs
  rw [show (- -(s : Int)).toNat = s by omega] at *
  rw [e1, Nat.pow_zero, Nat.mul_one] at h
  obtain ⟨t, rfl⟩ : ∃ t, s = j + t := ⟨s - j, by omega⟩
  have hn : n * 2 ^ t = M := by
   rw [Nat.pow_add, Nat.mul_comm (2 ^ j), ← Nat.mul_assoc] at h
   exact Nat.eq_of_mul_eq_mul_right (Nat.two_pow_pos _) h
  have hn0 : n ≠ 0 := by rintro rfl; rw [Nat.zero_mul] at hn; exact h0 hn.symm
  have hnb : nbits n ≤ 53 := nbits_le (Nat.lt_of_le_of_lt (Nat.le_mul_of_pos_right _ (Nat.two_pow_pos t)) (hn ▸ (show M < 2 ^ 53 from hM)))
  rw [nbits_two] at hk
  obtain ⟨r, rfl⟩ : ∃ r, k = j + r := ⟨k - j, by omega⟩
  have hq : n * 2 ^ (j + r) = n * 2 ^ r * 2 ^ j := by rw [Nat.pow_add, Nat.mul_comm (2 ^ j), Nat.mul_assoc]
  rw [hq, Nat.mul_mod_left, Nat.mul_div_cancel _ (Nat.two_pow_pos j)]
  refine ⟨rfl, ?_⟩
  rcases Nat.le_total t r with d | d
  ·obtain ⟨i, rfl⟩ : ∃ i, r = t + i := ⟨r - t, by omega⟩
   exact Or.inl ⟨i, by rw [← hn, Nat.pow_add, Nat.mul_assoc], by omega⟩
  ·obtain ⟨i, rfl⟩ : ∃ i, t = r + i := ⟨t - r, by omega⟩
   exact Or.inr ⟨i, by rw [← hn, Nat.pow_add, Nat.mul_assoc], by omega⟩
 ·obtain ⟨s, hs⟩ : ∃ s : Nat, E = (s : Int) := ⟨E.toNat, by omega⟩
  subst hs
  have e1 : (-(s : Int)).toNat = 0 := by omega
  rw [e1] at h hj
  obtain rfl : j = 0 := by omega
  rw [Nat.pow_zero, Nat.mul_one, Nat.mul_one, Int.toNat_natCast] at h
  subst h
  rw [Nat.pow_zero, Nat.mod_one, Nat.div_one]
  exact ⟨rfl, Or.inl ⟨s + k, by rw [Nat.pow_add, Nat.mul_assoc], by omega⟩⟩
def fman (f : Nat) : Nat := if 0 < f / 4503599627370496 % 2048 then f % 4503599627370496 + 4503599627370496 else f % 4503599627370496
def fexp (f : Nat) : Int := if 0 < f / 4503599627370496 % 2048 then ((f / 4503599627370496 % 2048 : Nat) : Int) - 1075 else -1074
def ffin (f : Nat) : Prop := f < 18446744073709551616 ∧ f / 4503599627370496 % 2048 < 2047
theorem fman_lt (f : Nat) : fman f < 9007199254740992 := by unfold fman; split <;> omega
theorem fexp_in {f : Nat} (h : ffin f) : -1074 ≤ fexp f ∧ fexp f ≤ 971 := by
 have := h.2
 unfold fexp
 split <;> omega
theorem fman_norm (f : Nat) : 4503599627370496 ≤ fman f ∨ fexp f = -1074 := by
 unfold fman fexp
 split <;> omega
theorem fman_mag {f : Nat} (h : ffin f) : (if 4503599627370496 ≤ fman f then fman f + (fexp f + 1074).toNat * 4503599627370496 else fman f) = f % 9223372036854775808 := by
 have h1 := h.1
 have h2 := h.2
 obtain ⟨X, hX⟩ : ∃ X, X = f / 4503599627370496 % 2048 := ⟨_, rfl⟩
 obtain ⟨m, hm⟩ : ∃ m, m = f % 4503599627370496 := ⟨_, rfl⟩
 unfold fman fexp
 rw [← hX, ← hm]
 rw [← hX] at h2
 by_cases c : 0 < X
 ·rw [if_pos c, if_pos c, if_pos (by omega), show ((X : Int) - 1075 + 1074).toNat = X - 1 by omega]
  omega
 ·rw [if_neg c, if_neg c, if_neg (by omega)]
  omega
theorem fman_back {f : Nat} (h : ffin f) : fsgn (decide (9223372036854775808 ≤ f)) (if 4503599627370496 ≤ fman f then fman f + (fexp f + 1074).toNat * 4503599627370496 else fman f) = f := by
 have h1 := h.1
 rw [fman_mag h]
 unfold fsgn
 by_cases d : 9223372036854775808 ≤ f
 ·rw [if_pos (decide_eq_true d)]; omega
 ·rw [if_neg (by simpa using d)]; omega
def fk (n d : Nat) : Nat := 66 + nbits d - nbits n
theorem fback {f n d : Nat} (h : ffin f) (h0 : fman f ≠ 0) (hx : n * 2 ^ (-fexp f).toNat = fman f * 2 ^ (fexp f).toNat * d) (hc : Nat.Coprime n d) (hd : d ≠ 0) (mode : Int) :
  (n * 2 ^ fk n d) % d = 0 ∧ fround (decide (9223372036854775808 ≤ f)) ((n * 2 ^ fk n d) / d) (-(fk n d : Int)) false mode = f ∧ fsome ((n * 2 ^ fk n d) / d) (-(fk n d : Int)) false = false ∧ fbey (fv (decide (9223372036854775808 ≤ f)) ((n * 2 ^ fk n d) / d) (-(fk n d : Int)) false mode) (fat ((n * 2 ^ fk n d) / d) (-(fk n d : Int))) = false := by
 obtain ⟨h1, h2⟩ := over_exact (fman_lt f) h0 hx hc hd (fk n d) (by unfold fk; omega)
 obtain ⟨h3, h4⟩ := fround_exact (decide (9223372036854775808 ≤ f)) mode (fman_lt f) h0 (fexp_in h).1 (fman_norm f) (fexp_in h).2 h2
 exact ⟨h1, h3.trans (fman_back h), h4⟩
end Go.Proofs.YtpegcppeobndcaaGreatDoor.Nn
