/- Division bit by bit: plain arithmetic. -/
import Derived.Test.YtklhpobphloehaaDoorDivQ
import Derived.Test.YtklhpobphloehaaDoorG8
namespace Go.Proofs.YtklhpobphloehaaDoor.G
open Go.Proofs.YtklhpobphloehaaDoor.Nn

theorem rdiv_start {x y k : Nat} (hy : y ≠ 0) (h : nbits x = nbits y + k) : x < y * 2 ^ (k + 1) := by
  have h1 := lt_nbits x
  have h2 := le_nbits hy
  have h3 := nbits_pos hy
  have h4 := Nat.mul_le_mul_right (2 ^ (k + 1)) h2
  rw [← Nat.pow_add, show nbits y - 1 + (k + 1) = nbits x from by omega] at h4
  omega
theorem rdiv_less {x y : Nat} (h : nbits x < nbits y) : x < y := by
  refine Nat.lt_of_not_le fun c => ?_
  have := nbits_mono c
  omega
/-- A limb of a multiple of 2^(32 i + s + 1). -/
theorem rdiv_limb {q : List Int} {i s : Nat} (hL : Lim q) (hs : s < 32) (h : val q % 2 ^ (32 * i + s + 1) = 0) : lm q i % 2 ^ (s + 1) = 0 := by
  have h1 := val_at hL i
  have h2 : lm q i = val q / pw i % 4294967296 := by
    unfold lm
    rw [← h1]
    omega
  obtain ⟨m, hm⟩ := Nat.dvd_of_mod_eq_zero h
  rw [h2, hm, pw_two, show 32 * i + s + 1 = 32 * i + (s + 1) from rfl, Nat.pow_add, Nat.mul_assoc, Nat.mul_div_cancel_left _ (Nat.pow_pos (by decide))]
  have hd : 2 ^ (s + 1) ∣ 4294967296 := by
    rw [show 4294967296 = 2 ^ 32 from by decide]
    exact Nat.pow_dvd_pow 2 (by omega)
  rw [Nat.mod_mod_of_dvd _ hd, Nat.mul_mod_right]
theorem rdiv_sum {L s : Nat} (hL : L < 4294967296) (hs : s < 32) (h : L % 2 ^ (s + 1) = 0) : L ||| 2 ^ s = L + 2 ^ s ∧ L + 2 ^ s < 4294967296 := by
  refine ⟨or_parts h (Nat.pow_lt_pow_right (by decide) (Nat.lt_succ_self s)), ?_⟩
  obtain ⟨m, hm⟩ := Nat.dvd_of_mod_eq_zero h
  have e : 4294967296 = 2 ^ (s + 1) * 2 ^ (31 - s) := by rw [← Nat.pow_add, show s + 1 + (31 - s) = 32 from by omega]
  have h1 : m + 1 ≤ 2 ^ (31 - s) := by
    refine Nat.lt_of_mul_lt_mul_left (a := 2 ^ (s + 1)) ?_
    rw [← hm, ← e]
    exact hL
  have h2 := Nat.mul_le_mul_left (2 ^ (s + 1)) h1
  rw [← e, Nat.mul_add, ← hm, Nat.mul_one, Nat.pow_succ] at h2
  have := Nat.pow_pos (n := s) (show 0 < 2 by decide)
  omega
theorem rdiv_set {q : List Int} {i s : Nat} (hi : i < q.length) : val (q.set i ((lm q i + 2 ^ s : Nat) : Int)) = val q + 2 ^ (32 * i + s) := by
  have h := val_set q i (lm q i + 2 ^ s) hi
  rw [Nat.mul_add, pw_two, ← Nat.pow_add] at h
  omega
/-- One bit. -/
theorem rdiv_one {x y r q j : Nat} (h1 : x = r + y * q) (h2 : q % 2 ^ (j + 1) = 0) (h3 : r < y * 2 ^ (j + 1)) (hle : y * 2 ^ j ≤ r) :
    x = (r - y * 2 ^ j) + y * (q + 2 ^ j) ∧ (q + 2 ^ j) % 2 ^ j = 0 ∧ r - y * 2 ^ j < y * 2 ^ j := by
  rw [Nat.pow_succ, ← Nat.mul_assoc] at h3
  refine ⟨by rw [Nat.mul_add]; omega, ?_, by omega⟩
  have : 2 ^ j ∣ q := Nat.dvd_trans (Nat.pow_dvd_pow 2 (Nat.le_succ j)) (Nat.dvd_of_mod_eq_zero h2)
  exact Nat.mod_eq_zero_of_dvd (Nat.dvd_add this (Nat.dvd_refl _))
theorem rdiv_none {q j : Nat} (h2 : q % 2 ^ (j + 1) = 0) : q % 2 ^ j = 0 :=
  Nat.mod_eq_zero_of_dvd (Nat.dvd_trans (Nat.pow_dvd_pow 2 (Nat.le_succ j)) (Nat.dvd_of_mod_eq_zero h2))
theorem rdiv_end {x y r q : Nat} (h1 : x = r + y * q) (h3 : r < y) : q = x / y ∧ r = x % y := by
  have hy : 0 < y := by omega
  subst h1
  rw [Nat.add_mul_div_left _ _ hy, Nat.div_eq_of_lt h3, Nat.add_mul_mod_self_left, Nat.mod_eq_of_lt h3, Nat.zero_add]
  exact ⟨rfl, rfl⟩
theorem rdiv_half {y j : Nat} : y * 2 ^ (j + 1) / 2 = y * 2 ^ j := by
  rw [Nat.pow_succ, ← Nat.mul_assoc, Nat.mul_div_cancel _ (by decide)]
end Go.Proofs.YtklhpobphloehaaDoor.G
