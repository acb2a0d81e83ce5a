/- Decimal digits: plain lists of bytes. -/
import Derived.Lib.ItoaNum
import Derived.Lib.Repeat
namespace Go.Proofs.YtklhpobphloehaaDoor.Nn
open Go.Lib

/-- The digits; none of nought. -/
def dec0 (n : Nat) : List UInt8 := if n = 0 then [] else decDigits n
/-- r, told by k digits. -/
def padk : Nat → Nat → List UInt8
  | 0, _ => []
  | k + 1, r => padk k (r / 10) ++ [UInt8.ofNat (48 + r % 10)]
theorem padk_length (k r : Nat) : (padk k r).length = k := by
  induction k generalizing r with
  | zero => rfl
  | succ k ih => simp [padk, ih]
theorem decDigits_small {u : Nat} (h : u < 10) : decDigits u = [UInt8.ofNat (48 + u)] := by rw [decDigits, dif_pos h]
theorem decDigits_big {u : Nat} (h : ¬ u < 10) : decDigits u = decDigits (u / 10) ++ [UInt8.ofNat (48 + u % 10)] := by rw [decDigits, dif_neg h]
theorem decDigits_pos (u : Nat) : 0 < (decDigits u).length := by
  rw [decDigits]
  split
  · simp
  · simp
theorem dec_split (k : Nat) : ∀ (q r : Nat), 0 < q → r < 10 ^ k → decDigits (q * 10 ^ k + r) = decDigits q ++ padk k r := by
  induction k with
  | zero => intro q r _ hr; simp at hr; subst hr; simp [padk]
  | succ k ih =>
    intro q r hq hr
    have hp : 10 ^ (k + 1) = 10 * 10 ^ k := by rw [Nat.pow_succ, Nat.mul_comm]
    have h1 : q * 10 ^ (k + 1) = 10 * (q * 10 ^ k) := by rw [hp, Nat.mul_left_comm]
    have h2 : 1 ≤ q * 10 ^ k := Nat.mul_pos hq (Nat.pow_pos (by decide))
    rw [decDigits_big (by omega), show (q * 10 ^ (k + 1) + r) / 10 = q * 10 ^ k + r / 10 from by omega, ih q (r / 10) hq (by omega), show (q * 10 ^ (k + 1) + r) % 10 = r % 10 from by omega, padk, List.append_assoc]
theorem padk_zero (k : Nat) : padk k 0 = List.replicate k 48 := by
  induction k with
  | zero => rfl
  | succ k ih =>
    rw [padk, Nat.zero_div, ih, List.replicate_succ']
    rfl
theorem padk_eq (k : Nat) : ∀ r, r < 10 ^ (k + 1) → (decDigits r).length ≤ k + 1 ∧ padk (k + 1) r = List.replicate (k + 1 - (decDigits r).length) 48 ++ decDigits r := by
  induction k with
  | zero =>
    intro r hr
    have h : r < 10 := by simpa using hr
    rw [decDigits_small h]
    simp [padk, Nat.mod_eq_of_lt h]
  | succ k ih =>
    intro r hr
    rw [padk]
    by_cases h : r < 10
    · rw [decDigits_small h, show r / 10 = 0 from by omega, padk_zero, Nat.mod_eq_of_lt h]
      simp
    · have hp : 10 ^ (k + 1 + 1) = 10 * 10 ^ (k + 1) := by rw [Nat.pow_succ, Nat.mul_comm]
      obtain ⟨h1, h2⟩ := ih (r / 10) (by omega)
      rw [decDigits_big h, h2]
      refine ⟨by simp; omega, ?_⟩
      rw [List.append_assoc]
      congr 2
      simp
theorem dec9 {r : Nat} (h : r < 1000000000) : (decDigits r).length ≤ 9 ∧ padk 9 r = List.replicate (9 - (decDigits r).length) 48 ++ decDigits r := padk_eq 8 r h
theorem dec_chunk {m q r : Nat} (hm : m ≠ 0) (hq : q = m / 1000000000) (hr : r = m % 1000000000) : dec0 m = dec0 q ++ (if q = 0 then decDigits r else List.replicate (9 - (decDigits r).length) 48 ++ decDigits r) := by
  have hrl : r < 1000000000 := by omega
  unfold dec0
  rw [if_neg hm]
  by_cases h : q = 0
  · rw [if_pos h, if_pos h, show m = r from by omega]
    rfl
  · rw [if_neg h, if_neg h, ← (dec9 hrl).2, ← dec_split 9 q r (by omega) hrl]
    congr 1
    omega
theorem repeat_one (b : UInt8) (n : Nat) : repeatL [b] n = List.replicate n b := by
  induction n with
  | zero => rfl
  | succ n ih => rw [repeatL, ih, List.replicate_succ]; rfl
theorem dec0_nil {n : Nat} (h : dec0 n = []) : n = 0 := by
  unfold dec0 at h
  split at h
  · assumption
  · have := decDigits_pos n
    rw [h] at this
    exact absurd this (by decide)
end Go.Proofs.YtklhpobphloehaaDoor.Nn
