/- Decimal texts that are read: plain lists of bytes. -/
import Derived.Test.YtklhpobphloehaaDoorDec
import Derived.Test.YtklhpobphloehaaDoorNum
namespace Go.Proofs.YtklhpobphloehaaDoor.Nn
open Go.Lib

def isDig (b : UInt8) : Bool := decide (48 ≤ b.toNat ∧ b.toNat ≤ 57)
def decVal (l : List UInt8) : Nat := l.foldl (fun a b => a * 10 + (b.toNat - 48)) 0
/-- Which error a text is; nought: none. -/
def pcode (l : List UInt8) : Nat := if 400 < l.length then 3 else if l = [] ∨ (1 < l.length ∧ l.getD 0 0 = 48) then 4 else if l.all isDig then 0 else 4
def pnum (l : List UInt8) : Nat := if pcode l = 0 then decVal l else 0
theorem decVal_nil : decVal [] = 0 := rfl
theorem decVal_snoc (l : List UInt8) (b : UInt8) : decVal (l ++ [b]) = decVal l * 10 + (b.toNat - 48) := by simp [decVal]
theorem all_snoc (l : List UInt8) (b : UInt8) : (l ++ [b]).all isDig = (l.all isDig && isDig b) := by simp
theorem fold_lt (l : List UInt8) : ∀ a, l.all isDig = true → l.foldl (fun a b => a * 10 + (b.toNat - 48)) a < (a + 1) * 10 ^ l.length := by
  induction l with
  | nil => intro a _; simp
  | cons b l ih =>
    intro a h
    simp only [List.all_cons, Bool.and_eq_true] at h
    have h1 := ih (a * 10 + (b.toNat - 48)) h.2
    have h2 : b.toNat - 48 ≤ 9 := by have := h.1; simp only [isDig, decide_eq_true_eq] at this; omega
    rw [List.foldl_cons, List.length_cons, Nat.pow_succ, Nat.mul_comm (10 ^ l.length), ← Nat.mul_assoc]
    exact Nat.lt_of_lt_of_le h1 (Nat.mul_le_mul_right _ (by omega))
theorem decVal_lt {l : List UInt8} (h : l.all isDig = true) : decVal l < 10 ^ l.length := by
  have := fold_lt l 0 h
  simpa [decVal] using this
theorem pow_le_pw {c k a b : Nat} (h : a * b ≤ 32 * k) (hc : c ≤ 2 ^ a) : c ^ b ≤ pw k := by
  rw [pw_two]
  refine Nat.le_trans ?_ (Nat.pow_le_pow_right (by decide) h)
  rw [Nat.pow_mul]
  exact Nat.pow_le_pow_left hc b
theorem pw_le_pow {c k a b : Nat} (h : 32 * k ≤ a * b) (hc : 2 ^ a ≤ c) : pw k ≤ c ^ b := by
  rw [pw_two]
  refine Nat.le_trans (Nat.pow_le_pow_right (by decide) h) ?_
  rw [Nat.pow_mul]
  exact Nat.pow_le_pow_left hc b
theorem ten_pw {n k : Nat} (h : n < 10 ^ k) (hk : k ≤ 400) : n < pw 50 := by
  exact Nat.lt_of_lt_of_le h (pow_le_pw (a := 4) (by omega) (by decide))
theorem all_take {l : List UInt8} (h : l.all isDig = true) (k : Nat) : (l.take k).all isDig = true := by
  rw [List.all_eq_true] at h ⊢
  exact fun x hx => h x (List.mem_of_mem_take hx)
theorem take_lt {l : List UInt8} (k : Nat) (h : (l.take k).all isDig = true) (hl : l.length ≤ 400) : decVal (l.take k) < pw 50 :=
  ten_pw (decVal_lt h) (by rw [List.length_take]; omega)
/-- Digits that are told. -/
theorem dig_of (r : Nat) (h : r < 10) : (UInt8.ofNat (48 + r)).toNat = 48 + r := by
  rw [UInt8.toNat_ofNat']
  omega
theorem decVal_dec (n : Nat) : decVal (decDigits n) = n := by
  induction n using Nat.strongRecOn with
  | ind n ih =>
    by_cases h : n < 10
    · rw [decDigits_small h]
      show 0 * 10 + ((UInt8.ofNat (48 + n)).toNat - 48) = n
      rw [dig_of n h]
      omega
    · rw [decDigits_big h, decVal_snoc, ih _ (by omega), dig_of _ (by omega)]
      omega
theorem dec_all (n : Nat) : (decDigits n).all isDig = true := by
  induction n using Nat.strongRecOn with
  | ind n ih =>
    by_cases h : n < 10
    · rw [decDigits_small h]
      simp only [List.all_cons, List.all_nil, Bool.and_true, isDig, decide_eq_true_eq]
      rw [dig_of n h]
      omega
    · rw [decDigits_big h, all_snoc, ih _ (by omega), Bool.true_and]
      simp only [isDig, decide_eq_true_eq]
      rw [dig_of _ (by omega)]
      omega
theorem dec_head (n : Nat) (hn : n ≠ 0) : (decDigits n).getD 0 0 ≠ 48 := by
  induction n using Nat.strongRecOn with
  | ind n ih =>
    by_cases h : n < 10
    · rw [decDigits_small h]
      intro e
      have e2 : (UInt8.ofNat (48 + n)).toNat = 48 := by
        have e3 : UInt8.ofNat (48 + n) = 48 := e
        rw [e3]; rfl
      rw [dig_of n h] at e2
      omega
    · have h1 := ih (n / 10) (by omega) (by omega)
      have h2 := decDigits_pos (n / 10)
      rw [decDigits_big h]
      rw [List.getD_eq_getElem?_getD, List.getElem?_append_left h2, ← List.getD_eq_getElem?_getD]
      exact h1
theorem dec_len {n k : Nat} (h : n < 10 ^ (k + 1)) : (decDigits n).length ≤ k + 1 := by
  induction k generalizing n with
  | zero => rw [decDigits_small (by simpa using h)]; simp
  | succ k ih =>
    by_cases hn : n < 10
    · rw [decDigits_small hn]; simp
    · rw [decDigits_big hn, List.length_append]
      have hp : 10 ^ (k + 1 + 1) = 10 * 10 ^ (k + 1) := by rw [Nat.pow_succ, Nat.mul_comm]
      have := ih (n := n / 10) (by omega)
      simpa using this
theorem dec_len_pw {n j k : Nat} (h : n < pw j) (hk : 32 * j ≤ 3 * (k + 1)) : (decDigits n).length ≤ k + 1 := dec_len (Nat.lt_of_lt_of_le h (pw_le_pow (a := 3) hk (by decide)))
theorem dec_short {n : Nat} (h : n < pw 30) : (decDigits n).length ≤ 400 := by
  exact dec_len_pw (k := 399) h (by decide)
theorem pcode_dec {n : Nat} (h : (decDigits n).length ≤ 400) : pcode (decDigits n) = 0 := by
  unfold pcode
  rw [if_neg (by omega), if_neg, if_pos (dec_all n)]
  rintro (h1 | ⟨h1, h2⟩)
  · have := decDigits_pos n
    rw [h1] at this
    exact absurd this (by decide)
  · refine dec_head n ?_ h2
    rintro rfl
    rw [decDigits_small (by decide)] at h1
    exact absurd h1 (by decide)
theorem pnum_dec {n : Nat} (h : (decDigits n).length ≤ 400) : pnum (decDigits n) = n := by
  unfold pnum
  rw [if_pos (pcode_dec h), decVal_dec]
theorem pnum_lt (l : List UInt8) : pnum l < pw 50 := by
  unfold pnum
  split
  · rename_i h
    unfold pcode at h
    split at h
    · cases h
    · rename_i h1
      split at h
      · cases h
      · split at h
        · rename_i h3; exact ten_pw (decVal_lt h3) (by omega)
        · cases h
  · exact pw_pos 50
theorem pcode_long {l : List UInt8} (h : 400 < l.length) : pcode l = 3 ∧ pnum l = 0 := by
  have : pcode l = 3 := by unfold pcode; rw [if_pos h]
  exact ⟨this, by unfold pnum; rw [this]; rfl⟩
theorem pcode_form {l : List UInt8} (h0 : ¬ 400 < l.length) (h : l = [] ∨ (1 < l.length ∧ l.getD 0 0 = 48)) : pcode l = 4 ∧ pnum l = 0 := by
  have : pcode l = 4 := by unfold pcode; rw [if_neg h0, if_pos h]
  exact ⟨this, by unfold pnum; rw [this]; rfl⟩
theorem pcode_bad {l : List UInt8} (h0 : ¬ 400 < l.length) (h : ¬ (l = [] ∨ (1 < l.length ∧ l.getD 0 0 = 48))) (k : Nat) (hk : k < l.length) (hb : isDig (l.getD k 0) = false) : pcode l = 4 ∧ pnum l = 0 := by
  have hA : ¬ l.all isDig = true := by
    intro hA
    rw [List.all_eq_true] at hA
    have := hA (l.getD k 0) (by rw [List.getD_eq_getElem?_getD, List.getElem?_eq_getElem hk]; exact List.getElem_mem hk)
    rw [this] at hb
    cases hb
  have : pcode l = 4 := by unfold pcode; rw [if_neg h0, if_neg h, if_neg hA]
  exact ⟨this, by unfold pnum; rw [this]; rfl⟩
theorem pcode_good {l : List UInt8} (h0 : ¬ 400 < l.length) (h : ¬ (l = [] ∨ (1 < l.length ∧ l.getD 0 0 = 48))) (hA : l.all isDig = true) : pcode l = 0 ∧ pnum l = decVal l := by
  have : pcode l = 0 := by unfold pcode; rw [if_neg h0, if_neg h, if_pos hA]
  exact ⟨this, by unfold pnum; rw [this]; rfl⟩
theorem take_snocD (l : List UInt8) (k : Nat) (h : k < l.length) : l.take (k + 1) = l.take k ++ [l.getD k 0] := by
  rw [List.take_succ_eq_append_getElem h, List.getD_eq_getElem?_getD, List.getElem?_eq_getElem h]
  rfl
end Go.Proofs.YtklhpobphloehaaDoor.Nn
