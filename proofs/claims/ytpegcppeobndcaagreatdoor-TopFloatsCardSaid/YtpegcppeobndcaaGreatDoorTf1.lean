/- Floats by their bits: what rounding gives, how it goes with the mode, and that what is a float already is left as it is. Plain. -/
import Derived.Test.YtpegcppeobndcaaGreatDoorAb
import Derived.Test.YtpegcppeobndcaaGreatDoorS2
set_option linter.unusedVariables false
namespace Go.Proofs.YtpegcppeobndcaaGreatDoor.Nn
def fsgn (neg : Bool) (f : Nat) : Nat := if neg then f + 9223372036854775808 else f
def fplace (f : Nat) : Int := if 9223372036854775808 ≤ f then 9223372036854775808 - (f : Int) else f
def fat (m : Nat) (e : Int) : Int := max ((nbits m : Int) - 1 + e - 52) (-1074)
def fq (m : Nat) (e : Int) : Nat := if fat m e < e then m * 2 ^ (e - fat m e).toNat else m / 2 ^ (fat m e - e).toNat
def fsome (m : Nat) (e : Int) (more : Bool) : Bool := if fat m e ≤ e then more else decide (m % 2 ^ (fat m e - e).toNat ≠ 0) || more
def fhalf (m : Nat) (e : Int) (more : Bool) : Int := if fat m e ≤ e then -1 else
 if cmpZ (m % 2 ^ (fat m e - e).toNat) (2 ^ ((fat m e - e).toNat - 1)) = 0 ∧ more = true then 1 else cmpZ (m % 2 ^ (fat m e - e).toNat) (2 ^ ((fat m e - e).toNat - 1))
def fup (mode : Int) (neg some odd : Bool) (half : Int) : Bool :=
 if mode = 1 then false else if mode = 2 then neg && some else if mode = 3 then !neg && some else if mode = 4 then decide (0 ≤ half) else decide (0 < half) || (decide (half = 0) && odd)
def fu (u : Nat) : Nat := if u = 9007199254740992 then 4503599627370496 else u
def fa (u : Nat) (t : Int) : Int := if u = 9007199254740992 then t + 1 else t
def fbey (u : Nat) (t : Int) : Bool := decide (4503599627370496 ≤ fu u ∧ 1024 ≤ fa u t + 52)
def fmode (neg : Bool) (mode : Int) : Int := if mode < 0 ∨ 5 ≤ mode then 0 else if neg = true ∧ mode = 2 then 3 else if neg = true ∧ mode = 3 then 2 else mode
def flim (neg : Bool) (mode : Int) : Nat := if fmode neg mode = 1 ∨ fmode neg mode = 2 then 9218868437227405311 else 9218868437227405312
def fmag (u : Nat) (t : Int) : Nat := if 4503599627370496 ≤ fu u then fu u + (fa u t + 1074).toNat * 4503599627370496 else fu u
def fend (neg : Bool) (mode : Int) (u : Nat) (t : Int) : Nat := fsgn neg (if fbey u t = true then flim neg mode else fmag u t)
def fv (neg : Bool) (m : Nat) (e : Int) (more : Bool) (mode : Int) : Nat := fq m e + if fup mode neg (fsome m e more) (decide (fq m e % 2 = 1)) (fhalf m e more) = true then 1 else 0
def fround (neg : Bool) (m : Nat) (e : Int) (more : Bool) (mode : Int) : Nat := fend neg mode (fv neg m e more mode) (fat m e)
theorem fat_ge (m : Nat) (e : Int) : -1074 ≤ fat m e ∧ (nbits m : Int) + e - 53 ≤ fat m e := by
 unfold fat
 omega
theorem fq_lt {m : Nat} (e : Int) : fq m e < 9007199254740992 := by
 have h1 := lt_nbits m
 have h2 := (fat_ge m e).2
 unfold fq
 split
 ·rename_i c
  have h3 : nbits m + (e - fat m e).toNat ≤ 53 := by omega
  refine Nat.lt_of_lt_of_le ((Nat.mul_lt_mul_right (Nat.two_pow_pos _)).2 h1) ?_
  rw [← Nat.pow_add]
  exact Nat.pow_le_pow_right Z5 h3
 ·rename_i c
  rw [Nat.div_lt_iff_lt_mul (Nat.two_pow_pos _), show (9007199254740992 : Nat) = 2 ^ 53 from rfl, ← Nat.pow_add]
  exact Nat.lt_of_lt_of_le h1 (Nat.pow_le_pow_right Z5 (by omega))
theorem fv_le (neg : Bool) (m : Nat) (e : Int) (more : Bool) (mode : Int) : fv neg m e more mode ≤ 9007199254740992 := by
 have := fq_lt (m := m) e
 unfold fv
 split <;> omega
theorem fbey_mono {u u' : Nat} {t : Int} (h : u ≤ u') (h' : u' ≤ 9007199254740992) (hb : fbey u t = true) : fbey u' t = true := by
 unfold fbey fu fa at *
 rw [decide_eq_true_eq] at *
 split at hb <;> split <;> omega
theorem fmag_mono {u u' : Nat} {t : Int} (ht : -1074 ≤ t) (h : u ≤ u') (h' : u' ≤ 9007199254740992) : fmag u t ≤ fmag u' t := by
 obtain ⟨k, rfl⟩ : ∃ k : Nat, t = (k : Int) - 1074 := ⟨(t + 1074).toNat, by omega⟩
 unfold fmag fu fa
 by_cases a : u = 9007199254740992
 ·obtain rfl : u' = u := by omega
  exact Nat.le_refl _
 ·rw [if_neg a, if_neg a]
  by_cases b : u' = 9007199254740992
  ·rw [if_pos b, if_pos b, if_pos (Nat.le_refl 4503599627370496), show ((k : Int) - 1074 + 1 + 1074).toNat = k + 1 by omega, show ((k : Int) - 1074 + 1074).toNat = k by omega]
   split <;> omega
  ·rw [if_neg b, if_neg b, show ((k : Int) - 1074 + 1074).toNat = k by omega]
   split <;> split <;> omega
theorem fmag_le {u : Nat} {t : Int} (ht : -1074 ≤ t) (h : u ≤ 9007199254740992) (hb : fbey u t = false) : fmag u t ≤ 9218868437227405311 := by
 obtain ⟨k, rfl⟩ : ∃ k : Nat, t = (k : Int) - 1074 := ⟨(t + 1074).toNat, by omega⟩
 unfold fbey at hb
 rw [decide_eq_false_iff_not] at hb
 unfold fmag fu fa at *
 by_cases a : u = 9007199254740992
 ·rw [if_pos a] at *
  rw [if_pos a] at hb
  rw [if_pos a, if_pos Z5, show ((k : Int) - 1074 + 1 + 1074).toNat = k + 1 by omega]
  have : k < 2045 := by
   rcases Nat.lt_or_ge k 2045 with c | c
   ·exact c
   ·exact absurd ⟨by decide, by omega⟩ hb
  omega
 ·rw [if_neg a] at *
  rw [if_neg a] at hb
  rw [if_neg a, show ((k : Int) - 1074 + 1074).toNat = k by omega]
  split
  ·rename_i c
   have : k < 2046 := by
    rcases Nat.lt_or_ge k 2046 with d | d
    ·exact d
    ·exact absurd ⟨c, by omega⟩ hb
   omega
  ·omega
theorem flim_le (neg : Bool) (mode : Int) : 9218868437227405311 ≤ flim neg mode ∧ flim neg mode ≤ 9218868437227405312 := by
 unfold flim
 split <;> omega
theorem fsgn_place {neg : Bool} {f : Nat} (h : f < 9223372036854775808) : fplace (fsgn neg f) = if neg then -(f : Int) else f := by
 unfold fplace fsgn
 cases neg
 ·simp only [Bool.false_eq_true, if_false]
  rw [if_neg (by omega)]
 ·simp only [if_true]
  rw [if_pos (by omega)]
  omega
def fsize (neg : Bool) (mode : Int) (u : Nat) (t : Int) : Nat := if fbey u t = true then flim neg mode else fmag u t
theorem fsize_le {neg : Bool} {mode : Int} {u : Nat} {t : Int} (ht : -1074 ≤ t) (h : u ≤ 9007199254740992) : fsize neg mode u t ≤ 9218868437227405312 := by
 unfold fsize
 split
 ·exact (flim_le _ _).2
 ·rename_i c
  exact Nat.le_succ_of_le (fmag_le ht h (by simpa using c))
theorem fsize_mono {neg : Bool} {m1 m2 : Int} {u u' : Nat} {t : Int} (ht : -1074 ≤ t) (h : u ≤ u') (h' : u' ≤ 9007199254740992) (hl : flim neg m1 ≤ flim neg m2) : fsize neg m1 u t ≤ fsize neg m2 u' t := by
 unfold fsize
 by_cases c : fbey u t = true
 ·rw [if_pos c, if_pos (fbey_mono h h' c)]
  exact hl
 ·rw [if_neg c]
  split
  ·exact Nat.le_trans (fmag_le ht (by omega) (by simpa using c)) (flim_le _ _).1
  ·exact fmag_mono ht h h'
theorem fend_place {neg : Bool} {mode : Int} {u : Nat} {t : Int} (ht : -1074 ≤ t) (h : u ≤ 9007199254740992) : fplace (fend neg mode u t) = if neg then -(fsize neg mode u t : Int) else fsize neg mode u t :=
 fsgn_place (Nat.lt_of_le_of_lt (fsize_le ht h) Z5)
theorem fhalf_some {m : Nat} {e : Int} {more : Bool} (h : 0 ≤ fhalf m e more) : fsome m e more = true := by
 unfold fhalf at h
 unfold fsome
 split at h
 ·omega
 ·rename_i c
  rw [if_neg c]
  cases more
  ·rw [Bool.or_false, decide_eq_true_eq]
   intro z
   rw [if_neg Z33, z] at h
   have := Nat.two_pow_pos ((fat m e - e).toNat - 1)
   unfold cmpZ at h
   rw [if_pos this] at h
   omega
  ·rw [Bool.or_true]
theorem fup_some {mode : Int} {neg odd : Bool} {m : Nat} {e : Int} {more : Bool} (h : fup mode neg (fsome m e more) odd (fhalf m e more) = true) : fsome m e more = true := by
 by_cases c : 0 ≤ fhalf m e more
 ·exact fhalf_some c
 ·unfold fup at h
  split at h
  ·cases h
  split at h
  ·exact (Bool.and_eq_true _ _ ▸ h).2
  split at h
  ·exact (Bool.and_eq_true _ _ ▸ h).2
  split at h
  ·exact absurd (of_decide_eq_true h) c
  ·rw [decide_eq_false (show ¬ 0 < fhalf m e more by omega), decide_eq_false (show ¬ fhalf m e more = 0 by omega)] at h
   cases h
theorem fround_order (neg : Bool) (m : Nat) (e : Int) (more : Bool) (mode : Int) (h0 : 0 ≤ mode) (h5 : mode < 5) :
  fplace (fround neg m e more 2) ≤ fplace (fround neg m e more mode) ∧ fplace (fround neg m e more mode) ≤ fplace (fround neg m e more 3) := by
 have ht := (fat_ge m e).1
 unfold fround
 rw [fend_place ht (fv_le _ _ _ _ _), fend_place ht (fv_le _ _ _ _ _), fend_place ht (fv_le _ _ _ _ _)]
 have hs : ∀ k : Int, fv neg m e more k ≤ fq m e + if fsome m e more = true then 1 else 0 := by
  intro k
  unfold fv
  split
  ·rename_i c
   rw [if_pos (fup_some c)]
   exact Nat.le_refl _
  ·omega
 have hz : ∀ k : Int, fq m e ≤ fv neg m e more k := fun k => Nat.le_add_right _ _
 have hm : mode = 0 ∨ mode = 1 ∨ mode = 2 ∨ mode = 3 ∨ mode = 4 := by omega
 cases neg
 ·have e2 : fv false m e more 2 = fq m e := by unfold fv fup; simp
  have e3 : fv false m e more 3 = fq m e + if fsome m e more = true then 1 else 0 := by unfold fv fup; simp
  have l2 : flim false 2 ≤ flim false mode := by rcases hm with rfl | rfl | rfl | rfl | rfl <;> decide
  have l3 : flim false mode ≤ flim false 3 := by rcases hm with rfl | rfl | rfl | rfl | rfl <;> decide
  have a := fsize_mono (neg := false) ht (e2 ▸ hz mode) (fv_le _ _ _ _ _) l2
  have b := fsize_mono (neg := false) ht (e3 ▸ hs mode) (fv_le _ _ _ _ _) l3
  simp only [Bool.false_eq_true, if_false]
  omega
 ·have e3 : fv true m e more 3 = fq m e := by unfold fv fup; simp
  have e2 : fv true m e more 2 = fq m e + if fsome m e more = true then 1 else 0 := by unfold fv fup; simp
  have l3 : flim true 3 ≤ flim true mode := by rcases hm with rfl | rfl | rfl | rfl | rfl <;> decide
  have l2 : flim true mode ≤ flim true 2 := by rcases hm with rfl | rfl | rfl | rfl | rfl <;> decide
  have a := fsize_mono (neg := true) ht (e3 ▸ hz mode) (fv_le _ _ _ _ _) l3
  have b := fsize_mono (neg := true) ht (e2 ▸ hs mode) (fv_le _ _ _ _ _) l2
  simp only [if_true]
  omega
theorem fround_fin (neg : Bool) (m : Nat) (e : Int) (more : Bool) (mode : Int) : fround neg m e more mode % 9223372036854775808 ≤ 9218868437227405312 ∧ fround neg m e more mode < 18446744073709551616 := by
 have h := fsize_le (neg := neg) (mode := mode) (fat_ge m e).1 (fv_le neg m e more mode)
 have e1 : fround neg m e more mode = fsgn neg (fsize neg mode (fv neg m e more mode) (fat m e)) := rfl
 rw [e1]
 unfold fsgn
 split <;> omega
theorem fround_exact {M q : Nat} {E e : Int} (neg : Bool) (mode : Int) (hM : M < 9007199254740992) (h0 : M ≠ 0) (hE : -1074 ≤ E) (hn : 4503599627370496 ≤ M ∨ E = -1074) (hx : E ≤ 971)
  (hq : (∃ i : Nat, q = M * 2 ^ i ∧ e = E - i) ∨ ∃ i : Nat, M = q * 2 ^ i ∧ e = E + i) :
  fround neg q e false mode = fsgn neg (if 4503599627370496 ≤ M then M + (E + 1074).toNat * 4503599627370496 else M) ∧ fsome q e false = false ∧ fbey (fv neg q e false mode) (fat q e) = false := by
 have hb : nbits M ≤ 53 := nbits_le (show M < 2 ^ 53 from hM)
 have hb2 : 4503599627370496 ≤ M → nbits M = 53 := fun h => nbits_eq (show 2 ^ 52 ≤ M from h) (show M < 2 ^ 53 from hM)
 have hpos : 1 ≤ nbits M := by rw [nbits_pos h0]; omega
 have hf : fat q e = E := by
  rcases hq with ⟨i, rfl, rfl⟩ | ⟨i, hi, rfl⟩
  ·unfold fat
   rw [nbits_shift h0]
   rcases hn with h | h
   ·rw [hb2 h]; omega
   ·omega
  ·have hq0 : q ≠ 0 := by rintro rfl; rw [Nat.zero_mul] at hi; exact h0 hi
   have : nbits M = nbits q + i := by rw [hi, nbits_shift hq0]
   unfold fat
   rcases hn with h | h
   ·have := hb2 h; omega
   ·omega
 have hfq : fq q e = M := by
  unfold fq
  rw [hf]
  rcases hq with ⟨i, rfl, rfl⟩ | ⟨i, hi, rfl⟩
  ·rw [if_neg (by omega), show (E - (E - (i : Int))).toNat = i by omega]
   exact Nat.mul_div_cancel _ (Nat.two_pow_pos _)
  ·by_cases c : E < E + (i : Int)
   ·rw [if_pos c, show (E + (i : Int) - E).toNat = i by omega, ← hi]
   ·obtain rfl : i = 0 := by omega
    rw [if_neg c, show (E - (E + ((0 : Nat) : Int))).toNat = 0 by omega, hi]
    simp
 have hs : fsome q e false = false := by
  unfold fsome
  rw [hf]
  rcases hq with ⟨i, rfl, rfl⟩ | ⟨i, hi, rfl⟩
  ·split
   ·rfl
   ·rw [show (E - (E - (i : Int))).toNat = i by omega, Nat.mul_mod_left]
    rfl
  ·rw [if_pos (by omega)]
 have hh : ¬ 0 ≤ fhalf q e false := fun h => by rw [fhalf_some h] at hs; cases hs
 have hv : fv neg q e false mode = M := by
  unfold fv
  rw [if_neg, Nat.add_zero, hfq]
  intro h
  rw [fup_some h] at hs
  cases hs
 have c : fu M = M ∧ fa M E = E := by unfold fu fa; exact ⟨if_neg (by omega), if_neg (by omega)⟩
 have hbe : fbey M E = false := by unfold fbey; rw [c.2, decide_eq_false_iff_not]; omega
 refine ⟨?_, hs, by rw [hv, hf]; exact hbe⟩
 unfold fround fend
 rw [hv, hf, if_neg (by rw [hbe]; decide)]
 unfold fmag
 rw [c.1, c.2]
end Go.Proofs.YtpegcppeobndcaaGreatDoor.Nn
