/- What the functions of floats compute, as plain numbers: a finite float's parts, sums, the order. -/
import Derived.Test.YtpegcppeobndcaaGreatDoorAb
import Derived.Test.YtpegcppeobndcaaGreatDoorTi
import Derived.Laws.BitsAllLaws
set_option linter.unusedVariables false
namespace Go.Proofs.YtpegcppeobndcaaGreatDoor.Fl
open Go.RowKit YtpegcppeobndcaaGreatDoorW.PrintWords YtpegcppeobndcaaGreatDoorW.PrintLast Go.Proofs.YtpegcppeobndcaaGreatDoor.Nn Go.Proofs.YtpegcppeobndcaaGreatDoor.G Go.Proofs.YtpegcppeobndcaaGreatDoor.Giv Go.Proofs.YtpegcppeobndcaaGreatDoor.PFl
theorem mag_bits {a : Nat} (h : a < 18446744073709551616) : bits .andNot .u64 (a : Int) 9223372036854775808 = ((a % 9223372036854775808 : Nat) : Int) := by
 rw [show (9223372036854775808 : Int) = ((9223372036854775808 : Nat) : Int) from rfl, u64_andNot_nat a 9223372036854775808 h Z5]
 exact congrArg (fun n : Nat => (n : Int)) (Nat.and_two_pow_sub_one_eq_mod a 63)
theorem frac_bits {a : Nat} (h : a < 18446744073709551616) : bits .and .u64 (a : Int) 4503599627370495 = ((a % 4503599627370496 : Nat) : Int) := by
 rw [show (4503599627370495 : Int) = ((4503599627370495 : Nat) : Int) from rfl, bits_and_u64_nat a _ h Z5]
 exact congrArg (fun n : Nat => (n : Int)) (Nat.and_two_pow_sub_one_eq_mod a 52)
theorem exp_bits {a : Nat} (h : a < 18446744073709551616) : bits .and .u64 ((a : Int) / 4503599627370496) 2047 = ((a / 4503599627370496 % 2048 : Nat) : Int) := by
 rw [show ((a : Int) / 4503599627370496) = ((a / 4503599627370496 : Nat) : Int) by omega, show (2047 : Int) = ((2047 : Nat) : Int) from rfl, bits_and_u64_nat _ _ (by omega) Z5]
 exact congrArg (fun n : Nat => (n : Int)) (Nat.and_two_pow_sub_one_eq_mod _ 11)
theorem unit_bits {m : Nat} (h : m < 4503599627370496) : bits .or .u64 (m : Int) 4503599627370496 = ((m + 4503599627370496 : Nat) : Int) := by
 rw [show (4503599627370496 : Int) = ((4503599627370496 : Nat) : Int) from rfl, bits_or_u64_nat _ _ (by omega) Z5]
 congr 1
 have := Nat.two_pow_add_eq_or_of_lt (i := 52) (b := m) h 1
 rw [Nat.or_comm, Nat.add_comm]
 simpa using this.symm
theorem sign_bit {a : Nat} (h : a < 18446744073709551616) : ((bits .and .u64 (a : Int) 9223372036854775808) != 0) = decide (9223372036854775808 ≤ a) := by
 rw [show (9223372036854775808 : Int) = ((9223372036854775808 : Nat) : Int) from rfl, bits_and_u64_nat a _ h Z5]
 have ht : a.testBit 63 = decide (a / 2 ^ 63 % 2 = 1) := Nat.testBit_eq_decide_div_mod_eq
 by_cases c : 9223372036854775808 ≤ a
 ·rw [decide_eq_true c, bne_iff_ne]
  intro z
  have z' : a &&& 9223372036854775808 = 0 := by omega
  have h2 := congrArg (fun n : Nat => n.testBit 63) z'
  simp only [Nat.testBit_and, Nat.zero_testBit] at h2
  rw [ht, decide_eq_true (show a / 2 ^ 63 % 2 = 1 by omega), show Nat.testBit 9223372036854775808 63 = true by decide] at h2
  cases h2
 ·rw [decide_eq_false c]
  have z : a &&& 9223372036854775808 = 0 := by
   refine Nat.eq_of_testBit_eq fun i => ?_
   rw [Nat.testBit_and, Nat.zero_testBit, show (9223372036854775808 : Nat) = 2 ^ 63 from rfl, Nat.testBit_two_pow]
   by_cases d : 63 = i
   ·subst d
    rw [ht, decide_eq_false (show ¬ a / 2 ^ 63 % 2 = 1 by omega), Bool.false_and]
   ·rw [decide_eq_false d, Bool.and_false]
  rw [z]
  rfl
theorem below_f {a : Nat} (h : a < 18446744073709551616) : sfloat_below.f (a : Int) = some (decide (9223372036854775808 ≤ a)) := by
 unfold sfloat_below.f
 rw [sign_bit h]
theorem of_f {f : Nat} (h : ffin f) : sfloat_of.f (f : Int) = some (decide (9223372036854775808 ≤ f), digs (fman f), fexp f, false) := by
 have h1 := h.1
 have h2 := h.2
 unfold sfloat_of.f
 rw [exp_bits h1, frac_bits h1, below_f h1, unit_bits (Nat.mod_lt _ Z5), Go.IntWalk.wrap64_in _ (by omega), Go.IntWalk.wrap64_in _ (by omega)]
 unfold fman fexp nat_Of.f
 by_cases c : 0 < f / 4503599627370496 % 2048
 ·rw [if_pos (by omega), if_pos c, if_pos c, Option.bind_some, if_pos ⟨by omega, by omega⟩, Option.bind_some, Int.toNat_natCast]
 ·rw [if_neg (by omega), if_neg c, if_neg c, Option.bind_some, if_pos ⟨by omega, by omega⟩, Option.bind_some, Int.toNat_natCast]
def sexp (x y : Nat) : Int := if fexp x < fexp y then fexp x else fexp y
def smx (x y : Nat) : Nat := fman x * 2 ^ (fexp x - sexp x y).toNat
def smy (x y : Nat) : Nat := fman y * 2 ^ (fexp y - sexp x y).toNat
def ssub (x y : Nat) : Bool := !(decide (9223372036854775808 ≤ x) == decide (9223372036854775808 ≤ y))
def smag (x y : Nat) : Nat := if ssub x y = false then smx x y + smy x y else if smx x y < smy x y then smy x y - smx x y else smx x y - smy x y
def sneg (x y : Nat) : Bool := if ssub x y = true ∧ smx x y < smy x y then decide (9223372036854775808 ≤ y) else decide (9223372036854775808 ≤ x)
theorem sexp_in {x y : Nat} (hx : ffin x) (hy : ffin y) : -1074 ≤ sexp x y ∧ sexp x y ≤ 971 ∧ sexp x y ≤ fexp x ∧ sexp x y ≤ fexp y := by
 have h1 := fexp_in hx
 have h2 := fexp_in hy
 unfold sexp
 split <;> omega
theorem shifted_lt {f : Nat} {s : Nat} (h : s ≤ 2045) : fman f * 2 ^ s < pw 66 := by
 have h1 : fman f * 2 ^ s < 2 ^ (53 + s) := by
  rw [Nat.pow_add]
  exact Nat.mul_lt_mul_of_pos_right (show fman f < 2 ^ 53 from fman_lt f) (Nat.two_pow_pos _)
 exact pw_of_two h1 (by omega)
theorem sum_f {k x y : Nat} (hx : ffin x) (hy : ffin y) : sfloat_sum.f (k + 1) (decide (9223372036854775808 ≤ x)) (digs (fman x)) (fexp x) false (decide (9223372036854775808 ≤ y)) (digs (fman y)) (fexp y) false = some (sneg x y, digs (smag x y), sexp x y, false) := by
 obtain ⟨h1, h2, h3, h4⟩ := sexp_in hx hy
 have h5 := fexp_in hx
 have h6 := fexp_in hy
 have hm : mn (fexp x) (fexp y) = sexp x y := by unfold mn sexp; first | rfl | (split <;> split <;> omega)
 obtain ⟨s, hs⟩ : ∃ s : Nat, fexp x - sexp x y = (s : Int) := ⟨(fexp x - sexp x y).toNat, by omega⟩
 obtain ⟨t, ht⟩ : ∃ t : Nat, fexp y - sexp x y = (t : Int) := ⟨(fexp y - sexp x y).toNat, by omega⟩
 have b53 : ∀ f, fman f < pw 900 := fun f => pw_of_two (show fman f < 2 ^ 53 from fman_lt f) Z5
 have e1 : smx x y = fman x * 2 ^ s := by unfold smx; rw [hs, Int.toNat_natCast]
 have e2 : smy x y = fman y * 2 ^ t := by unfold smy; rw [ht, Int.toNat_natCast]
 have l1 : fman x * 2 ^ s < pw 900 := Nat.lt_trans (shifted_lt (by omega)) (pw_lt Z5)
 have l2 : fman y * 2 ^ t < pw 900 := Nat.lt_trans (shifted_lt (by omega)) (pw_lt Z5)
 unfold sfloat_sum.f
 rw [hm, Go.IntWalk.wrap64_in _ (by omega), Go.IntWalk.wrap64_in _ (by omega), hs, ht, shl_f (b53 x) (by omega), Option.bind_some, shl_f (b53 y) (by omega), Option.bind_some]
 unfold nat_Add.f nat_Cmp.f nat_Sub.f
 rw [numOf_digs l1, numOf_digs l2]
 simp only [Option.bind_some]
 unfold smag sneg ssub cmpZ
 rw [e1, e2]
 generalize hg : (decide (9223372036854775808 ≤ x) == decide (9223372036854775808 ≤ y)) = g
 cases g
 ·by_cases c : fman x * 2 ^ s < fman y * 2 ^ t
  ·simp [c]
  ·by_cases d : fman x * 2 ^ s = fman y * 2 ^ t
   ·simp [d]
   ·simp [c, d]
 ·simp
theorem smag_lt {x y : Nat} (hx : ffin x) (hy : ffin y) : smag x y < pw 67 := by
 obtain ⟨h1, h2, h3, h4⟩ := sexp_in hx hy
 have h5 := fexp_in hx
 have h6 := fexp_in hy
 have l1 : smx x y < pw 66 := shifted_lt (by omega)
 have l2 : smy x y < pw 66 := shifted_lt (by omega)
 have e : pw 67 = 4294967296 * pw 66 := pw_succ 66
 unfold smag
 split
 ·omega
 ·split <;> omega
def addV (x y : Nat) (mode : Int) : Nat := if smag x y ≠ 0 then fround (sneg x y) (smag x y) (sexp x y) false mode else fsgn (if fman x = 0 ∧ ssub x y = false then decide (9223372036854775808 ≤ x) else decide (mode = 2)) 0
def addF (x y : Nat) (mode : Int) : Int := if smag x y ≠ 0 then fflags (sneg x y) (smag x y) (sexp x y) false mode else 0
theorem added_f {k x y : Nat} {mode : Int} (hx : ffin x) (hy : ffin y) (h0 : 0 ≤ mode) (h5 : mode < 5) : sfloat_added.f (k + 5) (decide (9223372036854775808 ≤ x)) (digs (fman x)) (fexp x) false (decide (9223372036854775808 ≤ y)) (digs (fman y)) (fexp y) false mode = some (((addV x y mode : Nat) : Int), addF x y mode) := by
 obtain ⟨h1, h2, h3, h4⟩ := sexp_in hx hy
 unfold sfloat_added.f
 rw [sum_f hx hy, Option.bind_some]
 simp only
 unfold addV addF
 by_cases c : smag x y ≠ 0
 ·have hb : nbits (smag x y) ≤ 32 * 67 := nbits_pw (smag_lt hx hy)
  have hF : fat (smag x y) (sexp x y) = max ((nbits (smag x y) : Int) - 1 + sexp x y - 52) (-1074) := rfl
  rw [if_pos (digs_len.2 c), round_f _ _ _ _ h0 h5 (Nat.lt_trans (smag_lt hx hy) (pw_lt Z5)) c (by omega) (by omega) (by omega) rfl, if_pos c, if_pos c]
  rfl
 ·rw [if_neg (fun h => c (digs_len.1 h)), if_neg c, if_neg c]
  have hz : ∀ b : Bool, sfloat_signed.f 0 b = some ((fsgn b 0 : Nat) : Int) := fun b => signed_f b Z5
  have hj : ∀ b : Bool, sfloat_added.j0 (k + 5) mode b (decide (9223372036854775808 ≤ x)) (digs (fman x)) (fexp x) false = some (((fsgn (if b = true then decide (9223372036854775808 ≤ x) else decide (mode = 2)) 0 : Nat) : Int), 0) := by
   intro b
   have hb : (mode == 2) = decide (mode = 2) := by by_cases m : mode = 2 <;> simp [m]
   rw [sfloat_added.j0, hz, hz, hb]
   cases b
   ·simp
   ·simp
  by_cases d : fman x = 0
  ·rw [if_pos (by rw [d, digs_zero]; rfl), hj]
   unfold ssub
   simp [d]
  ·rw [if_neg (fun h => absurd (digs_len.2 d) (by omega)), hj]
   simp [d]
def fok (f : Nat) : Prop := f < 18446744073709551616 ∧ f % 9223372036854775808 ≤ 9218868437227405312
theorem ffin.ok {f : Nat} (h : ffin f) : fok f := by
 obtain ⟨h1, h2⟩ := h
 exact ⟨h1, by omega⟩
theorem fsgn_zero_ok (b : Bool) : fok (fsgn b 0) ∧ fplace (fsgn b 0) = 0 := by cases b <;> exact ⟨⟨by decide, by decide⟩, by decide⟩
theorem add_ok (x y : Nat) (mode : Int) : fok (addV x y mode) := by
 unfold addV
 split
 ·have := fround_fin (sneg x y) (smag x y) (sexp x y) false mode
  exact ⟨this.2, this.1⟩
 ·exact (fsgn_zero_ok _).1
theorem add_order (x y : Nat) {mode : Int} (h0 : 0 ≤ mode) (h5 : mode < 5) : fplace (addV x y 2) ≤ fplace (addV x y mode) ∧ fplace (addV x y mode) ≤ fplace (addV x y 3) := by
 unfold addV
 by_cases c : smag x y ≠ 0
 ·rw [if_pos c, if_pos c, if_pos c]
  exact fround_order _ _ _ _ mode h0 h5
 ·rw [if_neg c, if_neg c, if_neg c, (fsgn_zero_ok _).2, (fsgn_zero_ok _).2, (fsgn_zero_ok _).2]
  exact ⟨Int.le_refl _, Int.le_refl _⟩
theorem nan_f {f : Nat} (h : fok f) : sfloat_nan.f (f : Int) = some false := by
 unfold sfloat_nan.f
 rw [mag_bits h.1]
 congr 1
 rw [decide_eq_false_iff_not]
 have := h.2
 omega
theorem inf_f {f : Nat} (h : ffin f) : sfloat_infinite.f (f : Int) = some false := by
 have h1 := h.1
 have h2 := h.2
 unfold sfloat_infinite.f
 rw [mag_bits h1]
 congr 1
 rw [beq_eq_false_iff_ne]
 omega
theorem place_f {f : Nat} (h : fok f) : sfloat_place.f (f : Int) = some (fplace f) := by
 have h1 := h.1
 have h2 := h.2
 unfold sfloat_place.f fplace
 rw [below_f h1, Option.bind_some, mag_bits h1]
 by_cases c : 9223372036854775808 ≤ f
 ·rw [if_pos (decide_eq_true c), if_pos c, Go.IntWalk.wrap64_in ((f % 9223372036854775808 : Nat) : Int) (by omega), Go.IntWalk.wrap64_in _ (by omega)]
  congr 1
  omega
 ·rw [if_neg (by simpa using c), if_neg c, Go.IntWalk.wrap64_in _ (by omega)]
def fsign (a b : Nat) : Int := if fplace a < fplace b then -1 else if fplace b < fplace a then 1 else 0
theorem Cmp_f {k a b : Nat} (ha : fok a) (hb : fok b) : sfloat_Cmp.f (k + 1) (a : Int) (b : Int) = some (fsign a b, true) := by
 unfold sfloat_Cmp.f
 rw [nan_f ha, nan_f hb]
 simp only [Option.bind_some, Bool.false_eq_true, if_false]
 rw [sfloat_Cmp.j0]
 simp only [Bool.false_eq_true, if_false]
 rw [place_f ha, place_f hb]
 simp only [Option.bind_some]
 unfold fsign
 by_cases c : fplace a < fplace b
 ·simp [c]
 ·by_cases d : fplace b < fplace a
  ·simp [c, d]
  ·simp [c, d]
theorem fsign_le {a b : Nat} (h : fplace a ≤ fplace b) : fsign a b ≤ 0 := by
 unfold fsign
 split
 ·decide
 ·rw [if_neg (by omega)]
  exact Int.le_refl _
end Go.Proofs.YtpegcppeobndcaaGreatDoor.Fl
