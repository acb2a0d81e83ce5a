/- The number that a finite float is, told and read and rounded again. -/
import Derived.Test.YtpegcppeobndcaaGreatDoorAb
import Derived.Test.YtpegcppeobndcaaGreatDoorTt
import Derived.Test.YtpegcppeobndcaaGreatDoorS7
set_option linter.unusedVariables false
namespace Go.Proofs.YtpegcppeobndcaaGreatDoor.Fl
open Go.RowKit YtpegcppeobndcaaGreatDoorW.PrintWords YtpegcppeobndcaaGreatDoorW.PrintLast YtpegcppeobndcaaGreatDoorW.PrintMore Go.Proofs.YtpegcppeobndcaaGreatDoor.Nn Go.Proofs.YtpegcppeobndcaaGreatDoor.G Go.Proofs.YtpegcppeobndcaaGreatDoor.Giv Go.Proofs.YtpegcppeobndcaaGreatDoor.PFl
open Go.Lib (decDigits)
theorem parse_ratL {W : World} {x : Rat} {s : ByteArray} (hl : s.size ≤ 400) (hs : s.data.toList = ratT (decide (x.num < 0)) x.num.natAbs x.den) (hm : MaxOk W) :
  Calls Tryz.prog 8 #[.string s] W (RaPostE W x 0) := by
 have h1 := congrArg List.length hs
 rw [data_length] at h1
 have ha : (decDigits x.num.natAbs).length ≤ 400 := by
  unfold ratT at h1
  simp only [List.length_append] at h1
  omega
 refine (qparse_w s W (by omega) hm).mono fun e w' h => ?_
 by_cases hd : x.den = 1
 ·obtain ⟨q1, q2, q3, q4⟩ := read_int (decide (x.num < 0)) ha (l := s.data.toList) (by rw [hs]; unfold ratT; rw [if_pos hd, List.append_nil])
  unfold ReadPost at h
  rw [if_pos q4, q1, q2, q3, ← hd] at h
  exact low_ratE x.den_nz (rat_of x) h
 ·have hb : (decDigits x.den).length ≤ 400 := by
   unfold ratT at h1
   rw [if_neg hd] at h1
   simp only [List.length_append, List.length_cons] at h1
   omega
  obtain ⟨q1, q2, q3, q4⟩ := read_frac (decide (x.num < 0)) ha hb x.den_nz (l := s.data.toList) (by rw [hs]; unfold ratT; rw [if_neg hd, List.append_assoc])
  unfold ReadPost at h
  rw [if_pos q4, q1, q2, q3] at h
  exact low_ratE x.den_nz (rat_of x) h
theorem fval_facts {f : Nat} (hf : ffin f) : decide ((fval f).num < 0) = (decide (fman f ≠ 0) && decide (9223372036854775808 ≤ f)) ∧ (fval f).num.natAbs * 2 ^ (-fexp f).toNat = fman f * 2 ^ (fexp f).toNat * (fval f).den ∧ Nat.Coprime (fval f).num.natAbs (fval f).den ∧ (fval f).num.natAbs < pw 70 ∧ (fval f).den < pw 70 := by
 have h5 := fexp_in hf
 have hd0 : 1 * 2 ^ (-fexp f).toNat ≠ 0 := by rw [Nat.one_mul]; exact Nat.ne_of_gt (Nat.two_pow_pos _)
 obtain ⟨h1, h2, h3⟩ := mk_canon (decide (9223372036854775808 ≤ f)) (fman f * 2 ^ (fexp f).toNat) hd0
 have b1 : fman f * 2 ^ (fexp f).toNat < pw 70 := Nat.lt_trans (shifted_lt (by omega)) (pw_lt Z5)
 have b2 : 1 * 2 ^ (-fexp f).toNat < pw 70 := by rw [Nat.one_mul]; exact pw_of_two (k := (-fexp f).toNat + 1) (Nat.pow_lt_pow_right Z5 (Nat.lt_succ_self _)) (by omega)
 refine ⟨?_, ?_, (fval f).reduced, ?_, ?_⟩
 ·unfold fval
  rw [h1]
  congr 1
  rw [decide_eq_decide]
  constructor
  ·intro h z
   rw [z, Nat.zero_mul] at h
   exact h rfl
  ·intro h
   exact Nat.mul_ne_zero h (Nat.ne_of_gt (Nat.two_pow_pos _))
 ·unfold fval
  rw [h2, h3]
  rw [Nat.one_mul]
  generalize fman f * 2 ^ (fexp f).toNat = n
  generalize 2 ^ (-fexp f).toNat = d
  have e1 : n / Nat.gcd n d * d = n * d / Nat.gcd n d := (Nat.div_mul_right_comm (Nat.gcd_dvd_left n d) d)
  have e2 : n * (d / Nat.gcd n d) = n * d / Nat.gcd n d := (Nat.mul_div_assoc n (Nat.gcd_dvd_right n d)).symm
  rw [e1, e2]
 ·unfold fval
  rw [h2]
  exact Nat.lt_of_le_of_lt (Nat.div_le_self _ _) b1
 ·unfold fval
  rw [h3]
  exact Nat.lt_of_le_of_lt (Nat.div_le_self _ _) b2
theorem back_w {f : Nat} (hf : ffin f) {m : Int} (h0 : 0 ≤ m) (h5 : m < 5) : ∃ o : Nat, (o = f ∨ o = 0 ∧ f = 9223372036854775808) ∧ ∀ (W : World) (A : Option Addr) (L c : Nat) (B : Option Addr) (M d : Nat), Nu W (.slice A L c) (fval f).num.natAbs → Nu W (.slice B M d) (fval f).den →
  Calls Tryz.prog 9 #[.agg #[.bool (decide ((fval f).num < 0)), .slice A L c, .slice B M d], .int .i64 m] W (IntsPost W (o : Int) 0) := by
 obtain ⟨h1, h2, h3, h4, h6⟩ := fval_facts hf
 by_cases c : fman f = 0
 ·have hz : (fval f).num.natAbs = 0 := by
   rw [c, Nat.zero_mul, Nat.zero_mul] at h2
   rcases Nat.mul_eq_zero.1 h2 with h | h
   ·exact h
   ·exact absurd h (Nat.ne_of_gt (Nat.two_pow_pos _))
  have hff : f = 0 ∨ f = 9223372036854775808 := by
   have k1 := hf.1
   have k2 := hf.2
   unfold fman at c
   split at c <;> omega
  refine ⟨0, by omega, fun W A L cc B M d hN hD => ?_⟩
  rw [hz] at hN
  obtain ⟨A', c', e, _, _⟩ := hN
  rw [digs_zero, List.length_nil] at e
  cases e
  exact Of_zero_w m
 ·refine ⟨f, Or.inl rfl, fun W A L cc B M d hN hD => ?_⟩
  rw [h1, decide_eq_true c, Bool.true_and]
  exact Of_w m hN hD h4 h6 h0 h5 hf c h2 h3 (fval f).den_nz
end Go.Proofs.YtpegcppeobndcaaGreatDoor.Fl
