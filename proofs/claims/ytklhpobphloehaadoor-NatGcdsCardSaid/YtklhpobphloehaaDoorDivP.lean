/- A place of long division: plain arithmetic. -/
import Derived.Test.YtklhpobphloehaaDoorG6
namespace Go.Proofs.YtklhpobphloehaaDoor.G
open Go.Proofs.YtklhpobphloehaaDoor.Nn

theorem take_alg {O O' L P Q b x y a r s0 s1 z q : Nat} (hO : O' + P * a = O + P * r) (hH : O + Q = L + (x + y) * P) (hr : r + s0 + y = a + 4294967296 * z) (hs : x + q * b = 4294967296 * s1 + s0) :
    O' + (Q + P * (q * b)) = L + (s1 + z) * (4294967296 * P) := by
  have e1 : P * (r + s0 + y) = P * (a + 4294967296 * z) := by rw [hr]
  have e2 : P * (x + q * b) = P * (4294967296 * s1 + s0) := by rw [hs]
  have e3 : s1 * (4294967296 * P) = P * (4294967296 * s1) := by ac_rfl
  have e4 : z * (4294967296 * P) = P * (4294967296 * z) := by ac_rfl
  have e5 := Nat.mul_comm x P
  have e6 := Nat.mul_comm y P
  simp only [Nat.mul_add, Nat.add_mul] at *
  omega
theorem take_step {o lv : List Int} {lu : Nat} {k j q x y s r z : Nat} (hj : k + j < o.length) (hr : r + s % 4294967296 + y = lm o (k + j) + 4294967296 * z) (hs : s = x + q * lm lv j)
    (h : val o + q * val (lv.take j) * pw k = lu + (x + y) * pw (k + j)) :
    val (o.set (k + j) (r : Int)) + q * val (lv.take (j + 1)) * pw k = lu + (s / 4294967296 + z) * pw (k + (j + 1)) := by
  have h1 := val_set o (k + j) r hj
  have h2 := take_alg (O := val o) (O' := val (o.set (k + j) (r : Int))) (L := lu) (P := pw (k + j)) (Q := q * val (lv.take j) * pw k) (b := lm lv j) (x := x) (y := y) (a := lm o (k + j)) (r := r) (s0 := s % 4294967296) (s1 := s / 4294967296) (z := z) (q := q) h1 h hr (by rw [Nat.div_add_mod]; exact hs.symm)
  rw [val_take_succ lv j, show k + (j + 1) = (k + j) + 1 from rfl, pw_succ (k + j)]
  rw [show q * (val (lv.take j) + pw j * lm lv j) * pw k = q * val (lv.take j) * pw k + pw (k + j) * (q * lm lv j) from by
    rw [Nat.mul_add, Nat.add_mul, pw_add]; congr 1; ac_rfl]
  exact h2
theorem take_carry {lv : List Int} {j q x s : Nat} (hs : s = x + q * lm lv j) (h : x * pw j ≤ q * val (lv.take j)) : s / 4294967296 * pw (j + 1) ≤ q * val (lv.take (j + 1)) := by
  rw [val_take_succ lv j, pw_succ, Nat.mul_add, ← Nat.mul_assoc]
  have h1 : s / 4294967296 * 4294967296 ≤ s := Nat.div_mul_le_self s _
  have h2 := Nat.mul_le_mul_right (pw j) h1
  have h3 : s * pw j = x * pw j + q * (pw j * lm lv j) := by rw [hs, Nat.add_mul]; congr 1; ac_rfl
  omega
theorem take_bound {x q b : Nat} (hx : x < 4294967296) (hq : q < 4294967296) (hb : b < 4294967296) : x + q * b < 18446744073709551616 ∧ (x + q * b) / 4294967296 < 4294967296 := by
  have h1 : q * b ≤ 4294967295 * 4294967295 := Nat.mul_le_mul (by omega) (by omega)
  generalize q * b = p at *
  omega
theorem take_last {lv : List Int} {q x n : Nat} (hL : Lim lv) (hn : lv.length = n) (hq : q < 4294967296) (h : x * pw (n + 1) ≤ q * val (lv.take (n + 1))) : x = 0 := by
  rcases Nat.eq_zero_or_pos x with h0 | h0
  · exact h0
  · exfalso
    have h1 := val_lt hL
    rw [List.take_of_length_le (by omega)] at h
    rw [hn] at h1
    have h2 : q * val lv < 4294967296 * pw n := Nat.mul_lt_mul'' hq h1
    have h3 := Nat.mul_le_mul_right (pw (n + 1)) h0
    rw [pw_succ] at h h3
    omega
theorem back_step {o lv : List Int} {lu : Nat} {k j x s : Nat} (hj : k + j < o.length) (hs : s = x + (lm o (k + j) + lm lv j))
    (h : val o + x * pw (k + j) = lu + val (lv.take j) * pw k) :
    val (o.set (k + j) ((s % 4294967296 : Nat) : Int)) + s / 4294967296 * pw (k + (j + 1)) = lu + val (lv.take (j + 1)) * pw k := by
  have h1 := val_set o (k + j) (s % 4294967296) hj
  rw [val_take_succ lv j, show k + (j + 1) = (k + j) + 1 from rfl, pw_succ (k + j)]
  rw [show (val (lv.take j) + pw j * lm lv j) * pw k = val (lv.take j) * pw k + pw (k + j) * lm lv j from by rw [Nat.add_mul, pw_add]; congr 1; ac_rfl]
  have e0 : 4294967296 * (s / 4294967296) + s % 4294967296 = x + (lm o (k + j) + lm lv j) := by rw [Nat.div_add_mod]; exact hs
  have e1 : pw (k + j) * (4294967296 * (s / 4294967296) + s % 4294967296) = pw (k + j) * (x + (lm o (k + j) + lm lv j)) := by rw [e0]
  have e2 : s / 4294967296 * (4294967296 * pw (k + j)) = pw (k + j) * (4294967296 * (s / 4294967296)) := by ac_rfl
  have e3 := Nat.mul_comm x (pw (k + j))
  simp only [Nat.mul_add] at e1
  omega
/-- What is above stays: so a number is below. -/
theorem top_zero {o : List Int} (hL : Lim o) {m : Nat} (h : ∀ j, m ≤ j → lm o j = 0) : val o < pw m := by
  have h1 := val_split o m
  have h2 : val (o.drop m) = 0 := by
    have : ∀ n, ∀ i, o.length - i = n → m ≤ i → val (o.drop i) = 0 := by
      intro n
      induction n with
      | zero => intro i hi _; rw [List.drop_of_length_le (by omega)]; rfl
      | succ n ih => intro i hi hm; rw [val_drop_at, h i hm, ih (i + 1) (by omega) (by omega)]
    exact this _ m rfl (Nat.le_refl _)
  have h3 := val_lt (hL.take m)
  rw [List.length_take] at h3
  have h4 := pw_le (show min m o.length ≤ m from Nat.min_le_left _ _)
  rw [h2] at h1
  omega
end Go.Proofs.YtklhpobphloehaaDoor.G
