/- Long division and what goes into both, of nat and of its reference: the small texts of this part, one behind another. -/
import Derived.Test.YtpegcppeobndcaaGreatDoorS1
import Derived.Test.YtpegcppeobndcaaGreatDoorAb
import Derived.Test.YtpegcppeobndcaaGreatDoorS2
import Derived.Lib.SliceRun
set_option linter.unusedVariables false
set_option maxHeartbeats 8000000
set_option maxRecDepth 100000
namespace Go.Proofs.YtpegcppeobndcaaGreatDoor.Nn
section
variable {B W V P t u2 wl v1 v2 vl : Nat}
theorem k_init (hW : W = (t * B + u2) * P + wl) (hwl : wl < P) (hu2 : u2 < B)
  (hV : V = (v1 * B + v2) * P + vl) (hv1 : 0 < v1) : W / V ≤ t / v1 := by
 rw [Nat.le_div_iff_mul_le hv1]
 generalize hq : W / V = q
 have h1 : q * V ≤ W := by rw [← hq]; exact Nat.div_mul_le_self W V
 refine Nat.le_of_not_lt fun hlt => ?_
 have h2 : (t + 1) * (B * P) ≤ q * v1 * (B * P) := Nat.mul_le_mul_right _ hlt
 have h3 : q * v1 * (B * P) ≤ q * V := by
  rw [hV, Nat.mul_assoc]
  refine Nat.mul_le_mul_left _ ?_
  rw [Nat.add_mul, ← Nat.mul_assoc]
  omega
 have h4 : u2 * P + P ≤ B * P := by
  have := Nat.mul_le_mul_right P (show u2 + 1 ≤ B from hu2)
  rw [Nat.add_mul] at this
  omega
 have h5 : (t * B + u2) * P = t * (B * P) + u2 * P := by rw [Nat.add_mul, Nat.mul_assoc]
 rw [Nat.add_mul] at h2
 omega
theorem k_over {q r : Nat} (hW : W = (t * B + u2) * P + wl) (hwl : wl < P)
  (hV : V = (v1 * B + v2) * P + vl) (hqr : q * v1 + r = t) (hgt : r * B + u2 < q * v2) (hV0 : 0 < V) : W / V < q := by
 rw [Nat.div_lt_iff_lt_mul hV0]
 have h1 : (t * B + u2 + 1) * P ≤ q * (v1 * B + v2) * P := by
  refine Nat.mul_le_mul_right _ ?_
  rw [← hqr, Nat.mul_add, ← Nat.mul_assoc, Nat.add_mul]
  omega
 have h2 : q * (v1 * B + v2) * P ≤ q * V := by
  rw [hV, Nat.mul_assoc]
  exact Nat.mul_le_mul_left _ (Nat.le_add_right _ _)
 rw [Nat.add_mul] at h1
 omega
theorem k_done {q r : Nat} (hW : W = (t * B + u2) * P + wl)
  (hV : V = (v1 * B + v2) * P + vl) (hvl : vl < P) (hv1 : 0 < v1) (hqr : q * v1 + r = t) (hle : q * v2 ≤ r * B + u2) (hq : q < B) : q ≤ W / V + 1 := by
 rcases Nat.eq_zero_or_pos q with h0 | h0
 ·rw [h0]; exact Nat.zero_le _
 have hV0 : B * P ≤ V := by
  have := Nat.mul_le_mul_right (B * P) (show 1 ≤ v1 from hv1)
  rw [hV, Nat.add_mul, Nat.mul_assoc]
  omega
 have h1 : q * (v1 * B + v2) * P ≤ (t * B + u2) * P := by
  refine Nat.mul_le_mul_right _ ?_
  rw [← hqr, Nat.mul_add, ← Nat.mul_assoc, Nat.add_mul]
  omega
 have h2 : q * vl ≤ B * P := Nat.mul_le_mul (by omega) (by omega)
 have h3 : q * V = q * (v1 * B + v2) * P + q * vl := by rw [hV, Nat.mul_add, ← Nat.mul_assoc]
 have h4 : (q - 1) * V ≤ W := by
  rw [Nat.sub_mul, Nat.one_mul]
  omega
 have hBP : 0 < B * P := Nat.mul_pos (by omega) (by omega)
 have := (Nat.le_div_iff_mul_le (show 0 < V by omega)).2 h4
 omega
end
end Go.Proofs.YtpegcppeobndcaaGreatDoor.Nn
namespace Go.Proofs.YtpegcppeobndcaaGreatDoor.G
open Go.Proofs.YtpegcppeobndcaaGreatDoor.Nn
theorem take_alg {O O' L P Q b x y a r s0 s1 z q : Nat} (hO : O' + P * a = O + P * r) (hH : O + Q = L + (x + y) * P) (hr : r + s0 + y = a + 4294967296 * z) (hs : x + q * b = 4294967296 * s1 + s0) :
  O' + (Q + P * (q * b)) = L + (s1 + z) * (4294967296 * P) := by
 have e1 : P * (r + s0 + y) = P * (a + 4294967296 * z) := by rw [hr]
 have e2 : P * (x + q * b) = P * (4294967296 * s1 + s0) := by rw [hs]
 have e3 : s1 * (4294967296 * P) = P * (4294967296 * s1) := by ac_rfl
 have e4 : z * (4294967296 * P) = P * (4294967296 * z) := by ac_rfl
 have e5 := Nat.mul_comm x P
 have e6 := Nat.mul_comm y P
 simp only [Nat.mul_add, Nat.add_mul] at *
 omega
theorem take_step {o lv : List Int} {lu : Nat} {k j q x y s r z : Nat} (hj : k + j < o.length) (hr : r + s % 4294967296 + y = lm o (k + j) + 4294967296 * z) (hs : s = x + q * lm lv j)
  (h : val o + q * val (lv.take j) * pw k = lu + (x + y) * pw (k + j)) :
  val (o.set (k + j) (r : Int)) + q * val (lv.take (j + 1)) * pw k = lu + (s / 4294967296 + z) * pw (k + (j + 1)) := by
 have h1 := val_set o (k + j) r hj
 have h2 := take_alg (O := val o) (O' := val (o.set (k + j) (r : Int))) (L := lu) (P := pw (k + j)) (Q := q * val (lv.take j) * pw k) (b := lm lv j) (x := x) (y := y) (a := lm o (k + j)) (r := r) (s0 := s % 4294967296) (s1 := s / 4294967296) (z := z) (q := q) h1 h hr (by rw [Nat.div_add_mod]; exact hs.symm)
 rw [val_take_succ lv j, show k + (j + 1) = (k + j) + 1 from rfl, pw_succ (k + j)]
 rw [show q * (val (lv.take j) + pw j * lm lv j) * pw k = q * val (lv.take j) * pw k + pw (k + j) * (q * lm lv j) from by
  rw [Nat.mul_add, Nat.add_mul, pw_add]; congr 1; ac_rfl]
 exact h2
theorem take_carry {lv : List Int} {j q x s : Nat} (hs : s = x + q * lm lv j) (h : x * pw j ≤ q * val (lv.take j)) : s / 4294967296 * pw (j + 1) ≤ q * val (lv.take (j + 1)) := by
 rw [val_take_succ lv j, pw_succ, Nat.mul_add, ← Nat.mul_assoc]
 have h1 : s / 4294967296 * 4294967296 ≤ s := Nat.div_mul_le_self s _
 have h2 := Nat.mul_le_mul_right (pw j) h1
 have h3 : s * pw j = x * pw j + q * (pw j * lm lv j) := by rw [hs, Nat.add_mul]; congr 1; ac_rfl
 omega
theorem take_bound {x q b : Nat} (hx : x < 4294967296) (hq : q < 4294967296) (hb : b < 4294967296) : x + q * b < 18446744073709551616 ∧ (x + q * b) / 4294967296 < 4294967296 := by
 have h1 : q * b ≤ 4294967295 * 4294967295 := Nat.mul_le_mul (by omega) (by omega)
 generalize q * b = p at *
 omega
theorem take_last {lv : List Int} {q x n : Nat} (hL : Lim lv) (hn : lv.length = n) (hq : q < 4294967296) (h : x * pw (n + 1) ≤ q * val (lv.take (n + 1))) : x = 0 := by
 rcases Nat.eq_zero_or_pos x with h0 | h0
 ·exact h0
 ·exfalso
  have h1 := val_lt hL
  rw [List.take_of_length_le (by omega)] at h
  rw [hn] at h1
  have h2 : q * val lv < 4294967296 * pw n := Nat.mul_lt_mul'' hq h1
  have h3 := Nat.mul_le_mul_right (pw (n + 1)) h0
  rw [pw_succ] at h h3
  omega
theorem back_step {o lv : List Int} {lu : Nat} {k j x s : Nat} (hj : k + j < o.length) (hs : s = x + (lm o (k + j) + lm lv j))
  (h : val o + x * pw (k + j) = lu + val (lv.take j) * pw k) :
  val (o.set (k + j) ((s % 4294967296 : Nat) : Int)) + s / 4294967296 * pw (k + (j + 1)) = lu + val (lv.take (j + 1)) * pw k := by
 have h1 := val_set o (k + j) (s % 4294967296) hj
 rw [val_take_succ lv j, show k + (j + 1) = (k + j) + 1 from rfl, pw_succ (k + j)]
 rw [show (val (lv.take j) + pw j * lm lv j) * pw k = val (lv.take j) * pw k + pw (k + j) * lm lv j from by rw [Nat.add_mul, pw_add]; congr 1; ac_rfl]
 have e0 : 4294967296 * (s / 4294967296) + s % 4294967296 = x + (lm o (k + j) + lm lv j) := by rw [Nat.div_add_mod]; exact hs
 have e1 : pw (k + j) * (4294967296 * (s / 4294967296) + s % 4294967296) = pw (k + j) * (x + (lm o (k + j) + lm lv j)) := by rw [e0]
 have e2 : s / 4294967296 * (4294967296 * pw (k + j)) = pw (k + j) * (4294967296 * (s / 4294967296)) := by ac_rfl
 have e3 := Nat.mul_comm x (pw (k + j))
 simp only [Nat.mul_add] at e1
 omega
theorem top_zero {o : List Int} (hL : Lim o) {m : Nat} (h : ∀ j, m ≤ j → lm o j = 0) : val o < pw m := by
 have h1 := val_split o m
 have h2 : val (o.drop m) = 0 := by
  have : ∀ n, ∀ i, o.length - i = n → m ≤ i → val (o.drop i) = 0 := by
   intro n
   induction n with
   | zero => intro i hi _; rw [List.drop_of_length_le (by omega)]; rfl
   | succ n ih => intro i hi hm; rw [val_drop_at, h i hm, ih (i + 1) (by omega) (by omega)]
  exact this _ m rfl (Nat.le_refl _)
 have h3 := val_lt (hL.take m)
 rw [List.length_take] at h3
 have h4 := pw_le (show min m o.length ≤ m from Nat.min_le_left _ _)
 rw [h2] at h1
 omega
theorem lm_zero {l : List Int} (hL : Lim l) {m : Nat} (h : val l < pw m) : ∀ i, m ≤ i → lm l i = 0 := by
 intro i hi
 have h1 := val_at hL i
 rw [Nat.div_eq_of_lt (Nat.lt_of_lt_of_le h (pw_le hi))] at h1
 unfold lm
 rw [← h1]
 rfl
theorem div_fst {lu lv o : List Int} {j n q y : Nat} (hLu : Lim lu) (hLo : Lim o) (hLv : Lim lv) (hn : lv.length = n) (hlt : val lu < val lv * pw (j + 1)) (h1 : val lu / pw j / val lv ≤ q) (h2 : q ≤ val lu / pw j / val lv + 1) (hy : y ≤ 1)
  (hv : val o + q * val lv * pw j = val lu + y * pw (j + n + 1)) (ht : ∀ m, j + n + 1 ≤ m → lm o m = lm lu m) :
  (y = 0 → q = val lu / pw j / val lv) ∧ (y = 1 → q = val lu / pw j / val lv + 1) ∧ val lu < pw (j + n + 1) ∧ val o < pw (j + n + 1) := by
 have hVlt := val_lt hLv
 rw [hn] at hVlt
 have htop : val lu < pw (j + n + 1) := by
  have : val lv * pw (j + 1) ≤ pw n * pw (j + 1) := Nat.mul_le_mul_right _ (by omega)
  rw [← pw_add, show n + (j + 1) = j + n + 1 from by omega] at this
  omega
 have hot : val o < pw (j + n + 1) := top_zero hLo (fun m hm => by rw [ht m hm]; exact lm_zero hLu htop m hm)
 have hVpos : 0 < val lv := by
  rcases Nat.eq_zero_or_pos (val lv) with h | h
  ·rw [h, Nat.zero_mul] at hlt; omega
  ·exact h
 have hmul : 0 < pw j * val lv := Nat.mul_pos (pw_pos j) hVpos
 rw [Nat.div_div_eq_div_mul] at *
 have e : q * val lv * pw j = q * (pw j * val lv) := by rw [Nat.mul_assoc, Nat.mul_comm (val lv)]
 rw [e] at hv
 refine ⟨fun h => ?_, fun h => ?_, htop, hot⟩
 ·subst h
  have : q ≤ val lu / (pw j * val lv) := (Nat.le_div_iff_mul_le hmul).2 (by omega)
  omega
 ·subst h
  rcases Nat.lt_or_ge q (val lu / (pw j * val lv) + 1) with hlt' | hge
  ·have hle : q ≤ val lu / (pw j * val lv) := by omega
   have := (Nat.le_div_iff_mul_le hmul).1 hle
   omega
  ·omega
theorem div_snd {lu lv o o2 : List Int} {j n c : Nat} {Q : Nat} (hLo2 : Lim o2) (hc : c ≤ 1) (_htop : val lu < pw (j + n + 1)) (hL : Lim o) (hot : val o < pw (j + n + 1)) (hQ : Q * val lv * pw j ≤ val lu)
  (hv : val o + (Q + 1) * val lv * pw j = val lu + pw (j + n + 1)) (hb : val o2 + c * pw (j + n + 1) = val o + val lv * pw j) (ht : ∀ m, j + n + 1 ≤ m → lm o2 m = lm o m) : val o2 + Q * val lv * pw j = val lu := by
 have hot2 : val o2 < pw (j + n + 1) := top_zero hLo2 (fun m hm => by rw [ht m hm]; exact lm_zero hL hot m hm)
 rw [Nat.add_mul, Nat.one_mul, Nat.add_mul] at hv
 rcases (show c = 0 ∨ c = 1 by omega) with rfl | rfl
 ·omega
 ·omega
theorem div_rel {lu lv o2 out : List Int} {j A : Nat} (hV : 0 < val lv) (hj : j < out.length) (h2 : val o2 + (val lu / pw j / val lv) * val lv * pw j = val lu) (hA : val lu + val lv * (pw (j + 1) * val (out.drop (j + 1))) = A) :
  val o2 + val lv * (pw j * val ((out.set j ((val lu / pw j / val lv : Nat) : Int)).drop j)) = A ∧ val o2 < val lv * pw j := by
 generalize hQ : val lu / pw j / val lv = Q at *
 constructor
 ·rw [val_drop_at (out.set j (Q : Int)), lm_set_self hj, drop_set, ← hA, ← h2, Nat.mul_add, Nat.mul_add, pw_succ]
  have e1 : Q * val lv * pw j = val lv * (pw j * Q) := by ac_rfl
  have e2 : val lv * (pw j * (4294967296 * val (out.drop (j + 1)))) = val lv * (4294967296 * pw j * val (out.drop (j + 1))) := by ac_rfl
  omega
 ·rw [Nat.div_div_eq_div_mul] at hQ
  have h3 := Nat.div_add_mod (val lu) (pw j * val lv)
  rw [hQ] at h3
  have h4 := Nat.mod_lt (val lu) (Nat.mul_pos (pw_pos j) hV)
  have e1 : Q * val lv * pw j = pw j * val lv * Q := by ac_rfl
  rw [Nat.mul_comm (val lv)]
  omega
theorem div_start {x y s : Nat} (hs : s ≤ 31) (hle : (digs y).length ≤ (digs x).length) (hy : 2 ^ (32 * (digs y).length - 1) ≤ y * 2 ^ s) (hp : 0 < (digs y).length) : x * 2 ^ s < y * 2 ^ s * pw ((digs x).length - (digs y).length + 1) := by
 have h1 := lt_pw_digs x
 have h2 : x * 2 ^ s < pw (digs x).length * 2 ^ 31 := Nat.mul_lt_mul_of_lt_of_le h1 (Nat.pow_le_pow_right Z5 hs) (Nat.pow_pos Z5)
 have h3 := Nat.mul_le_mul_right (pw ((digs x).length - (digs y).length + 1)) hy
 have h4 : pw (digs x).length * 2 ^ 31 = 2 ^ (32 * (digs y).length - 1) * pw ((digs x).length - (digs y).length + 1) := by
  rw [pw_two, pw_two, ← Nat.pow_add, ← Nat.pow_add]
  congr 1
  omega
 omega
theorem div_end {x y s u q : Nat} (h : u + y * 2 ^ s * q = x * 2 ^ s) (hu : u < y * 2 ^ s) : q = x / y ∧ u / 2 ^ s = x % y := by
 have hp : 0 < 2 ^ s := Nat.pow_pos Z5
 have hy : 0 < y := by
  rcases Nat.eq_zero_or_pos y with h0 | h0
  ·rw [h0, Nat.zero_mul] at hu; omega
  ·exact h0
 have h1 : u = 2 ^ s * (x - y * q) := by
  rw [Nat.mul_sub, Nat.mul_comm _ x]
  have : 2 ^ s * (y * q) = y * 2 ^ s * q := by ac_rfl
  omega
 have h2 : y * q ≤ x := by
  refine Nat.le_of_mul_le_mul_right ?_ hp
  have : y * q * 2 ^ s = y * 2 ^ s * q := by ac_rfl
  omega
 have h3 : x - y * q < y := by
  refine Nat.lt_of_mul_lt_mul_right (a := 2 ^ s) ?_
  rw [Nat.mul_comm (x - y * q), ← h1]
  exact hu
 constructor
 ·have : x = y * q + (x - y * q) := by omega
  rw [this, Nat.mul_add_div hy, Nat.div_eq_of_lt h3, Nat.add_zero]
 ·rw [h1, Nat.mul_div_cancel_left _ hp]
  have : x = y * q + (x - y * q) := by omega
  conv => rhs; rw [this, Nat.mul_add_mod, Nat.mod_eq_of_lt h3]
theorem div_norm {y : Nat} (h : y ≠ 0) : (digs (y * 2 ^ (32 - nbits (lm (digs y) ((digs y).length - 1))))).length = (digs y).length ∧ 2 ^ (32 * (digs y).length - 1) ≤ y * 2 ^ (32 - nbits (lm (digs y) ((digs y).length - 1))) ∧
  2147483648 ≤ lm (digs (y * 2 ^ (32 - nbits (lm (digs y) ((digs y).length - 1))))) ((digs y).length - 1) ∧ 1 ≤ nbits (lm (digs y) ((digs y).length - 1)) ∧ nbits (lm (digs y) ((digs y).length - 1)) ≤ 32 := by
 have hlen : 0 < (digs y).length := by
  rcases Nat.eq_zero_or_pos (digs y).length with h0 | h0
  ·exact absurd (digs_length_zero.1 h0) h
  ·exact h0
 have ht := nbits_top (lim_digs y) (norm_digs y) hlen
 rw [val_digs] at ht
 have hb32 := nbits_limb (lm_lt (lim_digs y) ((digs y).length - 1))
 have hb1 : 1 ≤ nbits (lm (digs y) ((digs y).length - 1)) := by
  rcases Nat.eq_zero_or_pos (nbits (lm (digs y) ((digs y).length - 1))) with h0 | h0
  ·have hle := pw_le_of_digs h
   have h3 := lt_nbits y
   rw [ht, h0, Nat.add_zero, ← pw_two] at h3
   omega
  ·exact h0
 generalize nbits (lm (digs y) ((digs y).length - 1)) = t at *
 have hsh := nbits_shift h (32 - t)
 rw [ht] at hsh
 have hY0 : y * 2 ^ (32 - t) ≠ 0 := by
  have := Nat.mul_pos (Nat.pos_of_ne_zero h) (Nat.pow_pos (by decide : 0 < 2) (n := 32 - t))
  omega
 have hle := le_nbits hY0
 have hlt := lt_nbits (y * 2 ^ (32 - t))
 rw [hsh] at hle hlt
 rw [show 32 * ((digs y).length - 1) + t + (32 - t) = 32 * (digs y).length from by omega] at hle hlt
 have hl1 : (digs (y * 2 ^ (32 - t))).length ≤ (digs y).length := digs_length_le (by rw [pw_two]; exact hlt)
 have hl2 : (digs y).length ≤ (digs (y * 2 ^ (32 - t))).length := by
  refine Nat.le_of_not_lt fun hc => ?_
  have h1 := lt_pw_digs (y * 2 ^ (32 - t))
  have h2 := pw_le (show (digs (y * 2 ^ (32 - t))).length ≤ (digs y).length - 1 by omega)
  rw [pw_two ((digs y).length - 1)] at h2
  have h3 : 2 ^ (32 * ((digs y).length - 1)) ≤ 2 ^ (32 * (digs y).length - 1) := Nat.pow_le_pow_right Z5 (by omega)
  omega
 have heq : (digs (y * 2 ^ (32 - t))).length = (digs y).length := by omega
 refine ⟨heq, hle, ?_, hb1, hb32⟩
 have ht2 := nbits_top (lim_digs (y * 2 ^ (32 - t))) (norm_digs _) (by omega)
 rw [val_digs, hsh, heq] at ht2
 have h32 : nbits (lm (digs (y * 2 ^ (32 - t))) ((digs y).length - 1)) = 32 := by omega
 have hz : lm (digs (y * 2 ^ (32 - t))) ((digs y).length - 1) ≠ 0 := by
  intro h0
  rw [h0, nbits_zero] at h32
  omega
 have := le_nbits hz
 rw [h32] at this
 exact this
theorem rdiv_start {x y k : Nat} (hy : y ≠ 0) (h : nbits x = nbits y + k) : x < y * 2 ^ (k + 1) := by
 have h1 := lt_nbits x
 have h2 := le_nbits hy
 have h3 := nbits_pos hy
 have h4 := Nat.mul_le_mul_right (2 ^ (k + 1)) h2
 rw [← Nat.pow_add, show nbits y - 1 + (k + 1) = nbits x from by omega] at h4
 omega
theorem rdiv_less {x y : Nat} (h : nbits x < nbits y) : x < y := by
 refine Nat.lt_of_not_le fun c => ?_
 have := nbits_mono c
 omega
theorem rdiv_limb {q : List Int} {i s : Nat} (hL : Lim q) (hs : s < 32) (h : val q % 2 ^ (32 * i + s + 1) = 0) : lm q i % 2 ^ (s + 1) = 0 := by
 have h1 := val_at hL i
 have h2 : lm q i = val q / pw i % 4294967296 := by
  unfold lm
  rw [← h1]
  omega
 obtain ⟨m, hm⟩ := Nat.dvd_of_mod_eq_zero h
 rw [h2, hm, pw_two, show 32 * i + s + 1 = 32 * i + (s + 1) from rfl, Nat.pow_add, Nat.mul_assoc, Nat.mul_div_cancel_left _ (Nat.pow_pos Z5)]
 have hd : 2 ^ (s + 1) ∣ 4294967296 := by
  rw [show 4294967296 = 2 ^ 32 from by decide]
  exact Nat.pow_dvd_pow 2 (by omega)
 rw [Nat.mod_mod_of_dvd _ hd, Nat.mul_mod_right]
theorem rdiv_sum {L s : Nat} (hL : L < 4294967296) (hs : s < 32) (h : L % 2 ^ (s + 1) = 0) : L ||| 2 ^ s = L + 2 ^ s ∧ L + 2 ^ s < 4294967296 := by
 refine ⟨or_parts h (Nat.pow_lt_pow_right Z5 (Nat.lt_succ_self s)), ?_⟩
 obtain ⟨m, hm⟩ := Nat.dvd_of_mod_eq_zero h
 have e : 4294967296 = 2 ^ (s + 1) * 2 ^ (31 - s) := by rw [← Nat.pow_add, show s + 1 + (31 - s) = 32 from by omega]
 have h1 : m + 1 ≤ 2 ^ (31 - s) := by
  refine Nat.lt_of_mul_lt_mul_left (a := 2 ^ (s + 1)) ?_
  rw [← hm, ← e]
  exact hL
 have h2 := Nat.mul_le_mul_left (2 ^ (s + 1)) h1
 rw [← e, Nat.mul_add, ← hm, Nat.mul_one, Nat.pow_succ] at h2
 have := Nat.pow_pos (n := s) (show 0 < 2 by decide)
 omega
theorem rdiv_set {q : List Int} {i s : Nat} (hi : i < q.length) : val (q.set i ((lm q i + 2 ^ s : Nat) : Int)) = val q + 2 ^ (32 * i + s) := by
 have h := val_set q i (lm q i + 2 ^ s) hi
 rw [Nat.mul_add, pw_two, ← Nat.pow_add] at h
 omega
theorem rdiv_one {x y r q j : Nat} (h1 : x = r + y * q) (h2 : q % 2 ^ (j + 1) = 0) (h3 : r < y * 2 ^ (j + 1)) (hle : y * 2 ^ j ≤ r) :
  x = (r - y * 2 ^ j) + y * (q + 2 ^ j) ∧ (q + 2 ^ j) % 2 ^ j = 0 ∧ r - y * 2 ^ j < y * 2 ^ j := by
 rw [Nat.pow_succ, ← Nat.mul_assoc] at h3
 refine ⟨by rw [Nat.mul_add]; omega, ?_, by omega⟩
 have : 2 ^ j ∣ q := Nat.dvd_trans (Nat.pow_dvd_pow 2 (Nat.le_succ j)) (Nat.dvd_of_mod_eq_zero h2)
 exact Nat.mod_eq_zero_of_dvd (Nat.dvd_add this (Nat.dvd_refl _))
theorem rdiv_none {q j : Nat} (h2 : q % 2 ^ (j + 1) = 0) : q % 2 ^ j = 0 :=
 Nat.mod_eq_zero_of_dvd (Nat.dvd_trans (Nat.pow_dvd_pow 2 (Nat.le_succ j)) (Nat.dvd_of_mod_eq_zero h2))
theorem rdiv_end {x y r q : Nat} (h1 : x = r + y * q) (h3 : r < y) : q = x / y ∧ r = x % y := by
 have hy : 0 < y := by omega
 subst h1
 rw [Nat.add_mul_div_left _ _ hy, Nat.div_eq_of_lt h3, Nat.add_mul_mod_self_left, Nat.mod_eq_of_lt h3, Nat.zero_add]
 exact ⟨rfl, rfl⟩
theorem rdiv_half {y j : Nat} : y * 2 ^ (j + 1) / 2 = y * 2 ^ j := by
 rw [Nat.pow_succ, ← Nat.mul_assoc, Nat.mul_div_cancel _ Z5]
end Go.Proofs.YtpegcppeobndcaaGreatDoor.G
namespace Go.Proofs.YtpegcppeobndcaaGreatDoor.G
open Go.RowKit YtpegcppeobndcaaGreatDoorW.PrintWords YtpegcppeobndcaaGreatDoorW.PrintLast Go.Proofs.YtpegcppeobndcaaGreatDoor.Nn
abbrev Tch (g : Nat) (w w' : World) : Prop := w.grownBy w' (some g)
theorem tch_refl (g : Nat) (w : World) : Tch g w w := ⟨rfl, rfl, rfl, Nat.le_refl _, fun _ _ _ => rfl⟩
theorem tch_trans {g : Nat} {a b c : World} (h : Tch g a b) (k : Tch g b c) : Tch g a c :=
 ⟨k.os.trans h.os, k.tape.trans h.tape, k.output.trans h.output, Nat.le_trans h.size k.size, fun i hi hne => (k.block i (Nat.lt_of_lt_of_le hi h.size) hne).trans (h.block i hi hne)⟩
theorem tch_set {g : Nat} {a w : World} (h : Tch g a w) (i : Nat) (u : Value) : Tch g a (w.setCell ⟨g, i, none⟩ u) :=
 tch_trans h ⟨rfl, rfl, rfl, by simp [World.setCell], fun k hk hne => Below.heap_setCell _ _ _ _ (by intro e; exact hne (by rw [e]))⟩
theorem tch_drew {g : Nat} {a w : World} (h : Tch g a w) : Tch g a w.drew := ⟨h.os, h.tape, h.output, h.size, h.block⟩
theorem tch_below {g B : Nat} {w w' : World} (h : Tch g w w') (hg : B ≤ g) (hB : B ≤ w.heap.size) : Below B w w' :=
 ⟨h.os, h.tape, h.output, h.size, fun k hk => h.block k (by omega) (by intro e; have := Option.some.inj e; omega)⟩
theorem RU_tch {w w' : World} {g g' base n c : Nat} {l : List Int} (h : RU w base (.slice (some ⟨g', 0, none⟩) n c) l) (ht : Tch g w w') (hne : g' ≠ g) : RU w' base (.slice (some ⟨g', 0, none⟩) n c) l :=
 RU_own ((own_RU h).kept ht (.inr (by simpa [Value.ownBlock] using hne)))
theorem CU_tch {w w' : World} {g g' base n c : Nat} {l : List Int} (h : RU w base (.slice (some ⟨g', 0, none⟩) n c) l) (hn : l.length = n) (ht : Tch g w w') (hne : g' ≠ g) : CU w' (some ⟨g', 0, none⟩) l.length l := by
 obtain ⟨A, c', e, _, hC⟩ := RU_slice (RU_tch h ht hne)
 cases e
 exact hC
def TakePost (gu base : Nat) (w : World) (lu lv : List Int) (k q : Nat) (e : Ending) (w' : World) : Prop :=
 ∃ (o : List Int) (y : Nat), e = .returned (.bool (decide (0 < y))) ∧ y ≤ 1 ∧ o.length = lu.length ∧ Lim o ∧ val o + q * val lv * pw k = val lu + y * pw (k + lv.length + 1) ∧
  (∀ m, k + lv.length + 1 ≤ m → lm o m = lm lu m) ∧ RU w' base (.slice (some ⟨gu, 0, none⟩) lu.length lu.length) o ∧ Tch gu w w'
theorem take_post {gu base : Nat} {w w' : World} {lu lv : List Int} {k q : Nat} {o : List Int} {x y : Nat} (hL : Lim lv) (hq : q < 4294967296) (hy : y ≤ 1)
  (HO : o.length = lu.length ∧ Lim o ∧ val o + q * val (lv.take (lv.length + 1)) * pw k = val lu + (x + y) * pw (k + (lv.length + 1)) ∧ x * pw (lv.length + 1) ≤ q * val (lv.take (lv.length + 1)) ∧ (∀ m, k + (lv.length + 1) ≤ m → lm o m = lm lu m) ∧ RU w' base (.slice (some ⟨gu, 0, none⟩) lu.length lu.length) o)
  (HT : Tch gu w w') : TakePost gu base w lu lv k q (.returned (.bool (decide (0 < y)))) w' := by
 have hx := take_last hL rfl hq HO.2.2.2.1
 subst hx
 have h := HO.2.2.1
 rw [List.take_of_length_le (by omega), Nat.zero_add] at h
 exact ⟨o, y, rfl, hy, HO.1, HO.2.1, h, HO.2.2.2.2.1, HO.2.2.2.2.2, HT⟩
theorem take_w (gu base : Nat) (lu lv : List Int) (A1 : Option Addr) (c1 k q : Nat) (w : World) (hu : RU w base (.slice (some ⟨gu, 0, none⟩) lu.length lu.length) lu)
  (hv : ∀ w', Tch gu w w' → CU w' A1 lv.length lv) (hLu : Lim lu) (hLv : Lim lv) (hk : k + lv.length + 1 ≤ lu.length) (hl : lu.length < 1000000) (hq : q < 4294967296) :
  Calls Tryz.prog 116 #[.slice (some ⟨gu, 0, none⟩) lu.length lu.length, .slice A1 lv.length c1, .int .i64 (k : Int), .int .u64 (q : Int)] w (TakePost gu base w lu lv k q) := by
 have HU := Aside0.mk hu
 have HV := Aside0.mk hv
 clear hu hv
 go_enter Tryz.func116, Tryz.ntmps116
 go_wp2_with fail
 go_loopw [9, 10, 16] (fun cc bb ii wr => ∃ (j x y : Nat) (o : List Int), j ≤ lv.length + 1 ∧ ii = .int .i64 (j : Int) ∧ cc = .int .u64 (x : Int) ∧ x < 4294967296 ∧ bb = .int .u64 (y : Int) ∧ y ≤ 1 ∧ Aside0 (o.length = lu.length ∧ Lim o ∧ val o + q * val (lv.take j) * pw k = val lu + (x + y) * pw (k + j) ∧ x * pw j ≤ q * val (lv.take j) ∧ (∀ m, k + j ≤ m → lm o m = lm lu m) ∧ RU wr base (.slice (some ⟨gu, 0, none⟩) lu.length lu.length) o) ∧ Aside0 (Tch gu w wr)) (fun _ _ ii _ => lv.length + 1 - (intOf ii).toNat)
 case atStart => exact ⟨0, 0, 0, lu, Nat.zero_le _, rfl, rfl, by omega, rfl, by omega, ⟨rfl, hLu, by simp [val], by simp, fun _ _ => rfl, HU.out⟩, ⟨tch_refl _ _⟩⟩
 case round =>
  obtain ⟨j, x, y, o, hj, rfl, rfl, hx, rfl, hy, HO, HT⟩ := hrel
  by_cases hjN : j < lv.length + 1
  ·obtain ⟨hc1, hc2⟩ := RU_at HO.out.2.2.2.2.2 HO.out.1 (k + j) (by omega)
   rw [lm_cast HO.out.2.1] at hc1
   have HAT := at_w A1 c1 lv j wr (HV.out _ HT.out) hLv (by omega) (by omega)
   have ha := lm_lt HO.out.2.1 (k + j)
   have hb := lm_lt hLv j
   obtain ⟨a, hae⟩ : ∃ a, a = lm o (k + j) := ⟨_, rfl⟩
   obtain ⟨b, hbe⟩ : ∃ b, b = lm lv j := ⟨_, rfl⟩
   rw [← hae] at hc1 ha
   rw [← hbe] at HAT hb
   have HAT := Aside0.mk HAT
   have htb := take_bound hx hq hb
   have hmw := mul_wrap hq hb
   obtain ⟨p, hp⟩ : ∃ p, p = q * b := ⟨_, rfl⟩
   rw [← hp] at htb hmw
   obtain ⟨s, hs⟩ : ∃ s, s = x + p := ⟨_, rfl⟩
   rw [← hs] at htb
   obtain ⟨hs64, hsd⟩ := htb
   have hw1 : IntKind.u64.wrap ((x : Int) + (p : Int)) = (s : Int) := by rw [u64_in (by omega) (by omega)]; omega
   have hsm : s % 4294967296 < 4294967296 := Nat.mod_lt _ Z5
   obtain ⟨s0, hs0⟩ : ∃ s0, s0 = s % 4294967296 := ⟨_, rfl⟩
   rw [← hs0] at hsm
   have hsc : (s : Int) % 4294967296 = (s0 : Int) := by omega
   have hdw := dif_wrap ha hsm hy
   obtain ⟨D, hD⟩ : ∃ D, D = dif a s0 y := ⟨_, rfl⟩
   rw [← hD] at hdw
   have hDlt : D < 18446744073709551616 := by rw [hD]; exact dif_lt _ _ _
   have hDe := dif_low hD ha hsm hy
   have HDE := Aside0.mk (show D % 4294967296 + s % 4294967296 + y = lm o (k + j) + 4294967296 * (D / 9223372036854775808) by rw [← hae, ← hs0]; exact hDe.1)
   have hDy := hDe.2
   have HS := Aside0.mk (show s = x + q * lm lv j by rw [← hbe, ← hp]; exact hs)
   clear hae hbe hD hDe hp hs hs0
   go_wp2_with fail
   refine HAT.out.mono ?_
   rintro e w1 ⟨rfl, rfl⟩
   go_wp2_with fail
   go_roundw
   case rel => exact ⟨j + 1, s / 4294967296, D / 9223372036854775808, o.set (k + j) ((D % 4294967296 : Nat) : Int), by omega, by go_num, by go_num, hsd, by go_num, hDy, ⟨by rw [List.length_set]; exact HO.out.1, HO.out.2.1.set (k + j) (by omega) (by omega), take_step Z45 HDE.out HS.out HO.out.2.2.1, take_carry HS.out HO.out.2.2.2.1, fun m hm => by rw [lm_set_ne (by omega)]; exact HO.out.2.2.2.2.1 m (by omega), by have := RU_set HO.out.2.2.2.2.2 HO.out.1 (k + j) ((D % 4294967296 : Nat) : Int); simpa using this⟩, ⟨tch_set HT.out _ _⟩⟩
   case measure => simp [intOf]; omega
  ·have hj2 : j = lv.length + 1 := by omega
   subst hj2
   go_wp2_with fail
   go_ret
   exact take_post hLv hq hy HO.out HT.out
def BackPost (gu base : Nat) (w : World) (lu lv : List Int) (k : Nat) (e : Ending) (w' : World) : Prop :=
 ∃ (o : List Int) (y : Nat), e = .returned (.tuple #[]) ∧ y ≤ 1 ∧ o.length = lu.length ∧ Lim o ∧ val o + y * pw (k + lv.length + 1) = val lu + val lv * pw k ∧
  (∀ m, k + lv.length + 1 ≤ m → lm o m = lm lu m) ∧ RU w' base (.slice (some ⟨gu, 0, none⟩) lu.length lu.length) o ∧ Tch gu w w'
theorem back_post {gu base : Nat} {w w' : World} {lu lv : List Int} {k : Nat} {o : List Int} {y : Nat} (hy : y ≤ 1)
  (HO : o.length = lu.length ∧ Lim o ∧ val o + y * pw (k + (lv.length + 1)) = val lu + val (lv.take (lv.length + 1)) * pw k ∧ (∀ m, k + (lv.length + 1) ≤ m → lm o m = lm lu m) ∧ RU w' base (.slice (some ⟨gu, 0, none⟩) lu.length lu.length) o)
  (HT : Tch gu w w') : BackPost gu base w lu lv k (.returned (.tuple #[])) w' := by
 have h := HO.2.2.1
 rw [List.take_of_length_le (by omega)] at h
 exact ⟨o, y, rfl, hy, HO.1, HO.2.1, h, HO.2.2.2.1, HO.2.2.2.2, HT⟩
theorem back_w (gu base : Nat) (lu lv : List Int) (A1 : Option Addr) (c1 k : Nat) (w : World) (hu : RU w base (.slice (some ⟨gu, 0, none⟩) lu.length lu.length) lu)
  (hv : ∀ w', Tch gu w w' → CU w' A1 lv.length lv) (hLu : Lim lu) (hLv : Lim lv) (hk : k + lv.length + 1 ≤ lu.length) (hl : lu.length < 1000000) :
  Calls Tryz.prog 117 #[.slice (some ⟨gu, 0, none⟩) lu.length lu.length, .slice A1 lv.length c1, .int .i64 (k : Int)] w (BackPost gu base w lu lv k) := by
 have HU := Aside0.mk hu
 have HV := Aside0.mk hv
 clear hu hv
 go_enter Tryz.func117, Tryz.ntmps117
 go_wp2_with fail
 go_loopw [6, 11] (fun cc ii wr => ∃ (j x : Nat) (o : List Int), j ≤ lv.length + 1 ∧ ii = .int .i64 (j : Int) ∧ cc = .int .u64 (x : Int) ∧ x ≤ 1 ∧ Aside0 (o.length = lu.length ∧ Lim o ∧ val o + x * pw (k + j) = val lu + val (lv.take j) * pw k ∧ (∀ m, k + j ≤ m → lm o m = lm lu m) ∧ RU wr base (.slice (some ⟨gu, 0, none⟩) lu.length lu.length) o) ∧ Aside0 (Tch gu w wr)) (fun _ ii _ => lv.length + 1 - (intOf ii).toNat)
 case atStart => exact ⟨0, 0, lu, Nat.zero_le _, rfl, rfl, by omega, ⟨rfl, hLu, by simp [val], fun _ _ => rfl, HU.out⟩, ⟨tch_refl _ _⟩⟩
 case round =>
  obtain ⟨j, x, o, hj, rfl, rfl, hx, HO, HT⟩ := hrel
  by_cases hjN : j < lv.length + 1
  ·obtain ⟨hc1, hc2⟩ := RU_at HO.out.2.2.2.2 HO.out.1 (k + j) (by omega)
   rw [lm_cast HO.out.2.1] at hc1
   have HAT := fun (W : World) (h : Tch gu w W) => at_w A1 c1 lv j W (HV.out _ h) hLv (by omega) (by omega)
   have HT1 := Aside0.mk (tch_drew HT.out)
   have ha := lm_lt HO.out.2.1 (k + j)
   have hb := lm_lt hLv j
   obtain ⟨a, hae⟩ : ∃ a, a = lm o (k + j) := ⟨_, rfl⟩
   obtain ⟨b, hbe⟩ : ∃ b, b = lm lv j := ⟨_, rfl⟩
   rw [← hae] at hc1 ha
   rw [← hbe] at HAT hb
   have HAT := Aside0.mk HAT
   have hw3 : IntKind.i64.wrap ((k : Int) + (j : Int)) = (k : Int) + (j : Int) := i64_in' (by omega) (by omega)
   have hw4 : ((k : Int) + (j : Int)).toNat = k + j := by omega
   have HS := Aside0.mk (show x + (a + b) = x + (lm o (k + j) + lm lv j) by rw [← hbe, ← hae])
   clear hae hbe
   go_wp2_with fail
   go_region_with (go_at_call 100; refine (HAT.out _ HT1.out).mono ?_; rintro e w1 ⟨rfl, rfl⟩)
   all_goals go_wp2_with fail
   all_goals go_roundw
   all_goals first
    | exact ⟨j + 1, (x + (a + b)) / 4294967296, o.set (k + j) (((x + (a + b)) % 4294967296 : Nat) : Int), by omega, by go_num, by go_num, by omega, ⟨by rw [List.length_set]; exact HO.out.1, HO.out.2.1.set (k + j) (by omega) (by omega), back_step Z45 HS.out HO.out.2.2.1, fun m hm => by rw [lm_set_ne (by omega)]; exact HO.out.2.2.2.1 m (by omega), by have := (RU_set HO.out.2.2.2.2 HO.out.1 (k + j) (((x + (a + b)) % 4294967296 : Nat) : Int)).drew_; simpa using this⟩, ⟨tch_drew (tch_set HT.out _ _)⟩⟩
    | (simp [intOf]; omega)
  ·have hj2 : j = lv.length + 1 := by omega
   subst hj2
   go_wp2_with fail
   go_end0
   exact back_post hx HO.out HT.out
abbrev Qt (w w' : World) : Prop := w.grownBy w' none
theorem qt_refl (w : World) : Qt w w := ⟨rfl, rfl, rfl, Nat.le_refl _, fun _ _ _ => rfl⟩
theorem qt_tch {w w' : World} (h : Qt w w') (g : Nat) : Tch g w w' := ⟨h.os, h.tape, h.output, h.size, fun k hk _ => h.block k hk (fun e => by cases e)⟩
theorem qt_below {w w' : World} (h : Qt w w') : Below w.heap.size w w' := ⟨h.os, h.tape, h.output, h.size, fun k hk => h.block k hk (fun e => by cases e)⟩
theorem below_qt {w w' : World} (h : Below w.heap.size w w') : Qt w w' := ⟨h.os, h.tape, h.output, h.size, fun k hk _ => h.block k hk⟩
theorem qt_trans {a b c : World} (h : Qt a b) (k : Qt b c) : Qt a c :=
 ⟨k.os.trans h.os, k.tape.trans h.tape, k.output.trans h.output, Nat.le_trans h.size k.size, fun i hi hne => (k.block i (Nat.lt_of_lt_of_le hi h.size) hne).trans (h.block i hi hne)⟩
theorem qt_drewN {a w : World} (h : Qt a w) (n : Nat) : Qt a (w.drewN n) := qt_trans h (below_qt (pw_below_drewN (Below.refl w.heap.size w) n))
structure Gs (t v1 v2 u2 Q : Nat) : Prop where
 pos : 2147483648 ≤ v1
 top : t ≤ v1 * 4294967296 + 4294967295
 init : Q ≤ t / v1
 less : Q < 4294967296
 over : ∀ q r, q * v1 + r = t → r * 4294967296 + u2 < q * v2 → Q < q
 done : ∀ q r, q * v1 + r = t → q * v2 ≤ r * 4294967296 + u2 → q < 4294967296 → q ≤ Q + 1
def GuessPost (w : World) (Q : Nat) (e : Ending) (w' : World) : Prop := ∃ q : Nat, e = .returned (.int .u64 (q : Int)) ∧ Q ≤ q ∧ q ≤ Q + 1 ∧ q < 4294967296 ∧ Qt w w'
theorem gs_next {t v1 v2 u2 Q q r : Nat} (g : Gs t v1 v2 u2 Q) (h : q * v1 + r = t) (hQ : Q < q) : (q - 1) * v1 + (r + v1) = t := by
 obtain ⟨p, rfl⟩ : ∃ p, q = p + 1 := ⟨q - 1, by omega⟩
 rw [Nat.add_sub_cancel, ← h, Nat.add_mul]
 omega
theorem gs_break {t v1 v2 u2 Q q r : Nat} (g : Gs t v1 v2 u2 Q) (hv2 : v2 < 4294967296) (h : q * v1 + r = t) (hr : 4294967296 ≤ r) : q < 4294967296 ∧ q ≤ Q + 1 := by
 have h1 := g.top
 have h2 := g.pos
 have h3 : q < 4294967296 := by
  refine Nat.lt_of_not_le fun hge => ?_
  have := Nat.mul_le_mul_right v1 hge
  rw [Nat.mul_comm v1] at h1
  omega
 refine ⟨h3, g.done q r h ?_ h3⟩
 have h4 : q * v2 ≤ 4294967296 * 4294967296 := Nat.mul_le_mul (by omega) (by omega)
 have h5 := Nat.mul_le_mul_right 4294967296 hr
 omega
theorem gs_small {t v1 v2 u2 Q q r : Nat} (g : Gs t v1 v2 u2 Q) (h : q * v1 + r = t) : q < 8589934594 := by
 have h1 := g.top
 have h2 := g.pos
 refine Nat.lt_of_not_le fun hge => ?_
 have := Nat.mul_le_mul_right v1 hge
 omega
theorem guess_w (gu base : Nat) (lu lv : List Int) (A1 : Option Addr) (c1 k n Q : Nat) (w : World) (hu : RU w base (.slice (some ⟨gu, 0, none⟩) lu.length lu.length) lu)
  (hv : CU w A1 n lv) (hn : lv.length = n) (hLu : Lim lu) (hLv : Lim lv) (hk : k + n + 1 ≤ lu.length) (hl : lu.length < 1000000) (h2 : 2 ≤ n)
  (hg : Gs (lm lu (k + n) * 4294967296 + lm lu (k + n - 1)) (lm lv (n - 1)) (lm lv (n - 2)) (lm lu (k + n - 2)) Q) :
  Calls Tryz.prog 115 #[.slice (some ⟨gu, 0, none⟩) lu.length lu.length, .slice A1 n c1, .int .i64 (k : Int)] w (GuessPost w Q) := by
 have HU := Aside0.mk hu
 have HV := Aside0.mk hv
 clear hu hv
 have e0 := lm_cast hLu (k + n)
 have e1 := lm_cast hLu (k + n - 1)
 have e2 := lm_cast hLu (k + n - 2)
 have e3 := lm_cast hLv (n - 1)
 have e4 := lm_cast hLv (n - 2)
 have b0 := lm_lt hLu (k + n)
 have b1 := lm_lt hLu (k + n - 1)
 have b2 := lm_lt hLu (k + n - 2)
 have b3 := lm_lt hLv (n - 1)
 have b4 := lm_lt hLv (n - 2)
 generalize lm lu (k + n) = u0 at e0 b0 hg
 generalize lm lu (k + n - 1) = u1 at e1 b1 hg
 generalize lm lu (k + n - 2) = u2 at e2 b2 hg
 generalize lm lv (n - 1) = v1 at e3 b3 hg
 generalize lm lv (n - 2) = v2 at e4 b4 hg
 have hv1 := hg.pos
 have hUC : ∀ W, Qt w W → W.cell? ⟨gu, k + n, none⟩ = some (.int .u32 (u0 : Int)) ∧ W.cell? ⟨gu, k + n - 1, none⟩ = some (.int .u32 (u1 : Int)) ∧ W.cell? ⟨gu, k + n - 2, none⟩ = some (.int .u32 (u2 : Int)) := by
  intro W hW
  have hR := RU_below HU.out (qt_below hW)
  have h0 := (RU_at hR rfl (k + n) (by omega)).1
  have h1 := (RU_at hR rfl (k + n - 1) (by omega)).1
  have h2 := (RU_at hR rfl (k + n - 2) (by omega)).1
  rw [e0] at h0; rw [e1] at h1; rw [e2] at h2
  exact ⟨h0, h1, h2⟩
 obtain ⟨ad, hA, _⟩ := CU_at HV.out 0 (by omega)
 subst hA
 have hVC : ∀ W, Qt w W → W.cell? (ad.add (n - 1)) = some (.int .u32 (v1 : Int)) ∧ W.cell? (ad.add (n - 2)) = some (.int .u32 (v2 : Int)) := by
  intro W hW
  have hC := CU_below HV.out (qt_below hW)
  obtain ⟨a1, x1, h1⟩ := CU_at hC (n - 1) (by omega)
  obtain ⟨a2, x2, h2⟩ := CU_at hC (n - 2) (by omega)
  cases x1; cases x2
  rw [e3] at h1; rw [e4] at h2
  exact ⟨h1, h2⟩
 have HUC := Aside0.mk hUC
 have HVC := Aside0.mk hVC
 have HG := Aside0.mk hg
 clear e0 e1 e2 e3 e4 hUC hVC
 obtain ⟨hc0, hc1, hc2⟩ := HUC.out w (qt_refl w)
 obtain ⟨hd1, hd2⟩ := HVC.out w (qt_refl w)
 have hor := or_high2 b1 b0
 obtain ⟨t, ht⟩ : ∃ t, t = u1 + u0 * 4294967296 := ⟨_, rfl⟩
 rw [← ht] at hor
 have ht64 : t < 18446744073709551616 := by omega
 have HG := Aside0.mk (show Gs t v1 v2 u2 Q by rw [ht, Nat.add_comm]; exact HG.out)
 clear hg ht
 have hw1 : IntKind.i64.wrap ((k : Int) + (n : Int)) = (k : Int) + (n : Int) := i64_in' (by omega) (by omega)
 have hw2 : IntKind.i64.wrap ((k : Int) + (n : Int) - 1) = (k : Int) + (n : Int) - 1 := i64_in' (by omega) (by omega)
 have hw3 : IntKind.i64.wrap ((k : Int) + (n : Int) - 2) = (k : Int) + (n : Int) - 2 := i64_in' (by omega) (by omega)
 have hw4 : IntKind.i64.wrap ((n : Int) - 1) = (n : Int) - 1 := i64_in' (by omega) (by omega)
 have hw5 : IntKind.i64.wrap ((n : Int) - 2) = (n : Int) - 2 := i64_in' (by omega) (by omega)
 have hi1 : ((k : Int) + (n : Int)).toNat = k + n := by omega
 have hi2 : ((k : Int) + (n : Int) - 1).toNat = k + n - 1 := by omega
 have hi3 : ((k : Int) + (n : Int) - 2).toNat = k + n - 2 := by omega
 have hi4 : ((n : Int) - 1).toNat = n - 1 := by omega
 have hi5 : ((n : Int) - 2).toNat = n - 2 := by omega
 have hj1 : (0 : Int) ≤ (k : Int) + (n : Int) ∧ (k : Int) + (n : Int) < (lu.length : Int) := by omega
 have hj2 : (0 : Int) ≤ (k : Int) + (n : Int) - 1 ∧ (k : Int) + (n : Int) - 1 < (lu.length : Int) := by omega
 have hj3 : (0 : Int) ≤ (k : Int) + (n : Int) - 2 ∧ (k : Int) + (n : Int) - 2 < (lu.length : Int) := by omega
 obtain ⟨q0, hq0⟩ : ∃ q0, q0 = t / v1 := ⟨_, rfl⟩
 obtain ⟨r0, hr0⟩ : ∃ r0, r0 = t % v1 := ⟨_, rfl⟩
 have HQ0 := Aside0.mk (show q0 * v1 + r0 = t by rw [hq0, hr0, Nat.mul_comm]; exact Nat.div_add_mod t v1)
 have HQ1 := Aside0.mk (show Q ≤ q0 by rw [hq0]; exact HG.out.init)
 have hr9 : r0 < 4294967296 := by have := Nat.mod_lt t (show 0 < v1 by omega); omega
 have hqc : (t : Int) / (v1 : Int) = (q0 : Int) := by rw [hq0]; rfl
 have hrc : (t : Int) % (v1 : Int) = (r0 : Int) := by rw [hr0]; rfl
 have hq9 := gs_small HG.out HQ0.out
 have hz0 : ((v1 : Int) == 0) = false := by rw [beq_eq_false_iff_ne]; omega
 have hz1 : ¬ (v1 = 0) := by omega
 clear hq0 hr0
 go_enter Tryz.func115, Tryz.ntmps115
 go_wp2_with fail
 go_quiet (fail)
 clear hc0 hc1 hc2 hd1 hd2 hor hw1 hw2 hi1 hi2 hj1 hj2
 have HW1 := Aside0.mk (qt_drewN (qt_refl w) nq)
 generalize w.drewN nq = w1 at HW1 ⊢
 obtain ⟨hd1, hd2⟩ := HVC.out w1 HW1.out
 go_wp2_with fail
 have HRC := Aside0.mk hrc
 clear hd1 hd2 hqc hrc
 go_loopw [9, 10] (fun qq rr wr => ∃ (q r : Nat), qq = .int .u64 (q : Int) ∧ rr = .int .u64 (r : Int) ∧ r < 4294967296 ∧ q < 8589934594 ∧ Aside0 (q * v1 + r = t ∧ Q ≤ q) ∧ Aside0 (Qt w wr)) (fun qq _ _ => (intOf qq).toNat)
 case atStart => exact ⟨q0, r0, by go_num, by first | rfl | rw [HRC.out], hr9, hq9, ⟨HQ0.out, HQ1.out⟩, ⟨HW1.out⟩⟩
 case round =>
  clear HQ0 HQ1 hr9 hq9 HW1
  obtain ⟨q, r, rfl, rfl, hr, hq, HQ, HT⟩ := hrel
  obtain ⟨hc0, hc1, hc2⟩ := HUC.out wr HT.out
  obtain ⟨hd1, hd2⟩ := HVC.out wr HT.out
  have hw1 : IntKind.i64.wrap ((k : Int) + (n : Int)) = (k : Int) + (n : Int) := i64_in' (by omega) (by omega)
  by_cases hqB : q < 4294967296
  ·have hqs : (q : Int) / 4294967296 = 0 := by omega
   have hm := take_bound (x := 0) Z5 hqB b4
   have hmw := mul_wrap hqB b4
   obtain ⟨p, hp⟩ : ∃ p, p = q * v2 := ⟨_, rfl⟩
   rw [← hp] at hmw hm
   have hor := or_high2 b2 hr
   obtain ⟨z, hz⟩ : ∃ z, z = u2 + r * 4294967296 := ⟨_, rfl⟩
   rw [← hz] at hor
   have hpw : p < 18446744073709551616 := by omega
   have hzw : z < 18446744073709551616 := by omega
   by_cases hpz : z < p
   ·have HPZ := Aside0.mk (show r * 4294967296 + u2 < q * v2 by rw [← hp]; omega)
    have hgt : decide ((z : Int) < (p : Int)) = true := by rw [decide_eq_true_iff]; omega
    go_wp2_with fail
    go_quiet (fail)
    clear hc0 hc1 hc2 hd1 hd2 hmw hor hw1
    have HW2 := Aside0.mk (qt_drewN HT.out nq)
    generalize wr.drewN nq = w2 at HW2 ⊢
    obtain ⟨hd1, hd2⟩ := HVC.out w2 HW2.out
    have HLT := Aside0.mk (show Q < q from HG.out.over q r HQ.out.1 (by have := HPZ.out; omega))
    have HNX := Aside0.mk (gs_next HG.out HQ.out.1 HLT.out)
    have hq1 : 1 ≤ q := by have := HLT.out; omega
    have hqw : IntKind.u64.wrap ((q : Int) - 1) = ((q - 1 : Nat) : Int) := by rw [u64_in (by omega) (by omega)]; omega
    by_cases hbr : 4294967296 ≤ r + v1
    ·have HBR := Aside0.mk (gs_break HG.out b4 HNX.out hbr)
     have hbd : 0 < ((r : Int) + (v1 : Int)) / 4294967296 := by omega
     go_wp2_with fail
     go_ret
     exact ⟨q - 1, by go_num, by have := HLT.out; omega, HBR.out.2, HBR.out.1, HW2.out⟩
    ·have hbd : ((r : Int) + (v1 : Int)) / 4294967296 = 0 := by omega
     go_wp2_with fail
     go_roundw
     case rel => exact ⟨q - 1, r + v1, by go_num, by go_num, by omega, by omega, ⟨HNX.out, by have := HLT.out; omega⟩, ⟨HW2.out⟩⟩
     case measure => simp [intOf]; omega
   ·have HPZ := Aside0.mk (show q * v2 ≤ r * 4294967296 + u2 by rw [← hp]; omega)
    have hgt : decide ((z : Int) < (p : Int)) = false := by rw [decide_eq_false_iff_not]; omega
    go_wp2_with fail
    go_quiet (fail)
    clear hc0 hc1 hc2 hd1 hd2 hmw hor hw1
    have HW2 := Aside0.mk (qt_drewN HT.out nq)
    generalize wr.drewN nq = w2 at HW2 ⊢
    have HDN := Aside0.mk (show q ≤ Q + 1 from HG.out.done q r HQ.out.1 (by have := HPZ.out; omega) hqB)
    go_wp2_with fail
    go_ret
    exact ⟨q, rfl, HQ.out.2, HDN.out, hqB, HW2.out⟩
  ·have hqs : decide ((0 : Int) < (q : Int) / 4294967296) = true := by rw [decide_eq_true_iff]; omega
   go_wp2_with fail
   go_quiet (fail)
   clear hc0 hc1 hc2 hd1 hd2 hw1
   have HW2 := Aside0.mk (qt_drewN HT.out nq)
   generalize wr.drewN nq = w2 at HW2 ⊢
   obtain ⟨hd1, hd2⟩ := HVC.out w2 HW2.out
   have HLT := Aside0.mk (show Q < q from Nat.lt_of_lt_of_le HG.out.less (by omega))
   have HNX := Aside0.mk (gs_next HG.out HQ.out.1 HLT.out)
   have hq1 : 1 ≤ q := by have := HLT.out; omega
   have hqw : IntKind.u64.wrap ((q : Int) - 1) = ((q - 1 : Nat) : Int) := by rw [u64_in (by omega) (by omega)]; omega
   by_cases hbr : 4294967296 ≤ r + v1
   ·have HBR := Aside0.mk (gs_break HG.out b4 HNX.out hbr)
    have hbd : 0 < ((r : Int) + (v1 : Int)) / 4294967296 := by omega
    go_wp2_with fail
    go_ret
    exact ⟨q - 1, by go_num, by have := HLT.out; omega, HBR.out.2, HBR.out.1, HW2.out⟩
   ·have hbd : ((r : Int) + (v1 : Int)) / 4294967296 = 0 := by omega
    go_wp2_with fail
    go_roundw
    case rel => exact ⟨q - 1, r + v1, by go_num, by go_num, by omega, by omega, ⟨HNX.out, by have := HLT.out; omega⟩, ⟨HW2.out⟩⟩
    case measure => simp [intOf]; omega
def ov : List Int → Nat → List Int → List Int
 | l, _, [] => l
 | l, o, v :: vs => ov (l.set o v) (o + 1) vs
theorem ov_length (vs : List Int) : ∀ (l : List Int) (o : Nat), (ov l o vs).length = l.length := by
 induction vs with
 | nil => intro l o; rfl
 | cons v vs ih => intro l o; rw [ov, ih, List.length_set]
theorem ov_eq (vs : List Int) : ∀ (l : List Int) (o : Nat), o + vs.length ≤ l.length → ov l o vs = l.take o ++ (vs ++ l.drop (o + vs.length)) := by
 induction vs with
 | nil => intro l o _; rw [ov, List.nil_append, List.length_nil, Nat.add_zero, List.take_append_drop]
 | cons v vs ih =>
  intro l o h
  simp only [List.length_cons] at h
  rw [ov, ih (l.set o v) (o + 1) (by rw [List.length_set]; omega), List.take_succ_eq_append_getElem (by rw [List.length_set]; omega), List.getElem_set_self, List.take_set, List.set_eq_of_length_le Z49, List.drop_set_of_lt (by omega)]
  simp [List.append_assoc, Nat.add_assoc, Nat.add_comm 1]
theorem RU_setCells {base g n cap : Nat} (vs : List Int) : ∀ {w : World} {l : List Int} (o : Nat), RU w base (.slice (some ⟨g, 0, none⟩) n cap) l → l.length = n → RU (w.setCells g o (nums .u32 vs)) base (.slice (some ⟨g, 0, none⟩) n cap) (ov l o vs) := by
 induction vs with
 | nil => intro w l o h hn; exact h
 | cons v vs ih =>
  intro w l o h hn
  exact ih (o + 1) (RU_set h hn o v) (by rw [List.length_set]; exact hn)
theorem tch_setCells {g : Nat} (vs : List Value) : ∀ {a w : World} (o : Nat), Tch g a w → Tch g a (w.setCells g o vs) := by
 induction vs with
 | nil => intro a w o h; exact h
 | cons v vs ih => intro a w o h; exact ih (o + 1) (tch_set h o v)
theorem nums_at {vs : List Int} {j : Nat} {v : Value} (h : (nums .u32 vs)[j]? = some v) : j < vs.length ∧ v = .int .u32 (vs.getD j 0) := by
 unfold nums at h
 rw [List.getElem?_map] at h
 cases hq : vs[j]? with
 | none => rw [hq] at h; cases h
 | some x =>
  rw [hq] at h
  refine ⟨(List.getElem?_eq_some_iff.1 hq).1, ?_⟩
  rw [List.getD_eq_getElem?_getD, hq]
  exact (Option.some.inj h).symm
theorem infoU1 : (Tryz.prog.info? 94).map (·.size) = some 1 := by kernel_rfl
theorem clear_ex {W : World} {base g n : Nat} {l : List Int} (h : RU W base (.slice (some ⟨g, 0, none⟩) n n) l) (hl : l.length = n) (hn : 0 < n) :
  ∃ W2, (∀ ty, (Builtin.clear_ #[25] ty #[.slice (some ⟨g, 0, none⟩) n n]).run Tryz.prog W = .ok (.tuple #[]) W2) ∧ RU W2 base (.slice (some ⟨g, 0, none⟩) n n) (List.replicate n 0) ∧ Tch g W W2 := by
 refine ⟨W.setCells g 0 (nums .u32 (List.replicate n 0)), fun ty => ?_, ?_, tch_setCells _ 0 (tch_refl g W)⟩
 ·have := Lib.run_clear_slice (P := Tryz.prog) W 25 94 ty (.int .u32 0) Tryz.underlying25 (fun w => by simp [Tryz.zeroValue94]) rfl rfl g 0 n n hn (fun j hj => by rw [Nat.zero_add, (RU_at h hl j hj).1]; rfl) (fun j hj => by rw [Nat.zero_add]; exact (RU_at h hl j hj).2)
  rw [this]
  simp [nums]
 ·have := RU_setCells (List.replicate n 0) 0 h hl
  rw [ov_eq _ _ _ (by rw [List.length_replicate, hl]; omega)] at this
  rw [List.drop_of_length_le (by rw [List.length_replicate]; omega)] at this
  simpa using this
theorem copy_ex {W : World} {base g n m c : Nat} {A : Option Addr} {l vs : List Int} (h : RU W base (.slice (some ⟨g, 0, none⟩) n n) l) (hl : l.length = n) (hs : CU W A m vs) (hvs : vs.length = m) (hm : 0 < m) (hmn : m ≤ n) :
  ∃ W2, (∀ ty, (Builtin.copy_ #[25, 25] ty #[.slice (some ⟨g, 0, none⟩) n n, .slice A m c]).run Tryz.prog W = .ok (goInt m) W2) ∧ RU W2 base (.slice (some ⟨g, 0, none⟩) n n) (ov l 0 vs) ∧ Tch g W W2 := by
 obtain ⟨ad, rfl, _⟩ := CU_at hs 0 hm
 refine ⟨W.setCells g 0 (nums .u32 vs), fun ty => ?_, RU_setCells vs 0 h hl, tch_setCells _ 0 (tch_refl g W)⟩
 have hlen : (nums .u32 vs).length = m := by simp [nums, hvs]
 have := run_copy_cells (P := Tryz.prog) W 25 25 ty 94 g 0 n n ad m c (nums .u32 vs) Tryz.underlying25 infoU1 (by rw [hlen]; exact (Nat.min_eq_left hmn).symm) (fun j v hj => by
   obtain ⟨h1, rfl⟩ := nums_at hj
   obtain ⟨ad', e, hc⟩ := CU_at hs j (by omega)
   cases e
   exact hc) (fun j hj => by rw [Nat.zero_add, (RU_at h hl j (by omega)).1]; rfl) (fun j hj => by rw [Nat.zero_add]; exact (RU_at h hl j (by omega)).2) (fun v hv => by
   simp only [nums, List.mem_map] at hv
   obtain ⟨x, _, rfl⟩ := hv
   rfl)
 rw [this, hlen]
theorem val_ov {N : Nat} {vs : List Int} (h : vs.length ≤ N) : val (ov (List.replicate N 0) 0 vs) = val vs := by
 rw [ov_eq _ _ _ (by rw [List.length_replicate]; omega)]
 simp only [List.take_zero, List.nil_append, Nat.zero_add, List.drop_replicate]
 rw [val_append, val_replicate]
 simp
theorem lim_ov {N : Nat} {vs : List Int} (h : vs.length ≤ N) (hL : Lim vs) : Lim (ov (List.replicate N 0) 0 vs) := by
 rw [ov_eq _ _ _ (by rw [List.length_replicate]; omega)]
 simp only [List.take_zero, List.nil_append, Nat.zero_add, List.drop_replicate]
 exact hL.append (Lim.replicate _)
theorem gs_of {lu lv : List Int} {k n : Nat} (hLu : Lim lu) (hLv : Lim lv) (hn : lv.length = n) (h2 : 2 ≤ n) (hk : k + n + 1 ≤ lu.length) (hv : 2147483648 ≤ lm lv (n - 1)) (hlt : val lu < val lv * pw (k + 1)) :
  Gs (lm lu (k + n) * 4294967296 + lm lu (k + n - 1)) (lm lv (n - 1)) (lm lv (n - 2)) (lm lu (k + n - 2)) (val lu / pw k / val lv) := by
 have hVlt := val_lt hLv
 rw [hn] at hVlt
 have hWe := val_drop hLu k
 have hWlt : val (lu.drop k) < val lv * 4294967296 := by
  rw [hWe, Nat.div_lt_iff_lt_mul (pw_pos k)]
  rw [pw_succ] at hlt
  rw [Nat.mul_assoc]
  exact hlt
 rw [← hWe]
 obtain ⟨m, rfl⟩ : ∃ m, n = m + 2 := ⟨n - 2, by omega⟩
 have e1 : k + (m + 2) - 1 = k + m + 1 := by omega
 have e2 : k + (m + 2) - 2 = k + m := by omega
 have e3 : m + 2 - 1 = m + 1 := by omega
 have e4 : m + 2 - 2 = m := by omega
 rw [e1, e2, e3, e4, show k + (m + 2) = k + m + 2 from by omega]
 rw [e3] at hv
 have hV : val lv = (lm lv (m + 1) * 4294967296 + lm lv m) * pw m + val (lv.take m) := by
  have s1 := val_split lv m
  have s2 := val_drop_at lv m
  have s3 := val_drop_at lv (m + 1)
  have s4 : val (lv.drop (m + 1 + 1)) = 0 := by rw [List.drop_of_length_le (by omega)]; rfl
  rw [s4] at s3
  rw [s3] at s2
  rw [s2] at s1
  rw [s1, Nat.mul_comm (pw m), Nat.add_comm]
  congr 2
  omega
 have hvl : val (lv.take m) < pw m := by
  have := val_lt (hLv.take m)
  rwa [List.length_take, Nat.min_eq_left (by omega)] at this
 have hwl : val ((lu.drop k).take m) < pw m := by
  have := val_lt ((hLu.drop k).take m)
  rwa [List.length_take, List.length_drop, Nat.min_eq_left (by omega)] at this
 have hdd : ∀ i, lm (lu.drop k) i = lm lu (k + i) := by
  intro i
  unfold lm
  rw [List.getD_eq_getElem?_getD, List.getD_eq_getElem?_getD, List.getElem?_drop]
 have b0 := lm_lt hLu (k + m + 2)
 have b1 := lm_lt hLu (k + m + 1)
 have b2 := lm_lt hLu (k + m)
 have b3 := lm_lt hLv (m + 1)
 have b4 := lm_lt hLv m
 have hW : val (lu.drop k) = ((lm lu (k + m + 2) * 4294967296 + lm lu (k + m + 1)) * 4294967296 + lm lu (k + m)) * pw m + val ((lu.drop k).take m) ∧ lm lu (k + m + 2) ≤ lm lv (m + 1) := by
  have s1 := val_split (lu.drop k) m
  have s2 := val_drop_at (lu.drop k) m
  have s3 := val_drop_at (lu.drop k) (m + 1)
  have s4 := val_drop_at (lu.drop k) (m + 1 + 1)
  rw [hdd] at s2 s3 s4
  rw [show k + (m + 1) = k + m + 1 from by omega] at s3
  rw [show k + (m + 1 + 1) = k + m + 2 from by omega] at s4
  generalize val ((lu.drop k).drop (m + 1 + 1 + 1)) = z at s4
  generalize val (lu.drop k) = W at *
  generalize val ((lu.drop k).take m) = wl at *
  rw [s4] at s3
  rw [s3] at s2
  rw [s2] at s1
  have hz : (lm lu (k + m + 2) + 4294967296 * z) ≤ lm lv (m + 1) := by
   refine Nat.le_of_not_lt fun hgt => ?_
   have h1 : (lm lv (m + 1) + 1) * (4294967296 * (4294967296 * pw m)) ≤ (lm lu (k + m + 2) + 4294967296 * z) * (4294967296 * (4294967296 * pw m)) := Nat.mul_le_mul_right _ hgt
   have h2 : (lm lu (k + m + 2) + 4294967296 * z) * (4294967296 * (4294967296 * pw m)) ≤ W := by
    rw [s1]
    have : (lm lu (k + m + 2) + 4294967296 * z) * (4294967296 * (4294967296 * pw m)) = pw m * (4294967296 * (4294967296 * (lm lu (k + m + 2) + 4294967296 * z))) := by ac_rfl
    rw [this]
    refine Nat.le_trans (Nat.mul_le_mul_left _ ?_) (Nat.le_add_left _ _)
    omega
   have h3 : val lv * 4294967296 < (lm lv (m + 1) + 1) * (4294967296 * (4294967296 * pw m)) := by
    have h4 : val lv < (lm lv (m + 1) + 1) * (4294967296 * pw m) := by
     rw [hV]
     have h5 : (lm lv (m + 1) * 4294967296 + lm lv m + 1) * pw m ≤ ((lm lv (m + 1) + 1) * 4294967296) * pw m := Nat.mul_le_mul_right _ (by omega)
     rw [Nat.add_mul _ 1, Nat.one_mul, Nat.mul_assoc (lm lv (m + 1) + 1)] at h5
     omega
    have h6 : (lm lv (m + 1) + 1) * (4294967296 * (4294967296 * pw m)) = (lm lv (m + 1) + 1) * (4294967296 * pw m) * 4294967296 := by ac_rfl
    rw [h6]
    exact Nat.mul_lt_mul_of_pos_right h4 Z5
   omega
  obtain rfl : z = 0 := by omega
  refine ⟨?_, by omega⟩
  rw [s1, Nat.mul_comm (pw m), Nat.add_comm]
  congr 2
  omega
 obtain ⟨hW, htop⟩ := hW
 have hVpos : 0 < val lv := by
  rw [hV]
  have := pw_pos m
  have := Nat.mul_le_mul_right (pw m) (show 1 ≤ lm lv (m + 1) * 4294967296 + lm lv m by omega)
  omega
 generalize lm lu (k + m + 2) = u0 at *
 generalize lm lu (k + m + 1) = u1 at *
 generalize lm lu (k + m) = u2 at *
 generalize lm lv (m + 1) = v1 at *
 generalize lm lv m = v2 at *
 generalize val (lv.take m) = vl at *
 generalize val ((lu.drop k).take m) = wl at *
 generalize pw m = P at *
 generalize val (lu.drop k) = W at *
 generalize val lv = V at *
 exact ⟨hv, by omega, k_init hW hwl b2 hV (by omega), by rw [Nat.div_lt_iff_lt_mul hVpos, Nat.mul_comm]; exact hWlt, fun q r h1 h2 => k_over hW hwl hV h1 h2 hVpos, fun q r h1 h2 h3 => k_done hW hV hvl (by omega) h1 h2 h3⟩
def DivPost (w : World) (x y : Nat) (e : Ending) (w' : World) : Prop := ∃ vq vr, e = .returned (.tuple #[vq, vr, .int .i64 (if y = 0 then 5 else 0)]) ∧ Nu w' vq (x / y) ∧ Nu w' vr (if y = 0 then 0 else x % y) ∧ Below w.heap.size w w'
theorem div_zero {w w' : World} {x y : Nat} (h : y = 0) (hB : Below w.heap.size w w') : DivPost w x y (.returned (.tuple #[.slice none 0 0, .slice none 0 0, .int .i64 5])) w' :=
 ⟨_, _, by rw [if_pos h], by rw [h, Nat.div_zero]; exact Nu_nil _, by rw [if_pos h]; exact Nu_nil _, hB⟩
theorem div_less {w w' : World} {x y : Nat} {v : Value} (h : x < y) (hv : Nu w' v x) (hB : Below w.heap.size w w') : DivPost w x y (.returned (.tuple #[.slice none 0 0, v, .int .i64 0])) w' :=
 ⟨_, _, by rw [if_neg (by omega)], by rw [Nat.div_eq_of_lt h]; exact Nu_nil _, by rw [if_neg (by omega), Nat.mod_eq_of_lt h]; exact hv, hB⟩
theorem div_done {w w' : World} {x y : Nat} {vq vr : Value} (h : y ≠ 0) (hq : Nu w' vq (x / y)) (hr : Nu w' vr (x % y)) (hB : Below w.heap.size w w') : DivPost w x y (.returned (.tuple #[vq, vr, .int .i64 0])) w' :=
 ⟨_, _, by rw [if_neg h], hq, by rw [if_neg h]; exact hr, hB⟩
theorem digs_one {y : Nat} (h : (digs y).length = 1) : lm (digs y) 0 = y := by
 have e := val_digs y
 cases hd : digs y with
 | nil => rw [hd] at h; cases h
 | cons a t =>
  rw [hd] at h e
  cases t with
  | nil => simpa [val, lm] using e
  | cons b t => simp at h
theorem divN {w : World} {vx vy : Value} {x y : Nat} (hx : Nu w vx x) (hy : Nu w vy y) (bx : x < pw 1000) (by_ : y < pw 1000) : Calls Tryz.prog 68 #[vx, vy] w (DivPost w x y) := by
 obtain ⟨A0, c0, rfl, h0, C0⟩ := hx
 obtain ⟨A1, c1, rfl, h1, C1⟩ := hy
 have hlx := small_len bx
 have hlx0 : (digs x).length ≤ 1000 := digs_length_le bx
 have hly := small_len by_
 have HCA := cut_w A0 c0 (digs x) w C0 h0 (by omega)
 have HCB := fun (W : World) (hB : Below w.heap.size w W) => cut_w A1 c1 (digs y) W (CU_below C1 hB) h1 (by omega)
 have HCA := Aside0.mk HCA
 have HCB := Aside0.mk HCB
 have h0 := Aside0.mk h0
 have h1 := Aside0.mk h1
 clear C0 C1 bx by_
 go_enter Tryz.func68, Tryz.ntmps68
 go_wp2_with fail
 refine HCA.out.mono ?_
 rintro e w1 ⟨va, rfl, hRa, hBa⟩
 have HB1 := Aside0.mk hBa
 rw [strip_eq (lim_digs x), val_digs] at hRa
 obtain ⟨Aa, ca, rfl, hca, hCa⟩ := RU_slice hRa
 have HA1 := Aside0.mk hCa
 have HCA2 := Aside0.mk hca
 clear hRa hBa hCa hca
 go_wp2_with fail
 refine (HCB.out w1 HB1.out).mono ?_
 rintro e w2 ⟨vb, rfl, hRb, hBb⟩
 have HB2 := tT HB1 hBb
 have HA2 := Aside0.mk (CU_below HA1.out hBb)
 rw [strip_eq (lim_digs y), val_digs] at hRb
 obtain ⟨Ab, cb, rfl, hcb, hCb⟩ := RU_slice hRb
 have HBB2 := Aside0.mk hCb
 clear hRb hBb hCb hcb
 by_cases hy0 : y = 0
 ·have HY := Aside0.mk hy0
  have hl0 : (digs y).length = 0 := digs_length_zero.2 hy0
  clear hy0
  go_wp2_with fail
  go_ret3
  exact div_zero HY.out HB2.out
 ·have hlp : 0 < (digs y).length := by
   rcases Nat.eq_zero_or_pos (digs y).length with h | h
   ·exact absurd (digs_length_zero.1 h) hy0
   ·exact h
  have HY := Aside0.mk hy0
  have hb1 : (((digs y).length : Int) == 0) = false := by rw [beq_eq_false_iff_ne]; omega
  have hb2 : ((digs y).length == 0) = false := by rw [beq_eq_false_iff_ne]; omega
  have HCM := cmp_w Aa Ab ca cb (digs x) (digs y) w2 HA2.out HBB2.out (lim_digs x) (lim_digs y) (norm_digs x) (norm_digs y) hlx hly
  rw [val_digs, val_digs] at HCM
  clear hy0
  by_cases hxy : x < y
  ·rw [cmpZ_lt hxy] at HCM
   have HCM := Aside0.mk HCM
   have HXY := Aside0.mk hxy
   clear hxy
   go_wp2_with fail
   refine HCM.out.mono ?_
   rintro e w3 ⟨rfl, hB3⟩
   have HB3 := tT HB2 hB3
   have HA3 := Aside0.mk (CU_below HA2.out hB3)
   clear hB3
   go_wp2_with fail
   go_ret3
   exact div_less HXY.out ⟨_, _, rfl, HCA2.out, HA3.out⟩ HB3.out
  ·obtain ⟨z, hz⟩ : ∃ z, z = cmpZ x y := ⟨_, rfl⟩
   rw [← hz] at HCM
   have hz0 : decide (z < 0) = false := by
    rw [decide_eq_false_iff_not, hz]
    rcases Nat.lt_or_ge y x with h | h
    ·rw [cmpZ_gt h]; omega
    ·rw [cmpZ_eq (by omega)]; omega
   have HCM := Aside0.mk HCM
   have HXY := Aside0.mk (show y ≤ x by omega)
   clear hxy hz
   go_wp2_with fail
   refine HCM.out.mono ?_
   rintro e w3 ⟨rfl, hB3⟩
   have HB3 := tT HB2 hB3
   have HA3 := Aside0.mk (CU_below HA2.out hB3)
   have HBB3 := Aside0.mk (CU_below HBB2.out hB3)
   clear hB3
   by_cases hl1 : (digs y).length = 1
   ·have hyv := digs_one hl1
    have hyl := lm_lt (lim_digs y) 0
    rw [hyv] at hyl
    obtain ⟨ad, e, hcell⟩ := CU_at HBB3.out 0 (by omega)
    subst e
    rw [lm_cast (lim_digs y), hyv] at hcell
    have hcell0 : w3.cell? ad = some (.int .u32 (y : Int)) := hcell
    have HSM := small_w Aa ca (digs x) y w3 HA3.out (lim_digs x) hlx (by have := HY.out; omega) hyl
    rw [val_digs] at HSM
    have HSM := Aside0.mk HSM
    obtain ⟨r, hr⟩ : ∃ r, r = x % y := ⟨_, rfl⟩
    have hrl : r < 4294967296 := by have := Nat.mod_lt x (show 0 < y from Nat.pos_of_ne_zero HY.out); omega
    have HRR := Aside0.mk hr
    have hl2 : (((digs y).length : Int) == 1) = true := by rw [beq_iff_eq]; omega
    clear hr hyv
    go_wp2_with fail
    refine HSM.out.mono ?_
    rintro e w4 ⟨v4, rfl, hR4, hB4⟩
    have HB4 := tT HB3 hB4
    have HQ4 := Aside0.mk (Nu_of_RU hR4)
    rw [← HRR.out]
    have HOF := Aside0.mk (ofN (w := w4) r (by omega))
    clear hR4 hB4
    go_wp2_with fail
    refine HOF.out.mono ?_
    rintro e w5 ⟨v5, rfl, hR5, hB5⟩
    have HB5 := tT HB4 hB5
    have HQ5 := Aside0.mk (HQ4.out.below hB5)
    have HR5 := Aside0.mk hR5
    clear hR5 hB5
    go_wp2_with fail
    go_ret3
    exact div_done HY.out HQ5.out (by rw [← HRR.out]; exact HR5.out) HB5.out
   ·have hl2 : 2 ≤ (digs y).length := by omega
    have hb3 : (((digs y).length : Int) == 1) = false := by rw [beq_eq_false_iff_ne]; omega
    have hle : (digs y).length ≤ (digs x).length := by
     refine Nat.le_of_not_lt fun h => ?_
     have := digs_length_lt h
     have := HXY.out
     omega
    obtain ⟨ad, e, hcell⟩ := CU_at HBB3.out ((digs y).length - 1) (by omega)
    subst e
    have hx1 := lm_lt (lim_digs y) ((digs y).length - 1)
    rw [lm_cast (lim_digs y)] at hcell
    have hDN := div_norm HY.out
    generalize lm (digs y) ((digs y).length - 1) = t at hcell hx1 hDN
    have hi : (((digs y).length : Int) - 1).toNat = (digs y).length - 1 := by omega
    have HLZ : Calls Tryz.prog 114 #[.int .u32 (t : Int)] w3 fun e w' => e = .returned (.int .i64 ((32 - nbits t : Nat) : Int)) ∧ w' = w3 := by
     have h := Tryz.bits_LeadingZeros32 (t : Int) w3 (by omega) (by omega)
     rw [show ((t : Int)).toNat = t from by omega, bitLen_nbits 32 t hx1 (by omega), show (32 : Int) - ((nbits t : Nat) : Int) = ((32 - nbits t : Nat) : Int) from by have := nbits_limb hx1; omega] at h
     exact h
    obtain ⟨s, hs⟩ : ∃ s, s = 32 - nbits t := ⟨_, rfl⟩
    rw [← hs] at HLZ hDN
    obtain ⟨hvl, hvlow, hvtop, hn1, hn32⟩ := hDN
    have hs31 : s ≤ 31 := by omega
    clear hs hn1 hn32
    have HLZ := Aside0.mk HLZ
    obtain ⟨V, hV⟩ : ∃ V, V = y * 2 ^ s := ⟨_, rfl⟩
    obtain ⟨XS, hXS⟩ : ∃ XS, XS = x * 2 ^ s := ⟨_, rfl⟩
    have HSV : Calls Tryz.prog 56 #[.slice (some ad) (digs y).length cb, .int .i64 (s : Int)] w3 (NumPost w3 V) := by
     have h := shl_w (some ad) cb (digs y) 0 s w3 HBB3.out (lim_digs y) hly (by omega) (by omega)
     rw [val_digs, show 32 * 0 + s = s from by omega, ← hV] at h
     exact h
    have HSV := Aside0.mk HSV
    have hst := div_start hs31 hle hvlow hlp
    rw [← hV] at hvl hvlow hvtop hst
    rw [← hXS] at hst
    have HST := Aside0.mk hst
    have HVL := Aside0.mk hvl
    have HVT := Aside0.mk hvtop
    have HV := Aside0.mk hV
    have HXS := Aside0.mk hXS
    clear hvlow hvtop hst hV hXS hvl
    have hmk : ∀ W : World, (Instr.makeSlice 25 (.int .i64 (((digs x).length : Int) + 1)) (.int .i64 (((digs x).length : Int) + 1))).run Tryz.prog W = .ok (.slice (some ⟨W.heap.size, 0, none⟩) ((digs x).length + 1) ((digs x).length + 1)) (W.alloc (.cells (madeCells #[.int .u32 0] ((digs x).length + 1)) 94)) := fun W => make_u ((digs x).length + 1) (by omega) W
    go_wp2_with fail
    refine HLZ.out.mono ?_
    rintro e wx ⟨rfl, rfl⟩
    go_wp2_with fail
    refine HSV.out.mono ?_
    rintro e w4 ⟨vv, rfl, hRv, hB4⟩
    obtain ⟨gv, cv, rfl, hgv1, hgv2⟩ := RU_block hRv (by rw [HVL.out]; exact hlp)
    have HRV4 := Aside0.mk hRv
    rw [HVL.out]
    obtain ⟨w6, hclr, hU6, hT6⟩ := clear_ex (RU_made w4 ((digs x).length + 1) (by omega)) Z33 (by omega)
    have hB36 : Below wx.heap.size wx w6 := (below_alloc hB4 _).trans (tch_below hT6 hB4.size (by have := hB4.size; simp; omega))
    have HA6 := Aside0.mk (CU_below HA3.out hB36)
    have HB6 := tT HB3 hB36
    have hHV6 : RU w6 wx.heap.size (.slice (some ⟨gv, 0, none⟩) (digs V).length cv) (digs V) := RU_tch (RU_below hRv (below_alloc (Below.refl _ _) _)) hT6 (by omega)
    have HV6 := Aside0.mk hHV6
    have hB4s := hB4.size
    have HU6 := Aside0.mk hU6
    have h6s : w4.heap.size < w6.heap.size := by have := hT6.size; simp at this; omega
    have HSA : Calls Tryz.prog 56 #[.slice Aa (digs x).length ca, .int .i64 (s : Int)] w6 (NumPost w6 XS) := by
     have h := shl_w Aa ca (digs x) 0 s w6 HA6.out (lim_digs x) hlx (by omega) (by omega)
     rw [val_digs, show 32 * 0 + s = s from by omega, ← HXS.out] at h
     exact h
    have HSA := Aside0.mk HSA
    clear hRv hB4 hT6 hB36 hHV6 hU6
    go_wp2_with fail
    refine HSA.out.mono ?_
    rintro e w7 ⟨va2, rfl, hRa2, hB7⟩
    have hxs1 : (digs XS).length ≤ (digs x).length + 1 := digs_length_le (by
     rw [HXS.out, pw_succ, Nat.mul_comm 4294967296]
     exact Nat.mul_lt_mul_of_lt_of_le (lt_pw_digs x) (Nat.pow_le_pow_right Z5 (show s ≤ 32 by omega)) Z5)
    have hxs0 : 0 < (digs XS).length := by
     rcases Nat.eq_zero_or_pos (digs XS).length with h | h
     ·exfalso
      have h2 := digs_length_zero.1 h
      rw [HXS.out] at h2
      have h3 : 0 < x := by have := HXY.out; have := Nat.pos_of_ne_zero HY.out; omega
      have := Nat.mul_pos h3 (Nat.pow_pos (by decide : 0 < 2) (n := s))
      omega
     ·exact h
    obtain ⟨A7, c7, rfl, _, hC7⟩ := RU_slice hRa2
    have hU7 := RU_below HU6.out hB7
    have hV7 := RU_below HV6.out hB7
    obtain ⟨w8, hcpy, hU8, hT8⟩ := copy_ex (c := c7) hU7 Z33 hC7 rfl hxs0 hxs1
    have HU8 := Aside0.mk hU8
    have HV8 := Aside0.mk (RU_tch hV7 hT8 (by omega))
    have hwx : w.heap.size ≤ w4.heap.size := by have := HB3.out.size; omega
    have HB8 := Aside0.mk ((HB6.out.trans (hB7.mono HB6.out.size)).trans (tch_below hT8 hwx (by have := hB7.size; have := HB6.out.size; omega)))
    have h8s : w4.heap.size < w8.heap.size := by have := hT8.size; have := hB7.size; omega
    obtain ⟨N, hN⟩ : ∃ N, N = (digs x).length - (digs y).length + 1 := ⟨_, rfl⟩
    have hmk2 : ∀ W : World, (Instr.makeSlice 25 (.int .i64 (((digs x).length : Int) - ((digs y).length : Int) + 1)) (.int .i64 (((digs x).length : Int) - ((digs y).length : Int) + 1))).run Tryz.prog W = .ok (.slice (some ⟨W.heap.size, 0, none⟩) N N) (W.alloc (.cells (madeCells #[.int .u32 0] N) 94)) := fun W => by
     have h := make_u N (by omega) W
     rw [show ((N : Nat) : Int) = ((digs x).length : Int) - ((digs y).length : Int) + 1 from by omega] at h
     exact h
    have HO9 := Aside0.mk (RU_made w8 N (by omega))
    have HU9 := Aside0.mk (RU_below HU8.out (below_alloc (Below.refl _ _) (.cells (madeCells #[.int .u32 0] N) 94)))
    have HV9 := Aside0.mk (RU_below HV8.out (below_alloc (Below.refl _ _) (.cells (madeCells #[.int .u32 0] N) 94)))
    have HB9 := Aside0.mk (HB8.out.alloc HB8.out.size (.cells (madeCells #[.int .u32 0] N) 94))
    clear hRa2 hB7 hC7 hU7 hV7 hU8 hT8
    have hgv3 : w.heap.size ≤ gv := by have := HB3.out.size; omega
    have HNN := Aside0.mk hN
    have hN1 : N + (digs y).length ≤ (digs x).length + 1 := by omega
    have hN2 : (digs x).length + 1 ≤ N + (digs y).length := by omega
    clear hN
    have hw8 : w.heap.size ≤ w8.heap.size := HB8.out.size
    go_wp2_with fail
    go_loopw [13] (fun ii wr => ∃ (j : Nat) (u o : List Int), j ≤ N ∧ ii = .int .i64 ((j : Int) - 1) ∧ Aside0 (u.length = (digs x).length + 1 ∧ Lim u ∧ o.length = N ∧ Lim o ∧ val u + V * (pw j * val (o.drop j)) = XS ∧ val u < V * pw j ∧ RU wr w.heap.size (.slice (some ⟨w4.heap.size, 0, none⟩) ((digs x).length + 1) ((digs x).length + 1)) u ∧ RU wr w.heap.size (.slice (some ⟨w8.heap.size, 0, none⟩) N N) o ∧ RU wr w.heap.size (.slice (some ⟨gv, 0, none⟩) (digs V).length cv) (digs V)) ∧ Aside0 (Below w.heap.size w wr)) (fun ii _ => (intOf ii + 1).toNat)
    case atStart => exact ⟨N, ov (List.replicate ((digs x).length + 1) 0) 0 (digs XS), List.replicate N 0, Nat.le_refl _, by go_num, ⟨by rw [ov_length, List.length_replicate], lim_ov hxs1 (lim_digs XS), List.length_replicate, Lim.replicate N, by rw [val_ov hxs1, val_digs, List.drop_of_length_le Z33]; simp [val], by rw [val_ov hxs1, val_digs, HNN.out]; exact HST.out, RU_lower HU9.out hwx, RU_lower HO9.out hw8, RU_lower HV9.out HB3.out.size⟩, ⟨HB9.out⟩⟩
    case round =>
     obtain ⟨j, u, o, hj, rfl, HO, HB⟩ := hrel
     rcases Nat.eq_zero_or_pos j with rfl | hj0
     ·obtain ⟨hul, hLu, hol, hLo, hA, hlt, hRu, hRo, hRv⟩ := HO.out
      rw [pw_zero, Nat.one_mul, List.drop_zero] at hA
      rw [pw_zero, Nat.mul_one] at hlt
      have HE := Aside0.mk (div_end (x := x) (y := y) (s := s) (u := val u) (q := val o) (by rw [← HV.out, ← HXS.out]; exact hA) (by rw [← HV.out]; exact hlt))
      have HCO := cut_w (some ⟨w8.heap.size, 0, none⟩) N o wr (CU_tch hRo hol (tch_refl w4.heap.size wr) (by omega)) (by omega) (by omega)
      rw [hol] at HCO
      have HCU := fun (W : World) (h : Below wr.heap.size wr W) => cut_w (some ⟨w4.heap.size, 0, none⟩) ((digs x).length + 1) u W (CU_below (CU_tch hRu hul (tch_refl w8.heap.size wr) (by omega)) h) (by omega) (by omega)
      rw [hul] at HCU
      have HCO := Aside0.mk HCO
      have HCU := Aside0.mk HCU
      have HLO := Aside0.mk hLo
      have HLU := Aside0.mk hLu
      have hvu : val u < pw 1000000 := by
       have := val_lt hLu
       exact Nat.lt_of_lt_of_le this (pw_le (by omega))
      have HVU := Aside0.mk hvu
      clear hul hLu hol hLo hA hlt hRu hRo hRv hvu
      go_wp2_with fail
      refine HCO.out.mono ?_
      rintro e w10 ⟨vq, rfl, hR10, hB10⟩
      rw [strip_eq HLO.out] at hR10
      have HQ10 := Aside0.mk (Nu_of_RU hR10)
      have HB10 := tT HB hB10
      have HC10 := Aside0.mk (HCU.out w10 hB10)
      clear hR10 hB10
      go_wp2_with fail
      refine HC10.out.mono ?_
      rintro e w11 ⟨vu, rfl, hR11, hB11⟩
      rw [strip_eq HLU.out] at hR11
      obtain ⟨A11, c11, rfl, _, hC11⟩ := RU_slice hR11
      have HQ11 := Aside0.mk (HQ10.out.below hB11)
      have HB11 := tT HB10 hB11
      have HSR : Calls Tryz.prog 118 #[.slice A11 (digs (val u)).length c11, .int .i64 (s : Int)] w11 (NumPost w11 (val u / 2 ^ s)) := by
       have h := shr_w A11 c11 (digs (val u)) 0 s w11 hC11 (lim_digs _) (Nat.lt_of_le_of_lt (digs_length_le (k := (digs x).length + 1) (by have := HO.out.1; have h2 := val_lt HLU.out; rw [this] at h2; exact h2)) (by omega)) (by omega) (by omega)
       rw [val_digs, show 32 * 0 + s = s from by omega] at h
       exact h
      have HSR := Aside0.mk HSR
      clear hR11 hB11 hC11
      go_wp2_with fail
      refine HSR.out.mono ?_
      rintro e w12 ⟨vr, rfl, hR12, hB12⟩
      have HQ12 := Aside0.mk (HQ11.out.below hB12)
      have HB12 := tT HB11 hB12
      have HR12 := Aside0.mk (Nu_of_RU hR12)
      clear hR12 hB12
      go_wp2_with fail
      go_ret3
      exact div_done HY.out (by rw [← HE.out.1]; exact HQ12.out) (by rw [← HE.out.2]; exact HR12.out) HB12.out
     ·obtain ⟨k, rfl⟩ : ∃ k, j = k + 1 := ⟨j - 1, by omega⟩
      rw [show ((k + 1 : Nat) : Int) - 1 = (k : Int) from by omega]
      obtain ⟨hul, hLu, hol, hLo, hA, hlt, hRu, hRo, hRv⟩ := HO.out
      have hlt' : val u < val (digs V) * pw (k + 1) := by rw [val_digs]; exact hlt
      have hgs := gs_of hLu (lim_digs V) HVL.out hl2 (show k + (digs y).length + 1 ≤ u.length by omega) HVT.out hlt'
      have HG := guess_w w4.heap.size w.heap.size u (digs V) (some ⟨gv, 0, none⟩) cv k (digs y).length _ wr (by rw [hul]; exact hRu) (by have := CU_tch hRv rfl (tch_refl w8.heap.size wr) (by omega); rwa [HVL.out] at this) HVL.out hLu (lim_digs V) (by omega) (by omega) hl2 hgs
      rw [hul] at HG
      have HG := Aside0.mk HG
      have HLT := Aside0.mk hlt'
      have HVP := Aside0.mk (show 0 < val (digs V) from Nat.pos_of_ne_zero (fun h => by rw [h, Nat.zero_mul] at hlt'; omega))
      clear hul hLu hol hLo hA hlt hRu hRo hRv hgs hlt'
      go_wp2_with fail
      refine HG.out.mono ?_
      rintro e w10 ⟨q, rfl, hq1, hq2, hq, hQt⟩
      obtain ⟨hul, hLu, hol, hLo, hA, hlt, hRu, hRo, hRv⟩ := HO.out
      have hRu10 := RU_below hRu (qt_below hQt)
      have hRo10 := RU_below hRo (qt_below hQt)
      have hRv10 := RU_below hRv (qt_below hQt)
      have HT := take_w w4.heap.size w.heap.size u (digs V) (some ⟨gv, 0, none⟩) cv k q w10 (by rw [hul]; exact hRu10) (fun w' h => CU_tch hRv10 rfl h (by omega)) hLu (lim_digs V) (by rw [HVL.out]; omega) (by omega) hq
      rw [hul, HVL.out] at HT
      have HT := Aside0.mk HT
      have HB10 := Aside0.mk (HB.out.trans ((qt_below hQt).mono HB.out.size))
      have HRo10 := Aside0.mk hRo10
      have HRv10 := Aside0.mk hRv10
      have HQ1 := Aside0.mk hq1
      have HQ2 := Aside0.mk hq2
      clear hul hLu hol hLo hA hlt hRu hRo hRv hRu10 hRo10 hRv10 hq1 hq2 hQt
      go_wp2_with fail
      refine HT.out.mono ?_
      rintro e w11 ⟨o1, y1, rfl, hy1, ho1l, ho1L, ho1v, ho1t, hR1, hT1⟩
      have hfst := div_fst HO.out.2.1 ho1L (lim_digs V) HVL.out HLT.out HQ1.out HQ2.out hy1 (by rw [HVL.out] at ho1v; exact ho1v) (by rw [HVL.out] at ho1t; exact ho1t)
      rw [HVL.out] at ho1v ho1t
      have hQle : val u / pw k / val (digs V) * val (digs V) * pw k ≤ val u := by
       have h1 := Nat.div_mul_le_self (val u / pw k) (val (digs V))
       exact Nat.le_trans (Nat.mul_le_mul_right _ h1) (Nat.div_mul_le_self _ _)
      obtain ⟨Q, hQ⟩ : ∃ Q, Q = val u / pw k / val (digs V) := ⟨_, rfl⟩
      rw [← hQ] at hfst hQle
      have HQE := Aside0.mk hQ
      have HQ3 := Aside0.mk hQle
      have HFT := Aside0.mk hfst
      have HB11 := Aside0.mk (HB10.out.trans (tch_below hT1 hwx (by have := HB10.out.size; have := hT1.size; omega)))
      have hRo11 := RU_tch HRo10.out hT1 (by omega)
      have HRo11 := Aside0.mk hRo11
      have HRv11 := Aside0.mk (RU_tch HRv10.out hT1 (by omega))
      have HR1 := Aside0.mk hR1
      have HO1 := Aside0.mk (show o1.length = u.length ∧ Lim o1 ∧ (∀ m, k + (digs y).length + 1 ≤ m → lm o1 m = lm u m) ∧ val o1 + q * val (digs V) * pw k = val u + y1 * pw (k + (digs y).length + 1) from ⟨ho1l, ho1L, ho1t, ho1v⟩)
      have hs11 : w8.heap.size < w11.heap.size := by
       have h1 := (own_RU hRo11).lt w8.heap.size rfl
       exact h1.2
      clear hfst hQle hQ ho1l ho1L ho1t ho1v hR1 hT1 hRo11
      rcases (show y1 = 0 ∨ y1 = 1 by omega) with rfl | rfl
      ·have hqQ := HFT.out.1 rfl
       obtain ⟨hc1, hc2⟩ := RU_at HRo11.out HO.out.2.2.1 k (by omega)
       have HFIN := Aside0.mk (div_rel (lu := u) (lv := digs V) (o2 := o1) (out := o) (j := k) (A := XS) HVP.out (by have := HO.out.2.2.1; omega) (by have := HO1.out.2.2.2; rw [hqQ, Nat.zero_mul, Nat.add_zero] at this; rw [← HQE.out]; exact this) (by rw [val_digs]; exact HO.out.2.2.2.2.1))
       have HQQ := Aside0.mk hqQ
       clear hqQ
       go_wp2_with fail
       go_roundw
       case rel =>
        have hqQ := HQQ.out
        have hF := HFIN.out
        rw [← HQE.out, ← hqQ, val_digs] at hF
        have hst := RU_set HRo11.out HO.out.2.2.1 k (q : Int)
        have htc := tch_set (tch_refl w8.heap.size w11) k (.int .u32 (q : Int))
        exact ⟨k, o1, o.set k (q : Int), by omega, by go_num, ⟨by rw [HO1.out.1]; exact HO.out.1, HO1.out.2.1, by rw [List.length_set]; exact HO.out.2.2.1, HO.out.2.2.2.1.set k (by omega) (by omega), hF.1, hF.2, RU_tch (by have := HR1.out; rwa [HO.out.1] at this) htc (by omega), hst, RU_tch HRv11.out htc (by omega)⟩, ⟨below_set HB11.out hw8 _ _⟩⟩
       case measure => simp [intOf]
      ·have hqQ := HFT.out.2.1 rfl
       have HBK := back_w w4.heap.size w.heap.size o1 (digs V) (some ⟨gv, 0, none⟩) cv k w11 (by have := HR1.out; rwa [← HO1.out.1] at this) (fun w' h => CU_tch HRv11.out rfl h (by omega)) HO1.out.2.1 (lim_digs V) (by rw [HVL.out, HO1.out.1, HO.out.1]; omega) (by rw [HO1.out.1, HO.out.1]; omega)
       rw [HO1.out.1, HO.out.1, HVL.out] at HBK
       have HBK := Aside0.mk HBK
       have hqw : IntKind.u64.wrap ((q : Int) - 1) = (Q : Int) := by rw [u64_in (by omega) (by omega)]; omega
       have hQb : Q < 4294967296 := by omega
       have HQQ := Aside0.mk hqQ
       clear hqQ
       go_wp2_with fail
       refine HBK.out.mono ?_
       rintro e w12 ⟨o2, y2, rfl, hy2, ho2l, ho2L, ho2v, ho2t, hR2, hT2⟩
       rw [HVL.out] at ho2v ho2t
       have hsnd := div_snd (lu := u) (lv := digs V) (o := o1) (o2 := o2) (j := k) (n := (digs y).length) (c := y2) (Q := Q) ho2L hy2 HFT.out.2.2.1 HO1.out.2.1 HFT.out.2.2.2 HQ3.out (by have := HO1.out.2.2.2; rw [HQQ.out, Nat.one_mul] at this; exact this) ho2v ho2t
       have HFIN := Aside0.mk (div_rel (lu := u) (lv := digs V) (o2 := o2) (out := o) (j := k) (A := XS) HVP.out (by have := HO.out.2.2.1; omega) (by rw [← HQE.out]; exact hsnd) (by rw [val_digs]; exact HO.out.2.2.2.2.1))
       have hRo12 := RU_tch HRo11.out hT2 (by omega)
       have HRo12 := Aside0.mk hRo12
       have HRv12 := Aside0.mk (RU_tch HRv11.out hT2 (by omega))
       have HR2 := Aside0.mk hR2
       have HO2 := Aside0.mk (show o2.length = o1.length ∧ Lim o2 from ⟨ho2l, ho2L⟩)
       have HB12 := Aside0.mk (HB11.out.trans (tch_below hT2 hwx (by have := HB11.out.size; omega)))
       obtain ⟨hc1, hc2⟩ := RU_at hRo12 HO.out.2.2.1 k (by omega)
       clear hsnd hRo12 ho2l ho2L ho2v ho2t hR2 hT2
       go_wp2_with fail
       go_roundw
       case rel =>
        have hF := HFIN.out
        rw [← HQE.out, val_digs] at hF
        have hst := RU_set HRo12.out HO.out.2.2.1 k (Q : Int)
        have htc := tch_set (tch_refl w8.heap.size w12) k (.int .u32 (Q : Int))
        exact ⟨k, o2, o.set k (Q : Int), by omega, by go_num, ⟨by rw [HO2.out.1, HO1.out.1]; exact HO.out.1, HO2.out.2, by rw [List.length_set]; exact HO.out.2.2.1, HO.out.2.2.2.1.set k (by omega) (by omega), hF.1, hF.2, RU_tch (by have := HR2.out; rwa [HO1.out.1, HO.out.1] at this) htc (by omega), hst, RU_tch HRv12.out htc (by omega)⟩, ⟨below_set HB12.out hw8 _ _⟩⟩
       case measure => simp [intOf]
def DivPost1 (w : World) (q r : Nat) (e : Ending) (w' : World) : Prop := ∃ vq vr, e = .returned (.tuple #[vq, vr, .int .i64 0]) ∧ Nu w' vq q ∧ Nu w' vr r ∧ Below w.heap.size w w'
theorem divP {w : World} {vx vy : Value} {x y : Nat} (hx : Nu w vx x) (hy : Nu w vy y) (bx : x < pw 1000) (by_ : y < pw 1000) (h : y ≠ 0) : Calls Tryz.prog 68 #[vx, vy] w (DivPost1 w (x / y) (x % y)) :=
 (divN hx hy bx by_).mono (fun e w' hd => by
  obtain ⟨vq, vr, he, hq, hr, hB⟩ := hd
  rw [if_neg h] at he hr
  exact ⟨vq, vr, he, hq, hr, hB⟩)
def DivPost0 (w : World) (e : Ending) (w' : World) : Prop := ∃ vq vr, e = .returned (.tuple #[vq, vr, .int .i64 5]) ∧ Nu w' vq 0 ∧ Nu w' vr 0 ∧ Below w.heap.size w w'
theorem cutN {w : World} {A : Option Addr} {c n : Nat} (h : Nu w (.slice A (digs n).length c) n) (bn : n < pw 1000) : Calls Tryz.prog 57 #[.slice A (digs n).length c] w (NuPost w n) := by
 obtain ⟨A0, c0, e, h0, C0⟩ := h
 cases e
 exact (cut_w A c (digs n) w C0 h0 Z50).mono (fun e w' ⟨v, he, hR, hB⟩ => by
  rw [strip_eq (lim_digs n), val_digs] at hR
  exact ⟨v, he, Nu_of_RU hR, hB⟩)
theorem gcd_step (a b : Nat) : Nat.gcd b (a % b) = Nat.gcd a b := by rw [Nat.gcd_comm b, ← Nat.gcd_rec, Nat.gcd_comm]
theorem gcdN {w : World} {vx vy : Value} {x y : Nat} (hx : Nu w vx x) (hy : Nu w vy y) (bx : x < pw 1000) (by_ : y < pw 1000) : Calls Tryz.prog 99 #[vx, vy] w (NuPost w (Nat.gcd x y)) := by
 obtain ⟨A0, c0, rfl, h0, C0⟩ := hx
 obtain ⟨A1, c1, rfl, h1, C1⟩ := hy
 have BX := Aside0.mk bx
 have BY := Aside0.mk by_
 have HCA := Aside0.mk (cutN ⟨A0, c0, rfl, h0, C0⟩ bx)
 have HN1 := Aside0.mk (show Nu w (.slice A1 (digs y).length c1) y from ⟨A1, c1, rfl, h1, C1⟩)
 clear h0 h1 C0 C1 bx by_
 go_enter Tryz.func99, Tryz.ntmps99
 go_wp2_with fail
 refine HCA.out.mono ?_
 rintro e w1 ⟨va, rfl, hNa, hB1⟩
 have HB1 := Aside0.mk hB1
 have HNA := Aside0.mk hNa
 have HCB := Aside0.mk (cutN (HN1.out.below hB1) BY.out)
 clear hNa hB1
 go_wp2_with fail
 refine HCB.out.mono ?_
 rintro e w2 ⟨vb, rfl, hNb, hB2⟩
 have HB2 := tT HB1 hB2
 have HNA2 := Aside0.mk (HNA.out.below hB2)
 have HNB2 := Aside0.mk hNb
 clear hNb hB2
 go_wp2_with fail
 go_loopg [0, 1] y (fun b va vb wr => ∃ (a : Nat) (A : Option Addr) (c : Nat), vb = .slice A (digs b).length c ∧ Aside0 (Nu wr va a ∧ Nu wr (.slice A (digs b).length c) b ∧ a < pw 1000 ∧ b < pw 1000 ∧ Nat.gcd a b = Nat.gcd x y) ∧ Aside0 (Below w.heap.size w wr))
 case atStart =>
  obtain ⟨A, c, e, h1, h2⟩ := HNB2.out
  exact ⟨x, A, c, e, ⟨HNA2.out, ⟨A, c, rfl, h1, h2⟩, BX.out, BY.out, rfl⟩, ⟨HB2.out⟩⟩
 case round =>
  obtain ⟨a, A, c, rfl, HN, HB⟩ := hrel
  by_cases hb : gk = 0
  ·subst hb
   have HG := Aside0.mk (show a = Nat.gcd x y by have := HN.out.2.2.2.2; rwa [Nat.gcd_zero_right] at this)
   obtain ⟨Aa, ca, e, h1, h2⟩ := HN.out.1
   subst e
   have HC := Aside0.mk (cutN ⟨Aa, ca, rfl, h1, h2⟩ HN.out.2.2.1)
   rw [digs_zero, List.length_nil]
   clear h1 h2
   go_wp2_with fail
   refine HC.out.mono ?_
   rintro e w3 ⟨v, rfl, hN3, hB3⟩
   have HN3 := Aside0.mk hN3
   have HB3 := tT HB hB3
   clear hN3 hB3
   go_wp2_with fail
   go_ret
   exact ⟨_, rfl, by rw [← HG.out]; exact HN3.out, HB3.out⟩
  ·have hp : 0 < (digs gk).length := Nat.pos_of_ne_zero (fun h => hb (digs_length_zero.1 h))
   have HD := Aside0.mk (divP HN.out.1 HN.out.2.1 HN.out.2.2.1 HN.out.2.2.2.1 hb)
   have HB0 := Aside0.mk hb
   clear hb
   go_wp2_with fail
   refine HD.out.mono ?_
   rintro e w3 ⟨vq, vr, rfl, hQ, hR, hB3⟩
   have HR := Aside0.mk hR
   have HBN := Aside0.mk (HN.out.2.1.below hB3)
   have HB3 := tT HB hB3
   clear hQ hR hB3
   go_wp2_with fail
   go_roundg (a % gk)
   case rel =>
    obtain ⟨A', c', e', h1, h2⟩ := HR.out
    exact ⟨gk, A', c', e', ⟨HBN.out, ⟨A', c', rfl, h1, h2⟩, HN.out.2.2.2.1, Nat.lt_of_le_of_lt (Nat.mod_le _ _) HN.out.2.2.1, by rw [gcd_step]; exact HN.out.2.2.2.2⟩, ⟨HB3.out⟩⟩
   case measure => exact Nat.mod_lt _ (Nat.pos_of_ne_zero HB0.out)
theorem trimN {w : World} {v : Value} {n : Nat} (h : Nu w v n) (bn : n < pw 1000) : Calls Tryz.prog 94 #[v] w (NuPost w n) := by
 obtain ⟨A0, c0, rfl, h0, C0⟩ := h
 exact (trim_w A0 c0 (digs n) w C0 h0 Z50).mono (fun e w' ⟨v, he, hR, hB⟩ => by
  rw [strip_eq (lim_digs n), val_digs] at hR
  exact ⟨v, he, Nu_of_RU hR, hB⟩)
def Nt (g : Nat) (w : World) (v : Value) (n : Nat) : Prop := ∀ w', Tch g w w' → Nu w' v n
theorem Nt.nu {g : Nat} {w : World} {v : Value} {n : Nat} (h : Nt g w v n) : Nu w v n := h w (tch_refl g w)
theorem Nt.tch {g : Nat} {w w1 : World} {v : Value} {n : Nat} (h : Nt g w v n) (ht : Tch g w w1) : Nt g w1 v n := fun w' h2 => h w' (tch_trans ht h2)
theorem Nt.below {g : Nat} {w w1 : World} {v : Value} {n : Nat} (h : Nt g w v n) (hb : Below w.heap.size w w1) : Nt g w1 v n := h.tch (qt_tch (below_qt hb) g)
theorem Nt_of_RU {w : World} {base g : Nat} {v : Value} {n : Nat} (h : RU w base v (digs n)) (hg : g < base) : Nt g w v n := fun w' ht =>
 Nu_of_RU (RU_own ((own_RU h).kept ht (by
  cases hv : v.ownBlock with
  | none => exact .inl rfl
  | some k =>
   refine .inr (fun e => ?_)
   have h1 := (own_RU h).lt k hv
   have h2 := Option.some.inj e
   omega)))
def NtPost (g : Nat) (w : World) (n : Nat) (e : Ending) (w' : World) : Prop := ∃ v, e = .returned v ∧ Nt g w' v n ∧ Below w.heap.size w w'
theorem NtPost_of {g : Nat} {w : World} {n : Nat} (hg : g < w.heap.size) (e : Ending) (w' : World) (h : NumPost w n e w') : NtPost g w n e w' := by
 obtain ⟨v, he, hR, hB⟩ := h
 exact ⟨v, he, Nt_of_RU hR hg, hB⟩
theorem trimT {g : Nat} {w : World} {v : Value} {n : Nat} (h : Nu w v n) (bn : n < pw 1000) (hg : g < w.heap.size) : Calls Tryz.prog 94 #[v] w (NtPost g w n) := by
 obtain ⟨A0, c0, rfl, h0, C0⟩ := h
 exact (trim_w A0 c0 (digs n) w C0 h0 Z50).mono (fun e w' ⟨v, he, hR, hB⟩ => by
  rw [strip_eq (lim_digs n), val_digs] at hR
  exact ⟨v, he, Nt_of_RU hR hg, hB⟩)
theorem rlessT {g : Nat} {w : World} {vx vy : Value} {x y : Nat} (hx : Nu w vx x) (hy : Nu w vy y) (bx : x < pw 1000) (by_ : y < pw 1000) (hle : y ≤ x) (hg : g < w.heap.size) : Calls Tryz.prog 145 #[vx, vy] w (NtPost g w (x - y)) := by
 obtain ⟨A0, c0, rfl, h0, C0⟩ := hx
 obtain ⟨A1, c1, rfl, h1, C1⟩ := hy
 have h := less_w A0 A1 c0 c1 (digs x) (digs y) w C0 C1 (lim_digs x) (lim_digs y) (norm_digs x) (norm_digs y) (small_len bx) (small_len by_) (by rw [val_digs, val_digs]; exact hle)
 rw [val_digs, val_digs] at h
 exact h.mono (NtPost_of hg)
theorem rshrT {g : Nat} {w : World} {vx : Value} {x : Nat} (hx : Nu w vx x) (bx : x < pw 1000) (hg : g < w.heap.size) : Calls Tryz.prog 146 #[vx, .int .i64 1] w (NtPost g w (x / 2)) := by
 obtain ⟨A0, c0, rfl, h0, C0⟩ := hx
 have h := rshr_w A0 c0 (digs x) 0 1 w C0 (lim_digs x) (small_len bx) Z5 Z5
 rw [val_digs] at h
 exact h.mono (NtPost_of hg)
theorem rshlT {g : Nat} {w : World} {vx : Value} {x : Nat} (hx : Nu w vx x) (bx : x < pw 1000) (k : Nat) (hk : k < 1048576) (hz : x ≠ 0) (hg : g < w.heap.size) : Calls Tryz.prog 93 #[vx, .int .i64 (k : Int)] w (NtPost g w (x * 2 ^ k)) := by
 obtain ⟨A0, c0, rfl, h0, C0⟩ := hx
 have h := rshl_w A0 c0 (digs x) (k / 32) (k % 32) w C0 (lim_digs x) (small_len bx) (by rw [digs_pos hz]; simp) (Nat.mod_lt _ Z5) (by omega)
 rw [val_digs, show 32 * (k / 32) + k % 32 = k from by omega] at h
 exact h.mono (NtPost_of hg)
theorem rdiv_bound {x y k t c : Nat} (hK : nbits x = nbits y + k) (hx : x < pw c) (ht : t ≤ k) : y * 2 ^ t < pw c := by
 have h1 := Nat.mul_lt_mul_of_lt_of_le (lt_nbits y) (Nat.pow_le_pow_right (show 0 < 2 by decide) ht) (Nat.pow_pos Z5)
 rw [← Nat.pow_add, ← hK] at h1
 have h2 : 2 ^ nbits x ≤ pw c := by rw [pw_two]; exact Nat.pow_le_pow_right Z5 (nbits_pw hx)
 exact Nat.lt_of_lt_of_le h1 h2
theorem rdiv_or {L s : Nat} (hL : L < 4294967296) (h : L ||| 2 ^ s = L + 2 ^ s ∧ L + 2 ^ s < 4294967296) : bits .or .u32 (L : Int) ((2 : Int) ^ s % 4294967296) = ((L + 2 ^ s : Nat) : Int) := by
 have e1 : (2 : Int) ^ s = ((2 ^ s : Nat) : Int) := by rw [Int.natCast_pow]; rfl
 rw [e1]
 obtain ⟨p, hp⟩ : ∃ p, p = 2 ^ s := ⟨_, rfl⟩
 rw [← hp] at h ⊢
 rw [show ((p : Nat) : Int) % 4294967296 = (p : Int) from by omega, bits_or_u32_nat _ _ hL (by omega), h.1]
theorem rdivN {w : World} {vx vy : Value} {x y : Nat} (hx : Nu w vx x) (hy : Nu w vy y) (bx : x < pw 500) (by_ : y < pw 500) : Calls Tryz.prog 97 #[vx, vy] w (DivPost w x y) := by
 have HX0 := Aside0.mk hx
 have HY0 := Aside0.mk hy
 have BX := Aside0.mk bx
 have BY := Aside0.mk by_
 obtain ⟨A1, c1, rfl, h1, C1⟩ := hy
 clear hx bx by_ h1 C1
 by_cases hy0 : y = 0
 ·have HY := Aside0.mk hy0
  have hl0 : (digs y).length = 0 := digs_length_zero.2 hy0
  clear hy0
  go_enter Tryz.func97, Tryz.ntmps97
  go_wp2_with fail
  go_ret3
  exact div_zero HY.out (Below.refl _ _)
 ·have hlp : 0 < (digs y).length := Nat.pos_of_ne_zero (fun h => hy0 (digs_length_zero.1 h))
  have HY := Aside0.mk hy0
  have hb1 : (((digs y).length : Int) == 0) = false := by rw [beq_eq_false_iff_ne]; omega
  have hb2 : ((digs y).length == 0) = false := by rw [beq_eq_false_iff_ne]; omega
  have HBX := rbitsN HX0.out (Nat.lt_of_lt_of_le BX.out (pw_le Z5))
  have HBY := fun (W : World) (hB : Below w.heap.size w W) => rbitsN (HY0.out.below hB) (Nat.lt_of_lt_of_le BY.out (pw_le Z5))
  have hn9 := nbits_pw BX.out
  have hm9 := nbits_pw BY.out
  obtain ⟨n, hn⟩ : ∃ n, n = nbits x := ⟨_, rfl⟩
  obtain ⟨m, hm⟩ := (⟨_, rfl⟩ : ∃ m, m = nbits y)
  rw [← hn] at HBX hn9
  rw [← hm] at HBY hm9
  have HNE := Aside0.mk hn
  have HME := Aside0.mk hm
  have HBX := Aside0.mk HBX
  have HBY := Aside0.mk HBY
  clear hy0 hn hm
  go_enter Tryz.func97, Tryz.ntmps97
  go_wp2_with fail
  refine HBX.out.mono ?_
  rintro e w1 ⟨rfl, hB1⟩
  have HB1 := Aside0.mk hB1
  clear hB1
  go_wp2_with fail
  refine (HBY.out w1 HB1.out).mono ?_
  rintro e w2 ⟨rfl, hB2⟩
  have HB2 := tT HB1 hB2
  clear hB2
  by_cases hnm : n < m
  ·have HLT := Aside0.mk (show x < y from rdiv_less (by rw [← HNE.out, ← HME.out]; exact hnm))
   have HTR := Aside0.mk (trimN (HX0.out.below HB2.out) (Nat.lt_of_lt_of_le BX.out (pw_le Z5)))
   go_wp2_with fail
   refine HTR.out.mono ?_
   rintro e w3 ⟨v3, rfl, hN3, hB3⟩
   have HB3 := tT HB2 hB3
   have HN3 := Aside0.mk hN3
   clear hN3 hB3
   go_wp2_with fail
   go_ret3
   exact div_less HLT.out HN3.out HB3.out
  ·obtain ⟨k, hk⟩ : ∃ k, k = n - m := ⟨_, rfl⟩
   have hkw : IntKind.i64.wrap ((n : Int) - (m : Int)) = (k : Int) := by rw [i64_in' (by omega) (by omega)]; omega
   have hk9 : k ≤ 16000 := by omega
   have HK := Aside0.mk (show nbits x = nbits y + k by rw [← HNE.out, ← HME.out]; omega)
   obtain ⟨N, hN⟩ : ∃ N, N = k / 32 + 1 := ⟨_, rfl⟩
   have hmk : ∀ W : World, (Instr.makeSlice 25 (.int .i64 ((k : Int) / 32 + 1)) (.int .i64 ((k : Int) / 32 + 1))).run Tryz.prog W = .ok (.slice (some ⟨W.heap.size, 0, none⟩) N N) (W.alloc (.cells (madeCells #[.int .u32 0] N) 94)) := fun W => by
    have h := make_u N (by omega) W
    rw [show ((N : Nat) : Int) = (k : Int) / 32 + 1 from by omega] at h
    exact h
   have HM := Aside0.mk (RU_made w2 N (by omega))
   have HB3 := Aside0.mk (HB2.out.alloc HB2.out.size (.cells (madeCells #[.int .u32 0] N) 94))
   have HTR := Aside0.mk (trimT (g := w2.heap.size) (HX0.out.below HB3.out) (Nat.lt_of_lt_of_le BX.out (pw_le Z5)) Z33)
   have HSH := Aside0.mk (fun (W : World) (hB : Below w.heap.size w W) (hg : w2.heap.size < W.heap.size) => rshlT (g := w2.heap.size) (HY0.out.below hB) (Nat.lt_of_lt_of_le BY.out (pw_le Z5)) k (by omega) HY.out hg)
   have HNN := Aside0.mk hN
   have hN1 : 32 * N ≤ k + 32 := by omega
   have hN2 : k + 1 ≤ 32 * N := by omega
   have hnk : (n : Int) - (m : Int) = (k : Int) := by omega
   clear hN hk
   have HDB := Aside0.mk (show ∀ t, t ≤ k → y * 2 ^ t < pw 500 from fun t ht => rdiv_bound HK.out BX.out ht)
   have HST := Aside0.mk (rdiv_start HY.out HK.out)
   go_wp2_with fail
   refine HTR.out.mono ?_
   rintro e w3 ⟨v3, rfl, hN3, hB3⟩
   have HN3 := Aside0.mk hN3
   have HM3 := Aside0.mk (RU_below HM.out hB3)
   have HB4 := tT HB3 hB3
   have HS4 := Aside0.mk (HSH.out w3 HB4.out (by have := hB3.size; simp at this; omega))
   clear hN3 hB3
   go_wp2_with fail
   refine HS4.out.mono ?_
   rintro e w4 ⟨v4, rfl, hN4, hB4⟩
   have HN4 := Aside0.mk hN4
   have HN3 := Aside0.mk (HN3.out.below hB4)
   have HM4 := Aside0.mk (RU_lower (RU_below HM3.out hB4) HB2.out.size)
   have HB5 := tT HB4 hB4
   have hw2 : w.heap.size ≤ w2.heap.size := HB2.out.size
   clear hN4 hB4
   go_wp2_with fail
   go_loopw [9, 10, 11] (fun rr dd ii wr => ∃ (j r : Nat) (q : List Int), ii = .int .i64 ((j : Int) - 1) ∧ j ≤ k + 1 ∧ Aside0 (Nt w2.heap.size wr rr r ∧ Nt w2.heap.size wr dd (y * 2 ^ j / 2) ∧ r < y * 2 ^ j ∧ x = r + y * val q ∧ val q % 2 ^ j = 0 ∧ q.length = N ∧ Lim q ∧ RU wr w.heap.size (.slice (some ⟨w2.heap.size, 0, none⟩) N N) q) ∧ Aside0 (Below w.heap.size w wr)) (fun _ _ ii _ => (intOf ii + 1).toNat)
   case atStart => exact ⟨k + 1, x, List.replicate N 0, by go_num, Nat.le_refl _, ⟨HN3.out, by rw [rdiv_half]; exact HN4.out, HST.out, by rw [val_replicate, Nat.mul_zero, Nat.add_zero], by rw [val_replicate, Nat.zero_mod], List.length_replicate, Lim.replicate N, HM4.out⟩, ⟨HB5.out⟩⟩
   case round =>
    clear HN3 HN4 HM3 HM4 HS4 HTR HBX HBY HSH
    obtain ⟨j, r, q, rfl, hj, HQ, HB⟩ := hrel
    rcases Nat.eq_zero_or_pos j with rfl | hj0
    ·obtain ⟨hr, _, hlt, he, _, hql, hLq, hRq⟩ := HQ.out
     rw [Nat.pow_zero, Nat.mul_one] at hlt
     have HE := Aside0.mk (rdiv_end he hlt)
     have HC := trim_w (some ⟨w2.heap.size, 0, none⟩) N q _ (CU_tch hRq hql (tch_refl (w2.heap.size + 1) _) (by omega)) (by omega) (by omega)
     rw [hql] at HC
     have HC := Aside0.mk HC
     have HR := Aside0.mk hr
     have HL := Aside0.mk hLq
     clear hr hlt he hql hLq hRq
     go_wp2_with fail
     refine HC.out.mono ?_
     rintro e w6 ⟨vq, rfl, hR6, hB6⟩
     rw [strip_eq HL.out] at hR6
     have HQ6 := Aside0.mk (Nu_of_RU hR6)
     have HR6 := Aside0.mk (HR.out.below hB6)
     have HB6 := tT HB hB6
     clear hR6 hB6
     go_wp2_with fail
     go_ret3
     exact div_done HY.out (by rw [← HE.out.1]; exact HQ6.out) (by rw [← HE.out.2]; exact HR6.out.nu) HB6.out
    ·obtain ⟨t, rfl⟩ : ∃ t, j = t + 1 := ⟨j - 1, by omega⟩
     rw [show ((t + 1 : Nat) : Int) - 1 = (t : Int) from by omega]
     have hd := HQ.out.2.1
     rw [rdiv_half] at hd
     have hrx : r < pw 500 := by have h1 := HQ.out.2.2.2.1; have h2 := BX.out; omega
     have hr1 : r < pw 1000 := Nat.lt_of_lt_of_le hrx (pw_le Z5)
     have hd1 : y * 2 ^ t < pw 1000 := Nat.lt_of_lt_of_le (HDB.out t (by omega)) (pw_le Z5)
     have HCM := rcmpN HQ.out.1.nu hd.nu hr1 hd1
     have HD := Aside0.mk hd
     have HR1 := Aside0.mk hr1
     have HD1 := Aside0.mk hd1
     clear hd hrx hr1 hd1
     obtain ⟨z, hz⟩ : ∃ z, z = cmpZ r (y * 2 ^ t) := ⟨_, rfl⟩
     rw [← hz] at HCM
     have HCM := Aside0.mk HCM
     by_cases hle : y * 2 ^ t ≤ r
     ·have hz0 : decide (0 ≤ z) = true := by
       rw [decide_eq_true_iff, hz]
       rcases Nat.lt_or_ge (y * 2 ^ t) r with h | h
       ·rw [cmpZ_gt h]; omega
       ·rw [cmpZ_eq (by omega)]; omega
      have HLE := Aside0.mk hle
      clear hz hle
      go_wp2_with fail
      refine HCM.out.mono ?_
      rintro e w5 ⟨rfl, hB5⟩
      have HD5 := Aside0.mk (HD.out.below hB5)
      have HR5 := Aside0.mk (HQ.out.1.below hB5)
      have HQ5 := Aside0.mk (RU_below HQ.out.2.2.2.2.2.2.2 hB5)
      have HB5 := tT HB hB5
      clear hB5
      have HLS := Aside0.mk (rlessT (g := w2.heap.size) HR5.out.nu HD5.out.nu HR1.out HD1.out HLE.out ((own_RU HQ5.out).lt _ rfl).2)
      go_wp2_with fail
      refine HLS.out.mono ?_
      rintro e w6 ⟨v6, rfl, hN6, hB6⟩
      have HR6 := Aside0.mk hN6
      have HD6 := Aside0.mk (HD5.out.below hB6)
      have HQ6 := Aside0.mk (RU_below HQ5.out hB6)
      have HB6 := tT HB5 hB6
      clear hN6 hB6
      obtain ⟨hc1, hc2⟩ := RU_at HQ6.out HQ.out.2.2.2.2.2.1 (t / 32) (by omega)
      rw [lm_cast HQ.out.2.2.2.2.2.2.1] at hc1
      have hL1 := lm_lt HQ.out.2.2.2.2.2.2.1 (t / 32)
      have hLm := rdiv_limb (q := q) (i := t / 32) (s := t % 32) HQ.out.2.2.2.2.2.2.1 (by omega) (by rw [show 32 * (t / 32) + t % 32 + 1 = t + 1 from by omega]; exact HQ.out.2.2.2.2.1)
      have hsum := rdiv_sum hL1 (show t % 32 < 32 by omega) hLm
      obtain ⟨L, hLe⟩ : ∃ L, L = lm q (t / 32) := ⟨_, rfl⟩
      rw [← hLe] at hc1 hL1 hsum
      have HLE2 := Aside0.mk hLe
      have HSUM := Aside0.mk hsum
      clear hLm hLe hsum
      have hor := rdiv_or hL1 HSUM.out
      have HOR := Aside0.mk hor
      obtain ⟨P, hP⟩ : ∃ P, P = L + 2 ^ (t % 32) := ⟨_, rfl⟩
      have HP := Aside0.mk hP
      clear hor hP
      go_wp2_with fail
      rw [HOR.out, ← HP.out]
      have HST2 := Aside0.mk (RU_set HQ6.out HQ.out.2.2.2.2.2.1 (t / 32) (P : Int))
      have HT7 := Aside0.mk (tch_set (tch_refl w2.heap.size w6) (t / 32) (.int .u32 (P : Int)))
      have HB7 := Aside0.mk (below_set HB6.out hw2 (t / 32) (.int .u32 (P : Int)))
      generalize w6.setCell ⟨w2.heap.size, t / 32, none⟩ (.int .u32 (P : Int)) = w7 at HST2 HT7 HB7 ⊢
      have HD7 := Aside0.mk (HD6.out.tch HT7.out)
      have HR7 := Aside0.mk (HR6.out.tch HT7.out)
      refine (rshrT (g := w2.heap.size) HD7.out.nu HD1.out ((own_RU HST2.out).lt _ rfl).2).mono ?_
      rintro e w8 ⟨v8, rfl, hN8, hB8⟩
      have HD8 := Aside0.mk hN8
      have HR8 := Aside0.mk (HR7.out.below hB8)
      have HQ8 := Aside0.mk (RU_below HST2.out hB8)
      have HB8 := tT HB7 hB8
      have HONE := Aside0.mk (rdiv_one HQ.out.2.2.2.1 HQ.out.2.2.2.2.1 HQ.out.2.2.1 HLE.out)
      have HVS := Aside0.mk (show val (q.set (t / 32) (P : Int)) = val q + 2 ^ t by
       have h1 := rdiv_set (q := q) (i := t / 32) (s := t % 32) (by have := HQ.out.2.2.2.2.2.1; omega)
       rw [← HLE2.out, ← HP.out, show 32 * (t / 32) + t % 32 = t from by omega] at h1
       exact h1)
      have hPb : P < 4294967296 := by rw [HP.out]; exact HSUM.out.2
      clear hN8 hB8
      go_wp2_with fail
      go_roundw
      case rel => exact ⟨t, r - y * 2 ^ t, q.set (t / 32) (P : Int), by go_num, by omega, ⟨HR8.out, HD8.out, HONE.out.2.2, by rw [HVS.out]; exact HONE.out.1, by rw [HVS.out]; exact HONE.out.2.1, by rw [List.length_set]; exact HQ.out.2.2.2.2.2.1, HQ.out.2.2.2.2.2.2.1.set _ (by omega) (by omega), HQ8.out⟩, ⟨HB8.out⟩⟩
      case measure => simp [intOf]
     ·have hz0 : decide (0 ≤ z) = false := by
       rw [decide_eq_false_iff_not, hz, cmpZ_lt (by omega)]; omega
      have HLE := Aside0.mk (show r < y * 2 ^ t by omega)
      clear hz hle
      go_wp2_with fail
      refine HCM.out.mono ?_
      rintro e w5 ⟨rfl, hB5⟩
      have HD5 := Aside0.mk (HD.out.below hB5)
      have HR5 := Aside0.mk (HQ.out.1.below hB5)
      have HQ5 := Aside0.mk (RU_below HQ.out.2.2.2.2.2.2.2 hB5)
      have HB5 := tT HB hB5
      clear hB5
      have HSR := Aside0.mk (rshrT (g := w2.heap.size) HD5.out.nu HD1.out ((own_RU HQ5.out).lt _ rfl).2)
      have HSR : Aside0 (Calls Tryz.prog 146 #[u10, .int .i64 1] w5 (NtPost w2.heap.size w5 (y * 2 ^ t / 2))) := ⟨HSR.out⟩
      go_wp2_with fail
      refine HSR.out.mono ?_
      rintro e w6 ⟨v6, rfl, hN6, hB6⟩
      have HD6 := Aside0.mk hN6
      have HR6 := Aside0.mk (HR5.out.below hB6)
      have HQ6 := Aside0.mk (RU_below HQ5.out hB6)
      have HB6 := tT HB5 hB6
      clear hN6 hB6
      go_wp2_with fail
      go_roundw
      case rel => exact ⟨t, r, q, by go_num, by omega, ⟨HR6.out, HD6.out, HLE.out, HQ.out.2.2.2.1, rdiv_none HQ.out.2.2.2.2.1, HQ.out.2.2.2.2.2.1, HQ.out.2.2.2.2.2.2.1, HQ6.out⟩, ⟨HB6.out⟩⟩
      case measure => simp [intOf]
theorem rdivP {w : World} {vx vy : Value} {x y : Nat} (hx : Nu w vx x) (hy : Nu w vy y) (bx : x < pw 500) (by_ : y < pw 500) (h : y ≠ 0) : Calls Tryz.prog 97 #[vx, vy] w (DivPost1 w (x / y) (x % y)) :=
 (rdivN hx hy bx by_).mono (fun e w' hd => by
  obtain ⟨vq, vr, he, hq, hr, hB⟩ := hd
  rw [if_neg h] at he hr
  exact ⟨vq, vr, he, hq, hr, hB⟩)
theorem rgcdN {w : World} {vx vy : Value} {x y : Nat} (hx : Nu w vx x) (hy : Nu w vy y) (bx : x < pw 500) (by_ : y < pw 500) : Calls Tryz.prog 96 #[vx, vy] w (NuPost w (Nat.gcd x y)) := by
 obtain ⟨A0, c0, rfl, h0, C0⟩ := hx
 obtain ⟨A1, c1, rfl, h1, C1⟩ := hy
 have BX := Aside0.mk bx
 have BY := Aside0.mk by_
 have HN0 := Aside0.mk (show Nu w (.slice A0 (digs x).length c0) x from ⟨A0, c0, rfl, h0, C0⟩)
 have HN1 := Aside0.mk (show Nu w (.slice A1 (digs y).length c1) y from ⟨A1, c1, rfl, h1, C1⟩)
 clear h0 h1 C0 C1 bx by_
 go_enter Tryz.func96, Tryz.ntmps96
 go_wp2_with fail
 go_loopg [0, 1] y (fun b va vb wr => ∃ (a : Nat) (A : Option Addr) (c : Nat), vb = .slice A (digs b).length c ∧ Aside0 (Nu wr va a ∧ Nu wr (.slice A (digs b).length c) b ∧ a < pw 500 ∧ b < pw 500 ∧ Nat.gcd a b = Nat.gcd x y) ∧ Aside0 (Below w.heap.size w wr))
 case atStart =>
  exact ⟨x, A1, c1, rfl, ⟨HN0.out, HN1.out, BX.out, BY.out, rfl⟩, ⟨Below.refl _ _⟩⟩
 case round =>
  obtain ⟨a, A, c, rfl, HN, HB⟩ := hrel
  by_cases hb : gk = 0
  ·subst hb
   have HG := Aside0.mk (show a = Nat.gcd x y by have := HN.out.2.2.2.2; rwa [Nat.gcd_zero_right] at this)
   obtain ⟨Aa, ca, e, h1, h2⟩ := HN.out.1
   subst e
   have HC := Aside0.mk (trimN ⟨Aa, ca, rfl, h1, h2⟩ (Nat.lt_of_lt_of_le HN.out.2.2.1 (pw_le Z5)))
   rw [digs_zero, List.length_nil]
   clear h1 h2
   go_wp2_with fail
   refine HC.out.mono ?_
   rintro e w3 ⟨v, rfl, hN3, hB3⟩
   have HN3 := Aside0.mk hN3
   have HB3 := tT HB hB3
   clear hN3 hB3
   go_wp2_with fail
   go_ret
   exact ⟨_, rfl, by rw [← HG.out]; exact HN3.out, HB3.out⟩
  ·have hp : 0 < (digs gk).length := Nat.pos_of_ne_zero (fun h => hb (digs_length_zero.1 h))
   have HD := Aside0.mk (rdivP HN.out.1 HN.out.2.1 HN.out.2.2.1 HN.out.2.2.2.1 hb)
   have HB0 := Aside0.mk hb
   clear hb
   go_wp2_with fail
   refine HD.out.mono ?_
   rintro e w3 ⟨vq, vr, rfl, hQ, hR, hB3⟩
   have HR := Aside0.mk hR
   have HBN := Aside0.mk (HN.out.2.1.below hB3)
   have HB3 := tT HB hB3
   clear hQ hR hB3
   go_wp2_with fail
   go_roundg (a % gk)
   case rel =>
    obtain ⟨A', c', e', h1, h2⟩ := HR.out
    exact ⟨gk, A', c', e', ⟨HBN.out, ⟨A', c', rfl, h1, h2⟩, HN.out.2.2.2.1, Nat.lt_of_le_of_lt (Nat.mod_le _ _) HN.out.2.2.1, by rw [gcd_step]; exact HN.out.2.2.2.2⟩, ⟨HB3.out⟩⟩
   case measure => exact Nat.mod_lt _ (Nat.pos_of_ne_zero HB0.out)
end Go.Proofs.YtpegcppeobndcaaGreatDoor.G
