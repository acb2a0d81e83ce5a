/- Long division: its rounds, its start, its end: plain arithmetic. -/
import Derived.Test.YtklhpobphloehaaDoorDivP
import Derived.Test.YtklhpobphloehaaDoorBitsP
import Derived.Test.YtklhpobphloehaaDoorG11
namespace Go.Proofs.YtklhpobphloehaaDoor.G
open Go.Proofs.YtklhpobphloehaaDoor.Nn

theorem lm_zero {l : List Int} (hL : Lim l) {m : Nat} (h : val l < pw m) : ∀ i, m ≤ i → lm l i = 0 := by
  intro i hi
  have h1 := val_at hL i
  rw [Nat.div_eq_of_lt (Nat.lt_of_lt_of_le h (pw_le hi))] at h1
  unfold lm
  rw [← h1]
  rfl
/-- What the first taking leaves: the right digit, or one too many. -/
theorem div_fst {lu lv o : List Int} {j n q y : Nat} (hLu : Lim lu) (hLo : Lim o) (hLv : Lim lv) (hn : lv.length = n) (hlt : val lu < val lv * pw (j + 1)) (h1 : val lu / pw j / val lv ≤ q) (h2 : q ≤ val lu / pw j / val lv + 1) (hy : y ≤ 1)
    (hv : val o + q * val lv * pw j = val lu + y * pw (j + n + 1)) (ht : ∀ m, j + n + 1 ≤ m → lm o m = lm lu m) :
    (y = 0 → q = val lu / pw j / val lv) ∧ (y = 1 → q = val lu / pw j / val lv + 1) ∧ val lu < pw (j + n + 1) ∧ val o < pw (j + n + 1) := by
  have hVlt := val_lt hLv
  rw [hn] at hVlt
  have htop : val lu < pw (j + n + 1) := by
    have : val lv * pw (j + 1) ≤ pw n * pw (j + 1) := Nat.mul_le_mul_right _ (by omega)
    rw [← pw_add, show n + (j + 1) = j + n + 1 from by omega] at this
    omega
  have hot : val o < pw (j + n + 1) := top_zero hLo (fun m hm => by rw [ht m hm]; exact lm_zero hLu htop m hm)
  have hVpos : 0 < val lv := by
    rcases Nat.eq_zero_or_pos (val lv) with h | h
    · rw [h, Nat.zero_mul] at hlt; omega
    · exact h
  have hmul : 0 < pw j * val lv := Nat.mul_pos (pw_pos j) hVpos
  rw [Nat.div_div_eq_div_mul] at *
  have e : q * val lv * pw j = q * (pw j * val lv) := by rw [Nat.mul_assoc, Nat.mul_comm (val lv)]
  rw [e] at hv
  refine ⟨fun h => ?_, fun h => ?_, htop, hot⟩
  · subst h
    have : q ≤ val lu / (pw j * val lv) := (Nat.le_div_iff_mul_le hmul).2 (by omega)
    omega
  · subst h
    rcases Nat.lt_or_ge q (val lu / (pw j * val lv) + 1) with hlt' | hge
    · have hle : q ≤ val lu / (pw j * val lv) := by omega
      have := (Nat.le_div_iff_mul_le hmul).1 hle
      omega
    · omega
/-- Given back, it is right. -/
theorem div_snd {lu lv o o2 : List Int} {j n c : Nat} {Q : Nat} (hLo2 : Lim o2) (hc : c ≤ 1) (htop : val lu < pw (j + n + 1)) (hL : Lim o) (hot : val o < pw (j + n + 1)) (hQ : Q * val lv * pw j ≤ val lu)
    (hv : val o + (Q + 1) * val lv * pw j = val lu + pw (j + n + 1)) (hb : val o2 + c * pw (j + n + 1) = val o + val lv * pw j) (ht : ∀ m, j + n + 1 ≤ m → lm o2 m = lm o m) : val o2 + Q * val lv * pw j = val lu := by
  have hot2 : val o2 < pw (j + n + 1) := top_zero hLo2 (fun m hm => by rw [ht m hm]; exact lm_zero hL hot m hm)
  rw [Nat.add_mul, Nat.one_mul, Nat.add_mul] at hv
  rcases (show c = 0 ∨ c = 1 by omega) with rfl | rfl
  · omega
  · omega
theorem div_rel {lu lv o2 out : List Int} {j A : Nat} (hV : 0 < val lv) (hj : j < out.length) (h2 : val o2 + (val lu / pw j / val lv) * val lv * pw j = val lu) (hA : val lu + val lv * (pw (j + 1) * val (out.drop (j + 1))) = A) :
    val o2 + val lv * (pw j * val ((out.set j ((val lu / pw j / val lv : Nat) : Int)).drop j)) = A ∧ val o2 < val lv * pw j := by
  generalize hQ : val lu / pw j / val lv = Q at *
  constructor
  · rw [val_drop_at (out.set j (Q : Int)), lm_set_self hj, drop_set, ← hA, ← h2, Nat.mul_add, Nat.mul_add, pw_succ]
    have e1 : Q * val lv * pw j = val lv * (pw j * Q) := by ac_rfl
    have e2 : val lv * (pw j * (4294967296 * val (out.drop (j + 1)))) = val lv * (4294967296 * pw j * val (out.drop (j + 1))) := by ac_rfl
    omega
  · rw [Nat.div_div_eq_div_mul] at hQ
    have h3 := Nat.div_add_mod (val lu) (pw j * val lv)
    rw [hQ] at h3
    have h4 := Nat.mod_lt (val lu) (Nat.mul_pos (pw_pos j) hV)
    have e1 : Q * val lv * pw j = pw j * val lv * Q := by ac_rfl
    rw [Nat.mul_comm (val lv)]
    omega
theorem div_start {x y s : Nat} (hs : s ≤ 31) (hle : (digs y).length ≤ (digs x).length) (hy : 2 ^ (32 * (digs y).length - 1) ≤ y * 2 ^ s) (hp : 0 < (digs y).length) : x * 2 ^ s < y * 2 ^ s * pw ((digs x).length - (digs y).length + 1) := by
  have h1 := lt_pw_digs x
  have h2 : x * 2 ^ s < pw (digs x).length * 2 ^ 31 := Nat.mul_lt_mul_of_lt_of_le h1 (Nat.pow_le_pow_right (by decide) hs) (Nat.pow_pos (by decide))
  have h3 := Nat.mul_le_mul_right (pw ((digs x).length - (digs y).length + 1)) hy
  have h4 : pw (digs x).length * 2 ^ 31 = 2 ^ (32 * (digs y).length - 1) * pw ((digs x).length - (digs y).length + 1) := by
    rw [pw_two, pw_two, ← Nat.pow_add, ← Nat.pow_add]
    congr 1
    omega
  omega
theorem div_end {x y s u q : Nat} (h : u + y * 2 ^ s * q = x * 2 ^ s) (hu : u < y * 2 ^ s) : q = x / y ∧ u / 2 ^ s = x % y := by
  have hp : 0 < 2 ^ s := Nat.pow_pos (by decide)
  have hy : 0 < y := by
    rcases Nat.eq_zero_or_pos y with h0 | h0
    · rw [h0, Nat.zero_mul] at hu; omega
    · exact h0
  have h1 : u = 2 ^ s * (x - y * q) := by
    rw [Nat.mul_sub, Nat.mul_comm _ x]
    have : 2 ^ s * (y * q) = y * 2 ^ s * q := by ac_rfl
    omega
  have h2 : y * q ≤ x := by
    refine Nat.le_of_mul_le_mul_right ?_ hp
    have : y * q * 2 ^ s = y * 2 ^ s * q := by ac_rfl
    omega
  have h3 : x - y * q < y := by
    refine Nat.lt_of_mul_lt_mul_right (a := 2 ^ s) ?_
    rw [Nat.mul_comm (x - y * q), ← h1]
    exact hu
  constructor
  · have : x = y * q + (x - y * q) := by omega
    rw [this, Nat.mul_add_div hy, Nat.div_eq_of_lt h3, Nat.add_zero]
  · rw [h1, Nat.mul_div_cancel_left _ hp]
    have : x = y * q + (x - y * q) := by omega
    conv => rhs; rw [this, Nat.mul_add_mod, Nat.mod_eq_of_lt h3]
/-- The divisor, shifted till its highest digit is one. -/
theorem div_norm {y : Nat} (h : y ≠ 0) : (digs (y * 2 ^ (32 - nbits (lm (digs y) ((digs y).length - 1))))).length = (digs y).length ∧ 2 ^ (32 * (digs y).length - 1) ≤ y * 2 ^ (32 - nbits (lm (digs y) ((digs y).length - 1))) ∧
    2147483648 ≤ lm (digs (y * 2 ^ (32 - nbits (lm (digs y) ((digs y).length - 1))))) ((digs y).length - 1) ∧ 1 ≤ nbits (lm (digs y) ((digs y).length - 1)) ∧ nbits (lm (digs y) ((digs y).length - 1)) ≤ 32 := by
  have hlen : 0 < (digs y).length := by
    rcases Nat.eq_zero_or_pos (digs y).length with h0 | h0
    · exact absurd (digs_length_zero.1 h0) h
    · exact h0
  have ht := nbits_top (lim_digs y) (norm_digs y) hlen
  rw [val_digs] at ht
  have hb32 := nbits_limb (lm_lt (lim_digs y) ((digs y).length - 1))
  have hb1 : 1 ≤ nbits (lm (digs y) ((digs y).length - 1)) := by
    rcases Nat.eq_zero_or_pos (nbits (lm (digs y) ((digs y).length - 1))) with h0 | h0
    · have hle := pw_le_of_digs h
      have h3 := lt_nbits y
      rw [ht, h0, Nat.add_zero, ← pw_two] at h3
      omega
    · exact h0
  generalize nbits (lm (digs y) ((digs y).length - 1)) = t at *
  have hsh := nbits_shift h (32 - t)
  rw [ht] at hsh
  have hY0 : y * 2 ^ (32 - t) ≠ 0 := by
    have := Nat.mul_pos (Nat.pos_of_ne_zero h) (Nat.pow_pos (by decide : 0 < 2) (n := 32 - t))
    omega
  have hle := le_nbits hY0
  have hlt := lt_nbits (y * 2 ^ (32 - t))
  rw [hsh] at hle hlt
  rw [show 32 * ((digs y).length - 1) + t + (32 - t) = 32 * (digs y).length from by omega] at hle hlt
  have hl1 : (digs (y * 2 ^ (32 - t))).length ≤ (digs y).length := digs_length_le (by rw [pw_two]; exact hlt)
  have hl2 : (digs y).length ≤ (digs (y * 2 ^ (32 - t))).length := by
    refine Nat.le_of_not_lt fun hc => ?_
    have h1 := lt_pw_digs (y * 2 ^ (32 - t))
    have h2 := pw_le (show (digs (y * 2 ^ (32 - t))).length ≤ (digs y).length - 1 by omega)
    rw [pw_two ((digs y).length - 1)] at h2
    have h3 : 2 ^ (32 * ((digs y).length - 1)) ≤ 2 ^ (32 * (digs y).length - 1) := Nat.pow_le_pow_right (by decide) (by omega)
    omega
  have heq : (digs (y * 2 ^ (32 - t))).length = (digs y).length := by omega
  refine ⟨heq, hle, ?_, hb1, hb32⟩
  have ht2 := nbits_top (lim_digs (y * 2 ^ (32 - t))) (norm_digs _) (by omega)
  rw [val_digs, hsh, heq] at ht2
  have h32 : nbits (lm (digs (y * 2 ^ (32 - t))) ((digs y).length - 1)) = 32 := by omega
  have hz : lm (digs (y * 2 ^ (32 - t))) ((digs y).length - 1) ≠ 0 := by
    intro h0
    rw [h0, nbits_zero] at h32
    omega
  have := le_nbits hz
  rw [h32] at this
  exact this
end Go.Proofs.YtklhpobphloehaaDoor.G
