/- Long division's guess of a digit: plain arithmetic. -/
namespace Go.Proofs.YtklhpobphloehaaDoor.Nn

section
variable {B W V P t u2 wl v1 v2 vl : Nat}

theorem k_init (hW : W = (t * B + u2) * P + wl) (hwl : wl < P) (hu2 : u2 < B)
    (hV : V = (v1 * B + v2) * P + vl) (hv1 : 0 < v1) : W / V ≤ t / v1 := by
  rw [Nat.le_div_iff_mul_le hv1]
  generalize hq : W / V = q
  have h1 : q * V ≤ W := by rw [← hq]; exact Nat.div_mul_le_self W V
  refine Nat.le_of_not_lt fun hlt => ?_
  have h2 : (t + 1) * (B * P) ≤ q * v1 * (B * P) := Nat.mul_le_mul_right _ hlt
  have h3 : q * v1 * (B * P) ≤ q * V := by
    rw [hV, Nat.mul_assoc]
    refine Nat.mul_le_mul_left _ ?_
    rw [Nat.add_mul, ← Nat.mul_assoc]
    omega
  have h4 : u2 * P + P ≤ B * P := by
    have := Nat.mul_le_mul_right P (show u2 + 1 ≤ B from hu2)
    rw [Nat.add_mul] at this
    omega
  have h5 : (t * B + u2) * P = t * (B * P) + u2 * P := by rw [Nat.add_mul, Nat.mul_assoc]
  rw [Nat.add_mul] at h2
  omega

theorem k_over {q r : Nat} (hW : W = (t * B + u2) * P + wl) (hwl : wl < P)
    (hV : V = (v1 * B + v2) * P + vl) (hqr : q * v1 + r = t) (hgt : r * B + u2 < q * v2) (hV0 : 0 < V) : W / V < q := by
  rw [Nat.div_lt_iff_lt_mul hV0]
  have h1 : (t * B + u2 + 1) * P ≤ q * (v1 * B + v2) * P := by
    refine Nat.mul_le_mul_right _ ?_
    rw [← hqr, Nat.mul_add, ← Nat.mul_assoc, Nat.add_mul]
    omega
  have h2 : q * (v1 * B + v2) * P ≤ q * V := by
    rw [hV, Nat.mul_assoc]
    exact Nat.mul_le_mul_left _ (Nat.le_add_right _ _)
  rw [Nat.add_mul] at h1
  omega

theorem k_done {q r : Nat} (hW : W = (t * B + u2) * P + wl)
    (hV : V = (v1 * B + v2) * P + vl) (hvl : vl < P) (hv1 : 0 < v1) (hqr : q * v1 + r = t) (hle : q * v2 ≤ r * B + u2) (hq : q < B) : q ≤ W / V + 1 := by
  rcases Nat.eq_zero_or_pos q with h0 | h0
  · rw [h0]; exact Nat.zero_le _
  have hV0 : B * P ≤ V := by
    have := Nat.mul_le_mul_right (B * P) (show 1 ≤ v1 from hv1)
    rw [hV, Nat.add_mul, Nat.mul_assoc]
    omega
  have h1 : q * (v1 * B + v2) * P ≤ (t * B + u2) * P := by
    refine Nat.mul_le_mul_right _ ?_
    rw [← hqr, Nat.mul_add, ← Nat.mul_assoc, Nat.add_mul]
    omega
  have h2 : q * vl ≤ B * P := Nat.mul_le_mul (by omega) (by omega)
  have h3 : q * V = q * (v1 * B + v2) * P + q * vl := by rw [hV, Nat.mul_add, ← Nat.mul_assoc]
  have h4 : (q - 1) * V ≤ W := by
    rw [Nat.sub_mul, Nat.one_mul]
    omega
  have hBP : 0 < B * P := Nat.mul_pos (by omega) (by omega)
  have := (Nat.le_div_iff_mul_le (show 0 < V by omega)).2 h4
  omega
end
end Go.Proofs.YtklhpobphloehaaDoor.Nn
