/- Bounds of numbers, and what the rows hand over. -/
import Derived.Test.YtklhpobphloehaaDoorK
set_option linter.unusedVariables false
namespace Go.Proofs.YtklhpobphloehaaDoor.G
open Go.RowKit Go.Proofs.YtklhpobphloehaaDoorW.PrintWords Go.Proofs.YtklhpobphloehaaDoorW.PrintLast Go.Proofs.YtklhpobphloehaaDoor.Nn

theorem pw_lt1000 {n k : Nat} (h : n < pw k) (hk : k ≤ 1000) : n < pw 1000 := Nat.lt_of_lt_of_le h (pw_le hk)
theorem pw_addb {x y a b c : Nat} (hx : x < pw a) (hy : y < pw b) (ha : a + 1 ≤ c) (hb : b + 1 ≤ c) : x + y < pw c := by
  obtain ⟨d, rfl⟩ : ∃ d, c = d + 1 := ⟨c - 1, by omega⟩
  have h1 := pw_le (show a ≤ d by omega)
  have h2 := pw_le (show b ≤ d by omega)
  rw [pw_succ]
  have := pw_pos d
  omega
theorem pw_mulb {x y a b : Nat} (hx : x < pw a) (hy : y < pw b) : x * y < pw (a + b) := by
  rw [pw_add]
  exact Nat.mul_lt_mul'' hx hy
theorem pw_shlb {x a b k : Nat} (hx : x < pw a) (hk : k ≤ 32 * b) : x * 2 ^ k < pw (a + b) := by
  rw [pw_add, pw_two b]
  exact Nat.mul_lt_mul_of_lt_of_le hx (Nat.pow_le_pow_right (by decide) hk) (Nat.pow_pos (by decide))
theorem cmpZ_add {x y z : Nat} : cmpZ (x + z) (y + z) = cmpZ x y := by
  unfold cmpZ
  simp only [Nat.add_lt_add_iff_right, Nat.add_right_cancel_iff]
theorem lim_wf {l : List Int} (h : ∀ x ∈ l, (Lit.int .u32 x).wf = true) : Lim l := by
  intro x hx
  have h1 := h x hx
  have e1 : IntKind.u32.min = 0 := by decide
  have e2 : IntKind.u32.max = 4294967295 := by decide
  simp only [Lit.wf, Bool.and_eq_true, decide_eq_true_eq, e1, e2] at h1
  omega
theorem wf_i64 {x : Int} (h : (Lit.int .i64 x).wf = true) : -9223372036854775808 ≤ x ∧ x ≤ 9223372036854775807 := by
  have e1 : IntKind.i64.min = -9223372036854775808 := by decide
  have e2 : IntKind.i64.max = 9223372036854775807 := by decide
  simp only [Lit.wf, Bool.and_eq_true, decide_eq_true_eq, e1, e2] at h
  exact h
theorem wf_u64 {x : Int} (h : (Lit.int .u64 x).wf = true) : 0 ≤ x ∧ x < 18446744073709551616 := by
  have e1 : IntKind.u64.min = 0 := by decide
  have e2 : IntKind.u64.max = 18446744073709551615 := by decide
  simp only [Lit.wf, Bool.and_eq_true, decide_eq_true_eq, e1, e2] at h
  omega
theorem wf_u8 {x : Int} (h : (Lit.int .u8 x).wf = true) : 0 ≤ x ∧ x < 256 := by
  have e1 : IntKind.u8.min = 0 := by decide
  have e2 : IntKind.u8.max = 255 := by decide
  simp only [Lit.wf, Bool.and_eq_true, decide_eq_true_eq, e1, e2] at h
  omega
end Go.Proofs.YtklhpobphloehaaDoor.G
