/- Numbers as values: each call's contract at any two numbers. -/
import Derived.Test.YtklhpobphloehaaDoorG10
set_option linter.unusedVariables false
namespace Go.Proofs.YtklhpobphloehaaDoor.G
open Go.RowKit Go.Proofs.YtklhpobphloehaaDoorW.PrintWords Go.Proofs.YtklhpobphloehaaDoorW.PrintLast Go.Proofs.YtklhpobphloehaaDoor.Nn

theorem addN {w : World} {vx vy : Value} {x y : Nat} (hx : Nu w vx x) (hy : Nu w vy y) (bx : x < pw 1000) (by_ : y < pw 1000) : Calls Tryd.prog 37 #[vx, vy] w (NuPost w (x + y)) := by
  obtain ⟨A0, c0, rfl, h0, C0⟩ := hx
  obtain ⟨A1, c1, rfl, h1, C1⟩ := hy
  have h := add_w A0 A1 c0 c1 (digs x) (digs y) w C0 C1 (lim_digs x) (lim_digs y) (small_len bx) (small_len by_)
  rw [val_digs, val_digs] at h
  exact h.mono NuPost_of
theorem raddN {w : World} {vx vy : Value} {x y : Nat} (hx : Nu w vx x) (hy : Nu w vy y) (bx : x < pw 1000) (by_ : y < pw 1000) : Calls Tryd.prog 49 #[vx, vy] w (NuPost w (x + y)) := by
  obtain ⟨A0, c0, rfl, h0, C0⟩ := hx
  obtain ⟨A1, c1, rfl, h1, C1⟩ := hy
  have h := radd_w A0 A1 c0 c1 (digs x) (digs y) w C0 C1 (lim_digs x) (lim_digs y) (small_len bx) (small_len by_)
  rw [val_digs, val_digs] at h
  exact h.mono NuPost_of
theorem mulN {w : World} {vx vy : Value} {x y : Nat} (hx : Nu w vx x) (hy : Nu w vy y) (bx : x < pw 1000) (by_ : y < pw 1000) : Calls Tryd.prog 39 #[vx, vy] w (NuPost w (x * y)) := by
  obtain ⟨A0, c0, rfl, h0, C0⟩ := hx
  obtain ⟨A1, c1, rfl, h1, C1⟩ := hy
  have h := mul_w A0 A1 c0 c1 (digs x) (digs y) w C0 C1 (lim_digs x) (lim_digs y) (small_len bx) (small_len by_)
  rw [val_digs, val_digs] at h
  exact h.mono NuPost_of
theorem rmulN {w : World} {vx vy : Value} {x y : Nat} (hx : Nu w vx x) (hy : Nu w vy y) (bx : x < pw 1000) (by_ : y < pw 1000) : Calls Tryd.prog 50 #[vx, vy] w (NuPost w (x * y)) := by
  obtain ⟨A0, c0, rfl, h0, C0⟩ := hx
  obtain ⟨A1, c1, rfl, h1, C1⟩ := hy
  have h := rmul_w A0 A1 c0 c1 (digs x) (digs y) w C0 C1 (lim_digs x) (lim_digs y) (small_len bx) (small_len by_)
  rw [val_digs, val_digs] at h
  exact h.mono NuPost_of
def NuPost2 (w : World) (n : Nat) (k : Int) (e : Ending) (w' : World) : Prop := ∃ v, e = .returned (.tuple #[v, .int .i64 k]) ∧ Nu w' v n ∧ Below w.heap.size w w'
theorem NuPost2_of {w : World} {a b : Nat} (e : Ending) (w' : World) (h : SubPost w a b e w') : NuPost2 w (a - b) (if a < b then 1 else 0) e w' := by
  obtain ⟨v, he, hR, hB⟩ := h
  exact ⟨v, he, Nu_of_RU hR, hB⟩
theorem subN {w : World} {vx vy : Value} {x y : Nat} (hx : Nu w vx x) (hy : Nu w vy y) (bx : x < pw 1000) (by_ : y < pw 1000) : Calls Tryd.prog 38 #[vx, vy] w (NuPost2 w (x - y) (if x < y then 1 else 0)) := by
  obtain ⟨A0, c0, rfl, h0, C0⟩ := hx
  obtain ⟨A1, c1, rfl, h1, C1⟩ := hy
  have h := sub_w A0 A1 c0 c1 (digs x) (digs y) w C0 C1 (lim_digs x) (lim_digs y) (norm_digs x) (norm_digs y) (small_len bx) (small_len by_)
  rw [val_digs, val_digs] at h
  exact h.mono NuPost2_of
theorem rsubN {w : World} {vx vy : Value} {x y : Nat} (hx : Nu w vx x) (hy : Nu w vy y) (bx : x < pw 1000) (by_ : y < pw 1000) : Calls Tryd.prog 42 #[vx, vy] w (NuPost2 w (x - y) (if x < y then 1 else 0)) := by
  obtain ⟨A0, c0, rfl, h0, C0⟩ := hx
  obtain ⟨A1, c1, rfl, h1, C1⟩ := hy
  have h := rsub_w A0 A1 c0 c1 (digs x) (digs y) w C0 C1 (lim_digs x) (lim_digs y) (norm_digs x) (norm_digs y) (small_len bx) (small_len by_)
  rw [val_digs, val_digs] at h
  exact h.mono NuPost2_of
theorem cmpN {w : World} {vx vy : Value} {x y : Nat} (hx : Nu w vx x) (hy : Nu w vy y) (bx : x < pw 1000) (by_ : y < pw 1000) : Calls Tryd.prog 40 #[vx, vy] w (IntPost w (cmpZ x y)) := by
  obtain ⟨A0, c0, rfl, h0, C0⟩ := hx
  obtain ⟨A1, c1, rfl, h1, C1⟩ := hy
  have h := cmp_w A0 A1 c0 c1 (digs x) (digs y) w C0 C1 (lim_digs x) (lim_digs y) (norm_digs x) (norm_digs y) (small_len bx) (small_len by_)
  rwa [val_digs, val_digs] at h
theorem rcmpN {w : World} {vx vy : Value} {x y : Nat} (hx : Nu w vx x) (hy : Nu w vy y) (bx : x < pw 1000) (by_ : y < pw 1000) : Calls Tryd.prog 41 #[vx, vy] w (IntPost w (cmpZ x y)) := by
  obtain ⟨A0, c0, rfl, h0, C0⟩ := hx
  obtain ⟨A1, c1, rfl, h1, C1⟩ := hy
  have h := rcmp_w A0 A1 c0 c1 (digs x) (digs y) w C0 C1 (lim_digs x) (lim_digs y) (norm_digs x) (norm_digs y) (small_len bx) (small_len by_)
  rwa [val_digs, val_digs] at h
def TruePost (w : World) (e : Ending) (w' : World) : Prop := e = .returned (.bool true) ∧ Below w.heap.size w w'
theorem sameN {w : World} {vx vy : Value} {x y : Nat} (hx : Nu w vx x) (hy : Nu w vy y) (bx : x < pw 1000) (he : x = y) : Calls Tryd.prog 28 #[vx, vy] w (TruePost w) := by
  obtain ⟨A0, c0, rfl, h0, C0⟩ := hx
  obtain ⟨A1, c1, rfl, h1, C1⟩ := hy
  exact same_w A0 A1 c0 c1 (digs x) (digs y) w C0 C1 (lim_digs x) (lim_digs y) (norm_digs x) (norm_digs y) (small_len bx) (small_len (by rw [← he]; exact bx)) (by rw [val_digs, val_digs]; exact he)
theorem ofN {w : World} (v : Nat) (hv : v < 18446744073709551616) : Calls Tryd.prog 45 #[.int .u64 (v : Int)] w (NuPost w v) := (of_w v w hv).mono NuPost_of
theorem rofN {w : World} (v : Nat) (hv : v < 18446744073709551616) : Calls Tryd.prog 46 #[.int .u64 (v : Int)] w (NuPost w v) := (rof_w v w hv).mono NuPost_of
theorem shlN {w : World} {vx : Value} {x : Nat} (hx : Nu w vx x) (bx : x < pw 1000) (k : Nat) (hk : k < 1048576) : Calls Tryd.prog 31 #[vx, .int .i64 (k : Int)] w (NuPost w (x * 2 ^ k)) := by
  obtain ⟨A0, c0, rfl, h0, C0⟩ := hx
  have h := shl_w A0 c0 (digs x) (k / 32) (k % 32) w C0 (lim_digs x) (small_len bx) (Nat.mod_lt _ (by decide)) (by omega)
  rw [val_digs, show 32 * (k / 32) + k % 32 = k from by omega] at h
  exact h.mono NuPost_of
theorem shrN {w : World} {vx : Value} {x : Nat} (hx : Nu w vx x) (bx : x < pw 1000) (k : Nat) (hk : k < 1048576) : Calls Tryd.prog 32 #[vx, .int .i64 (k : Int)] w (NuPost w (x / 2 ^ k)) := by
  obtain ⟨A0, c0, rfl, h0, C0⟩ := hx
  have h := shr_w A0 c0 (digs x) (k / 32) (k % 32) w C0 (lim_digs x) (small_len bx) (Nat.mod_lt _ (by decide)) (by omega)
  rw [val_digs, show 32 * (k / 32) + k % 32 = k from by omega] at h
  exact h.mono NuPost_of
theorem rshrN {w : World} {vx : Value} {x : Nat} (hx : Nu w vx x) (bx : x < pw 1000) (k : Nat) (hk : k < 1048576) : Calls Tryd.prog 34 #[vx, .int .i64 (k : Int)] w (NuPost w (x / 2 ^ k)) := by
  obtain ⟨A0, c0, rfl, h0, C0⟩ := hx
  have h := rshr_w A0 c0 (digs x) (k / 32) (k % 32) w C0 (lim_digs x) (small_len bx) (Nat.mod_lt _ (by decide)) (by omega)
  rw [val_digs, show 32 * (k / 32) + k % 32 = k from by omega] at h
  exact h.mono NuPost_of
theorem rshlN {w : World} {vx : Value} {x : Nat} (hx : Nu w vx x) (bx : x < pw 1000) (k : Nat) (hk : k < 1048576) : Calls Tryd.prog 33 #[vx, .int .i64 (k : Int)] w (NuPost w (x * 2 ^ k)) := by
  obtain ⟨A0, c0, rfl, h0, C0⟩ := hx
  by_cases hz : x = 0
  · subst hz
    have h := rshl_out A0 c0 (digs 0) (k : Int) w C0 h0 (lim_digs 0) (small_len bx) (.inr (.inr digs_zero))
    rw [val_digs] at h
    rw [Nat.zero_mul]
    exact h.mono NuPost_of
  · have h := rshl_w A0 c0 (digs x) (k / 32) (k % 32) w C0 (lim_digs x) (small_len bx) (by rw [digs_pos hz]; simp) (Nat.mod_lt _ (by decide)) (by omega)
    rw [val_digs, show 32 * (k / 32) + k % 32 = k from by omega] at h
    exact h.mono NuPost_of
theorem shlOut {w : World} {vx : Value} {x : Nat} (hx : Nu w vx x) (bx : x < pw 1000) (k : Int) (hk : k < 0 ∨ 1048576 < k) : Calls Tryd.prog 31 #[vx, .int .i64 k] w (NuPost w x) := by
  obtain ⟨A0, c0, rfl, h0, C0⟩ := hx
  have h := shl_w_out A0 c0 (digs x) k w C0 h0 (lim_digs x) (norm_digs x) (small_len bx) hk
  rw [val_digs] at h
  exact h.mono NuPost_of
theorem shrOut {w : World} {vx : Value} {x : Nat} (hx : Nu w vx x) (bx : x < pw 1000) (k : Int) (hk : k < 0 ∨ 1048576 < k) : Calls Tryd.prog 32 #[vx, .int .i64 k] w (NuPost w x) := by
  obtain ⟨A0, c0, rfl, h0, C0⟩ := hx
  have h := shr_w_out A0 c0 (digs x) k w C0 h0 (lim_digs x) (norm_digs x) (small_len bx) hk
  rw [val_digs] at h
  exact h.mono NuPost_of
/-- What Make leaves of raw limbs. -/
def mk (l : List Int) (m : Nat) : Nat := val (l.take m)
theorem mk_lt {l : List Int} (h : Lim l) (m : Nat) : mk l m < pw m := by
  have := val_lt (h.take m)
  exact Nat.lt_of_lt_of_le this (pw_le (by rw [List.length_take]; omega))
theorem makeN {w : World} {A : Option Addr} {c : Nat} {l : List Int} (m : Nat) (hr : CU w A l.length l) (hc : l.length ≤ c) (hL : Lim l) (hm : m < 1000000) :
    Calls Tryd.prog 24 #[.slice A l.length c, .int .i64 (m : Int)] w (NuPost w (mk l m)) := make_w A c l m w hr hc hL hm
end Go.Proofs.YtklhpobphloehaaDoor.G
