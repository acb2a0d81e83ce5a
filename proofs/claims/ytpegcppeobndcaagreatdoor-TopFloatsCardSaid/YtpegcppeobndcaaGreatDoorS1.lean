/- Limbs and numbers: what the simple functions of nat and of its reference compute: the small texts of this part, one behind another. -/
import Derived.Test.YtpegcppeobndcaaGreatDoorAb
import Derived.Test.YtpegcppeobndcaaGreatDoorProg
import Derived.Below
import Derived.Deep.Draws
import Derived.Deep.AppendLies
import Derived.Maps.AppendAt
import Derived.OwnWalk
import Derived.Laws.BytesArg
import Derived.Laws.MakeOwn
import Derived.Laws.OwnMore
import Derived.Deep.OwnRows
import Derived.Tactics
import Derived.Lib.ConvBytes
import Derived.Laws.Slices
import Derived.WalkKit
import Derived.KernelRfl
import Derived.RowKit3
import Derived.Deep.LoopGhost
import Derived.Deep.QuietTactic
import Derived.BigQuiet
import Derived.WideLaws
import Derived.WalkSpells
import Derived.Test.YtpegcppeobndcaaGreatDoorSW
import Derived.RegionTactic
import Derived.Deep.RegionWith
set_option linter.unusedVariables false
set_option maxHeartbeats 4000000
set_option maxRecDepth 100000
namespace Go.Proofs.YtpegcppeobndcaaGreatDoor.Nn
def pw (k : Nat) : Nat := 4294967296 ^ k
theorem pw_zero : pw 0 = 1 := rfl
theorem pw_succ (k : Nat) : pw (k + 1) = 4294967296 * pw k := by unfold pw; rw [Nat.pow_succ, Nat.mul_comm]
theorem pw_add (a b : Nat) : pw (a + b) = pw a * pw b := by unfold pw; rw [Nat.pow_add]
theorem pw_pos (k : Nat) : 0 < pw k := Nat.pow_pos (by decide)
theorem pw_le {a b : Nat} (h : a ≤ b) : pw a ≤ pw b := Nat.pow_le_pow_right (by decide) h
theorem pw_lt {a b : Nat} (h : a < b) : pw a < pw b := Nat.pow_lt_pow_right (by decide) h
theorem pw_two (k : Nat) : pw k = 2 ^ (32 * k) := by unfold pw; rw [Nat.pow_mul]
def val : List Int → Nat
  | [] => 0
  | x :: xs => x.toNat + 4294967296 * val xs
def Lim (l : List Int) : Prop := ∀ x ∈ l, 0 ≤ x ∧ x < 4294967296
theorem Lim.nil : Lim [] := fun _ h => by cases h
theorem Lim.cons {x : Int} {l : List Int} (h0 : 0 ≤ x) (h1 : x < 4294967296) (h : Lim l) : Lim (x :: l) := by
  intro y hy
  rcases List.mem_cons.1 hy with rfl | hy
  · exact ⟨h0, h1⟩
  · exact h y hy
theorem Lim.tail {x : Int} {l : List Int} (h : Lim (x :: l)) : Lim l := fun y hy => h y (List.mem_cons_of_mem _ hy)
theorem Lim.head {x : Int} {l : List Int} (h : Lim (x :: l)) : 0 ≤ x ∧ x < 4294967296 := h x (List.mem_cons_self ..)
theorem Lim.append {a b : List Int} (ha : Lim a) (hb : Lim b) : Lim (a ++ b) := by
  intro x hx
  rcases List.mem_append.1 hx with h | h
  · exact ha x h
  · exact hb x h
theorem Lim.take {l : List Int} (h : Lim l) (n : Nat) : Lim (l.take n) := fun x hx => h x (List.mem_of_mem_take hx)
theorem Lim.drop {l : List Int} (h : Lim l) (n : Nat) : Lim (l.drop n) := fun x hx => h x (List.mem_of_mem_drop hx)
theorem Lim.set {l : List Int} (h : Lim l) (n : Nat) {v : Int} (h0 : 0 ≤ v) (h1 : v < 4294967296) : Lim (l.set n v) := by
  intro x hx
  rcases List.mem_or_eq_of_mem_set hx with h' | rfl
  · exact h x h'
  · exact ⟨h0, h1⟩
theorem Lim.replicate (n : Nat) : Lim (List.replicate n 0) := by
  intro x hx
  have := (List.mem_replicate.1 hx).2
  subst this
  exact ⟨by decide, by decide⟩
theorem Lim.getD {l : List Int} (h : Lim l) (i : Nat) : 0 ≤ l.getD i 0 ∧ l.getD i 0 < 4294967296 := by
  rw [List.getD_eq_getElem?_getD]
  by_cases hi : i < l.length
  · rw [List.getElem?_eq_getElem hi]
    exact h _ (List.getElem_mem hi)
  · rw [List.getElem?_eq_none (by omega)]
    exact ⟨by decide, by decide⟩
theorem val_append (a b : List Int) : val (a ++ b) = val a + pw a.length * val b := by
  induction a with
  | nil => simp [val, pw_zero]
  | cons x xs ih => simp only [List.cons_append, val, ih, List.length_cons, pw_succ]; rw [Nat.mul_add, Nat.mul_assoc]; omega
theorem val_lt {l : List Int} (h : Lim l) : val l < pw l.length := by
  induction l with
  | nil => simp [val, pw_zero]
  | cons x xs ih =>
    have h1 := ih h.tail
    have h2 := h.head
    simp only [val, List.length_cons, pw_succ]
    omega
theorem val_replicate (n : Nat) : val (List.replicate n 0) = 0 := by
  induction n with
  | zero => rfl
  | succ n ih => simp [List.replicate_succ, val, ih]
theorem val_take_drop (l : List Int) (k : Nat) : val l = val (l.take k) + pw (min k l.length) * val (l.drop k) := by
  conv => lhs; rw [← List.take_append_drop k l]
  rw [val_append, List.length_take]
theorem val_drop {l : List Int} (h : Lim l) (k : Nat) : val (l.drop k) = val l / pw k := by
  by_cases hk : k ≤ l.length
  · have e := val_take_drop l k
    rw [Nat.min_eq_left hk] at e
    have hl := val_lt (h.take k)
    rw [List.length_take, Nat.min_eq_left hk] at hl
    rw [e, Nat.add_mul_div_left _ _ (pw_pos k), Nat.div_eq_of_lt hl, Nat.zero_add]
  · rw [List.drop_of_length_le (by omega), Nat.div_eq_of_lt]
    · rfl
    · exact Nat.lt_of_lt_of_le (val_lt h) (pw_le (by omega))
theorem val_at {l : List Int} (h : Lim l) (i : Nat) : ((val l / pw i % 4294967296 : Nat) : Int) = l.getD i 0 := by
  rw [← val_drop h]
  by_cases hi : i < l.length
  · rw [List.drop_eq_getElem_cons hi, List.getD_eq_getElem?_getD, List.getElem?_eq_getElem hi]
    have := h _ (List.getElem_mem hi)
    simp only [val, Option.getD_some]
    omega
  · rw [List.drop_of_length_le (by omega), List.getD_eq_getElem?_getD, List.getElem?_eq_none (by omega)]
    rfl
theorem val_succ {l : List Int} (i : Nat) (hi : i < l.length) : val (l.take (i + 1)) = val (l.take i) + pw i * (l.getD i 0).toNat := by
  rw [List.take_succ_eq_append_getElem hi, val_append, List.length_take, Nat.min_eq_left (by omega)]
  simp [val, List.getD_eq_getElem?_getD, List.getElem?_eq_getElem hi]
theorem val_cut {l : List Int} (i : Nat) (hi : i < l.length) : val (l.drop i) = (l.getD i 0).toNat + 4294967296 * val (l.drop (i + 1)) := by
  rw [List.drop_eq_getElem_cons hi]
  simp [val, List.getD_eq_getElem?_getD, List.getElem?_eq_getElem hi]
def digs (n : Nat) : List Int := if h : n = 0 then [] else ((n % 4294967296 : Nat) : Int) :: digs (n / 4294967296)
termination_by n
decreasing_by omega
theorem digs_zero : digs 0 = [] := by rw [digs]; simp
theorem digs_pos {n : Nat} (h : n ≠ 0) : digs n = ((n % 4294967296 : Nat) : Int) :: digs (n / 4294967296) := by
  rw [digs]; simp [h]
theorem lim_digs (n : Nat) : Lim (digs n) := by
  induction n using Nat.strongRecOn with
  | ind n ih =>
    by_cases h : n = 0
    · subst h; rw [digs_zero]; exact Lim.nil
    · rw [digs_pos h]; exact Lim.cons (by omega) (by omega) (ih _ (by omega))
theorem val_digs (n : Nat) : val (digs n) = n := by
  induction n using Nat.strongRecOn with
  | ind n ih =>
    by_cases h : n = 0
    · subst h; rw [digs_zero]; rfl
    · rw [digs_pos h, val, ih _ (by omega)]; omega
def Norm (l : List Int) : Prop := l.getD (l.length - 1) 1 ≠ 0
theorem norm_nil : Norm [] := by unfold Norm; decide
theorem norm_tail {x : Int} {l : List Int} (h : Norm (x :: l)) : Norm l := by
  unfold Norm at *
  cases l with
  | nil => decide
  | cons y l => simpa using h
theorem val_pos_of_norm {l : List Int} (h : Lim l) (hn : Norm l) (hl : l ≠ []) : 0 < val l := by
  induction l with
  | nil => exact absurd rfl hl
  | cons x xs ih =>
    cases xs with
    | nil =>
      have := h.head
      have h3 : x ≠ 0 := by simpa [Norm] using hn
      simp only [val]
      omega
    | cons y ys =>
      have := ih h.tail (norm_tail hn) (by simp)
      rw [val]
      omega
theorem digs_val {l : List Int} (h : Lim l) (hn : Norm l) : digs (val l) = l := by
  induction l with
  | nil => exact digs_zero
  | cons x xs ih =>
    have hp := val_pos_of_norm h hn (by simp)
    have hx := h.head
    have := ih h.tail (norm_tail hn)
    rw [digs_pos (by omega)]
    simp only [val]
    rw [show (x.toNat + 4294967296 * val xs) % 4294967296 = x.toNat from by omega, show (x.toNat + 4294967296 * val xs) / 4294967296 = val xs from by omega, this]
    congr 1
    omega
theorem norm_digs (n : Nat) : Norm (digs n) := by
  induction n using Nat.strongRecOn with
  | ind n ih =>
    by_cases h : n = 0
    · subst h; rw [digs_zero]; exact norm_nil
    · rw [digs_pos h]
      by_cases h2 : n / 4294967296 = 0
      · rw [h2, digs_zero]
        simp only [Norm]
        simp
        omega
      · have h3 := ih (n / 4294967296) (by omega)
        rw [digs_pos h2] at h3 ⊢
        simpa [Norm] using h3
theorem digs_length_le {n k : Nat} (h : n < pw k) : (digs n).length ≤ k := by
  induction k generalizing n with
  | zero => have : n = 0 := by rw [pw_zero] at h; omega
            subst this; rw [digs_zero]; simp
  | succ k ih =>
    by_cases h0 : n = 0
    · subst h0; rw [digs_zero]; simp
    · rw [digs_pos h0]
      rw [pw_succ] at h
      have := ih (n := n / 4294967296) (Nat.div_lt_of_lt_mul h)
      simpa using this
theorem lt_pw_digs (n : Nat) : n < pw (digs n).length := by
  have := val_lt (lim_digs n)
  rwa [val_digs] at this
theorem pw_le_of_digs {n : Nat} (h : n ≠ 0) : pw ((digs n).length - 1) ≤ n := by
  induction n using Nat.strongRecOn with
  | ind n ih =>
    rw [digs_pos h]
    by_cases h2 : n / 4294967296 = 0
    · rw [h2, digs_zero]; simp [pw_zero]; omega
    · have := ih _ (by omega) h2
      have h3 : (digs (n / 4294967296)).length ≠ 0 := by rw [digs_pos h2]; simp
      simp only [List.length_cons, Nat.add_sub_cancel]
      obtain ⟨m, hm⟩ : ∃ m, (digs (n / 4294967296)).length = m + 1 := ⟨_, (Nat.succ_pred_eq_of_ne_zero h3).symm⟩
      rw [hm] at this ⊢
      simp only [Nat.add_sub_cancel] at this
      rw [pw_succ]
      omega
theorem digs_length_zero {n : Nat} : (digs n).length = 0 ↔ n = 0 := by
  constructor
  · intro h
    have := lt_pw_digs n
    rw [h, pw_zero] at this
    omega
  · rintro rfl; rw [digs_zero]; rfl
theorem digs_length_lt {a b : Nat} (h : (digs a).length < (digs b).length) : a < b := by
  by_cases hb : b = 0
  · subst hb; rw [digs_zero] at h; simp at h
  · exact Nat.lt_of_lt_of_le (lt_pw_digs a) (Nat.le_trans (pw_le (by omega)) (pw_le_of_digs hb))
def strip : List Int → List Int
  | [] => []
  | x :: xs => if strip xs = [] then (if x = 0 then [] else [x]) else x :: strip xs
theorem strip_take (l : List Int) : ∀ k, k ≤ l.length → (∀ j, k ≤ j → l.getD j 0 = 0) → (k = 0 ∨ l.getD (k - 1) 0 ≠ 0) → strip l = l.take k := by
  induction l with
  | nil => intro k _ _ _; simp [strip]
  | cons x xs ih =>
    intro k hk hz hn
    cases k with
    | zero =>
      have h1 := ih 0 (Nat.zero_le _) (fun j _ => by have := hz (j + 1) (Nat.zero_le _); simpa using this) (.inl rfl)
      have h2 := hz 0 (Nat.zero_le _)
      simp at h1 h2
      simp [strip, h1, h2]
    | succ k =>
      have h1 := ih k (by simpa using hk) (fun j hj => by have := hz (j + 1) (by omega); simpa using this) (by
        cases k with
        | zero => exact .inl rfl
        | succ k => right; rcases hn with hn | hn
                    · omega
                    · simpa using hn)
      have h2 : (x :: xs).getD k 0 ≠ 0 := by rcases hn with hn | hn
                                             · omega
                                             · simpa using hn
      cases k with
      | zero =>
        simp at h1 h2
        simp [strip, h1, h2]
      | succ k =>
        have h3 : xs.getD k 0 ≠ 0 := by simpa using h2
        have h4 : k < xs.length := by
          refine Nat.lt_of_not_le fun h => h3 ?_
          rw [List.getD_eq_getElem?_getD, List.getElem?_eq_none h]; rfl
        have h5 : xs.take (k + 1) ≠ [] := by
          intro h
          have := congrArg List.length h
          rw [List.length_take, List.length_nil] at this
          omega
        rw [strip, h1, if_neg h5]
        rfl
theorem strip_lim {l : List Int} (h : Lim l) : Lim (strip l) := by
  induction l with
  | nil => exact h
  | cons x xs ih =>
    rw [strip]
    split
    · split
      · exact Lim.nil
      · exact Lim.cons h.head.1 h.head.2 Lim.nil
    · exact Lim.cons h.head.1 h.head.2 (ih h.tail)
theorem strip_val (l : List Int) : val (strip l) = val l := by
  induction l with
  | nil => rfl
  | cons x xs ih =>
    rw [strip]
    split
    · rename_i h
      rw [h] at ih
      simp only [val] at ih
      split
      · rename_i h0; subst h0; simp [val, ← ih]
      · simp [val, ← ih]
    · simp [val, ih]
theorem strip_norm (l : List Int) : Norm (strip l) := by
  induction l with
  | nil => exact norm_nil
  | cons x xs ih =>
    rw [strip]
    split
    · split
      · exact norm_nil
      · rename_i h; simpa [Norm] using h
    · rename_i h
      cases hs : strip xs with
      | nil => exact absurd hs h
      | cons y ys => rw [hs] at ih; simpa [Norm] using ih
theorem strip_eq {l : List Int} (h : Lim l) : strip l = digs (val l) := by
  rw [← strip_val l, digs_val (strip_lim h) (strip_norm l)]
def lm (l : List Int) (i : Nat) : Nat := (l.getD i 0).toNat
theorem lm_cast {l : List Int} (h : Lim l) (i : Nat) : l.getD i 0 = (lm l i : Int) := by have := h.getD i; unfold lm; omega
theorem lm_lt {l : List Int} (h : Lim l) (i : Nat) : lm l i < 4294967296 := by have := h.getD i; unfold lm; omega
theorem lm_out {l : List Int} (i : Nat) (h : l.length ≤ i) : lm l i = 0 := by unfold lm; rw [List.getD_eq_getElem?_getD, List.getElem?_eq_none h]; rfl
theorem val_take_succ (l : List Int) (i : Nat) : val (l.take (i + 1)) = val (l.take i) + pw i * lm l i := by
  rcases Nat.lt_or_ge i l.length with h | h
  · exact val_succ i h
  · rw [lm_out i h, List.take_of_length_le h, List.take_of_length_le (by omega)]; rfl
theorem val_split (l : List Int) (i : Nat) : val l = val (l.take i) + pw i * val (l.drop i) := by
  rcases Nat.lt_or_ge i l.length with h | h
  · have := val_take_drop l i
    rwa [Nat.min_eq_left (by omega)] at this
  · rw [List.take_of_length_le h, List.drop_of_length_le h]; simp [val]
theorem val_drop_at (l : List Int) (i : Nat) : val (l.drop i) = lm l i + 4294967296 * val (l.drop (i + 1)) := by
  rcases Nat.lt_or_ge i l.length with h | h
  · exact val_cut i h
  · rw [lm_out i h, List.drop_of_length_le h, List.drop_of_length_le (by omega)]; rfl
theorem lt_at {a b : List Int} (ha : Lim a) (i : Nat) (hd : val (a.drop (i + 1)) = val (b.drop (i + 1))) (hi : i < a.length) (h : lm a i < lm b i) : val a < val b := by
  rw [val_split a i, val_split b i, val_drop_at a i, val_drop_at b i, hd]
  have h1 := val_lt (ha.take i)
  rw [List.length_take, Nat.min_eq_left (by omega)] at h1
  have h2 : pw i * (lm a i + 1) ≤ pw i * lm b i := Nat.mul_le_mul_left _ h
  rw [Nat.mul_add] at h2
  rw [Nat.mul_add, Nat.mul_add]
  omega
theorem norm_long {a b : List Int} (ha : Lim a) (hb : Lim b) (hn : Norm b) (h : a.length < b.length) : val a < val b := by
  rw [← digs_val hb hn] at h
  have h1 := val_lt ha
  have h2 := pw_le_of_digs (n := val b) (by
    intro e
    rw [e, digs_zero] at h
    simp at h)
  exact Nat.lt_of_lt_of_le h1 (Nat.le_trans (pw_le (by omega)) h2)
def cmpZ (x y : Nat) : Int := if x < y then -1 else if x = y then 0 else 1
theorem cmpZ_lt {x y : Nat} (h : x < y) : cmpZ x y = -1 := by unfold cmpZ; rw [if_pos h]
theorem cmpZ_eq {x y : Nat} (h : x = y) : cmpZ x y = 0 := by unfold cmpZ; rw [if_neg (by omega), if_pos h]
theorem cmpZ_gt {x y : Nat} (h : y < x) : cmpZ x y = 1 := by unfold cmpZ; rw [if_neg (by omega), if_neg (by omega)]
end Go.Proofs.YtpegcppeobndcaaGreatDoor.Nn
namespace Go.Proofs.YtpegcppeobndcaaGreatDoor.G
open Go.RowKit YtpegcppeobndcaaGreatDoorW.PrintWords YtpegcppeobndcaaGreatDoorW.PrintLast Go.Proofs.YtpegcppeobndcaaGreatDoor.Nn
theorem infoU : (Tryz.prog.info? 94).map (fun i => (i.zero, i.size, i.bytes)) = some (some (.int .u32 0), 1, 4) := by kernel_rfl
abbrev CU (w : World) (A : Option Addr) (n : Nat) (l : List Int) : Prop := Kd.C (Kd.int .u32) w A n l
abbrev RU (w : World) (base : Nat) (v : Value) (l : List Int) : Prop := Kd.R (Kd.int .u32) 94 w base (fun _ => True) v l
theorem RU_own {w : World} {base : Nat} {v : Value} {l : List Int} (h : w.ownsRow base 94 1 v l.length (nums .u32 l)) : RU w base v l :=
 Kd.R_of_own (enc := Value.int .u32) (h1 := fun _ => rfl) h (fun _ _ => trivial)
theorem own_RU {w : World} {base : Nat} {v : Value} {l : List Int} (h : RU w base v l) : w.ownsRow base 94 1 v l.length (nums .u32 l) := Kd.own_of_R h
theorem CU_reads {w : World} {A : Option Addr} {n : Nat} {l : List Int} (h : CU w A n l) : ReadsInt w .u32 A n l := Kd.reads_of_C (d := (0 : Int)) h
theorem reads_CU {w : World} {A : Option Addr} {n : Nat} {l : List Int} (h : ReadsInt w .u32 A n l) : CU w A n l := Kd.C_of_reads (d := (0 : Int)) (h1 := fun _ => rfl) h
theorem CU_below {w w1 : World} {A : Option Addr} {n : Nat} {l : List Int} (h : CU w A n l) (hb : Below w.heap.size w w1) : CU w1 A n l := Kd.C_below h hb
theorem CU_at {w : World} {A : Option Addr} {n : Nat} {l : List Int} (h : CU w A n l) (i : Nat) (hi : i < n) : ∃ ad, A = some ad ∧ w.cell? (ad.add i) = some (.int .u32 (l.getD i 0)) := by
 obtain ⟨ad, e, hc⟩ := Kd.at_int h (i : Int) (by omega) (by omega)
 exact ⟨ad, e, by simpa [rd] using hc⟩
theorem cut_h (A : Option Addr) (l c k : Nat) (hk : k ≤ c) (W : World) :
  (Instr.slice 25 (.slice A l c) none (some (.int .i64 (k : Int))) none).run Tryz.prog W = .ok (.slice A k c) W := by
 obtain ⟨i, hi, _, hsz, _⟩ := info_parts infoU
 have hel : Tryz.prog.elem 25 = 94 := by simp [Program.elem, Tryz.underlying25]
 have hu : Tryz.prog.underlying 25 = some (.slice (Tryz.prog.elem 25)) := by rw [hel]; exact Tryz.underlying25
 have ha : (A.map fun x => x.add 0) = A := by cases A <;> simp [Addr.add]
 rw [run_slice_h W 25 A l c hu .i64 k (by omega) (by omega), hel]
 simp [sizeOf, typeInfo, hi, hsz, sliced, Result.andThen, ha]
theorem cut_hm (A : Option Addr) (l c k : Nat) (hk : k ≤ c) (W : World) :
  (Instr.slice 25 (.slice A l c) none (some (.int .i64 (k : Int))) (some (.int .i64 (k : Int)))).run Tryz.prog W = .ok (.slice A k k) W := by
 obtain ⟨i, hi, _, hsz, _⟩ := info_parts infoU
 have hel : Tryz.prog.elem 25 = 94 := by simp [Program.elem, Tryz.underlying25]
 have hu : Tryz.prog.underlying 25 = some (.slice (Tryz.prog.elem 25)) := by rw [hel]; exact Tryz.underlying25
 have ha : (A.map fun x => x.add 0) = A := by cases A <;> simp [Addr.add]
 rw [run_slice_hm W 25 A l c hu .i64 .i64 k k (by omega) (by omega) (by omega), hel]
 simp [sizeOf, typeInfo, hi, hsz, sliced, Result.andThen, ha]
theorem CU_take {w : World} {A : Option Addr} {l : List Int} (h : CU w A l.length l) (k : Nat) (hk : k ≤ l.length) : CU w A k (l.take k) := reads_CU ((CU_reads h).take_ k hk)
theorem make_u (m : Nat) (hm : m ≤ 70368744177664) (W : World) :
  (Instr.makeSlice 25 (.int .i64 (m : Int)) (.int .i64 (m : Int))).run Tryz.prog W = .ok (.slice (some ⟨W.heap.size, 0, none⟩) m m) (W.alloc (.cells (madeCells #[.int .u32 0] m) 94)) :=
 print_make 25 94 .u32 4 Tryz.underlying25 infoU (by omega) m (by omega) W
theorem RU_made (W : World) (m : Nat) (hm : m ≤ 70368744177664) : RU (W.alloc (.cells (madeCells #[.int .u32 0] m) 94)) W.heap.size (.slice (some ⟨W.heap.size, 0, none⟩) m m) (List.replicate m 0) := by
 have h := own_made W W.heap.size 94 .u32 m (Nat.le_refl _) (by omega)
 refine RU_own ?_
 rw [List.length_replicate]
 exact h
section
variable {ops : Array Oper} {rest : List Oper} {o : Oper} {a : Act} {Q : Exit → Act → World → Prop}
theorem append_fresh (W : World) (hgd : o.guard = none) (s x : Operand) (ho : o.op = .call { callee := .builtin .append, args := #[s, x], argTypes := #[25, 25] })
  (A : Option Addr) (m c : Nat) (l : List Int) (hs : a.eval s = .slice (some ⟨W.heap.size, 0, none⟩) 0 0) (hx : a.eval x = .slice A m c) (hR : CU W A m l) (hm : m ≤ 35184372088832)
  (h : ∀ v1 w1, RU w1 W.heap.size v1 l → Below W.heap.size W w1 → wpList Tryz.prog ops Q rest (a.put o.dst v1) w1) :
  wpList Tryz.prog ops Q (o :: rest) a (W.alloc (.cells #[] 94)) := by
 refine Kd.R_append_rows (Kd.int .u32) (w0 := W) W.heap.size hgd s x 25 94 (.int .u32 0) 4 ho Tryz.underlying25 infoU rfl Z5 (by omega)
  (.slice (some ⟨W.heap.size, 0, none⟩) 0 0) [] l A m c (fun _ => True) (fun _ => False) hs hx ?_ (Kd.C_below hR (below_alloc (Below.refl _ _) _)) (fun _ _ h => h) (fun _ h => h.elim) (fun _ _ => trivial) (below_alloc (Below.refl _ _) _) Z33 (by simp; omega) ?_
 ·exact Kd.R_of_own (enc := Value.int .u32) (h1 := fun _ => rfl) (own_lit W W.heap.size 94 .u32 [] (Nat.le_refl _) Z33) (fun _ _ => trivial)
 ·intro v1 w1 hR1 hB1 _ _
  exact h v1 w1 hR1 hB1
end
theorem RU_at {w : World} {base g n cap : Nat} {l : List Int} (h : RU w base (.slice (some ⟨g, 0, none⟩) n cap) l) (hn : l.length = n) (i : Nat) (hi : i < n) : w.cell? ⟨g, i, none⟩ = some (.int .u32 (l.getD i 0)) ∧ w.frozen? ⟨g, i, none⟩ = false := by
 subst hn
 have := own_at (own_RU h) (i : Int) (by omega) (by omega)
 simpa [rd] using this
theorem RU_set {w : World} {base g n cap : Nat} {l : List Int} (h : RU w base (.slice (some ⟨g, 0, none⟩) n cap) l) (hn : l.length = n) (i : Nat) (x : Int) : RU (w.setCell ⟨g, i, none⟩ (.int .u32 x)) base (.slice (some ⟨g, 0, none⟩) n cap) (l.set i x) := by
 subst hn
 have := (own_store (own_RU h) (i : Int) x).1
 refine RU_own ?_
 rw [List.length_set]
 simpa using this
theorem RU_drewN {w : World} {base : Nat} {v : Value} {l : List Int} (h : RU w base v l) (n : Nat) : RU (w.drewN n) base v l := Kd.R_drewN h n
theorem RU_below {w w1 : World} {base : Nat} {v : Value} {l : List Int} (h : RU w base v l) (hb : Below w.heap.size w w1) : RU w1 base v l := Kd.R_below h hb
theorem RU_lower {w : World} {base base' : Nat} {v : Value} {l : List Int} (h : RU w base v l) (hb : base' ≤ base) : RU w base' v l := Kd.R_lower h hb
theorem RU_slice {w : World} {base : Nat} {v : Value} {l : List Int} (h : RU w base v l) : ∃ A c, v = .slice A l.length c ∧ l.length ≤ c ∧ CU w A l.length l := Kd.R_reads h
theorem RU_block {w : World} {base : Nat} {v : Value} {l : List Int} (h : RU w base v l) (hp : 0 < l.length) : ∃ g c, v = .slice (some ⟨g, 0, none⟩) l.length c ∧ base ≤ g ∧ g < w.heap.size := by
 obtain ⟨g, c, e, h1, h2⟩ := (own_RU h).form hp
 exact ⟨g, c, e, h1, h2⟩
end Go.Proofs.YtpegcppeobndcaaGreatDoor.G
namespace Go.Proofs.YtpegcppeobndcaaGreatDoor.G
open Go.RowKit YtpegcppeobndcaaGreatDoorW.PrintWords YtpegcppeobndcaaGreatDoorW.PrintLast Go.Proofs.YtpegcppeobndcaaGreatDoor.Nn
def slices_Clone_uint32_uint32.f (l0 : List Int) : Option (List Int) := if l0.length ≤ 35184372088832 then some l0 else none
theorem slices_Clone_uint32_uint32.calls (A0 : Option Addr) (c0 : Nat) (l0 : List Int) (r : List Int) (w : World) (hr0 : Kd.C (Kd.int .u32) w A0 l0.length l0) (hc0 : l0.length ≤ c0) (h : slices_Clone_uint32_uint32.f l0 = some r) :
  Calls Tryz.prog 58 #[.slice A0 l0.length c0] w fun e w' => ∃ v0_ : Value, e = .returned (v0_) ∧ Kd.R (Kd.int .u32) 94 w' w.heap.size (fun _ => True) v0_ r ∧ Below w.heap.size w w' := by
 unfold slices_Clone_uint32_uint32.f at h
 by_cases hl : l0.length ≤ 35184372088832
 ·rw [if_pos hl] at h
  obtain rfl := Option.some.inj h
  clear h
  have HR := Aside0.mk hr0
  have HL := Aside0.mk hl
  clear hr0 hl
  have hnil : ∀ W : World, (binOp .eql 25 (.slice A0 l0.length c0) (.slice none 0 0)).run Tryz.prog W = .ok (.bool A0.isNone) W := fun W => Lib.run_eql_slice_nil W 25 94 A0 l0.length c0 0 0 Tryz.underlying25
  rcases A0 with _ | ad
  ·have h0 : l0 = [] := by
    rcases Nat.eq_zero_or_pos l0.length with h | h
    ·exact List.eq_nil_of_length_eq_zero h
    ·obtain ⟨ad, e, _⟩ := CU_at HR.out 0 h
     cases e
   subst h0
   rw [List.length_nil] at hnil
   go_enter Tryz.func58, Tryz.ntmps58
   go_wp2
   go_ret
   exact ⟨_, rfl, Kd.R_nil _ _ _ _ _, Below.refl _ _⟩
  ·go_enter Tryz.func58, Tryz.ntmps58
   go_wp2_with (at_builtin; refine append_fresh w rfl (.tmp 5) (.tmp 6) rfl (some ad) l0.length c0 l0 rfl rfl HR.out HL.out ?_; intro v1 w1 hR1 hB1; have HR1 := Aside0.mk hR1; have HB1 := Aside0.mk hB1; clear hR1 hB1)
   go_ret
   exact ⟨_, rfl, HR1.out, HB1.out⟩
 ·rw [if_neg hl] at h
  cases h
def CutPost (w : World) (l : List Int) (e : Ending) (w' : World) : Prop := ∃ v, e = .returned v ∧ RU w' w.heap.size v (strip l) ∧ Below w.heap.size w w'
theorem cut_post {w w' : World} {l : List Int} {v : Value} {k : Nat} (hk : k ≤ l.length) (hz : ∀ j, k ≤ j → l.getD j 0 = 0) (hn : k = 0 ∨ l.getD (k - 1) 0 ≠ 0) (hR : RU w' w.heap.size v (l.take k)) (hB : Below w.heap.size w w') : CutPost w l (.returned v) w' :=
 ⟨v, rfl, by rw [strip_take l k hk hz hn]; exact hR, hB⟩
def anticlineref1_trim.f (l0 : List Int) : Option (List Int) := if l0.length ≤ 35184372088832 then some (strip l0) else none
theorem trim_w (A : Option Addr) (c : Nat) (l : List Int) (w : World) (hr : CU w A l.length l) (hc : l.length ≤ c) (hl : l.length ≤ 35184372088832) :
  Calls Tryz.prog 94 #[.slice A l.length c] w (CutPost w l) := by
 have HR := Aside0.mk hr
 clear hr
 have hcut := fun (k : Nat) (h : k ≤ c) => cut_h A l.length c k h
 have HCUT := Aside0.mk hcut
 clear hcut
 go_enter Tryz.func94, Tryz.ntmps94
 go_wp2_with fail
 go_loop [3] (fun n => ∃ k : Nat, k ≤ l.length ∧ n = .int .i64 k ∧ Aside0 (∀ j, k ≤ j → l.getD j 0 = 0)) (fun n => (intOf n).toNat)
 case atStart => exact ⟨l.length, Nat.le_refl _, rfl, ⟨fun j hj => by rw [List.getD_eq_getElem?_getD, List.getElem?_eq_none hj]; rfl⟩⟩
 case round =>
  obtain ⟨k, hk, rfl, hz⟩ := hrel
  rcases Nat.eq_zero_or_pos k with rfl | hk0
  ·have h0 := HCUT.out 0 (by omega)
   go_wp2_with (at_builtin; refine append_fresh w rfl (.tmp 18) (.tmp 21) rfl A 0 c [] rfl rfl (CU_take HR.out 0 (Nat.zero_le _)) (by omega) ?_; intro v1 w1 hR1 hB1; have HR1 := Aside0.mk hR1; have HB1 := Aside0.mk hB1; clear hR1 hB1)
   go_ret
   exact cut_post (Nat.zero_le _) hz.out (.inl rfl) HR1.out HB1.out
  ·obtain ⟨ad, e, hcell⟩ := CU_at HR.out (k - 1) (by omega)
   subst e
   by_cases hzk : l.getD (k - 1) 0 = 0
   ·rw [hzk] at hcell
    have HZ := Aside0.mk hzk
    clear hzk
    go_wp2_with fail
    go_round
    case rel => exact ⟨k - 1, by omega, by go_num, ⟨fun j hj => by
     rcases Nat.lt_or_ge j k with h | h
     ·have : j = k - 1 := by omega
      rw [this]; exact HZ.out
     ·exact hz.out j h⟩⟩
    case measure => simp [intOf]; omega
   ·have h0 := HCUT.out k (by omega)
    obtain ⟨x, hx⟩ : ∃ x, x = l.getD (k - 1) 0 := ⟨_, rfl⟩
    rw [← hx] at hcell hzk
    have hb : (x == 0) = false := beq_eq_false_iff_ne.2 hzk
    have HX := Aside0.mk hx
    have HZ := Aside0.mk hzk
    clear hx hzk
    go_wp2_with (at_builtin; refine append_fresh w rfl (.tmp 18) (.tmp 21) rfl (some ad) k c (l.take k) rfl rfl (CU_take HR.out k hk) (by omega) ?_; intro v1 w1 hR1 hB1; have HR1 := Aside0.mk hR1; have HB1 := Aside0.mk hB1; clear hR1 hB1)
    go_ret
    exact cut_post hk hz.out (.inr (by rw [← HX.out]; exact HZ.out)) HR1.out HB1.out
def nat_cut.f (l0 : List Int) : Option (List Int) := if l0.length ≤ 35184372088832 then some (strip l0) else none
theorem cut_w (A : Option Addr) (c : Nat) (l : List Int) (w : World) (hr : CU w A l.length l) (hc : l.length ≤ c) (hl : l.length ≤ 35184372088832) :
  Calls Tryz.prog 57 #[.slice A l.length c] w (CutPost w l) := by
 have HR := Aside0.mk hr
 clear hr
 have hcut := fun (k : Nat) (h : k ≤ c) => cut_hm A l.length c k h
 have HCUT := Aside0.mk hcut
 clear hcut
 have HCL : ∀ k, k ≤ l.length → Calls Tryz.prog 58 #[.slice A k k] w fun e w' => ∃ v0_ : Value, e = .returned (v0_) ∧ RU w' w.heap.size v0_ (l.take k) ∧ Below w.heap.size w w' := by
  intro k hk
  have e : (l.take k).length = k := by rw [List.length_take]; omega
  have := slices_Clone_uint32_uint32.calls A k (l.take k) (l.take k) w (by rw [e]; exact CU_take HR.out k hk) (by omega) (by unfold slices_Clone_uint32_uint32.f; rw [if_pos (by omega)])
  rw [e] at this
  exact this
 have HCL := Aside0.mk HCL
 go_enter Tryz.func57, Tryz.ntmps57
 go_wp2_with fail
 go_loop [3] (fun n => ∃ k : Nat, k ≤ l.length ∧ n = .int .i64 k ∧ Aside0 (∀ j, k ≤ j → l.getD j 0 = 0)) (fun n => (intOf n).toNat)
 case atStart => exact ⟨l.length, Nat.le_refl _, rfl, ⟨fun j hj => by rw [List.getD_eq_getElem?_getD, List.getElem?_eq_none hj]; rfl⟩⟩
 case round =>
  obtain ⟨k, hk, rfl, hz⟩ := hrel
  rcases Nat.eq_zero_or_pos k with rfl | hk0
  ·have h0 := HCUT.out 0 (by omega)
   go_wp2_with fail
   refine (HCL.out 0 (Nat.zero_le _)).mono ?_
   rintro e w1 ⟨v1, rfl, hR1, hB1⟩
   have HR1 := Aside0.mk hR1
   have HB1 := Aside0.mk hB1
   clear hR1 hB1
   go_wp2_with fail
   go_ret
   exact cut_post (Nat.zero_le _) hz.out (.inl rfl) HR1.out HB1.out
  ·obtain ⟨ad, e, hcell⟩ := CU_at HR.out (k - 1) (by omega)
   subst e
   by_cases hzk : l.getD (k - 1) 0 = 0
   ·rw [hzk] at hcell
    have HZ := Aside0.mk hzk
    clear hzk
    go_wp2_with fail
    go_round
    case rel => exact ⟨k - 1, by omega, by go_num, ⟨fun j hj => by
     rcases Nat.lt_or_ge j k with h | h
     ·have : j = k - 1 := by omega
      rw [this]; exact HZ.out
     ·exact hz.out j h⟩⟩
    case measure => simp [intOf]; omega
   ·have h0 := HCUT.out k (by omega)
    obtain ⟨x, hx⟩ : ∃ x, x = l.getD (k - 1) 0 := ⟨_, rfl⟩
    rw [← hx] at hcell hzk
    have hb : (x == 0) = false := beq_eq_false_iff_ne.2 hzk
    have HX := Aside0.mk hx
    have HZ := Aside0.mk hzk
    clear hx hzk
    go_wp2_with fail
    refine (HCL.out k hk).mono ?_
    rintro e w1 ⟨v1, rfl, hR1, hB1⟩
    have HR1 := Aside0.mk hR1
    have HB1 := Aside0.mk hB1
    clear hR1 hB1
    go_wp2_with fail
    go_ret
    exact cut_post hk hz.out (.inr (by rw [← HX.out]; exact HZ.out)) HR1.out HB1.out
theorem at_w (A : Option Addr) (c : Nat) (l : List Int) (i : Nat) (w : World) (hr : CU w A l.length l) (hL : Lim l) (hl : l.length ≤ 35184372088832) (hi : i ≤ 70368744177664) :
  Calls Tryz.prog 100 #[.slice A l.length c, .int .i64 (i : Int)] w fun e w' => e = .returned (.int .u64 (lm l i : Int)) ∧ w = w' := by
 have HR := Aside0.mk hr
 clear hr
 by_cases h : i < l.length
 ·obtain ⟨ad, e, hcell⟩ := CU_at HR.out i h
  subst e
  rw [lm_cast hL] at hcell
  have hlt := lm_lt hL i
  obtain ⟨x, hx⟩ : ∃ x, x = lm l i := ⟨_, rfl⟩
  rw [← hx] at hcell hlt ⊢
  clear hx
  go_enter Tryz.func100, Tryz.ntmps100
  go_wp2
  go_ret
  exact ⟨rfl, rfl⟩
 ·rw [lm_out i (by omega)]
  go_enter Tryz.func100, Tryz.ntmps100
  go_wp2
  go_ret
  exact ⟨rfl, rfl⟩
theorem at_w_neg (A : Option Addr) (c : Nat) (l : List Int) (i : Int) (w : World) (hi : i < 0) :
  Calls Tryz.prog 100 #[.slice A l.length c, .int .i64 i] w fun e w' => e = .returned (.int .u64 0) ∧ w = w' := by
 go_enter Tryz.func100, Tryz.ntmps100
 go_wp2
 go_ret
 exact ⟨rfl, rfl⟩
def NumPost (w : World) (n : Nat) (e : Ending) (w' : World) : Prop := ∃ v, e = .returned v ∧ RU w' w.heap.size v (digs n) ∧ Below w.heap.size w w'
theorem cut_own {w wr : World} {g n cap : Nat} {l : List Int} (hR : RU wr w.heap.size (.slice (some ⟨g, 0, none⟩) n cap) l) (hn : l.length = n) (hL : Lim l) (hl : n ≤ 35184372088832) (hB : Below w.heap.size w wr) :
  Calls Tryz.prog 57 #[.slice (some ⟨g, 0, none⟩) n cap] wr fun e w' => ∃ v, e = .returned v ∧ RU w' w.heap.size v (digs (val l)) ∧ Below w.heap.size w w' := by
 subst hn
 obtain ⟨A, c, e, hc, hC⟩ := RU_slice hR
 cases e
 refine (cut_w _ _ l wr hC hc hl).mono ?_
 rintro e w' ⟨v, rfl, hR', hB'⟩
 rw [strip_eq hL] at hR'
 exact ⟨v, rfl, RU_lower hR' hB.size, hB.trans (hB'.mono hB.size)⟩
theorem below_set {B : Nat} {w wr : World} (h : Below B w wr) {g : Nat} (hg : B ≤ g) (i : Nat) (u : Value) : Below B w (wr.setCell ⟨g, i, none⟩ u) := h.setCell hg u
theorem add_step {o : List Int} {N k x a b va vb : Nat} (hN : o.length = N) (hk : k < N) (h : val (o.take k) + x * pw k = va + vb) :
  val ((o.set k (((x + (a + b)) % 4294967296 : Nat) : Int)).take (k + 1)) + (x + (a + b)) / 4294967296 * pw (k + 1) = (va + pw k * a) + (vb + pw k * b) := by
 rw [val_take_succ, List.take_set, List.set_eq_of_length_le Z49]
 have e : lm (o.set k (((x + (a + b)) % 4294967296 : Nat) : Int)) k = (x + (a + b)) % 4294967296 := by
  unfold lm
  rw [List.getD_eq_getElem?_getD, List.getElem?_set_self (by omega)]
  simp
  omega
 rw [e, pw_succ]
 have h1 : pw k * ((x + (a + b)) % 4294967296) + (x + (a + b)) / 4294967296 * (4294967296 * pw k) = pw k * (x + (a + b)) := by
  rw [← Nat.mul_assoc, Nat.mul_comm _ (pw k), ← Nat.mul_add]
  congr 1
  omega
 rw [Nat.mul_add, Nat.mul_add, Nat.mul_comm (pw k) x] at h1
 omega
theorem add_w (A0 A1 : Option Addr) (c0 c1 : Nat) (l0 l1 : List Int) (w : World) (hr0 : CU w A0 l0.length l0) (hr1 : CU w A1 l1.length l1) (hL0 : Lim l0) (hL1 : Lim l1) (hl0 : l0.length < 1000000) (hl1 : l1.length < 1000000) :
  Calls Tryz.prog 112 #[.slice A0 l0.length c0, .slice A1 l1.length c1] w (NumPost w (val l0 + val l1)) := by
 have HR0 := Aside0.mk hr0
 have HR1 := Aside0.mk hr1
 clear hr0 hr1
 obtain ⟨N, hN⟩ : ∃ N, N = max l0.length l1.length + 1 := ⟨_, rfl⟩
 have hN0 : l0.length < N := by omega
 have hN1 : l1.length < N := by omega
 have hNb : N ≤ 1000000 := by omega
 have hmk : ∀ M : Nat, M + 1 = N → ∀ W : World, (Instr.makeSlice 25 (.int .i64 ((M : Int) + 1)) (.int .i64 ((M : Int) + 1))).run Tryz.prog W = .ok (.slice (some ⟨W.heap.size, 0, none⟩) N N) (W.alloc (.cells (madeCells #[.int .u32 0] N) 94)) := fun M h W => by
  subst h; exact make_u (M + 1) (by omega) W
 have HA0 : ∀ (k : Nat) (wr : World), k ≤ N → Below w.heap.size w wr → Calls Tryz.prog 100 #[.slice A0 l0.length c0, .int .i64 (k : Int)] wr fun e w' => e = .returned (.int .u64 (lm l0 k : Int)) ∧ wr = w' := fun k wr hk hB => at_w A0 c0 l0 k wr (CU_below HR0.out hB) hL0 (by omega) (by omega)
 have HA1 : ∀ (k : Nat) (wr : World), k ≤ N → Below w.heap.size w wr → Calls Tryz.prog 100 #[.slice A1 l1.length c1, .int .i64 (k : Int)] wr fun e w' => e = .returned (.int .u64 (lm l1 k : Int)) ∧ wr = w' := fun k wr hk hB => at_w A1 c1 l1 k wr (CU_below HR1.out hB) hL1 (by omega) (by omega)
 have HA0 := Aside0.mk HA0
 have HA1 := Aside0.mk HA1
 have HM := RU_made w N (by omega)
 have HM := Aside0.mk HM
 have HE : (val l0 + val l1) < pw N := by
  have h0 := val_lt hL0
  have h1 := val_lt hL1
  have h2 : pw N = 4294967296 * pw (max l0.length l1.length) := by rw [hN, pw_succ]
  have h3 := pw_le (Nat.le_max_left l0.length l1.length)
  have h4 := pw_le (Nat.le_max_right l0.length l1.length)
  omega
 have HE := Aside0.mk HE
 by_cases hlt : l0.length < l1.length
 ·have hmk := hmk l1.length (by omega)
  clear hN
  go_enter Tryz.func112, Tryz.ntmps112
  go_wp2_with fail
  go_loopw [6, 17] (fun c i wr => ∃ (k x : Nat) (o : List Int), k ≤ N ∧ i = .int .i64 (k : Int) ∧ c = .int .u64 (x : Int) ∧ x ≤ 1 ∧ Aside0 (o.length = N ∧ Lim o ∧ val (o.take k) + x * pw k = val (l0.take k) + val (l1.take k) ∧ RU wr w.heap.size (.slice (some ⟨w.heap.size, 0, none⟩) N N) o) ∧ Aside0 (Below w.heap.size w wr)) (fun _ i _ => N - (intOf i).toNat)
  case atStart => exact ⟨0, 0, List.replicate N 0, Nat.zero_le _, rfl, rfl, by omega, ⟨by simp, Lim.replicate N, by simp [val], HM.out⟩, ⟨below_alloc (Below.refl _ _) _⟩⟩
  case round =>
   obtain ⟨k, x, o, hk, rfl, rfl, hx, HO, HB⟩ := hrel
   by_cases hkN : k < N
   ·have hc := RU_at HO.out.2.2.2 HO.out.1 k hkN
    obtain ⟨hc1, hc2⟩ := hc
    have ha := lm_lt hL0 k
    have hb := lm_lt hL1 k
    go_wp2_with fail
    refine (HA0.out k _ hk HB.out).mono ?_
    rintro e w1 ⟨rfl, rfl⟩
    go_wp2_with fail
    refine (HA1.out k _ hk HB.out).mono ?_
    rintro e w1 ⟨rfl, rfl⟩
    generalize hA : lm l0 k = a at ha ⊢
    generalize hBb : lm l1 k = b at hb ⊢
    have HAe := Aside0.mk hA
    have HBe := Aside0.mk hBb
    clear hA hBb
    go_wp2_with fail
    go_roundw
    case rel => exact ⟨k + 1, (x + (a + b)) / 4294967296, o.set k (((x + (a + b)) % 4294967296 : Nat) : Int), by omega, by go_num, by go_num, by omega, ⟨by rw [List.length_set]; exact HO.out.1, HO.out.2.1.set k (by omega) (by omega), by rw [val_take_succ l0, val_take_succ l1, HAe.out, HBe.out]; exact add_step HO.out.1 hkN HO.out.2.2.1, by have := RU_set HO.out.2.2.2 HO.out.1 k (((x + (a + b)) % 4294967296 : Nat) : Int); simpa using this⟩, ⟨below_set HB.out (Nat.le_refl _) _ _⟩⟩
    case measure => simp [intOf]; omega
   ·have hk2 : k = N := by omega
    subst hk2
    have HC := cut_own HO.out.2.2.2 HO.out.1 HO.out.2.1 (by omega) HB.out
    have HC := Aside0.mk HC
    have hv : val o = val l0 + val l1 := by
     have h := HO.out.2.2.1
     rw [List.take_of_length_le (by rw [HO.out.1]; exact Nat.le_refl _), List.take_of_length_le (by omega), List.take_of_length_le (by omega)] at h
     have h2 := HE.out
     rcases Nat.eq_zero_or_pos x with h0 | h0
     ·rw [h0] at h; omega
     ·obtain rfl : x = 1 := by omega
      omega
    have HV := Aside0.mk hv
    clear hv
    go_wp2_with fail
    refine HC.out.mono ?_
    rintro e w1 ⟨v, rfl, hR1, hB1⟩
    have HR2 := Aside0.mk hR1
    have HB2 := Aside0.mk hB1
    clear hR1 hB1
    go_wp2_with fail
    go_ret
    exact Z54
 ·have hmk := hmk l0.length (by omega)
  clear hN
  go_enter Tryz.func112, Tryz.ntmps112
  go_wp2_with fail
  go_loopw [6, 17] (fun c i wr => ∃ (k x : Nat) (o : List Int), k ≤ N ∧ i = .int .i64 (k : Int) ∧ c = .int .u64 (x : Int) ∧ x ≤ 1 ∧ Aside0 (o.length = N ∧ Lim o ∧ val (o.take k) + x * pw k = val (l0.take k) + val (l1.take k) ∧ RU wr w.heap.size (.slice (some ⟨w.heap.size, 0, none⟩) N N) o) ∧ Aside0 (Below w.heap.size w wr)) (fun _ i _ => N - (intOf i).toNat)
  case atStart => exact ⟨0, 0, List.replicate N 0, Nat.zero_le _, rfl, rfl, by omega, ⟨by simp, Lim.replicate N, by simp [val], HM.out⟩, ⟨below_alloc (Below.refl _ _) _⟩⟩
  case round =>
   obtain ⟨k, x, o, hk, rfl, rfl, hx, HO, HB⟩ := hrel
   by_cases hkN : k < N
   ·have hc := RU_at HO.out.2.2.2 HO.out.1 k hkN
    obtain ⟨hc1, hc2⟩ := hc
    have ha := lm_lt hL0 k
    have hb := lm_lt hL1 k
    go_wp2_with fail
    refine (HA0.out k _ hk HB.out).mono ?_
    rintro e w1 ⟨rfl, rfl⟩
    go_wp2_with fail
    refine (HA1.out k _ hk HB.out).mono ?_
    rintro e w1 ⟨rfl, rfl⟩
    generalize hA : lm l0 k = a at ha ⊢
    generalize hBb : lm l1 k = b at hb ⊢
    have HAe := Aside0.mk hA
    have HBe := Aside0.mk hBb
    clear hA hBb
    go_wp2_with fail
    go_roundw
    case rel => exact ⟨k + 1, (x + (a + b)) / 4294967296, o.set k (((x + (a + b)) % 4294967296 : Nat) : Int), by omega, by go_num, by go_num, by omega, ⟨by rw [List.length_set]; exact HO.out.1, HO.out.2.1.set k (by omega) (by omega), by rw [val_take_succ l0, val_take_succ l1, HAe.out, HBe.out]; exact add_step HO.out.1 hkN HO.out.2.2.1, by have := RU_set HO.out.2.2.2 HO.out.1 k (((x + (a + b)) % 4294967296 : Nat) : Int); simpa using this⟩, ⟨below_set HB.out (Nat.le_refl _) _ _⟩⟩
    case measure => simp [intOf]; omega
   ·have hk2 : k = N := by omega
    subst hk2
    have HC := cut_own HO.out.2.2.2 HO.out.1 HO.out.2.1 (by omega) HB.out
    have HC := Aside0.mk HC
    have hv : val o = val l0 + val l1 := by
     have h := HO.out.2.2.1
     rw [List.take_of_length_le (by rw [HO.out.1]; exact Nat.le_refl _), List.take_of_length_le (by omega), List.take_of_length_le (by omega)] at h
     have h2 := HE.out
     rcases Nat.eq_zero_or_pos x with h0 | h0
     ·rw [h0] at h; omega
     ·obtain rfl : x = 1 := by omega
      omega
    have HV := Aside0.mk hv
    clear hv
    go_wp2_with fail
    refine HC.out.mono ?_
    rintro e w1 ⟨v, rfl, hR1, hB1⟩
    have HR2 := Aside0.mk hR1
    have HB2 := Aside0.mk hB1
    clear hR1 hB1
    go_wp2_with fail
    go_ret
    exact Z54
theorem trim_own {w wr : World} {g n cap : Nat} {l : List Int} (hR : RU wr w.heap.size (.slice (some ⟨g, 0, none⟩) n cap) l) (hn : l.length = n) (hL : Lim l) (hl : n ≤ 35184372088832) (hB : Below w.heap.size w wr) :
  Calls Tryz.prog 94 #[.slice (some ⟨g, 0, none⟩) n cap] wr fun e w' => ∃ v, e = .returned v ∧ RU w' w.heap.size v (digs (val l)) ∧ Below w.heap.size w w' := by
 subst hn
 obtain ⟨A, c, e, hc, hC⟩ := RU_slice hR
 cases e
 refine (trim_w _ _ l wr hC hc hl).mono ?_
 rintro e w' ⟨v, rfl, hR', hB'⟩
 rw [strip_eq hL] at hR'
 exact ⟨v, rfl, RU_lower hR' hB.size, hB.trans (hB'.mono hB.size)⟩
theorem rat_w (A : Option Addr) (c : Nat) (l : List Int) (i : Nat) (w : World) (hr : CU w A l.length l) (hL : Lim l) (hl : l.length ≤ 35184372088832) (hi : i ≤ 70368744177664) :
  Calls Tryz.prog 168 #[.slice A l.length c, .int .i64 (i : Int)] w fun e w' => e = .returned (.int .u64 (lm l i : Int)) ∧ w = w' := by
 have HR := Aside0.mk hr
 clear hr
 by_cases h : i < l.length
 ·obtain ⟨ad, e, hcell⟩ := CU_at HR.out i h
  subst e
  rw [lm_cast hL] at hcell
  have hlt := lm_lt hL i
  obtain ⟨x, hx⟩ : ∃ x, x = lm l i := ⟨_, rfl⟩
  rw [← hx] at hcell hlt ⊢
  clear hx
  go_enter Tryz.func168, Tryz.ntmps168
  go_wp2
  go_ret
  exact ⟨rfl, rfl⟩
 ·rw [lm_out i (by omega)]
  go_enter Tryz.func168, Tryz.ntmps168
  go_wp2
  go_ret
  exact ⟨rfl, rfl⟩
def IntPost (w : World) (x : Int) (e : Ending) (w' : World) : Prop := e = .returned (.int .i64 x) ∧ Below w.heap.size w w'
theorem IntPost_of {w w' : World} {x y : Int} (h : x = y) (hb : Below w.heap.size w w') : IntPost w y (.returned (.int .i64 x)) w' := ⟨by rw [h], hb⟩
theorem cmp_w (A0 A1 : Option Addr) (c0 c1 : Nat) (l0 l1 : List Int) (w : World) (hr0 : CU w A0 l0.length l0) (hr1 : CU w A1 l1.length l1) (hL0 : Lim l0) (hL1 : Lim l1) (hN0 : Norm l0) (hN1 : Norm l1) (hl0 : l0.length < 1000000) (hl1 : l1.length < 1000000) :
  Calls Tryz.prog 27 #[.slice A0 l0.length c0, .slice A1 l1.length c1] w (IntPost w (cmpZ (val l0) (val l1))) := by
 have HR0 := Aside0.mk hr0
 have HR1 := Aside0.mk hr1
 clear hr0 hr1
 by_cases hne : l0.length = l1.length
 ·have hb : ((l0.length : Int) != (l1.length : Int)) = false := by rw [bne_eq_false_iff_eq]; omega
  have hb2 : (l0.length != l1.length) = false := by rw [bne_eq_false_iff_eq]; omega
  have HNE := Aside0.mk hne
  have hle : l1.length ≤ l0.length := by omega
  have hge : l0.length ≤ l1.length := by omega
  clear hne
  go_enter Tryz.func27, Tryz.ntmps27
  go_wp2_with fail
  go_loopw [5] (fun i wr => ∃ k : Nat, k ≤ l0.length ∧ i = .int .i64 ((k : Int) - 1) ∧ Aside0 (val (l0.drop k) = val (l1.drop k)) ∧ Aside0 (Below w.heap.size w wr)) (fun i _ => (intOf i + 1).toNat)
  case atStart => exact ⟨l0.length, Nat.le_refl _, by go_num, ⟨by rw [List.drop_of_length_le (Nat.le_refl _), List.drop_of_length_le (by omega)]⟩, ⟨Below.refl _ _⟩⟩
  case round =>
   obtain ⟨k, hk, rfl, HD, HB⟩ := hrel
   rcases Nat.eq_zero_or_pos k with rfl | hk0
   ·go_wp2_with fail
    go_ret
    exact IntPost_of (cmpZ_eq HD.out).symm HB.out
   ·obtain ⟨j, rfl⟩ : ∃ j, k = j + 1 := ⟨k - 1, by omega⟩
    rw [show ((j + 1 : Nat) : Int) - 1 = (j : Int) from by omega]
    obtain ⟨a0, e, h0⟩ := CU_at (CU_below HR0.out HB.out) j (by omega)
    obtain ⟨a1, e1, h1⟩ := CU_at (CU_below HR1.out HB.out) j (by omega)
    subst e e1
    rw [lm_cast hL0] at h0
    rw [lm_cast hL1] at h1
    obtain ⟨x, hx⟩ : ∃ x, x = lm l0 j := ⟨_, rfl⟩
    obtain ⟨y, hy⟩ : ∃ y, y = lm l1 j := ⟨_, rfl⟩
    rw [← hx] at h0
    rw [← hy] at h1
    have HX := Aside0.mk hx
    have HY := Aside0.mk hy
    clear hx hy
    have hj : j < l0.length := by omega
    have hj1 : j < l1.length := by omega
    by_cases hxy : x = y
    ·have q1 : ((x : Int) != (y : Int)) = false := by rw [bne_eq_false_iff_eq]; omega
     have q2 : (x != y) = false := by rw [bne_eq_false_iff_eq]; omega
     have HXY := Aside0.mk hxy
     clear hxy
     go_wp2_with fail
     go_quiet (fail)
     go_wp2_with fail
     go_roundw
     case rel => exact ⟨j, by omega, by go_num, ⟨by rw [val_drop_at l0, val_drop_at l1, ← HX.out, ← HY.out, HXY.out, HD.out]⟩, ⟨pw_below_drewN HB.out _⟩⟩
     case measure => first | (simp [intOf]; done) | (simp [intOf]; omega)
    ·have q1 : ((x : Int) != (y : Int)) = true := by rw [bne_iff_ne]; omega
     have q2 : (x != y) = true := by rw [bne_iff_ne]; omega
     have q3 : ((x : Int) == (y : Int)) = false := by rw [beq_eq_false_iff_ne]; omega
     have HXY := Aside0.mk hxy
     clear hxy
     by_cases hlt : x < y
     ·go_wp2_with fail
      go_quiet (fail)
      go_wp2_with fail
      go_quiet (fail)
      go_wp2_with fail
      go_ret
      exact IntPost_of (cmpZ_lt (lt_at hL0 j HD.out hj (by rw [← HX.out, ← HY.out]; exact hlt))).symm Z41
     ·have HLT := Aside0.mk hlt
      go_wp2_with fail
      go_quiet (fail)
      go_wp2_with fail
      go_quiet (fail)
      go_wp2_with fail
      go_ret
      exact Z61
 ·have hb : ((l0.length : Int) != (l1.length : Int)) = true := by rw [bne_iff_ne]; omega
  have hb2 : (l0.length != l1.length) = true := by rw [bne_iff_ne]; omega
  have hb3 : ((l0.length : Int) == (l1.length : Int)) = false := by rw [beq_eq_false_iff_ne]; omega
  have HNE := Aside0.mk hne
  clear hne
  by_cases hlt : l0.length < l1.length
  ·go_enter Tryz.func27, Tryz.ntmps27
   go_wp2_with fail
   go_ret
   exact IntPost_of (cmpZ_lt (norm_long hL0 hL1 hN1 hlt)).symm (Below.refl _ _)
  ·have HLT := Aside0.mk hlt
   go_enter Tryz.func27, Tryz.ntmps27
   go_wp2_with fail
   go_ret
   exact IntPost_of (cmpZ_gt (norm_long hL1 hL0 hN0 (by have := HNE.out; have := HLT.out; omega))).symm (Below.refl _ _)
theorem rcmp_w (A0 A1 : Option Addr) (c0 c1 : Nat) (l0 l1 : List Int) (w : World) (hr0 : CU w A0 l0.length l0) (hr1 : CU w A1 l1.length l1) (hL0 : Lim l0) (hL1 : Lim l1) (hN0 : Norm l0) (hN1 : Norm l1) (hl0 : l0.length < 1000000) (hl1 : l1.length < 1000000) :
  Calls Tryz.prog 95 #[.slice A0 l0.length c0, .slice A1 l1.length c1] w (IntPost w (cmpZ (val l0) (val l1))) := by
 have HR0 := Aside0.mk hr0
 have HR1 := Aside0.mk hr1
 clear hr0 hr1
 by_cases hne : l0.length = l1.length
 ·have hb : ((l0.length : Int) != (l1.length : Int)) = false := by rw [bne_eq_false_iff_eq]; omega
  have hb2 : (l0.length != l1.length) = false := by rw [bne_eq_false_iff_eq]; omega
  have HNE := Aside0.mk hne
  have hle : l1.length ≤ l0.length := by omega
  have hge : l0.length ≤ l1.length := by omega
  clear hne
  go_enter Tryz.func95, Tryz.ntmps95
  go_wp2_with fail
  go_loopw [5] (fun i wr => ∃ k : Nat, k ≤ l0.length ∧ i = .int .i64 (k : Int) ∧ Aside0 (val (l0.drop k) = val (l1.drop k)) ∧ Aside0 (Below w.heap.size w wr)) (fun i _ => (intOf i).toNat)
  case atStart => exact ⟨l0.length, Nat.le_refl _, by go_num, ⟨by rw [List.drop_of_length_le (Nat.le_refl _), List.drop_of_length_le (by omega)]⟩, ⟨Below.refl _ _⟩⟩
  case round =>
   obtain ⟨k, hk, rfl, HD, HB⟩ := hrel
   rcases Nat.eq_zero_or_pos k with rfl | hk0
   ·go_wp2_with fail
    go_ret
    exact IntPost_of (cmpZ_eq HD.out).symm HB.out
   ·obtain ⟨j, rfl⟩ : ∃ j, k = j + 1 := ⟨k - 1, by omega⟩
    obtain ⟨a0, e, h0⟩ := CU_at (CU_below HR0.out HB.out) j (by omega)
    obtain ⟨a1, e1, h1⟩ := CU_at (CU_below HR1.out HB.out) j (by omega)
    subst e e1
    rw [lm_cast hL0] at h0
    rw [lm_cast hL1] at h1
    obtain ⟨x, hx⟩ : ∃ x, x = lm l0 j := ⟨_, rfl⟩
    obtain ⟨y, hy⟩ : ∃ y, y = lm l1 j := ⟨_, rfl⟩
    rw [← hx] at h0
    rw [← hy] at h1
    have HX := Aside0.mk hx
    have HY := Aside0.mk hy
    clear hx hy
    have hj : j < l0.length := by omega
    have hj1 : j < l1.length := by omega
    by_cases hxy : x = y
    ·have q1 : ¬ ((x : Int) < (y : Int)) := by omega
     have q2 : ¬ ((y : Int) < (x : Int)) := by omega
     have HXY := Aside0.mk hxy
     clear hxy
     go_wp2_with fail
     go_quiet (fail)
     go_wp2_with fail
     go_quiet (fail)
     go_wp2_with fail
     go_roundw
     case rel => exact ⟨j, by omega, by go_num, ⟨by rw [val_drop_at l0, val_drop_at l1, ← HX.out, ← HY.out, HXY.out, HD.out]⟩, ⟨by first | exact pw_below_drewN HB.out _ | exact pw_below_drewN (pw_below_drewN HB.out _) _⟩⟩
     case measure => first | (simp [intOf]; done) | (simp [intOf]; omega)
    ·have q1 : ((x : Int) != (y : Int)) = true := by rw [bne_iff_ne]; omega
     have q2 : (x != y) = true := by rw [bne_iff_ne]; omega
     have q3 : ((x : Int) == (y : Int)) = false := by rw [beq_eq_false_iff_ne]; omega
     have HXY := Aside0.mk hxy
     clear hxy
     by_cases hlt : x < y
     ·go_wp2_with fail
      go_quiet (fail)
      go_wp2_with fail
      go_ret
      exact IntPost_of (cmpZ_lt (lt_at hL0 j HD.out hj (by rw [← HX.out, ← HY.out]; exact hlt))).symm (pw_below_drewN HB.out _)
     ·have HLT := Aside0.mk hlt
      have hgt : y < x := by have := HXY.out; omega
      go_wp2_with fail
      go_quiet (fail)
      go_wp2_with fail
      go_quiet (fail)
      go_wp2_with fail
      go_ret
      exact Z61
 ·have hb : ((l0.length : Int) != (l1.length : Int)) = true := by rw [bne_iff_ne]; omega
  have hb2 : (l0.length != l1.length) = true := by rw [bne_iff_ne]; omega
  have hb3 : ((l0.length : Int) == (l1.length : Int)) = false := by rw [beq_eq_false_iff_ne]; omega
  have HNE := Aside0.mk hne
  clear hne
  by_cases hlt : l0.length < l1.length
  ·go_enter Tryz.func95, Tryz.ntmps95
   go_wp2_with fail
   go_ret
   exact IntPost_of (cmpZ_lt (norm_long hL0 hL1 hN1 hlt)).symm (Below.refl _ _)
  ·have HLT := Aside0.mk hlt
   go_enter Tryz.func95, Tryz.ntmps95
   go_wp2_with fail
   go_ret
   exact IntPost_of (cmpZ_gt (norm_long hL1 hL0 hN0 (by have := HNE.out; have := HLT.out; omega))).symm (Below.refl _ _)
def dif (a b x : Nat) : Nat := (a + 18446744073709551616 - b - x) % 18446744073709551616
theorem dif_wrap {a b x : Nat} (ha : a < 4294967296) (hb : b < 4294967296) (hx : x ≤ 1) : IntKind.u64.wrap (IntKind.u64.wrap ((a : Int) - (b : Int)) - (x : Int)) = (dif a b x : Int) := by
 unfold dif IntKind.wrap
 simp [IntKind.bits, IntKind.signed]
 omega
theorem dif_lt (a b x : Nat) : dif a b x < 18446744073709551616 := by unfold dif; omega
theorem dif_eq {a b x : Nat} (ha : a < 4294967296) (hb : b < 4294967296) (hx : x ≤ 1) : dif a b x % 4294967296 + b + x = a + 4294967296 * (dif a b x / 9223372036854775808) ∧ dif a b x / 9223372036854775808 ≤ 1 := by
 unfold dif
 omega
theorem dif_low {a b x D : Nat} (hD : D = dif a b x) (ha : a < 4294967296) (hb : b < 4294967296) (hx : x ≤ 1) : D % 4294967296 + b + x = a + 4294967296 * (D / 9223372036854775808) ∧ D / 9223372036854775808 ≤ 1 := by
 subst hD
 exact dif_eq ha hb hx
theorem sub_step {o : List Int} {N k x y a b r va vb : Nat} (hN : o.length = N) (hk : k < N) (hr : r + b + x = a + 4294967296 * y) (h : val (o.take k) + vb = va + x * pw k) :
  val ((o.set k (r : Int)).take (k + 1)) + (vb + pw k * b) = (va + pw k * a) + y * pw (k + 1) := by
 rw [val_take_succ, List.take_set, List.set_eq_of_length_le Z49]
 have e : lm (o.set k (r : Int)) k = r := by
  unfold lm
  rw [List.getD_eq_getElem?_getD, List.getElem?_set_self (by omega)]
  simp
 rw [e, pw_succ]
 have h1 : pw k * (r + b + x) = pw k * (a + 4294967296 * y) := by rw [hr]
 rw [Nat.mul_add, Nat.mul_add, Nat.mul_add] at h1
 have h2 : y * (4294967296 * pw k) = pw k * (4294967296 * y) := by rw [Nat.mul_left_comm y, Nat.mul_left_comm (pw k), Nat.mul_comm y]
 rw [Nat.mul_comm x] at h
 omega
theorem sub_end {o l0 l1 : List Int} {N x : Nat} (hN : o.length = N) (h0 : l0.length = N) (hO : Lim o) (hL0 : Lim l0) (hL1 : Lim l1) (hn : Norm l1) (hle : val l1 ≤ val l0) (h : val (o.take N) + val (l1.take N) = val (l0.take N) + x * pw N) : val o = val l0 - val l1 := by
 have h1 : l1.length ≤ N := by
  refine Nat.le_of_not_lt fun hlt => ?_
  have := norm_long hL0 hL1 hn (by omega)
  omega
 rw [List.take_of_length_le (by omega), List.take_of_length_le (by omega), List.take_of_length_le (by omega)] at h
 have h2 := val_lt hO
 rw [hN] at h2
 rcases Nat.eq_zero_or_pos x with h3 | h3
 ·rw [h3] at h; omega
 ·have := Nat.mul_le_mul_right (pw N) h3
  omega
theorem less_w (A0 A1 : Option Addr) (c0 c1 : Nat) (l0 l1 : List Int) (w : World) (hr0 : CU w A0 l0.length l0) (hr1 : CU w A1 l1.length l1) (hL0 : Lim l0) (hL1 : Lim l1) (hN0 : Norm l0) (hN1 : Norm l1) (hl0 : l0.length < 1000000) (hl1 : l1.length < 1000000) (hle : val l1 ≤ val l0) :
  Calls Tryz.prog 145 #[.slice A0 l0.length c0, .slice A1 l1.length c1] w (NumPost w (val l0 - val l1)) := by
 have HR0 := Aside0.mk hr0
 have HR1 := Aside0.mk hr1
 clear hr0 hr1
 have hmk : ∀ W : World, (Instr.makeSlice 25 (.int .i64 (l0.length : Int)) (.int .i64 (l0.length : Int))).run Tryz.prog W = .ok (.slice (some ⟨W.heap.size, 0, none⟩) l0.length l0.length) (W.alloc (.cells (madeCells #[.int .u32 0] l0.length) 94)) := fun W => make_u l0.length (by omega) W
 have HA0 : ∀ (k : Nat) (wr : World), k ≤ l0.length → Below w.heap.size w wr → Calls Tryz.prog 168 #[.slice A0 l0.length c0, .int .i64 (k : Int)] wr fun e w' => e = .returned (.int .u64 (lm l0 k : Int)) ∧ wr = w' := fun k wr hk hB => rat_w A0 c0 l0 k wr (CU_below HR0.out hB) hL0 (by omega) (by omega)
 have HA1 : ∀ (k : Nat) (wr : World), k ≤ l0.length → Below w.heap.size w wr → Calls Tryz.prog 168 #[.slice A1 l1.length c1, .int .i64 (k : Int)] wr fun e w' => e = .returned (.int .u64 (lm l1 k : Int)) ∧ wr = w' := fun k wr hk hB => rat_w A1 c1 l1 k wr (CU_below HR1.out hB) hL1 (by omega) (by omega)
 have HA0 := Aside0.mk HA0
 have HA1 := Aside0.mk HA1
 have HLE := Aside0.mk hle
 clear hle
 obtain ⟨w0, hw0⟩ : ∃ w0 : World, w0 = w := ⟨_, rfl⟩
 have HM : RU (w.alloc (.cells (madeCells #[.int .u32 0] l0.length) 94)) w.heap.size (.slice (some ⟨w0.heap.size, 0, none⟩) l0.length l0.length) (List.replicate l0.length 0) := by rw [hw0]; exact RU_made w l0.length (by omega)
 have HM := Aside0.mk HM
 have HBS := Aside0.mk (below_alloc (Below.refl w.heap.size w) (.cells (madeCells #[.int .u32 0] l0.length) 94))
 have HGE : w.heap.size ≤ w0.heap.size := by rw [hw0]; exact Nat.le_refl _
 have HGE := Aside0.mk HGE
 go_enter Tryz.func145, Tryz.ntmps145
 go_wp2_with fail
 rw [show (⟨w.heap.size, 0, none⟩ : Addr) = ⟨w0.heap.size, 0, none⟩ from by rw [hw0]]
 clear hw0
 go_loopw [6, 7] (fun c i wr => ∃ (k x : Nat) (o : List Int), k ≤ l0.length ∧ i = .int .i64 (k : Int) ∧ c = .int .u64 (x : Int) ∧ x ≤ 1 ∧ Aside0 (o.length = l0.length ∧ Lim o ∧ val (o.take k) + val (l1.take k) = val (l0.take k) + x * pw k ∧ RU wr w.heap.size (.slice (some ⟨w0.heap.size, 0, none⟩) l0.length l0.length) o) ∧ Aside0 (Below w.heap.size w wr)) (fun _ i _ => l0.length - (intOf i).toNat)
 case atStart => exact ⟨0, 0, List.replicate l0.length 0, Nat.zero_le _, rfl, rfl, by omega, ⟨by simp, Lim.replicate _, by simp [val], HM.out⟩, ⟨HBS.out⟩⟩
 case round =>
  obtain ⟨k, x, o, hk, rfl, rfl, hx, HO, HB⟩ := hrel
  by_cases hkN : k < l0.length
  ·have hc := RU_at HO.out.2.2.2 HO.out.1 k hkN
   obtain ⟨hc1, hc2⟩ := hc
   have ha := lm_lt hL0 k
   have hb := lm_lt hL1 k
   go_wp2_with fail
   refine (HA0.out k _ (by omega) HB.out).mono ?_
   rintro e w1 ⟨rfl, rfl⟩
   go_wp2_with fail
   refine (HA1.out k _ (by omega) HB.out).mono ?_
   rintro e w1 ⟨rfl, rfl⟩
   generalize hA : lm l0 k = a at ha ⊢
   generalize hBb : lm l1 k = b at hb ⊢
   have HAe := Aside0.mk hA
   have HBe := Aside0.mk hBb
   have hdw := dif_wrap ha hb hx
   obtain ⟨D, hD⟩ : ∃ D, D = dif a b x := ⟨_, rfl⟩
   rw [← hD] at hdw
   have hDlt : D < 18446744073709551616 := by rw [hD]; exact dif_lt _ _ _
   have hDe := dif_low hD ha hb hx
   have HDE := Aside0.mk hDe.1
   have hDy := hDe.2
   clear hA hBb hD hDe
   go_wp2_with fail
   go_roundw
   case rel => exact ⟨k + 1, D / 9223372036854775808, o.set k ((D % 4294967296 : Nat) : Int), by omega, by go_num, by go_num, hDy, ⟨by rw [List.length_set]; exact HO.out.1, HO.out.2.1.set k (by omega) (by omega), by rw [val_take_succ l0, val_take_succ l1, HAe.out, HBe.out]; exact sub_step HO.out.1 hkN HDE.out HO.out.2.2.1, by have := RU_set HO.out.2.2.2 HO.out.1 k ((D % 4294967296 : Nat) : Int); simpa using this⟩, ⟨below_set HB.out (HGE.out) _ _⟩⟩
   case measure => simp [intOf]; omega
  ·have hk2 : k = l0.length := by omega
   have HK := Aside0.mk hk2
   subst hk2
   have HC := trim_own HO.out.2.2.2 HO.out.1 HO.out.2.1 (by omega) HB.out
   have HC := Aside0.mk HC
   have hv : val o = val l0 - val l1 := sub_end HO.out.1 rfl HO.out.2.1 hL0 hL1 hN1 HLE.out HO.out.2.2.1
   have HV := Aside0.mk hv
   clear hv
   go_wp2_with fail
   refine HC.out.mono ?_
   rintro e w1 ⟨v, rfl, hR1, hB1⟩
   have HR2 := Aside0.mk hR1
   have HB2 := Aside0.mk hB1
   clear hR1 hB1
   go_wp2_with fail
   go_ret
   exact Z54
def SubPost (w : World) (a b : Nat) (e : Ending) (w' : World) : Prop := ∃ v, e = .returned (.tuple #[v, .int .i64 (if a < b then 1 else 0)]) ∧ RU w' w.heap.size v (digs (a - b)) ∧ Below w.heap.size w w'
theorem sub_less {w w' : World} {a b : Nat} (h : a < b) (hB : Below w.heap.size w w') : SubPost w a b (.returned (.tuple #[.slice none 0 0, .int .i64 1])) w' :=
 ⟨_, by rw [if_pos h], by rw [Nat.sub_eq_zero_of_le (by omega), digs_zero]; exact Kd.R_nil _ _ _ _ _, hB⟩
theorem sub_more {w w' : World} {a b : Nat} {v : Value} (h : ¬ a < b) (hR : RU w' w.heap.size v (digs (a - b))) (hB : Below w.heap.size w w') : SubPost w a b (.returned (.tuple #[v, .int .i64 0])) w' :=
 ⟨_, by rw [if_neg h], hR, hB⟩
theorem sub_w (A0 A1 : Option Addr) (c0 c1 : Nat) (l0 l1 : List Int) (w : World) (hr0 : CU w A0 l0.length l0) (hr1 : CU w A1 l1.length l1) (hL0 : Lim l0) (hL1 : Lim l1) (hN0 : Norm l0) (hN1 : Norm l1) (hl0 : l0.length < 1000000) (hl1 : l1.length < 1000000) :
  Calls Tryz.prog 119 #[.slice A0 l0.length c0, .slice A1 l1.length c1] w (SubPost w (val l0) (val l1)) := by
 have HR0 := Aside0.mk hr0
 have HR1 := Aside0.mk hr1
 have HC := Aside0.mk (cmp_w A0 A1 c0 c1 l0 l1 w hr0 hr1 hL0 hL1 hN0 hN1 hl0 hl1)
 clear hr0 hr1
 by_cases hle : val l1 ≤ val l0
 ·have hz : 0 ≤ cmpZ (val l0) (val l1) := by
   rcases Nat.lt_or_ge (val l1) (val l0) with h | h
   ·rw [cmpZ_gt h]; omega
   ·rw [cmpZ_eq (by omega)]; omega
  obtain ⟨z, hzz⟩ : ∃ z, z = cmpZ (val l0) (val l1) := ⟨_, rfl⟩
  rw [← hzz] at HC hz
  clear hzz
  have hmk : ∀ W : World, (Instr.makeSlice 25 (.int .i64 (l0.length : Int)) (.int .i64 (l0.length : Int))).run Tryz.prog W = .ok (.slice (some ⟨W.heap.size, 0, none⟩) l0.length l0.length) (W.alloc (.cells (madeCells #[.int .u32 0] l0.length) 94)) := fun W => make_u l0.length (by omega) W
  have HA0 : ∀ (k : Nat) (wr : World), k ≤ l0.length → Below w.heap.size w wr → Calls Tryz.prog 100 #[.slice A0 l0.length c0, .int .i64 (k : Int)] wr fun e w' => e = .returned (.int .u64 (lm l0 k : Int)) ∧ wr = w' := fun k wr hk hB => at_w A0 c0 l0 k wr (CU_below HR0.out hB) hL0 (by omega) (by omega)
  have HA1 : ∀ (k : Nat) (wr : World), k ≤ l0.length → Below w.heap.size w wr → Calls Tryz.prog 100 #[.slice A1 l1.length c1, .int .i64 (k : Int)] wr fun e w' => e = .returned (.int .u64 (lm l1 k : Int)) ∧ wr = w' := fun k wr hk hB => at_w A1 c1 l1 k wr (CU_below HR1.out hB) hL1 (by omega) (by omega)
  have HA0 := Aside0.mk HA0
  have HA1 := Aside0.mk HA1
  have HLE := Aside0.mk hle
  clear hle
  go_enter Tryz.func119, Tryz.ntmps119
  go_wp2_with fail
  refine HC.out.mono ?_
  rintro e w1 ⟨rfl, hB1⟩
  have HB1 := Aside0.mk hB1
  have HM : RU (w1.alloc (.cells (madeCells #[.int .u32 0] l0.length) 94)) w.heap.size (.slice (some ⟨w1.heap.size, 0, none⟩) l0.length l0.length) (List.replicate l0.length 0) := RU_lower (RU_made w1 l0.length (by omega)) hB1.size
  have HM := Aside0.mk HM
  have HBS := Aside0.mk (hB1.alloc hB1.size (.cells (madeCells #[.int .u32 0] l0.length) 94))
  have HGE := Aside0.mk hB1.size
  clear hB1
  go_wp2_with fail
  go_loopw [7, 19] (fun c i wr => ∃ (k x : Nat) (o : List Int), k ≤ l0.length ∧ i = .int .i64 (k : Int) ∧ c = .int .u64 (x : Int) ∧ x ≤ 1 ∧ Aside0 (o.length = l0.length ∧ Lim o ∧ val (o.take k) + val (l1.take k) = val (l0.take k) + x * pw k ∧ RU wr w.heap.size (.slice (some ⟨w1.heap.size, 0, none⟩) l0.length l0.length) o) ∧ Aside0 (Below w.heap.size w wr)) (fun _ i _ => l0.length - (intOf i).toNat)
  case atStart => exact ⟨0, 0, List.replicate l0.length 0, Nat.zero_le _, rfl, rfl, by omega, ⟨by simp, Lim.replicate _, by simp [val], HM.out⟩, ⟨HBS.out⟩⟩
  case round =>
   obtain ⟨k, x, o, hk, rfl, rfl, hx, HO, HB⟩ := hrel
   by_cases hkN : k < l0.length
   ·have hc := RU_at HO.out.2.2.2 HO.out.1 k hkN
    obtain ⟨hc1, hc2⟩ := hc
    have ha := lm_lt hL0 k
    have hb := lm_lt hL1 k
    go_wp2_with fail
    refine (HA0.out k _ (by omega) HB.out).mono ?_
    rintro e w2 ⟨rfl, rfl⟩
    go_wp2_with fail
    refine (HA1.out k _ (by omega) HB.out).mono ?_
    rintro e w2 ⟨rfl, rfl⟩
    generalize hA : lm l0 k = a at ha ⊢
    generalize hBb : lm l1 k = b at hb ⊢
    have HAe := Aside0.mk hA
    have HBe := Aside0.mk hBb
    have hdw := dif_wrap ha hb hx
    obtain ⟨D, hD⟩ : ∃ D, D = dif a b x := ⟨_, rfl⟩
    rw [← hD] at hdw
    have hDlt : D < 18446744073709551616 := by rw [hD]; exact dif_lt _ _ _
    have hDe := dif_low hD ha hb hx
    have HDE := Aside0.mk hDe.1
    have hDy := hDe.2
    clear hA hBb hD hDe
    go_wp2_with fail
    go_roundw
    case rel => exact ⟨k + 1, D / 9223372036854775808, o.set k ((D % 4294967296 : Nat) : Int), by omega, by go_num, by go_num, hDy, ⟨by rw [List.length_set]; exact HO.out.1, HO.out.2.1.set k (by omega) (by omega), by rw [val_take_succ l0, val_take_succ l1, HAe.out, HBe.out]; exact sub_step HO.out.1 hkN HDE.out HO.out.2.2.1, by have := RU_set HO.out.2.2.2 HO.out.1 k ((D % 4294967296 : Nat) : Int); simpa using this⟩, ⟨below_set HB.out (HGE.out) _ _⟩⟩
    case measure => simp [intOf]; omega
   ·have hk2 : k = l0.length := by omega
    have HK := Aside0.mk hk2
    subst hk2
    have HC := cut_own HO.out.2.2.2 HO.out.1 HO.out.2.1 (by omega) HB.out
    have HC := Aside0.mk HC
    have hv : val o = val l0 - val l1 := sub_end HO.out.1 rfl HO.out.2.1 hL0 hL1 hN1 HLE.out HO.out.2.2.1
    have HV := Aside0.mk hv
    clear hv
    go_wp2_with fail
    refine HC.out.mono ?_
    rintro e w2 ⟨v, rfl, hR1, hB1⟩
    have HR2 := Aside0.mk hR1
    have HB2 := Aside0.mk hB1
    clear hR1 hB1
    go_wp2_with fail
    go_ret2
    exact sub_more (by have := HLE.out; omega) (by rw [← HV.out]; exact HR2.out) HB2.out
 ·have hz : cmpZ (val l0) (val l1) < 0 := by rw [cmpZ_lt (by omega)]; omega
  obtain ⟨z, hzz⟩ : ∃ z, z = cmpZ (val l0) (val l1) := ⟨_, rfl⟩
  rw [← hzz] at HC hz
  clear hzz
  have HLE := Aside0.mk hle
  clear hle
  go_enter Tryz.func119, Tryz.ntmps119
  go_wp2_with fail
  refine HC.out.mono ?_
  rintro e w1 ⟨rfl, hB1⟩
  have HB1 := Aside0.mk hB1
  clear hB1
  go_wp2_with fail
  go_ret2
  exact sub_less (by have := HLE.out; omega) HB1.out
theorem val_set (o : List Int) : ∀ (i v : Nat), i < o.length → val (o.set i (v : Int)) + pw i * lm o i = val o + pw i * v := by
 induction o with
 | nil => intro i v h; simp at h
 | cons x xs ih =>
  intro i v h
  cases i with
  | zero => simp [val, pw_zero, lm]; omega
  | succ i =>
   have h1 := ih i v (by simpa using h)
   have h2 : lm (x :: xs) (i + 1) = lm xs i := by simp [lm]
   simp only [List.set_cons_succ, val]
   rw [h2, pw_succ, Nat.mul_assoc, Nat.mul_assoc]
   omega
theorem lm_set_ne {o : List Int} {i j : Nat} {v : Int} (h : i ≠ j) : lm (o.set i v) j = lm o j := by
 unfold lm
 rw [List.getD_eq_getElem?_getD, List.getD_eq_getElem?_getD, List.getElem?_set_ne h]
theorem lm_replicate (n i : Nat) : lm (List.replicate n 0) i = 0 := by
 unfold lm
 rw [List.getD_eq_getElem?_getD]
 rcases Nat.lt_or_ge i n with h | h
 ·rw [List.getElem?_eq_getElem (by simpa using h)]; simp
 ·rw [List.getElem?_eq_none (by simpa using h)]; rfl
theorem mul_bound {a b c d : Nat} (ha : a < 4294967296) (hb : b < 4294967296) (hc : c < 4294967296) (hd : d < 4294967296) : a * b ≤ 18446744065119617025 ∧ c + (a * b + d) < 18446744073709551616 := by
 have : a * b ≤ 4294967295 * 4294967295 := Nat.mul_le_mul (by omega) (by omega)
 omega
theorem mul_step {o : List Int} {i k x b c s M : Nat} {va : Nat} (hk : i + k < o.length) (hs : s = c + (x * b + lm o (i + k)))
  (h : val o + c * pw (i + k) = M + x * va * pw i) :
  val (o.set (i + k) ((s % 4294967296 : Nat) : Int)) + s / 4294967296 * pw (i + (k + 1)) = M + x * (va + pw k * b) * pw i := by
 have h1 := val_set o (i + k) (s % 4294967296) hk
 have h2 : pw (i + k) * (s % 4294967296) + s / 4294967296 * pw (i + (k + 1)) = pw (i + k) * s := by
  rw [show i + (k + 1) = (i + k) + 1 from rfl, pw_succ, ← Nat.mul_assoc, Nat.mul_comm _ (pw (i + k)), ← Nat.mul_add]
  congr 1
  omega
 have h3 : pw (i + k) * s = c * pw (i + k) + x * (pw k * b) * pw i + pw (i + k) * lm o (i + k) := by
  rw [hs, Nat.mul_add, Nat.mul_add, Nat.mul_comm (pw (i + k)) c]
  have : pw (i + k) * (x * b) = x * (pw k * b) * pw i := by
   rw [pw_add, Nat.mul_comm (pw i), Nat.mul_assoc, Nat.mul_comm (pw i), ← Nat.mul_assoc, ← Nat.mul_assoc, Nat.mul_comm (pw k) x, Nat.mul_assoc x]
  omega
 rw [Nat.mul_add, Nat.add_mul]
 omega
theorem mul_row {o l0 l1 : List Int} {i n c : Nat} (hn : l1.length = n) (hi : i + n < o.length) (hz : lm o (i + n) = 0) (h : val o + c * pw (i + n) = val (l0.take i) * val l1 + lm l0 i * val (l1.take n) * pw i) :
  val (o.set (i + n) (c : Int)) = val (l0.take (i + 1)) * val l1 := by
 have h1 := val_set o (i + n) c hi
 rw [hz, Nat.mul_zero, Nat.add_zero] at h1
 rw [List.take_of_length_le (l := l1) (show l1.length ≤ n by omega)] at h
 rw [h1, val_take_succ, Nat.add_mul, Nat.mul_comm (pw (i + n)) c, h]
 congr 1
 rw [Nat.mul_comm (pw i), Nat.mul_assoc, Nat.mul_assoc, Nat.mul_comm (pw i)]
theorem mul_wrap {a b : Nat} (ha : a < 4294967296) (hb : b < 4294967296) : IntKind.u64.wrap ((a : Int) * (b : Int)) = ((a * b : Nat) : Int) := by
 have h : a * b ≤ 4294967295 * 4294967295 := Nat.mul_le_mul (by omega) (by omega)
 unfold IntKind.wrap
 simp [IntKind.bits, IntKind.signed]
 rw [← Int.natCast_mul]
 omega
theorem u64_in {x : Int} (h0 : 0 ≤ x) (h1 : x < 18446744073709551616) : IntKind.u64.wrap x = x := by
 unfold IntKind.wrap
 simp [IntKind.bits, IntKind.signed]
 omega
theorem i64_in' {x : Int} (h0 : 0 ≤ x) (h1 : x < 9223372036854775808) : IntKind.i64.wrap x = x := by
 unfold IntKind.wrap
 simp [IntKind.bits, IntKind.signed]
 omega
theorem mul_w (A0 A1 : Option Addr) (c0 c1 : Nat) (l0 l1 : List Int) (w : World) (hr0 : CU w A0 l0.length l0) (hr1 : CU w A1 l1.length l1) (hL0 : Lim l0) (hL1 : Lim l1) (hl0 : l0.length < 1000000) (hl1 : l1.length < 1000000) :
  Calls Tryz.prog 92 #[.slice A0 l0.length c0, .slice A1 l1.length c1] w (NumPost w (val l0 * val l1)) := by
 have HR0 := Aside0.mk hr0
 have HR1 := Aside0.mk hr1
 clear hr0 hr1
 have hmk : ∀ W : World, (Instr.makeSlice 25 (.int .i64 ((l0.length : Int) + (l1.length : Int))) (.int .i64 ((l0.length : Int) + (l1.length : Int)))).run Tryz.prog W = .ok (.slice (some ⟨W.heap.size, 0, none⟩) (l0.length + l1.length) (l0.length + l1.length)) (W.alloc (.cells (madeCells #[.int .u32 0] (l0.length + l1.length)) 94)) := fun W => make_u (l0.length + l1.length) (by omega) W
 have HM := Aside0.mk (RU_made w (l0.length + l1.length) (by omega))
 go_enter Tryz.func92, Tryz.ntmps92
 go_wp2_with fail
 go_loopw [18] (fun ii wr => ∃ (i : Nat) (o : List Int), i ≤ l0.length ∧ ii = .int .i64 (i : Int) ∧ Aside0 (o.length = l0.length + l1.length ∧ Lim o ∧ val o = val (l0.take i) * val l1 ∧ (∀ j, i + l1.length ≤ j → lm o j = 0) ∧ RU wr w.heap.size (.slice (some ⟨w.heap.size, 0, none⟩) (l0.length + l1.length) (l0.length + l1.length)) o) ∧ Aside0 (Below w.heap.size w wr)) (fun ii _ => l0.length - (intOf ii).toNat)
 case atStart => exact ⟨0, List.replicate (l0.length + l1.length) 0, Nat.zero_le _, rfl, ⟨by simp, Lim.replicate _, by rw [val_replicate]; simp [val], fun j _ => lm_replicate _ j, HM.out⟩, ⟨below_alloc (Below.refl _ _) _⟩⟩
 case round =>
  obtain ⟨i, o, hi, rfl, HO, HB⟩ := hrel
  obtain ⟨wo, rfl⟩ : ∃ wo : World, wo = wr := ⟨_, rfl⟩
  by_cases hiN : i < l0.length
  ·obtain ⟨ad, e, hcell⟩ := CU_at (CU_below HR0.out HB.out) i hiN
   subst e
   rw [lm_cast hL0] at hcell
   have hx := lm_lt hL0 i
   obtain ⟨x, hxe⟩ : ∃ x, x = lm l0 i := ⟨_, rfl⟩
   rw [← hxe] at hcell hx
   have HX := Aside0.mk hxe
   clear hxe
   have hHO := HO.out
   rw [show i + l1.length = i + l1.length from rfl] at hHO
   clear hHO
   go_wp2_with fail
   go_loopw [8, 25] (fun cc kk wr => ∃ (k c : Nat) (o : List Int), k ≤ l1.length ∧ kk = .int .i64 (k : Int) ∧ cc = .int .u64 (c : Int) ∧ c < 4294967296 ∧ Aside0 (o.length = l0.length + l1.length ∧ Lim o ∧ val o + c * pw (i + k) = val (l0.take i) * val l1 + x * val (l1.take k) * pw i ∧ (∀ j, i + l1.length ≤ j → lm o j = 0) ∧ RU wr w.heap.size (.slice (some ⟨w.heap.size, 0, none⟩) (l0.length + l1.length) (l0.length + l1.length)) o) ∧ Aside0 (Below w.heap.size w wr)) (fun _ kk _ => l1.length - (intOf kk).toNat)
   case atStart => exact ⟨0, 0, o, Nat.zero_le _, rfl, rfl, by omega, ⟨HO.out.1, HO.out.2.1, by rw [HO.out.2.2.1]; simp [val], HO.out.2.2.2.1, HO.out.2.2.2.2⟩, ⟨HB.out⟩⟩
   case round =>
    clear HO HB hcell
    obtain ⟨k, c, o, hk, rfl, rfl, hc, HO, HB⟩ := hrel
    by_cases hkN : k < l1.length
    ·obtain ⟨hc1, hc2⟩ := RU_at HO.out.2.2.2.2 HO.out.1 (i + k) (by omega)
     obtain ⟨ad1, e1, hcell1⟩ := CU_at (CU_below HR1.out HB.out) k hkN
     subst e1
     rw [lm_cast hL1] at hcell1
     rw [lm_cast HO.out.2.1] at hc1
     have hb := lm_lt hL1 k
     have hd := lm_lt HO.out.2.1 (i + k)
     obtain ⟨b, hbe⟩ : ∃ b, b = lm l1 k := ⟨_, rfl⟩
     obtain ⟨d, hde⟩ : ∃ d, d = lm o (i + k) := ⟨_, rfl⟩
     rw [← hbe] at hcell1 hb
     rw [← hde] at hc1 hd
     have hmb := mul_bound hx hb hc hd
     have hmw := mul_wrap hx hb
     obtain ⟨p, hp⟩ : ∃ p, p = x * b := ⟨_, rfl⟩
     obtain ⟨s, hs⟩ : ∃ s, s = c + (p + d) := ⟨_, rfl⟩
     rw [← hp] at hmb hmw
     have hs64 : s < 18446744073709551616 := by omega
     have hw1 : IntKind.u64.wrap ((p : Int) + (d : Int)) = (p : Int) + (d : Int) := u64_in (by omega) (by omega)
     have hw2 : IntKind.u64.wrap ((c : Int) + ((p : Int) + (d : Int))) = (s : Int) := by rw [u64_in (by omega) (by omega)]; omega
     have hw3 : IntKind.i64.wrap ((i : Int) + (k : Int)) = (i : Int) + (k : Int) := i64_in' (by omega) (by omega)
     have hw4 : ((i : Int) + (k : Int)).toNat = i + k := by omega
     have hw5 : (0 : Int) ≤ (i : Int) + (k : Int) := by omega
     have hw6 : (i : Int) + (k : Int) < (l0.length : Int) + (l1.length : Int) := by omega
     have HBE := Aside0.mk hbe
     have HDE := Aside0.mk hde
     have HS := Aside0.mk (show s = c + (x * b + d) by rw [← hp]; exact hs)
     clear hbe hde hs hp hmb
     go_wp2_with fail
     go_quiet (fail)
     clear hw3 hw4 hw1 hw2 hmw
     go_wp2_with fail
     go_roundw
     case rel => exact ⟨k + 1, s / 4294967296, o.set (i + k) ((s % 4294967296 : Nat) : Int), by omega, by go_num, by go_num, by omega, ⟨by rw [List.length_set]; exact HO.out.1, HO.out.2.1.set (i + k) (by omega) (by omega), by rw [val_take_succ l1, ← HBE.out]; exact mul_step Z45 (by rw [HS.out, HDE.out]) HO.out.2.2.1, fun j hj => by rw [lm_set_ne (by omega)]; exact HO.out.2.2.2.1 j hj, by have := RU_set (RU_drewN HO.out.2.2.2.2 nq) HO.out.1 (i + k) ((s % 4294967296 : Nat) : Int); simpa using this⟩, ⟨below_set (pw_below_drewN HB.out _) (Nat.le_refl _) _ _⟩⟩
     case measure => simp [intOf]; omega
    ·have hk2 : k = l1.length := by omega
     subst hk2
     obtain ⟨hc1, hc2⟩ := RU_at HO.out.2.2.2.2 HO.out.1 (i + l1.length) (by omega)
     go_wp2_with fail
     go_roundw
     case rel => exact ⟨i + 1, o.set (i + l1.length) ((c : Nat) : Int), by omega, by go_num, ⟨by rw [List.length_set]; exact HO.out.1, HO.out.2.1.set (i + l1.length) (by omega) (by omega), mul_row rfl Z45 (HO.out.2.2.2.1 _ (Nat.le_refl _)) (by rw [← HX.out]; exact HO.out.2.2.1), fun j hj => by rw [lm_set_ne (by omega)]; exact HO.out.2.2.2.1 j (by omega), by have := RU_set HO.out.2.2.2.2 HO.out.1 (i + l1.length) ((c : Nat) : Int); simpa using this⟩, ⟨below_set HB.out (Nat.le_refl _) _ _⟩⟩
     case measure => simp [intOf]; omega
  ·have hk2 : i = l0.length := by omega
   subst hk2
   have HC := cut_own HO.out.2.2.2.2 HO.out.1 HO.out.2.1 (by omega) HB.out
   have HC := Aside0.mk HC
   have hv : val o = val l0 * val l1 := by
    have h := HO.out.2.2.1
    rwa [List.take_of_length_le (Nat.le_refl _)] at h
   have HV := Aside0.mk hv
   clear hv
   go_wp2_with fail
   refine HC.out.mono ?_
   rintro e w1 ⟨v, rfl, hR1, hB1⟩
   have HR2 := Aside0.mk hR1
   have HB2 := Aside0.mk hB1
   clear hR1 hB1
   go_wp2_with fail
   go_ret
   exact Z54
theorem i64_in2 {x : Int} (h0 : -9223372036854775808 ≤ x) (h1 : x < 9223372036854775808) : IntKind.i64.wrap x = x := by
 unfold IntKind.wrap
 simp [IntKind.bits, IntKind.signed]
 omega
theorem RU.drew_ {w : World} {base : Nat} {v : Value} {l : List Int} (h : RU w base v l) : RU w.drew base v l := Kd.R_drew h
def lmi (l : List Int) (i : Int) : Nat := if 0 ≤ i then lm l i.toNat else 0
theorem lmi_nat (l : List Int) (i : Nat) : lmi l (i : Int) = lm l i := by unfold lmi; rw [if_pos (by omega)]; simp
theorem lmi_neg (l : List Int) {i : Int} (h : i < 0) : lmi l i = 0 := by unfold lmi; rw [if_neg (by omega)]
theorem lmi_lt {l : List Int} (h : Lim l) (i : Int) : lmi l i < 4294967296 := by
 unfold lmi
 split
 ·exact lm_lt h _
 ·omega
theorem or_parts {a b s : Nat} (ha : a % 2 ^ s = 0) (hb : b < 2 ^ s) : a ||| b = a + b := by
 have := Nat.two_pow_add_eq_or_of_lt hb (a / 2 ^ s)
 rw [Nat.mul_div_cancel' (Nat.dvd_of_mod_eq_zero ha)] at this
 exact this.symm
theorem pow_le {s : Nat} (hs : s < 32) : 2 ^ s ≤ 2147483648 := by
 have := Nat.pow_le_pow_right (n := 2) Z5 (show s ≤ 31 by omega)
 omega
theorem two_pos (s : Nat) : 0 < 2 ^ s := Nat.pow_pos Z5
theorem pow_part (s : Nat) (hs : s < 32) : 2 ^ (32 - s) * 2 ^ s = 4294967296 := by
 rw [← Nat.pow_add, show 32 - s + s = 32 from by omega]
theorem low_part {x s : Nat} (hs : s < 32) : (x * 2 ^ s % 4294967296) % 2 ^ s = 0 ∧ x * 2 ^ s % 4294967296 + 2 ^ s ≤ 4294967296 := by
 have h := pow_part s hs
 have h1 : x * 2 ^ s % 4294967296 = x % 2 ^ (32 - s) * 2 ^ s := by rw [← h, Nat.mul_mod_mul_right]
 rw [h1]
 refine ⟨Nat.mul_mod_left _ _, ?_⟩
 have h2 : x % 2 ^ (32 - s) + 1 ≤ 2 ^ (32 - s) := Nat.mod_lt _ (two_pos _)
 have h3 := Nat.mul_le_mul_right (2 ^ s) h2
 rw [Nat.add_mul, h] at h3
 omega
theorem high_part {y s : Nat} (hy : y < 4294967296) : y * 2 ^ s / 4294967296 < 2 ^ s := by
 rw [Nat.div_lt_iff_lt_mul Z5, Nat.mul_comm (2 ^ s)]
 exact Nat.mul_lt_mul_of_pos_right hy (two_pos s)
theorem bits_or_u32_nat (a b : Nat) (ha : a < 4294967296) (hb : b < 4294967296) : bits .or .u32 (a : Int) (b : Int) = ((a ||| b : Nat) : Int) :=
 (bits_nat .u32 32 Z5 (fun n h0 h1 => by rw [IntKind.wrap_u32]; omega) a b (by omega) (by omega)).2
theorem wrap64_pow {x s : Nat} (hx : x < 4294967296) (hs : s < 32) : IntKind.u64.wrap ((x : Int) * 2 ^ s) = ((x * 2 ^ s : Nat) : Int) := by
 have h1 := pow_le hs
 have h2 : x * 2 ^ s ≤ 4294967295 * 2147483648 := Nat.mul_le_mul (by omega) h1
 have e : (x : Int) * 2 ^ s = ((x * 2 ^ s : Nat) : Int) := by rw [Int.natCast_mul, Int.natCast_pow]; rfl
 rw [e]
 exact u64_in (by omega) (by omega)
theorem shl_limb {x y s : Nat} (hx : x < 4294967296) (hy : y < 4294967296) (hs : s < 32) :
  bits .or .u32 (IntKind.u32.wrap (IntKind.u64.wrap ((x : Int) * 2 ^ s))) (IntKind.u32.wrap (IntKind.u64.wrap ((y : Int) * 2 ^ s) / 4294967296)) = ((x * 2 ^ s % 4294967296 + y * 2 ^ s / 4294967296 : Nat) : Int) := by
 have hl := low_part (x := x) hs
 have hh := high_part (s := s) hy
 have hp := pow_le hs
 rw [wrap64_pow hx hs, wrap64_pow hy hs, IntKind.wrap_u32, IntKind.wrap_u32]
 rw [show ((x * 2 ^ s : Nat) : Int) % 4294967296 = ((x * 2 ^ s % 4294967296 : Nat) : Int) from by omega, show ((y * 2 ^ s : Nat) : Int) / 4294967296 % 4294967296 = ((y * 2 ^ s / 4294967296 : Nat) : Int) from by omega]
 rw [bits_or_u32_nat _ _ (by omega) (by omega), or_parts hl.1 hh]
theorem shl_lt {x y s : Nat} (hy : y < 4294967296) (hs : s < 32) : x * 2 ^ s % 4294967296 + y * 2 ^ s / 4294967296 < 4294967296 := by
 have hl := low_part (x := x) hs
 have hh := high_part (s := s) hy
 omega
theorem lm_set_self {o : List Int} {i r : Nat} (h : i < o.length) : lm (o.set i (r : Int)) i = r := by
 unfold lm
 rw [List.getD_eq_getElem?_getD, List.getElem?_set_self h]
 simp
theorem take_set_self (o : List Int) (i : Nat) (v : Int) : (o.set i v).take i = o.take i := by
 rw [List.take_set, List.set_eq_of_length_le Z49]
theorem shl_step {o l : List Int} {i q s x y : Nat} (hi : i < o.length) (hx : x = lmi l ((i : Int) - q)) (hy : y = lmi l ((i : Int) - q - 1))
  (h : val (o.take i) + pw i * (y * 2 ^ s / 4294967296) = pw q * 2 ^ s * val (l.take (i - q))) :
  val ((o.set i ((x * 2 ^ s % 4294967296 + y * 2 ^ s / 4294967296 : Nat) : Int)).take (i + 1)) + pw (i + 1) * (x * 2 ^ s / 4294967296) = pw q * 2 ^ s * val (l.take (i + 1 - q)) := by
 rw [val_take_succ, take_set_self, lm_set_self hi, pw_succ, Nat.mul_add]
 have h1 : pw i * (x * 2 ^ s % 4294967296) + 4294967296 * pw i * (x * 2 ^ s / 4294967296) = pw i * (x * 2 ^ s) := by
  rw [Nat.mul_comm 4294967296, Nat.mul_assoc, ← Nat.mul_add, Nat.mod_add_div]
 rcases Nat.lt_or_ge i q with h2 | h2
 ·have hx0 : x = 0 := by rw [hx]; exact lmi_neg l (by omega)
  rw [show i + 1 - q = 0 from by omega]
  rw [show i - q = 0 from by omega] at h
  subst hx0
  simp [val] at h h1 ⊢
  omega
 ·have hx1 : x = lm l (i - q) := by rw [hx, show (i : Int) - q = ((i - q : Nat) : Int) from by omega]; exact lmi_nat l _
  rw [show i + 1 - q = (i - q) + 1 from by omega, val_take_succ, ← hx1, Nat.mul_add]
  have h3 : pw q * 2 ^ s * (pw (i - q) * x) = pw i * (x * 2 ^ s) := by
   rw [show pw i = pw q * pw (i - q) from by rw [← pw_add]; congr 1; omega]
   rw [Nat.mul_assoc, Nat.mul_assoc, Nat.mul_left_comm (2 ^ s), Nat.mul_comm (2 ^ s) x]
  omega
theorem at_any (A : Option Addr) (c : Nat) (l : List Int) (i : Int) (w : World) (hr : CU w A l.length l) (hL : Lim l) (hl : l.length ≤ 35184372088832) (hi : i ≤ 70368744177664) :
  Calls Tryz.prog 100 #[.slice A l.length c, .int .i64 i] w fun e w' => e = .returned (.int .u64 (lmi l i : Int)) ∧ w = w' := by
 by_cases h : 0 ≤ i
 ·obtain ⟨n, rfl⟩ := Int.eq_ofNat_of_zero_le h
  rw [lmi_nat]
  exact at_w A c l n w hr hL hl (by omega)
 ·rw [lmi_neg l (by omega)]
  exact at_w_neg A c l i w (by omega)
theorem shl_w (A0 : Option Addr) (c0 : Nat) (l0 : List Int) (q s : Nat) (w : World) (hr0 : CU w A0 l0.length l0) (hL0 : Lim l0) (hl0 : l0.length < 1000000) (hs : s < 32) (hq : q < 32768) :
  Calls Tryz.prog 56 #[.slice A0 l0.length c0, .int .i64 ((32 * q + s : Nat) : Int)] w (NumPost w (val l0 * 2 ^ (32 * q + s))) := by
 have HR0 := Aside0.mk hr0
 clear hr0
 have hk0 : (0 : Int) ≤ ((32 * q + s : Nat) : Int) := by omega
 have hk1 : ((32 * q + s : Nat) : Int) ≤ 1048576 := by omega
 have hdiv : ((32 * q + s : Nat) : Int) / 32 = (q : Int) := by omega
 have hmod : ((32 * q + s : Nat) : Int) % 32 = (s : Int) := by omega
 generalize hK : ((32 * q + s : Nat) : Int) = K at hk0 hk1 hdiv hmod ⊢
 have HKK := Aside0.mk hK
 clear hK
 have hmk : ∀ W : World, (Instr.makeSlice 25 (.int .i64 ((l0.length : Int) + (q : Int) + 1)) (.int .i64 ((l0.length : Int) + (q : Int) + 1))).run Tryz.prog W = .ok (.slice (some ⟨W.heap.size, 0, none⟩) (l0.length + q + 1) (l0.length + q + 1)) (W.alloc (.cells (madeCells #[.int .u32 0] (l0.length + q + 1)) 94)) := fun W => make_u (l0.length + q + 1) (by omega) W
 have HM := Aside0.mk (RU_made w (l0.length + q + 1) (by omega))
 go_enter Tryz.func56, Tryz.ntmps56
 go_wp2_with fail
 rw [hdiv, hmod]
 clear hdiv hmod
 go_loopw [29] (fun ii wr => ∃ (i : Nat) (o : List Int), i ≤ l0.length + q + 1 ∧ ii = .int .i64 (i : Int) ∧ Aside0 (o.length = l0.length + q + 1 ∧ Lim o ∧ val (o.take i) + pw i * (lmi l0 ((i : Int) - q - 1) * 2 ^ s / 4294967296) = pw q * 2 ^ s * val (l0.take (i - q)) ∧ RU wr w.heap.size (.slice (some ⟨w.heap.size, 0, none⟩) (l0.length + q + 1) (l0.length + q + 1)) o) ∧ Aside0 (Below w.heap.size w wr)) (fun ii _ => l0.length + q + 1 - (intOf ii).toNat)
 case atStart => exact ⟨0, List.replicate (l0.length + q + 1) 0, Nat.zero_le _, rfl, ⟨by simp, Lim.replicate _, by rw [lmi_neg l0 (by omega), Nat.zero_sub]; simp [val], HM.out⟩, ⟨below_alloc (Below.refl _ _) _⟩⟩
 case round =>
  obtain ⟨i, o, hi, rfl, HO, HB⟩ := hrel
  by_cases hiN : i < l0.length + q + 1
  ·obtain ⟨hc1, hc2⟩ := RU_at HO.out.2.2.2 HO.out.1 i hiN
   have HAT : ∀ (j : Int) (wx : World), j ≤ 10000000 → Below w.heap.size w wx → Calls Tryz.prog 100 #[.slice A0 l0.length c0, .int .i64 j] wx fun e w' => e = .returned (.int .u64 (lmi l0 j : Int)) ∧ wx = w' := fun j wx hj hB => at_any A0 c0 l0 j wx (CU_below HR0.out hB) hL0 (by omega) (by omega)
   have HAT := Aside0.mk HAT
   have hB1 := below_drew HB.out
   have HB1 := Aside0.mk hB1
   clear hB1
   have ha := lmi_lt hL0 ((i : Int) - (q : Int))
   have hb := lmi_lt hL0 ((i : Int) - (q : Int) - 1)
   obtain ⟨x, hx⟩ : ∃ x, x = lmi l0 ((i : Int) - (q : Int)) := ⟨_, rfl⟩
   obtain ⟨y, hy⟩ : ∃ y, y = lmi l0 ((i : Int) - (q : Int) - 1) := ⟨_, rfl⟩
   rw [← hx] at ha
   rw [← hy] at hb
   have HX := Aside0.mk hx
   have HY := Aside0.mk hy
   clear hx hy
   have hw1 : IntKind.i64.wrap ((i : Int) - (q : Int) - 1) = (i : Int) - (q : Int) - 1 := i64_in2 (by omega) (by omega)
   go_wp2_with fail
   go_region_with (go_at_call 100; refine (HAT.out _ _ (by omega) HB1.out).mono ?_; rintro e w1 ⟨rfl, rfl⟩)
   have hlimb := shl_limb (x := x) (y := y) ha hb hs
   rw [← HX.out, ← HY.out, hlimb]
   clear hlimb
   go_wp2_with fail
   go_roundw
   case rel =>
    exact ⟨i + 1, o.set i ((x * 2 ^ s % 4294967296 + y * 2 ^ s / 4294967296 : Nat) : Int), by omega, by go_num, ⟨by rw [List.length_set]; exact HO.out.1, HO.out.2.1.set i (by omega) (by have := shl_lt (x := x) hb hs; omega), by
    rw [show ((i + 1 : Nat) : Int) - q - 1 = (i : Int) - q from by omega, ← HX.out]
    exact shl_step (by rw [HO.out.1]; exact hiN) HX.out HY.out (by rw [HY.out]; exact HO.out.2.2.1), (RU_set HO.out.2.2.2 HO.out.1 i _).drew_⟩, ⟨(below_set HB.out (Nat.le_refl _) _ _).drew⟩⟩
   case measure => simp [intOf]; omega
  ·have hk2 : i = l0.length + q + 1 := by omega
   subst hk2
   have HC := cut_own HO.out.2.2.2 HO.out.1 HO.out.2.1 (by omega) HB.out
   have HC := Aside0.mk HC
   have hv : val o = val l0 * 2 ^ (32 * q + s) := by
    have h := HO.out.2.2.1
    rw [List.take_of_length_le (by rw [HO.out.1]; exact Nat.le_refl _), show ((l0.length + q + 1 : Nat) : Int) - q - 1 = ((l0.length : Nat) : Int) from by omega, lmi_nat, lm_out _ (Nat.le_refl _), List.take_of_length_le (l := l0) (by omega)] at h
    rw [Nat.pow_add, ← pw_two, Nat.mul_comm (val l0)]
    simpa using h
   have HV := Aside0.mk hv
   clear hv
   go_wp2_with fail
   refine HC.out.mono ?_
   rintro e w1 ⟨v, rfl, hR1, hB1⟩
   have HR2 := Aside0.mk hR1
   have HB2 := Aside0.mk hB1
   clear hR1 hB1
   go_wp2_with fail
   go_ret
   exact Z54
theorem lm_val {l : List Int} (h : Lim l) (i : Nat) : lm l i = val l / pw i % 4294967296 := by
 have := val_at h i
 unfold lm
 omega
theorem shr_digit {X i q s : Nat} (hs : s < 32) : X / 2 ^ (32 * q + s) / pw i % 4294967296 = (X / pw (i + q) % 4294967296 + X / pw (i + q + 1) % 4294967296 * 4294967296) / 2 ^ s % 4294967296 := by
 have h1 : X / 2 ^ (32 * q + s) / pw i = X / pw (i + q) / 2 ^ s := by
  rw [Nat.div_div_eq_div_mul, Nat.div_div_eq_div_mul, Nat.pow_add, ← pw_two, pw_add]
  congr 1
  rw [Nat.mul_assoc, Nat.mul_comm, Nat.mul_assoc, Nat.mul_comm (2 ^ s), Nat.mul_assoc]
 have h2 : X / pw (i + q + 1) = X / pw (i + q) / 4294967296 := by rw [pw_succ, Nat.mul_comm, Nat.div_div_eq_div_mul]
 rw [h1, h2]
 generalize X / pw (i + q) = Z
 have h3 : Z = (Z % 4294967296 + Z / 4294967296 % 4294967296 * 4294967296) + 4294967296 * 4294967296 * (Z / 4294967296 / 4294967296) := by omega
 have h4 : 4294967296 * 4294967296 * (Z / 4294967296 / 4294967296) = 2 ^ s * (2 ^ (32 - s) * 4294967296 * (Z / 4294967296 / 4294967296)) := by
  rw [← Nat.mul_assoc, ← Nat.mul_assoc, Nat.mul_comm (2 ^ s), pow_part s hs]
 conv => lhs; rw [h3, h4, Nat.add_mul_div_left _ _ (two_pos s)]
 rw [Nat.mul_comm (2 ^ (32 - s)), Nat.mul_assoc, Nat.add_mul_mod_self_left]
theorem mod_succ (Y i : Nat) : Y % pw (i + 1) = Y % pw i + pw i * (Y / pw i % 4294967296) := by
 rw [pw_succ, Nat.mul_comm, Nat.mod_mul]
theorem shr_step {o l : List Int} {i q s r : Nat} (hL : Lim l) (hs : s < 32) (hi : i < o.length) (hr : r = (lm l (i + q) + lm l (i + q + 1) * 4294967296) / 2 ^ s % 4294967296)
  (h : val (o.take i) = val l / 2 ^ (32 * q + s) % pw i) : val ((o.set i (r : Int)).take (i + 1)) = val l / 2 ^ (32 * q + s) % pw (i + 1) := by
 rw [val_take_succ, take_set_self, lm_set_self hi, mod_succ, h, shr_digit hs, hr, lm_val hL, lm_val hL]
theorem shr_end {o l : List Int} {q s N : Nat} (hL : Lim l) (hN : N = l.length - q) (ho : o.length = N) (h : val (o.take N) = val l / 2 ^ (32 * q + s) % pw N) : val o = val l / 2 ^ (32 * q + s) := by
 rw [List.take_of_length_le (by omega)] at h
 rw [h]
 refine Nat.mod_eq_of_lt ?_
 have h1 := val_lt hL
 have h2 : val l < pw N * pw q := by rw [← pw_add]; exact Nat.lt_of_lt_of_le h1 (pw_le (by omega))
 have h3 : val l / pw q < pw N := by rw [Nat.div_lt_iff_lt_mul (pw_pos q)]; exact h2
 rw [Nat.pow_add, ← pw_two, ← Nat.div_div_eq_div_mul]
 exact Nat.lt_of_le_of_lt (Nat.div_le_self _ _) h3
theorem or_high {x y : Nat} (hx : x < 4294967296) (hy : y < 4294967296) : bits .or .u64 (x : Int) ((y : Int) * 4294967296) = ((x + y * 4294967296 : Nat) : Int) := by
 rw [show (y : Int) * 4294967296 = ((y * 4294967296 : Nat) : Int) from by omega, bits_or_u64_nat _ _ (by omega) (by omega)]
 congr 1
 have := or_parts (a := y * 4294967296) (b := x) (s := 32) (by omega) (by omega)
 rw [Nat.or_comm, this]
 omega
theorem shr_cast {z s : Nat} : ((z : Int) / 2 ^ s) % 4294967296 = ((z / 2 ^ s % 4294967296 : Nat) : Int) := by
 have : ((2 : Int) ^ s) = ((2 ^ s : Nat) : Int) := by rw [Int.natCast_pow]; rfl
 rw [this]
 omega
theorem shr_w (A0 : Option Addr) (c0 : Nat) (l0 : List Int) (q s : Nat) (w : World) (hr0 : CU w A0 l0.length l0) (hL0 : Lim l0) (hl0 : l0.length < 1000000) (hs : s < 32) (hq : q < 32768) :
  Calls Tryz.prog 118 #[.slice A0 l0.length c0, .int .i64 ((32 * q + s : Nat) : Int)] w (NumPost w (val l0 / 2 ^ (32 * q + s))) := by
 have HR0 := Aside0.mk hr0
 clear hr0
 have hk0 : (0 : Int) ≤ ((32 * q + s : Nat) : Int) := by omega
 have hk1 : ((32 * q + s : Nat) : Int) ≤ 1048576 := by omega
 have hdiv : ((32 * q + s : Nat) : Int) / 32 = (q : Int) := by omega
 have hmod : ((32 * q + s : Nat) : Int) % 32 = (s : Int) := by omega
 generalize hK : ((32 * q + s : Nat) : Int) = K at hk0 hk1 hdiv hmod ⊢
 clear hK
 obtain ⟨N, hN⟩ : ∃ N, N = l0.length - q := ⟨_, rfl⟩
 have hNb : N < 1000000 := by omega
 have hmk : ∀ (z : Int) (W : World), z = (N : Int) → (Instr.makeSlice 25 (.int .i64 z) (.int .i64 z)).run Tryz.prog W = .ok (.slice (some ⟨W.heap.size, 0, none⟩) N N) (W.alloc (.cells (madeCells #[.int .u32 0] N) 94)) := fun z W h => by
  subst h; exact make_u N (by omega) W
 have HM := Aside0.mk (RU_made w N (by omega))
 have HN := Aside0.mk hN
 by_cases hql : q ≤ l0.length
 ·have hmk := fun W => hmk ((l0.length : Int) - (q : Int)) W (by omega)
  clear hN
  go_enter Tryz.func118, Tryz.ntmps118
  go_wp2_with fail
  (try rw [hdiv]); (try rw [hmod])
  clear hdiv hmod
  go_loopw [28] (fun ii wr => ∃ (i : Nat) (o : List Int), i ≤ N ∧ ii = .int .i64 (i : Int) ∧ Aside0 (o.length = N ∧ Lim o ∧ val (o.take i) = val l0 / 2 ^ (32 * q + s) % pw i ∧ RU wr w.heap.size (.slice (some ⟨w.heap.size, 0, none⟩) N N) o) ∧ Aside0 (Below w.heap.size w wr)) (fun ii _ => N - (intOf ii).toNat)
  case atStart => exact ⟨0, List.replicate N 0, Nat.zero_le _, rfl, ⟨by simp, Lim.replicate _, by simp [val, pw_zero, Nat.mod_one], HM.out⟩, ⟨below_alloc (Below.refl _ _) _⟩⟩
  case round =>
   obtain ⟨i, o, hi, rfl, HO, HB⟩ := hrel
   by_cases hiN : i < N
   ·obtain ⟨hc1, hc2⟩ := RU_at HO.out.2.2.2 HO.out.1 i hiN
    have HAT : ∀ (j : Nat), j ≤ 10000000 → Calls Tryz.prog 100 #[.slice A0 l0.length c0, .int .i64 (j : Int)] wr fun e w' => e = .returned (.int .u64 (lm l0 j : Int)) ∧ wr = w' := fun j hj => at_w A0 c0 l0 j wr (CU_below HR0.out HB.out) hL0 (by omega) (by omega)
    have HAT1 := Aside0.mk (HAT (i + q) (by omega))
    have HAT2 := Aside0.mk (HAT (i + q + 1) (by omega))
    have ha := lm_lt hL0 (i + q)
    have hb := lm_lt hL0 (i + q + 1)
    obtain ⟨x, hx⟩ : ∃ x, x = lm l0 (i + q) := ⟨_, rfl⟩
    obtain ⟨y, hy⟩ : ∃ y, y = lm l0 (i + q + 1) := ⟨_, rfl⟩
    rw [← hx] at ha HAT1
    rw [← hy] at hb HAT2
    have hor := or_high ha hb
    obtain ⟨z, hz⟩ : ∃ z, z = x + y * 4294967296 := ⟨_, rfl⟩
    rw [← hz] at hor
    have hz64 : z < 18446744073709551616 := by omega
    have HZ := Aside0.mk (show z = lm l0 (i + q) + lm l0 (i + q + 1) * 4294967296 by rw [← hx, ← hy]; exact hz)
    clear hx hy hz HAT
    have hsc := shr_cast (z := z) (s := s)
    obtain ⟨r, hr⟩ : ∃ r, r = z / 2 ^ s % 4294967296 := ⟨_, rfl⟩
    rw [← hr] at hsc
    have hrl : r < 4294967296 := by rw [hr]; exact Nat.mod_lt _ Z5
    have HRR := Aside0.mk hr
    clear hr
    go_wp2_with fail
    refine HAT1.out.mono ?_
    rintro e w1 ⟨rfl, rfl⟩
    go_wp2_with fail
    refine HAT2.out.mono ?_
    rintro e w1 ⟨rfl, rfl⟩
    go_wp2_with fail
    go_roundw
    case rel => exact ⟨i + 1, o.set i (r : Int), by omega, by go_num, ⟨by rw [List.length_set]; exact HO.out.1, HO.out.2.1.set i (by omega) (by omega), shr_step hL0 hs (by rw [HO.out.1]; exact hiN) (by rw [HRR.out, HZ.out]) HO.out.2.2.1, RU_set HO.out.2.2.2 HO.out.1 i _⟩, ⟨below_set HB.out (Nat.le_refl _) _ _⟩⟩
    case measure => simp [intOf]; omega
   ·have hk2 : i = N := by omega
    subst hk2
    have HC := cut_own HO.out.2.2.2 HO.out.1 HO.out.2.1 (by omega) HB.out
    have HC := Aside0.mk HC
    have HV := Aside0.mk (shr_end hL0 HN.out HO.out.1 HO.out.2.2.1)
    go_wp2_with fail
    refine HC.out.mono ?_
    rintro e w1 ⟨v, rfl, hR1, hB1⟩
    have HR2 := Aside0.mk hR1
    have HB2 := Aside0.mk hB1
    clear hR1 hB1
    go_wp2_with fail
    go_ret
    exact Z54
 ·have hN0 : N = 0 := by omega
  have hmk := fun W => hmk 0 W (by omega)
  have HQL := Aside0.mk hql
  have HN0 := Aside0.mk hN0
  have hql2 : l0.length < q := by omega
  clear hN hql hN0
  go_enter Tryz.func118, Tryz.ntmps118
  go_wp2_with fail
  (try rw [hdiv]); (try rw [hmod])
  clear hdiv hmod
  go_loopw [28] (fun ii wr => ∃ (i : Nat) (o : List Int), i ≤ N ∧ ii = .int .i64 (i : Int) ∧ Aside0 (o.length = N ∧ Lim o ∧ val (o.take i) = val l0 / 2 ^ (32 * q + s) % pw i ∧ RU wr w.heap.size (.slice (some ⟨w.heap.size, 0, none⟩) N N) o) ∧ Aside0 (Below w.heap.size w wr)) (fun ii _ => N - (intOf ii).toNat)
  case atStart => exact ⟨0, List.replicate N 0, Nat.zero_le _, rfl, ⟨by simp, Lim.replicate _, by simp [val, pw_zero, Nat.mod_one], HM.out⟩, ⟨below_alloc (Below.refl _ _) _⟩⟩
  case round =>
   obtain ⟨i, o, hi, rfl, HO, HB⟩ := hrel
   by_cases hiN : i < N
   ·obtain ⟨hc1, hc2⟩ := RU_at HO.out.2.2.2 HO.out.1 i hiN
    have HAT : ∀ (j : Nat), j ≤ 10000000 → Calls Tryz.prog 100 #[.slice A0 l0.length c0, .int .i64 (j : Int)] wr fun e w' => e = .returned (.int .u64 (lm l0 j : Int)) ∧ wr = w' := fun j hj => at_w A0 c0 l0 j wr (CU_below HR0.out HB.out) hL0 (by omega) (by omega)
    have HAT1 := Aside0.mk (HAT (i + q) (by omega))
    have HAT2 := Aside0.mk (HAT (i + q + 1) (by omega))
    have ha := lm_lt hL0 (i + q)
    have hb := lm_lt hL0 (i + q + 1)
    obtain ⟨x, hx⟩ : ∃ x, x = lm l0 (i + q) := ⟨_, rfl⟩
    obtain ⟨y, hy⟩ : ∃ y, y = lm l0 (i + q + 1) := ⟨_, rfl⟩
    rw [← hx] at ha HAT1
    rw [← hy] at hb HAT2
    have hor := or_high ha hb
    obtain ⟨z, hz⟩ : ∃ z, z = x + y * 4294967296 := ⟨_, rfl⟩
    rw [← hz] at hor
    have hz64 : z < 18446744073709551616 := by omega
    have HZ := Aside0.mk (show z = lm l0 (i + q) + lm l0 (i + q + 1) * 4294967296 by rw [← hx, ← hy]; exact hz)
    clear hx hy hz HAT
    have hsc := shr_cast (z := z) (s := s)
    obtain ⟨r, hr⟩ : ∃ r, r = z / 2 ^ s % 4294967296 := ⟨_, rfl⟩
    rw [← hr] at hsc
    have hrl : r < 4294967296 := by rw [hr]; exact Nat.mod_lt _ Z5
    have HRR := Aside0.mk hr
    clear hr
    go_wp2_with fail
    refine HAT1.out.mono ?_
    rintro e w1 ⟨rfl, rfl⟩
    go_wp2_with fail
    refine HAT2.out.mono ?_
    rintro e w1 ⟨rfl, rfl⟩
    go_wp2_with fail
    go_roundw
    case rel => exact ⟨i + 1, o.set i (r : Int), by omega, by go_num, ⟨by rw [List.length_set]; exact HO.out.1, HO.out.2.1.set i (by omega) (by omega), shr_step hL0 hs (by rw [HO.out.1]; exact hiN) (by rw [HRR.out, HZ.out]) HO.out.2.2.1, RU_set HO.out.2.2.2 HO.out.1 i _⟩, ⟨below_set HB.out (Nat.le_refl _) _ _⟩⟩
    case measure => simp [intOf]; omega
   ·have hk2 : i = N := by omega
    subst hk2
    have HC := cut_own HO.out.2.2.2 HO.out.1 HO.out.2.1 (by omega) HB.out
    have HC := Aside0.mk HC
    have HV := Aside0.mk (shr_end hL0 HN.out HO.out.1 HO.out.2.2.1)
    go_wp2_with fail
    refine HC.out.mono ?_
    rintro e w1 ⟨v, rfl, hR1, hB1⟩
    have HR2 := Aside0.mk hR1
    have HB2 := Aside0.mk hB1
    clear hR1 hB1
    go_wp2_with fail
    go_ret
    exact Z54
theorem rshr_w (A0 : Option Addr) (c0 : Nat) (l0 : List Int) (q s : Nat) (w : World) (hr0 : CU w A0 l0.length l0) (hL0 : Lim l0) (hl0 : l0.length < 1000000) (hs : s < 32) (hq : q < 32768) :
  Calls Tryz.prog 146 #[.slice A0 l0.length c0, .int .i64 ((32 * q + s : Nat) : Int)] w (NumPost w (val l0 / 2 ^ (32 * q + s))) := by
 have HR0 := Aside0.mk hr0
 clear hr0
 have hk0 : (0 : Int) ≤ ((32 * q + s : Nat) : Int) := by omega
 have hk1 : ((32 * q + s : Nat) : Int) ≤ 1048576 := by omega
 have hdiv : ((32 * q + s : Nat) : Int) / 32 = (q : Int) := by omega
 have hmod : ((32 * q + s : Nat) : Int) % 32 = (s : Int) := by omega
 generalize hK : ((32 * q + s : Nat) : Int) = K at hk0 hk1 hdiv hmod ⊢
 clear hK
 obtain ⟨N, hN⟩ : ∃ N, N = l0.length - q := ⟨_, rfl⟩
 have hNb : N < 1000000 := by omega
 have hmk : ∀ (z : Int) (W : World), z = (N : Int) → (Instr.makeSlice 25 (.int .i64 z) (.int .i64 z)).run Tryz.prog W = .ok (.slice (some ⟨W.heap.size, 0, none⟩) N N) (W.alloc (.cells (madeCells #[.int .u32 0] N) 94)) := fun z W h => by
  subst h; exact make_u N (by omega) W
 have HM := Aside0.mk (RU_made w N (by omega))
 have HN := Aside0.mk hN
 by_cases hql : q < l0.length
 ·have hmk := fun W => hmk ((l0.length : Int) - (q : Int)) W (by omega)
  clear hN
  have hd1 : decide (l0.length ≤ q) = false := decide_eq_false (by omega)
  have hd2 : decide ((l0.length : Int) ≤ (q : Int)) = false := decide_eq_false (by omega)
  go_enter Tryz.func146, Tryz.ntmps146
  go_wp2_with fail
  (try rw [hdiv]); (try rw [hmod])
  clear hdiv hmod hd1 hd2
  go_loopw [8] (fun ii wr => ∃ (i : Nat) (o : List Int), i ≤ N ∧ ii = .int .i64 (i : Int) ∧ Aside0 (o.length = N ∧ Lim o ∧ val (o.take i) = val l0 / 2 ^ (32 * q + s) % pw i ∧ RU wr w.heap.size (.slice (some ⟨w.heap.size, 0, none⟩) N N) o) ∧ Aside0 (Below w.heap.size w wr)) (fun ii _ => N - (intOf ii).toNat)
  case atStart => exact ⟨0, List.replicate N 0, Nat.zero_le _, rfl, ⟨by simp, Lim.replicate _, by simp [val, pw_zero, Nat.mod_one], HM.out⟩, ⟨below_alloc (Below.refl _ _) _⟩⟩
  case round =>
   obtain ⟨i, o, hi, rfl, HO, HB⟩ := hrel
   by_cases hiN : i < N
   ·obtain ⟨hc1, hc2⟩ := RU_at HO.out.2.2.2 HO.out.1 i hiN
    have HAT : ∀ (j : Nat), j ≤ 10000000 → Calls Tryz.prog 168 #[.slice A0 l0.length c0, .int .i64 (j : Int)] wr fun e w' => e = .returned (.int .u64 (lm l0 j : Int)) ∧ wr = w' := fun j hj => rat_w A0 c0 l0 j wr (CU_below HR0.out HB.out) hL0 (by omega) (by omega)
    have HAT1 := Aside0.mk (HAT (i + q) (by omega))
    have HAT2 := Aside0.mk (HAT (i + q + 1) (by omega))
    have ha := lm_lt hL0 (i + q)
    have hb := lm_lt hL0 (i + q + 1)
    obtain ⟨x, hx⟩ : ∃ x, x = lm l0 (i + q) := ⟨_, rfl⟩
    obtain ⟨y, hy⟩ : ∃ y, y = lm l0 (i + q + 1) := ⟨_, rfl⟩
    rw [← hx] at ha HAT1
    rw [← hy] at hb HAT2
    have hor := or_high ha hb
    obtain ⟨z, hz⟩ : ∃ z, z = x + y * 4294967296 := ⟨_, rfl⟩
    rw [← hz] at hor
    have hz64 : z < 18446744073709551616 := by omega
    have HZ := Aside0.mk (show z = lm l0 (i + q) + lm l0 (i + q + 1) * 4294967296 by rw [← hx, ← hy]; exact hz)
    clear hx hy hz HAT
    have hsc := shr_cast (z := z) (s := s)
    obtain ⟨r, hr⟩ : ∃ r, r = z / 2 ^ s % 4294967296 := ⟨_, rfl⟩
    rw [← hr] at hsc
    have hrl : r < 4294967296 := by rw [hr]; exact Nat.mod_lt _ Z5
    have HRR := Aside0.mk hr
    clear hr
    go_wp2_with fail
    refine HAT1.out.mono ?_
    rintro e w1 ⟨rfl, rfl⟩
    go_wp2_with fail
    refine HAT2.out.mono ?_
    rintro e w1 ⟨rfl, rfl⟩
    go_wp2_with fail
    go_roundw
    case rel => exact ⟨i + 1, o.set i (r : Int), by omega, by go_num, ⟨by rw [List.length_set]; exact HO.out.1, HO.out.2.1.set i (by omega) (by omega), shr_step hL0 hs (by rw [HO.out.1]; exact hiN) (by rw [HRR.out, HZ.out]) HO.out.2.2.1, RU_set HO.out.2.2.2 HO.out.1 i _⟩, ⟨below_set HB.out (Nat.le_refl _) _ _⟩⟩
    case measure => simp [intOf]; omega
   ·have hk2 : i = N := by omega
    subst hk2
    have HC := trim_own HO.out.2.2.2 HO.out.1 HO.out.2.1 (by omega) HB.out
    have HC := Aside0.mk HC
    have HV := Aside0.mk (shr_end hL0 HN.out HO.out.1 HO.out.2.2.1)
    go_wp2_with fail
    refine HC.out.mono ?_
    rintro e w1 ⟨v, rfl, hR1, hB1⟩
    have HR2 := Aside0.mk hR1
    have HB2 := Aside0.mk hB1
    clear hR1 hB1
    go_wp2_with fail
    go_ret
    exact Z54
 ·have hN0 : N = 0 := by omega
  have hmk := fun W => hmk 0 W (by omega)
  have HQL := Aside0.mk hql
  have HN0 := Aside0.mk hN0
  have hql2 : l0.length ≤ q := by omega
  clear hN hql hN0
  go_enter Tryz.func146, Tryz.ntmps146
  go_wp2_with fail
  go_ret
  refine ⟨_, rfl, ?_, Below.refl _ _⟩
  have h0 : val l0 / 2 ^ (32 * q + s) = 0 := by
   have := shr_end (o := []) (q := q) (s := s) hL0 HN.out (by rw [HN0.out]; rfl) (by rw [HN0.out]; simp [val, pw_zero, Nat.mod_one])
   rw [← this]
   rfl
  rw [h0, digs_zero]
  exact Kd.R_nil _ _ _ _ _
theorem or_limb {y x s : Nat} (hy : y < 2 ^ s) (hs : s < 32) : bits .or .u32 (y : Int) (((x * 2 ^ s : Nat) : Int) % 4294967296) = ((x * 2 ^ s % 4294967296 + y : Nat) : Int) := by
 have hl := low_part (x := x) hs
 have hp := pow_le hs
 rw [show ((x * 2 ^ s : Nat) : Int) % 4294967296 = ((x * 2 ^ s % 4294967296 : Nat) : Int) from by omega, bits_or_u32_nat _ _ (by omega) (by omega), Nat.or_comm, or_parts hl.1 hy]
theorem lm_set2 {o : List Int} {i r r2 : Nat} (h : i + 1 < o.length) : lm ((o.set i (r : Int)).set (i + 1) (r2 : Int)) (i + 1) = r2 := lm_set_self (by rw [List.length_set]; exact h)
theorem rshl_step {o : List Int} {i x s y r M : Nat} (hi : i + 1 < o.length) (hy : y = lm o i) (hz : lm o (i + 1) = 0) (hr : r = x * 2 ^ s % 4294967296 + y) (h : val o = M) :
  val ((o.set i (r : Int)).set (i + 1) ((x * 2 ^ s / 4294967296 : Nat) : Int)) = M + pw i * (x * 2 ^ s) := by
 have h1 := val_set o i r (by omega)
 have h2 := val_set (o.set i (r : Int)) (i + 1) (x * 2 ^ s / 4294967296) (by rw [List.length_set]; exact hi)
 rw [lm_set_ne (by omega), hz, Nat.mul_zero, Nat.add_zero] at h2
 rw [h2, pw_succ]
 rw [← hy, h] at h1
 have h4 : pw i * r = pw i * (x * 2 ^ s % 4294967296) + pw i * y := by rw [hr, Nat.mul_add]
 have h3 : pw i * (x * 2 ^ s % 4294967296) + 4294967296 * pw i * (x * 2 ^ s / 4294967296) = pw i * (x * 2 ^ s) := by
  rw [Nat.mul_comm 4294967296, Nat.mul_assoc, ← Nat.mul_add, Nat.mod_add_div]
 omega
theorem rshl_w (A0 : Option Addr) (c0 : Nat) (l0 : List Int) (q s : Nat) (w : World) (hr0 : CU w A0 l0.length l0) (hL0 : Lim l0) (hl0 : l0.length < 1000000) (hp : 0 < l0.length) (hs : s < 32) (hq : q < 32768) :
  Calls Tryz.prog 93 #[.slice A0 l0.length c0, .int .i64 ((32 * q + s : Nat) : Int)] w (NumPost w (val l0 * 2 ^ (32 * q + s))) := by
 have HR0 := Aside0.mk hr0
 clear hr0
 have hk0 : (0 : Int) ≤ ((32 * q + s : Nat) : Int) := by omega
 have hk1 : ((32 * q + s : Nat) : Int) ≤ 1048576 := by omega
 have hdiv : ((32 * q + s : Nat) : Int) / 32 = (q : Int) := by omega
 have hmod : ((32 * q + s : Nat) : Int) % 32 = (s : Int) := by omega
 generalize hK : ((32 * q + s : Nat) : Int) = K at hk0 hk1 hdiv hmod ⊢
 clear hK
 have hmk : ∀ W : World, (Instr.makeSlice 25 (.int .i64 ((l0.length : Int) + (q : Int) + 1)) (.int .i64 ((l0.length : Int) + (q : Int) + 1))).run Tryz.prog W = .ok (.slice (some ⟨W.heap.size, 0, none⟩) (l0.length + q + 1) (l0.length + q + 1)) (W.alloc (.cells (madeCells #[.int .u32 0] (l0.length + q + 1)) 94)) := fun W => make_u (l0.length + q + 1) (by omega) W
 have HM := Aside0.mk (RU_made w (l0.length + q + 1) (by omega))
 have hb1 : ((l0.length : Int) == 0) = false := by rw [beq_eq_false_iff_ne]; omega
 have hb2 : (l0.length == 0) = false := by rw [beq_eq_false_iff_ne]; omega
 have hb3 : ¬ (l0 = []) := by intro h; rw [h] at hp; exact absurd hp Z5
 have hd1 : decide (K < 0) = false := decide_eq_false (by omega)
 have hd2 : decide (1048576 < K) = false := decide_eq_false (by omega)
 go_enter Tryz.func93, Tryz.ntmps93
 go_wp2_with fail
 (try rw [hdiv]); (try rw [hmod])
 clear hdiv hmod hb1 hb2 hb3 hd1 hd2
 go_loopw [8] (fun ii wr => ∃ (i : Nat) (o : List Int), i ≤ l0.length ∧ ii = .int .i64 (i : Int) ∧ Aside0 (o.length = l0.length + q + 1 ∧ Lim o ∧ val o = pw q * 2 ^ s * val (l0.take i) ∧ (∀ j, i + q < j → lm o j = 0) ∧ lm o (i + q) < 2 ^ s ∧ RU wr w.heap.size (.slice (some ⟨w.heap.size, 0, none⟩) (l0.length + q + 1) (l0.length + q + 1)) o) ∧ Aside0 (Below w.heap.size w wr)) (fun ii _ => l0.length - (intOf ii).toNat)
 case atStart => exact ⟨0, List.replicate (l0.length + q + 1) 0, Nat.zero_le _, rfl, ⟨by simp, Lim.replicate _, by rw [val_replicate]; simp [val], fun j _ => lm_replicate _ j, by rw [lm_replicate]; exact two_pos s, HM.out⟩, ⟨below_alloc (Below.refl _ _) _⟩⟩
 case round =>
  obtain ⟨i, o, hi, rfl, HO, HB⟩ := hrel
  by_cases hiN : i < l0.length
  ·obtain ⟨hc1, hc2⟩ := RU_at HO.out.2.2.2.2.2 HO.out.1 (i + q) (by omega)
   obtain ⟨hc3, hc4⟩ := RU_at HO.out.2.2.2.2.2 HO.out.1 (i + q + 1) (by omega)
   obtain ⟨ad, e, hcell⟩ := CU_at (CU_below HR0.out HB.out) i hiN
   subst e
   rw [lm_cast hL0] at hcell
   rw [lm_cast HO.out.2.1] at hc1
   have hx := lm_lt hL0 i
   have hy := lm_lt HO.out.2.1 (i + q)
   have hy2 := HO.out.2.2.2.2.1
   obtain ⟨x, hxe⟩ : ∃ x, x = lm l0 i := ⟨_, rfl⟩
   obtain ⟨y, hye⟩ : ∃ y, y = lm o (i + q) := ⟨_, rfl⟩
   rw [← hxe] at hcell hx
   rw [← hye] at hc1 hy hy2
   have hw1 := wrap64_pow hx hs
   have hor := or_limb (x := x) hy2 hs
   have hpl := pow_le hs
   have hXb : x * 2 ^ s < 18446744073709551616 := by
    have : x * 2 ^ s ≤ 4294967295 * 2147483648 := Nat.mul_le_mul (by omega) hpl
    omega
   have hrl := low_part (x := x) hs
   have hrl2 : x * 2 ^ s % 4294967296 + y < 4294967296 := by omega
   have hhi : x * 2 ^ s / 4294967296 < 2 ^ s := high_part hx
   obtain ⟨r, hr⟩ : ∃ r, r = x * 2 ^ s % 4294967296 + y := ⟨_, rfl⟩
   rw [← hr] at hor hrl2
   obtain ⟨h, hh⟩ : ∃ h, h = x * 2 ^ s / 4294967296 := ⟨_, rfl⟩
   rw [← hh] at hhi
   obtain ⟨X, hX⟩ : ∃ X, X = x * 2 ^ s := ⟨_, rfl⟩
   rw [← hX] at hw1 hor hXb hh
   have HXE := Aside0.mk hxe
   have HYE := Aside0.mk hye
   have HRE := Aside0.mk hr
   have HHE := Aside0.mk (show h = x * 2 ^ s / 4294967296 by rw [← hX]; exact hh)
   have HHI := Aside0.mk hhi
   have hhc : (X : Int) / 4294967296 = (h : Int) := by omega
   have hhl : h < 4294967296 := by omega
   clear hxe hye hr hX hrl hpl hh hhi hy2
   go_wp2_with fail
   go_roundw
   case rel => exact ⟨i + 1, (o.set (i + q) (r : Int)).set (i + q + 1) (h : Int), by omega, by go_num, ⟨by rw [List.length_set, List.length_set]; exact HO.out.1, (HO.out.2.1.set (i + q) (by omega) (by omega)).set (i + q + 1) (by omega) (by omega), by
    rw [HHE.out, rshl_step Z45 HYE.out (HO.out.2.2.2.1 _ (by omega)) HRE.out HO.out.2.2.1, val_take_succ, ← HXE.out, Nat.mul_add, pw_add]
    congr 1
    rw [Nat.mul_comm (pw i), Nat.mul_assoc, Nat.mul_assoc, Nat.mul_left_comm (2 ^ s), Nat.mul_comm (2 ^ s) x], fun j hj => by rw [lm_set_ne (by omega), lm_set_ne (by omega)]; exact HO.out.2.2.2.1 j (by omega), by rw [show i + 1 + q = i + q + 1 from by omega, lm_set2 Z45]; exact HHI.out, RU_set (RU_set HO.out.2.2.2.2.2 HO.out.1 (i + q) (r : Int)) (by rw [List.length_set]; exact HO.out.1) (i + q + 1) (h : Int)⟩, ⟨below_set (below_set HB.out (Nat.le_refl _) _ _) (Nat.le_refl _) _ _⟩⟩
   case measure => simp [intOf]; omega
  ·have hk2 : i = l0.length := by omega
   subst hk2
   have HC := trim_own HO.out.2.2.2.2.2 HO.out.1 HO.out.2.1 (by omega) HB.out
   have HC := Aside0.mk HC
   have hv : val o = val l0 * 2 ^ (32 * q + s) := by
    have h := HO.out.2.2.1
    rw [List.take_of_length_le (Nat.le_refl _)] at h
    rw [Nat.pow_add, ← pw_two, Nat.mul_comm (val l0)]
    exact h
   have HV := Aside0.mk hv
   clear hv
   go_wp2_with fail
   refine HC.out.mono ?_
   rintro e w1 ⟨v, rfl, hR1, hB1⟩
   have HR2 := Aside0.mk hR1
   have HB2 := Aside0.mk hB1
   clear hR1 hB1
   go_wp2_with fail
   go_ret
   exact Z54
theorem rshl_out (A0 : Option Addr) (c0 : Nat) (l0 : List Int) (K : Int) (w : World) (hr0 : CU w A0 l0.length l0) (hc : l0.length ≤ c0) (hL0 : Lim l0) (hl0 : l0.length < 1000000) (hK : K < 0 ∨ 1048576 < K ∨ l0 = []) :
  Calls Tryz.prog 93 #[.slice A0 l0.length c0, .int .i64 K] w (NumPost w (val l0)) := by
 have HC := Aside0.mk (trim_w A0 c0 l0 w hr0 hc (by omega))
 clear hr0
 by_cases h1 : K < 0
 ·go_enter Tryz.func93, Tryz.ntmps93
  go_wp2_with fail
  refine HC.out.mono ?_
  rintro e w1 ⟨v, rfl, hR1, hB1⟩
  have HR2 := Aside0.mk hR1
  have HB2 := Aside0.mk hB1
  clear hR1 hB1
  go_wp2_with fail
  go_ret
  exact Z62
 ·by_cases h2 : 1048576 < K
  ·go_enter Tryz.func93, Tryz.ntmps93
   go_wp2_with fail
   refine HC.out.mono ?_
   rintro e w1 ⟨v, rfl, hR1, hB1⟩
   have HR2 := Aside0.mk hR1
   have HB2 := Aside0.mk hB1
   clear hR1 hB1
   go_wp2_with fail
   go_ret
   exact Z62
  ·have h3 : l0 = [] := by
    rcases hK with h | h | h
    ·exact absurd h h1
    ·exact absurd h h2
    ·exact h
   subst h3
   rw [List.length_nil] at HC ⊢
   go_enter Tryz.func93, Tryz.ntmps93
   go_wp2_with fail
   refine HC.out.mono ?_
   rintro e w1 ⟨v, rfl, hR1, hB1⟩
   have HR2 := Aside0.mk hR1
   have HB2 := Aside0.mk hB1
   clear hR1 hB1
   go_wp2_with fail
   go_ret
   exact Z62
theorem val_two (v : Nat) (hv : v < 18446744073709551616) : val [((v % 4294967296 : Nat) : Int), ((v / 4294967296 : Nat) : Int)] = v := by
 simp only [val]
 omega
theorem lim_two (v : Nat) (hv : v < 18446744073709551616) : Lim [((v % 4294967296 : Nat) : Int), ((v / 4294967296 : Nat) : Int)] :=
 Lim.cons (by omega) (by omega) (Lim.cons (by omega) (by omega) Lim.nil)
theorem RU_two (w : World) (a b : Int) : RU (w.alloc (.cells #[.int .u32 a, .int .u32 b] 94)) w.heap.size (.slice (some ⟨w.heap.size, 0, none⟩) 2 2) [a, b] := by
 have h := own_lit w w.heap.size 94 .u32 [a, b] (Nat.le_refl _) Z33
 exact RU_own h
theorem of_w (v : Nat) (w : World) (hv : v < 18446744073709551616) : Calls Tryz.prog 25 #[.int .u64 (v : Int)] w (NumPost w v) := by
 obtain ⟨a, ha⟩ : ∃ a, a = v % 4294967296 := ⟨_, rfl⟩
 obtain ⟨b, hb⟩ : ∃ b, b = v / 4294967296 := ⟨_, rfl⟩
 have hE : val [(a : Int), (b : Int)] = v := by rw [ha, hb]; exact val_two v hv
 have hLm : Lim [(a : Int), (b : Int)] := by rw [ha, hb]; exact lim_two v hv
 have HC := Aside0.mk (cut_own (RU_two w (a : Int) (b : Int)) rfl hLm (by omega) (below_alloc (Below.refl _ _) _))
 have HV := Aside0.mk hE
 have h1 : (v : Int) % 4294967296 = (a : Int) := by omega
 have h2 : (v : Int) / 4294967296 = (b : Int) := by omega
 have h3 : b < 4294967296 := by omega
 clear ha hb hE hv hLm
 go_enter Tryz.func25, Tryz.ntmps25
 go_wp2_with fail
 refine HC.out.mono ?_
 rintro e w1 ⟨v1, rfl, hR1, hB1⟩
 have HR2 := Aside0.mk hR1
 have HB2 := Aside0.mk hB1
 clear hR1 hB1
 go_wp2_with fail
 go_ret
 exact ⟨_, rfl, by have := HR2.out; rwa [HV.out] at this, HB2.out⟩
theorem rof_w (v : Nat) (w : World) (hv : v < 18446744073709551616) : Calls Tryz.prog 51 #[.int .u64 (v : Int)] w (NumPost w v) := by
 obtain ⟨a, ha⟩ : ∃ a, a = v % 4294967296 := ⟨_, rfl⟩
 obtain ⟨b, hb⟩ : ∃ b, b = v / 4294967296 := ⟨_, rfl⟩
 have hE : val [(a : Int), (b : Int)] = v := by rw [ha, hb]; exact val_two v hv
 have hLm : Lim [(a : Int), (b : Int)] := by rw [ha, hb]; exact lim_two v hv
 have HC := Aside0.mk (trim_own (RU_two w (a : Int) (b : Int)) rfl hLm (by omega) (below_alloc (Below.refl _ _) _))
 have HV := Aside0.mk hE
 have h1 : (v : Int) % 4294967296 = (a : Int) := by omega
 have h2 : (v : Int) / 4294967296 = (b : Int) := by omega
 have h3 : b < 4294967296 := by omega
 clear ha hb hE hv hLm
 go_enter Tryz.func51, Tryz.ntmps51
 go_wp2_with fail
 refine HC.out.mono ?_
 rintro e w1 ⟨v1, rfl, hR1, hB1⟩
 have HR2 := Aside0.mk hR1
 have HB2 := Aside0.mk hB1
 clear hR1 hB1
 go_wp2_with fail
 go_ret
 exact ⟨_, rfl, by have := HR2.out; rwa [HV.out] at this, HB2.out⟩
def rightB (l : List Int) : Bool := l.isEmpty || l.getD (l.length - 1) 0 != 0
theorem rightB_norm {l : List Int} (h : Norm l) : rightB l = true := by
 unfold rightB
 cases l with
 | nil => rfl
 | cons x xs =>
  unfold Norm at h
  have : (x :: xs).getD ((x :: xs).length - 1) 1 = (x :: xs).getD ((x :: xs).length - 1) 0 := by
   rw [List.getD_eq_getElem?_getD, List.getD_eq_getElem?_getD, List.getElem?_eq_getElem Z33]
   rfl
  rw [this] at h
  rw [bne_iff_ne.2 h, Bool.or_true]
theorem right_w (A : Option Addr) (c : Nat) (l : List Int) (w : World) (hr : CU w A l.length l) : Calls Tryz.prog 128 #[.slice A l.length c] w fun e w' => e = .returned (.bool (rightB l)) ∧ w = w' := by
 have HR := Aside0.mk hr
 have hm : l.length ≤ 9223372036854775807 := hr.2.1
 clear hr
 rcases Nat.eq_zero_or_pos l.length with h0 | h0
 ·obtain rfl := List.eq_nil_of_length_eq_zero h0
  rw [List.length_nil] at HR ⊢
  go_enter Tryz.func128, Tryz.ntmps128
  go_wp2_with fail
  go_ret
  exact ⟨rfl, rfl⟩
 ·obtain ⟨ad, e, hcell⟩ := CU_at HR.out (l.length - 1) (by omega)
  subst e
  have hb1 : ((l.length : Int) == 0) = false := by rw [beq_eq_false_iff_ne]; omega
  have hb2 : (l.length == 0) = false := by rw [beq_eq_false_iff_ne]; omega
  have hb3 : ¬ (l = []) := by intro h; rw [h] at h0; exact absurd h0 Z5
  have HRB : (l.getD (l.length - 1) 0 != 0) = rightB l := by
   unfold rightB
   cases l with
   | nil => exact absurd rfl hb3
   | cons x xs => rfl
  have hi : ((l.length : Int) - 1).toNat = l.length - 1 := by omega
  obtain ⟨x, hx⟩ : ∃ x, x = l.getD (l.length - 1) 0 := ⟨_, rfl⟩
  rw [← hx] at hcell HRB
  have HRB := Aside0.mk HRB
  clear hx
  go_enter Tryz.func128, Tryz.ntmps128
  go_wp2_with fail
  go_ret
  exact ⟨by rw [← HRB.out]; rfl, rfl⟩
def Nu (w : World) (v : Value) (n : Nat) : Prop := ∃ A c, v = .slice A (digs n).length c ∧ (digs n).length ≤ c ∧ CU w A (digs n).length (digs n)
theorem Nu.below {w w1 : World} {v : Value} {n : Nat} (h : Nu w v n) (hb : Below w.heap.size w w1) : Nu w1 v n := by
 obtain ⟨A, c, e, hc, hC⟩ := h
 exact ⟨A, c, e, hc, CU_below hC hb⟩
theorem Nu_of_RU {w : World} {base : Nat} {v : Value} {n : Nat} (h : RU w base v (digs n)) : Nu w v n := RU_slice h
theorem Nu_nil (w : World) : Nu w (.slice none 0 0) 0 := by
 refine ⟨none, 0, ?_, ?_, ?_⟩
 ·rw [digs_zero]; rfl
 ·rw [digs_zero]; exact Nat.le_refl _
 ·rw [digs_zero]
  exact reads_CU ⟨rfl, by simp, fun h => absurd h Z33⟩
theorem small_len {n : Nat} (h : n < pw 1000) : (digs n).length < 1000000 := by have := digs_length_le h; omega
def NuPost (w : World) (n : Nat) (e : Ending) (w' : World) : Prop := ∃ v, e = .returned v ∧ Nu w' v n ∧ Below w.heap.size w w'
theorem NuPost_of {w : World} {n : Nat} (e : Ending) (w' : World) (h : NumPost w n e w') : NuPost w n e w' := by
 obtain ⟨v, he, hR, hB⟩ := h
 exact ⟨v, he, Nu_of_RU hR, hB⟩
theorem addN {w : World} {vx vy : Value} {x y : Nat} (hx : Nu w vx x) (hy : Nu w vy y) (bx : x < pw 1000) (by_ : y < pw 1000) : Calls Tryz.prog 112 #[vx, vy] w (NuPost w (x + y)) := by
 obtain ⟨A0, c0, rfl, h0, C0⟩ := hx
 obtain ⟨A1, c1, rfl, h1, C1⟩ := hy
 have h := add_w A0 A1 c0 c1 (digs x) (digs y) w C0 C1 (lim_digs x) (lim_digs y) (small_len bx) (small_len by_)
 rw [val_digs, val_digs] at h
 exact h.mono NuPost_of
theorem mulN {w : World} {vx vy : Value} {x y : Nat} (hx : Nu w vx x) (hy : Nu w vy y) (bx : x < pw 1000) (by_ : y < pw 1000) : Calls Tryz.prog 92 #[vx, vy] w (NuPost w (x * y)) := by
 obtain ⟨A0, c0, rfl, h0, C0⟩ := hx
 obtain ⟨A1, c1, rfl, h1, C1⟩ := hy
 have h := mul_w A0 A1 c0 c1 (digs x) (digs y) w C0 C1 (lim_digs x) (lim_digs y) (small_len bx) (small_len by_)
 rw [val_digs, val_digs] at h
 exact h.mono NuPost_of
def NuPost2 (w : World) (n : Nat) (k : Int) (e : Ending) (w' : World) : Prop := ∃ v, e = .returned (.tuple #[v, .int .i64 k]) ∧ Nu w' v n ∧ Below w.heap.size w w'
theorem NuPost2_of {w : World} {a b : Nat} (e : Ending) (w' : World) (h : SubPost w a b e w') : NuPost2 w (a - b) (if a < b then 1 else 0) e w' := by
 obtain ⟨v, he, hR, hB⟩ := h
 exact ⟨v, he, Nu_of_RU hR, hB⟩
theorem subN {w : World} {vx vy : Value} {x y : Nat} (hx : Nu w vx x) (hy : Nu w vy y) (bx : x < pw 1000) (by_ : y < pw 1000) : Calls Tryz.prog 119 #[vx, vy] w (NuPost2 w (x - y) (if x < y then 1 else 0)) := by
 obtain ⟨A0, c0, rfl, h0, C0⟩ := hx
 obtain ⟨A1, c1, rfl, h1, C1⟩ := hy
 have h := sub_w A0 A1 c0 c1 (digs x) (digs y) w C0 C1 (lim_digs x) (lim_digs y) (norm_digs x) (norm_digs y) (small_len bx) (small_len by_)
 rw [val_digs, val_digs] at h
 exact h.mono NuPost2_of
theorem cmpN {w : World} {vx vy : Value} {x y : Nat} (hx : Nu w vx x) (hy : Nu w vy y) (bx : x < pw 1000) (by_ : y < pw 1000) : Calls Tryz.prog 27 #[vx, vy] w (IntPost w (cmpZ x y)) := by
 obtain ⟨A0, c0, rfl, h0, C0⟩ := hx
 obtain ⟨A1, c1, rfl, h1, C1⟩ := hy
 have h := cmp_w A0 A1 c0 c1 (digs x) (digs y) w C0 C1 (lim_digs x) (lim_digs y) (norm_digs x) (norm_digs y) (small_len bx) (small_len by_)
 rwa [val_digs, val_digs] at h
theorem rcmpN {w : World} {vx vy : Value} {x y : Nat} (hx : Nu w vx x) (hy : Nu w vy y) (bx : x < pw 1000) (by_ : y < pw 1000) : Calls Tryz.prog 95 #[vx, vy] w (IntPost w (cmpZ x y)) := by
 obtain ⟨A0, c0, rfl, h0, C0⟩ := hx
 obtain ⟨A1, c1, rfl, h1, C1⟩ := hy
 have h := rcmp_w A0 A1 c0 c1 (digs x) (digs y) w C0 C1 (lim_digs x) (lim_digs y) (norm_digs x) (norm_digs y) (small_len bx) (small_len by_)
 rwa [val_digs, val_digs] at h
def TruePost (w : World) (e : Ending) (w' : World) : Prop := e = .returned (.bool true) ∧ Below w.heap.size w w'
theorem ofN {w : World} (v : Nat) (hv : v < 18446744073709551616) : Calls Tryz.prog 25 #[.int .u64 (v : Int)] w (NuPost w v) := (of_w v w hv).mono NuPost_of
theorem rofN {w : World} (v : Nat) (hv : v < 18446744073709551616) : Calls Tryz.prog 51 #[.int .u64 (v : Int)] w (NuPost w v) := (rof_w v w hv).mono NuPost_of
theorem shlN {w : World} {vx : Value} {x : Nat} (hx : Nu w vx x) (bx : x < pw 1000) (k : Nat) (hk : k < 1048576) : Calls Tryz.prog 56 #[vx, .int .i64 (k : Int)] w (NuPost w (x * 2 ^ k)) := by
 obtain ⟨A0, c0, rfl, h0, C0⟩ := hx
 have h := shl_w A0 c0 (digs x) (k / 32) (k % 32) w C0 (lim_digs x) (small_len bx) (Nat.mod_lt _ Z5) (by omega)
 rw [val_digs, show 32 * (k / 32) + k % 32 = k from by omega] at h
 exact h.mono NuPost_of
theorem shrN {w : World} {vx : Value} {x : Nat} (hx : Nu w vx x) (bx : x < pw 1000) (k : Nat) (hk : k < 1048576) : Calls Tryz.prog 118 #[vx, .int .i64 (k : Int)] w (NuPost w (x / 2 ^ k)) := by
 obtain ⟨A0, c0, rfl, h0, C0⟩ := hx
 have h := shr_w A0 c0 (digs x) (k / 32) (k % 32) w C0 (lim_digs x) (small_len bx) (Nat.mod_lt _ Z5) (by omega)
 rw [val_digs, show 32 * (k / 32) + k % 32 = k from by omega] at h
 exact h.mono NuPost_of
theorem rshlN {w : World} {vx : Value} {x : Nat} (hx : Nu w vx x) (bx : x < pw 1000) (k : Nat) (hk : k < 1048576) : Calls Tryz.prog 93 #[vx, .int .i64 (k : Int)] w (NuPost w (x * 2 ^ k)) := by
 obtain ⟨A0, c0, rfl, h0, C0⟩ := hx
 by_cases hz : x = 0
 ·subst hz
  have h := rshl_out A0 c0 (digs 0) (k : Int) w C0 h0 (lim_digs 0) (small_len bx) (.inr (.inr digs_zero))
  rw [val_digs] at h
  rw [Nat.zero_mul]
  exact h.mono NuPost_of
 ·have h := rshl_w A0 c0 (digs x) (k / 32) (k % 32) w C0 (lim_digs x) (small_len bx) (by rw [digs_pos hz]; simp) (Nat.mod_lt _ Z5) (by omega)
  rw [val_digs, show 32 * (k / 32) + k % 32 = k from by omega] at h
  exact h.mono NuPost_of
def mk (l : List Int) (m : Nat) : Nat := val (l.take m)
end Go.Proofs.YtpegcppeobndcaaGreatDoor.G
