/- Natural numbers as limbs of 32 bits: plain arithmetic, no Go in it. -/
namespace Go.Proofs.YtklhpobphloehaaDoor.Nn

/-- B^k, B = 2^32. -/
def pw (k : Nat) : Nat := 4294967296 ^ k
theorem pw_zero : pw 0 = 1 := rfl
theorem pw_succ (k : Nat) : pw (k + 1) = 4294967296 * pw k := by unfold pw; rw [Nat.pow_succ, Nat.mul_comm]
theorem pw_add (a b : Nat) : pw (a + b) = pw a * pw b := by unfold pw; rw [Nat.pow_add]
theorem pw_pos (k : Nat) : 0 < pw k := Nat.pow_pos (by decide)
theorem pw_le {a b : Nat} (h : a ≤ b) : pw a ≤ pw b := Nat.pow_le_pow_right (by decide) h
theorem pw_lt {a b : Nat} (h : a < b) : pw a < pw b := Nat.pow_lt_pow_right (by decide) h
theorem pw_two (k : Nat) : pw k = 2 ^ (32 * k) := by unfold pw; rw [Nat.pow_mul]

/-- What limbs are worth. -/
def val : List Int → Nat
  | [] => 0
  | x :: xs => x.toNat + 4294967296 * val xs
def Lim (l : List Int) : Prop := ∀ x ∈ l, 0 ≤ x ∧ x < 4294967296
theorem Lim.nil : Lim [] := fun _ h => by cases h
theorem Lim.cons {x : Int} {l : List Int} (h0 : 0 ≤ x) (h1 : x < 4294967296) (h : Lim l) : Lim (x :: l) := by
  intro y hy
  rcases List.mem_cons.1 hy with rfl | hy
  · exact ⟨h0, h1⟩
  · exact h y hy
theorem Lim.tail {x : Int} {l : List Int} (h : Lim (x :: l)) : Lim l := fun y hy => h y (List.mem_cons_of_mem _ hy)
theorem Lim.head {x : Int} {l : List Int} (h : Lim (x :: l)) : 0 ≤ x ∧ x < 4294967296 := h x (List.mem_cons_self ..)
theorem Lim.append {a b : List Int} (ha : Lim a) (hb : Lim b) : Lim (a ++ b) := by
  intro x hx
  rcases List.mem_append.1 hx with h | h
  · exact ha x h
  · exact hb x h
theorem Lim.take {l : List Int} (h : Lim l) (n : Nat) : Lim (l.take n) := fun x hx => h x (List.mem_of_mem_take hx)
theorem Lim.drop {l : List Int} (h : Lim l) (n : Nat) : Lim (l.drop n) := fun x hx => h x (List.mem_of_mem_drop hx)
theorem Lim.set {l : List Int} (h : Lim l) (n : Nat) {v : Int} (h0 : 0 ≤ v) (h1 : v < 4294967296) : Lim (l.set n v) := by
  intro x hx
  rcases List.mem_or_eq_of_mem_set hx with h' | rfl
  · exact h x h'
  · exact ⟨h0, h1⟩
theorem Lim.replicate (n : Nat) : Lim (List.replicate n 0) := by
  intro x hx
  have := (List.mem_replicate.1 hx).2
  subst this
  exact ⟨by decide, by decide⟩
theorem Lim.getD {l : List Int} (h : Lim l) (i : Nat) : 0 ≤ l.getD i 0 ∧ l.getD i 0 < 4294967296 := by
  rw [List.getD_eq_getElem?_getD]
  by_cases hi : i < l.length
  · rw [List.getElem?_eq_getElem hi]
    exact h _ (List.getElem_mem hi)
  · rw [List.getElem?_eq_none (by omega)]
    exact ⟨by decide, by decide⟩

theorem val_append (a b : List Int) : val (a ++ b) = val a + pw a.length * val b := by
  induction a with
  | nil => simp [val, pw_zero]
  | cons x xs ih => simp only [List.cons_append, val, ih, List.length_cons, pw_succ]; rw [Nat.mul_add, Nat.mul_assoc]; omega
theorem val_lt {l : List Int} (h : Lim l) : val l < pw l.length := by
  induction l with
  | nil => simp [val, pw_zero]
  | cons x xs ih =>
    have h1 := ih h.tail
    have h2 := h.head
    simp only [val, List.length_cons, pw_succ]
    omega
theorem val_replicate (n : Nat) : val (List.replicate n 0) = 0 := by
  induction n with
  | zero => rfl
  | succ n ih => simp [List.replicate_succ, val, ih]
theorem val_take_drop (l : List Int) (k : Nat) : val l = val (l.take k) + pw (min k l.length) * val (l.drop k) := by
  conv => lhs; rw [← List.take_append_drop k l]
  rw [val_append, List.length_take]
theorem val_take {l : List Int} (h : Lim l) (k : Nat) : val (l.take k) = val l % pw k := by
  by_cases hk : k ≤ l.length
  · have e := val_take_drop l k
    rw [Nat.min_eq_left hk] at e
    have hl := val_lt (h.take k)
    rw [List.length_take, Nat.min_eq_left hk] at hl
    rw [e, Nat.add_mul_mod_self_left, Nat.mod_eq_of_lt hl]
  · rw [List.take_of_length_le (by omega), Nat.mod_eq_of_lt]
    exact Nat.lt_of_lt_of_le (val_lt h) (pw_le (by omega))
theorem val_drop {l : List Int} (h : Lim l) (k : Nat) : val (l.drop k) = val l / pw k := by
  by_cases hk : k ≤ l.length
  · have e := val_take_drop l k
    rw [Nat.min_eq_left hk] at e
    have hl := val_lt (h.take k)
    rw [List.length_take, Nat.min_eq_left hk] at hl
    rw [e, Nat.add_mul_div_left _ _ (pw_pos k), Nat.div_eq_of_lt hl, Nat.zero_add]
  · rw [List.drop_of_length_le (by omega), Nat.div_eq_of_lt]
    · rfl
    · exact Nat.lt_of_lt_of_le (val_lt h) (pw_le (by omega))
/-- The limb at a place. -/
theorem val_at {l : List Int} (h : Lim l) (i : Nat) : ((val l / pw i % 4294967296 : Nat) : Int) = l.getD i 0 := by
  rw [← val_drop h]
  by_cases hi : i < l.length
  · rw [List.drop_eq_getElem_cons hi, List.getD_eq_getElem?_getD, List.getElem?_eq_getElem hi]
    have := h _ (List.getElem_mem hi)
    simp only [val, Option.getD_some]
    omega
  · rw [List.drop_of_length_le (by omega), List.getD_eq_getElem?_getD, List.getElem?_eq_none (by omega)]
    rfl
theorem val_succ {l : List Int} (i : Nat) (hi : i < l.length) : val (l.take (i + 1)) = val (l.take i) + pw i * (l.getD i 0).toNat := by
  rw [List.take_succ_eq_append_getElem hi, val_append, List.length_take, Nat.min_eq_left (by omega)]
  simp [val, List.getD_eq_getElem?_getD, List.getElem?_eq_getElem hi]
theorem val_cut {l : List Int} (i : Nat) (hi : i < l.length) : val (l.drop i) = (l.getD i 0).toNat + 4294967296 * val (l.drop (i + 1)) := by
  rw [List.drop_eq_getElem_cons hi]
  simp [val, List.getD_eq_getElem?_getD, List.getElem?_eq_getElem hi]

/-- The limbs of a number. -/
def digs (n : Nat) : List Int := if h : n = 0 then [] else ((n % 4294967296 : Nat) : Int) :: digs (n / 4294967296)
termination_by n
decreasing_by omega
theorem digs_zero : digs 0 = [] := by rw [digs]; simp
theorem digs_pos {n : Nat} (h : n ≠ 0) : digs n = ((n % 4294967296 : Nat) : Int) :: digs (n / 4294967296) := by
  rw [digs]; simp [h]
theorem lim_digs (n : Nat) : Lim (digs n) := by
  induction n using Nat.strongRecOn with
  | ind n ih =>
    by_cases h : n = 0
    · subst h; rw [digs_zero]; exact Lim.nil
    · rw [digs_pos h]; exact Lim.cons (by omega) (by omega) (ih _ (by omega))
theorem val_digs (n : Nat) : val (digs n) = n := by
  induction n using Nat.strongRecOn with
  | ind n ih =>
    by_cases h : n = 0
    · subst h; rw [digs_zero]; rfl
    · rw [digs_pos h, val, ih _ (by omega)]; omega
theorem digs_inj {a b : Nat} (h : digs a = digs b) : a = b := by rw [← val_digs a, ← val_digs b, h]
/-- Without noughts at the end: a number is its limbs. -/
def Norm (l : List Int) : Prop := l.getD (l.length - 1) 1 ≠ 0
theorem norm_nil : Norm [] := by unfold Norm; decide
theorem norm_tail {x : Int} {l : List Int} (h : Norm (x :: l)) : Norm l := by
  unfold Norm at *
  cases l with
  | nil => decide
  | cons y l => simpa using h
theorem val_pos_of_norm {l : List Int} (h : Lim l) (hn : Norm l) (hl : l ≠ []) : 0 < val l := by
  induction l with
  | nil => exact absurd rfl hl
  | cons x xs ih =>
    cases xs with
    | nil =>
      have := h.head
      have h3 : x ≠ 0 := by simpa [Norm] using hn
      simp only [val]
      omega
    | cons y ys =>
      have := ih h.tail (norm_tail hn) (by simp)
      rw [val]
      omega
theorem digs_val {l : List Int} (h : Lim l) (hn : Norm l) : digs (val l) = l := by
  induction l with
  | nil => exact digs_zero
  | cons x xs ih =>
    have hp := val_pos_of_norm h hn (by simp)
    have hx := h.head
    have := ih h.tail (norm_tail hn)
    rw [digs_pos (by omega)]
    simp only [val]
    rw [show (x.toNat + 4294967296 * val xs) % 4294967296 = x.toNat from by omega, show (x.toNat + 4294967296 * val xs) / 4294967296 = val xs from by omega, this]
    congr 1
    omega
theorem norm_digs (n : Nat) : Norm (digs n) := by
  induction n using Nat.strongRecOn with
  | ind n ih =>
    by_cases h : n = 0
    · subst h; rw [digs_zero]; exact norm_nil
    · rw [digs_pos h]
      by_cases h2 : n / 4294967296 = 0
      · rw [h2, digs_zero]
        simp only [Norm]
        simp
        omega
      · have h3 := ih (n / 4294967296) (by omega)
        rw [digs_pos h2] at h3 ⊢
        simpa [Norm] using h3
theorem digs_length_le {n k : Nat} (h : n < pw k) : (digs n).length ≤ k := by
  induction k generalizing n with
  | zero => have : n = 0 := by rw [pw_zero] at h; omega
            subst this; rw [digs_zero]; simp
  | succ k ih =>
    by_cases h0 : n = 0
    · subst h0; rw [digs_zero]; simp
    · rw [digs_pos h0]
      rw [pw_succ] at h
      have := ih (n := n / 4294967296) (Nat.div_lt_of_lt_mul h)
      simpa using this
theorem lt_pw_digs (n : Nat) : n < pw (digs n).length := by
  have := val_lt (lim_digs n)
  rwa [val_digs] at this
theorem pw_le_of_digs {n : Nat} (h : n ≠ 0) : pw ((digs n).length - 1) ≤ n := by
  induction n using Nat.strongRecOn with
  | ind n ih =>
    rw [digs_pos h]
    by_cases h2 : n / 4294967296 = 0
    · rw [h2, digs_zero]; simp [pw_zero]; omega
    · have := ih _ (by omega) h2
      have h3 : (digs (n / 4294967296)).length ≠ 0 := by rw [digs_pos h2]; simp
      simp only [List.length_cons, Nat.add_sub_cancel]
      obtain ⟨m, hm⟩ : ∃ m, (digs (n / 4294967296)).length = m + 1 := ⟨_, (Nat.succ_pred_eq_of_ne_zero h3).symm⟩
      rw [hm] at this ⊢
      simp only [Nat.add_sub_cancel] at this
      rw [pw_succ]
      omega
theorem digs_length_zero {n : Nat} : (digs n).length = 0 ↔ n = 0 := by
  constructor
  · intro h
    have := lt_pw_digs n
    rw [h, pw_zero] at this
    omega
  · rintro rfl; rw [digs_zero]; rfl
theorem digs_length_lt {a b : Nat} (h : (digs a).length < (digs b).length) : a < b := by
  by_cases hb : b = 0
  · subst hb; rw [digs_zero] at h; simp at h
  · exact Nat.lt_of_lt_of_le (lt_pw_digs a) (Nat.le_trans (pw_le (by omega)) (pw_le_of_digs hb))
theorem digs_at (n i : Nat) : (digs n).getD i 0 = ((n / pw i % 4294967296 : Nat) : Int) := by
  rw [← val_at (lim_digs n), val_digs]
/-- Without noughts at the end. -/
def strip : List Int → List Int
  | [] => []
  | x :: xs => if strip xs = [] then (if x = 0 then [] else [x]) else x :: strip xs
theorem strip_take (l : List Int) : ∀ k, k ≤ l.length → (∀ j, k ≤ j → l.getD j 0 = 0) → (k = 0 ∨ l.getD (k - 1) 0 ≠ 0) → strip l = l.take k := by
  induction l with
  | nil => intro k _ _ _; simp [strip]
  | cons x xs ih =>
    intro k hk hz hn
    cases k with
    | zero =>
      have h1 := ih 0 (Nat.zero_le _) (fun j _ => by have := hz (j + 1) (Nat.zero_le _); simpa using this) (.inl rfl)
      have h2 := hz 0 (Nat.zero_le _)
      simp at h1 h2
      simp [strip, h1, h2]
    | succ k =>
      have h1 := ih k (by simpa using hk) (fun j hj => by have := hz (j + 1) (by omega); simpa using this) (by
        cases k with
        | zero => exact .inl rfl
        | succ k => right; rcases hn with hn | hn
                    · omega
                    · simpa using hn)
      have h2 : (x :: xs).getD k 0 ≠ 0 := by rcases hn with hn | hn
                                             · omega
                                             · simpa using hn
      cases k with
      | zero =>
        simp at h1 h2
        simp [strip, h1, h2]
      | succ k =>
        have h3 : xs.getD k 0 ≠ 0 := by simpa using h2
        have h4 : k < xs.length := by
          refine Nat.lt_of_not_le fun h => h3 ?_
          rw [List.getD_eq_getElem?_getD, List.getElem?_eq_none h]; rfl
        have h5 : xs.take (k + 1) ≠ [] := by
          intro h
          have := congrArg List.length h
          rw [List.length_take, List.length_nil] at this
          omega
        rw [strip, h1, if_neg h5]
        rfl
theorem strip_lim {l : List Int} (h : Lim l) : Lim (strip l) := by
  induction l with
  | nil => exact h
  | cons x xs ih =>
    rw [strip]
    split
    · split
      · exact Lim.nil
      · exact Lim.cons h.head.1 h.head.2 Lim.nil
    · exact Lim.cons h.head.1 h.head.2 (ih h.tail)
theorem strip_val (l : List Int) : val (strip l) = val l := by
  induction l with
  | nil => rfl
  | cons x xs ih =>
    rw [strip]
    split
    · rename_i h
      rw [h] at ih
      simp only [val] at ih
      split
      · rename_i h0; subst h0; simp [val, ← ih]
      · simp [val, ← ih]
    · simp [val, ih]
theorem strip_norm (l : List Int) : Norm (strip l) := by
  induction l with
  | nil => exact norm_nil
  | cons x xs ih =>
    rw [strip]
    split
    · split
      · exact norm_nil
      · rename_i h; simpa [Norm] using h
    · rename_i h
      cases hs : strip xs with
      | nil => exact absurd hs h
      | cons y ys => rw [hs] at ih; simpa [Norm] using ih
theorem strip_eq {l : List Int} (h : Lim l) : strip l = digs (val l) := by
  rw [← strip_val l, digs_val (strip_lim h) (strip_norm l)]
theorem strip_length (l : List Int) : (strip l).length ≤ l.length := by
  induction l with
  | nil => exact Nat.le_refl _
  | cons x xs ih =>
    rw [strip]
    split
    · split <;> simp
    · simpa using ih
/-- A limb as a natural number; nought behind the end. -/
def lm (l : List Int) (i : Nat) : Nat := (l.getD i 0).toNat
theorem lm_cast {l : List Int} (h : Lim l) (i : Nat) : l.getD i 0 = (lm l i : Int) := by have := h.getD i; unfold lm; omega
theorem lm_lt {l : List Int} (h : Lim l) (i : Nat) : lm l i < 4294967296 := by have := h.getD i; unfold lm; omega
theorem lm_out {l : List Int} (i : Nat) (h : l.length ≤ i) : lm l i = 0 := by unfold lm; rw [List.getD_eq_getElem?_getD, List.getElem?_eq_none h]; rfl
theorem val_take_succ (l : List Int) (i : Nat) : val (l.take (i + 1)) = val (l.take i) + pw i * lm l i := by
  rcases Nat.lt_or_ge i l.length with h | h
  · exact val_succ i h
  · rw [lm_out i h, List.take_of_length_le h, List.take_of_length_le (by omega)]; rfl
theorem val_split (l : List Int) (i : Nat) : val l = val (l.take i) + pw i * val (l.drop i) := by
  rcases Nat.lt_or_ge i l.length with h | h
  · have := val_take_drop l i
    rwa [Nat.min_eq_left (by omega)] at this
  · rw [List.take_of_length_le h, List.drop_of_length_le h]; simp [val]
theorem val_drop_at (l : List Int) (i : Nat) : val (l.drop i) = lm l i + 4294967296 * val (l.drop (i + 1)) := by
  rcases Nat.lt_or_ge i l.length with h | h
  · exact val_cut i h
  · rw [lm_out i h, List.drop_of_length_le h, List.drop_of_length_le (by omega)]; rfl
/-- Of two numbers as long as one another the highest limb that parts them decides. -/
theorem lt_at {a b : List Int} (ha : Lim a) (i : Nat) (hd : val (a.drop (i + 1)) = val (b.drop (i + 1))) (hi : i < a.length) (h : lm a i < lm b i) : val a < val b := by
  rw [val_split a i, val_split b i, val_drop_at a i, val_drop_at b i, hd]
  have h1 := val_lt (ha.take i)
  rw [List.length_take, Nat.min_eq_left (by omega)] at h1
  have h2 : pw i * (lm a i + 1) ≤ pw i * lm b i := Nat.mul_le_mul_left _ h
  rw [Nat.mul_add] at h2
  rw [Nat.mul_add, Nat.mul_add]
  omega
theorem norm_long {a b : List Int} (ha : Lim a) (hb : Lim b) (hn : Norm b) (h : a.length < b.length) : val a < val b := by
  rw [← digs_val hb hn] at h
  have h1 := val_lt ha
  have h2 := pw_le_of_digs (n := val b) (by
    intro e
    rw [e, digs_zero] at h
    simp at h)
  exact Nat.lt_of_lt_of_le h1 (Nat.le_trans (pw_le (by omega)) h2)
theorem val_inj {a b : List Int} (ha : Lim a) (hb : Lim b) (hna : Norm a) (hnb : Norm b) (h : val a = val b) : a = b := by
  rw [← digs_val ha hna, ← digs_val hb hnb, h]
/-- Less, the same, greater. -/
def cmpZ (x y : Nat) : Int := if x < y then -1 else if x = y then 0 else 1
theorem cmpZ_lt {x y : Nat} (h : x < y) : cmpZ x y = -1 := by unfold cmpZ; rw [if_pos h]
theorem cmpZ_eq {x y : Nat} (h : x = y) : cmpZ x y = 0 := by unfold cmpZ; rw [if_neg (by omega), if_pos h]
theorem cmpZ_gt {x y : Nat} (h : y < x) : cmpZ x y = 1 := by unfold cmpZ; rw [if_neg (by omega), if_neg (by omega)]
end Go.Proofs.YtklhpobphloehaaDoor.Nn
