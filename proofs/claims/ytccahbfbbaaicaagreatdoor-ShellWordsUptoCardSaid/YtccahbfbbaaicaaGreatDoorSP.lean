/- Words and quotes: plain lists: the small texts of this part, one behind another. -/
import Derived.Test.YtccahbfbbaaicaaGreatDoorS4
/- Words of a line, and bytes that are quoted: plain lists of bytes. -/
namespace Go.Proofs.YtccahbfbbaaicaaGreatDoor.Nn
def isBl (c : UInt8) : Bool := c == 32 || c == 9
def hexV (c : UInt8) : Nat := if 48 ≤ c.toNat ∧ c.toNat ≤ 57 then c.toNat - 48 else if 97 ≤ c.toNat ∧ c.toNat ≤ 102 then c.toNat - 87 else 16
def escS : List UInt8 → Option (UInt8 × Nat)
 | [] => none
 | c :: t => if c ≠ 92 then some (c, 1) else match t with
  | [] => none
  | d :: t2 => if d = 92 ∨ d = 34 then some (d, 2) else if d = 110 then some (10, 2) else if d = 116 then some (9, 2) else if d = 120 then
    match t2 with
    | a :: b :: _ => if hexV a < 16 ∧ hexV b < 16 then some (UInt8.ofNat (16 * hexV a + hexV b), 4) else none
    | _ => none
   else none
theorem escS_pos {l : List UInt8} {p : UInt8 × Nat} (h : escS l = some p) : 1 ≤ p.2 ∧ p.2 ≤ l.length := by
 unfold escS at h
 repeat' split at h
 all_goals first | (simp only [Option.some.injEq] at h; subst h; simp only [List.length_cons]; omega) | cases h
def quoF : Nat → List UInt8 → Option (List UInt8 × Nat)
 | 0, _ => none
 | k + 1, l => if l.head? = some 34 then some ([], 1) else match escS l with
  | none => none
  | some (b, n) => (quoF k (l.drop n)).map fun p => (b :: p.1, n + p.2)
theorem quoF_more : ∀ (k m : Nat) (l : List UInt8), l.length < k → l.length < m → quoF k l = quoF m l := by
 intro k
 induction k with
 | zero => intro m l h _; exact absurd h (Nat.not_lt_zero _)
 | succ k ih =>
  intro m l h hm
  cases m with
  | zero => exact absurd hm (Nat.not_lt_zero _)
  | succ m =>
   unfold quoF
   by_cases h34 : l.head? = some 34
   ·rw [if_pos h34, if_pos h34]
   ·rw [if_neg h34, if_neg h34]
    cases hx : escS l with
    | none => rfl
    | some p =>
     obtain ⟨b, n⟩ := p
     have hp := escS_pos hx
     have hl : (l.drop n).length = l.length - n := List.length_drop
     simp only at hp
     show (quoF k (l.drop n)).map _ = (quoF m (l.drop n)).map _
     rw [ih m (l.drop n) (by omega) (by omega)]
def quoS (l : List UInt8) : Option (List UInt8 × Nat) := quoF (l.length + 1) l
theorem quoS_end (l : List UInt8) (h : l.head? = some 34) : quoS l = some ([], 1) := by unfold quoS quoF; rw [if_pos h]
theorem quoS_none {l : List UInt8} (h : l.head? ≠ some 34) (hx : escS l = none) : quoS l = none := by unfold quoS quoF; rw [if_neg h, hx]
theorem quoS_step {l : List UInt8} {b : UInt8} {n : Nat} (h : l.head? ≠ some 34) (hx : escS l = some (b, n)) : quoS l = (quoS (l.drop n)).map fun p => (b :: p.1, n + p.2) := by
 have hp := escS_pos hx
 have hl : (l.drop n).length = l.length - n := List.length_drop
 simp only at hp
 unfold quoS
 rw [show quoF (l.length + 1) l = (quoF l.length (l.drop n)).map fun p => (b :: p.1, n + p.2) from by
  conv => lhs; unfold quoF
  rw [if_neg h, hx]]
 rw [quoF_more l.length ((l.drop n).length + 1) (l.drop n) (by omega) (by omega)]
theorem quoS_le : ∀ (k : Nat) (l : List UInt8) (p : List UInt8 × Nat), quoF k l = some p → 1 ≤ p.2 ∧ p.2 ≤ l.length := by
 intro k
 induction k with
 | zero => intro l p h; cases h
 | succ k ih =>
  intro l p h
  unfold quoF at h
  by_cases h34 : l.head? = some 34
  ·rw [if_pos h34] at h
   cases h
   cases l with
   | nil => cases h34
   | cons c t => simp
  ·rw [if_neg h34] at h
   cases hx : escS l with
   | none => rw [hx] at h; cases h
   | some q =>
    obtain ⟨b, n⟩ := q
    rw [hx] at h
    have hp := escS_pos hx
    have hl : (l.drop n).length = l.length - n := List.length_drop
    simp only at hp h
    cases hq : quoF k (l.drop n) with
    | none => rw [hq] at h; cases h
    | some r =>
     rw [hq] at h
     cases h
     have := ih _ _ hq
     simp only
     omega
def wrdF : Nat → List UInt8 → Option (List (List UInt8))
 | 0, _ => some []
 | k + 1, l => match l with
  | [] => some []
  | c :: t => if isBl c then wrdF k t else if c = 35 then some [] else if c = 34 then
    match quoS t with
    | none => none
    | some (w, n) => if (t.drop n).head?.all isBl then (wrdF k (t.drop n)).map (w :: ·) else none
   else if (34 : UInt8) ∈ (c :: t).takeWhile (fun d => !isBl d) then none
   else (wrdF k ((c :: t).dropWhile (fun d => !isBl d))).map ((c :: t).takeWhile (fun d => !isBl d) :: ·)
def hexD (n : Nat) : UInt8 := if n < 10 then UInt8.ofNat (48 + n) else UInt8.ofNat (87 + n)
def quoB (c : UInt8) : List UInt8 := if c = 92 ∨ c = 34 then [92, c] else if c = 10 then [92, 110] else if c = 9 then [92, 116] else if c.toNat < 32 ∨ 126 < c.toNat then [92, 120, hexD (c.toNat / 16), hexD (c.toNat % 16)] else [c]
def quoL (b : List UInt8) : List UInt8 := 34 :: (b.flatMap quoB ++ [34])
theorem hex_back : ∀ n : Fin 16, hexV (hexD n.val) = n.val := by decide
theorem esc_quo (c : UInt8) (t : List UInt8) : escS (quoB c ++ t) = some (c, (quoB c).length) ∧ (quoB c ++ t).head? ≠ some 34 := by
 unfold quoB
 by_cases h1 : c = 92 ∨ c = 34
 ·rw [if_pos h1]; exact ⟨by simp [escS, h1], by simp⟩
 ·rw [if_neg h1]
  by_cases h2 : c = 10
  ·rw [if_pos h2]; exact ⟨by simp [escS, h2], by simp⟩
  ·rw [if_neg h2]
   by_cases h3 : c = 9
   ·rw [if_pos h3]; exact ⟨by simp [escS, h3], by simp⟩
   ·rw [if_neg h3]
    by_cases h4 : c.toNat < 32 ∨ 126 < c.toNat
    ·rw [if_pos h4]
     have hc := c.toNat_lt
     have e1 := hex_back ⟨c.toNat / 16, by omega⟩
     have e2 := hex_back ⟨c.toNat % 16, by omega⟩
     simp only at e1 e2
     refine ⟨?_, by simp⟩
     show (if hexV (hexD (c.toNat / 16)) < 16 ∧ hexV (hexD (c.toNat % 16)) < 16 then some (UInt8.ofNat (16 * hexV (hexD (c.toNat / 16)) + hexV (hexD (c.toNat % 16))), 4) else none) = some (c, 4)
     rw [e1, e2, if_pos ⟨by omega, by omega⟩, Nat.div_add_mod]
     simp
    ·rw [if_neg h4]
     have h5 : c ≠ 92 := fun h => h1 (.inl h)
     have h6 : c ≠ 34 := fun h => h1 (.inr h)
     exact ⟨by simp [escS, h5], by simp [h6]⟩
theorem quoS_quo (b t : List UInt8) : quoS (b.flatMap quoB ++ 34 :: t) = some (b, (b.flatMap quoB).length + 1) := by
 induction b with
 | nil => exact quoS_end _ rfl
 | cons c b ih =>
  rw [List.flatMap_cons, List.append_assoc]
  have h := esc_quo c (b.flatMap quoB ++ 34 :: t)
  rw [quoS_step h.2 h.1, List.drop_left, ih]
  simp only [Option.map_some, List.length_append, Nat.add_assoc]
theorem drop_raw (l : List UInt8) : (l.dropWhile (fun d => !isBl d)).length ≤ l.length := by
 induction l with
 | nil => exact Nat.le_refl _
 | cons c t ih =>
  rw [List.dropWhile_cons]
  split
  ·simp only [List.length_cons]; omega
  ·exact Nat.le_refl _
theorem wrdF_more : ∀ (k m : Nat) (l : List UInt8), l.length ≤ k → l.length ≤ m → wrdF k l = wrdF m l := by
 intro k
 induction k with
 | zero =>
  intro m l h _
  have : l = [] := List.eq_nil_of_length_eq_zero (by omega)
  subst this
  cases m <;> rfl
 | succ k ih =>
  intro m l h hm
  cases l with
  | nil => cases m <;> rfl
  | cons c t =>
   cases m with
   | zero => exact absurd hm (by simp)
   | succ m =>
    simp only [List.length_cons] at h hm
    have hd : ∀ n, wrdF k (t.drop n) = wrdF m (t.drop n) := fun n => ih m _ (by rw [List.length_drop]; omega) (by rw [List.length_drop]; omega)
    unfold wrdF
    simp only
    rw [ih m t (by omega) (by omega)]
    by_cases h1 : isBl c = true
    ·rw [if_pos h1, if_pos h1]
    ·have h2 : ((c :: t).dropWhile (fun d => !isBl d)).length ≤ t.length := by
      rw [List.dropWhile_cons, if_pos (by simp [h1])]
      exact drop_raw t
     rw [ih m ((c :: t).dropWhile (fun d => !isBl d)) (by omega) (by omega)]
     simp only [hd]
def wrdS (l : List UInt8) : Option (List (List UInt8)) := wrdF (l.length + 1) l
theorem wrdS_nil : wrdS [] = some [] := rfl
theorem wrdS_blank {c : UInt8} (t : List UInt8) (h : isBl c = true) : wrdS (c :: t) = wrdS t := by
 unfold wrdS
 conv => lhs; unfold wrdF
 simp only
 rw [if_pos h]
 exact wrdF_more _ _ _ (by simp) (by simp)
theorem wrdS_hash (t : List UInt8) : wrdS (35 :: t) = some [] := rfl
theorem wrdS_quote {t w : List UInt8} {n : Nat} (h : quoS t = some (w, n)) (hb : (t.drop n).head?.all isBl = true) : wrdS (34 :: t) = (wrdS (t.drop n)).map (w :: ·) := by
 unfold wrdS
 conv => lhs; unfold wrdF
 dsimp only
 rw [if_neg (show ¬ isBl 34 = true by decide), if_neg (show ¬ (34 : UInt8) = 35 by decide), if_pos rfl, h]
 simp only
 rw [if_pos hb]
 rw [wrdF_more _ ((t.drop n).length + 1) _ (by rw [List.length_drop, List.length_cons]; omega) (by omega)]
theorem wrdS_quote_none {t : List UInt8} (h : quoS t = none) : wrdS (34 :: t) = none := by
 unfold wrdS
 conv => lhs; unfold wrdF
 dsimp only
 rw [if_neg (show ¬ isBl 34 = true by decide), if_neg (show ¬ (34 : UInt8) = 35 by decide), if_pos rfl, h]
theorem wrdS_quote_near {t w : List UInt8} {n : Nat} (h : quoS t = some (w, n)) (hb : ¬ (t.drop n).head?.all isBl = true) : wrdS (34 :: t) = none := by
 unfold wrdS
 conv => lhs; unfold wrdF
 dsimp only
 rw [if_neg (show ¬ isBl 34 = true by decide), if_neg (show ¬ (34 : UInt8) = 35 by decide), if_pos rfl, h]
 simp only
 rw [if_neg hb]
theorem wrdS_raw {c : UInt8} {t : List UInt8} (h1 : ¬ isBl c = true) (h2 : c ≠ 35) (h3 : c ≠ 34) (h4 : ¬ (34 : UInt8) ∈ (c :: t).takeWhile (fun d => !isBl d)) : wrdS (c :: t) = (wrdS ((c :: t).dropWhile (fun d => !isBl d))).map ((c :: t).takeWhile (fun d => !isBl d) :: ·) := by
 have h5 : ((c :: t).dropWhile (fun d => !isBl d)).length ≤ t.length := by
  rw [List.dropWhile_cons, if_pos (by simp [h1])]
  exact drop_raw t
 unfold wrdS
 conv => lhs; unfold wrdF
 simp only
 rw [if_neg h1, if_neg h2, if_neg h3, if_neg h4]
 rw [wrdF_more _ (((c :: t).dropWhile (fun d => !isBl d)).length + 1) _ (by rw [List.length_cons]; omega) (by omega)]
theorem wrdS_raw_none {c : UInt8} {t : List UInt8} (h1 : ¬ isBl c = true) (h2 : c ≠ 35) (h3 : c ≠ 34) (h4 : (34 : UInt8) ∈ (c :: t).takeWhile (fun d => !isBl d)) : wrdS (c :: t) = none := by
 unfold wrdS
 conv => lhs; unfold wrdF
 simp only
 rw [if_neg h1, if_neg h2, if_neg h3, if_pos h4]
def putQ (ws : List (List UInt8)) : List UInt8 := ws.flatMap fun w => 32 :: (quoL w ++ [9])
theorem wrdS_putQ (ws : List (List UInt8)) (r : List UInt8) : wrdS (putQ ws ++ 35 :: r) = some ws := by
 induction ws with
 | nil => exact wrdS_hash r
 | cons w ws ih =>
  have e : putQ (w :: ws) ++ 35 :: r = 32 :: 34 :: (w.flatMap quoB ++ 34 :: (9 :: (putQ ws ++ 35 :: r))) := by
   simp [putQ, quoL, List.append_assoc]
  rw [e, wrdS_blank _ (by decide), wrdS_quote (quoS_quo w _)]
  ·rw [← List.drop_drop, List.drop_left]
   show (wrdS (9 :: (putQ ws ++ 35 :: r))).map _ = _
   rw [wrdS_blank _ (by decide), ih]
   rfl
  ·rw [← List.drop_drop, List.drop_left]
   rfl
end Go.Proofs.YtccahbfbbaaicaaGreatDoor.Nn
