/- Words of a line, bytes that are quoted: the small texts of this part, one behind another. -/
import Derived.Test.YtccahbfbbaaicaaGreatDoorPWdx2
import Derived.Test.YtccahbfbbaaicaaGreatDoorSP
import Derived.Test.YtccahbfbbaaicaaGreatDoorPWdx5
import Derived.Test.YtccahbfbbaaicaaGreatDoorPWdx6
import Derived.Test.YtccahbfbbaaicaaGreatDoorPWdx7
import Derived.Laws.BitsAllLaws
import Derived.Test.YtccahbfbbaaicaaGreatDoorPWdx8
/- Quoted words: what the printed functions come to. -/
set_option linter.unusedVariables false
namespace Go.Proofs.YtccahbfbbaaicaaGreatDoor.Pw
open Go.RowKit Go.Proofs.YtccahbfbbaaicaaGreatDoor.PWd Go.Proofs.YtccahbfbbaaicaaGreatDoorW.PrintWords Go.Proofs.YtccahbfbbaaicaaGreatDoorW.PrintLast Go.Proofs.YtccahbfbbaaicaaGreatDoor.Giv Go.Proofs.YtccahbfbbaaicaaGreatDoor.Nn
abbrev bs (s : ByteArray) : List UInt8 := s.data.toList
theorem bs_len (s : ByteArray) : (bs s).length = s.size := by rw [Array.length_toList]; rfl
theorem bt_cons {s : ByteArray} {i : Nat} {c : UInt8} {t : List UInt8} (h : (bs s).drop i = c :: t) : i < s.size ∧ bt s (i : Int) = (c.toNat : Int) ∧ (bs s).drop (i + 1) = t := by
 have hl : i < (bs s).length := by
  rcases Nat.lt_or_ge i (bs s).length with h' | h'
  ·exact h'
  ·rw [List.drop_eq_nil_of_le h'] at h; cases h
 have h2 := List.drop_eq_getElem_cons hl
 rw [h] at h2
 obtain ⟨e1, e2⟩ := List.cons.inj h2
 rw [bs_len] at hl
 refine ⟨hl, ?_, e2.symm⟩
 unfold bt
 rw [dif_pos (show (i : Int).toNat < s.size from hl), e1]
 rfl
theorem drop_end {s : ByteArray} {i : Nat} : (bs s).drop i = [] ↔ s.size ≤ i := by rw [List.drop_eq_nil_iff, bs_len]
theorem c_eq {c d : UInt8} : ((c.toNat : Int) = (d.toNat : Int)) ↔ c = d := ⟨fun h => UInt8.toNat_inj.1 (by omega), fun h => by rw [h]⟩
theorem c92 (c : UInt8) : ((c.toNat : Int) = 92) ↔ c = 92 := c_eq (d := 92)
theorem c34 (c : UInt8) : ((c.toNat : Int) = 34) ↔ c = 34 := c_eq (d := 34)
theorem c10 (c : UInt8) : ((c.toNat : Int) = 10) ↔ c = 10 := c_eq (d := 10)
theorem c9 (c : UInt8) : ((c.toNat : Int) = 9) ↔ c = 9 := c_eq (d := 9)
theorem c32 (c : UInt8) : ((c.toNat : Int) = 32) ↔ c = 32 := c_eq (d := 32)
theorem c35 (c : UInt8) : ((c.toNat : Int) = 35) ↔ c = 35 := c_eq (d := 35)
theorem c110 (c : UInt8) : ((c.toNat : Int) = 110) ↔ c = 110 := c_eq (d := 110)
theorem c116 (c : UInt8) : ((c.toNat : Int) = 116) ↔ c = 116 := c_eq (d := 116)
theorem c120 (c : UInt8) : ((c.toNat : Int) = 120) ↔ c = 120 := c_eq (d := 120)
abbrev sixteen : ByteArray := ⟨#[48, 49, 50, 51, 52, 53, 54, 55, 56, 57, 97, 98, 99, 100, 101, 102]⟩
theorem hex_all : ∀ n : Fin 256, Lib.indexByte [48, 49, 50, 51, 52, 53, 54, 55, 56, 57, 97, 98, 99, 100, 101, 102] (UInt8.ofNat n.val) = if hexV (UInt8.ofNat n.val) < 16 then (hexV (UInt8.ofNat n.val) : Int) else -1 := by decide +kernel
theorem index_hex (c : UInt8) : strings_IndexByte.f sixteen (c.toNat : Int) = some (if hexV c < 16 then (hexV c : Int) else -1) := by
 have h := hex_all ⟨c.toNat, c.toNat_lt⟩
 simp only [UInt8.ofNat_toNat] at h
 rw [← h]
 unfold strings_IndexByte.f
 rw [Int.toNat_natCast]
 congr 2
 exact UInt8.ofNat_toNat
def escV : Option (UInt8 × Nat) → Int × Int
 | some (b, n) => ((b.toNat : Int), (n : Int))
 | none => (0, 0)
theorem wrap_hex {a b : Nat} (ha : a < 16) (hb : b < 16) : (wrap64 ((wrap64 (16 * (a : Int))) + (b : Int))) % 256 = (((UInt8.ofNat (16 * a + b)).toNat : Nat) : Int) := by
 have : (UInt8.ofNat (16 * a + b)).toNat = 16 * a + b := by rw [UInt8.toNat_ofNat']; omega
 rw [this]
 unfold wrap64
 omega
def escX : List UInt8 → Option (UInt8 × Nat)
 | a :: b :: _ => if hexV a < 16 ∧ hexV b < 16 then some (UInt8.ofNat (16 * hexV a + hexV b), 4) else none
 | _ => none
theorem escS_92 (d : UInt8) (t2 : List UInt8) : escS (92 :: d :: t2) = if d = 92 ∨ d = 34 then some (d, 2) else if d = 110 then some (10, 2) else if d = 116 then some (9, 2) else if d = 120 then escX t2 else none := rfl
theorem escS_not {c : UInt8} (t : List UInt8) (h : c ≠ 92) : escS (c :: t) = some (c, 1) := by
 unfold escS
 simp only [if_pos h]
theorem j0_ok {s : ByteArray} {d : UInt8} {t2 : List UInt8} (hl : bs s = 92 :: d :: t2) (k : Nat) : shell_escape.j0 (k + 1) s (d.toNat : Int) (decide (d = 92 ∨ d = 34)) = some (escV (escS (92 :: d :: t2))) := by
 have h1 := bt_cons (s := s) (i := 1) (c := d) (t := t2) (by rw [hl]; rfl)
 have e1 : bt s 1 = (d.toNat : Int) := h1.2.1
 have hsz : s.size = t2.length + 2 := by rw [← bs_len, hl]; rfl
 simp only [shell_escape.j0, decide_eq_true_eq, e1, c110, c116, c120]
 rw [escS_92]
 by_cases h : d = 92 ∨ d = 34
 ·rw [if_pos h, if_pos h, if_pos (by omega)]; rfl
 rw [if_neg h, if_neg h]
 by_cases h2 : d = 110
 ·rw [if_pos h2, if_pos h2]; rfl
 rw [if_neg h2, if_neg h2]
 by_cases h3 : d = 116
 ·rw [if_pos h3, if_pos h3]; rfl
 rw [if_neg h3, if_neg h3]
 by_cases h4 : d = 120
 ·rw [if_pos h4, if_pos h4]
  match t2, hl, hsz with
  | [], hl, hsz => rw [if_pos (by simp at hsz; omega)]; rfl
  | [a], hl, hsz => rw [if_pos (by simp at hsz; omega)]; rfl
  | a :: b :: t4, hl, hsz =>
   simp only [List.length_cons] at hsz
   have g2 : bt s 2 = (a.toNat : Int) := (bt_cons (s := s) (i := 2) (c := a) (t := b :: t4) (by rw [hl]; rfl)).2.1
   have g3 : bt s 3 = (b.toNat : Int) := (bt_cons (s := s) (i := 3) (c := b) (t := t4) (by rw [hl]; rfl)).2.1
   rw [if_neg (by omega), if_pos (by omega), g2, index_hex]
   simp only [Option.bind_some]
   rw [if_pos (by omega), g3, index_hex]
   simp only [Option.bind_some]
   by_cases ha : hexV a < 16
   ·rw [if_pos ha]
    rw [if_pos (by omega)]
    by_cases hb : hexV b < 16
    ·rw [if_pos hb, if_pos (by omega), wrap_hex ha hb]
     unfold escX
     simp only
     rw [if_pos ⟨ha, hb⟩]
     rfl
    ·rw [if_neg hb, if_neg (by omega)]
     unfold escX
     simp only
     rw [if_neg (fun h => hb h.2)]
     rfl
   ·rw [if_neg ha, if_neg (by omega)]
    unfold escX
    simp only
    rw [if_neg (fun h => ha h.1)]
    rfl
 ·rw [if_neg h4, if_neg h4]; rfl
theorem esc_ok {s : ByteArray} {c : UInt8} {t : List UInt8} (hl : bs s = c :: t) (k : Nat) : shell_escape.f (k + 1) s = some (escV (escS (c :: t))) := by
 have h0 := bt_cons (s := s) (i := 0) (c := c) (t := t) hl
 have e0 : bt s 0 = (c.toNat : Int) := h0.2.1
 have hsz : s.size = t.length + 1 := by rw [← bs_len, hl]; rfl
 unfold shell_escape.f
 rw [if_pos (by omega), e0]
 simp only [c92]
 by_cases h : c = 92
 ·rw [if_pos h]
  subst h
  cases t with
  | nil => rw [if_pos (by simp at hsz; omega)]; rfl
  | cons d t2 =>
   simp only [List.length_cons] at hsz
   have e1 : bt s 1 = (d.toNat : Int) := (bt_cons (s := s) (i := 1) (c := d) (t := t2) (by rw [hl]; rfl)).2.1
   rw [if_neg (by omega), if_pos (by omega), e1]
   have hj := j0_ok hl k
   rw [← hj]
   simp only [c92]
   by_cases h1 : d = 92
   ·rw [if_pos h1]
    congr 1
    rw [decide_eq_true (show d = 92 ∨ d = 34 from .inl h1)]
    exact beq_iff_eq.2 ((c92 d).2 h1)
   ·rw [if_neg h1]
    congr 1
    by_cases h2 : d = 34
    ·rw [decide_eq_true (show d = 92 ∨ d = 34 from .inr h2)]
     exact beq_iff_eq.2 ((c34 d).2 h2)
    ·rw [decide_eq_false (show ¬ (d = 92 ∨ d = 34) from fun h => h.elim h1 h2)]
     exact beq_eq_false_iff_ne.2 fun e => h2 ((c34 d).1 e)
 ·rw [if_neg h, escS_not t h]
  rfl
abbrev nat8 (l : List UInt8) : List Int := l.map fun c => (c.toNat : Int)
def quoV (out : List Int) (i : Nat) : Option (List UInt8 × Nat) → ByteArray × Int × Bool
 | some (w, n) => (strOfNums (out ++ nat8 w), ((i + n : Nat) : Int), true)
 | none => (⟨#[]⟩, 0, false)
theorem wrap_nat {n : Nat} (h : n < 9223372036854775808) : wrap64 (n : Int) = n := by unfold wrap64; omega
theorem extract_drop (s : ByteArray) (i : Nat) : bs (s.extract i s.size) = (bs s).drop i := by
 unfold bs
 rw [Lib.extract_data, List.take_of_length_le (by rw [List.length_drop, Array.length_toList]; exact Nat.le_refl _)]
theorem quo_arith {S i n m o k : Nat} (h1 : S - i ≤ m + 1) (h2 : 1 ≤ n) (h3 : n ≤ S - i) (h4 : o ≤ i) (h5 : 2 * (m + 1) + 3 ≤ k + 1 + 1) (hi : i < S) (hs : S ≤ 140737488351232) :
  S - (i + n) ≤ m ∧ i + n ≤ S ∧ o + 1 ≤ i + n ∧ 2 * m + 3 ≤ k + 1 ∧ i + n < 9223372036854775808 ∧ o < 140737488355328 ∧ ¬ ((n : Int) = 0) := by omega
theorem quo_ok (s : ByteArray) (hs : s.size ≤ 140737488351232) : ∀ (m i : Nat) (out : List Int), s.size - i ≤ m → i ≤ s.size → out.length ≤ i → ∀ k, 2 * m + 3 ≤ k → shell_quoted.l0 k s out (i : Int) = some (quoV out i (quoS ((bs s).drop i))) := by
 intro m
 induction m with
 | zero =>
  intro i out hm hi ho k hk
  obtain ⟨k, rfl⟩ : ∃ j, k = j + 1 := ⟨k - 1, by omega⟩
  have : (bs s).drop i = [] := drop_end.2 (by omega)
  rw [this]
  simp only [shell_quoted.l0]
  rw [if_neg (by omega)]
  rfl
 | succ m ih =>
  intro i out hm hi ho k hk
  obtain ⟨k, rfl⟩ : ∃ j, k = j + 1 := ⟨k - 1, by omega⟩
  obtain ⟨k, rfl⟩ : ∃ j, k = j + 1 := ⟨k - 1, by omega⟩
  cases hd : (bs s).drop i with
  | nil =>
   have := drop_end.1 hd
   simp only [shell_quoted.l0]
   rw [if_neg (by omega)]
   rfl
  | cons c t =>
   obtain ⟨h1, h2, h3⟩ := bt_cons hd
   rw [shell_quoted.l0, if_pos (by omega), if_pos (by omega), h2]
   simp only [c34]
   by_cases h34 : c = 34
   ·rw [if_pos h34, quoS_end _ (by rw [h34]; rfl)]
    have : wrap64 ((i : Int) + 1) = ((i + 1 : Nat) : Int) := wrap_nat (n := i + 1) (by omega)
    rw [this]
    simp [quoV]
   ·rw [if_neg h34, if_pos (by omega), Int.toNat_natCast]
    have hx := extract_drop s i
    rw [hd] at hx
    rw [esc_ok hx]
    simp only [Option.bind_some]
    have hh : (c :: t).head? ≠ some 34 := by simp [h34]
    cases he : escS (c :: t) with
    | none => rw [quoS_none hh he]; rfl
    | some p =>
     obtain ⟨b, n⟩ := p
     have hp := escS_pos he
     simp only at hp
     have hlen : (c :: t).length = s.size - i := by rw [← hd, List.length_drop, bs_len]
     rw [hlen] at hp
     obtain ⟨q1, q2, q3, q4, q5, q6, q7⟩ := quo_arith hm hp.1 hp.2 ho hk h1 hs
     show (if (n : Int) = 0 then some ((⟨#[]⟩ : ByteArray), (0 : Int), false) else if out.length < 140737488355328 then shell_quoted.l0 (k + 1) s (out ++ [(b.toNat : Int)]) (wrap64 ((i : Int) + (n : Int))) else none) = _
     rw [if_neg q7, if_pos q6]
     have hw : wrap64 ((i : Int) + (n : Int)) = ((i + n : Nat) : Int) := wrap_nat (n := i + n) q5
     have hih := ih (i + n) (out ++ [(b.toNat : Int)]) q1 q2 (by rw [List.length_append]; exact q3) (k + 1) q4
     rw [hw, hih, quoS_step hh he]
     have hdd : (bs s).drop (i + n) = (c :: t).drop n := by rw [← hd, List.drop_drop]
     rw [hdd]
     cases quoS ((c :: t).drop n) with
     | none => rfl
     | some q => simp [quoV, Nat.add_assoc]
theorem quoted_ok (s : ByteArray) (hs : s.size ≤ 140737488351232) (k : Nat) (hk : 2 * s.size + 3 ≤ k) : shell_quoted.f k s = some (quoV [] 0 (quoS (bs s))) := quo_ok s hs s.size 0 [] (by omega) (by omega) (by simp) k hk
end Go.Proofs.YtccahbfbbaaicaaGreatDoor.Pw
/- Quoted words, as the reference reads them. -/
set_option linter.unusedVariables false
namespace Go.Proofs.YtccahbfbbaaicaaGreatDoor.Pw
open Go.RowKit Go.Proofs.YtccahbfbbaaicaaGreatDoor.PWd Go.Proofs.YtccahbfbbaaicaaGreatDoorW.PrintWords Go.Proofs.YtccahbfbbaaicaaGreatDoorW.PrintLast Go.Proofs.YtccahbfbbaaicaaGreatDoor.Giv Go.Proofs.YtccahbfbbaaicaaGreatDoor.Nn
def hexI (c : UInt8) : Int := if hexV c < 16 then (hexV c : Int) else -1
theorem rhex_all : ∀ n : Fin 256, anticlineref18_hex.f 1 (n.val : Int) = some (hexI (UInt8.ofNat n.val)) := by decide +kernel
theorem rhex_ok (c : UInt8) (k : Nat) (hk : 1 ≤ k) : anticlineref18_hex.f k (c.toNat : Int) = some (hexI c) := by
 have h := rhex_all ⟨c.toNat, c.toNat_lt⟩
 simp only [UInt8.ofNat_toNat] at h
 exact at_rounds (g := fun k => anticlineref18_hex.f k (c.toNat : Int)) (fun k => anticlineref18_hex.mono _ k) hk h
def quoW (out : List Int) (i : Nat) : Option (List UInt8 × Nat) → ByteArray × Int
 | some (w, n) => (strOfNums (out ++ nat8 w), ((i + n : Nat) : Int))
 | none => (⟨#[]⟩, -1)
theorem quoW_step (out : List Int) (i n : Nat) (b : UInt8) (q : Option (List UInt8 × Nat)) : quoW out i (q.map fun p => (b :: p.1, n + p.2)) = quoW (out ++ [(b.toNat : Int)]) (i + n) q := by
 cases q with
 | none => rfl
 | some q => simp [quoW, Nat.add_assoc]
theorem rj3_bad (s : ByteArray) (i : Int) (out : List Int) (k : Nat) : anticlineref18_quoted.j3 (k + 1) s i out true = some (quoW out 0 none) := by
 simp only [anticlineref18_quoted.j3]
 rfl
theorem rq_arith {S i n m o k : Nat} (h1 : S - i ≤ m + 1) (h2 : 1 ≤ n) (h3 : n ≤ S - i) (h4 : o ≤ i) (h5 : 4 * (m + 1) + 8 ≤ k + 4) (hi : i < S) (hs : S ≤ 140737488351232) :
  S - (i + n) ≤ m ∧ i + n ≤ S ∧ o + 1 ≤ i + n ∧ 4 * m + 8 ≤ k ∧ i + n < 9223372036854775808 ∧ o < 140737488355328 := by omega
theorem wrap_2 {i : Nat} (h : i < 140737488355328) : wrap64 ((i : Int) + 1) = ((i + 1 : Nat) : Int) ∧ wrap64 ((i : Int) + 2) = ((i + 2 : Nat) : Int) ∧ wrap64 ((i : Int) + 3) = ((i + 3 : Nat) : Int) ∧ wrap64 (wrap64 ((i : Int) + 2) + 2) = ((i + 4 : Nat) : Int) := by
 unfold wrap64
 omega
theorem rq_round {s : ByteArray} {i : Nat} {c : UInt8} {t : List UInt8} {out : List Int} {k : Nat} (hd : (bs s).drop i = c :: t) (hs : s.size ≤ 140737488351232) (ho : out.length ≤ i)
  (ih : ∀ (b : UInt8) (n : Nat), escS (c :: t) = some (b, n) → ∀ j, k ≤ j → anticlineref18_quoted.l0 j s ((i + n : Nat) : Int) (out ++ [(b.toNat : Int)]) = some (quoW (out ++ [(b.toNat : Int)]) (i + n) (quoS ((c :: t).drop n)))) (hk : 1 ≤ k) :
  anticlineref18_quoted.l0 (k + 4) s (i : Int) out = some (quoW out i (quoS (c :: t))) := by
 obtain ⟨h1, h2, h3⟩ := bt_cons hd
 obtain ⟨w1, w2, w3, w4⟩ := wrap_2 (i := i) (by omega)
 have hol : out.length < 140737488355328 := by omega
 rw [anticlineref18_quoted.l0, if_pos (by omega), if_pos (by omega), h2]
 rw [anticlineref18_quoted.j1]
 by_cases h34 : c = 34
 ·have e : ((c.toNat : Int) != 34) = false := by rw [(c34 c).2 h34]; rfl
  rw [e, if_neg (by decide), if_neg (by omega), quoS_end _ (by rw [h34]; rfl), w1]
  simp [quoW]
 have e : ((c.toNat : Int) != 34) = true := bne_iff_ne.2 fun h => h34 ((c34 c).1 h)
 have hh : (c :: t).head? ≠ some 34 := by simp [h34]
 rw [e, if_pos rfl, if_pos (by omega), if_pos (by omega), h2]
 by_cases h92 : c = 92
 ·subst h92
  rw [if_pos ((c92 92).2 rfl), w1]
  cases t with
  | nil =>
   have hz := drop_end.1 h3
   rw [if_pos (by omega), quoS_none hh rfl]
   rfl
  | cons d t2 =>
   obtain ⟨g1, g2, g3⟩ := bt_cons h3
   rw [if_neg (by omega), if_pos (by omega), if_pos (by omega), g2]
   have hj : (if (d.toNat : Int) = 92 then anticlineref18_quoted.j2 (k + 2) s (i : Int) out (d.toNat : Int) ((d.toNat : Int) == 92) else anticlineref18_quoted.j2 (k + 2) s (i : Int) out (d.toNat : Int) ((d.toNat : Int) == 34)) = anticlineref18_quoted.j2 (k + 2) s (i : Int) out (d.toNat : Int) (decide (d = 92 ∨ d = 34)) := by
    by_cases d1 : d = 92
    ·rw [if_pos ((c92 d).2 d1)]
     congr 1
     rw [decide_eq_true (show d = 92 ∨ d = 34 from .inl d1)]
     exact beq_iff_eq.2 ((c92 d).2 d1)
    ·rw [if_neg fun e => d1 ((c92 d).1 e)]
     congr 1
     by_cases d2 : d = 34
     ·rw [decide_eq_true (show d = 92 ∨ d = 34 from .inr d2)]
      exact beq_iff_eq.2 ((c34 d).2 d2)
     ·rw [decide_eq_false (show ¬ (d = 92 ∨ d = 34) from fun h => h.elim d1 d2)]
      exact beq_eq_false_iff_ne.2 fun e => d2 ((c34 d).1 e)
   rw [hj, anticlineref18_quoted.j2, w1, w2, w3, g2]
   have hx := escS_92 d t2
   by_cases hA : d = 92 ∨ d = 34
   ·rw [if_pos hA] at hx
    rw [decide_eq_true hA, if_pos rfl, if_pos (by omega), if_pos (by omega), if_pos hol, ih d 2 hx (k + 1) (by omega), quoS_step hh hx, quoW_step]
   rw [if_neg hA] at hx
   rw [decide_eq_false hA, if_neg (by decide)]
   simp only [c110, c116, c120]
   by_cases hB : d = 110
   ·rw [if_pos hB] at hx
    rw [if_pos hB, if_pos hol, quoS_step hh hx, quoW_step]
    exact ih 10 2 hx (k + 1) (by omega)
   rw [if_neg hB] at hx
   rw [if_neg hB]
   by_cases hC : d = 116
   ·rw [if_pos hC] at hx
    rw [if_pos hC, if_pos hol, quoS_step hh hx, quoW_step]
    exact ih 9 2 hx (k + 1) (by omega)
   rw [if_neg hC] at hx
   rw [if_neg hC]
   by_cases hD : d = 120
   ·rw [if_pos hD] at hx
    rw [if_pos hD]
    match t2, g3, hx, hh, ih, hd, h3 with
    | [], g3, hx, hh, ih, hd, h3 =>
     have hz := drop_end.1 g3
     rw [if_pos (by omega), rj3_bad, quoS_none hh hx]
     rfl
    | [a], g3, hx, hh, ih, hd, h3 =>
     obtain ⟨y1, y2, y3⟩ := bt_cons g3
     have hz := drop_end.1 y3
     rw [if_pos (by omega), rj3_bad, quoS_none hh hx]
     rfl
    | a :: b :: t4, g3, hx, hh, ih, hd, h3 =>
     obtain ⟨y1, y2, y3⟩ := bt_cons g3
     obtain ⟨z1, z2, z3⟩ := bt_cons y3
     rw [if_neg (by omega), if_pos (by omega), if_pos (by omega)]
     have y2' : bt s ((i + 2 : Nat) : Int) = (a.toNat : Int) := y2
     have z2' : bt s ((i + 3 : Nat) : Int) = (b.toNat : Int) := z2
     rw [y2', rhex_ok a (k + 1) (by omega)]
     simp only [Option.bind_some]
     have hx : escS (92 :: d :: a :: b :: t4) = if hexV a < 16 ∧ hexV b < 16 then some (UInt8.ofNat (16 * hexV a + hexV b), 4) else none := hx
     by_cases ha : hexV a < 16
     ·have ea : hexI a = (hexV a : Int) := by unfold hexI; rw [if_pos ha]
      rw [ea, if_neg (by omega), if_pos (by omega), if_pos (by omega), z2', rhex_ok b (k + 1) (by omega)]
      simp only [Option.bind_some]
      by_cases hb : hexV b < 16
      ·have eb : hexI b = (hexV b : Int) := by unfold hexI; rw [if_pos hb]
       rw [if_pos ⟨ha, hb⟩] at hx
       rw [eb, decide_eq_false (by omega), anticlineref18_quoted.j3, if_neg (by decide), w4, w2, w3, if_pos (by omega), if_pos (by omega), y2', rhex_ok a k hk]
       simp only [Option.bind_some]
       rw [if_pos (by omega), if_pos (by omega), z2', rhex_ok b k hk]
       simp only [Option.bind_some]
       rw [if_pos hol, ea, eb, wrap_hex ha hb, ih _ 4 hx k (Nat.le_refl _), quoS_step hh hx, quoW_step]
      ·have eb : hexI b = -1 := by unfold hexI; rw [if_neg hb]
       rw [if_neg (fun h => hb h.2)] at hx
       rw [eb, decide_eq_true (by omega), rj3_bad, quoS_none hh hx]
       rfl
     ·have ea : hexI a = -1 := by unfold hexI; rw [if_neg ha]
      rw [if_neg (fun h => ha h.1)] at hx
      rw [ea, if_pos (by omega), rj3_bad, quoS_none hh hx]
      rfl
   ·rw [if_neg hD] at hx
    rw [if_neg hD, quoS_none hh hx]
    rfl
 ·have hx := escS_not t h92
  rw [if_neg fun e => h92 ((c92 c).1 e), if_pos hol, w1, ih c 1 hx (k + 2) (by omega), quoS_step hh hx, quoW_step]
theorem rquo_ok (s : ByteArray) (hs : s.size ≤ 140737488351232) : ∀ (m i : Nat) (out : List Int), s.size - i ≤ m → i ≤ s.size → out.length ≤ i → ∀ k, 4 * m + 8 ≤ k → anticlineref18_quoted.l0 k s (i : Int) out = some (quoW out i (quoS ((bs s).drop i))) := by
 intro m
 induction m with
 | zero =>
  intro i out hm hi ho k hk
  obtain ⟨k, rfl⟩ : ∃ j, k = j + 1 := ⟨k - 1, by omega⟩
  obtain ⟨k, rfl⟩ : ∃ j, k = j + 1 := ⟨k - 1, by omega⟩
  have : (bs s).drop i = [] := drop_end.2 (by omega)
  rw [this, anticlineref18_quoted.l0, if_neg (by omega), anticlineref18_quoted.j1, if_neg (by decide), if_pos (by omega)]
  rfl
 | succ m ih =>
  intro i out hm hi ho k hk
  obtain ⟨k, rfl⟩ : ∃ j, k = j + 4 := ⟨k - 4, by omega⟩
  cases hd : (bs s).drop i with
  | nil =>
   have := drop_end.1 hd
   rw [anticlineref18_quoted.l0, if_neg (by omega), anticlineref18_quoted.j1, if_neg (by decide), if_pos (by omega)]
   rfl
  | cons c t =>
   have h1 := (bt_cons hd).1
   refine rq_round hd hs ho (fun b n he j hj => ?_) (by omega)
   have hp := escS_pos he
   simp only at hp
   have hlen : (c :: t).length = s.size - i := by rw [← hd, List.length_drop, bs_len]
   rw [hlen] at hp
   obtain ⟨q1, q2, q3, q4, q5, q6⟩ := rq_arith hm hp.1 hp.2 ho hk h1 hs
   have hih := ih (i + n) (out ++ [(b.toNat : Int)]) q1 q2 (by rw [List.length_append]; exact q3) j (Nat.le_trans q4 hj)
   have hdd : (bs s).drop (i + n) = (c :: t).drop n := by rw [← hd, List.drop_drop]
   rw [hdd] at hih
   exact hih
theorem rquoted_ok (s : ByteArray) (hs : s.size ≤ 140737488351232) (i : Nat) (hi : i < s.size) (k : Nat) (hk : 4 * s.size + 8 ≤ k) : anticlineref18_quoted.f k s (i : Int) = some (quoW [] (i + 1) (quoS ((bs s).drop (i + 1)))) := by
 unfold anticlineref18_quoted.f
 rw [(wrap_2 (i := i) (by omega)).1]
 exact rquo_ok s hs s.size (i + 1) [] (by omega) (by omega) (by simp) k hk
end Go.Proofs.YtccahbfbbaaicaaGreatDoor.Pw
/- Words of a line: what both printed functions come to. -/
set_option linter.unusedVariables false
namespace Go.Proofs.YtccahbfbbaaicaaGreatDoor.Pw
open Go.RowKit Go.Proofs.YtccahbfbbaaicaaGreatDoor.PWd Go.Proofs.YtccahbfbbaaicaaGreatDoorW.PrintWords Go.Proofs.YtccahbfbbaaicaaGreatDoorW.PrintLast Go.Proofs.YtccahbfbbaaicaaGreatDoor.Giv Go.Proofs.YtccahbfbbaaicaaGreatDoor.Nn
def strB (l : List UInt8) : ByteArray := ⟨l.toArray⟩
theorem strB_of {s : ByteArray} {l : List UInt8} (h : bs s = l) : s = strB l := by subst h; rfl
theorem bs_strB (l : List UInt8) : bs (strB l) = l := rfl
theorem nums_strB (w : List UInt8) : strOfNums (nat8 w) = strB w := by
 unfold strOfNums strB nat8
 rw [List.map_map]
 congr 2
 conv => rhs; rw [← List.map_id w]
 exact List.map_congr_left fun c _ => by simp
def wrdV (acc : List ByteArray) : Option (List (List UInt8)) → List ByteArray × Int
 | some ws => (acc ++ ws.map strB, 0)
 | none => ([], 13)
theorem wrdV_cons (acc : List ByteArray) (w : List UInt8) (q : Option (List (List UInt8))) : wrdV acc (q.map (w :: ·)) = wrdV (acc ++ [strB w]) q := by
 cases q with
 | none => rfl
 | some q => simp [wrdV]
abbrev nb (d : UInt8) : Bool := !isBl d
theorem dw_drop (l : List UInt8) : l.dropWhile nb = l.drop (l.takeWhile nb).length := by
 induction l with
 | nil => rfl
 | cons c t ih =>
  rw [List.dropWhile_cons, List.takeWhile_cons]
  cases h : nb c with
  | true => simp [ih]
  | false => simp
theorem tw_take (l : List UInt8) : l.takeWhile nb = l.take (l.takeWhile nb).length := by
 induction l with
 | nil => rfl
 | cons c t ih =>
  rw [List.takeWhile_cons]
  cases h : nb c with
  | true => simp; exact ih
  | false => simp
theorem blk_if {α : Type} (f : Bool → α) (c : UInt8) : (if (c.toNat : Int) = 32 then f true else f ((c.toNat : Int) == 9)) = f (isBl c) := by
 unfold isBl
 by_cases h : c = 32
 ·rw [if_pos ((c32 c).2 h), h]; rfl
 ·rw [if_neg fun e => h ((c32 c).1 e)]
  congr 1
  by_cases h2 : c = 9
  ·rw [h2]; rfl
  ·rw [beq_eq_false_iff_ne.2 fun e => h2 ((c9 c).1 e), beq_eq_false_iff_ne.2 h, beq_eq_false_iff_ne.2 h2]; rfl
theorem nbk_if {α : Type} (f : Bool → α) (c : UInt8) : (if (c.toNat : Int) = 32 then f false else f ((c.toNat : Int) != 9)) = f (nb c) := by
 unfold nb isBl
 by_cases h : c = 32
 ·rw [if_pos ((c32 c).2 h), h]; rfl
 ·rw [if_neg fun e => h ((c32 c).1 e)]
  congr 1
  by_cases h2 : c = 9
  ·rw [h2]; rfl
  ·rw [bne_iff_ne.2 fun e => h2 ((c9 c).1 e), beq_eq_false_iff_ne.2 h, beq_eq_false_iff_ne.2 h2]; rfl
theorem near_if {α : Type} (s : ByteArray) (i : Nat) (X Y N : α) : (if (i : Int) < (s.size : Int) then (if 0 ≤ (i : Int) then (if bt s (i : Int) = 32 then X else (if bt s (i : Int) = 9 then X else Y)) else N) else X) = if ((bs s).drop i).head?.all isBl = true then X else Y := by
 cases hd : (bs s).drop i with
 | nil =>
  have := drop_end.1 hd
  rw [if_neg (show ¬ (i : Int) < (s.size : Int) by omega), if_pos (by rfl)]
 | cons c t =>
  obtain ⟨h1, h2, _⟩ := bt_cons hd
  rw [if_pos (show (i : Int) < (s.size : Int) by omega), if_pos (show 0 ≤ (i : Int) by omega), h2]
  have hall : (c :: t).head?.all isBl = isBl c := rfl
  rw [hall]
  simp only [c32, c9]
  by_cases a : c = 32
  ·rw [if_pos a, if_pos (show isBl c = true by rw [a]; rfl)]
  ·rw [if_neg a]
   by_cases b : c = 9
   ·rw [if_pos b, if_pos (show isBl c = true by rw [b]; rfl)]
   ·rw [if_neg b, if_neg (show ¬ isBl c = true by unfold isBl; rw [beq_eq_false_iff_ne.2 a, beq_eq_false_iff_ne.2 b]; decide)]
theorem Ev.late {α : Type} {g f : Nat → Option α} {r : α} (K : Nat) (h : ∀ k, K ≤ k → g (k + 1) = f k) (k : Ev f r) : Ev g r := by
 obtain ⟨K2, k⟩ := k
 refine ⟨max K K2 + 1, fun n hn => ?_⟩
 obtain ⟨m, rfl⟩ : ∃ m, n = m + 1 := ⟨n - 1, by omega⟩
 rw [h m (by omega)]
 exact k m (by omega)
theorem extract_word (s : ByteArray) {a n : Nat} {w : List UInt8} (h : ((bs s).drop a).take n = w) : s.extract a (a + n) = strB w := strB_of (by rw [← h]; unfold bs; rw [Lib.extract_data, Nat.add_sub_cancel_left])
theorem wrap_q {i n : Nat} (h : i + n < 4000000000000) : wrap64 ((i : Int) + wrap64 (1 + (n : Int))) = ((i + 1 + n : Nat) : Int) := by
 have : wrap64 (1 + (n : Int)) = ((1 + n : Nat) : Int) := wrap_nat (n := 1 + n) (by omega)
 rw [this]
 have h2 : wrap64 ((i : Int) + ((1 + n : Nat) : Int)) = ((i + (1 + n) : Nat) : Int) := wrap_nat (n := i + (1 + n)) (by omega)
 rw [h2, Nat.add_assoc]
section shell
variable {s : ByteArray} (hs : s.size ≤ 1000000000)
include hs
theorem sraw (acc : List ByteArray) (hacc : acc.length < 8796093022208) (a : Nat) : ∀ (d : List UInt8) (i : Nat), (bs s).drop i = d → a ≤ i → i ≤ s.size →
  ((34 : UInt8) ∈ d.takeWhile nb → Ev (fun k => shell_Words.l1 k s acc (i : Int) (a : Int)) ([], 13)) ∧
  (¬ (34 : UInt8) ∈ d.takeWhile nb → ∀ r, Ev (fun k => shell_Words.l0 k s (acc ++ [s.extract a (i + (d.takeWhile nb).length)]) ((i + (d.takeWhile nb).length : Nat) : Int)) r → Ev (fun k => shell_Words.l1 k s acc (i : Int) (a : Int)) r) := by
 have stop : ∀ i : Nat, a ≤ i → i ≤ s.size → ∀ r, Ev (fun k => shell_Words.l0 k s (acc ++ [s.extract a i]) (i : Int)) r → Ev (fun k => shell_Words.j3 k s acc (i : Int) (a : Int) false) r := fun i ha hi r hr =>
  Ev.step (fun k => by rw [shell_Words.j3, if_neg (by decide), if_pos (by omega), if_pos (by omega), if_pos (by omega), if_pos hacc]; rfl) hr
 intro d
 induction d with
 | nil =>
  intro i hd ha hi
  have := drop_end.1 hd
  refine ⟨fun h => by simp at h, fun _ r hr => ?_⟩
  refine Ev.step (fun k => ?_) (stop i ha hi r hr)
  rw [shell_Words.l1, if_neg (by omega)]
 | cons c t ih =>
  intro i hd ha hi
  obtain ⟨h1, h2, h3⟩ := bt_cons hd
  have hgo : ∀ k, shell_Words.l1 (k + 1) s acc (i : Int) (a : Int) = shell_Words.j3 k s acc (i : Int) (a : Int) (nb c) := fun k => by
   rw [shell_Words.l1, if_pos (by omega), if_pos (by omega), h2]
   exact nbk_if (fun b => shell_Words.j3 k s acc (i : Int) (a : Int) b) c
  cases hb : nb c with
  | false =>
   rw [List.takeWhile_cons, hb]
   refine ⟨fun h => by simp at h, fun _ r hr => ?_⟩
   exact Ev.step (fun k => by rw [hgo k, hb]) (stop i ha hi r hr)
  | true =>
   rw [List.takeWhile_cons, hb]
   simp only [if_true, List.length_cons, List.mem_cons]
   have hw : wrap64 ((i : Int) + 1) = ((i + 1 : Nat) : Int) := (wrap_2 (i := i) (by omega)).1
   obtain ⟨ih1, ih2⟩ := ih (i + 1) h3 (by omega) (by omega)
   by_cases h34 : c = 34
   ·refine ⟨fun _ => ?_, fun h => absurd (.inl h34.symm) h⟩
    refine Ev.step (fun k => by rw [hgo k, hb]) (Ev.step (f := fun _ => some ([], 13)) (fun k => ?_) (Ev.now _))
    rw [shell_Words.j3, if_pos rfl, if_pos (by omega), if_pos (by omega), h2, if_pos ((c34 c).2 h34)]
   ·have hj : ∀ k, shell_Words.j3 (k + 1) s acc (i : Int) (a : Int) true = shell_Words.l1 k s acc ((i + 1 : Nat) : Int) (a : Int) := fun k => by
     rw [shell_Words.j3, if_pos rfl, if_pos (by omega), if_pos (by omega), h2, if_neg fun e => h34 ((c34 c).1 e), hw]
    refine ⟨fun h => ?_, fun h r hr => ?_⟩
    ·exact Ev.step (fun k => by rw [hgo k, hb]) (Ev.step hj (ih1 (h.resolve_left fun e => h34 e.symm)))
    ·refine Ev.step (fun k => by rw [hgo k, hb]) (Ev.step hj (ih2 (fun e => h (.inr e)) r ?_))
     have e1 : i + ((t.takeWhile nb).length + 1) = i + 1 + (t.takeWhile nb).length := by omega
     rw [e1] at hr
     exact hr
theorem sj1_q {k i j : Nat} {acc : List ByteArray} {q : ByteArray × Int × Bool} (hq : shell_quoted.f k (s.extract (i + 1) s.size) = some q) (hi : i < s.size) (h2 : bt s (i : Int) = 34) (hacc : acc.length < 8796093022208) (hok : q.2.2 = true) (hW : wrap64 ((i : Int) + wrap64 (1 + q.2.1)) = (j : Int)) :
  shell_Words.j1 (k + 1) s acc (i : Int) false = if ((bs s).drop j).head?.all isBl = true then shell_Words.l0 k s (acc ++ [q.1]) (j : Int) else some ([], 13) := by
 have hw : wrap64 ((i : Int) + 1) = ((i + 1 : Nat) : Int) := (wrap_2 (i := i) (by omega)).1
 rw [shell_Words.j1, if_neg (by decide), if_pos (by omega), if_pos (by omega), h2, if_neg (by decide), if_pos rfl, hw, if_pos (by omega), if_pos (by omega), Int.toNat_natCast, hq]
 simp only [Option.bind_some]
 rw [if_pos hok, hW, if_pos hacc]
 exact near_if s j _ _ _
theorem sj1_bad {k i : Nat} {acc : List ByteArray} {q : ByteArray × Int × Bool} (hq : shell_quoted.f k (s.extract (i + 1) s.size) = some q) (hi : i < s.size) (h2 : bt s (i : Int) = 34) (hok : ¬ q.2.2 = true) :
  shell_Words.j1 (k + 1) s acc (i : Int) false = some ([], 13) := by
 have hw : wrap64 ((i : Int) + 1) = ((i + 1 : Nat) : Int) := (wrap_2 (i := i) (by omega)).1
 rw [shell_Words.j1, if_neg (by decide), if_pos (by omega), if_pos (by omega), h2, if_neg (by decide), if_pos rfl, hw, if_pos (by omega), if_pos (by omega), Int.toNat_natCast, hq]
 simp only [Option.bind_some]
 rw [if_neg hok]
theorem swords : ∀ (m i : Nat) (acc : List ByteArray), s.size - i ≤ m → i ≤ s.size → acc.length ≤ i → Ev (fun k => shell_Words.l0 k s acc (i : Int)) (wrdV acc (wrdS ((bs s).drop i))) := by
 intro m
 induction m with
 | zero =>
  intro i acc hm hi ha
  have : (bs s).drop i = [] := drop_end.2 (by omega)
  rw [this]
  refine Ev.step (f := fun _ => some (wrdV acc (wrdS []))) (fun k => ?_) (Ev.now _)
  rw [shell_Words.l0, if_neg (by omega)]
  simp [wrdV, wrdS_nil]
 | succ m ih =>
  intro i acc hm hi ha
  cases hd : (bs s).drop i with
  | nil =>
   have := drop_end.1 hd
   refine Ev.step (f := fun _ => some (wrdV acc (wrdS []))) (fun k => ?_) (Ev.now _)
   rw [shell_Words.l0, if_neg (by omega)]
   simp [wrdV, wrdS_nil]
  | cons c t =>
   obtain ⟨h1, h2, h3⟩ := bt_cons hd
   have hw : wrap64 ((i : Int) + 1) = ((i + 1 : Nat) : Int) := (wrap_2 (i := i) (by omega)).1
   have hlen : t.length + 1 = s.size - i := by
    have : ((bs s).drop i).length = s.size - i := by rw [List.length_drop, bs_len]
    rw [hd] at this
    exact this
   have hacc : acc.length < 8796093022208 := by omega
   refine Ev.step (f := fun k => shell_Words.j1 k s acc (i : Int) (isBl c)) (fun k => ?_) ?_
   ·rw [shell_Words.l0, if_pos (by omega), if_pos (by omega), h2]
    exact blk_if (fun b => shell_Words.j1 k s acc (i : Int) b) c
   cases hb : isBl c with
   | true =>
    rw [wrdS_blank t hb, ← h3]
    refine Ev.step (fun k => ?_) (ih (i + 1) acc (by omega) (by omega) (by omega))
    rw [shell_Words.j1, if_pos rfl, hw]
   | false =>
    have hb' : ¬ isBl c = true := by rw [hb]; decide
    by_cases h35 : c = 35
    ·subst h35
     rw [wrdS_hash]
     refine Ev.step (f := fun _ => some (wrdV acc (some []))) (fun k => ?_) (Ev.now _)
     rw [shell_Words.j1, if_neg (by decide), if_pos (by omega), if_pos (by omega), h2, if_pos ((c35 35).2 rfl)]
     simp [wrdV]
    by_cases h34 : c = 34
    ·subst h34
     have hq : ∀ k, 2 * s.size + 3 ≤ k → shell_quoted.f k (s.extract (i + 1) s.size) = some (quoV [] 0 (quoS t)) := fun k hk => by
      have hx := extract_drop s (i + 1)
      rw [h3] at hx
      have hsz : (s.extract (i + 1) s.size).size ≤ s.size := by
       have := bs_len (s.extract (i + 1) s.size)
       rw [hx] at this
       omega
      rw [quoted_ok _ (by omega) k (by omega), hx]
     cases hqs : quoS t with
     | none =>
      rw [wrdS_quote_none hqs]
      refine Ev.late (f := fun _ => some (wrdV acc none)) (2 * s.size + 3) (fun k hk => ?_) (Ev.now _)
      have hqk := hq k hk
      rw [hqs] at hqk
      rw [sj1_bad hs hqk h1 h2 (by decide)]
      rfl
     | some p =>
      obtain ⟨w, n⟩ := p
      have hle : 1 ≤ n ∧ n ≤ t.length := quoS_le _ _ _ hqs
      have hgo : ∀ k, 2 * s.size + 3 ≤ k → shell_Words.j1 (k + 1) s acc (i : Int) false = if ((bs s).drop (i + 1 + n)).head?.all isBl = true then shell_Words.l0 k s (acc ++ [strB w]) ((i + 1 + n : Nat) : Int) else some ([], 13) := fun k hk => by
       have hqk := hq k hk
       rw [hqs] at hqk
       have e0 : quoV [] 0 (some (w, n)) = (strB w, (n : Int), true) := by
        have e2 : strOfNums ([] ++ nat8 w) = strB w := nums_strB w
        show (strOfNums ([] ++ nat8 w), ((0 + n : Nat) : Int), true) = _
        rw [e2, Nat.zero_add]
       rw [e0] at hqk
       exact sj1_q hs hqk h1 h2 hacc rfl (wrap_q (by omega))
      have hdn : (bs s).drop (i + 1 + n) = t.drop n := by rw [← h3, List.drop_drop]
      by_cases hn : (t.drop n).head?.all isBl = true
      ·rw [wrdS_quote hqs hn, wrdV_cons, ← hdn]
       refine Ev.late (2 * s.size + 3) (fun k hk => ?_) (ih (i + 1 + n) (acc ++ [strB w]) (by omega) (by omega) (by rw [List.length_append]; simp only [List.length_cons, List.length_nil]; omega))
       rw [hgo k hk, hdn, if_pos hn]
      ·rw [wrdS_quote_near hqs hn]
       refine Ev.late (f := fun _ => some (wrdV acc none)) (2 * s.size + 3) (fun k hk => ?_) (Ev.now _)
       rw [hgo k hk, hdn, if_neg hn]
       rfl
    ·have hraw := sraw hs acc hacc i (c :: t) i hd (Nat.le_refl _) hi
     have hj : ∀ k, shell_Words.j1 (k + 1) s acc (i : Int) false = shell_Words.l1 k s acc (i : Int) (i : Int) := fun k => by
      rw [shell_Words.j1, if_neg (by decide), if_pos (by omega), if_pos (by omega), h2, if_neg fun e => h35 ((c35 c).1 e), if_neg fun e => h34 ((c34 c).1 e)]
     have hpos : 1 ≤ ((c :: t).takeWhile nb).length := by rw [List.takeWhile_cons, show nb c = true from by simp [nb, hb]]; simp
     have hlen2 : ((c :: t).takeWhile nb).length ≤ t.length + 1 := by
      have := (List.takeWhile_prefix (l := c :: t) nb).length_le
      simpa using this
     by_cases hq : (34 : UInt8) ∈ (c :: t).takeWhile nb
     ·rw [wrdS_raw_none hb' h35 h34 hq]
      exact Ev.step hj (hraw.1 hq)
     ·rw [wrdS_raw hb' h35 h34 hq, wrdV_cons]
      refine Ev.step hj (hraw.2 hq _ ?_)
      have e1 : s.extract i (i + ((c :: t).takeWhile nb).length) = strB ((c :: t).takeWhile nb) := extract_word s (by rw [hd]; exact (tw_take (c :: t)).symm)
      have e2 : (c :: t).dropWhile nb = (bs s).drop (i + ((c :: t).takeWhile nb).length) := by rw [dw_drop, ← hd, List.drop_drop]
      rw [e1, show (c :: t).dropWhile (fun d => !isBl d) = (bs s).drop (i + ((c :: t).takeWhile nb).length) from e2]
      exact ih _ _ (by omega) (by omega) (by rw [List.length_append]; simp only [List.length_cons, List.length_nil]; omega)
theorem shell_words : Ev (fun k => shell_Words.f k s) (wrdV [] (wrdS (bs s))) := swords hs s.size 0 [] (by omega) (by omega) (by simp)
end shell
end Go.Proofs.YtccahbfbbaaicaaGreatDoor.Pw
/- Words of a line: what the reference comes to. -/
set_option linter.unusedVariables false
namespace Go.Proofs.YtccahbfbbaaicaaGreatDoor.Pw
open Go.RowKit Go.Proofs.YtccahbfbbaaicaaGreatDoor.PWd Go.Proofs.YtccahbfbbaaicaaGreatDoorW.PrintWords Go.Proofs.YtccahbfbbaaicaaGreatDoorW.PrintLast Go.Proofs.YtccahbfbbaaicaaGreatDoor.Giv Go.Proofs.YtccahbfbbaaicaaGreatDoor.Nn
section ref
variable {s : ByteArray} (hs : s.size ≤ 1000000000)
include hs
theorem rraw (acc : List ByteArray) (hacc : acc.length < 8796093022208) (a : Nat) : ∀ (d : List UInt8) (i : Nat), (bs s).drop i = d → a ≤ i → i ≤ s.size →
  ((34 : UInt8) ∈ d.takeWhile nb → Ev (fun k => anticlineref18_Words.l2 k s acc (i : Int) (a : Int)) ([], 13)) ∧
  (¬ (34 : UInt8) ∈ d.takeWhile nb → ∀ r, Ev (fun k => anticlineref18_Words.l0 k s (acc ++ [s.extract a (i + (d.takeWhile nb).length)]) ((i + (d.takeWhile nb).length : Nat) : Int)) r → Ev (fun k => anticlineref18_Words.l2 k s acc (i : Int) (a : Int)) r) := by
 have stop : ∀ i : Nat, a ≤ i → i ≤ s.size → ∀ r, Ev (fun k => anticlineref18_Words.l0 k s (acc ++ [s.extract a i]) (i : Int)) r → Ev (fun k => anticlineref18_Words.j5 k s acc (i : Int) (a : Int) false) r := fun i ha hi r hr =>
  Ev.step (fun k => by rw [anticlineref18_Words.j5, if_neg (by decide), if_pos (by omega), if_pos (by omega), if_pos (by omega), if_pos hacc]; rfl) hr
 intro d
 induction d with
 | nil =>
  intro i hd ha hi
  have := drop_end.1 hd
  refine ⟨fun h => by simp at h, fun _ r hr => ?_⟩
  refine Ev.step (fun k => ?_) (stop i ha hi r hr)
  rw [anticlineref18_Words.l2, if_neg (by omega)]
 | cons c t ih =>
  intro i hd ha hi
  obtain ⟨h1, h2, h3⟩ := bt_cons hd
  have hgo : ∀ k, anticlineref18_Words.l2 (k + 1) s acc (i : Int) (a : Int) = anticlineref18_Words.j5 k s acc (i : Int) (a : Int) (nb c) := fun k => by
   rw [anticlineref18_Words.l2, if_pos (by omega), if_pos (by omega), h2]
   exact nbk_if (fun b => anticlineref18_Words.j5 k s acc (i : Int) (a : Int) b) c
  cases hb : nb c with
  | false =>
   rw [List.takeWhile_cons, hb]
   refine ⟨fun h => by simp at h, fun _ r hr => ?_⟩
   exact Ev.step (fun k => by rw [hgo k, hb]) (stop i ha hi r hr)
  | true =>
   rw [List.takeWhile_cons, hb]
   simp only [if_true, List.length_cons, List.mem_cons]
   have hw : wrap64 ((i : Int) + 1) = ((i + 1 : Nat) : Int) := (wrap_2 (i := i) (by omega)).1
   obtain ⟨ih1, ih2⟩ := ih (i + 1) h3 (by omega) (by omega)
   by_cases h34 : c = 34
   ·refine ⟨fun _ => ?_, fun h => absurd (.inl h34.symm) h⟩
    refine Ev.step (fun k => by rw [hgo k, hb]) (Ev.step (f := fun _ => some ([], 13)) (fun k => ?_) (Ev.now _))
    rw [anticlineref18_Words.j5, if_pos rfl, if_pos (by omega), if_pos (by omega), h2, if_pos ((c34 c).2 h34)]
   ·have hj : ∀ k, anticlineref18_Words.j5 (k + 1) s acc (i : Int) (a : Int) true = anticlineref18_Words.l2 k s acc ((i + 1 : Nat) : Int) (a : Int) := fun k => by
     rw [anticlineref18_Words.j5, if_pos rfl, if_pos (by omega), if_pos (by omega), h2, if_neg fun e => h34 ((c34 c).1 e), hw]
    refine ⟨fun h => ?_, fun h r hr => ?_⟩
    ·exact Ev.step (fun k => by rw [hgo k, hb]) (Ev.step hj (ih1 (h.resolve_left fun e => h34 e.symm)))
    ·refine Ev.step (fun k => by rw [hgo k, hb]) (Ev.step hj (ih2 (fun e => h (.inr e)) r ?_))
     have e1 : i + ((t.takeWhile nb).length + 1) = i + 1 + (t.takeWhile nb).length := by omega
     rw [e1] at hr
     exact hr
theorem rj3_q {k i j : Nat} {acc : List ByteArray} {q : ByteArray × Int} (hq : anticlineref18_quoted.f k s (i : Int) = some q) (hi : i < s.size) (h2 : bt s (i : Int) = 34) (hacc : acc.length < 8796093022208) (hW : q.2 = (j : Int)) :
  anticlineref18_Words.j3 (k + 1) s acc (i : Int) false = if ((bs s).drop j).head?.all isBl = true then anticlineref18_Words.l0 k s (acc ++ [q.1]) (j : Int) else some ([], 13) := by
 have _u := hs
 rw [anticlineref18_Words.j3, if_neg (by decide), if_pos (by omega), if_pos (by omega), h2, if_pos rfl, hq]
 simp only [Option.bind_some]
 rw [hW, if_neg (by omega), if_pos hacc]
 exact near_if s j _ _ _
theorem rj3_none {k i : Nat} {acc : List ByteArray} {q : ByteArray × Int} (hq : anticlineref18_quoted.f k s (i : Int) = some q) (hi : i < s.size) (h2 : bt s (i : Int) = 34) (hok : q.2 < 0) :
  anticlineref18_Words.j3 (k + 1) s acc (i : Int) false = some ([], 13) := by
 have _u := hs
 rw [anticlineref18_Words.j3, if_neg (by decide), if_pos (by omega), if_pos (by omega), h2, if_pos rfl, hq]
 simp only [Option.bind_some]
 rw [if_pos hok]
theorem rwords_end {i : Nat} (acc : List ByteArray) (hd : (bs s).drop i = []) : Ev (fun k => anticlineref18_Words.l1 k s acc (i : Int)) (wrdV acc (wrdS [])) := by
 have _u := hs
 have := drop_end.1 hd
 refine Ev.step (f := fun k => anticlineref18_Words.j2 k s acc (i : Int)) (fun k => by rw [anticlineref18_Words.l1, if_neg (by omega)]) ?_
 refine Ev.step (f := fun k => anticlineref18_Words.j3 k s acc (i : Int) true) (fun k => by rw [anticlineref18_Words.j2, if_pos (by omega)]) ?_
 refine Ev.step (f := fun _ => some (wrdV acc (wrdS []))) (fun k => ?_) (Ev.now _)
 rw [anticlineref18_Words.j3, if_pos rfl]
 simp [wrdV, wrdS_nil]
theorem rwords : ∀ (m i : Nat) (acc : List ByteArray), s.size - i ≤ m → i ≤ s.size → acc.length ≤ i → Ev (fun k => anticlineref18_Words.l1 k s acc (i : Int)) (wrdV acc (wrdS ((bs s).drop i))) := by
 intro m
 induction m with
 | zero =>
  intro i acc hm hi ha
  have hd : (bs s).drop i = [] := drop_end.2 (by omega)
  rw [hd]
  exact rwords_end hs acc hd
 | succ m ih =>
  intro i acc hm hi ha
  cases hd : (bs s).drop i with
  | nil => exact rwords_end hs acc hd
  | cons c t =>
   obtain ⟨h1, h2, h3⟩ := bt_cons hd
   have hw : wrap64 ((i : Int) + 1) = ((i + 1 : Nat) : Int) := (wrap_2 (i := i) (by omega)).1
   have hlen : t.length + 1 = s.size - i := by
    have : ((bs s).drop i).length = s.size - i := by rw [List.length_drop, bs_len]
    rw [hd] at this
    exact this
   have hacc : acc.length < 8796093022208 := by omega
   cases hb : isBl c with
   | true =>
    rw [wrdS_blank t hb, ← h3]
    refine Ev.step (fun k => ?_) (ih (i + 1) acc (by omega) (by omega) (by omega))
    rw [anticlineref18_Words.l1, if_pos (by omega), if_pos (by omega), h2, hw]
    simp only [c32, c9]
    by_cases a : c = 32
    ·rw [if_pos a]
    ·rw [if_neg a]
     by_cases b : c = 9
     ·rw [if_pos b]
     ·unfold isBl at hb
      rw [beq_eq_false_iff_ne.2 a, beq_eq_false_iff_ne.2 b] at hb
      cases hb
   | false =>
    have hb' : ¬ isBl c = true := by rw [hb]; decide
    have n32 : c ≠ 32 := fun e => by rw [e] at hb; cases hb
    have n9 : c ≠ 9 := fun e => by rw [e] at hb; cases hb
    refine Ev.step (f := fun k => anticlineref18_Words.j2 k s acc (i : Int)) (fun k => ?_) ?_
    ·rw [anticlineref18_Words.l1, if_pos (by omega), if_pos (by omega), h2, if_neg fun e => n32 ((c32 c).1 e), if_neg fun e => n9 ((c9 c).1 e)]
    refine Ev.step (f := fun k => anticlineref18_Words.j3 k s acc (i : Int) ((c.toNat : Int) == 35)) (fun k => ?_) ?_
    ·rw [anticlineref18_Words.j2, if_neg (by omega), if_pos (by omega), if_pos (by omega), h2]
    by_cases h35 : c = 35
    ·subst h35
     rw [wrdS_hash]
     refine Ev.step (f := fun _ => some (wrdV acc (some []))) (fun k => ?_) (Ev.now _)
     rw [anticlineref18_Words.j3, if_pos (by rfl)]
     simp [wrdV]
    have e35 : ((c.toNat : Int) == 35) = false := beq_eq_false_iff_ne.2 fun e => h35 ((c35 c).1 e)
    rw [e35]
    by_cases h34 : c = 34
    ·subst h34
     have hq : ∀ k, 4 * s.size + 8 ≤ k → anticlineref18_quoted.f k s (i : Int) = some (quoW [] (i + 1) (quoS t)) := fun k hk => by
      rw [rquoted_ok s (by omega) i h1 k hk, h3]
     cases hqs : quoS t with
     | none =>
      rw [wrdS_quote_none hqs]
      refine Ev.late (f := fun _ => some (wrdV acc none)) (4 * s.size + 8) (fun k hk => ?_) (Ev.now _)
      have hqk := hq k hk
      rw [hqs] at hqk
      rw [rj3_none hs hqk h1 h2 (show (-1 : Int) < 0 by decide)]
      rfl
     | some p =>
      obtain ⟨w, n⟩ := p
      have hle : 1 ≤ n ∧ n ≤ t.length := quoS_le _ _ _ hqs
      have hgo : ∀ k, 4 * s.size + 8 ≤ k → anticlineref18_Words.j3 (k + 1) s acc (i : Int) false = if ((bs s).drop (i + 1 + n)).head?.all isBl = true then anticlineref18_Words.l0 k s (acc ++ [strB w]) ((i + 1 + n : Nat) : Int) else some ([], 13) := fun k hk => by
       have hqk := hq k hk
       rw [hqs] at hqk
       have e0 : quoW [] (i + 1) (some (w, n)) = (strB w, ((i + 1 + n : Nat) : Int)) := by
        have e2 : strOfNums ([] ++ nat8 w) = strB w := nums_strB w
        show (strOfNums ([] ++ nat8 w), ((i + 1 + n : Nat) : Int)) = _
        rw [e2]
       rw [e0] at hqk
       exact rj3_q hs hqk h1 h2 hacc rfl
      have hdn : (bs s).drop (i + 1 + n) = t.drop n := by rw [← h3, List.drop_drop]
      by_cases hn : (t.drop n).head?.all isBl = true
      ·rw [wrdS_quote hqs hn, wrdV_cons, ← hdn]
       refine Ev.late (4 * s.size + 8) (fun k hk => ?_) (Ev.step (g := fun k => anticlineref18_Words.l0 k s (acc ++ [strB w]) ((i + 1 + n : Nat) : Int)) (fun k => by rw [anticlineref18_Words.l0]) (ih (i + 1 + n) (acc ++ [strB w]) (by omega) (by omega) (by rw [List.length_append]; simp only [List.length_cons, List.length_nil]; omega)))
       rw [hgo k hk, hdn, if_pos hn]
      ·rw [wrdS_quote_near hqs hn]
       refine Ev.late (f := fun _ => some (wrdV acc none)) (4 * s.size + 8) (fun k hk => ?_) (Ev.now _)
       rw [hgo k hk, hdn, if_neg hn]
       rfl
    ·have hraw := rraw hs acc hacc i (c :: t) i hd (Nat.le_refl _) hi
     have hj : ∀ k, anticlineref18_Words.j3 (k + 1) s acc (i : Int) false = anticlineref18_Words.l2 k s acc (i : Int) (i : Int) := fun k => by
      rw [anticlineref18_Words.j3, if_neg (by decide), if_pos (by omega), if_pos (by omega), h2, if_neg fun e => h34 ((c34 c).1 e)]
     have hpos : 1 ≤ ((c :: t).takeWhile nb).length := by rw [List.takeWhile_cons, show nb c = true from by simp [nb, hb]]; simp
     have hlen2 : ((c :: t).takeWhile nb).length ≤ t.length + 1 := by
      have := (List.takeWhile_prefix (l := c :: t) nb).length_le
      simpa using this
     by_cases hq : (34 : UInt8) ∈ (c :: t).takeWhile nb
     ·rw [wrdS_raw_none hb' h35 h34 hq]
      exact Ev.step hj (hraw.1 hq)
     ·rw [wrdS_raw hb' h35 h34 hq, wrdV_cons]
      refine Ev.step hj (hraw.2 hq _ ?_)
      have e1 : s.extract i (i + ((c :: t).takeWhile nb).length) = strB ((c :: t).takeWhile nb) := extract_word s (by rw [hd]; exact (tw_take (c :: t)).symm)
      have e2 : (c :: t).dropWhile nb = (bs s).drop (i + ((c :: t).takeWhile nb).length) := by rw [dw_drop, ← hd, List.drop_drop]
      rw [e1, show (c :: t).dropWhile (fun d => !isBl d) = (bs s).drop (i + ((c :: t).takeWhile nb).length) from e2]
      exact Ev.step (fun k => by rw [anticlineref18_Words.l0]) (ih _ _ (by omega) (by omega) (by rw [List.length_append]; simp only [List.length_cons, List.length_nil]; omega))
theorem ref_words : Ev (fun k => anticlineref18_Words.f k s) (wrdV [] (wrdS (bs s))) :=
 Ev.step (g := fun k => anticlineref18_Words.l0 k s [] 0) (fun k => by rw [anticlineref18_Words.l0]; rfl) (rwords hs s.size 0 [] (by omega) (by omega) (by simp))
end ref
end Go.Proofs.YtccahbfbbaaicaaGreatDoor.Pw
/- Bytes that are quoted: what both printed functions come to. -/
set_option linter.unusedVariables false
namespace Go.Proofs.YtccahbfbbaaicaaGreatDoor.Pw
open Go.RowKit Go.Proofs.YtccahbfbbaaicaaGreatDoor.PWd Go.Proofs.YtccahbfbbaaicaaGreatDoorW.PrintWords Go.Proofs.YtccahbfbbaaicaaGreatDoorW.PrintLast Go.Proofs.YtccahbfbbaaicaaGreatDoor.Giv Go.Proofs.YtccahbfbbaaicaaGreatDoor.Nn
theorem and15 (c : UInt8) : Go.bits .and .u8 (c.toNat : Int) 15 = ((c.toNat % 16 : Nat) : Int) := by
 have h := u8_and_nat c.toNat 15 c.toNat_lt (by decide)
 rw [Nat.and_two_pow_sub_one_eq_mod c.toNat 4] at h
 exact h
theorem div16 (c : UInt8) : (c.toNat : Int) / 16 = ((c.toNat / 16 : Nat) : Int) := by omega
theorem bt16_all : ∀ d : Fin 16, bt sixteen (d.val : Int) = ((hexD d.val).toNat : Int) := by decide
theorem bt16 {d : Nat} (h : d < 16) : bt sixteen (d : Int) = ((hexD d).toNat : Int) := bt16_all ⟨d, h⟩
theorem rd_at {bl : List UInt8} {i : Nat} {c : UInt8} {t : List UInt8} (hd : bl.drop i = c :: t) : rd (nat8 bl) (i : Int) = (c.toNat : Int) ∧ i < bl.length ∧ bl.drop (i + 1) = t := by
 have hl : i < bl.length := by
  rcases Nat.lt_or_ge i bl.length with h' | h'
  ·exact h'
  ·rw [List.drop_eq_nil_of_le h'] at hd; cases hd
 have h2 := List.drop_eq_getElem_cons hl
 rw [hd] at h2
 obtain ⟨e1, e2⟩ := List.cons.inj h2
 refine ⟨?_, hl, e2.symm⟩
 unfold rd nat8
 rw [Int.toNat_natCast, List.getD_eq_getElem?_getD, List.getElem?_map, List.getElem?_eq_getElem hl, e1]
 rfl
theorem quoB_hex {c : UInt8} (h1 : ¬ (c = 92 ∨ c = 34)) (h2 : c ≠ 10) (h3 : c ≠ 9) (h4 : c.toNat < 32 ∨ 126 < c.toNat) : nat8 (quoB c) = [92, 120, bt sixteen ((c.toNat / 16 : Nat) : Int), bt sixteen ((c.toNat % 16 : Nat) : Int)] := by
 have := c.toNat_lt
 rw [bt16 (show c.toNat / 16 < 16 by omega), bt16 (show c.toNat % 16 < 16 by omega)]
 unfold quoB
 rw [if_neg h1, if_neg h2, if_neg h3, if_pos h4]
 rfl
theorem quoB_raw {c : UInt8} (h1 : ¬ (c = 92 ∨ c = 34)) (h2 : c ≠ 10) (h3 : c ≠ 9) (h4 : ¬ (c.toNat < 32 ∨ 126 < c.toNat)) : nat8 (quoB c) = [(c.toNat : Int)] := by
 unfold quoB
 rw [if_neg h1, if_neg h2, if_neg h3, if_neg h4]
 rfl
theorem quoB_len (c : UInt8) : (nat8 (quoB c)).length ≤ 4 := by
 unfold nat8 quoB
 rw [List.length_map]
 split
 ·simp
 ·split
  ·simp
  ·split
   ·simp
   ·split <;> simp
theorem sq_step {bl : List UInt8} {i : Nat} {c : UInt8} {t : List UInt8} (hd : bl.drop i = c :: t) {out : List Int} (ho : out.length < 140737488355000) (hl : bl.length < 4000000000) (k : Nat) :
  shell_Quote.l0 (k + 1) out (nat8 bl) (bl.length : Int) (i : Int) = shell_Quote.l0 k (out ++ nat8 (quoB c)) (nat8 bl) (bl.length : Int) ((i + 1 : Nat) : Int) := by
 obtain ⟨h1, h2, h3⟩ := rd_at hd
 have hw : wrap64 ((i : Int) + 1) = ((i + 1 : Nat) : Int) := (wrap_2 (i := i) (by omega)).1
 have hlen : ((nat8 bl).length : Int) = (bl.length : Int) := by rw [List.length_map]
 have hc := c.toNat_lt
 rw [shell_Quote.l0, hlen, if_pos (by omega), if_pos (by omega), if_pos (by omega), h1, hw]
 simp only [c92, c34, c10, c9, Option.bind_some, and15, div16]
 by_cases a1 : c = 92
 ·rw [if_pos a1, if_pos (by simp; omega), a1]; rfl
 rw [if_neg a1]
 by_cases a2 : c = 34
 ·rw [if_pos a2, if_pos (by simp; omega), a2]; rfl
 have aa : ¬ (c = 92 ∨ c = 34) := fun h => h.elim a1 a2
 rw [if_neg a2]
 by_cases a3 : c = 10
 ·rw [if_pos a3, if_pos (by simp; omega), a3]; rfl
 rw [if_neg a3]
 by_cases a4 : c = 9
 ·rw [if_pos a4, if_pos (by simp; omega), a4]; rfl
 rw [if_neg a4]
 by_cases a5 : c.toNat < 32
 ·rw [if_pos (by omega), if_pos (by omega), if_pos (by omega), if_pos (by omega), if_pos (by omega), if_pos (by simp; omega), quoB_hex aa a3 a4 (.inl a5)]
 rw [if_neg (by omega)]
 by_cases a6 : 126 < c.toNat
 ·rw [if_pos (by omega), if_pos (by omega), if_pos (by omega), if_pos (by omega), if_pos (by omega), if_pos (by simp; omega), quoB_hex aa a3 a4 (.inr a6)]
 ·rw [if_neg (by omega), if_pos (by omega), quoB_raw aa a3 a4 (fun h => h.elim a5 a6)]
def quoR (out : List Int) (d : List UInt8) : ByteArray := strOfNums (out ++ nat8 (d.flatMap quoB) ++ [34])
theorem quoR_cons (out : List Int) (c : UInt8) (t : List UInt8) : quoR out (c :: t) = quoR (out ++ nat8 (quoB c)) t := by simp [quoR, List.flatMap_cons]
theorem squote (bl : List UInt8) (hl : bl.length < 4000000000) : ∀ (d : List UInt8) (i : Nat) (out : List Int), bl.drop i = d → out.length ≤ 4 * i + 1 → i ≤ bl.length → Ev (fun k => shell_Quote.l0 k out (nat8 bl) (bl.length : Int) (i : Int)) (quoR out d) := by
 intro d
 induction d with
 | nil =>
  intro i out hd ho hi
  have := List.drop_eq_nil_iff.1 hd
  refine Ev.step (f := fun _ => some (quoR out [])) (fun k => ?_) (Ev.now _)
  rw [shell_Quote.l0, if_neg (by omega), if_pos (by omega)]
  simp [quoR]
 | cons c t ih =>
  intro i out hd ho hi
  obtain ⟨h1, h2, h3⟩ := rd_at hd
  have h4 := quoB_len c
  rw [quoR_cons]
  exact Ev.step (fun k => sq_step hd (by omega) hl k) (ih (i + 1) _ h3 (by rw [List.length_append]; omega) (by omega))
theorem shell_quote (bl : List UInt8) (hl : bl.length < 4000000000) : Ev (fun k => shell_Quote.f k (nat8 bl)) (quoR [34] bl) := by
 have h := squote bl hl bl 0 [34] rfl (by simp) (by omega)
 refine Ev.congr (fun k => ?_) h
 unfold shell_Quote.f
 rw [List.length_map]
 rfl
theorem rq_step {bl : List UInt8} {i : Nat} {c : UInt8} {t : List UInt8} (hd : bl.drop i = c :: t) {out : List Int} (ho : out.length < 140737488355000) (hl : bl.length < 4000000000) (k : Nat) :
  anticlineref18_Quote.l0 (k + 2) (nat8 bl) sixteen out (i : Int) = anticlineref18_Quote.l0 k (nat8 bl) sixteen (out ++ nat8 (quoB c)) ((i + 1 : Nat) : Int) := by
 obtain ⟨h1, h2, h3⟩ := rd_at hd
 have hw : wrap64 ((i : Int) + 1) = ((i + 1 : Nat) : Int) := (wrap_2 (i := i) (by omega)).1
 have hlen : ((nat8 bl).length : Int) = (bl.length : Int) := by rw [List.length_map]
 have hc := c.toNat_lt
 have h16 : (sixteen.size : Int) = 16 := rfl
 rw [anticlineref18_Quote.l0, hlen, if_pos (by omega), if_pos (by omega), h1]
 have hj : (if (c.toNat : Int) = 92 then anticlineref18_Quote.j1 (k + 1) (nat8 bl) sixteen out (i : Int) (c.toNat : Int) true else anticlineref18_Quote.j1 (k + 1) (nat8 bl) sixteen out (i : Int) (c.toNat : Int) ((c.toNat : Int) == 34)) = anticlineref18_Quote.j1 (k + 1) (nat8 bl) sixteen out (i : Int) (c.toNat : Int) (decide (c = 92 ∨ c = 34)) := by
  by_cases d1 : c = 92
  ·rw [if_pos ((c92 c).2 d1), decide_eq_true (show c = 92 ∨ c = 34 from .inl d1)]
  ·rw [if_neg fun e => d1 ((c92 c).1 e)]
   congr 1
   by_cases d2 : c = 34
   ·rw [decide_eq_true (show c = 92 ∨ c = 34 from .inr d2)]
    exact beq_iff_eq.2 ((c34 c).2 d2)
   ·rw [decide_eq_false (show ¬ (c = 92 ∨ c = 34) from fun h => h.elim d1 d2)]
    exact beq_eq_false_iff_ne.2 fun e => d2 ((c34 c).1 e)
 rw [hj, anticlineref18_Quote.j1, hw, h16]
 simp only [decide_eq_true_eq, c10, c9, Option.bind_some, and15, div16]
 by_cases aa : c = 92 ∨ c = 34
 ·rw [if_pos aa, if_pos (by simp; omega)]
  have : nat8 (quoB c) = [92, (c.toNat : Int)] := by unfold quoB; rw [if_pos aa]; rfl
  rw [this]
 rw [if_neg aa]
 by_cases a3 : c = 10
 ·rw [if_pos a3, if_pos (by simp; omega), a3]; rfl
 rw [if_neg a3]
 by_cases a4 : c = 9
 ·rw [if_pos a4, if_pos (by simp; omega), a4]; rfl
 rw [if_neg a4]
 by_cases a5 : c.toNat < 32
 ·rw [if_pos (by omega), if_pos (by omega), if_pos (by omega), if_pos (by omega), if_pos (by omega), if_pos (by simp; omega), quoB_hex aa a3 a4 (.inl a5)]
 rw [if_neg (by omega)]
 by_cases a6 : 126 < c.toNat
 ·rw [if_pos (by omega), if_pos (by omega), if_pos (by omega), if_pos (by omega), if_pos (by omega), if_pos (by simp; omega), quoB_hex aa a3 a4 (.inr a6)]
 ·rw [if_neg (by omega), if_pos (by omega), quoB_raw aa a3 a4 (fun h => h.elim a5 a6)]
theorem Ev.two {α : Type} {g f : Nat → Option α} {r : α} (h : ∀ k, g (k + 2) = f k) (k : Ev f r) : Ev g r := by
 obtain ⟨K, k⟩ := k
 refine ⟨K + 2, fun n hn => ?_⟩
 obtain ⟨m, rfl⟩ : ∃ m, n = m + 2 := ⟨n - 2, by omega⟩
 rw [h m]
 exact k m (by omega)
theorem rquote (bl : List UInt8) (hl : bl.length < 4000000000) : ∀ (d : List UInt8) (i : Nat) (out : List Int), bl.drop i = d → out.length ≤ 4 * i + 1 → i ≤ bl.length → Ev (fun k => anticlineref18_Quote.l0 k (nat8 bl) sixteen out (i : Int)) (quoR out d) := by
 intro d
 induction d with
 | nil =>
  intro i out hd ho hi
  have := List.drop_eq_nil_iff.1 hd
  have hlen : ((nat8 bl).length : Int) = (bl.length : Int) := by rw [List.length_map]
  refine Ev.step (f := fun _ => some (quoR out [])) (fun k => ?_) (Ev.now _)
  rw [anticlineref18_Quote.l0, hlen, if_neg (by omega), if_pos (by omega)]
  simp [quoR]
 | cons c t ih =>
  intro i out hd ho hi
  obtain ⟨h1, h2, h3⟩ := rd_at hd
  have h4 := quoB_len c
  rw [quoR_cons]
  exact Ev.two (fun k => rq_step hd (by omega) hl k) (ih (i + 1) _ h3 (by rw [List.length_append]; omega) (by omega))
theorem ref_quote (bl : List UInt8) (hl : bl.length < 4000000000) : Ev (fun k => anticlineref18_Quote.f k (nat8 bl)) (quoR [34] bl) := rquote bl hl bl 0 [34] rfl (by simp) (by omega)
theorem quoR_bytes (bl : List UInt8) : quoR [34] bl = strB (quoL bl) := by
 unfold quoR
 have : ([34] ++ nat8 (bl.flatMap quoB) ++ [34] : List Int) = nat8 (quoL bl) := by simp [quoL, nat8]
 rw [this, nums_strB]
end Go.Proofs.YtccahbfbbaaicaaGreatDoor.Pw
/- The law ShellWords, where its known answers are known. -/
set_option linter.unusedVariables false
namespace Go.Proofs.YtccahbfbbaaicaaGreatDoor.Pw
open Go.RowKit Go.Proofs.YtccahbfbbaaicaaGreatDoor.PWd Go.Proofs.YtccahbfbbaaicaaGreatDoorW.PrintWords Go.Proofs.YtccahbfbbaaicaaGreatDoorW.PrintLast Go.Proofs.YtccahbfbbaaicaaGreatDoor.Giv Go.Proofs.YtccahbfbbaaicaaGreatDoor.Nn
theorem wrdF_len : ∀ (k : Nat) (l : List UInt8) (ws : List (List UInt8)), wrdF k l = some ws → ws.length ≤ l.length := by
  intro k
  induction k with
  | zero => intro l ws h; cases h; exact Nat.zero_le _
  | succ k ih =>
    intro l ws h
    unfold wrdF at h
    cases l with
    | nil => cases h; exact Nat.zero_le _
    | cons c t =>
      simp only at h
      rw [List.length_cons]
      split at h
      · have := ih _ _ h; omega
      · rename_i hb
        split at h
        · cases h; exact Nat.zero_le _
        · split at h
          · split at h
            · cases h
            · rename_i w n hq
              split at h
              · obtain ⟨r, hr, rfl⟩ := Option.map_eq_some_iff.1 h
                have := ih _ _ hr
                rw [List.length_drop] at this
                rw [List.length_cons]
                omega
              · cases h
          · split at h
            · cases h
            · obtain ⟨r, hr, rfl⟩ := Option.map_eq_some_iff.1 h
              have h1 := ih _ _ hr
              rw [List.dropWhile_cons, if_pos (by simp [hb])] at h1
              have h2 := drop_raw t
              rw [List.length_cons]
              omega
theorem wrdS_len {l : List UInt8} {ws : List (List UInt8)} (h : wrdS l = some ws) : ws.length ≤ l.length := wrdF_len _ l ws h
theorem law_loop (bl : List UInt8) (hb : bl.length < 4000000000) (ws : List ByteArray) (hw : ws.length < 4000000000) : ∀ (m i : Nat), ws.length - i ≤ m → i ≤ ws.length → Ev (fun k => anticlinelaw18_ShellWords.l0 k (nat8 bl) ws ws (i : Int)) true := by
  have hq1 := shell_quote bl hb
  have hq2 := ref_quote bl hb
  have hlen : (nat8 bl).length = bl.length := List.length_map ..
  have fin : Ev (fun k => anticlinelaw18_ShellWords.l0 k (nat8 bl) ws ws ((ws.length : Nat) : Int)) true := by
    refine Ev.step (f := fun k => (shell_Quote.f k (nat8 bl)).bind fun t259 => ((anticlineref18_Quote.f k (nat8 bl)).bind fun t260 => (if t259.toList = t260.toList then (some ((strOfNums (nat8 bl)).toList == (strOfNums (nat8 bl)).toList)) else (some false)))) (fun k => ?_) ?_
    · rw [anticlinelaw18_ShellWords.l0, if_neg (by omega)]
      simp only [Option.bind_some, List.nil_append]
      rw [if_pos (by rw [hlen]; simp; omega)]
    · refine Ev.bind hq1 (Ev.bind hq2 ?_)
      refine Ev.congr (f := fun _ => some true) (fun k => ?_) (Ev.now _)
      rw [if_pos rfl, beq_self_eq_true]
  intro m
  induction m with
  | zero =>
    intro i hm hi
    obtain rfl : i = ws.length := by omega
    exact fin
  | succ m ih =>
    intro i hm hi
    by_cases h : i = ws.length
    · subst h; exact fin
    · have hw1 : wrap64 ((i : Int) + 1) = ((i + 1 : Nat) : Int) := wrap_nat (n := i + 1) (by omega)
      refine Ev.step (fun k => ?_) (ih (i + 1) (by omega) (by omega))
      rw [anticlinelaw18_ShellWords.l0, if_pos (by omega), if_pos (by omega), if_pos (by omega), if_pos rfl, hw1]
theorem law_true (s : ByteArray) (hs : s.size ≤ 1000000000) (bl : List UInt8) (hb : bl.length < 4000000000) : ∃ k, anticlinelaw18_ShellWords.f k s (nat8 bl) = some true := by
  have h1 := shell_words hs
  have h2 := ref_words hs
  obtain ⟨q, hq⟩ : ∃ q, q = wrdV [] (wrdS (bs s)) := ⟨_, rfl⟩
  rw [← hq] at h1 h2
  have hlen : q.1.length < 4000000000 := by
    rw [hq]
    cases hw : wrdS (bs s) with
    | none => simp [wrdV]
    | some ws =>
      have := wrdS_len hw
      rw [bs_len] at this
      simp only [wrdV, List.nil_append, List.length_map]
      omega
  have hl := law_loop bl hb q.1 hlen q.1.length 0 (by omega) (by omega)
  refine Ev.rounds (g := fun k => anticlinelaw18_ShellWords.f k s (nat8 bl)) ?_
  have : Ev (fun k => (some true : Option Bool).bind fun t242 => (if t242 = true then ((shell_Words.f k s).bind fun bt243 => ((anticlineref18_Words.f k s).bind fun bt247 => (if bt243.2 = bt247.2 then (anticlinelaw18_ShellWords.j0 k (nat8 bl) bt243.1 bt247.1 ((bt243.1.length : Int) != (bt247.1.length : Int))) else (anticlinelaw18_ShellWords.j0 k (nat8 bl) bt243.1 bt247.1 true)))) else (some false))) true := by
    simp only [Option.bind_some, if_true]
    refine Ev.bind h1 (Ev.bind h2 ?_)
    refine Ev.congr (f := fun k => anticlinelaw18_ShellWords.j0 k (nat8 bl) q.1 q.1 false) (fun k => ?_) (Ev.step (fun k => ?_) hl)
    · rw [if_pos rfl]
      congr 1
      exact bne_self_eq_false _
    · rw [anticlinelaw18_ShellWords.j0, if_neg (by decide)]
      rfl
  exact this
end Go.Proofs.YtccahbfbbaaicaaGreatDoor.Pw
