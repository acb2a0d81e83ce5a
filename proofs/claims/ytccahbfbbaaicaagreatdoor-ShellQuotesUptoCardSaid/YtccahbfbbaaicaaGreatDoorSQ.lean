/- Words of a line, bytes that are quoted, for shellquotes: the small texts of this part, one behind another. -/
import Derived.Test.YtccahbfbbaaicaaGreatDoorPQtx2
import Derived.Test.YtccahbfbbaaicaaGreatDoorSP
import Derived.Test.YtccahbfbbaaicaaGreatDoorPQtx3
import Derived.Laws.BitsAllLaws
import Derived.Test.YtccahbfbbaaicaaGreatDoorPQtx4
import Derived.Test.YtccahbfbbaaicaaGreatDoorGiv2
/- Quoted words: what the printed functions come to. -/
set_option linter.unusedVariables false
namespace Go.Proofs.YtccahbfbbaaicaaGreatDoor.Pq
open Go.RowKit Go.Proofs.YtccahbfbbaaicaaGreatDoor.PQt Go.Proofs.YtccahbfbbaaicaaGreatDoorW.PrintWords Go.Proofs.YtccahbfbbaaicaaGreatDoorW.PrintLast Go.Proofs.YtccahbfbbaaicaaGreatDoor.Giv Go.Proofs.YtccahbfbbaaicaaGreatDoor.Nn
abbrev bs (s : ByteArray) : List UInt8 := s.data.toList
theorem bs_len (s : ByteArray) : (bs s).length = s.size := by rw [Array.length_toList]; rfl
theorem bt_cons {s : ByteArray} {i : Nat} {c : UInt8} {t : List UInt8} (h : (bs s).drop i = c :: t) : i < s.size ∧ bt s (i : Int) = (c.toNat : Int) ∧ (bs s).drop (i + 1) = t := by
 have hl : i < (bs s).length := by
  rcases Nat.lt_or_ge i (bs s).length with h' | h'
  ·exact h'
  ·rw [List.drop_eq_nil_of_le h'] at h; cases h
 have h2 := List.drop_eq_getElem_cons hl
 rw [h] at h2
 obtain ⟨e1, e2⟩ := List.cons.inj h2
 rw [bs_len] at hl
 refine ⟨hl, ?_, e2.symm⟩
 unfold bt
 rw [dif_pos (show (i : Int).toNat < s.size from hl), e1]
 rfl
theorem drop_end {s : ByteArray} {i : Nat} : (bs s).drop i = [] ↔ s.size ≤ i := by rw [List.drop_eq_nil_iff, bs_len]
theorem c_eq {c d : UInt8} : ((c.toNat : Int) = (d.toNat : Int)) ↔ c = d := ⟨fun h => UInt8.toNat_inj.1 (by omega), fun h => by rw [h]⟩
theorem c92 (c : UInt8) : ((c.toNat : Int) = 92) ↔ c = 92 := c_eq (d := 92)
theorem c34 (c : UInt8) : ((c.toNat : Int) = 34) ↔ c = 34 := c_eq (d := 34)
theorem c10 (c : UInt8) : ((c.toNat : Int) = 10) ↔ c = 10 := c_eq (d := 10)
theorem c9 (c : UInt8) : ((c.toNat : Int) = 9) ↔ c = 9 := c_eq (d := 9)
theorem c32 (c : UInt8) : ((c.toNat : Int) = 32) ↔ c = 32 := c_eq (d := 32)
theorem c35 (c : UInt8) : ((c.toNat : Int) = 35) ↔ c = 35 := c_eq (d := 35)
theorem c110 (c : UInt8) : ((c.toNat : Int) = 110) ↔ c = 110 := c_eq (d := 110)
theorem c116 (c : UInt8) : ((c.toNat : Int) = 116) ↔ c = 116 := c_eq (d := 116)
theorem c120 (c : UInt8) : ((c.toNat : Int) = 120) ↔ c = 120 := c_eq (d := 120)
abbrev sixteen : ByteArray := ⟨#[48, 49, 50, 51, 52, 53, 54, 55, 56, 57, 97, 98, 99, 100, 101, 102]⟩
theorem hex_all : ∀ n : Fin 256, Lib.indexByte [48, 49, 50, 51, 52, 53, 54, 55, 56, 57, 97, 98, 99, 100, 101, 102] (UInt8.ofNat n.val) = if hexV (UInt8.ofNat n.val) < 16 then (hexV (UInt8.ofNat n.val) : Int) else -1 := by decide +kernel
theorem index_hex (c : UInt8) : strings_IndexByte.f sixteen (c.toNat : Int) = some (if hexV c < 16 then (hexV c : Int) else -1) := by
 have h := hex_all ⟨c.toNat, c.toNat_lt⟩
 simp only [UInt8.ofNat_toNat] at h
 rw [← h]
 unfold strings_IndexByte.f
 rw [Int.toNat_natCast]
 congr 2
 exact UInt8.ofNat_toNat
def escV : Option (UInt8 × Nat) → Int × Int
 | some (b, n) => ((b.toNat : Int), (n : Int))
 | none => (0, 0)
theorem wrap_hex {a b : Nat} (ha : a < 16) (hb : b < 16) : (wrap64 ((wrap64 (16 * (a : Int))) + (b : Int))) % 256 = (((UInt8.ofNat (16 * a + b)).toNat : Nat) : Int) := by
 have : (UInt8.ofNat (16 * a + b)).toNat = 16 * a + b := by rw [UInt8.toNat_ofNat']; omega
 rw [this]
 unfold wrap64
 omega
def escX : List UInt8 → Option (UInt8 × Nat)
 | a :: b :: _ => if hexV a < 16 ∧ hexV b < 16 then some (UInt8.ofNat (16 * hexV a + hexV b), 4) else none
 | _ => none
theorem escS_92 (d : UInt8) (t2 : List UInt8) : escS (92 :: d :: t2) = if d = 92 ∨ d = 34 then some (d, 2) else if d = 110 then some (10, 2) else if d = 116 then some (9, 2) else if d = 120 then escX t2 else none := rfl
theorem escS_not {c : UInt8} (t : List UInt8) (h : c ≠ 92) : escS (c :: t) = some (c, 1) := by
 unfold escS
 simp only [if_pos h]
theorem j0_ok {s : ByteArray} {d : UInt8} {t2 : List UInt8} (hl : bs s = 92 :: d :: t2) (k : Nat) : shell_escape.j0 (k + 1) s (d.toNat : Int) (decide (d = 92 ∨ d = 34)) = some (escV (escS (92 :: d :: t2))) := by
 have h1 := bt_cons (s := s) (i := 1) (c := d) (t := t2) (by rw [hl]; rfl)
 have e1 : bt s 1 = (d.toNat : Int) := h1.2.1
 have hsz : s.size = t2.length + 2 := by rw [← bs_len, hl]; rfl
 simp only [shell_escape.j0, decide_eq_true_eq, e1, c110, c116, c120]
 rw [escS_92]
 by_cases h : d = 92 ∨ d = 34
 ·rw [if_pos h, if_pos h, if_pos (by omega)]; rfl
 rw [if_neg h, if_neg h]
 by_cases h2 : d = 110
 ·rw [if_pos h2, if_pos h2]; rfl
 rw [if_neg h2, if_neg h2]
 by_cases h3 : d = 116
 ·rw [if_pos h3, if_pos h3]; rfl
 rw [if_neg h3, if_neg h3]
 by_cases h4 : d = 120
 ·rw [if_pos h4, if_pos h4]
  match t2, hl, hsz with
  | [], hl, hsz => rw [if_pos (by simp at hsz; omega)]; rfl
  | [a], hl, hsz => rw [if_pos (by simp at hsz; omega)]; rfl
  | a :: b :: t4, hl, hsz =>
   simp only [List.length_cons] at hsz
   have g2 : bt s 2 = (a.toNat : Int) := (bt_cons (s := s) (i := 2) (c := a) (t := b :: t4) (by rw [hl]; rfl)).2.1
   have g3 : bt s 3 = (b.toNat : Int) := (bt_cons (s := s) (i := 3) (c := b) (t := t4) (by rw [hl]; rfl)).2.1
   rw [if_neg (by omega), if_pos (by omega), g2, index_hex]
   simp only [Option.bind_some]
   rw [if_pos (by omega), g3, index_hex]
   simp only [Option.bind_some]
   by_cases ha : hexV a < 16
   ·rw [if_pos ha]
    rw [if_pos (by omega)]
    by_cases hb : hexV b < 16
    ·rw [if_pos hb, if_pos (by omega), wrap_hex ha hb]
     unfold escX
     simp only
     rw [if_pos ⟨ha, hb⟩]
     rfl
    ·rw [if_neg hb, if_neg (by omega)]
     unfold escX
     simp only
     rw [if_neg (fun h => hb h.2)]
     rfl
   ·rw [if_neg ha, if_neg (by omega)]
    unfold escX
    simp only
    rw [if_neg (fun h => ha h.1)]
    rfl
 ·rw [if_neg h4, if_neg h4]; rfl
theorem esc_ok {s : ByteArray} {c : UInt8} {t : List UInt8} (hl : bs s = c :: t) (k : Nat) : shell_escape.f (k + 1) s = some (escV (escS (c :: t))) := by
 have h0 := bt_cons (s := s) (i := 0) (c := c) (t := t) hl
 have e0 : bt s 0 = (c.toNat : Int) := h0.2.1
 have hsz : s.size = t.length + 1 := by rw [← bs_len, hl]; rfl
 unfold shell_escape.f
 rw [if_pos (by omega), e0]
 simp only [c92]
 by_cases h : c = 92
 ·rw [if_pos h]
  subst h
  cases t with
  | nil => rw [if_pos (by simp at hsz; omega)]; rfl
  | cons d t2 =>
   simp only [List.length_cons] at hsz
   have e1 : bt s 1 = (d.toNat : Int) := (bt_cons (s := s) (i := 1) (c := d) (t := t2) (by rw [hl]; rfl)).2.1
   rw [if_neg (by omega), if_pos (by omega), e1]
   have hj := j0_ok hl k
   rw [← hj]
   simp only [c92]
   by_cases h1 : d = 92
   ·rw [if_pos h1]
    congr 1
    rw [decide_eq_true (show d = 92 ∨ d = 34 from .inl h1)]
    exact beq_iff_eq.2 ((c92 d).2 h1)
   ·rw [if_neg h1]
    congr 1
    by_cases h2 : d = 34
    ·rw [decide_eq_true (show d = 92 ∨ d = 34 from .inr h2)]
     exact beq_iff_eq.2 ((c34 d).2 h2)
    ·rw [decide_eq_false (show ¬ (d = 92 ∨ d = 34) from fun h => h.elim h1 h2)]
     exact beq_eq_false_iff_ne.2 fun e => h2 ((c34 d).1 e)
 ·rw [if_neg h, escS_not t h]
  rfl
abbrev nat8 (l : List UInt8) : List Int := l.map fun c => (c.toNat : Int)
def quoV (out : List Int) (i : Nat) : Option (List UInt8 × Nat) → ByteArray × Int × Bool
 | some (w, n) => (strOfNums (out ++ nat8 w), ((i + n : Nat) : Int), true)
 | none => (⟨#[]⟩, 0, false)
theorem wrap_nat {n : Nat} (h : n < 9223372036854775808) : wrap64 (n : Int) = n := by unfold wrap64; omega
theorem extract_drop (s : ByteArray) (i : Nat) : bs (s.extract i s.size) = (bs s).drop i := by
 unfold bs
 rw [Lib.extract_data, List.take_of_length_le (by rw [List.length_drop, Array.length_toList]; exact Nat.le_refl _)]
theorem quo_arith {S i n m o k : Nat} (h1 : S - i ≤ m + 1) (h2 : 1 ≤ n) (h3 : n ≤ S - i) (h4 : o ≤ i) (h5 : 2 * (m + 1) + 3 ≤ k + 1 + 1) (hi : i < S) (hs : S ≤ 140737488351232) :
  S - (i + n) ≤ m ∧ i + n ≤ S ∧ o + 1 ≤ i + n ∧ 2 * m + 3 ≤ k + 1 ∧ i + n < 9223372036854775808 ∧ o < 140737488355328 ∧ ¬ ((n : Int) = 0) := by omega
theorem quo_ok (s : ByteArray) (hs : s.size ≤ 140737488351232) : ∀ (m i : Nat) (out : List Int), s.size - i ≤ m → i ≤ s.size → out.length ≤ i → ∀ k, 2 * m + 3 ≤ k → shell_quoted.l0 k s out (i : Int) = some (quoV out i (quoS ((bs s).drop i))) := by
 intro m
 induction m with
 | zero =>
  intro i out hm hi ho k hk
  obtain ⟨k, rfl⟩ : ∃ j, k = j + 1 := ⟨k - 1, by omega⟩
  have : (bs s).drop i = [] := drop_end.2 (by omega)
  rw [this]
  simp only [shell_quoted.l0]
  rw [if_neg (by omega)]
  rfl
 | succ m ih =>
  intro i out hm hi ho k hk
  obtain ⟨k, rfl⟩ : ∃ j, k = j + 1 := ⟨k - 1, by omega⟩
  obtain ⟨k, rfl⟩ : ∃ j, k = j + 1 := ⟨k - 1, by omega⟩
  cases hd : (bs s).drop i with
  | nil =>
   have := drop_end.1 hd
   simp only [shell_quoted.l0]
   rw [if_neg (by omega)]
   rfl
  | cons c t =>
   obtain ⟨h1, h2, h3⟩ := bt_cons hd
   rw [shell_quoted.l0, if_pos (by omega), if_pos (by omega), h2]
   simp only [c34]
   by_cases h34 : c = 34
   ·rw [if_pos h34, quoS_end _ (by rw [h34]; rfl)]
    have : wrap64 ((i : Int) + 1) = ((i + 1 : Nat) : Int) := wrap_nat (n := i + 1) (by omega)
    rw [this]
    simp [quoV]
   ·rw [if_neg h34, if_pos (by omega), Int.toNat_natCast]
    have hx := extract_drop s i
    rw [hd] at hx
    rw [esc_ok hx]
    simp only [Option.bind_some]
    have hh : (c :: t).head? ≠ some 34 := by simp [h34]
    cases he : escS (c :: t) with
    | none => rw [quoS_none hh he]; rfl
    | some p =>
     obtain ⟨b, n⟩ := p
     have hp := escS_pos he
     simp only at hp
     have hlen : (c :: t).length = s.size - i := by rw [← hd, List.length_drop, bs_len]
     rw [hlen] at hp
     obtain ⟨q1, q2, q3, q4, q5, q6, q7⟩ := quo_arith hm hp.1 hp.2 ho hk h1 hs
     show (if (n : Int) = 0 then some ((⟨#[]⟩ : ByteArray), (0 : Int), false) else if out.length < 140737488355328 then shell_quoted.l0 (k + 1) s (out ++ [(b.toNat : Int)]) (wrap64 ((i : Int) + (n : Int))) else none) = _
     rw [if_neg q7, if_pos q6]
     have hw : wrap64 ((i : Int) + (n : Int)) = ((i + n : Nat) : Int) := wrap_nat (n := i + n) q5
     have hih := ih (i + n) (out ++ [(b.toNat : Int)]) q1 q2 (by rw [List.length_append]; exact q3) (k + 1) q4
     rw [hw, hih, quoS_step hh he]
     have hdd : (bs s).drop (i + n) = (c :: t).drop n := by rw [← hd, List.drop_drop]
     rw [hdd]
     cases quoS ((c :: t).drop n) with
     | none => rfl
     | some q => simp [quoV, Nat.add_assoc]
theorem quoted_ok (s : ByteArray) (hs : s.size ≤ 140737488351232) (k : Nat) (hk : 2 * s.size + 3 ≤ k) : shell_quoted.f k s = some (quoV [] 0 (quoS (bs s))) := quo_ok s hs s.size 0 [] (by omega) (by omega) (by simp) k hk
end Go.Proofs.YtccahbfbbaaicaaGreatDoor.Pq
/- Quoted words, as the reference reads them. -/
set_option linter.unusedVariables false
namespace Go.Proofs.YtccahbfbbaaicaaGreatDoor.Pq
open Go.RowKit Go.Proofs.YtccahbfbbaaicaaGreatDoor.PQt Go.Proofs.YtccahbfbbaaicaaGreatDoorW.PrintWords Go.Proofs.YtccahbfbbaaicaaGreatDoorW.PrintLast Go.Proofs.YtccahbfbbaaicaaGreatDoor.Giv Go.Proofs.YtccahbfbbaaicaaGreatDoor.Nn
def hexI (c : UInt8) : Int := if hexV c < 16 then (hexV c : Int) else -1
def quoW (out : List Int) (i : Nat) : Option (List UInt8 × Nat) → ByteArray × Int
 | some (w, n) => (strOfNums (out ++ nat8 w), ((i + n : Nat) : Int))
 | none => (⟨#[]⟩, -1)
theorem quoW_step (out : List Int) (i n : Nat) (b : UInt8) (q : Option (List UInt8 × Nat)) : quoW out i (q.map fun p => (b :: p.1, n + p.2)) = quoW (out ++ [(b.toNat : Int)]) (i + n) q := by
 cases q with
 | none => rfl
 | some q => simp [quoW, Nat.add_assoc]
theorem wrap_2 {i : Nat} (h : i < 140737488355328) : wrap64 ((i : Int) + 1) = ((i + 1 : Nat) : Int) ∧ wrap64 ((i : Int) + 2) = ((i + 2 : Nat) : Int) ∧ wrap64 ((i : Int) + 3) = ((i + 3 : Nat) : Int) ∧ wrap64 (wrap64 ((i : Int) + 2) + 2) = ((i + 4 : Nat) : Int) := by
 unfold wrap64
 omega
end Go.Proofs.YtccahbfbbaaicaaGreatDoor.Pq
/- Words of a line: what both printed functions come to. -/
set_option linter.unusedVariables false
namespace Go.Proofs.YtccahbfbbaaicaaGreatDoor.Pq
open Go.RowKit Go.Proofs.YtccahbfbbaaicaaGreatDoor.PQt Go.Proofs.YtccahbfbbaaicaaGreatDoorW.PrintWords Go.Proofs.YtccahbfbbaaicaaGreatDoorW.PrintLast Go.Proofs.YtccahbfbbaaicaaGreatDoor.Giv Go.Proofs.YtccahbfbbaaicaaGreatDoor.Nn
def strB (l : List UInt8) : ByteArray := ⟨l.toArray⟩
theorem strB_of {s : ByteArray} {l : List UInt8} (h : bs s = l) : s = strB l := by subst h; rfl
theorem bs_strB (l : List UInt8) : bs (strB l) = l := rfl
theorem nums_strB (w : List UInt8) : strOfNums (nat8 w) = strB w := by
 unfold strOfNums strB nat8
 rw [List.map_map]
 congr 2
 conv => rhs; rw [← List.map_id w]
 exact List.map_congr_left fun c _ => by simp
def wrdV (acc : List ByteArray) : Option (List (List UInt8)) → List ByteArray × Int
 | some ws => (acc ++ ws.map strB, 0)
 | none => ([], 13)
theorem wrdV_cons (acc : List ByteArray) (w : List UInt8) (q : Option (List (List UInt8))) : wrdV acc (q.map (w :: ·)) = wrdV (acc ++ [strB w]) q := by
 cases q with
 | none => rfl
 | some q => simp [wrdV]
abbrev nb (d : UInt8) : Bool := !isBl d
theorem dw_drop (l : List UInt8) : l.dropWhile nb = l.drop (l.takeWhile nb).length := by
 induction l with
 | nil => rfl
 | cons c t ih =>
  rw [List.dropWhile_cons, List.takeWhile_cons]
  cases h : nb c with
  | true => simp [ih]
  | false => simp
theorem tw_take (l : List UInt8) : l.takeWhile nb = l.take (l.takeWhile nb).length := by
 induction l with
 | nil => rfl
 | cons c t ih =>
  rw [List.takeWhile_cons]
  cases h : nb c with
  | true => simp; exact ih
  | false => simp
theorem blk_if {α : Type} (f : Bool → α) (c : UInt8) : (if (c.toNat : Int) = 32 then f true else f ((c.toNat : Int) == 9)) = f (isBl c) := by
 unfold isBl
 by_cases h : c = 32
 ·rw [if_pos ((c32 c).2 h), h]; rfl
 ·rw [if_neg fun e => h ((c32 c).1 e)]
  congr 1
  by_cases h2 : c = 9
  ·rw [h2]; rfl
  ·rw [beq_eq_false_iff_ne.2 fun e => h2 ((c9 c).1 e), beq_eq_false_iff_ne.2 h, beq_eq_false_iff_ne.2 h2]; rfl
theorem nbk_if {α : Type} (f : Bool → α) (c : UInt8) : (if (c.toNat : Int) = 32 then f false else f ((c.toNat : Int) != 9)) = f (nb c) := by
 unfold nb isBl
 by_cases h : c = 32
 ·rw [if_pos ((c32 c).2 h), h]; rfl
 ·rw [if_neg fun e => h ((c32 c).1 e)]
  congr 1
  by_cases h2 : c = 9
  ·rw [h2]; rfl
  ·rw [bne_iff_ne.2 fun e => h2 ((c9 c).1 e), beq_eq_false_iff_ne.2 h, beq_eq_false_iff_ne.2 h2]; rfl
theorem near_if {α : Type} (s : ByteArray) (i : Nat) (X Y N : α) : (if (i : Int) < (s.size : Int) then (if 0 ≤ (i : Int) then (if bt s (i : Int) = 32 then X else (if bt s (i : Int) = 9 then X else Y)) else N) else X) = if ((bs s).drop i).head?.all isBl = true then X else Y := by
 cases hd : (bs s).drop i with
 | nil =>
  have := drop_end.1 hd
  rw [if_neg (show ¬ (i : Int) < (s.size : Int) by omega), if_pos (by rfl)]
 | cons c t =>
  obtain ⟨h1, h2, _⟩ := bt_cons hd
  rw [if_pos (show (i : Int) < (s.size : Int) by omega), if_pos (show 0 ≤ (i : Int) by omega), h2]
  have hall : (c :: t).head?.all isBl = isBl c := rfl
  rw [hall]
  simp only [c32, c9]
  by_cases a : c = 32
  ·rw [if_pos a, if_pos (show isBl c = true by rw [a]; rfl)]
  ·rw [if_neg a]
   by_cases b : c = 9
   ·rw [if_pos b, if_pos (show isBl c = true by rw [b]; rfl)]
   ·rw [if_neg b, if_neg (show ¬ isBl c = true by unfold isBl; rw [beq_eq_false_iff_ne.2 a, beq_eq_false_iff_ne.2 b]; decide)]
theorem Ev.late {α : Type} {g f : Nat → Option α} {r : α} (K : Nat) (h : ∀ k, K ≤ k → g (k + 1) = f k) (k : Ev f r) : Ev g r := by
 obtain ⟨K2, k⟩ := k
 refine ⟨max K K2 + 1, fun n hn => ?_⟩
 obtain ⟨m, rfl⟩ : ∃ m, n = m + 1 := ⟨n - 1, by omega⟩
 rw [h m (by omega)]
 exact k m (by omega)
theorem extract_word (s : ByteArray) {a n : Nat} {w : List UInt8} (h : ((bs s).drop a).take n = w) : s.extract a (a + n) = strB w := strB_of (by rw [← h]; unfold bs; rw [Lib.extract_data, Nat.add_sub_cancel_left])
theorem wrap_q {i n : Nat} (h : i + n < 4000000000000) : wrap64 ((i : Int) + wrap64 (1 + (n : Int))) = ((i + 1 + n : Nat) : Int) := by
 have : wrap64 (1 + (n : Int)) = ((1 + n : Nat) : Int) := wrap_nat (n := 1 + n) (by omega)
 rw [this]
 have h2 : wrap64 ((i : Int) + ((1 + n : Nat) : Int)) = ((i + (1 + n) : Nat) : Int) := wrap_nat (n := i + (1 + n)) (by omega)
 rw [h2, Nat.add_assoc]
section shell
variable {s : ByteArray} (hs : s.size ≤ 1000000000)
include hs
theorem sraw (acc : List ByteArray) (hacc : acc.length < 8796093022208) (a : Nat) : ∀ (d : List UInt8) (i : Nat), (bs s).drop i = d → a ≤ i → i ≤ s.size →
  ((34 : UInt8) ∈ d.takeWhile nb → Ev (fun k => shell_Words.l1 k s acc (i : Int) (a : Int)) ([], 13)) ∧
  (¬ (34 : UInt8) ∈ d.takeWhile nb → ∀ r, Ev (fun k => shell_Words.l0 k s (acc ++ [s.extract a (i + (d.takeWhile nb).length)]) ((i + (d.takeWhile nb).length : Nat) : Int)) r → Ev (fun k => shell_Words.l1 k s acc (i : Int) (a : Int)) r) := by
 have stop : ∀ i : Nat, a ≤ i → i ≤ s.size → ∀ r, Ev (fun k => shell_Words.l0 k s (acc ++ [s.extract a i]) (i : Int)) r → Ev (fun k => shell_Words.j3 k s acc (i : Int) (a : Int) false) r := fun i ha hi r hr =>
  Ev.step (fun k => by rw [shell_Words.j3, if_neg (by decide), if_pos (by omega), if_pos (by omega), if_pos (by omega), if_pos hacc]; rfl) hr
 intro d
 induction d with
 | nil =>
  intro i hd ha hi
  have := drop_end.1 hd
  refine ⟨fun h => by simp at h, fun _ r hr => ?_⟩
  refine Ev.step (fun k => ?_) (stop i ha hi r hr)
  rw [shell_Words.l1, if_neg (by omega)]
 | cons c t ih =>
  intro i hd ha hi
  obtain ⟨h1, h2, h3⟩ := bt_cons hd
  have hgo : ∀ k, shell_Words.l1 (k + 1) s acc (i : Int) (a : Int) = shell_Words.j3 k s acc (i : Int) (a : Int) (nb c) := fun k => by
   rw [shell_Words.l1, if_pos (by omega), if_pos (by omega), h2]
   exact nbk_if (fun b => shell_Words.j3 k s acc (i : Int) (a : Int) b) c
  cases hb : nb c with
  | false =>
   rw [List.takeWhile_cons, hb]
   refine ⟨fun h => by simp at h, fun _ r hr => ?_⟩
   exact Ev.step (fun k => by rw [hgo k, hb]) (stop i ha hi r hr)
  | true =>
   rw [List.takeWhile_cons, hb]
   simp only [if_true, List.length_cons, List.mem_cons]
   have hw : wrap64 ((i : Int) + 1) = ((i + 1 : Nat) : Int) := (wrap_2 (i := i) (by omega)).1
   obtain ⟨ih1, ih2⟩ := ih (i + 1) h3 (by omega) (by omega)
   by_cases h34 : c = 34
   ·refine ⟨fun _ => ?_, fun h => absurd (.inl h34.symm) h⟩
    refine Ev.step (fun k => by rw [hgo k, hb]) (Ev.step (f := fun _ => some ([], 13)) (fun k => ?_) (Ev.now _))
    rw [shell_Words.j3, if_pos rfl, if_pos (by omega), if_pos (by omega), h2, if_pos ((c34 c).2 h34)]
   ·have hj : ∀ k, shell_Words.j3 (k + 1) s acc (i : Int) (a : Int) true = shell_Words.l1 k s acc ((i + 1 : Nat) : Int) (a : Int) := fun k => by
     rw [shell_Words.j3, if_pos rfl, if_pos (by omega), if_pos (by omega), h2, if_neg fun e => h34 ((c34 c).1 e), hw]
    refine ⟨fun h => ?_, fun h r hr => ?_⟩
    ·exact Ev.step (fun k => by rw [hgo k, hb]) (Ev.step hj (ih1 (h.resolve_left fun e => h34 e.symm)))
    ·refine Ev.step (fun k => by rw [hgo k, hb]) (Ev.step hj (ih2 (fun e => h (.inr e)) r ?_))
     have e1 : i + ((t.takeWhile nb).length + 1) = i + 1 + (t.takeWhile nb).length := by omega
     rw [e1] at hr
     exact hr
theorem sj1_q {k i j : Nat} {acc : List ByteArray} {q : ByteArray × Int × Bool} (hq : shell_quoted.f k (s.extract (i + 1) s.size) = some q) (hi : i < s.size) (h2 : bt s (i : Int) = 34) (hacc : acc.length < 8796093022208) (hok : q.2.2 = true) (hW : wrap64 ((i : Int) + wrap64 (1 + q.2.1)) = (j : Int)) :
  shell_Words.j1 (k + 1) s acc (i : Int) false = if ((bs s).drop j).head?.all isBl = true then shell_Words.l0 k s (acc ++ [q.1]) (j : Int) else some ([], 13) := by
 have hw : wrap64 ((i : Int) + 1) = ((i + 1 : Nat) : Int) := (wrap_2 (i := i) (by omega)).1
 rw [shell_Words.j1, if_neg (by decide), if_pos (by omega), if_pos (by omega), h2, if_neg (by decide), if_pos rfl, hw, if_pos (by omega), if_pos (by omega), Int.toNat_natCast, hq]
 simp only [Option.bind_some]
 rw [if_pos hok, hW, if_pos hacc]
 exact near_if s j _ _ _
theorem sj1_bad {k i : Nat} {acc : List ByteArray} {q : ByteArray × Int × Bool} (hq : shell_quoted.f k (s.extract (i + 1) s.size) = some q) (hi : i < s.size) (h2 : bt s (i : Int) = 34) (hok : ¬ q.2.2 = true) :
  shell_Words.j1 (k + 1) s acc (i : Int) false = some ([], 13) := by
 have hw : wrap64 ((i : Int) + 1) = ((i + 1 : Nat) : Int) := (wrap_2 (i := i) (by omega)).1
 rw [shell_Words.j1, if_neg (by decide), if_pos (by omega), if_pos (by omega), h2, if_neg (by decide), if_pos rfl, hw, if_pos (by omega), if_pos (by omega), Int.toNat_natCast, hq]
 simp only [Option.bind_some]
 rw [if_neg hok]
theorem swords : ∀ (m i : Nat) (acc : List ByteArray), s.size - i ≤ m → i ≤ s.size → acc.length ≤ i → Ev (fun k => shell_Words.l0 k s acc (i : Int)) (wrdV acc (wrdS ((bs s).drop i))) := by
 intro m
 induction m with
 | zero =>
  intro i acc hm hi ha
  have : (bs s).drop i = [] := drop_end.2 (by omega)
  rw [this]
  refine Ev.step (f := fun _ => some (wrdV acc (wrdS []))) (fun k => ?_) (Ev.now _)
  rw [shell_Words.l0, if_neg (by omega)]
  simp [wrdV, wrdS_nil]
 | succ m ih =>
  intro i acc hm hi ha
  cases hd : (bs s).drop i with
  | nil =>
   have := drop_end.1 hd
   refine Ev.step (f := fun _ => some (wrdV acc (wrdS []))) (fun k => ?_) (Ev.now _)
   rw [shell_Words.l0, if_neg (by omega)]
   simp [wrdV, wrdS_nil]
  | cons c t =>
   obtain ⟨h1, h2, h3⟩ := bt_cons hd
   have hw : wrap64 ((i : Int) + 1) = ((i + 1 : Nat) : Int) := (wrap_2 (i := i) (by omega)).1
   have hlen : t.length + 1 = s.size - i := by
    have : ((bs s).drop i).length = s.size - i := by rw [List.length_drop, bs_len]
    rw [hd] at this
    exact this
   have hacc : acc.length < 8796093022208 := by omega
   refine Ev.step (f := fun k => shell_Words.j1 k s acc (i : Int) (isBl c)) (fun k => ?_) ?_
   ·rw [shell_Words.l0, if_pos (by omega), if_pos (by omega), h2]
    exact blk_if (fun b => shell_Words.j1 k s acc (i : Int) b) c
   cases hb : isBl c with
   | true =>
    rw [wrdS_blank t hb, ← h3]
    refine Ev.step (fun k => ?_) (ih (i + 1) acc (by omega) (by omega) (by omega))
    rw [shell_Words.j1, if_pos rfl, hw]
   | false =>
    have hb' : ¬ isBl c = true := by rw [hb]; decide
    by_cases h35 : c = 35
    ·subst h35
     rw [wrdS_hash]
     refine Ev.step (f := fun _ => some (wrdV acc (some []))) (fun k => ?_) (Ev.now _)
     rw [shell_Words.j1, if_neg (by decide), if_pos (by omega), if_pos (by omega), h2, if_pos ((c35 35).2 rfl)]
     simp [wrdV]
    by_cases h34 : c = 34
    ·subst h34
     have hq : ∀ k, 2 * s.size + 3 ≤ k → shell_quoted.f k (s.extract (i + 1) s.size) = some (quoV [] 0 (quoS t)) := fun k hk => by
      have hx := extract_drop s (i + 1)
      rw [h3] at hx
      have hsz : (s.extract (i + 1) s.size).size ≤ s.size := by
       have := bs_len (s.extract (i + 1) s.size)
       rw [hx] at this
       omega
      rw [quoted_ok _ (by omega) k (by omega), hx]
     cases hqs : quoS t with
     | none =>
      rw [wrdS_quote_none hqs]
      refine Ev.late (f := fun _ => some (wrdV acc none)) (2 * s.size + 3) (fun k hk => ?_) (Ev.now _)
      have hqk := hq k hk
      rw [hqs] at hqk
      rw [sj1_bad hs hqk h1 h2 (by decide)]
      rfl
     | some p =>
      obtain ⟨w, n⟩ := p
      have hle : 1 ≤ n ∧ n ≤ t.length := quoS_le _ _ _ hqs
      have hgo : ∀ k, 2 * s.size + 3 ≤ k → shell_Words.j1 (k + 1) s acc (i : Int) false = if ((bs s).drop (i + 1 + n)).head?.all isBl = true then shell_Words.l0 k s (acc ++ [strB w]) ((i + 1 + n : Nat) : Int) else some ([], 13) := fun k hk => by
       have hqk := hq k hk
       rw [hqs] at hqk
       have e0 : quoV [] 0 (some (w, n)) = (strB w, (n : Int), true) := by
        have e2 : strOfNums ([] ++ nat8 w) = strB w := nums_strB w
        show (strOfNums ([] ++ nat8 w), ((0 + n : Nat) : Int), true) = _
        rw [e2, Nat.zero_add]
       rw [e0] at hqk
       exact sj1_q hs hqk h1 h2 hacc rfl (wrap_q (by omega))
      have hdn : (bs s).drop (i + 1 + n) = t.drop n := by rw [← h3, List.drop_drop]
      by_cases hn : (t.drop n).head?.all isBl = true
      ·rw [wrdS_quote hqs hn, wrdV_cons, ← hdn]
       refine Ev.late (2 * s.size + 3) (fun k hk => ?_) (ih (i + 1 + n) (acc ++ [strB w]) (by omega) (by omega) (by rw [List.length_append]; simp only [List.length_cons, List.length_nil]; omega))
       rw [hgo k hk, hdn, if_pos hn]
      ·rw [wrdS_quote_near hqs hn]
       refine Ev.late (f := fun _ => some (wrdV acc none)) (2 * s.size + 3) (fun k hk => ?_) (Ev.now _)
       rw [hgo k hk, hdn, if_neg hn]
       rfl
    ·have hraw := sraw hs acc hacc i (c :: t) i hd (Nat.le_refl _) hi
     have hj : ∀ k, shell_Words.j1 (k + 1) s acc (i : Int) false = shell_Words.l1 k s acc (i : Int) (i : Int) := fun k => by
      rw [shell_Words.j1, if_neg (by decide), if_pos (by omega), if_pos (by omega), h2, if_neg fun e => h35 ((c35 c).1 e), if_neg fun e => h34 ((c34 c).1 e)]
     have hpos : 1 ≤ ((c :: t).takeWhile nb).length := by rw [List.takeWhile_cons, show nb c = true from by simp [nb, hb]]; simp
     have hlen2 : ((c :: t).takeWhile nb).length ≤ t.length + 1 := by
      have := (List.takeWhile_prefix (l := c :: t) nb).length_le
      simpa using this
     by_cases hq : (34 : UInt8) ∈ (c :: t).takeWhile nb
     ·rw [wrdS_raw_none hb' h35 h34 hq]
      exact Ev.step hj (hraw.1 hq)
     ·rw [wrdS_raw hb' h35 h34 hq, wrdV_cons]
      refine Ev.step hj (hraw.2 hq _ ?_)
      have e1 : s.extract i (i + ((c :: t).takeWhile nb).length) = strB ((c :: t).takeWhile nb) := extract_word s (by rw [hd]; exact (tw_take (c :: t)).symm)
      have e2 : (c :: t).dropWhile nb = (bs s).drop (i + ((c :: t).takeWhile nb).length) := by rw [dw_drop, ← hd, List.drop_drop]
      rw [e1, show (c :: t).dropWhile (fun d => !isBl d) = (bs s).drop (i + ((c :: t).takeWhile nb).length) from e2]
      exact ih _ _ (by omega) (by omega) (by rw [List.length_append]; simp only [List.length_cons, List.length_nil]; omega)
theorem shell_words : Ev (fun k => shell_Words.f k s) (wrdV [] (wrdS (bs s))) := swords hs s.size 0 [] (by omega) (by omega) (by simp)
end shell
end Go.Proofs.YtccahbfbbaaicaaGreatDoor.Pq
/- Bytes that are quoted: what both printed functions come to. -/
set_option linter.unusedVariables false
namespace Go.Proofs.YtccahbfbbaaicaaGreatDoor.Pq
open Go.RowKit Go.Proofs.YtccahbfbbaaicaaGreatDoor.PQt Go.Proofs.YtccahbfbbaaicaaGreatDoorW.PrintWords Go.Proofs.YtccahbfbbaaicaaGreatDoorW.PrintLast Go.Proofs.YtccahbfbbaaicaaGreatDoor.Giv Go.Proofs.YtccahbfbbaaicaaGreatDoor.Nn
theorem and15 (c : UInt8) : Go.bits .and .u8 (c.toNat : Int) 15 = ((c.toNat % 16 : Nat) : Int) := by
 have h := u8_and_nat c.toNat 15 c.toNat_lt (by decide)
 rw [Nat.and_two_pow_sub_one_eq_mod c.toNat 4] at h
 exact h
theorem div16 (c : UInt8) : (c.toNat : Int) / 16 = ((c.toNat / 16 : Nat) : Int) := by omega
theorem bt16_all : ∀ d : Fin 16, bt sixteen (d.val : Int) = ((hexD d.val).toNat : Int) := by decide
theorem bt16 {d : Nat} (h : d < 16) : bt sixteen (d : Int) = ((hexD d).toNat : Int) := bt16_all ⟨d, h⟩
theorem rd_at {bl : List UInt8} {i : Nat} {c : UInt8} {t : List UInt8} (hd : bl.drop i = c :: t) : rd (nat8 bl) (i : Int) = (c.toNat : Int) ∧ i < bl.length ∧ bl.drop (i + 1) = t := by
 have hl : i < bl.length := by
  rcases Nat.lt_or_ge i bl.length with h' | h'
  ·exact h'
  ·rw [List.drop_eq_nil_of_le h'] at hd; cases hd
 have h2 := List.drop_eq_getElem_cons hl
 rw [hd] at h2
 obtain ⟨e1, e2⟩ := List.cons.inj h2
 refine ⟨?_, hl, e2.symm⟩
 unfold rd nat8
 rw [Int.toNat_natCast, List.getD_eq_getElem?_getD, List.getElem?_map, List.getElem?_eq_getElem hl, e1]
 rfl
theorem quoB_hex {c : UInt8} (h1 : ¬ (c = 92 ∨ c = 34)) (h2 : c ≠ 10) (h3 : c ≠ 9) (h4 : c.toNat < 32 ∨ 126 < c.toNat) : nat8 (quoB c) = [92, 120, bt sixteen ((c.toNat / 16 : Nat) : Int), bt sixteen ((c.toNat % 16 : Nat) : Int)] := by
 have := c.toNat_lt
 rw [bt16 (show c.toNat / 16 < 16 by omega), bt16 (show c.toNat % 16 < 16 by omega)]
 unfold quoB
 rw [if_neg h1, if_neg h2, if_neg h3, if_pos h4]
 rfl
theorem quoB_raw {c : UInt8} (h1 : ¬ (c = 92 ∨ c = 34)) (h2 : c ≠ 10) (h3 : c ≠ 9) (h4 : ¬ (c.toNat < 32 ∨ 126 < c.toNat)) : nat8 (quoB c) = [(c.toNat : Int)] := by
 unfold quoB
 rw [if_neg h1, if_neg h2, if_neg h3, if_neg h4]
 rfl
theorem quoB_len (c : UInt8) : (nat8 (quoB c)).length ≤ 4 := by
 unfold nat8 quoB
 rw [List.length_map]
 split
 ·simp
 ·split
  ·simp
  ·split
   ·simp
   ·split <;> simp
theorem sq_step {bl : List UInt8} {i : Nat} {c : UInt8} {t : List UInt8} (hd : bl.drop i = c :: t) {out : List Int} (ho : out.length < 140737488355000) (hl : bl.length < 4000000000) (k : Nat) :
  shell_Quote.l0 (k + 1) out (nat8 bl) (bl.length : Int) (i : Int) = shell_Quote.l0 k (out ++ nat8 (quoB c)) (nat8 bl) (bl.length : Int) ((i + 1 : Nat) : Int) := by
 obtain ⟨h1, h2, h3⟩ := rd_at hd
 have hw : wrap64 ((i : Int) + 1) = ((i + 1 : Nat) : Int) := (wrap_2 (i := i) (by omega)).1
 have hlen : ((nat8 bl).length : Int) = (bl.length : Int) := by rw [List.length_map]
 have hc := c.toNat_lt
 rw [shell_Quote.l0, hlen, if_pos (by omega), if_pos (by omega), if_pos (by omega), h1, hw]
 simp only [c92, c34, c10, c9, Option.bind_some, and15, div16]
 by_cases a1 : c = 92
 ·rw [if_pos a1, if_pos (by simp; omega), a1]; rfl
 rw [if_neg a1]
 by_cases a2 : c = 34
 ·rw [if_pos a2, if_pos (by simp; omega), a2]; rfl
 have aa : ¬ (c = 92 ∨ c = 34) := fun h => h.elim a1 a2
 rw [if_neg a2]
 by_cases a3 : c = 10
 ·rw [if_pos a3, if_pos (by simp; omega), a3]; rfl
 rw [if_neg a3]
 by_cases a4 : c = 9
 ·rw [if_pos a4, if_pos (by simp; omega), a4]; rfl
 rw [if_neg a4]
 by_cases a5 : c.toNat < 32
 ·rw [if_pos (by omega), if_pos (by omega), if_pos (by omega), if_pos (by omega), if_pos (by omega), if_pos (by simp; omega), quoB_hex aa a3 a4 (.inl a5)]
 rw [if_neg (by omega)]
 by_cases a6 : 126 < c.toNat
 ·rw [if_pos (by omega), if_pos (by omega), if_pos (by omega), if_pos (by omega), if_pos (by omega), if_pos (by simp; omega), quoB_hex aa a3 a4 (.inr a6)]
 ·rw [if_neg (by omega), if_pos (by omega), quoB_raw aa a3 a4 (fun h => h.elim a5 a6)]
def quoR (out : List Int) (d : List UInt8) : ByteArray := strOfNums (out ++ nat8 (d.flatMap quoB) ++ [34])
theorem quoR_cons (out : List Int) (c : UInt8) (t : List UInt8) : quoR out (c :: t) = quoR (out ++ nat8 (quoB c)) t := by simp [quoR, List.flatMap_cons]
theorem squote (bl : List UInt8) (hl : bl.length < 4000000000) : ∀ (d : List UInt8) (i : Nat) (out : List Int), bl.drop i = d → out.length ≤ 4 * i + 1 → i ≤ bl.length → Ev (fun k => shell_Quote.l0 k out (nat8 bl) (bl.length : Int) (i : Int)) (quoR out d) := by
 intro d
 induction d with
 | nil =>
  intro i out hd ho hi
  have := List.drop_eq_nil_iff.1 hd
  refine Ev.step (f := fun _ => some (quoR out [])) (fun k => ?_) (Ev.now _)
  rw [shell_Quote.l0, if_neg (by omega), if_pos (by omega)]
  simp [quoR]
 | cons c t ih =>
  intro i out hd ho hi
  obtain ⟨h1, h2, h3⟩ := rd_at hd
  have h4 := quoB_len c
  rw [quoR_cons]
  exact Ev.step (fun k => sq_step hd (by omega) hl k) (ih (i + 1) _ h3 (by rw [List.length_append]; omega) (by omega))
theorem shell_quote (bl : List UInt8) (hl : bl.length < 4000000000) : Ev (fun k => shell_Quote.f k (nat8 bl)) (quoR [34] bl) := by
 have h := squote bl hl bl 0 [34] rfl (by simp) (by omega)
 refine Ev.congr (fun k => ?_) h
 unfold shell_Quote.f
 rw [List.length_map]
 rfl
theorem quoR_bytes (bl : List UInt8) : quoR [34] bl = strB (quoL bl) := by
 unfold quoR
 have : ([34] ++ nat8 (bl.flatMap quoB) ++ [34] : List Int) = nat8 (quoL bl) := by simp [quoL, nat8]
 rw [this, nums_strB]
end Go.Proofs.YtccahbfbbaaicaaGreatDoor.Pq
/- The law ShellQuotes behind its known answers: true. -/
set_option linter.unusedVariables false
namespace Go.Proofs.YtccahbfbbaaicaaGreatDoor.Pq
open Go.RowKit Go.Proofs.YtccahbfbbaaicaaGreatDoor.PQt Go.Proofs.YtccahbfbbaaicaaGreatDoorW.PrintWords Go.Proofs.YtccahbfbbaaicaaGreatDoorW.PrintLast Go.Proofs.YtccahbfbbaaicaaGreatDoor.Giv Go.Proofs.YtccahbfbbaaicaaGreatDoor.Nn
theorem quoB_le (c : UInt8) : (quoB c).length ≤ 4 := by
 have h := quoB_len c
 unfold nat8 at h
 rwa [List.length_map] at h
theorem quoF_len : ∀ (b : List UInt8), (b.flatMap quoB).length ≤ 4 * b.length
 | [] => by simp
 | c :: b => by
  have h1 := quoF_len b
  have h2 := quoB_le c
  rw [List.flatMap_cons, List.length_append, List.length_cons]
  omega
theorem quoL_len (b : List UInt8) : (quoL b).length ≤ 4 * b.length + 2 := by
 have := quoF_len b
 unfold quoL
 simp only [List.length_cons, List.length_append, List.length_nil]
 omega
def total (bl : List (List UInt8)) : Nat := (bl.map List.length).sum
theorem putQ_len : ∀ (bl : List (List UInt8)), (putQ bl).length ≤ 4 * total bl + 4 * bl.length
 | [] => by simp [putQ]
 | b :: bl => by
  have h1 := putQ_len bl
  have h2 := quoL_len b
  have e : putQ (b :: bl) = 32 :: (quoL b ++ [9]) ++ putQ bl := by simp [putQ, List.flatMap_cons]
  have e2 : total (b :: bl) = b.length + total bl := by simp [total]
  rw [e, e2]
  simp only [List.length_append, List.length_cons, List.length_nil]
  omega
theorem take_total : ∀ (bl : List (List UInt8)) (i : Nat), total (bl.take i) ≤ total bl
 | [], i => by simp [total]
 | b :: bl, 0 => by simp [total]
 | b :: bl, i + 1 => by
  have h := take_total bl i
  have e2 : total (b :: bl) = b.length + total bl := by simp [total]
  have e3 : total ((b :: bl).take (i + 1)) = b.length + total (bl.take i) := by simp [total]
  omega
theorem mem_total : ∀ (bl : List (List UInt8)) (b : List UInt8), b ∈ bl → b.length ≤ total bl
 | c :: bl, b, h => by
  have e2 : total (c :: bl) = c.length + total bl := by simp [total]
  rcases List.mem_cons.1 h with rfl | h
  ·omega
  ·have := mem_total bl b h
   omega
theorem putQ_take {bl : List (List UInt8)} {i : Nat} {b : List UInt8} (h : bl[i]? = some b) : putQ (bl.take (i + 1)) = putQ (bl.take i) ++ 32 :: (quoL b ++ [9]) := by
 unfold putQ
 rw [List.take_add_one, h, List.flatMap_append]
 simp
theorem strB_app (a b : List UInt8) : strB a ++ strB b = strB (a ++ b) := strB_of (by unfold bs; rw [ByteArray.data_append, Array.toList_append]; rfl)
theorem strB_size (a : List UInt8) : (strB a).size = a.length := by rw [← bs_len, bs_strB]
theorem rd_of {bl : List (List UInt8)} {i : Nat} {b : List UInt8} (h : bl[i]? = some b) : rd_L2 (bl.map nat8) (i : Int) = nat8 b := by
 unfold rd_L2
 rw [Int.toNat_natCast, List.getD_eq_getElem?_getD, List.getElem?_map, h]
 rfl
theorem rd_str {bl : List (List UInt8)} {i n : Nat} {b : List UInt8} (h : bl[i]? = some b) (hi : i < n) : rdOf ByteArray.empty ((bl.take n).map strB) (i : Int) = strB b := by
 unfold rdOf
 rw [Int.toNat_natCast, List.getD_eq_getElem?_getD, List.getElem?_map, List.getElem?_take, if_pos hi, h]
 rfl
theorem q_cmp (bl : List (List UInt8)) (n : Nat) (hn : n ≤ bl.length) (h20 : n ≤ 20) : ∀ (m j : Nat), n - j ≤ m → j ≤ n → Ev (fun k => anticlinelaw18_ShellQuotes.l1 k (bl.map nat8) (n : Int) ((bl.take n).map strB) (j : Int)) true := by
 have hlen : (bl.map nat8).length = bl.length := List.length_map ..
 have hlw : ((bl.take n).map strB).length = n := by rw [List.length_map, List.length_take]; omega
 have fin : Ev (fun k => anticlinelaw18_ShellQuotes.l1 k (bl.map nat8) (n : Int) ((bl.take n).map strB) (n : Int)) true := by
  refine Ev.step (f := fun _ => some true) (fun k => ?_) (Ev.now _)
  rw [anticlinelaw18_ShellQuotes.l1, if_neg (by omega)]
 intro m
 induction m with
 | zero =>
  intro j hm hj
  obtain rfl : j = n := by omega
  exact fin
 | succ m ih =>
  intro j hm hj
  by_cases h : j = n
  ·subst h; exact fin
  ·have hw1 : wrap64 ((j : Int) + 1) = ((j + 1 : Nat) : Int) := wrap_nat (n := j + 1) (by omega)
   have hjl : j < bl.length := by omega
   have hb := List.getElem?_eq_getElem hjl
   refine Ev.step (fun k => ?_) (ih (j + 1) (by omega) (by omega))
   rw [anticlinelaw18_ShellQuotes.l1, if_pos (by omega), if_pos (by omega), if_pos (by omega), if_pos (by omega), rd_of hb, rd_str hb (by omega), nums_strB, if_pos rfl, hw1]
theorem q_words (bl : List (List UInt8)) (ht : total bl ≤ 2000000) (n : Nat) (hn : n ≤ bl.length) (h20 : n ≤ 20) (a1 : ByteArray) (h1 : a1.size ≤ 900000000) :
  Ev (fun k => anticlinelaw18_ShellQuotes.j1 k (bl.map nat8) a1 (strB (putQ (bl.take n))) (n : Int)) true := by
 have hp := putQ_len (bl.take n)
 have htt := take_total bl n
 have hln : (bl.take n).length = n := by rw [List.length_take]; omega
 have hs1 : (strB (putQ (bl.take n))).size ≤ 9000000 := by rw [strB_size]; omega
 have e35 : strB (putQ (bl.take n)) ++ (⟨#[35]⟩ : ByteArray) = strB (putQ (bl.take n) ++ [35]) := strB_app _ [35]
 have hs2 : (strB (putQ (bl.take n) ++ [35])).size ≤ 9000001 := by rw [strB_size] at hs1 ⊢; rw [List.length_append, List.length_singleton]; omega
 have ea : bs (strB (putQ (bl.take n) ++ [35]) ++ a1) = putQ (bl.take n) ++ 35 :: bs a1 := by unfold bs; rw [ByteArray.data_append, Array.toList_append]; show (putQ (bl.take n) ++ [35]) ++ _ = _; simp
 have hs3 : (strB (putQ (bl.take n) ++ [35]) ++ a1).size ≤ 1000000000 := by rw [ByteArray.size_append]; omega
 have hw := shell_words hs3
 rw [ea, wrdS_putQ] at hw
 have hq : wrdV [] (some (bl.take n)) = ((bl.take n).map strB, 0) := rfl
 rw [hq] at hw
 have hlw : ((bl.take n).map strB).length = n := by rw [List.length_map, hln]
 refine Ev.step (fun k => by rw [anticlinelaw18_ShellQuotes.j1, if_pos (by omega), e35, if_pos (by omega)]) (Ev.bind hw ?_)
 refine Ev.congr (f := fun k => anticlinelaw18_ShellQuotes.j2 k (bl.map nat8) (n : Int) ((bl.take n).map strB) false) (fun k => ?_) (Ev.step (fun k => ?_) (q_cmp bl n hn h20 n 0 (by omega) (by omega)))
 ·rw [if_pos rfl]
  congr 1
  simp only [hlw]
  exact bne_self_eq_false _
 ·rw [anticlinelaw18_ShellQuotes.j2, if_neg (by decide)]
  rfl
theorem sub20 {n m : Nat} (h : 20 - n ≤ m + 1) : 20 - (n + 1) ≤ m := by omega
theorem q_put (bl : List (List UInt8)) (ht : total bl ≤ 2000000) (a1 : ByteArray) (h1 : a1.size ≤ 900000000) : ∀ (m n : Nat), 20 - n ≤ m → n ≤ bl.length → n ≤ 20 →
  Ev (fun k => anticlinelaw18_ShellQuotes.l0 k (bl.map nat8) a1 (strB (putQ (bl.take n))) (n : Int) (n : Int)) true := by
 have hlen : (bl.map nat8).length = bl.length := List.length_map ..
 have fin : ∀ n : Nat, n ≤ bl.length → n ≤ 20 → (n = bl.length ∨ n = 20 ∨ ¬ (((strB (putQ (bl.take n))).size : Int) < 16384)) → Ev (fun k => anticlinelaw18_ShellQuotes.l0 k (bl.map nat8) a1 (strB (putQ (bl.take n))) (n : Int) (n : Int)) true := by
  intro n hn h20 hc
  refine Ev.step (fun k => ?_) (q_words bl ht n hn h20 a1 h1)
  rw [anticlinelaw18_ShellQuotes.l0]
  by_cases c1 : (n : Int) < ((bl.map nat8).length : Int)
  ·rw [if_pos c1]
   by_cases c2 : (n : Int) < 20
   ·rw [if_pos c2, if_neg (by omega)]
   ·rw [if_neg c2]
  ·rw [if_neg c1]
 intro m
 induction m with
 | zero =>
  intro n hm hn h20
  exact fin n hn h20 (by omega)
 | succ m ih =>
  intro n hm hn h20
  by_cases hc : n = bl.length ∨ n = 20 ∨ ¬ (((strB (putQ (bl.take n))).size : Int) < 16384)
  ·exact fin n hn h20 hc
  ·have hnl : n < bl.length := by omega
   have hn20 : n < 20 := by omega
   have f1 : 20 - (n + 1) ≤ m := sub20 hm
   have IH := ih (n + 1) f1 hnl hn20
   clear ih hm
   have g1 : (n : Int) < ((bl.map nat8).length : Int) := by rw [hlen]; exact Int.ofNat_lt.2 hnl
   have g2 : (n : Int) < 20 := Int.ofNat_lt.2 hn20
   have g4 : (0 : Int) ≤ (n : Int) := Int.natCast_nonneg n
   have hsz : ((strB (putQ (bl.take n))).size : Int) < 16384 := Classical.byContradiction fun h => hc (.inr (.inr h))
   clear hc fin
   have g3 : (strB (putQ (bl.take n))).size + 1 ≤ 9223372036854775807 := by omega
   have hb := List.getElem?_eq_getElem hnl
   have hbt := mem_total bl _ (List.getElem_mem hnl)
   have hq := shell_quote bl[n] (by omega)
   rw [quoR_bytes] at hq
   have hql := quoL_len bl[n]
   have hw1 : wrap64 ((n : Int) + 1) = ((n + 1 : Nat) : Int) := wrap_nat (n := n + 1) (by omega)
   have e32 : strB (putQ (bl.take n)) ++ (⟨#[32]⟩ : ByteArray) = strB (putQ (bl.take n) ++ [32]) := strB_app _ [32]
   have hs2 : (strB (putQ (bl.take n) ++ [32])).size = (strB (putQ (bl.take n))).size + 1 := by rw [strB_size, strB_size, List.length_append]; rfl
   have e3 : strB (putQ (bl.take n) ++ [32]) ++ strB (quoL bl[n]) = strB (putQ (bl.take n) ++ [32] ++ quoL bl[n]) := strB_app _ _
   have hs3 : (strB (putQ (bl.take n) ++ [32] ++ quoL bl[n])).size = (strB (putQ (bl.take n))).size + 1 + (quoL bl[n]).length := by rw [strB_size, strB_size, List.length_append, List.length_append]; rfl
   have e4 : strB (putQ (bl.take n) ++ [32] ++ quoL bl[n]) ++ (⟨#[9]⟩ : ByteArray) = strB (putQ (bl.take (n + 1))) := by
    rw [show (⟨#[9]⟩ : ByteArray) = strB [9] from rfl, strB_app, putQ_take hb]
    simp
   refine Ev.step (f := fun k => (shell_Quote.f k (nat8 bl[n])).bind fun t171 => (if (strB (putQ (bl.take n) ++ [32])).size + t171.size ≤ 9223372036854775807 then (if (strB (putQ (bl.take n) ++ [32]) ++ t171).size + 1 ≤ 9223372036854775807 then (anticlinelaw18_ShellQuotes.l0 k (bl.map nat8) a1 ((strB (putQ (bl.take n) ++ [32]) ++ t171) ++ (⟨#[9]⟩ : ByteArray)) (wrap64 ((n : Int) + 1)) (wrap64 ((n : Int) + 1))) else none) else none)) (fun k => ?_) (Ev.bind hq ?_)
   ·rw [anticlinelaw18_ShellQuotes.l0, if_pos g1, if_pos g2, if_pos hsz, if_pos g3, if_pos g4, rd_of hb, e32]
   ·have h1 : (strB (putQ (bl.take n) ++ [32])).size + (strB (quoL bl[n])).size ≤ 9223372036854775807 := by rw [hs2, strB_size (quoL bl[n])]; omega
    have h2 : (strB (putQ (bl.take n) ++ [32] ++ quoL bl[n])).size + 1 ≤ 9223372036854775807 := by rw [hs3]; omega
    refine Ev.congr (f := fun k => anticlinelaw18_ShellQuotes.l0 k (bl.map nat8) a1 (strB (putQ (bl.take (n + 1)))) ((n + 1 : Nat) : Int) ((n + 1 : Nat) : Int)) (fun k => ?_) IH
    show (if (strB (putQ (bl.take n) ++ [32])).size + (strB (quoL bl[n])).size ≤ 9223372036854775807 then _ else _) = _
    rw [if_pos h1, e3, if_pos h2, e4, hw1]
theorem quotes_true (bl : List (List UInt8)) (ht : total bl ≤ 2000000) (a1 : ByteArray) (h1 : a1.size ≤ 900000000) : ∃ k, anticlinelaw18_ShellQuotes.f k (bl.map nat8) a1 = some true := by
 have h := q_put bl ht a1 h1 20 0 (by omega) (by omega) (by omega)
 have : Ev (fun k => anticlinelaw18_ShellQuotes.f k (bl.map nat8) a1) true := by
  refine Ev.congr (fun k => ?_) h
  unfold anticlinelaw18_ShellQuotes.f anticlinelaw18_known.f
  rw [Option.bind_some, if_pos rfl]
  rfl
 exact this.rounds
end Go.Proofs.YtccahbfbbaaicaaGreatDoor.Pq
