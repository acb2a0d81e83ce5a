/- Decimal texts, told and read: the small texts of this part, one behind another. -/
import Derived.Test.YtpegcppeobndcaaGreatDoorAb
import Derived.Lib.ItoaNum
import Derived.Lib.Repeat
import Derived.Test.YtpegcppeobndcaaGreatDoorS1
import Derived.Test.YtpegcppeobndcaaGreatDoorS2
import Derived.Test.YtpegcppeobndcaaGreatDoorLibB
import Derived.Lib.LaidU8
import Derived.MakeChecks
set_option linter.unusedVariables false
set_option maxHeartbeats 4000000
set_option maxRecDepth 100000
namespace Go.Proofs.YtpegcppeobndcaaGreatDoor.Nn
open Go.Lib
def dec0 (n : Nat) : List UInt8 := if n = 0 then [] else decDigits n
def padk : Nat → Nat → List UInt8
 | 0, _ => []
 | k + 1, r => padk k (r / 10) ++ [UInt8.ofNat (48 + r % 10)]
theorem decDigits_small {u : Nat} (h : u < 10) : decDigits u = [UInt8.ofNat (48 + u)] := by rw [decDigits, dif_pos h]
theorem decDigits_big {u : Nat} (h : ¬ u < 10) : decDigits u = decDigits (u / 10) ++ [UInt8.ofNat (48 + u % 10)] := by rw [decDigits, dif_neg h]
theorem decDigits_pos (u : Nat) : 0 < (decDigits u).length := by
 rw [decDigits]
 split
 ·simp
 ·simp
theorem dec_split (k : Nat) : ∀ (q r : Nat), 0 < q → r < 10 ^ k → decDigits (q * 10 ^ k + r) = decDigits q ++ padk k r := by
 induction k with
 | zero => intro q r _ hr; simp at hr; subst hr; simp [padk]
 | succ k ih =>
  intro q r hq hr
  have hp : 10 ^ (k + 1) = 10 * 10 ^ k := by rw [Nat.pow_succ, Nat.mul_comm]
  have h1 : q * 10 ^ (k + 1) = 10 * (q * 10 ^ k) := by rw [hp, Nat.mul_left_comm]
  have h2 : 1 ≤ q * 10 ^ k := Nat.mul_pos hq (Nat.pow_pos Z5)
  rw [decDigits_big (by omega), show (q * 10 ^ (k + 1) + r) / 10 = q * 10 ^ k + r / 10 from by omega, ih q (r / 10) hq (by omega), show (q * 10 ^ (k + 1) + r) % 10 = r % 10 from by omega, padk, List.append_assoc]
theorem padk_zero (k : Nat) : padk k 0 = List.replicate k 48 := by
 induction k with
 | zero => rfl
 | succ k ih =>
  rw [padk, Nat.zero_div, ih, List.replicate_succ']
  rfl
theorem padk_eq (k : Nat) : ∀ r, r < 10 ^ (k + 1) → (decDigits r).length ≤ k + 1 ∧ padk (k + 1) r = List.replicate (k + 1 - (decDigits r).length) 48 ++ decDigits r := by
 induction k with
 | zero =>
  intro r hr
  have h : r < 10 := by simpa using hr
  rw [decDigits_small h]
  simp [padk, Nat.mod_eq_of_lt h]
 | succ k ih =>
  intro r hr
  rw [padk]
  by_cases h : r < 10
  ·rw [decDigits_small h, show r / 10 = 0 from by omega, padk_zero, Nat.mod_eq_of_lt h]
   simp
  ·have hp : 10 ^ (k + 1 + 1) = 10 * 10 ^ (k + 1) := by rw [Nat.pow_succ, Nat.mul_comm]
   obtain ⟨h1, h2⟩ := ih (r / 10) (by omega)
   rw [decDigits_big h, h2]
   refine ⟨by simp; omega, ?_⟩
   rw [List.append_assoc]
   congr 2
   simp
theorem dec9 {r : Nat} (h : r < 1000000000) : (decDigits r).length ≤ 9 ∧ padk 9 r = List.replicate (9 - (decDigits r).length) 48 ++ decDigits r := padk_eq 8 r h
theorem dec_chunk {m q r : Nat} (hm : m ≠ 0) (hq : q = m / 1000000000) (hr : r = m % 1000000000) : dec0 m = dec0 q ++ (if q = 0 then decDigits r else List.replicate (9 - (decDigits r).length) 48 ++ decDigits r) := by
 have hrl : r < 1000000000 := by omega
 unfold dec0
 rw [if_neg hm]
 by_cases h : q = 0
 ·rw [if_pos h, if_pos h, show m = r from by omega]
  rfl
 ·rw [if_neg h, if_neg h, ← (dec9 hrl).2, ← dec_split 9 q r (by omega) hrl]
  congr 1
  omega
theorem repeat_one (b : UInt8) (n : Nat) : repeatL [b] n = List.replicate n b := by
 induction n with
 | zero => rfl
 | succ n ih => rw [repeatL, ih, List.replicate_succ]; rfl
theorem dec0_nil {n : Nat} (h : dec0 n = []) : n = 0 := by
 unfold dec0 at h
 split at h
 ·assumption
 ·have := decDigits_pos n
  rw [h] at this
  exact absurd this Z5
end Go.Proofs.YtpegcppeobndcaaGreatDoor.Nn
namespace Go.Proofs.YtpegcppeobndcaaGreatDoor.G
open Go.RowKit YtpegcppeobndcaaGreatDoorW.PrintWords YtpegcppeobndcaaGreatDoorW.PrintLast Go.Proofs.YtpegcppeobndcaaGreatDoor.Nn
open Go.Lib (decDigits join repeatL joinTail join_cons)
open Go.Sort (putRow Holds size_putRow cell?_putRow mapBlock)
def strs (ss : List (List UInt8)) : List Value := ss.map encStr
theorem strs_length (ss : List (List UInt8)) : (strs ss).length = ss.length := by simp [strs]
theorem infoS : (Tryz.prog.info? 9).map (fun i => (i.zero, i.size, i.bytes)) = some (some (.string ⟨#[]⟩), 1, 16) := by kernel_rfl
def TextPost (w : World) (l : List UInt8) (e : Ending) (w' : World) : Prop := ∃ s : ByteArray, e = .returned (.string s) ∧ s.data.toList = l ∧ Below w.heap.size w w'
def ItoaC (w : World) (X : Nat) : Prop := ∀ (r : Nat) (wr : World), r ≤ X → r < 1000000000 → Below w.heap.size w wr → Calls Tryz.prog 60 #[.int .i64 (r : Int)] wr (TextPost wr (decDigits r))
theorem repeat_w (c : Nat) (w : World) (hc : c ≤ 9) : Calls Tryz.prog 61 #[.string ⟨#[48]⟩, .int .i64 (c : Int)] w (TextPost w (List.replicate c 48)) :=
 (Tryz.strings_Repeat ⟨#[48]⟩ c w (by omega) (by show 1 * c ≤ _; omega)).mono fun e w' ⟨he, hB⟩ => ⟨_, he, by
  show (repeatL [48] c).toArray.toList = _
  rw [List.toList_toArray, repeat_one], hB⟩
theorem below_putRow {α : Type} [Inhabited α] {B : Nat} {w wr : World} (h : Below B w wr) (enc : α → Value) {g : Nat} (hg : B ≤ g) (off : Nat) (d : Array α) (n : Nat) : Below B w (putRow enc (Go.Sort.ahead wr n) g off d) :=
 h.trans ⟨rfl, rfl, rfl, by rw [size_putRow]; exact Nat.le_refl _, fun k hk => by
  simp only [putRow, mapBlock, Array.getElem?_modify]
  rw [if_neg (by omega)]
  rfl⟩
theorem reverse_w {B : Nat} {w wr : World} {v : Value} {ss : List (List UInt8)} (h : wr.ownsRow B 9 1 v ss.length (strs ss)) (hp : 0 < ss.length) (hB : Below B w wr) :
  Calls Tryz.prog 62 #[v] wr fun e w' => e = .returned (.tuple #[]) ∧ Below B w w' ∧ ∃ g c, v = .slice (some ⟨g, 0, none⟩) ss.length c ∧ ss.length ≤ c ∧ g < w'.heap.size ∧ ∀ j x, (ss.reverse.map (fun s : List UInt8 => (⟨s.toArray⟩ : ByteArray)))[j]? = some x → w'.cell? ⟨g, 0 + j, none⟩ = some (.string x) := by
 obtain ⟨g, cap, rfl, hgB, hgl⟩ := h.form hp
 have hcap : ss.length ≤ cap := by
  rcases h.2 with ⟨h', _⟩ | ⟨g', cap', cur, h', _, _, h2, _⟩
  ·cases h'
  ·injection h' with _ _ h'; omega
 have hm : ss.length ≤ 9223372036854775807 := by
  rcases h.2 with ⟨h', _⟩ | ⟨g', cap', cur, h', _, _, h2, h3, _⟩
  ·cases h'
  ·simp only [maxLen] at h3; omega
 have hH : Holds encStr wr g 0 ss.toArray := by
  intro j hj
  have hj' : j < ss.length := by simpa using hj
  constructor
  ·have hc := h.cells (g := g) rfl j (encStr ss[j]) (by simp [strs, List.getElem?_eq_getElem hj'])
   rw [add_plain] at hc
   rw [Nat.zero_add, hc]
   simp [getElem!_pos, hj']
  ·rcases h.2 with ⟨h', _⟩ | ⟨g', cap', cur, h', _, hh, _⟩
   ·cases h'
   ·have : g = g' := by injection h' with h'; injection h' with h'; injection h' with h'
    subst this
    simp [World.frozen?, hh]
 refine (Tryz.slices_Reverse_string g 0 cap ss wr hH hm).mono ?_
 rintro e w' ⟨rfl, n, rfl⟩
 refine ⟨rfl, below_putRow hB encStr hgB 0 _ n, g, cap, rfl, hcap, by rw [size_putRow]; exact hgl, ?_⟩
 intro j x hx
 have hj : j < ss.reverse.length := by
  have := (List.getElem?_eq_some_iff.1 hx).1
  simpa using this
 have := cell?_putRow encStr (Go.Sort.ahead wr n) g 0 ss.toArray ss.reverse.toArray hH Z33 j (by simpa using hj)
 rw [this]
 have hj2 : j < ss.reverse.toArray.size := by simpa using hj
 rw [getElem!_pos _ j hj2]
 rw [List.getElem?_map, List.getElem?_eq_getElem hj] at hx
 simp only [Option.map_some, Option.some.injEq] at hx
 rw [← hx]
 simp
theorem join_empty (xs : List (List UInt8)) : join xs [] = xs.flatten := by
 induction xs with
 | nil => rfl
 | cons x r ih =>
  rw [join_cons]
  simp [joinTail]
theorem join_w {w : World} {g c : Nat} (ss : List (List UInt8)) (hcells : ∀ j x, (ss.map (fun s : List UInt8 => (⟨s.toArray⟩ : ByteArray)))[j]? = some x → w.cell? ⟨g, 0 + j, none⟩ = some (.string x)) (hg : g < w.heap.size) (hc : ss.length ≤ c) (hl : ss.flatten.length ≤ 140737488355328) (hN : ss.length ≤ 140737488355328) :
  Calls Tryz.prog 63 #[.slice (some ⟨g, 0, none⟩) ss.length c, .string ⟨#[]⟩] w (TextPost w ss.flatten) := by
 have hm : (ss.map (fun s : List UInt8 => (⟨s.toArray⟩ : ByteArray))).map (·.data.toList) = ss := by
  rw [List.map_map]
  conv => rhs; rw [← List.map_id ss]
  apply List.map_congr_left
  intro a _
  simp
 have h := Tryz.strings_Join g 0 c (ss.map (fun s : List UInt8 => (⟨s.toArray⟩ : ByteArray))) ⟨#[]⟩ w hcells hg (by simpa using hN) (by simpa using hc) (by rw [hm]; show (join ss []).length ≤ _; rw [join_empty]; exact hl)
 rw [hm] at h
 rw [List.length_map] at h
 refine h.mono ?_
 rintro e w' ⟨rfl, hB⟩
 exact ⟨_, rfl, by show (join ss []).toArray.toList = _; rw [join_empty, List.toList_toArray], hB⟩
def Dec (n m : Nat) (ss : List (List UInt8)) : Prop := dec0 n = dec0 m ++ ss.reverse.flatten ∧ (ss ≠ [] → n ≠ 0) ∧ ss.flatten.length ≤ 9 * ss.length ∧ m * 1000000000 ^ ss.length ≤ n ∧ (ss = [] ∨ 1000000000 ^ (ss.length - 1) ≤ n)
theorem Dec_start (n : Nat) : Dec n n [] := ⟨by simp, fun h => absurd rfl h, by simp, by simp, .inl rfl⟩
theorem Dec_step {n m q r : Nat} {ss : List (List UInt8)} {s : List UInt8} (h : Dec n m ss) (hm : m ≠ 0) (hq : q = m / 1000000000) (hr : r = m % 1000000000) (hs : s = if q = 0 then decDigits r else List.replicate (9 - (decDigits r).length) 48 ++ decDigits r) : Dec n q (ss ++ [s]) := by
 obtain ⟨h1, h2, h3, h4, h5⟩ := h
 have hp : 0 < 1000000000 ^ ss.length := Nat.pow_pos Z5
 have h6 : 1000000000 ^ ss.length ≤ n := Nat.le_trans (Nat.le_mul_of_pos_left _ (by omega)) h4
 have hsl : s.length ≤ 9 := by
  have := (dec9 (r := r) (by omega)).1
  rw [hs]
  split
  ·exact this
  ·simp; omega
 refine ⟨?_, fun _ => by omega, ?_, ?_, .inr ?_⟩
 ·rw [h1, dec_chunk hm hq hr, ← hs]
  simp
 ·have e : (ss ++ [s]).flatten.length = ss.flatten.length + s.length := by rw [List.flatten_append, List.length_append, List.flatten_cons, List.flatten_nil, List.append_nil]
  rw [e, List.length_append, List.length_singleton]
  omega
 ·rw [List.length_append, List.length_singleton, Nat.pow_succ, ← Nat.mul_assoc, Nat.mul_right_comm]
  have h7 : q * 1000000000 ≤ m := by omega
  exact Nat.le_trans (Nat.mul_le_mul_right _ h7) h4
 ·simpa using h6
theorem pw_le_two {j k : Nat} (h : 32 * j ≤ 29 * k) : pw j ≤ (2 ^ 29) ^ k := by
 rw [pw_two, ← Nat.pow_mul]
 exact Nat.pow_le_pow_right Z5 h
theorem flat_rev (ss : List (List UInt8)) : ss.reverse.flatten.length = ss.flatten.length := by
 induction ss with
 | nil => rfl
 | cons x xs ih => rw [List.reverse_cons, List.flatten_append, List.length_append, ih, List.flatten_cons, List.flatten_cons, List.flatten_nil, List.append_nil, List.length_append]; omega
theorem Dec_small {n m : Nat} {ss : List (List UInt8)} (h : Dec n m ss) (hn : n < pw 1000) : ss.length < 2000 := by
 rcases h.2.2.2.2 with h1 | h1
 ·rw [h1]; simp
 ·refine Nat.lt_of_not_le fun h2 => ?_
  obtain ⟨k, hk⟩ : ∃ k, k = ss.length - 1 := ⟨_, rfl⟩
  rw [← hk] at h1
  have h4 : (2 ^ 29) ^ k ≤ 1000000000 ^ k := Nat.pow_le_pow_left Z5 k
  have h5 := pw_le_two (j := 1000) (k := k) (by omega)
  exact absurd (Nat.lt_of_lt_of_le hn h5) (Nat.not_lt.2 (Nat.le_trans h4 h1))
theorem Dec_end {n : Nat} {ss : List (List UInt8)} (h : Dec n 0 ss) : (ss = [] → n = 0) ∧ (ss ≠ [] → decDigits n = ss.reverse.flatten) := by
 refine ⟨fun h1 => ?_, fun h1 => ?_⟩
 ·have := h.1
  rw [h1] at this
  exact dec0_nil (by simpa [dec0] using this)
 ·have h2 := h.1
  have h3 := h.2.1 h1
  simp only [dec0, h3, if_false, if_true, List.nil_append] at h2
  exact h2
theorem Nu_len {n : Nat} (h : n ≠ 0) : 0 < (digs n).length := by rw [digs_pos h]; simp
theorem text_none {w w' : World} {n : Nat} (h : n = 0) (hB : Below w.heap.size w w') : TextPost w (decDigits n) (.returned (.string ⟨#[48]⟩)) w' := by
 subst h
 exact ⟨_, rfl, by rw [decDigits_small Z5]; rfl, hB⟩
theorem RU_kept {wa wb : World} {B0 : Nat} {v u : Value} {l : List Int} (h : RU wa B0 v l) (hu : ∀ k, u.ownBlock = some k → k < B0) (hg : wa.grownBy wb u.ownBlock) : RU wb B0 v l := by
 refine RU_own ((own_RU h).kept hg ?_)
 cases hv : v.ownBlock with
 | none => exact .inl rfl
 | some k =>
  right
  intro e
  have h1 := own_base (own_RU h) k hv
  have h2 := hu k e.symm
  omega
theorem bytes_eq {s : ByteArray} {l : List UInt8} (h : s.data.toList = l) : s = ⟨l.toArray⟩ := by
 subst h
 cases s
 simp
theorem bytes_size {s : ByteArray} {l : List UInt8} (h : s.data.toList = l) : s.size = l.length := by rw [← h, data_length]
theorem strs_snoc {w : World} {base : Nat} {v : Value} {ss : List (List UInt8)} {s : ByteArray} {l : List UInt8} (h : w.ownsRow base 9 1 v (strs ss ++ [Value.string s]).length (strs ss ++ [Value.string s])) (hs : s.data.toList = l) : w.ownsRow base 9 1 v (ss ++ [l]).length (strs (ss ++ [l])) := by
 have e : strs ss ++ [Value.string s] = strs (ss ++ [l]) := by rw [bytes_eq hs]; simp [strs]
 rw [e, strs_length] at h
 exact h
theorem text_w {w : World} {vx : Value} {n : Nat} (hx : Nu w vx n) (bn : n < pw 1000) (HI : ItoaC w n) :
  Calls Tryz.prog 26 #[vx] w (TextPost w (decDigits n)) := by
 obtain ⟨A0, c0, rfl, h0, C0⟩ := hx
 have HC := slices_Clone_uint32_uint32.calls A0 c0 (digs n) (digs n) w C0 h0 (by unfold slices_Clone_uint32_uint32.f; rw [if_pos Z50])
 have HC := Aside0.mk HC
 have HI := Aside0.mk HI
 have BN := Aside0.mk bn
 clear C0 h0 bn
 go_enter Tryz.func26, Tryz.ntmps26
 go_wp2_with fail
 refine HC.out.mono ?_
 rintro e w1 ⟨v1, rfl, hR1, hB1⟩
 obtain ⟨A1, c1, e1, hc1, hC1⟩ := Nu_of_RU hR1
 subst e1
 have HS1 := Aside0.mk hc1
 have HC1 := Aside0.mk hC1
 have HB1 := Aside0.mk hB1
 clear hR1 hB1 hc1 hC1
 go_wp2_with fail
 go_loopg [0, 3] n (fun m va vl wr => ∃ (A : Option Addr) (c : Nat) (ss : List (List UInt8)), va = .slice A (digs m).length c ∧ Aside0 ((digs m).length ≤ c ∧ CU wr A (digs m).length (digs m)) ∧ Aside0 (wr.ownsRow w.heap.size 9 1 vl ss.length (strs ss)) ∧ Aside0 (Dec n m ss) ∧ Aside0 (m ≤ n) ∧ Aside0 (Below w.heap.size w wr))
 case atStart => exact ⟨A1, c1, [], rfl, ⟨HS1.out, HC1.out⟩, ⟨own_nil _ _ _ _⟩, ⟨Dec_start n⟩, ⟨Nat.le_refl _⟩, ⟨HB1.out⟩⟩
 case round =>
  clear HS1 HC1 HB1 HC
  obtain ⟨A, c, ss, rfl, HN, HO, HD, HM, HB⟩ := hrel
  by_cases hm : gk = 0
  ·subst hm
   rw [digs_zero, List.length_nil]
   have HE := Aside0.mk (Dec_end HD.out)
   by_cases hss : ss = []
   ·have HSS := Aside0.mk (HE.out.1 hss)
    obtain ⟨A', c', e'⟩ := own_slice HO.out
    subst hss e'
    rw [List.length_nil]
    go_wp2_with fail
    go_ret
    exact text_none HSS.out HB.out
   ·have hp : 0 < ss.length := by
     rcases Nat.eq_zero_or_pos ss.length with h | h
     ·exact absurd (List.eq_nil_of_length_eq_zero h) hss
     ·exact h
    have HSS := Aside0.mk (HE.out.2 hss)
    have HRV := Aside0.mk (reverse_w HO.out hp HB.out)
    have HLS := Aside0.mk (Dec_small HD.out BN.out)
    have HLF := Aside0.mk HD.out.2.2.1
    obtain ⟨A', c', e'⟩ := own_slice HO.out
    subst e'
    clear hss HO
    go_wp2_with fail
    refine HRV.out.mono ?_
    rintro e w2 ⟨rfl, hB2, g, c2, hv, hc2, hg, hcells⟩
    cases hv
    have HJ := join_w (w := w2) (g := g) (c := c') ss.reverse hcells hg (by rw [List.length_reverse]; exact hc2) (by have h1 := HLS.out; have h2 := HLF.out; rw [flat_rev]; omega) (by have h1 := HLS.out; rw [List.length_reverse]; omega)
    rw [List.length_reverse] at HJ
    have HJ := Aside0.mk HJ
    have HB2 := Aside0.mk hB2
    clear hB2 hc2 hg hcells
    go_wp2_with fail
    refine HJ.out.mono ?_
    rintro e w3 ⟨s, rfl, hs, hB3⟩
    have HS := Aside0.mk hs
    have HB3 := Aside0.mk hB3
    clear hs hB3
    go_wp2_with fail
    go_ret
    exact ⟨_, rfl, by rw [HSS.out]; exact HS.out, HB2.out.trans (HB3.out.mono HB2.out.size)⟩
  ·have hp := Nu_len hm
   obtain ⟨q, hq⟩ : ∃ q, q = gk / 1000000000 := ⟨_, rfl⟩
   obtain ⟨r, hr⟩ : ∃ r, r = gk % 1000000000 := ⟨_, rfl⟩
   have hrl : r < 1000000000 := by omega
   have hqm : q < gk := by omega
   have HSM : Calls Tryz.prog 59 #[.slice A (digs gk).length c, .int .u32 1000000000] wr fun e w' => ∃ A2 c2, e = .returned (.tuple #[.slice A2 (digs q).length c2, .int .u32 (r : Int)]) ∧ RU w' wr.heap.size (.slice A2 (digs q).length c2) (digs q) ∧ Below wr.heap.size wr w' := by
    have h := small_w A c (digs gk) 1000000000 wr HN.out.2 (lim_digs gk) (small_len (Nat.lt_of_le_of_lt HM.out BN.out)) Z5 Z5
    rw [val_digs] at h
    refine h.mono ?_
    rintro e w' ⟨v, rfl, hR, hB⟩
    rw [← hq] at hR
    rw [← hr]
    obtain ⟨A2, c2, e2, h1, h2⟩ := Nu_of_RU hR
    subst e2
    exact ⟨A2, c2, rfl, hR, hB⟩
   have HSM := Aside0.mk HSM
   have HQ := Aside0.mk hq
   have HRR := Aside0.mk hr
   have HM0 := Aside0.mk hm
   have HRM := Aside0.mk (show r ≤ n by have := HM.out; omega)
   clear hq hr hm
   go_wp2_with fail
   refine HSM.out.mono ?_
   rintro e w2 ⟨A2, c2, rfl, hN2, hB2⟩
   have HN2 := Aside0.mk hN2
   have HB2 := tT HB hB2
   have HO2 := Aside0.mk (pw_own_below HO.out hB2)
   clear hN2 hB2 HSM HN
   go_wp2_with fail
   refine (HI.out r w2 HRM.out hrl HB2.out).mono ?_
   rintro e w3 ⟨s, rfl, hs, hB3⟩
   have hsz : s.size ≤ 9 := by rw [bytes_size hs]; exact (dec9 hrl).1
   have HS := Aside0.mk hs
   have HN3 := Aside0.mk (RU_below HN2.out hB3)
   have HUL := Aside0.mk (fun k (hk : u3.ownBlock = some k) => own_lt HO.out k hk)
   have HB3 := tT HB2 hB3
   have HO3 := Aside0.mk (pw_own_below HO2.out hB3)
   have HLS := Aside0.mk (Dec_small HD.out BN.out)
   have HLL := Aside0.mk (show ((strs ss).length + 1) * 16 ≤ 140737488355328 by rw [strs_length]; have := HLS.out; omega)
   clear hs hB3 HN2 HO2 HO
   by_cases hq0 : q = 0
   ·subst hq0
    rw [digs_zero, List.length_nil] at ⊢ HN3
    have HST := Aside0.mk (Dec_step (s := decDigits r) HD.out HM0.out HQ.out HRR.out (by rw [if_pos rfl]))
    have HO4 := Aside0.mk (show w3.ownsRow w.heap.size 9 1 u3 (strs ss).length (strs ss) by rw [strs_length]; exact HO3.out)
    have HB4 := HB3
    have HBS := Aside0.mk HB3.out.size
    go_wp2_with (at_builtin; refine print_append (w0 := w) w.heap.size rfl (.tmp 29) (.tmp 31) 66 9 (.string ⟨#[]⟩) 16 rfl Tryz.underlying66 infoS rfl Z5 u3 (strs ss) (.string s) rfl rfl rfl HO4.out HB4.out HBS.out HLL.out ?_; intro v5 w5 hown5 hB5 hg5 _; have HO5 := Aside0.mk hown5; have HB5 := Aside0.mk hB5; have HN5 := Aside0.mk (RU_kept HN3.out HUL.out hg5); clear hown5 hB5 hg5)
    go_roundg 0
    case measure => exact hqm
    case rel =>
     obtain ⟨A6, c6, e6, h6, C6⟩ := RU_slice HN5.out
     cases e6
     exact ⟨A2, c2, ss ++ [decDigits r], by rw [digs_zero]; rfl, ⟨by rw [digs_zero]; exact h6, by rw [digs_zero]; exact C6⟩, ⟨strs_snoc HO5.out HS.out⟩, ⟨HST.out⟩, ⟨Nat.zero_le _⟩, ⟨HB5.out⟩⟩
   ·have hqp := Nu_len hq0
    have HRP : Calls Tryz.prog 61 #[.string ⟨#[48]⟩, .int .i64 (9 - (s.size : Int))] w3 (TextPost w3 (List.replicate (9 - s.size) 48)) := by
     rw [show (9 : Int) - (s.size : Int) = ((9 - s.size : Nat) : Int) from by omega]
     exact repeat_w (9 - s.size) w3 (by omega)
    have HRP := Aside0.mk HRP
    have HQ0 := Aside0.mk hq0
    clear hq0
    go_wp2_with fail
    refine HRP.out.mono ?_
    rintro e w4 ⟨t, rfl, ht, hB4⟩
    have htz : t.size ≤ 9 := by rw [bytes_size ht, List.length_replicate]; omega
    have htS : (t ++ s).data.toList = List.replicate (9 - (decDigits r).length) 48 ++ decDigits r := by
     rw [ByteArray.data_append, Array.toList_append, ht, HS.out, bytes_size HS.out]
    have HS2 := Aside0.mk htS
    have HST := Aside0.mk (Dec_step (s := List.replicate (9 - (decDigits r).length) 48 ++ decDigits r) HD.out HM0.out HQ.out HRR.out (by rw [if_neg HQ0.out]))
    have HO4 := Aside0.mk (show w4.ownsRow w.heap.size 9 1 u3 (strs ss).length (strs ss) by rw [strs_length]; exact pw_own_below HO3.out hB4)
    have HN3 := Aside0.mk (RU_below HN3.out hB4)
    have HB4 := tT HB3 hB4
    have HBS := Aside0.mk HB4.out.size
    clear ht htS hB4
    go_wp2_with (at_builtin; refine print_append (w0 := w) w.heap.size rfl (.tmp 29) (.tmp 31) 66 9 (.string ⟨#[]⟩) 16 rfl Tryz.underlying66 infoS rfl Z5 u3 (strs ss) (.string (t ++ s)) rfl rfl rfl HO4.out HB4.out HBS.out HLL.out ?_; intro v5 w5 hown5 hB5 hg5 _; have HO5 := Aside0.mk hown5; have HB5 := Aside0.mk hB5; have HN5 := Aside0.mk (RU_kept HN3.out HUL.out hg5); clear hown5 hB5 hg5)
    go_roundg q
    case measure => exact hqm
    case rel =>
     obtain ⟨A6, c6, e6, h6, C6⟩ := RU_slice HN5.out
     cases e6
     exact ⟨A2, c2, ss ++ [List.replicate (9 - (decDigits r).length) 48 ++ decDigits r], rfl, ⟨h6, C6⟩, ⟨strs_snoc HO5.out HS2.out⟩, ⟨HST.out⟩, ⟨by have := HM.out; omega⟩, ⟨HB5.out⟩⟩
end Go.Proofs.YtpegcppeobndcaaGreatDoor.G
namespace Go.Proofs.YtpegcppeobndcaaGreatDoor.G
open Go.RowKit YtpegcppeobndcaaGreatDoorW.PrintWords YtpegcppeobndcaaGreatDoorW.PrintLast Go.Proofs.YtpegcppeobndcaaGreatDoor.Nn
open Go.Lib (decDigits)
end Go.Proofs.YtpegcppeobndcaaGreatDoor.G
namespace Go.Proofs.YtpegcppeobndcaaGreatDoor.G
open Go.RowKit YtpegcppeobndcaaGreatDoorW.PrintWords YtpegcppeobndcaaGreatDoorW.PrintLast Go.Proofs.YtpegcppeobndcaaGreatDoor.Nn
theorem pw_lt1000 {n k : Nat} (h : n < pw k) (hk : k ≤ 1000) : n < pw 1000 := Nat.lt_of_lt_of_le h (pw_le hk)
theorem pw_addb {x y a b c : Nat} (hx : x < pw a) (hy : y < pw b) (ha : a + 1 ≤ c) (hb : b + 1 ≤ c) : x + y < pw c := by
 obtain ⟨d, rfl⟩ : ∃ d, c = d + 1 := ⟨c - 1, by omega⟩
 have h1 := pw_le (show a ≤ d by omega)
 have h2 := pw_le (show b ≤ d by omega)
 rw [pw_succ]
 have := pw_pos d
 omega
theorem pw_mulb {x y a b : Nat} (hx : x < pw a) (hy : y < pw b) : x * y < pw (a + b) := by
 rw [pw_add]
 exact Nat.mul_lt_mul'' hx hy
theorem wf_u64 {x : Int} (h : (Lit.int .u64 x).wf = true) : 0 ≤ x ∧ x < 18446744073709551616 := by
 have e1 : IntKind.u64.min = 0 := by decide
 have e2 : IntKind.u64.max = 18446744073709551615 := by decide
 simp only [Lit.wf, Bool.and_eq_true, decide_eq_true_eq, e1, e2] at h
 omega
end Go.Proofs.YtpegcppeobndcaaGreatDoor.G
namespace Go.Proofs.YtpegcppeobndcaaGreatDoor.Nn
open Go.Lib
def isDig (b : UInt8) : Bool := decide (48 ≤ b.toNat ∧ b.toNat ≤ 57)
def decVal (l : List UInt8) : Nat := l.foldl (fun a b => a * 10 + (b.toNat - 48)) 0
def pcode (l : List UInt8) : Nat := if 400 < l.length then 3 else if l = [] ∨ (1 < l.length ∧ l.getD 0 0 = 48) then 4 else if l.all isDig then 0 else 4
def pnum (l : List UInt8) : Nat := if pcode l = 0 then decVal l else 0
theorem decVal_snoc (l : List UInt8) (b : UInt8) : decVal (l ++ [b]) = decVal l * 10 + (b.toNat - 48) := by simp [decVal]
theorem all_snoc (l : List UInt8) (b : UInt8) : (l ++ [b]).all isDig = (l.all isDig && isDig b) := by simp
theorem fold_lt (l : List UInt8) : ∀ a, l.all isDig = true → l.foldl (fun a b => a * 10 + (b.toNat - 48)) a < (a + 1) * 10 ^ l.length := by
 induction l with
 | nil => intro a _; simp
 | cons b l ih =>
  intro a h
  simp only [List.all_cons, Bool.and_eq_true] at h
  have h1 := ih (a * 10 + (b.toNat - 48)) h.2
  have h2 : b.toNat - 48 ≤ 9 := by have := h.1; simp only [isDig, decide_eq_true_eq] at this; omega
  rw [List.foldl_cons, List.length_cons, Nat.pow_succ, Nat.mul_comm (10 ^ l.length), ← Nat.mul_assoc]
  exact Nat.lt_of_lt_of_le h1 (Nat.mul_le_mul_right _ (by omega))
theorem decVal_lt {l : List UInt8} (h : l.all isDig = true) : decVal l < 10 ^ l.length := by
 have := fold_lt l 0 h
 simpa [decVal] using this
theorem pow_le_pw {c k a b : Nat} (h : a * b ≤ 32 * k) (hc : c ≤ 2 ^ a) : c ^ b ≤ pw k := by
 rw [pw_two]
 refine Nat.le_trans ?_ (Nat.pow_le_pow_right Z5 h)
 rw [Nat.pow_mul]
 exact Nat.pow_le_pow_left hc b
theorem pw_le_pow {c k a b : Nat} (h : 32 * k ≤ a * b) (hc : 2 ^ a ≤ c) : pw k ≤ c ^ b := by
 rw [pw_two]
 refine Nat.le_trans (Nat.pow_le_pow_right Z5 h) ?_
 rw [Nat.pow_mul]
 exact Nat.pow_le_pow_left hc b
theorem ten_pw {n k : Nat} (h : n < 10 ^ k) (hk : k ≤ 400) : n < pw 50 := by
 exact Nat.lt_of_lt_of_le h (pow_le_pw (a := 4) (by omega) Z5)
theorem take_lt {l : List UInt8} (k : Nat) (h : (l.take k).all isDig = true) (hl : l.length ≤ 400) : decVal (l.take k) < pw 50 :=
 ten_pw (decVal_lt h) Z49
theorem dig_of (r : Nat) (h : r < 10) : (UInt8.ofNat (48 + r)).toNat = 48 + r := by
 rw [UInt8.toNat_ofNat']
 omega
theorem decVal_dec (n : Nat) : decVal (decDigits n) = n := by
 induction n using Nat.strongRecOn with
 | ind n ih =>
  by_cases h : n < 10
  ·rw [decDigits_small h]
   show 0 * 10 + ((UInt8.ofNat (48 + n)).toNat - 48) = n
   rw [dig_of n h]
   omega
  ·rw [decDigits_big h, decVal_snoc, ih _ (by omega), dig_of _ (by omega)]
   omega
theorem dec_all (n : Nat) : (decDigits n).all isDig = true := by
 induction n using Nat.strongRecOn with
 | ind n ih =>
  by_cases h : n < 10
  ·rw [decDigits_small h]
   simp only [List.all_cons, List.all_nil, Bool.and_true, isDig, decide_eq_true_eq]
   rw [dig_of n h]
   omega
  ·rw [decDigits_big h, all_snoc, ih _ (by omega), Bool.true_and]
   simp only [isDig, decide_eq_true_eq]
   rw [dig_of _ (by omega)]
   omega
theorem dec_head (n : Nat) (hn : n ≠ 0) : (decDigits n).getD 0 0 ≠ 48 := by
 induction n using Nat.strongRecOn with
 | ind n ih =>
  by_cases h : n < 10
  ·rw [decDigits_small h]
   intro e
   have e2 : (UInt8.ofNat (48 + n)).toNat = 48 := by
    have e3 : UInt8.ofNat (48 + n) = 48 := e
    rw [e3]; rfl
   rw [dig_of n h] at e2
   omega
  ·have h1 := ih (n / 10) (by omega) (by omega)
   have h2 := decDigits_pos (n / 10)
   rw [decDigits_big h]
   rw [List.getD_eq_getElem?_getD, List.getElem?_append_left h2, ← List.getD_eq_getElem?_getD]
   exact h1
theorem dec_len {n k : Nat} (h : n < 10 ^ (k + 1)) : (decDigits n).length ≤ k + 1 := by
 induction k generalizing n with
 | zero => rw [decDigits_small (by simpa using h)]; simp
 | succ k ih =>
  by_cases hn : n < 10
  ·rw [decDigits_small hn]; simp
  ·rw [decDigits_big hn, List.length_append]
   have hp : 10 ^ (k + 1 + 1) = 10 * 10 ^ (k + 1) := by rw [Nat.pow_succ, Nat.mul_comm]
   have := ih (n := n / 10) (by omega)
   simpa using this
theorem dec_len_pw {n j k : Nat} (h : n < pw j) (hk : 32 * j ≤ 3 * (k + 1)) : (decDigits n).length ≤ k + 1 := dec_len (Nat.lt_of_lt_of_le h (pw_le_pow (a := 3) hk Z5))
theorem pcode_dec {n : Nat} (h : (decDigits n).length ≤ 400) : pcode (decDigits n) = 0 := by
 unfold pcode
 rw [if_neg (by omega), if_neg, if_pos (dec_all n)]
 rintro (h1 | ⟨h1, h2⟩)
 ·have := decDigits_pos n
  rw [h1] at this
  exact absurd this Z5
 ·refine dec_head n ?_ h2
  rintro rfl
  rw [decDigits_small Z5] at h1
  exact absurd h1 Z5
theorem pnum_dec {n : Nat} (h : (decDigits n).length ≤ 400) : pnum (decDigits n) = n := by
 unfold pnum
 rw [if_pos (pcode_dec h), decVal_dec]
theorem pnum_lt (l : List UInt8) : pnum l < pw 50 := by
 unfold pnum
 split
 ·rename_i h
  unfold pcode at h
  split at h
  ·cases h
  ·rename_i h1
   split at h
   ·cases h
   ·split at h
    ·rename_i h3; exact ten_pw (decVal_lt h3) (by omega)
    ·cases h
 ·exact pw_pos 50
theorem pcode_long {l : List UInt8} (h : 400 < l.length) : pcode l = 3 ∧ pnum l = 0 := by
 have : pcode l = 3 := by unfold pcode; rw [if_pos h]
 exact Z64
theorem pcode_form {l : List UInt8} (h0 : ¬ 400 < l.length) (h : l = [] ∨ (1 < l.length ∧ l.getD 0 0 = 48)) : pcode l = 4 ∧ pnum l = 0 := by
 have : pcode l = 4 := by unfold pcode; rw [if_neg h0, if_pos h]
 exact Z64
theorem pcode_bad {l : List UInt8} (h0 : ¬ 400 < l.length) (h : ¬ (l = [] ∨ (1 < l.length ∧ l.getD 0 0 = 48))) (k : Nat) (hk : k < l.length) (hb : isDig (l.getD k 0) = false) : pcode l = 4 ∧ pnum l = 0 := by
 have hA : ¬ l.all isDig = true := by
  intro hA
  rw [List.all_eq_true] at hA
  have := hA (l.getD k 0) (by rw [List.getD_eq_getElem?_getD, List.getElem?_eq_getElem hk]; exact List.getElem_mem hk)
  rw [this] at hb
  cases hb
 have : pcode l = 4 := by unfold pcode; rw [if_neg h0, if_neg h, if_neg hA]
 exact Z64
theorem pcode_good {l : List UInt8} (h0 : ¬ 400 < l.length) (h : ¬ (l = [] ∨ (1 < l.length ∧ l.getD 0 0 = 48))) (hA : l.all isDig = true) : pcode l = 0 ∧ pnum l = decVal l := by
 have : pcode l = 0 := by unfold pcode; rw [if_neg h0, if_neg h, if_pos hA]
 exact Z64
theorem take_snocD (l : List UInt8) (k : Nat) (h : k < l.length) : l.take (k + 1) = l.take k ++ [l.getD k 0] := by
 rw [List.take_succ_eq_append_getElem h, List.getD_eq_getElem?_getD, List.getElem?_eq_getElem h]
 rfl
end Go.Proofs.YtpegcppeobndcaaGreatDoor.Nn
namespace Go.Proofs.YtpegcppeobndcaaGreatDoor.G
open Go.RowKit YtpegcppeobndcaaGreatDoorW.PrintWords YtpegcppeobndcaaGreatDoorW.PrintLast Go.Proofs.YtpegcppeobndcaaGreatDoor.Nn
def ParsePost (w : World) (l : List UInt8) (e : Ending) (w' : World) : Prop := ∃ v, e = .returned (.tuple #[v, .int .i64 (pcode l : Int)]) ∧ Nu w' v (pnum l) ∧ Below w.heap.size w w'
theorem parse_bad {w w' : World} {l : List UInt8} {c : Nat} (h : pcode l = c ∧ pnum l = 0) (hB : Below w.heap.size w w') : ParsePost w l (.returned (.tuple #[.slice none 0 0, .int .i64 (c : Int)])) w' :=
 ⟨_, by rw [h.1], by rw [h.2]; exact Nu_nil _, hB⟩
theorem parse_ok {w w' : World} {l : List UInt8} {v : Value} (h : pcode l = 0 ∧ pnum l = decVal l) (hN : Nu w' v (decVal l)) (hB : Below w.heap.size w w') : ParsePost w l (.returned (.tuple #[v, .int .i64 0])) w' :=
 ⟨v, by rw [h.1]; rfl, by rw [h.2]; exact hN, hB⟩
theorem pcutN {w : World} {v : Value} {x : Nat} (hx : Nu w v x) (bx : x < pw 1000) : Calls Tryz.prog 57 #[v] w (NuPost w x) := by
 obtain ⟨A0, c0, rfl, h0, C0⟩ := hx
 have h := cut_w A0 c0 (digs x) w C0 h0 (by have := small_len bx; omega)
 refine h.mono ?_
 rintro e w' ⟨v, rfl, hR, hB⟩
 rw [strip_eq (lim_digs x), val_digs] at hR
 exact ⟨v, rfl, Nu_of_RU hR, hB⟩
theorem parse_key (s : ByteArray) (h0 : ¬ 400 < s.size) (Q : Prop)
  (k1 : s = ⟨#[]⟩ → pcode s.data.toList = 4 ∧ pnum s.data.toList = 0 → Q)
  (k2 : ¬ s.toList = [] → s.toList.isEmpty = false → (h : 0 < s.size) → 1 < s.size → (((s[0]'h).toNat : Int) == 48) = true → pcode s.data.toList = 4 ∧ pnum s.data.toList = 0 → Q)
  (k3 : ¬ s.toList = [] → s.toList.isEmpty = false → 0 < s.size → (1 < s.size → ∀ h : 0 < s.size, (((s[0]'h).toNat : Int) == 48) = false) → ¬ (s.data.toList = [] ∨ (1 < s.data.toList.length ∧ s.data.toList.getD 0 0 = 48)) → Q) : Q := by
 have hl := data_length s
 have ht : s.toList = s.data.toList := Go.Lib.toList_data s
 rcases Nat.eq_zero_or_pos s.size with hz | hp
 ·have he : s.data.toList = [] := List.eq_nil_of_length_eq_zero (by omega)
  refine k1 ?_ (pcode_form (by omega) (.inl he))
  obtain ⟨⟨d⟩⟩ := s
  simp at he
  subst he
  rfl
 ·have he : s.data.toList ≠ [] := fun h => by rw [h] at hl; simp at hl; omega
  have g1 : ¬ s.toList = [] := by rw [ht]; exact he
  have g2 : s.toList.isEmpty = false := by rw [ht]; simpa using he
  have hd : s.data.toList.getD 0 0 = s[0]'hp := by rw [List.getD_eq_getElem?_getD, List.getElem?_eq_getElem (by omega)]; rfl
  by_cases hh : 1 < s.size ∧ s.data.toList.getD 0 0 = 48
  ·refine k2 g1 g2 hp hh.1 ?_ (pcode_form (by omega) (.inr ⟨by omega, hh.2⟩))
   rw [← hd, hh.2]; rfl
  ·refine k3 g1 g2 hp (fun h1 h => ?_) ?_
   ·rw [beq_eq_false_iff_ne]
    intro e
    refine hh ⟨h1, ?_⟩
    rw [hd]
    apply UInt8.toNat_inj.1
    have e2 : (48 : UInt8).toNat = 48 := rfl
    rw [e2]; omega
   ·rintro (h | ⟨h1, h2⟩)
    ·exact he h
    ·exact hh ⟨by omega, h2⟩
theorem isDig_of {b : UInt8} (h1 : 48 ≤ b.toNat) (h2 : b.toNat ≤ 57) : isDig b = true := by unfold isDig; exact decide_eq_true ⟨h1, h2⟩
theorem isDig_not {b : UInt8} (h : b.toNat < 48 ∨ 57 < b.toNat) : isDig b = false := by unfold isDig; exact decide_eq_false (by omega)
theorem parse_step {l : List UInt8} {k : Nat} (hk : k < l.length) {b : UInt8} (hb : b = l.getD k 0) (h1 : 48 ≤ b.toNat) (h2 : b.toNat ≤ 57) (ha : (l.take k).all isDig = true) :
  decVal (l.take (k + 1)) = decVal (l.take k) * 10 + (b.toNat - 48) ∧ (l.take (k + 1)).all isDig = true := by
 rw [take_snocD l k hk, decVal_snoc, ← hb, all_snoc, ha, isDig_of h1 h2]
 exact ⟨rfl, rfl⟩
theorem parse_w (s : ByteArray) (w : World) (hs : s.size ≤ 140737488355328) : Calls Tryz.prog 66 #[.string s] w (ParsePost w s.data.toList) := by
 have HLN := Aside0.mk (data_length s)
 by_cases h1 : 400 < s.size
 ·have HP := Aside0.mk (pcode_long (l := s.data.toList) Z44)
  go_enter Tryz.func66, Tryz.ntmps66
  go_wp2_with fail
  go_ret2
  exact parse_bad HP.out (Below.refl _ _)
 ·refine parse_key s h1 _ ?_ ?_ ?_
  ·rintro hs0 HP
   have HP := Aside0.mk HP
   have HS := Aside0.mk hs0
   subst hs0
   clear HS
   go_enter Tryz.func66, Tryz.ntmps66
   go_wp2_with fail
   go_ret2
   exact parse_bad HP.out (Below.refl _ _)
  ·intro g1 g2 g3 g4 g5 HP
   have HP := Aside0.mk HP
   go_enter Tryz.func66, Tryz.ntmps66
   go_wp2_with fail
   go_ret2
   exact parse_bad HP.out (Below.refl _ _)
  ·intro g1 g2 g3 g4 g5
   have HF := Aside0.mk g5
   have HB := Aside0.mk g4
   have H400 := Aside0.mk (show s.size ≤ 400 by omega)
   clear g4 g5
   by_cases g6 : 1 < s.size
   ·have g7 := HB.out g6 g3
    clear HB
    have kb := fun W => print_bytes (P := Tryz.prog) 9 144 5 Tryz.underlying9 Tryz.underlying144 Tryz.underlying5 s W
    go_enter Tryz.func66, Tryz.ntmps66
    go_wp2_with fail
    clear kb
    have HC0 := Aside0.mk (fun j (hj : j < s.size) => Lib.bytesWorld_cell w 5 s j hj)
    have HB0 := Aside0.mk (bytes_below (Below.refl w.heap.size w) (Nat.le_refl _) 5 s)
    obtain ⟨W0, hW0⟩ : ∃ W, W = Lib.bytesWorld w 5 s := ⟨_, rfl⟩
    obtain ⟨g, hg⟩ : ∃ g, g = w.heap.size := ⟨_, rfl⟩
    have HG := Aside0.mk hg
    rw [← hW0] at HC0 HB0 ⊢
    rw [← hg] at HC0 ⊢
    have HGL := Aside0.mk (show g < W0.heap.size by rw [hW0, Lib.bytesWorld_size, hg]; omega)
    clear hW0 hg
    go_loopw [4, 25] (fun a i wr => ∃ (k : Nat) (va : Value), k ≤ s.size ∧ i = .int .i64 (k : Int) ∧ va = a ∧ Aside0 (Nu wr va (decVal (s.data.toList.take k))) ∧ Aside0 ((s.data.toList.take k).all isDig = true) ∧ Aside0 (Below W0.heap.size W0 wr)) (fun _ i _ => s.size - (intOf i).toNat)
    case atStart => exact ⟨0, .slice none 0 0, Nat.zero_le _, rfl, rfl, ⟨by rw [List.take_zero]; exact Nu_nil _⟩, ⟨by rw [List.take_zero]; rfl⟩, ⟨Below.refl _ _⟩⟩
    case round =>
     obtain ⟨k, va, hk, rfl, rfl, HN, HA, HB⟩ := hrel
     have HBW := tT HB0 HB.out
     by_cases hlt : k < s.size
     ·have hcell : wr.cell? ⟨g, k, none⟩ = some (.int .u8 ((s.data.toList.getD k 0).toNat : Int)) := by rw [HB.out.cell (p := ⟨g, k, none⟩) HGL.out]; exact HC0.out k hlt
      obtain ⟨b, hb⟩ : ∃ b, b = s.data.toList.getD k 0 := ⟨_, rfl⟩
      rw [← hb] at hcell
      obtain ⟨n, hn⟩ : ∃ n, n = b.toNat := ⟨_, rfl⟩
      have hn8 : n < 256 := by rw [hn]; exact b.toNat_lt
      rw [← hn] at hcell
      have HBB := Aside0.mk hb
      have HNN := Aside0.mk hn
      clear hb hn
      by_cases hd1 : n < 48
      ·have HP := Aside0.mk (pcode_bad (l := s.data.toList) Z44 HF.out k Z48 Z40)
       have hd1' : (n : Int) < 48 := by omega
       go_wp2_with fail
       go_ret2
       exact parse_bad HP.out HBW.out
      ·by_cases hd2 : 57 < n
       ·have HP := Aside0.mk (pcode_bad (l := s.data.toList) Z44 HF.out k Z48 Z40)
        have hd1' : ¬ (n : Int) < 48 := by omega
        have hd2' : 57 < (n : Int) := by omega
        go_wp2_with fail
        go_ret2
        exact parse_bad HP.out HBW.out
       ·have HST := Aside0.mk (parse_step (l := s.data.toList) (k := k) Z48 HBB.out (by rw [← HNN.out]; omega) (by rw [← HNN.out]; omega) HA.out)
        obtain ⟨d, hd⟩ : ∃ d : Nat, d = n - 48 := ⟨_, rfl⟩
        have HD := Aside0.mk (show d = b.toNat - 48 by rw [← HNN.out]; exact hd)
        have hnd : n = d + 48 := by omega
        have hd9 : d ≤ 9 := by omega
        clear hd
        subst hnd
        have hsub : ((d + 48 : Nat) : Int) - 48 = (d : Int) := by omega
        have hsub2 : (d : Int) + 48 - 48 = (d : Int) := by omega
        have HV := Aside0.mk (take_lt k HA.out (by rw [HLN.out]; exact H400.out))
        obtain ⟨x, hx⟩ : ∃ x, x = decVal (s.data.toList.take k) := ⟨_, rfl⟩
        rw [← hx] at HN HV HST
        clear hx
        have H1 : Aside0 (Calls Tryz.prog 25 #[.int .u64 10] wr (NuPost wr 10)) := ⟨ofN 10 Z5⟩
        go_wp2_with fail
        refine H1.out.mono ?_
        rintro e w1 ⟨v1, rfl, hN1, hB1⟩
        have H2 : Aside0 (Calls Tryz.prog 92 #[va, v1] w1 (NuPost w1 (x * 10))) := ⟨mulN (HN.out.below hB1) hN1 (pw_lt1000 HV.out (by omega)) (pw_lt1000 (show 10 < pw 1 by decide) (by omega))⟩
        have HB1 := tT HB hB1
        clear hN1 hB1
        go_wp2_with fail
        refine H2.out.mono ?_
        rintro e w2 ⟨v2, rfl, hN2, hB2⟩
        have HN2 := Aside0.mk hN2
        have H3 : Aside0 (Calls Tryz.prog 25 #[.int .u64 (d : Int)] w2 (NuPost w2 d)) := ⟨ofN d (by omega)⟩
        have HB2 := tT HB1 hB2
        clear hN2 hB2
        go_wp2_with fail
        refine H3.out.mono ?_
        rintro e w3 ⟨v3, rfl, hN3, hB3⟩
        have H4 : Aside0 (Calls Tryz.prog 112 #[v2, v3] w3 (NuPost w3 (x * 10 + d))) := ⟨addN (HN2.out.below hB3) hN3 (Nat.lt_of_lt_of_le (pw_mulb HV.out (show 10 < pw 1 by decide)) (pw_le (by omega))) (pw_lt1000 (show d < pw 1 by have : pw 1 = 4294967296 := rfl; omega) (by omega))⟩
        have HB3 := tT HB2 hB3
        clear hN3 hB3
        go_wp2_with fail
        refine H4.out.mono ?_
        rintro e w4 ⟨v4, rfl, hN4, hB4⟩
        have HN4 := Aside0.mk (show Nu w4 v4 (decVal (s.data.toList.take (k + 1))) by rw [HST.out.1, ← HD.out]; exact hN4)
        have HB4 := tT HB3 hB4
        clear hN4 hB4
        go_wp2_with fail
        go_roundw
        case rel => exact ⟨k + 1, v4, by omega, by go_num, rfl, ⟨HN4.out⟩, ⟨HST.out.2⟩, ⟨HB4.out⟩⟩
        case measure => simp [intOf]; omega
     ·have hk2 : k = s.size := by omega
      subst hk2
      have HT := Aside0.mk (show s.data.toList.take s.size = s.data.toList from List.take_of_length_le (by rw [HLN.out]; exact Nat.le_refl _))
      rw [HT.out] at HN HA
      have HP := Aside0.mk (pcode_good (l := s.data.toList) Z44 HF.out HA.out)
      have H1 : Aside0 (Calls Tryz.prog 57 #[va] wr (NuPost wr (decVal s.data.toList))) := ⟨pcutN HN.out (pw_lt1000 (ten_pw (decVal_lt HA.out) (by rw [HLN.out]; exact H400.out)) (by omega))⟩
      go_wp2_with fail
      refine H1.out.mono ?_
      rintro e w1 ⟨v1, rfl, hN1, hB1⟩
      have HN1 := Aside0.mk hN1
      have HB1 := tT HBW hB1
      clear hN1 hB1
      go_wp2_with fail
      go_ret2
      exact parse_ok HP.out HN1.out HB1.out
   ·clear HB
    have kb := fun W => print_bytes (P := Tryz.prog) 9 144 5 Tryz.underlying9 Tryz.underlying144 Tryz.underlying5 s W
    go_enter Tryz.func66, Tryz.ntmps66
    go_wp2_with fail
    clear kb
    have HC0 := Aside0.mk (fun j (hj : j < s.size) => Lib.bytesWorld_cell w 5 s j hj)
    have HB0 := Aside0.mk (bytes_below (Below.refl w.heap.size w) (Nat.le_refl _) 5 s)
    obtain ⟨W0, hW0⟩ : ∃ W, W = Lib.bytesWorld w 5 s := ⟨_, rfl⟩
    obtain ⟨g, hg⟩ : ∃ g, g = w.heap.size := ⟨_, rfl⟩
    have HG := Aside0.mk hg
    rw [← hW0] at HC0 HB0 ⊢
    rw [← hg] at HC0 ⊢
    have HGL := Aside0.mk (show g < W0.heap.size by rw [hW0, Lib.bytesWorld_size, hg]; omega)
    clear hW0 hg
    go_loopw [4, 25] (fun a i wr => ∃ (k : Nat) (va : Value), k ≤ s.size ∧ i = .int .i64 (k : Int) ∧ va = a ∧ Aside0 (Nu wr va (decVal (s.data.toList.take k))) ∧ Aside0 ((s.data.toList.take k).all isDig = true) ∧ Aside0 (Below W0.heap.size W0 wr)) (fun _ i _ => s.size - (intOf i).toNat)
    case atStart => exact ⟨0, .slice none 0 0, Nat.zero_le _, rfl, rfl, ⟨by rw [List.take_zero]; exact Nu_nil _⟩, ⟨by rw [List.take_zero]; rfl⟩, ⟨Below.refl _ _⟩⟩
    case round =>
     obtain ⟨k, va, hk, rfl, rfl, HN, HA, HB⟩ := hrel
     have HBW := tT HB0 HB.out
     by_cases hlt : k < s.size
     ·have hcell : wr.cell? ⟨g, k, none⟩ = some (.int .u8 ((s.data.toList.getD k 0).toNat : Int)) := by rw [HB.out.cell (p := ⟨g, k, none⟩) HGL.out]; exact HC0.out k hlt
      obtain ⟨b, hb⟩ : ∃ b, b = s.data.toList.getD k 0 := ⟨_, rfl⟩
      rw [← hb] at hcell
      obtain ⟨n, hn⟩ : ∃ n, n = b.toNat := ⟨_, rfl⟩
      have hn8 : n < 256 := by rw [hn]; exact b.toNat_lt
      rw [← hn] at hcell
      have HBB := Aside0.mk hb
      have HNN := Aside0.mk hn
      clear hb hn
      by_cases hd1 : n < 48
      ·have HP := Aside0.mk (pcode_bad (l := s.data.toList) Z44 HF.out k Z48 Z40)
       have hd1' : (n : Int) < 48 := by omega
       go_wp2_with fail
       go_ret2
       exact parse_bad HP.out HBW.out
      ·by_cases hd2 : 57 < n
       ·have HP := Aside0.mk (pcode_bad (l := s.data.toList) Z44 HF.out k Z48 Z40)
        have hd1' : ¬ (n : Int) < 48 := by omega
        have hd2' : 57 < (n : Int) := by omega
        go_wp2_with fail
        go_ret2
        exact parse_bad HP.out HBW.out
       ·have HST := Aside0.mk (parse_step (l := s.data.toList) (k := k) Z48 HBB.out (by rw [← HNN.out]; omega) (by rw [← HNN.out]; omega) HA.out)
        obtain ⟨d, hd⟩ : ∃ d : Nat, d = n - 48 := ⟨_, rfl⟩
        have HD := Aside0.mk (show d = b.toNat - 48 by rw [← HNN.out]; exact hd)
        have hnd : n = d + 48 := by omega
        have hd9 : d ≤ 9 := by omega
        clear hd
        subst hnd
        have hsub : ((d + 48 : Nat) : Int) - 48 = (d : Int) := by omega
        have hsub2 : (d : Int) + 48 - 48 = (d : Int) := by omega
        have HV := Aside0.mk (take_lt k HA.out (by rw [HLN.out]; exact H400.out))
        obtain ⟨x, hx⟩ : ∃ x, x = decVal (s.data.toList.take k) := ⟨_, rfl⟩
        rw [← hx] at HN HV HST
        clear hx
        have H1 : Aside0 (Calls Tryz.prog 25 #[.int .u64 10] wr (NuPost wr 10)) := ⟨ofN 10 Z5⟩
        go_wp2_with fail
        refine H1.out.mono ?_
        rintro e w1 ⟨v1, rfl, hN1, hB1⟩
        have H2 : Aside0 (Calls Tryz.prog 92 #[va, v1] w1 (NuPost w1 (x * 10))) := ⟨mulN (HN.out.below hB1) hN1 (pw_lt1000 HV.out (by omega)) (pw_lt1000 (show 10 < pw 1 by decide) (by omega))⟩
        have HB1 := tT HB hB1
        clear hN1 hB1
        go_wp2_with fail
        refine H2.out.mono ?_
        rintro e w2 ⟨v2, rfl, hN2, hB2⟩
        have HN2 := Aside0.mk hN2
        have H3 : Aside0 (Calls Tryz.prog 25 #[.int .u64 (d : Int)] w2 (NuPost w2 d)) := ⟨ofN d (by omega)⟩
        have HB2 := tT HB1 hB2
        clear hN2 hB2
        go_wp2_with fail
        refine H3.out.mono ?_
        rintro e w3 ⟨v3, rfl, hN3, hB3⟩
        have H4 : Aside0 (Calls Tryz.prog 112 #[v2, v3] w3 (NuPost w3 (x * 10 + d))) := ⟨addN (HN2.out.below hB3) hN3 (Nat.lt_of_lt_of_le (pw_mulb HV.out (show 10 < pw 1 by decide)) (pw_le (by omega))) (pw_lt1000 (show d < pw 1 by have : pw 1 = 4294967296 := rfl; omega) (by omega))⟩
        have HB3 := tT HB2 hB3
        clear hN3 hB3
        go_wp2_with fail
        refine H4.out.mono ?_
        rintro e w4 ⟨v4, rfl, hN4, hB4⟩
        have HN4 := Aside0.mk (show Nu w4 v4 (decVal (s.data.toList.take (k + 1))) by rw [HST.out.1, ← HD.out]; exact hN4)
        have HB4 := tT HB3 hB4
        clear hN4 hB4
        go_wp2_with fail
        go_roundw
        case rel => exact ⟨k + 1, v4, by omega, by go_num, rfl, ⟨HN4.out⟩, ⟨HST.out.2⟩, ⟨HB4.out⟩⟩
        case measure => simp [intOf]; omega
     ·have hk2 : k = s.size := by omega
      subst hk2
      have HT := Aside0.mk (show s.data.toList.take s.size = s.data.toList from List.take_of_length_le (by rw [HLN.out]; exact Nat.le_refl _))
      rw [HT.out] at HN HA
      have HP := Aside0.mk (pcode_good (l := s.data.toList) Z44 HF.out HA.out)
      have H1 : Aside0 (Calls Tryz.prog 57 #[va] wr (NuPost wr (decVal s.data.toList))) := ⟨pcutN HN.out (pw_lt1000 (ten_pw (decVal_lt HA.out) (by rw [HLN.out]; exact H400.out)) (by omega))⟩
      go_wp2_with fail
      refine H1.out.mono ?_
      rintro e w1 ⟨v1, rfl, hN1, hB1⟩
      have HN1 := Aside0.mk hN1
      have HB1 := tT HBW hB1
      clear hN1 hB1
      go_wp2_with fail
      go_ret2
      exact parse_ok HP.out HN1.out HB1.out
end Go.Proofs.YtpegcppeobndcaaGreatDoor.G
namespace Go.Proofs.YtpegcppeobndcaaGreatDoor.G
open Go.RowKit Go.Proofs.YtpegcppeobndcaaGreatDoorW.PrintWords Go.Proofs.YtpegcppeobndcaaGreatDoorW.PrintLast Go.Proofs.YtpegcppeobndcaaGreatDoor.Nn
def StepPost (wr W : World) (n : Nat) (e : Ending) (w' : World) : Prop := ∃ v, e = .returned v ∧ Nu w' v n ∧ Below wr.heap.size wr w' ∧ ∀ u m, Nu W u m → Nu w' u m
end Go.Proofs.YtpegcppeobndcaaGreatDoor.G
namespace Go.Proofs.YtpegcppeobndcaaGreatDoor.G
open Go.RowKit YtpegcppeobndcaaGreatDoorW.PrintWords YtpegcppeobndcaaGreatDoorW.PrintLast Go.Proofs.YtpegcppeobndcaaGreatDoor.Nn
open Go.Lib (decDigits)
theorem str_app (a b : ByteArray) : (a ++ b).data.toList = a.data.toList ++ b.data.toList := by rw [ByteArray.data_append, Array.toList_append]
def TF (n q : Nat) (s : ByteArray) : Prop := dec0 n = dec0 q ++ s.data.toList
def TabOk (w : World) : Prop := Lib.TabIs Tryz.prog w "internal/strconv.uint64pow10" .u64 Lib.pow10Tab
theorem gTab : Tryz.prog.globalNamed "internal/strconv.uint64pow10" = some 1 := by kernel_rfl
theorem gTabT : (Tryz.prog.globals[1]?).map (·.type) = some 234 := by kernel_rfl
theorem TabOk.below {w w' : World} (h : TabOk w) (hb : Below w.heap.size w w') : TabOk w' := by
 unfold TabOk Lib.TabIs World.var? at h ⊢
 rw [gTab] at h ⊢
 simp only [Option.bind_some] at h ⊢
 have hlt : 1 < w.heap.size := by
  rcases Nat.lt_or_ge 1 w.heap.size with h' | h'
  ·exact h'
  ·simp [Array.getElem?_eq_none h'] at h
 rw [hb.block _ hlt]
 exact h
theorem tab_of_met {l : List (String × DataW Unit)} {W : World} (hp : (l.all fun x => x.2.handleName?.isNone) = true) (hm : ("internal/strconv.uint64pow10", Lib.tabData .u64 Lib.pow10Tab) ∈ l) (h : laidMetH Tryz.prog l W) : TabOk W := by
 rw [MakeChecks.laidMetH_plain _ _ _ hp] at h
 obtain ⟨g, t, cs, fuel, p, hg, ht, hv, hd⟩ := Lib.laidMet.reads h hm
 obtain rfl := Option.some.inj (gTab.symm.trans hg)
 obtain rfl := Option.some.inj (gTabT.symm.trans ht)
 unfold TabOk Lib.TabIs
 rw [hv, ← Lib.cells_of_tab Tryz.underlying234 Tryz.underlying22 Z4 Z4 hd]
theorem below_ran (w : World) (k : Nat) (os : Array Obj) : Below w.heap.size w (Go.Sort.grow (w.drewN k) os) :=
 ⟨rfl, rfl, rfl, by show w.heap.size ≤ (w.heap ++ os).size; rw [Array.size_append]; omega, fun i hi => by show (w.heap ++ os)[i]? = _; rw [Array.getElem?_append_left hi]⟩
theorem itoa_tab {w : World} (h : TabOk w) (X : Nat) : ItoaC w X := fun r wr _ hl hB =>
 (Tryz.strconv_Itoa (r : Int) (by omega) (by omega) wr (h.below hB)).mono fun e w' ⟨he, k, os, hw⟩ => by
  subst hw
  refine ⟨_, he, ?_, below_ran _ _ _⟩
  show (Lib.itoa (r : Int)).toArray.toList = _
  rw [List.toList_toArray, Lib.itoa, if_neg (by omega)]
  rfl
theorem textN {w : World} {vx : Value} {n : Nat} (hx : Nu w vx n) (bn : n < pw 1000) (h : TabOk w) :
  Calls Tryz.prog 26 #[vx] w (TextPost w (decDigits n)) := text_w hx bn (itoa_tab h n)
end Go.Proofs.YtpegcppeobndcaaGreatDoor.G
