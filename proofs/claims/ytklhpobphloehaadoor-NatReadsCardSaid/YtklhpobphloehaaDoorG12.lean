/- Contracts by hand: nat.Text: a number's decimal digits. -/
import Derived.Test.YtklhpobphloehaaDoorN
import Derived.Test.YtklhpobphloehaaDoorG11
import Derived.Test.YtklhpobphloehaaDoorDec
import Derived.Test.YtklhpobphloehaaDoorLibB
set_option linter.unusedVariables false
namespace Go.Proofs.YtklhpobphloehaaDoor.G
open Go.RowKit Go.Proofs.YtklhpobphloehaaDoorW.PrintWords Go.Proofs.YtklhpobphloehaaDoorW.PrintLast Go.Proofs.YtklhpobphloehaaDoor.Nn
open Go.Lib (decDigits join repeatL joinTail join_cons)
open Go.Sort (putRow Holds size_putRow cell?_putRow mapBlock)

/-- Texts as values. -/
def strs (ss : List (List UInt8)) : List Value := ss.map encStr
theorem strs_length (ss : List (List UInt8)) : (strs ss).length = ss.length := by simp [strs]
theorem infoS : (Tryd.prog.info? 9).map (fun i => (i.zero, i.size, i.bytes)) = some (some (.string ⟨#[]⟩), 1, 16) := by kernel_rfl

def TextPost (w : World) (l : List UInt8) (e : Ending) (w' : World) : Prop := ∃ s : ByteArray, e = .returned (.string s) ∧ s.data.toList = l ∧ Below w.heap.size w w'
/-- What Itoa tells, of numbers up to X. -/
def ItoaC (w : World) (X : Nat) : Prop := ∀ (r : Nat) (wr : World), r ≤ X → r < 1000000000 → Below w.heap.size w wr → Calls Tryd.prog 82 #[.int .i64 (r : Int)] wr (TextPost wr (decDigits r))
theorem itoa_small (w : World) : ItoaC w 99 := fun r wr hr _ _ => (Tryd.strconv_Itoa_small r (by omega) wr).mono fun e w' ⟨he, hw⟩ => by
  subst hw
  exact ⟨_, he, by simp, Below.refl _ _⟩
theorem repeat_w (c : Nat) (w : World) (hc : c ≤ 9) : Calls Tryd.prog 83 #[.string ⟨#[48]⟩, .int .i64 (c : Int)] w (TextPost w (List.replicate c 48)) :=
  (Tryd.strings_Repeat ⟨#[48]⟩ c w (by omega) (by show 1 * c ≤ _; omega)).mono fun e w' ⟨he, hB⟩ => ⟨_, he, by
    show (repeatL [48] c).toArray.toList = _
    rw [List.toList_toArray, repeat_one], hB⟩

theorem below_putRow {α : Type} [Inhabited α] {B : Nat} {w wr : World} (h : Below B w wr) (enc : α → Value) {g : Nat} (hg : B ≤ g) (off : Nat) (d : Array α) (n : Nat) : Below B w (putRow enc (Go.Sort.ahead wr n) g off d) :=
  h.trans ⟨rfl, rfl, rfl, by rw [size_putRow]; exact Nat.le_refl _, fun k hk => by
    simp only [putRow, mapBlock, Array.getElem?_modify]
    rw [if_neg (by omega)]
    rfl⟩
/-- Reverse, of texts of the call's own; then Join. -/
theorem reverse_w {B : Nat} {w wr : World} {v : Value} {ss : List (List UInt8)} (h : wr.ownsRow B 9 1 v ss.length (strs ss)) (hp : 0 < ss.length) (hB : Below B w wr) :
    Calls Tryd.prog 84 #[v] wr fun e w' => e = .returned (.tuple #[]) ∧ Below B w w' ∧ ∃ g c, v = .slice (some ⟨g, 0, none⟩) ss.length c ∧ ss.length ≤ c ∧ g < w'.heap.size ∧ ∀ j x, (ss.reverse.map (fun s : List UInt8 => (⟨s.toArray⟩ : ByteArray)))[j]? = some x → w'.cell? ⟨g, 0 + j, none⟩ = some (.string x) := by
  obtain ⟨g, cap, rfl, hgB, hgl⟩ := h.form hp
  have hcap : ss.length ≤ cap := by
    rcases h.2 with ⟨h', _⟩ | ⟨g', cap', cur, h', _, _, h2, _⟩
    · cases h'
    · injection h' with _ _ h'; omega
  have hm : ss.length ≤ 9223372036854775807 := by
    rcases h.2 with ⟨h', _⟩ | ⟨g', cap', cur, h', _, _, h2, h3, _⟩
    · cases h'
    · simp only [maxLen] at h3; omega
  have hH : Holds encStr wr g 0 ss.toArray := by
    intro j hj
    have hj' : j < ss.length := by simpa using hj
    constructor
    · have hc := h.cells (g := g) rfl j (encStr ss[j]) (by simp [strs, List.getElem?_eq_getElem hj'])
      rw [add_plain] at hc
      rw [Nat.zero_add, hc]
      simp [getElem!_pos, hj']
    · rcases h.2 with ⟨h', _⟩ | ⟨g', cap', cur, h', _, hh, _⟩
      · cases h'
      · have : g = g' := by injection h' with h'; injection h' with h'; injection h' with h'
        subst this
        simp [World.frozen?, hh]
  refine (Tryd.slices_Reverse_string g 0 cap ss wr hH hm).mono ?_
  rintro e w' ⟨rfl, n, rfl⟩
  refine ⟨rfl, below_putRow hB encStr hgB 0 _ n, g, cap, rfl, hcap, by rw [size_putRow]; exact hgl, ?_⟩
  intro j x hx
  have hj : j < ss.reverse.length := by
    have := (List.getElem?_eq_some_iff.1 hx).1
    simpa using this
  have := cell?_putRow encStr (Go.Sort.ahead wr n) g 0 ss.toArray ss.reverse.toArray hH (by simp) j (by simpa using hj)
  rw [this]
  have hj2 : j < ss.reverse.toArray.size := by simpa using hj
  rw [getElem!_pos _ j hj2]
  rw [List.getElem?_map, List.getElem?_eq_getElem hj] at hx
  simp only [Option.map_some, Option.some.injEq] at hx
  rw [← hx]
  simp
theorem join_empty (xs : List (List UInt8)) : join xs [] = xs.flatten := by
  induction xs with
  | nil => rfl
  | cons x r ih =>
    rw [join_cons]
    simp [joinTail]
theorem join_w {w : World} {g c : Nat} (ss : List (List UInt8)) (hcells : ∀ j x, (ss.map (fun s : List UInt8 => (⟨s.toArray⟩ : ByteArray)))[j]? = some x → w.cell? ⟨g, 0 + j, none⟩ = some (.string x)) (hg : g < w.heap.size) (hc : ss.length ≤ c) (hl : ss.flatten.length ≤ 140737488355328) (hN : ss.length ≤ 140737488355328) :
    Calls Tryd.prog 85 #[.slice (some ⟨g, 0, none⟩) ss.length c, .string ⟨#[]⟩] w (TextPost w ss.flatten) := by
  have hm : (ss.map (fun s : List UInt8 => (⟨s.toArray⟩ : ByteArray))).map (·.data.toList) = ss := by
    rw [List.map_map]
    conv => rhs; rw [← List.map_id ss]
    apply List.map_congr_left
    intro a _
    simp
  have h := Tryd.strings_Join g 0 c (ss.map (fun s : List UInt8 => (⟨s.toArray⟩ : ByteArray))) ⟨#[]⟩ w hcells hg (by simpa using hN) (by simpa using hc) (by rw [hm]; show (join ss []).length ≤ _; rw [join_empty]; exact hl)
  rw [hm] at h
  rw [List.length_map] at h
  refine h.mono ?_
  rintro e w' ⟨rfl, hB⟩
  exact ⟨_, rfl, by show (join ss []).toArray.toList = _; rw [join_empty, List.toList_toArray], hB⟩

/-- How the digits stand after some rounds. -/
def Dec (n m : Nat) (ss : List (List UInt8)) : Prop := dec0 n = dec0 m ++ ss.reverse.flatten ∧ (ss ≠ [] → n ≠ 0) ∧ ss.flatten.length ≤ 9 * ss.length ∧ m * 1000000000 ^ ss.length ≤ n ∧ (ss = [] ∨ 1000000000 ^ (ss.length - 1) ≤ n)
theorem Dec_start (n : Nat) : Dec n n [] := ⟨by simp, fun h => absurd rfl h, by simp, by simp, .inl rfl⟩
theorem Dec_step {n m q r : Nat} {ss : List (List UInt8)} {s : List UInt8} (h : Dec n m ss) (hm : m ≠ 0) (hq : q = m / 1000000000) (hr : r = m % 1000000000) (hs : s = if q = 0 then decDigits r else List.replicate (9 - (decDigits r).length) 48 ++ decDigits r) : Dec n q (ss ++ [s]) := by
  obtain ⟨h1, h2, h3, h4, h5⟩ := h
  have hp : 0 < 1000000000 ^ ss.length := Nat.pow_pos (by decide)
  have h6 : 1000000000 ^ ss.length ≤ n := Nat.le_trans (Nat.le_mul_of_pos_left _ (by omega)) h4
  have hsl : s.length ≤ 9 := by
    have := (dec9 (r := r) (by omega)).1
    rw [hs]
    split
    · exact this
    · simp; omega
  refine ⟨?_, fun _ => by omega, ?_, ?_, .inr ?_⟩
  · rw [h1, dec_chunk hm hq hr, ← hs]
    simp
  · have e : (ss ++ [s]).flatten.length = ss.flatten.length + s.length := by rw [List.flatten_append, List.length_append, List.flatten_cons, List.flatten_nil, List.append_nil]
    rw [e, List.length_append, List.length_singleton]
    omega
  · rw [List.length_append, List.length_singleton, Nat.pow_succ, ← Nat.mul_assoc, Nat.mul_right_comm]
    have h7 : q * 1000000000 ≤ m := by omega
    exact Nat.le_trans (Nat.mul_le_mul_right _ h7) h4
  · simpa using h6
theorem pw_le_two {j k : Nat} (h : 32 * j ≤ 29 * k) : pw j ≤ (2 ^ 29) ^ k := by
  rw [pw_two, ← Nat.pow_mul]
  exact Nat.pow_le_pow_right (by decide) h
theorem flat_rev (ss : List (List UInt8)) : ss.reverse.flatten.length = ss.flatten.length := by
  induction ss with
  | nil => rfl
  | cons x xs ih => rw [List.reverse_cons, List.flatten_append, List.length_append, ih, List.flatten_cons, List.flatten_cons, List.flatten_nil, List.append_nil, List.length_append]; omega
theorem Dec_small {n m : Nat} {ss : List (List UInt8)} (h : Dec n m ss) (hn : n < pw 1000) : ss.length < 2000 := by
  rcases h.2.2.2.2 with h1 | h1
  · rw [h1]; simp
  · refine Nat.lt_of_not_le fun h2 => ?_
    obtain ⟨k, hk⟩ : ∃ k, k = ss.length - 1 := ⟨_, rfl⟩
    rw [← hk] at h1
    have h4 : (2 ^ 29) ^ k ≤ 1000000000 ^ k := Nat.pow_le_pow_left (by decide) k
    have h5 := pw_le_two (j := 1000) (k := k) (by omega)
    exact absurd (Nat.lt_of_lt_of_le hn h5) (Nat.not_lt.2 (Nat.le_trans h4 h1))
theorem Dec_end {n : Nat} {ss : List (List UInt8)} (h : Dec n 0 ss) : (ss = [] → n = 0) ∧ (ss ≠ [] → decDigits n = ss.reverse.flatten) := by
  refine ⟨fun h1 => ?_, fun h1 => ?_⟩
  · have := h.1
    rw [h1] at this
    exact dec0_nil (by simpa [dec0] using this)
  · have h2 := h.1
    have h3 := h.2.1 h1
    simp only [dec0, h3, if_false, if_true, List.nil_append] at h2
    exact h2

theorem Nu_len {n : Nat} (h : n ≠ 0) : 0 < (digs n).length := by rw [digs_pos h]; simp
theorem text_none {w w' : World} {n : Nat} (h : n = 0) (hB : Below w.heap.size w w') : TextPost w (decDigits n) (.returned (.string ⟨#[48]⟩)) w' := by
  subst h
  exact ⟨_, rfl, by rw [decDigits_small (by decide)]; rfl, hB⟩
theorem RU_kept {wa wb : World} {B0 : Nat} {v u : Value} {l : List Int} (h : RU wa B0 v l) (hu : ∀ k, u.ownBlock = some k → k < B0) (hg : wa.grownBy wb u.ownBlock) : RU wb B0 v l := by
  refine RU_own ((own_RU h).kept hg ?_)
  cases hv : v.ownBlock with
  | none => exact .inl rfl
  | some k =>
    right
    intro e
    have h1 := own_base (own_RU h) k hv
    have h2 := hu k e.symm
    omega
theorem bytes_eq {s : ByteArray} {l : List UInt8} (h : s.data.toList = l) : s = ⟨l.toArray⟩ := by
  subst h
  cases s
  simp
theorem bytes_size {s : ByteArray} {l : List UInt8} (h : s.data.toList = l) : s.size = l.length := by rw [← h, data_length]
theorem strs_snoc {w : World} {base : Nat} {v : Value} {ss : List (List UInt8)} {s : ByteArray} {l : List UInt8} (h : w.ownsRow base 9 1 v (strs ss ++ [Value.string s]).length (strs ss ++ [Value.string s])) (hs : s.data.toList = l) : w.ownsRow base 9 1 v (ss ++ [l]).length (strs (ss ++ [l])) := by
  have e : strs ss ++ [Value.string s] = strs (ss ++ [l]) := by rw [bytes_eq hs]; simp [strs]
  rw [e, strs_length] at h
  exact h
set_option maxHeartbeats 4000000 in
set_option maxRecDepth 100000 in
theorem text_w {w : World} {vx : Value} {n : Nat} (hx : Nu w vx n) (bn : n < pw 1000) (HI : ItoaC w n) :
    Calls Tryd.prog 25 #[vx] w (TextPost w (decDigits n)) := by
  obtain ⟨A0, c0, rfl, h0, C0⟩ := hx
  have HC := slices_Clone_uint32_uint32.calls A0 c0 (digs n) (digs n) w C0 h0 (by unfold slices_Clone_uint32_uint32.f; rw [if_pos (by have := small_len bn; omega)])
  have HC := Aside0.mk HC
  have HI := Aside0.mk HI
  have BN := Aside0.mk bn
  clear C0 h0 bn
  go_enter Tryd.func25, Tryd.ntmps25
  go_wp2_with fail
  refine HC.out.mono ?_
  rintro e w1 ⟨v1, rfl, hR1, hB1⟩
  obtain ⟨A1, c1, e1, hc1, hC1⟩ := Nu_of_RU hR1
  subst e1
  have HS1 := Aside0.mk hc1
  have HC1 := Aside0.mk hC1
  have HB1 := Aside0.mk hB1
  clear hR1 hB1 hc1 hC1
  go_wp2_with fail
  go_loopg [0, 3] n (fun m va vl wr => ∃ (A : Option Addr) (c : Nat) (ss : List (List UInt8)), va = .slice A (digs m).length c ∧ Aside0 ((digs m).length ≤ c ∧ CU wr A (digs m).length (digs m)) ∧ Aside0 (wr.ownsRow w.heap.size 9 1 vl ss.length (strs ss)) ∧ Aside0 (Dec n m ss) ∧ Aside0 (m ≤ n) ∧ Aside0 (Below w.heap.size w wr))
  case atStart => exact ⟨A1, c1, [], rfl, ⟨HS1.out, HC1.out⟩, ⟨own_nil _ _ _ _⟩, ⟨Dec_start n⟩, ⟨Nat.le_refl _⟩, ⟨HB1.out⟩⟩
  case round =>
    clear HS1 HC1 HB1 HC
    obtain ⟨A, c, ss, rfl, HN, HO, HD, HM, HB⟩ := hrel
    by_cases hm : gk = 0
    · subst hm
      rw [digs_zero, List.length_nil]
      have HE := Aside0.mk (Dec_end HD.out)
      by_cases hss : ss = []
      · have HSS := Aside0.mk (HE.out.1 hss)
        obtain ⟨A', c', e'⟩ := own_slice HO.out
        subst hss e'
        rw [List.length_nil]
        go_wp2_with fail
        go_ret
        exact text_none HSS.out HB.out
      · have hp : 0 < ss.length := by
          rcases Nat.eq_zero_or_pos ss.length with h | h
          · exact absurd (List.eq_nil_of_length_eq_zero h) hss
          · exact h
        have HSS := Aside0.mk (HE.out.2 hss)
        have HRV := Aside0.mk (reverse_w HO.out hp HB.out)
        have HLS := Aside0.mk (Dec_small HD.out BN.out)
        have HLF := Aside0.mk HD.out.2.2.1
        obtain ⟨A', c', e'⟩ := own_slice HO.out
        subst e'
        clear hss HO
        go_wp2_with fail
        refine HRV.out.mono ?_
        rintro e w2 ⟨rfl, hB2, g, c2, hv, hc2, hg, hcells⟩
        cases hv
        have HJ := join_w (w := w2) (g := g) (c := c') ss.reverse hcells hg (by rw [List.length_reverse]; exact hc2) (by have h1 := HLS.out; have h2 := HLF.out; rw [flat_rev]; omega) (by have h1 := HLS.out; rw [List.length_reverse]; omega)
        rw [List.length_reverse] at HJ
        have HJ := Aside0.mk HJ
        have HB2 := Aside0.mk hB2
        clear hB2 hc2 hg hcells
        go_wp2_with fail
        refine HJ.out.mono ?_
        rintro e w3 ⟨s, rfl, hs, hB3⟩
        have HS := Aside0.mk hs
        have HB3 := Aside0.mk hB3
        clear hs hB3
        go_wp2_with fail
        go_ret
        exact ⟨_, rfl, by rw [HSS.out]; exact HS.out, HB2.out.trans (HB3.out.mono HB2.out.size)⟩
    · have hp := Nu_len hm
      obtain ⟨q, hq⟩ : ∃ q, q = gk / 1000000000 := ⟨_, rfl⟩
      obtain ⟨r, hr⟩ : ∃ r, r = gk % 1000000000 := ⟨_, rfl⟩
      have hrl : r < 1000000000 := by omega
      have hqm : q < gk := by omega
      have HSM : Calls Tryd.prog 81 #[.slice A (digs gk).length c, .int .u32 1000000000] wr fun e w' => ∃ A2 c2, e = .returned (.tuple #[.slice A2 (digs q).length c2, .int .u32 (r : Int)]) ∧ RU w' wr.heap.size (.slice A2 (digs q).length c2) (digs q) ∧ Below wr.heap.size wr w' := by
        have h := small_w A c (digs gk) 1000000000 wr HN.out.2 (lim_digs gk) (small_len (Nat.lt_of_le_of_lt HM.out BN.out)) (by decide) (by decide)
        rw [val_digs] at h
        refine h.mono ?_
        rintro e w' ⟨v, rfl, hR, hB⟩
        rw [← hq] at hR
        rw [← hr]
        obtain ⟨A2, c2, e2, h1, h2⟩ := Nu_of_RU hR
        subst e2
        exact ⟨A2, c2, rfl, hR, hB⟩
      have HSM := Aside0.mk HSM
      have HQ := Aside0.mk hq
      have HRR := Aside0.mk hr
      have HM0 := Aside0.mk hm
      have HRM := Aside0.mk (show r ≤ n by have := HM.out; omega)
      clear hq hr hm
      go_wp2_with fail
      refine HSM.out.mono ?_
      rintro e w2 ⟨A2, c2, rfl, hN2, hB2⟩
      have HN2 := Aside0.mk hN2
      have HB2 := Aside0.mk (HB.out.trans (hB2.mono HB.out.size))
      have HO2 := Aside0.mk (pw_own_below HO.out hB2)
      clear hN2 hB2 HSM HN
      go_wp2_with fail
      refine (HI.out r w2 HRM.out hrl HB2.out).mono ?_
      rintro e w3 ⟨s, rfl, hs, hB3⟩
      have hsz : s.size ≤ 9 := by rw [bytes_size hs]; exact (dec9 hrl).1
      have HS := Aside0.mk hs
      have HN3 := Aside0.mk (RU_below HN2.out hB3)
      have HUL := Aside0.mk (fun k (hk : u3.ownBlock = some k) => own_lt HO.out k hk)
      have HB3 := Aside0.mk (HB2.out.trans (hB3.mono HB2.out.size))
      have HO3 := Aside0.mk (pw_own_below HO2.out hB3)
      have HLS := Aside0.mk (Dec_small HD.out BN.out)
      have HLL := Aside0.mk (show ((strs ss).length + 1) * 16 ≤ 140737488355328 by rw [strs_length]; have := HLS.out; omega)
      clear hs hB3 HN2 HO2 HO
      by_cases hq0 : q = 0
      · subst hq0
        rw [digs_zero, List.length_nil] at ⊢ HN3
        have HST := Aside0.mk (Dec_step (s := decDigits r) HD.out HM0.out HQ.out HRR.out (by rw [if_pos rfl]))
        have HO4 := Aside0.mk (show w3.ownsRow w.heap.size 9 1 u3 (strs ss).length (strs ss) by rw [strs_length]; exact HO3.out)
        have HB4 := HB3
        have HBS := Aside0.mk HB3.out.size
        go_wp2_with (at_builtin; refine print_append (w0 := w) w.heap.size rfl (.tmp 29) (.tmp 31) 33 9 (.string ⟨#[]⟩) 16 rfl Tryd.underlying33 infoS rfl (by decide) u3 (strs ss) (.string s) rfl rfl rfl HO4.out HB4.out HBS.out HLL.out ?_; intro v5 w5 hown5 hB5 hg5 _; have HO5 := Aside0.mk hown5; have HB5 := Aside0.mk hB5; have HN5 := Aside0.mk (RU_kept HN3.out HUL.out hg5); clear hown5 hB5 hg5)
        go_roundg 0
        case measure => exact hqm
        case rel =>
          obtain ⟨A6, c6, e6, h6, C6⟩ := RU_slice HN5.out
          cases e6
          exact ⟨A2, c2, ss ++ [decDigits r], by rw [digs_zero]; rfl, ⟨by rw [digs_zero]; exact h6, by rw [digs_zero]; exact C6⟩, ⟨strs_snoc HO5.out HS.out⟩, ⟨HST.out⟩, ⟨Nat.zero_le _⟩, ⟨HB5.out⟩⟩
      · have hqp := Nu_len hq0
        have HRP : Calls Tryd.prog 83 #[.string ⟨#[48]⟩, .int .i64 (9 - (s.size : Int))] w3 (TextPost w3 (List.replicate (9 - s.size) 48)) := by
          rw [show (9 : Int) - (s.size : Int) = ((9 - s.size : Nat) : Int) from by omega]
          exact repeat_w (9 - s.size) w3 (by omega)
        have HRP := Aside0.mk HRP
        have HQ0 := Aside0.mk hq0
        clear hq0
        go_wp2_with fail
        refine HRP.out.mono ?_
        rintro e w4 ⟨t, rfl, ht, hB4⟩
        have htz : t.size ≤ 9 := by rw [bytes_size ht, List.length_replicate]; omega
        have htS : (t ++ s).data.toList = List.replicate (9 - (decDigits r).length) 48 ++ decDigits r := by
          rw [ByteArray.data_append, Array.toList_append, ht, HS.out, bytes_size HS.out]
        have HS2 := Aside0.mk htS
        have HST := Aside0.mk (Dec_step (s := List.replicate (9 - (decDigits r).length) 48 ++ decDigits r) HD.out HM0.out HQ.out HRR.out (by rw [if_neg HQ0.out]))
        have HO4 := Aside0.mk (show w4.ownsRow w.heap.size 9 1 u3 (strs ss).length (strs ss) by rw [strs_length]; exact pw_own_below HO3.out hB4)
        have HN3 := Aside0.mk (RU_below HN3.out hB4)
        have HB4 := Aside0.mk (HB3.out.trans (hB4.mono HB3.out.size))
        have HBS := Aside0.mk HB4.out.size
        clear ht htS hB4
        go_wp2_with (at_builtin; refine print_append (w0 := w) w.heap.size rfl (.tmp 29) (.tmp 31) 33 9 (.string ⟨#[]⟩) 16 rfl Tryd.underlying33 infoS rfl (by decide) u3 (strs ss) (.string (t ++ s)) rfl rfl rfl HO4.out HB4.out HBS.out HLL.out ?_; intro v5 w5 hown5 hB5 hg5 _; have HO5 := Aside0.mk hown5; have HB5 := Aside0.mk hB5; have HN5 := Aside0.mk (RU_kept HN3.out HUL.out hg5); clear hown5 hB5 hg5)
        go_roundg q
        case measure => exact hqm
        case rel =>
          obtain ⟨A6, c6, e6, h6, C6⟩ := RU_slice HN5.out
          cases e6
          exact ⟨A2, c2, ss ++ [List.replicate (9 - (decDigits r).length) 48 ++ decDigits r], rfl, ⟨h6, C6⟩, ⟨strs_snoc HO5.out HS2.out⟩, ⟨HST.out⟩, ⟨by have := HM.out; omega⟩, ⟨HB5.out⟩⟩
end Go.Proofs.YtklhpobphloehaaDoor.G
