/- The law RatReads: the walk through its calls, by their contracts; the row and its card. -/
import Derived.Test.YtklhpobphloehaaGreatDoorS4
import Derived.Test.YtklhpobphloehaaGreatDoorS7
import Derived.Test.YtklhpobphloehaaGreatDoorS9
import Derived.Test.YtklhpobphloehaaGreatDoorS6
import Derived.StillTailTactics
set_option linter.unusedVariables false
namespace Go.Proofs.YtklhpobphloehaaGreatDoor.ratReads
open Go.RowKit
open Go.Proofs.YtklhpobphloehaaGreatDoor.G Go.Proofs.YtklhpobphloehaaGreatDoor.Nn Go.Proofs.YtklhpobphloehaaGreatDoorW.PrintWords Go.Proofs.YtklhpobphloehaaGreatDoorW.PrintLast

open Go.Lib (decDigits)
theorem twelve_cells (W : World) (s0 s1 s2 s3 s4 s5 s6 s7 s8 s9 s10 s11 : ByteArray) (h0 : s0.size ≤ 100000) (h1 : s1.size ≤ 100000) (h2 : s2.size ≤ 100000) (h3 : s3.size ≤ 100000) (h4 : s4.size ≤ 100000) (h5 : s5.size ≤ 100000) (h6 : s6.size ≤ 100000) (h7 : s7.size ≤ 100000) (h8 : s8.size ≤ 100000) (h9 : s9.size ≤ 100000) (h10 : s10.size ≤ 100000) (h11 : s11.size ≤ 100000) (i : Nat) (hi : i < 12) :
    ∃ t : ByteArray, (W.alloc (.cells #[.string s0, .string s1, .string s2, .string s3, .string s4, .string s5, .string s6, .string s7, .string s8, .string s9, .string s10, .string s11] 9)).cell? ⟨W.heap.size, i, none⟩ = some (.string t) ∧ t.size ≤ 100000 := by
  match i, hi with
  | 0, _ => exact ⟨s0, by simp, h0⟩
  | 1, _ => exact ⟨s1, by simp, h1⟩
  | 2, _ => exact ⟨s2, by simp, h2⟩
  | 3, _ => exact ⟨s3, by simp, h3⟩
  | 4, _ => exact ⟨s4, by simp, h4⟩
  | 5, _ => exact ⟨s5, by simp, h5⟩
  | 6, _ => exact ⟨s6, by simp, h6⟩
  | 7, _ => exact ⟨s7, by simp, h7⟩
  | 8, _ => exact ⟨s8, by simp, h8⟩
  | 9, _ => exact ⟨s9, by simp, h9⟩
  | 10, _ => exact ⟨s10, by simp, h10⟩
  | 11, _ => exact ⟨s11, by simp, h11⟩
theorem cat_two (a b : ByteArray) (M : Nat) (h : a.size + b.size ≤ M) (hM : M ≤ 9223372036854775807) : ∃ c : ByteArray, (∀ W : World, (Op.stringOp .add a b).run Tryz.prog W = .ok (.string c) W) ∧ c.size ≤ M :=
  ⟨a ++ b, fun W => run_string_add_sum W a b (by omega), by rw [ByteArray.size_append']; exact h⟩
theorem bytes_free (W : World) (e : TypeId) (s : ByteArray) (j : Nat) (hj : j < s.size) : (Lib.bytesWorld W e s).frozen? ⟨W.heap.size, j, none⟩ = false := by
  unfold World.frozen?
  rw [Lib.bytesWorld_at_new]
  have h : s.size ≤ (Lib.bytesCells W e s).size := by
    unfold Lib.bytesCells
    rw [Array.size_append, Array.size_map]
    have : s.data.size = s.size := rfl
    omega
  simp
  omega
theorem byte_cell {W : World} {g n : Nat} {s : ByteArray} (h : ReadsInt W .u8 (some ⟨g, 0, none⟩) n (bytesOf s)) (j : Nat) (hj : j < n) : W.cell? ⟨g, j, none⟩ = some (.int .u8 ((s.data.toList.getD j 0).toNat : Int)) := by
  obtain ⟨ad, e, hc⟩ := h.2.2 (by omega)
  cases e
  have h1 := hc j hj
  rw [add_plain] at h1
  rw [h1]
  have hl : j < s.data.toList.length := by have := h.1; rw [bytesOf_length] at this; rw [data_length]; omega
  simp [bytesOf, List.getD_eq_getElem?_getD, List.getElem?_eq_getElem hl]
theorem bytes_set {W : World} {g n : Nat} {l : List Int} (h : ReadsInt W .u8 (some ⟨g, 0, none⟩) n l) (j : Nat) (hj : j < n) (q : Int) : ReadsInt (W.setCell ⟨g, j, none⟩ (.int .u8 q)) .u8 (some ⟨g, 0, none⟩) n (l.set j q) := by
  obtain ⟨ad, e, hc⟩ := h.2.2 (by omega)
  cases e
  refine ⟨by rw [List.length_set]; exact h.1, h.2.1, fun _ => ⟨_, rfl, fun i hi => ?_⟩⟩
  have h1 := hc i hi
  have h2 := hc j hj
  rw [add_plain] at h1 h2 ⊢
  by_cases e : j = i
  · subst e
    rw [World.cell?_setCell_same (h := h2), List.getD_eq_getElem?_getD, List.getElem?_set_self (by rw [h.1]; exact hj)]
    rfl
  · rw [World.cell?_setCell_other (h := by intro h'; cases h'; exact e rfl), h1, List.getD_eq_getElem?_getD, List.getD_eq_getElem?_getD, List.getElem?_set_ne e]
theorem txt_len (b : Bool) {n d : Nat} (hn : n < pw 30) (hd : d < pw 30) : (ratT b n d).length ≤ 802 := by
  have h1 := dec_short hn
  have h2 := dec_short hd
  unfold ratT
  split <;> split <;> simp <;> omega
theorem rat_r3 {W : World} {b : Bool} {A A' : Option Addr} {L c L' c' n d : Nat} (h1 : Nu W (.slice A L c) n) (h2 : Nu W (.slice A' L' c') d) : R3 W (.agg #[.bool b, .slice A L c, .slice A' L' c']) b n d := ⟨_, _, _, _, _, _, rfl, h1, h2⟩
theorem txt_pos (b : Bool) (n d : Nat) : 0 < (ratT b n d).length := by
  have h := decDigits_pos n
  unfold ratT
  simp only [List.length_append]
  omega
theorem read_form (l : List UInt8) (hl : ∀ W e w', ReadPost W l e w' → ReadPost W l e w') : ∃ (B : Bool) (N D : Nat) (k : Int), N < pw 1000 ∧ D < pw 1000 ∧ ∀ W e w', ReadPost W l e w' → R3PostE W B N D k e w' := by
  by_cases h : qcode l = 0
  · have hd : qden l < pw 50 := by
      unfold qden
      split
      · exact pnum_lt _
      · exact one_lt50
    exact ⟨_, _, _, 0, Nat.lt_of_le_of_lt (Nat.div_le_self _ _) (Nat.lt_of_lt_of_le (pnum_lt _) (pw_le (by decide))), Nat.lt_of_le_of_lt (Nat.div_le_self _ _) (Nat.lt_of_lt_of_le hd (pw_le (by decide))), fun W e w' h2 => by unfold ReadPost at h2; rw [if_pos h] at h2; exact h2⟩
  · exact ⟨false, 0, 0, (qcode l : Int), pw_pos _, pw_pos _, fun W e w' h2 => by unfold ReadPost at h2; rw [if_neg h] at h2; exact h2⟩
set_option maxHeartbeats 16000000 in
set_option maxRecDepth 100000 in
theorem walk (g0 : Bool) (a0b : Option Addr) (c0b : Nat) (l0b : List Int) (a0c : Option Addr) (c0c : Nat) (l0c : List Int) (a1 : Int) (a2 : Int) (a3 : ByteArray) (a4 : ByteArray) (w : World) (hr0b : CU w a0b l0b.length l0b) (hc0b : l0b.length ≤ c0b) (hL0b : Lim l0b) (hr0c : CU w a0c l0c.length l0c) (hc0c : l0c.length ≤ c0c) (hL0c : Lim l0c) (hi1 : -9223372036854775808 ≤ a1 ∧ a1 ≤ 9223372036854775807) (hi2 : 0 ≤ a2 ∧ a2 < 256) (hi3 : a3.size ≤ 140737488351232) (hi4 : a4.size ≤ 140737488351232) (HT : TabOk w) (HM : MaxOk w) :
    Calls Tryz.prog 4 #[.agg #[.bool g0, .slice a0b l0b.length c0b, .slice a0c l0c.length c0c], .int .i64 a1, .int .u8 a2, .string a3, .string a4] w (TruePost w) := by
  have C0b := Aside0.mk hr0b
  have S0b := Aside0.mk hc0b
  have L0b := Aside0.mk hL0b
  clear hr0b hc0b hL0b
  have C0c := Aside0.mk hr0c
  have S0c := Aside0.mk hc0c
  have L0c := Aside0.mk hL0c
  clear hr0c hc0c hL0c
  have TAB := Aside0.mk HT
  clear HT
  have MXL := Aside0.mk HM
  clear HM
  have HI1 := Aside0.mk hi3
  have HI2 := Aside0.mk hi4
  clear hi3 hi4
  by_cases hmo : 50 < a3.size
  ·
    go_enter Tryz.func4, Tryz.ntmps4
    have B1 := Aside0.mk (below_alloc (Below.refl w.heap.size w) (.cells #[.bool g0, .slice a0b l0b.length c0b, .slice a0c l0c.length c0c] 24))
    have T1 := Aside0.mk (B1.out.mono (Nat.le_refl _))
    have H_bx0 := Aside0.mk (bx w (w.heap.size) (.bool g0) (.slice a0b l0b.length c0b) (.slice a0c l0c.length c0c) 24 (by simp))
    have HC : Aside0 (Calls Tryz.prog 5 #[] (w.alloc (.cells #[.bool g0, .slice a0b l0b.length c0b, .slice a0c l0c.length c0c] 24)) (TruePost (w.alloc (.cells #[.bool g0, .slice a0b l0b.length c0b, .slice a0c l0c.length c0c] 24)))) := ⟨known2_w (w.alloc (.cells #[.bool g0, .slice a0b l0b.length c0b, .slice a0c l0c.length c0c] 24)) (TAB.out.below B1.out)⟩
    go_wp2_with fail
    refine HC.out.mono ?_
    clear HC
    rintro e w2 ⟨rfl, hB⟩
    have B2 := Aside0.mk hB
    have T2 := Aside0.mk (T1.out.trans (hB.mono T1.out.size))
    clear hB
    go_wp2_with fail
    go_ret
    exact ⟨rfl, T2.out⟩
  ·
    by_cases hra : 500 < a4.size
    ·
      go_enter Tryz.func4, Tryz.ntmps4
      have B1 := Aside0.mk (below_alloc (Below.refl w.heap.size w) (.cells #[.bool g0, .slice a0b l0b.length c0b, .slice a0c l0c.length c0c] 24))
      have T1 := Aside0.mk (B1.out.mono (Nat.le_refl _))
      have H_bx0 := Aside0.mk (bx w (w.heap.size) (.bool g0) (.slice a0b l0b.length c0b) (.slice a0c l0c.length c0c) 24 (by simp))
      have HC : Aside0 (Calls Tryz.prog 5 #[] (w.alloc (.cells #[.bool g0, .slice a0b l0b.length c0b, .slice a0c l0c.length c0c] 24)) (TruePost (w.alloc (.cells #[.bool g0, .slice a0b l0b.length c0b, .slice a0c l0c.length c0c] 24)))) := ⟨known2_w (w.alloc (.cells #[.bool g0, .slice a0b l0b.length c0b, .slice a0c l0c.length c0c] 24)) (TAB.out.below B1.out)⟩
      go_wp2_with fail
      refine HC.out.mono ?_
      clear HC
      rintro e w2 ⟨rfl, hB⟩
      have B2 := Aside0.mk hB
      have T2 := Aside0.mk (T1.out.trans (hB.mono T1.out.size))
      clear hB
      go_wp2_with fail
      go_ret
      exact ⟨rfl, T2.out⟩
    ·
      go_enter Tryz.func4, Tryz.ntmps4
      have B1 := Aside0.mk (below_alloc (Below.refl w.heap.size w) (.cells #[.bool g0, .slice a0b l0b.length c0b, .slice a0c l0c.length c0c] 24))
      have T1 := Aside0.mk (B1.out.mono (Nat.le_refl _))
      have H_bx0 := Aside0.mk (bx w (w.heap.size) (.bool g0) (.slice a0b l0b.length c0b) (.slice a0c l0c.length c0c) 24 (by simp))
      have HC : Aside0 (Calls Tryz.prog 5 #[] (w.alloc (.cells #[.bool g0, .slice a0b l0b.length c0b, .slice a0c l0c.length c0c] 24)) (TruePost (w.alloc (.cells #[.bool g0, .slice a0b l0b.length c0b, .slice a0c l0c.length c0c] 24)))) := ⟨known2_w (w.alloc (.cells #[.bool g0, .slice a0b l0b.length c0b, .slice a0c l0c.length c0c] 24)) (TAB.out.below B1.out)⟩
      go_wp2_with fail
      refine HC.out.mono ?_
      clear HC
      rintro e w2 ⟨rfl, hB⟩
      have B2 := Aside0.mk hB
      have T2 := Aside0.mk (T1.out.trans (hB.mono T1.out.size))
      clear hB
      obtain ⟨⟨hx0, hx1, hx2⟩, hy0, hy1, hy2⟩ := (H_bx0.out.below B2.out)
      have HC : Aside0 (Calls Tryz.prog 6 #[.agg #[.bool g0, .slice a0b l0b.length c0b, .slice a0c l0c.length c0c]] w2 (RaPost w2 (mkR g0 l0b l0c))) := ⟨lmake_w g0 (CU_below C0b.out T2.out) S0b.out L0b.out (CU_below C0c.out T2.out) S0c.out L0c.out⟩
      go_wp2_with fail
      refine HC.out.mono ?_
      clear HC
      rintro e w3 ⟨v_x, rfl, hN, hB⟩
      have B3 := Aside0.mk hB
      have T3 := Aside0.mk (T2.out.trans (hB.mono T2.out.size))
      have H_x := Aside0.mk hN
      have X_x := Aside0.mk (show Rb 3 (mkR g0 l0b l0c) from mkR_bnd g0 L0b.out L0c.out)
      clear hN hB
      clear hx0 hx1 hx2 hy0 hy1 hy2
      obtain ⟨sx, hsx⟩ : ∃ l, l = ratT (decide (Rat.num (mkR g0 l0b l0c) < 0)) (Rat.num (mkR g0 l0b l0c)).natAbs (Rat.den (mkR g0 l0b l0c)) := ⟨_, rfl⟩
      have HSX := Aside0.mk hsx
      clear hsx
      have HC : Aside0 (Calls Tryz.prog 25 #[v_x] w3 (TextPost w3 sx)) := ⟨by rw [HSX.out]; exact stext_w H_x.out (pw_lt1000 X_x.out.1 (by omega)) (pw_lt1000 X_x.out.2 (by omega))⟩
      go_wp2_with fail
      refine HC.out.mono ?_
      clear HC
      rintro e w4 ⟨s, rfl, hS, hB⟩
      have B4 := Aside0.mk hB
      have T4 := Aside0.mk (T3.out.trans (hB.mono T3.out.size))
      have HS := Aside0.mk hS
      clear hS hB
      have hs4 : s.size ≤ 802 := by have h := congrArg List.length HS.out; rw [data_length, HSX.out] at h; have := txt_len (decide (Rat.num (mkR g0 l0b l0c) < 0)) (Nat.lt_of_lt_of_le X_x.out.1 (pw_le (show 3 ≤ 30 by decide))) (Nat.lt_of_lt_of_le X_x.out.2 (pw_le (show 3 ≤ 30 by decide))); omega
      have hs0 : 0 < s.size := by have h := congrArg List.length HS.out; rw [data_length, HSX.out] at h; have := txt_pos (decide (Rat.num (mkR g0 l0b l0c) < 0)) (Rat.num (mkR g0 l0b l0c)).natAbs (Rat.den (mkR g0 l0b l0c)); omega
      obtain ⟨m, hme, hml⟩ : ∃ q : Nat, (q : Int) = a1 % ((s.size : Int) + 1) ∧ q < s.size + 1 := by
        have h1 := Int.emod_nonneg a1 (show ((s.size : Int) + 1) ≠ 0 by omega)
        have h2 := Int.emod_lt_of_pos a1 (show 0 < ((s.size : Int) + 1) by omega)
        exact ⟨(a1 % ((s.size : Int) + 1)).toNat, by omega, by omega⟩
      obtain ⟨j, hje, hjl⟩ : ∃ q : Nat, (q : Int) = a1 % (s.size : Int) ∧ q < s.size := by
        have h1 := Int.emod_nonneg a1 (show (s.size : Int) ≠ 0 by omega)
        have h2 := Int.emod_lt_of_pos a1 (show 0 < (s.size : Int) by omega)
        exact ⟨(a1 % (s.size : Int)).toNat, by omega, by omega⟩
      have HW1 : Aside0 (Calls Tryz.prog 26 #[.int .i64 a1, .int .i64 ((s.size : Int) + 1)] w4 (fun e w' => e = .returned (.int .i64 (m : Int)) ∧ w4 = w')) := ⟨by have h := within2_w a1 ((s.size : Int) + 1) w4 (by omega) (by omega); rw [← hme] at h; exact h⟩
      have HW2 : Aside0 (∀ W : World, Calls Tryz.prog 26 #[.int .i64 a1, .int .i64 (s.size : Int)] W (fun e w' => e = .returned (.int .i64 (j : Int)) ∧ W = w')) := ⟨fun W => by have h := within2_w a1 (s.size : Int) W (by omega) (by omega); rw [← hje] at h; exact h⟩
      clear hme hje
      go_wp2_with fail
      refine HW1.out.mono ?_
      rintro e wx ⟨rfl, hw⟩
      subst hw
      clear HW1
      have kb := fun W => print_bytes (P := Tryz.prog) 9 42 5 Tryz.underlying9 Tryz.underlying42 Tryz.underlying5 s W
      go_wp2_with fail
      clear kb
      have HRD := Aside0.mk (bytes_reads w4 5 s (by omega))
      have HFZ := Aside0.mk (bytes_free w4 5 s j hjl)
      have hB0 := Aside0.mk (bytes_below (Below.refl w4.heap.size w4) (Nat.le_refl _) 5 s)
      have hGL := Aside0.mk (show w4.heap.size < (Lib.bytesWorld w4 5 s).heap.size by rw [Lib.bytesWorld_size]; omega)
      obtain ⟨W0, hW0⟩ : ∃ W, W = Lib.bytesWorld w4 5 s := ⟨_, rfl⟩
      obtain ⟨gg, hg⟩ : ∃ g, g = w4.heap.size := ⟨_, rfl⟩
      obtain ⟨cp, hcp⟩ : ∃ c, c = grownCap w4 s.size 0 5 := ⟨_, rfl⟩
      rw [← hW0] at HRD HFZ hB0 hGL ⊢
      rw [← hg] at HRD HFZ hGL ⊢
      rw [← hcp]
      have HG := Aside0.mk hg
      clear hW0 hg hcp
      have hcell := byte_cell HRD.out j hjl
      have hfz := HFZ.out
      obtain ⟨b, hb⟩ : ∃ b, b = (s.data.toList.getD j 0).toNat := ⟨_, rfl⟩
      have hb8 : b < 256 := by rw [hb]; exact UInt8.toNat_lt _
      rw [← hb] at hcell
      clear hb
      obtain ⟨q, hq⟩ : ∃ q : Nat, q = ((b : Int) + a2).toNat % 256 := ⟨_, rfl⟩
      have hq1 : IntKind.u8.wrap ((b : Int) + a2) = (q : Int) := by rw [IntKind.wrap_u8]; omega
      have hq2 : ((b : Int) + a2) % 256 = (q : Int) := by omega
      clear hq
      clear hi2
      go_wp2_with fail
      refine (HW2.out _).mono ?_
      rintro e wx ⟨rfl, hw⟩
      subst hw
      go_wp2_with fail
      clear hq1 hq2 hcell hfz
      have HS1 := Aside0.mk (bytes_set HRD.out j hjl (q : Int))
      have hB1 := Aside0.mk (G.below_set hB0.out (show w4.heap.size ≤ gg by rw [HG.out]; exact Nat.le_refl _) j (.int .u8 (q : Int)))
      obtain ⟨W1, hW1⟩ : ∃ W, W = W0.setCell ⟨gg, j, none⟩ (.int .u8 (q : Int)) := ⟨_, rfl⟩
      rw [← hW1] at HS1 hB1 ⊢
      clear hW1 HRD HFZ hB0 hGL HW2
      obtain ⟨sb, hsb⟩ : ∃ sb, sb = strOfNums ((bytesOf s).set j (q : Int)) := ⟨_, rfl⟩
      have hsbz : sb.size = s.size := by rw [hsb, strOfNums_size, List.length_set, bytesOf_length]
      have hc1 : ∀ n, (convert 42 9 (.slice (some ⟨gg, 0, none⟩) s.size cp)).run Tryz.prog (W1.drewN n) = .ok (.string sb) (W1.drewN n) := fun n => by rw [hsb]; exact string_of_reads Tryz.underlying42 Tryz.underlying5 Tryz.underlying9 (HS1.out.drewN n)
      have hc2 := hc1 0
      rw [World.drewN_zero] at hc2
      obtain ⟨s1, hs1⟩ : ∃ s1, s1 = s.extract 0 m := ⟨_, rfl⟩
      obtain ⟨s2, hs2⟩ : ∃ s2, s2 = s.extract m s.size := ⟨_, rfl⟩
      have hx1 : ∀ W : World, (Instr.slice 9 (.string s) none (some (.int .i64 (m : Int))) none).run Tryz.prog W = .ok (.string s1) W := fun W => by rw [run_slice_string_h W 9 s Tryz.underlying9 .i64 (m : Int) (by omega) (by omega), hs1]; simp
      have hx2 : ∀ W : World, (Instr.slice 9 (.string s) (some (.int .i64 (m : Int))) none none).run Tryz.prog W = .ok (.string s2) W := fun W => by rw [run_slice_string_l W 9 s Tryz.underlying9 .i64 (m : Int) (by omega) (by omega), hs2]; simp
      have hz1 : s1.size ≤ 802 := by rw [hs1, ByteArray.size_extract]; omega
      have hz2 : s2.size ≤ 802 := by rw [hs2, ByteArray.size_extract]; omega
      have hzb : sb.size ≤ 802 := by omega
      clear hs1 hs2 hsb hsbz hml hjl
      obtain ⟨t1, ht1, zt1⟩ := cat_two s1 a3 900 (by omega) (by decide)
      obtain ⟨t2, ht2, zt2⟩ := cat_two t1 s2 1800 (by omega) (by decide)
      have zzt3 : (⟨#[45]⟩ : ByteArray).size ≤ 3 := by decide
      obtain ⟨t3, ht3, zt3⟩ := cat_two ⟨#[45]⟩ s 900 (by omega) (by decide)
      clear zzt3
      have zzt4 : (⟨#[47, 48]⟩ : ByteArray).size ≤ 3 := by decide
      obtain ⟨t4, ht4, zt4⟩ := cat_two s ⟨#[47, 48]⟩ 900 (by omega) (by decide)
      clear zzt4
      have zzt5 : (⟨#[47, 48, 48]⟩ : ByteArray).size ≤ 3 := by decide
      obtain ⟨t5, ht5, zt5⟩ := cat_two s ⟨#[47, 48, 48]⟩ 900 (by omega) (by decide)
      clear zzt5
      have zzt6 : (⟨#[47]⟩ : ByteArray).size ≤ 3 := by decide
      obtain ⟨t6, ht6, zt6⟩ := cat_two ⟨#[47]⟩ s 900 (by omega) (by decide)
      clear zzt6
      have zzt7 : (⟨#[47]⟩ : ByteArray).size ≤ 3 := by decide
      obtain ⟨t7, ht7, zt7⟩ := cat_two s ⟨#[47]⟩ 900 (by omega) (by decide)
      clear zzt7
      refine wp_region_still_tail 22 (by kernel_rfl) (by kernel_rfl) ?_
      have hc3 := hc1 1
      have hB2 := Aside0.mk (Below.drew hB1.out)
      obtain ⟨W2, hW2⟩ : ∃ W : World, W = { W1 with drawn := W1.drawn + 1 } := ⟨_, rfl⟩
      have hc4 : (convert 42 9 (.slice (some ⟨gg, 0, none⟩) s.size cp)).run Tryz.prog W2 = .ok (.string sb) W2 := by rw [hW2]; exact hc3
      have hB3 := Aside0.mk (show Below w4.heap.size w4 W2 by rw [hW2]; exact hB2.out)
      rw [← hW2]
      clear hW2 hc1 hc2 hc3 hB1 hB2 HS1
      simp only [List.take_succ_cons, List.take_zero, List.drop_succ_cons, List.drop_zero]
      repeat still_step
      refine wpStill_nil ?_
      go_wp2_with fail
      have HCELL := Aside0.mk (twelve_cells W2 sb t2 a4 t3 t4 t5 t6 t7 ⟨#[45, 48]⟩ ⟨#[45, 45, 49]⟩ ⟨#[49, 47, 45, 50]⟩ ⟨#[48, 47, 53]⟩ (by omega) (by omega) (by omega) (by omega) (by omega) (by omega) (by omega) (by omega) (by decide) (by decide) (by decide) (by decide))
      have HB4 := Aside0.mk (below_alloc hB3.out (.cells #[.string sb, .string t2, .string a4, .string t3, .string t4, .string t5, .string t6, .string t7, .string ⟨#[45, 48]⟩, .string ⟨#[45, 45, 49]⟩, .string ⟨#[49, 47, 45, 50]⟩, .string ⟨#[48, 47, 53]⟩] 9))
      have HG2 := Aside0.mk (show W2.heap.size < (W2.alloc (.cells #[.string sb, .string t2, .string a4, .string t3, .string t4, .string t5, .string t6, .string t7, .string ⟨#[45, 48]⟩, .string ⟨#[45, 45, 49]⟩, .string ⟨#[49, 47, 45, 50]⟩, .string ⟨#[48, 47, 53]⟩] 9)).heap.size by simp)
      obtain ⟨W3, hW3⟩ : ∃ W : World, W = W2.alloc (.cells #[.string sb, .string t2, .string a4, .string t3, .string t4, .string t5, .string t6, .string t7, .string ⟨#[45, 48]⟩, .string ⟨#[45, 45, 49]⟩, .string ⟨#[49, 47, 45, 50]⟩, .string ⟨#[48, 47, 53]⟩] 9) := ⟨_, rfl⟩
      obtain ⟨g2, hg2⟩ : ∃ g, g = W2.heap.size := ⟨_, rfl⟩
      rw [← hW3] at HCELL HB4 HG2 ⊢
      rw [← hg2] at HCELL HG2 ⊢
      clear hW3 hg2 hB3
      have MX3 := Aside0.mk (MaxOk.below ((((MXL.out.below B1.out).below B2.out).below B3.out).below B4.out) HB4.out)
      go_loopw [15] (fun i wr => ∃ k : Nat, k ≤ 12 ∧ i = .int .i64 (k : Int) ∧ Aside0 (Below W3.heap.size W3 wr)) (fun i _ => 12 - (intOf i).toNat)
      case atStart => exact ⟨0, by omega, rfl, ⟨Below.refl _ _⟩⟩
      case round =>
        obtain ⟨k, hk, rfl, HB⟩ := hrel
        by_cases hk12 : k < 12
        ·
          obtain ⟨t, hct, htz⟩ := HCELL.out k hk12
          have HC3 := Aside0.mk hct
          have hki : (k : Int) < 12 := by omega
          have hcell : wr.cell? ⟨g2, k, none⟩ = some (.string t) := by rw [HB.out.cell (p := ⟨g2, k, none⟩) HG2.out]; exact hct
          clear hct
          obtain ⟨Bq, Nq, Dq, kq, hNq, hDq, hrf⟩ := read_form t.data.toList (fun _ _ _ h => h)
          have HNQ := Aside0.mk hNq
          have HDQ := Aside0.mk hDq
          have H1 : Aside0 (∀ W : World, MaxOk W → Calls Tryz.prog 27 #[.string t] W (R3PostE W Bq Nq Dq kq)) := ⟨fun W hm => (qparse_w t W htz hm).mono fun e w' h => hrf W e w' h⟩
          have H2 : Aside0 (∀ W : World, Calls Tryz.prog 28 #[.string t] W (R3PostE W Bq Nq Dq kq)) := ⟨fun W => (sparse_w t W htz).mono fun e w' h => hrf W e w' h⟩
          clear hNq hDq hrf htz
          obtain ⟨w100, hw100⟩ : ∃ W, W = wr := ⟨_, rfl⟩
          subst hw100
          have T100 := HB
          have HC : Aside0 (Calls Tryz.prog 27 #[.string t] w100 (R3PostE w100 Bq (Nq) (Dq) kq)) := ⟨H1.out _ (MX3.out.below T100.out)⟩
          go_wp2_with fail
          refine HC.out.mono ?_
          clear HC
          rintro e w101 ⟨v_p, rfl, ⟨A_p, M_p, c_p, B_p, K_p, d_p, rfl, hNA, hNB⟩, hB⟩
          have B101 := Aside0.mk hB
          have T101 := Aside0.mk (T100.out.trans (hB.mono T100.out.size))
          have NA_p := Aside0.mk hNA
          have NB_p := Aside0.mk hNB
          clear hNA hNB hB
          have H_bx_p := Aside0.mk (Blk_alloc w101 (.bool Bq) (.slice A_p M_p c_p) (.slice B_p K_p d_p) 24)
          have B102 := Aside0.mk (below_alloc (Below.refl w101.heap.size w101) (.cells #[.bool Bq, .slice A_p M_p c_p, .slice B_p K_p d_p] 24))
          have T102 := Aside0.mk (T101.out.trans (B102.out.mono T101.out.size))
          have H_rp := Aside0.mk (show R3 (w101.alloc (.cells #[.bool Bq, .slice A_p M_p c_p, .slice B_p K_p d_p] 24)) (.agg #[(.bool Bq), (.slice A_p M_p c_p), (.slice B_p K_p d_p)]) Bq Nq Dq from R3.below (show R3 w101 (.agg #[(.bool Bq), (.slice A_p M_p c_p), (.slice B_p K_p d_p)]) Bq Nq Dq from ⟨_, _, _, _, _, _, rfl, NA_p.out, NB_p.out⟩) (below_alloc (Below.refl _ _) _))
          clear hcell
          have hcell : (w101.alloc (.cells #[.bool Bq, .slice A_p M_p c_p, .slice B_p K_p d_p] 24)).cell? ⟨g2, k, none⟩ = some (.string t) := by rw [T102.out.cell (p := ⟨g2, k, none⟩) HG2.out]; exact HC3.out
          have HC : Aside0 (Calls Tryz.prog 28 #[.string t] (w101.alloc (.cells #[.bool Bq, .slice A_p M_p c_p, .slice B_p K_p d_p] 24)) (R3PostE (w101.alloc (.cells #[.bool Bq, .slice A_p M_p c_p, .slice B_p K_p d_p] 24)) Bq (Nq) (Dq) kq)) := ⟨H2.out _⟩
          go_wp2_with fail
          refine HC.out.mono ?_
          clear HC
          rintro e w103 ⟨v_q, rfl, ⟨A_q, M_q, c_q, B_q, K_q, d_q, rfl, hNA, hNB⟩, hB⟩
          have B103 := Aside0.mk hB
          have T103 := Aside0.mk (T102.out.trans (hB.mono T102.out.size))
          have NA_q := Aside0.mk hNA
          have NB_q := Aside0.mk hNB
          clear hNA hNB hB
          have H_bx_q := Aside0.mk (Blk_alloc w103 (.bool Bq) (.slice A_q M_q c_q) (.slice B_q K_q d_q) 24)
          have B104 := Aside0.mk (below_alloc (Below.refl w103.heap.size w103) (.cells #[.bool Bq, .slice A_q M_q c_q, .slice B_q K_q d_q] 24))
          have T104 := Aside0.mk (T103.out.trans (B104.out.mono T103.out.size))
          have H_rq := Aside0.mk (show R3 (w103.alloc (.cells #[.bool Bq, .slice A_q M_q c_q, .slice B_q K_q d_q] 24)) (.agg #[(.bool Bq), (.slice A_q M_q c_q), (.slice B_q K_q d_q)]) Bq Nq Dq from R3.below (show R3 w103 (.agg #[(.bool Bq), (.slice A_q M_q c_q), (.slice B_q K_q d_q)]) Bq Nq Dq from ⟨_, _, _, _, _, _, rfl, NA_q.out, NB_q.out⟩) (below_alloc (Below.refl _ _) _))
          clear hcell
          obtain ⟨⟨hu00, hu01, hu02⟩, _⟩ := ((H_bx_p.out.below B103.out).below B104.out)
          obtain ⟨⟨hu10, hu11, hu12⟩, _⟩ := H_bx_q.out
          have HC : Aside0 (Calls Tryz.prog 12 #[(.agg #[(.bool Bq), (.slice A_p M_p c_p), (.slice B_p K_p d_p)]), (.agg #[(.bool Bq), (.slice A_q M_q c_q), (.slice B_q K_q d_q)])] (w103.alloc (.cells #[.bool Bq, .slice A_q M_q c_q, .slice B_q K_q d_q] 24)) (TruePost (w103.alloc (.cells #[.bool Bq, .slice A_q M_q c_q, .slice B_q K_q d_q] 24)))) := ⟨ssame_w ((H_rp.out.below B103.out).below B104.out) H_rq.out HNQ.out HDQ.out⟩
          go_wp2_with fail
          refine HC.out.mono ?_
          clear HC
          rintro e w105 ⟨rfl, hB⟩
          have B105 := Aside0.mk hB
          have T105 := Aside0.mk (T104.out.trans (hB.mono T104.out.size))
          clear hB
          clear hu00 hu01 hu02 hu10 hu11 hu12
          go_wp2_with fail
          go_roundw
          case rel => exact ⟨k + 1, by omega, by go_num, ⟨T105.out⟩⟩
          case measure => simp [intOf]; omega
        · have hk2 : k = 12 := by omega
          subst hk2
          have HT := Aside0.mk (T4.out.trans ((HB4.out.trans (HB.out.mono HB4.out.size)).mono T4.out.size))
          go_wp2_with fail
          go_ret
          exact ⟨rfl, HT.out⟩
end Go.Proofs.YtklhpobphloehaaGreatDoor.ratReads
