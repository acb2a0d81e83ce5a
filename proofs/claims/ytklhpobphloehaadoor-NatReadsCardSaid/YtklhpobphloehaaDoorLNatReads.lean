/- The law NatReads: the walk through its calls, by their contracts; the row and its card. -/
import Derived.Test.YtklhpobphloehaaDoorB
import Derived.Test.YtklhpobphloehaaDoorG23
import Derived.Test.YtklhpobphloehaaDoorG24
import Derived.Test.YtklhpobphloehaaDoorG25
import Derived.StillTailTactics
set_option linter.unusedVariables false
namespace Go.Proofs.YtklhpobphloehaaDoor.natReads
open Go.RowKit
open Go.Proofs.YtklhpobphloehaaDoor.G Go.Proofs.YtklhpobphloehaaDoor.Nn Go.Proofs.YtklhpobphloehaaDoorW.PrintWords Go.Proofs.YtklhpobphloehaaDoorW.PrintLast

theorem six_cells (W : World) (s0 s1 s2 s3 s4 s5 : ByteArray) (h0 : s0.size ≤ 140737488355328) (h1 : s1.size ≤ 140737488355328) (h2 : s2.size ≤ 140737488355328) (h3 : s3.size ≤ 140737488355328) (h4 : s4.size ≤ 140737488355328) (h5 : s5.size ≤ 140737488355328) (i : Nat) (hi : i < 6) :
    ∃ t : ByteArray, (W.alloc (.cells #[.string s0, .string s1, .string s2, .string s3, .string s4, .string s5] 9)).cell? ⟨W.heap.size, i, none⟩ = some (.string t) ∧ t.size ≤ 140737488355328 := by
  match i, hi with
  | 0, _ => exact ⟨s0, by simp, h0⟩
  | 1, _ => exact ⟨s1, by simp, h1⟩
  | 2, _ => exact ⟨s2, by simp, h2⟩
  | 3, _ => exact ⟨s3, by simp, h3⟩
  | 4, _ => exact ⟨s4, by simp, h4⟩
  | 5, _ => exact ⟨s5, by simp, h5⟩
theorem cat_two (a b : ByteArray) (M : Nat) (h : a.size + b.size ≤ M) (hM : M ≤ 9223372036854775807) : ∃ c : ByteArray, (∀ W : World, (Op.stringOp .add a b).run Tryd.prog W = .ok (.string c) W) ∧ c.size ≤ M :=
  ⟨a ++ b, fun W => run_string_add_sum W a b (by omega), by rw [ByteArray.size_append']; exact h⟩
theorem bytes_free (W : World) (e : TypeId) (s : ByteArray) (j : Nat) (hj : j < s.size) : (Lib.bytesWorld W e s).frozen? ⟨W.heap.size, j, none⟩ = false := by
  unfold World.frozen?
  rw [Lib.bytesWorld_at_new]
  have h : s.size ≤ (Lib.bytesCells W e s).size := by
    unfold Lib.bytesCells
    rw [Array.size_append, Array.size_map]
    have : s.data.size = s.size := rfl
    omega
  simp
  omega
theorem byte_cell {W : World} {g n : Nat} {s : ByteArray} (h : ReadsInt W .u8 (some ⟨g, 0, none⟩) n (bytesOf s)) (j : Nat) (hj : j < n) : W.cell? ⟨g, j, none⟩ = some (.int .u8 ((s.data.toList.getD j 0).toNat : Int)) := by
  obtain ⟨ad, e, hc⟩ := h.2.2 (by omega)
  cases e
  have h1 := hc j hj
  rw [add_plain] at h1
  rw [h1]
  have hl : j < s.data.toList.length := by have := h.1; rw [bytesOf_length] at this; rw [data_length]; omega
  simp [bytesOf, List.getD_eq_getElem?_getD, List.getElem?_eq_getElem hl]
theorem bytes_set {W : World} {g n : Nat} {l : List Int} (h : ReadsInt W .u8 (some ⟨g, 0, none⟩) n l) (j : Nat) (hj : j < n) (q : Int) : ReadsInt (W.setCell ⟨g, j, none⟩ (.int .u8 q)) .u8 (some ⟨g, 0, none⟩) n (l.set j q) := by
  obtain ⟨ad, e, hc⟩ := h.2.2 (by omega)
  cases e
  refine ⟨by rw [List.length_set]; exact h.1, h.2.1, fun _ => ⟨_, rfl, fun i hi => ?_⟩⟩
  have h1 := hc i hi
  have h2 := hc j hj
  rw [add_plain] at h1 h2 ⊢
  by_cases e : j = i
  · subst e
    rw [World.cell?_setCell_same (h := h2), List.getD_eq_getElem?_getD, List.getElem?_set_self (by rw [h.1]; exact hj)]
    rfl
  · rw [World.cell?_setCell_other (h := by intro h'; cases h'; exact e rfl), h1, List.getD_eq_getElem?_getD, List.getD_eq_getElem?_getD, List.getElem?_set_ne e]
set_option maxHeartbeats 4000000 in
set_option maxRecDepth 100000 in
theorem walk (a0 : Option Addr) (c0 : Nat) (l0 : List Int) (a1 : Int) (a2 : Int) (a3 : ByteArray) (a4 : ByteArray) (w : World) (hr0 : CU w a0 l0.length l0) (hc0 : l0.length ≤ c0) (hL0 : Lim l0) (hi1 : -9223372036854775808 ≤ a1 ∧ a1 ≤ 9223372036854775807) (hi2 : 0 ≤ a2 ∧ a2 < 256) (hi3 : a3.size ≤ 140737488351232) (hi4 : a4.size ≤ 140737488351232) :
    Calls Tryd.prog 4 #[.slice a0 l0.length c0, .int .i64 a1, .int .u8 a2, .string a3, .string a4] w (TruePost w) := by
  have C0 := Aside0.mk hr0
  have S0 := Aside0.mk hc0
  have L0 := Aside0.mk hL0
  clear hr0 hc0 hL0
  have HI1 := Aside0.mk hi3
  have HI2 := Aside0.mk hi4
  clear hi3 hi4
  by_cases hmo : 50 < a3.size
  ·
    go_enter Tryd.func4, Tryd.ntmps4
    have HC : Aside0 (Calls Tryd.prog 23 #[] w (TruePost w)) := ⟨known_w w⟩
    go_wp2_with fail
    refine HC.out.mono ?_
    clear HC
    rintro e w1 ⟨rfl, hB⟩
    have B1 := Aside0.mk hB
    have T1 := Aside0.mk (hB.mono (Nat.le_refl _))
    clear hB
    go_wp2_with fail
    go_ret
    exact ⟨rfl, T1.out⟩
  ·
    by_cases hra : 500 < a4.size
    ·
      go_enter Tryd.func4, Tryd.ntmps4
      have HC : Aside0 (Calls Tryd.prog 23 #[] w (TruePost w)) := ⟨known_w w⟩
      go_wp2_with fail
      refine HC.out.mono ?_
      clear HC
      rintro e w1 ⟨rfl, hB⟩
      have B1 := Aside0.mk hB
      have T1 := Aside0.mk (hB.mono (Nat.le_refl _))
      clear hB
      go_wp2_with fail
      go_ret
      exact ⟨rfl, T1.out⟩
    ·
      go_enter Tryd.func4, Tryd.ntmps4
      have HC : Aside0 (Calls Tryd.prog 23 #[] w (TruePost w)) := ⟨known_w w⟩
      go_wp2_with fail
      refine HC.out.mono ?_
      clear HC
      rintro e w1 ⟨rfl, hB⟩
      have B1 := Aside0.mk hB
      have T1 := Aside0.mk (hB.mono (Nat.le_refl _))
      clear hB
      have HC : Aside0 (Calls Tryd.prog 24 #[.slice a0 l0.length c0, .int .i64 8] w1 (NuPost w1 (mk l0 8))) := ⟨makeN 8 (CU_below C0.out T1.out) S0.out L0.out (by decide)⟩
      go_wp2_with fail
      refine HC.out.mono ?_
      clear HC
      rintro e w2 ⟨v_x, rfl, hN, hB⟩
      have B2 := Aside0.mk hB
      have T2 := Aside0.mk (T1.out.trans (hB.mono T1.out.size))
      have H_x := Aside0.mk hN
      have X_x := Aside0.mk (show mk l0 8 < pw 8 from mk_lt L0.out 8)
      clear hN hB
      have HC : Aside0 (Calls Tryd.prog 27 #[v_x] w2 (TextPost w2 (Go.Lib.decDigits (mk l0 8)))) := ⟨rtext_w H_x.out (pw_lt1000 X_x.out (by omega))⟩
      go_wp2_with fail
      refine HC.out.mono ?_
      clear HC
      rintro e w3 ⟨s, rfl, hS, hB⟩
      have B3 := Aside0.mk hB
      have T3 := Aside0.mk (T2.out.trans (hB.mono T2.out.size))
      have HS := Aside0.mk hS
      clear hS hB
      have hs4 : s.size ≤ 400 := by have h := congrArg List.length HS.out; rw [data_length] at h; have := dec_short (Nat.lt_of_lt_of_le X_x.out (pw_le (show 8 ≤ 30 by decide))); omega
      have hs0 : 0 < s.size := by have h := congrArg List.length HS.out; rw [data_length] at h; have := decDigits_pos ((mk l0 8)); omega
      obtain ⟨m, hme, hml⟩ : ∃ q : Nat, (q : Int) = a1 % ((s.size : Int) + 1) ∧ q < s.size + 1 := by
        have h1 := Int.emod_nonneg a1 (show ((s.size : Int) + 1) ≠ 0 by omega)
        have h2 := Int.emod_lt_of_pos a1 (show 0 < ((s.size : Int) + 1) by omega)
        exact ⟨(a1 % ((s.size : Int) + 1)).toNat, by omega, by omega⟩
      obtain ⟨j, hje, hjl⟩ : ∃ q : Nat, (q : Int) = a1 % (s.size : Int) ∧ q < s.size := by
        have h1 := Int.emod_nonneg a1 (show (s.size : Int) ≠ 0 by omega)
        have h2 := Int.emod_lt_of_pos a1 (show 0 < (s.size : Int) by omega)
        exact ⟨(a1 % (s.size : Int)).toNat, by omega, by omega⟩
      have HW1 : Aside0 (Calls Tryd.prog 29 #[.int .i64 a1, .int .i64 ((s.size : Int) + 1)] w3 (fun e w' => e = .returned (.int .i64 (m : Int)) ∧ w3 = w')) := ⟨by have h := within_w a1 ((s.size : Int) + 1) w3 (by omega) (by omega); rw [← hme] at h; exact h⟩
      have HW2 : Aside0 (∀ W : World, Calls Tryd.prog 29 #[.int .i64 a1, .int .i64 (s.size : Int)] W (fun e w' => e = .returned (.int .i64 (j : Int)) ∧ W = w')) := ⟨fun W => by have h := within_w a1 (s.size : Int) W (by omega) (by omega); rw [← hje] at h; exact h⟩
      clear hme hje
      go_wp2_with fail
      refine HW1.out.mono ?_
      rintro e wx ⟨rfl, hw⟩
      subst hw
      clear HW1
      have kb := fun W => print_bytes (P := Tryd.prog) 9 32 5 Tryd.underlying9 Tryd.underlying32 Tryd.underlying5 s W
      go_wp2_with fail
      clear kb
      have HRD := Aside0.mk (bytes_reads w3 5 s (by omega))
      have HFZ := Aside0.mk (bytes_free w3 5 s j hjl)
      have hB0 := Aside0.mk (bytes_below (Below.refl w3.heap.size w3) (Nat.le_refl _) 5 s)
      have hGL := Aside0.mk (show w3.heap.size < (Lib.bytesWorld w3 5 s).heap.size by rw [Lib.bytesWorld_size]; omega)
      obtain ⟨W0, hW0⟩ : ∃ W, W = Lib.bytesWorld w3 5 s := ⟨_, rfl⟩
      obtain ⟨gg, hg⟩ : ∃ g, g = w3.heap.size := ⟨_, rfl⟩
      obtain ⟨cp, hcp⟩ : ∃ c, c = grownCap w3 s.size 0 5 := ⟨_, rfl⟩
      rw [← hW0] at HRD HFZ hB0 hGL ⊢
      rw [← hg] at HRD HFZ hGL ⊢
      rw [← hcp]
      have HG := Aside0.mk hg
      clear hW0 hg hcp
      have hcell := byte_cell HRD.out j hjl
      have hfz := HFZ.out
      obtain ⟨b, hb⟩ : ∃ b, b = (s.data.toList.getD j 0).toNat := ⟨_, rfl⟩
      have hb8 : b < 256 := by rw [hb]; exact UInt8.toNat_lt _
      rw [← hb] at hcell
      clear hb
      obtain ⟨q, hq⟩ : ∃ q : Nat, q = ((b : Int) + a2).toNat % 256 := ⟨_, rfl⟩
      have hq1 : IntKind.u8.wrap ((b : Int) + a2) = (q : Int) := by rw [IntKind.wrap_u8]; omega
      have hq2 : ((b : Int) + a2) % 256 = (q : Int) := by omega
      clear hq
      clear hi2
      go_wp2_with fail
      refine (HW2.out _).mono ?_
      rintro e wx ⟨rfl, hw⟩
      subst hw
      go_wp2_with fail
      clear hq1 hq2 hcell hfz
      have HS1 := Aside0.mk (bytes_set HRD.out j hjl (q : Int))
      have hB1 := Aside0.mk (G.below_set hB0.out (show w3.heap.size ≤ gg by rw [HG.out]; exact Nat.le_refl _) j (.int .u8 (q : Int)))
      obtain ⟨W1, hW1⟩ : ∃ W, W = W0.setCell ⟨gg, j, none⟩ (.int .u8 (q : Int)) := ⟨_, rfl⟩
      rw [← hW1] at HS1 hB1 ⊢
      clear hW1 HRD HFZ hB0 hGL HW2
      obtain ⟨sb, hsb⟩ : ∃ sb, sb = strOfNums ((bytesOf s).set j (q : Int)) := ⟨_, rfl⟩
      have hsbz : sb.size = s.size := by rw [hsb, strOfNums_size, List.length_set, bytesOf_length]
      have hc1 : ∀ n, (convert 32 9 (.slice (some ⟨gg, 0, none⟩) s.size cp)).run Tryd.prog (W1.drewN n) = .ok (.string sb) (W1.drewN n) := fun n => by rw [hsb]; exact string_of_reads Tryd.underlying32 Tryd.underlying5 Tryd.underlying9 (HS1.out.drewN n)
      have hc2 := hc1 0
      rw [World.drewN_zero] at hc2
      obtain ⟨s1, hs1⟩ : ∃ s1, s1 = s.extract 0 m := ⟨_, rfl⟩
      obtain ⟨s2, hs2⟩ : ∃ s2, s2 = s.extract m s.size := ⟨_, rfl⟩
      have hx1 : ∀ W : World, (Instr.slice 9 (.string s) none (some (.int .i64 (m : Int))) none).run Tryd.prog W = .ok (.string s1) W := fun W => by rw [run_slice_string_h W 9 s Tryd.underlying9 .i64 (m : Int) (by omega) (by omega), hs1]; simp
      have hx2 : ∀ W : World, (Instr.slice 9 (.string s) (some (.int .i64 (m : Int))) none none).run Tryd.prog W = .ok (.string s2) W := fun W => by rw [run_slice_string_l W 9 s Tryd.underlying9 .i64 (m : Int) (by omega) (by omega), hs2]; simp
      have hz1 : s1.size ≤ 400 := by rw [hs1, ByteArray.size_extract]; omega
      have hz2 : s2.size ≤ 400 := by rw [hs2, ByteArray.size_extract]; omega
      have hzb : sb.size ≤ 400 := by omega
      clear hs1 hs2 hsb hsbz hml hjl
      obtain ⟨t1, ht1, zt1⟩ := cat_two s1 a3 500 (by omega) (by decide)
      obtain ⟨t2, ht2, zt2⟩ := cat_two t1 s2 900 (by omega) (by decide)
      have zz : (⟨#[48]⟩ : ByteArray).size ≤ 1 := by decide
      obtain ⟨t3, ht3, zt3⟩ := cat_two ⟨#[48]⟩ s 500 (by omega) (by decide)
      obtain ⟨u2, hu2, zu2⟩ := cat_two s s 800 (by omega) (by decide)
      obtain ⟨u3, hu3, zu3⟩ := cat_two u2 s 1200 (by omega) (by decide)
      obtain ⟨u4, hu4, zu4⟩ := cat_two u3 s 1600 (by omega) (by decide)
      obtain ⟨u5, hu5, zu5⟩ := cat_two u4 s 2000 (by omega) (by decide)
      obtain ⟨u6, hu6, zu6⟩ := cat_two u5 s 2400 (by omega) (by decide)
      clear zz
      refine wp_region_still_tail 25 (by kernel_rfl) (by kernel_rfl) ?_
      have hc3 := hc1 1
      have hB2 := Aside0.mk (Below.drew hB1.out)
      obtain ⟨W2, hW2⟩ : ∃ W : World, W = { W1 with drawn := W1.drawn + 1 } := ⟨_, rfl⟩
      have hc4 : (convert 32 9 (.slice (some ⟨gg, 0, none⟩) s.size cp)).run Tryd.prog W2 = .ok (.string sb) W2 := by rw [hW2]; exact hc3
      have hB3 := Aside0.mk (show Below w3.heap.size w3 W2 by rw [hW2]; exact hB2.out)
      rw [← hW2]
      clear hW2 hc1 hc2 hc3 hB1 hB2 HS1
      simp only [List.take_succ_cons, List.take_zero, List.drop_succ_cons, List.drop_zero]
      repeat still_step
      refine wpStill_nil ?_
      go_wp2_with fail
      have HCELL := Aside0.mk (six_cells W2 sb t2 a4 t3 u6 ⟨#[]⟩ (by omega) (by omega) (by omega) (by omega) (by omega) (by decide))
      have HB4 := Aside0.mk (below_alloc hB3.out (.cells #[.string sb, .string t2, .string a4, .string t3, .string u6, .string ⟨#[]⟩] 9))
      have HG2 := Aside0.mk (show W2.heap.size < (W2.alloc (.cells #[.string sb, .string t2, .string a4, .string t3, .string u6, .string ⟨#[]⟩] 9)).heap.size by simp)
      obtain ⟨W3, hW3⟩ : ∃ W : World, W = W2.alloc (.cells #[.string sb, .string t2, .string a4, .string t3, .string u6, .string ⟨#[]⟩] 9) := ⟨_, rfl⟩
      obtain ⟨g2, hg2⟩ : ∃ g, g = W2.heap.size := ⟨_, rfl⟩
      rw [← hW3] at HCELL HB4 HG2 ⊢
      rw [← hg2] at HCELL HG2 ⊢
      clear hW3 hg2 hB3
      go_loopw [15] (fun i wr => ∃ k : Nat, k ≤ 6 ∧ i = .int .i64 (k : Int) ∧ Aside0 (Below W3.heap.size W3 wr)) (fun i _ => 6 - (intOf i).toNat)
      case atStart => exact ⟨0, by omega, rfl, ⟨Below.refl _ _⟩⟩
      case round =>
        obtain ⟨k, hk, rfl, HB⟩ := hrel
        by_cases hk6 : k < 6
        · obtain ⟨t, hct, htz⟩ := HCELL.out k hk6
          have HC3 := Aside0.mk hct
          have hcell : wr.cell? ⟨g2, k, none⟩ = some (.string t) := by rw [HB.out.cell (p := ⟨g2, k, none⟩) HG2.out]; exact hct
          clear hct
          obtain ⟨pc, hpc⟩ : ∃ q : Int, q = (pcode t.data.toList : Int) := ⟨_, rfl⟩
          obtain ⟨n, hn⟩ : ∃ q : Nat, q = pnum t.data.toList := ⟨_, rfl⟩
          have H1 : Aside0 (Calls Tryd.prog 26 #[.string t] wr (NuPost2 wr n pc)) := ⟨by rw [hpc, hn]; exact parse_w t wr htz⟩
          have H2 : Aside0 (∀ W : World, Calls Tryd.prog 30 #[.string t] W (NuPost2 W n pc)) := ⟨fun W => by rw [hpc, hn]; exact rparse_w t W htz⟩
          have HN := Aside0.mk (show n < pw 1000 by rw [hn]; exact Nat.lt_of_lt_of_le (pnum_lt _) (pw_le (by decide)))
          clear hpc hn
          go_wp2_with fail
          refine H1.out.mono ?_
          rintro e y1 ⟨u1, rfl, hN1, hB1⟩
          have HN1 := Aside0.mk hN1
          have HB1 := Aside0.mk (HB.out.trans (hB1.mono HB.out.size))
          clear hN1 hB1 hcell
          have hcell2 : y1.cell? ⟨g2, k, none⟩ = some (.string t) := by rw [HB1.out.cell (p := ⟨g2, k, none⟩) HG2.out]; exact HC3.out
          go_wp2_with fail
          refine (H2.out _).mono ?_
          rintro e y2 ⟨u2, rfl, hN2, hB2⟩
          have H3 : Aside0 (Calls Tryd.prog 28 #[u1, u2] y2 (TruePost y2)) := ⟨sameN (HN1.out.below hB2) hN2 HN.out rfl⟩
          have HB2 := Aside0.mk (HB1.out.trans (hB2.mono HB1.out.size))
          clear hN2 hB2 hcell2
          go_wp2_with fail
          refine H3.out.mono ?_
          rintro e y3 ⟨rfl, hB3⟩
          have HB3 := Aside0.mk (HB2.out.trans (hB3.mono HB2.out.size))
          clear hB3
          go_wp2_with fail
          go_roundw
          case rel => exact ⟨k + 1, by omega, by go_num, ⟨HB3.out⟩⟩
          case measure => simp [intOf]; omega
        · have hk2 : k = 6 := by omega
          subst hk2
          have HT := Aside0.mk (T3.out.trans ((HB4.out.trans (HB.out.mono HB4.out.size)).mono T3.out.size))
          go_wp2_with fail
          go_ret
          exact ⟨rfl, HT.out⟩
end Go.Proofs.YtklhpobphloehaaDoor.natReads
