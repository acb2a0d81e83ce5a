/- The law RatHalves: the walk through its calls, by their contracts; the row and its card. -/
import Derived.Test.YtklhpobphloehaaDoorS4
import Derived.Test.YtklhpobphloehaaDoorS6
set_option linter.unusedVariables false
namespace Go.Proofs.YtklhpobphloehaaDoor.ratHalves
open Go.RowKit
open Go.Proofs.YtklhpobphloehaaDoor.G Go.Proofs.YtklhpobphloehaaDoor.Nn Go.Proofs.YtklhpobphloehaaDoorW.PrintWords Go.Proofs.YtklhpobphloehaaDoorW.PrintLast

theorem bx (W : World) (g : Nat) (a b c : Value) (t : TypeId) (hg : W.heap.size = g) : Blk (W.alloc (.cells #[a, b, c] t)) g a b c := by
  subst hg
  exact Blk_alloc W a b c t
theorem szeroR (w : World) : Calls Tryd.prog 71 #[] w (RaPost w (0 : Rat)) := (szero_w w).mono fun e w' ⟨v, he, hR, hB⟩ => ⟨v, he, hR, hB⟩
theorem rb_zero : Rb 1 (0 : Rat) := ⟨by decide, by decide⟩
theorem rb_int {n : Int} (h : n.natAbs < 4294967296) : Rb 1 ((n : Int) : Rat) := ⟨by show n.natAbs < pw 1; exact h, by show 1 < pw 1; decide⟩
theorem ssameR {w : World} {v0 v1 : Value} {x y : Rat} (hx : Ra w v0 x) (hy : Ra w v1 y) (bx : Rb 400 x) (h : x = y) : Calls Tryd.prog 58 #[v0, v1] w (TruePost w) := by
  subst h
  exact ssame_w hx hy (pw_lt1000 bx.1 (by omega)) (pw_lt1000 bx.2 (by omega))
theorem cmp_swap (x y : Rat) : cmpQ y x = -cmpQ x y := by
  unfold cmpQ
  by_cases h1 : x < y
  · have h2 : ¬ y < x := fun h => Rat.not_le.2 h1 (Rat.le_of_lt h)
    have h3 : y ≠ x := (Rat.ne_of_lt h1).symm
    rw [if_neg h2, if_neg h3, if_pos h1]; rfl
  · by_cases h2 : x = y
    · subst h2; rw [if_neg h1, if_pos rfl]; rfl
    · have h3 : y < x := by
        rcases Rat.le_total (a := x) (b := y) with h | h
        · exact absurd (Rat.lt_of_le_of_ne h h2) h1
        · exact Rat.lt_of_le_of_ne h (Ne.symm h2)
      rw [if_pos h3, if_neg h1, if_neg h2]
theorem cmp_iff {x y u v : Rat} (h1 : u < v ↔ x < y) (h2 : u = v ↔ x = y) : cmpQ u v = cmpQ x y := by
  unfold cmpQ
  simp only [h1, h2]
theorem cmp_add (x y z : Rat) : cmpQ (x + z) (y + z) = cmpQ x y := cmp_iff Rat.add_lt_add_right ⟨Rat.add_right_cancel z, fun h => by rw [h]⟩
theorem cmp_neg (x y : Rat) : cmpQ (-x) (-y) = -cmpQ x y := by
  rw [← cmp_swap]
  exact cmp_iff Rat.neg_lt_neg_iff ⟨fun h => by rw [← Rat.neg_neg x, h, Rat.neg_neg], fun h => by rw [h]⟩
theorem cmp_mul {x y p : Rat} (hp : 0 < p) : cmpQ (x * p) (y * p) = cmpQ x y := by
  refine cmp_iff (Rat.mul_lt_mul_right hp) ⟨fun h => ?_, fun h => by rw [h]⟩
  have hne : p ≠ 0 := (Rat.ne_of_lt hp).symm
  rw [← Rat.mul_div_cancel (a := x) hne, h, Rat.mul_div_cancel hne]
theorem cmp_zero {x y : Rat} : (cmpQ x y == 0) = decide (x = y) := by
  unfold cmpQ
  by_cases h : x < y
  · simp [h, Rat.ne_of_lt h]
  · by_cases h2 : x = y
    · simp [h2, Rat.lt_irrefl]
    · simp [h, h2]
theorem abs_pos {z : Rat} (h : z ≠ 0) : 0 < Rat.abs z := Rat.abs_pos_iff.2 h
theorem cmp_le {x y : Rat} (h : x ≤ y) : decide (cmpQ x y ≤ 0) = true := by
  rw [decide_eq_true_eq]
  unfold cmpQ
  by_cases h1 : x < y
  · rw [if_pos h1]; decide
  · by_cases h2 : x = y
    · rw [if_neg h1, if_pos h2]; decide
    · exact absurd (Rat.lt_of_le_of_ne h h2) h1
theorem cmpQ_bd (x y : Rat) : -1 ≤ cmpQ x y ∧ cmpQ x y ≤ 1 := by
  unfold cmpQ
  split
  · decide
  · split <;> decide
theorem tri (x y : Rat) : Rat.abs (x + y) ≤ Rat.abs x + Rat.abs y := by
  unfold Rat.abs
  split <;> split <;> split <;> grind
theorem cmp3 (x y : Rat) : cmpQ x y = -1 ∨ cmpQ x y = 0 ∨ cmpQ x y = 1 := by
  unfold cmpQ
  split
  · exact .inl rfl
  · split
    · exact .inr (.inl rfl)
    · exact .inr (.inr rfl)
theorem cmp_eq0 {x y : Rat} (h : cmpQ x y = 0) : x = y := by
  have h2 := @cmp_zero x y
  rw [h] at h2
  simpa using h2
theorem cmp_ne0 {x y : Rat} {c : Int} (h : cmpQ x y = c) (hc : c ≠ 0) : ¬ x = y := by
  rintro rfl
  have h2 := @cmp_zero x x
  rw [h] at h2
  simp at h2
  exact hc h2
theorem cmp_pos {p : Rat} (h : 0 < p) : cmpQ p 0 = 1 := by
  unfold cmpQ
  rw [if_neg (fun h2 => Rat.not_le.2 h (Rat.le_of_lt h2)), if_neg (Rat.ne_of_lt h).symm]
theorem cmp_le2 {x y : Rat} (h : x ≤ y) : ∃ z, cmpQ x y = z ∧ decide (z ≤ 0) = true := ⟨_, rfl, cmp_le h⟩
theorem half_lo (x y : Rat) : cmpQ x ((x + y) / ((2 : Int) : Rat)) = cmpQ x y := cmp_iff (by grind) (by grind)
theorem half_hi (x y : Rat) : cmpQ ((x + y) / ((2 : Int) : Rat)) y = cmpQ x y := cmp_iff (by grind) (by grind)
theorem half_mid (x y : Rat) : (x + y) / ((2 : Int) : Rat) - x = y - (x + y) / ((2 : Int) : Rat) := by grind
theorem two_ne : ((2 : Int) : Rat) ≠ 0 := by decide
set_option maxHeartbeats 8000000 in
set_option maxRecDepth 100000 in
theorem walk (g0 : Bool) (a0b : Option Addr) (c0b : Nat) (l0b : List Int) (a0c : Option Addr) (c0c : Nat) (l0c : List Int) (g1 : Bool) (a1b : Option Addr) (c1b : Nat) (l1b : List Int) (a1c : Option Addr) (c1c : Nat) (l1c : List Int) (w : World) (hr0b : CU w a0b l0b.length l0b) (hc0b : l0b.length ≤ c0b) (hL0b : Lim l0b) (hr0c : CU w a0c l0c.length l0c) (hc0c : l0c.length ≤ c0c) (hL0c : Lim l0c) (hr1b : CU w a1b l1b.length l1b) (hc1b : l1b.length ≤ c1b) (hL1b : Lim l1b) (hr1c : CU w a1c l1c.length l1c) (hc1c : l1c.length ≤ c1c) (hL1c : Lim l1c) (HT : TabOk w) :
    Calls Tryd.prog 19 #[.agg #[.bool g0, .slice a0b l0b.length c0b, .slice a0c l0c.length c0c], .agg #[.bool g1, .slice a1b l1b.length c1b, .slice a1c l1c.length c1c]] w (TruePost w) := by
  have C0b := Aside0.mk hr0b
  have S0b := Aside0.mk hc0b
  have L0b := Aside0.mk hL0b
  clear hr0b hc0b hL0b
  have C0c := Aside0.mk hr0c
  have S0c := Aside0.mk hc0c
  have L0c := Aside0.mk hL0c
  clear hr0c hc0c hL0c
  have C1b := Aside0.mk hr1b
  have S1b := Aside0.mk hc1b
  have L1b := Aside0.mk hL1b
  clear hr1b hc1b hL1b
  have C1c := Aside0.mk hr1c
  have S1c := Aside0.mk hc1c
  have L1c := Aside0.mk hL1c
  clear hr1c hc1c hL1c
  have TAB := Aside0.mk HT
  clear HT
  go_enter Tryd.func19, Tryd.ntmps19
  have B1 := Aside0.mk (below_alloc (Below.refl w.heap.size w) (.cells #[.bool g0, .slice a0b l0b.length c0b, .slice a0c l0c.length c0c] 56))
  have T1 := Aside0.mk (B1.out.mono (Nat.le_refl _))
  have H_bx0 := Aside0.mk (bx w (w.heap.size) (.bool g0) (.slice a0b l0b.length c0b) (.slice a0c l0c.length c0c) 56 (by simp))
  have B2 := Aside0.mk (below_alloc (Below.refl (w.alloc (.cells #[.bool g0, .slice a0b l0b.length c0b, .slice a0c l0c.length c0c] 56)).heap.size (w.alloc (.cells #[.bool g0, .slice a0b l0b.length c0b, .slice a0c l0c.length c0c] 56))) (.cells #[.bool g1, .slice a1b l1b.length c1b, .slice a1c l1c.length c1c] 56))
  have T2 := Aside0.mk (T1.out.trans (B2.out.mono T1.out.size))
  have H_bx1 := Aside0.mk (bx (w.alloc (.cells #[.bool g0, .slice a0b l0b.length c0b, .slice a0c l0c.length c0c] 56)) (w.heap.size + 1) (.bool g1) (.slice a1b l1b.length c1b) (.slice a1c l1c.length c1c) 56 (by simp))
  have HC : Aside0 (Calls Tryd.prog 55 #[] ((w.alloc (.cells #[.bool g0, .slice a0b l0b.length c0b, .slice a0c l0c.length c0c] 56)).alloc (.cells #[.bool g1, .slice a1b l1b.length c1b, .slice a1c l1c.length c1c] 56)) (TruePost ((w.alloc (.cells #[.bool g0, .slice a0b l0b.length c0b, .slice a0c l0c.length c0c] 56)).alloc (.cells #[.bool g1, .slice a1b l1b.length c1b, .slice a1c l1c.length c1c] 56)))) := ⟨known2_w ((w.alloc (.cells #[.bool g0, .slice a0b l0b.length c0b, .slice a0c l0c.length c0c] 56)).alloc (.cells #[.bool g1, .slice a1b l1b.length c1b, .slice a1c l1c.length c1c] 56)) ((TAB.out.below B1.out).below B2.out)⟩
  go_wp2_with fail
  refine HC.out.mono ?_
  clear HC
  rintro e w3 ⟨rfl, hB⟩
  have B3 := Aside0.mk hB
  have T3 := Aside0.mk (T2.out.trans (hB.mono T2.out.size))
  clear hB
  have HSB := Aside0.mk (fun (W : World) (hW : Below w3.heap.size w3 W) => And.intro (((H_bx0.out.below B2.out).below B3.out).below hW) ((H_bx1.out.below B3.out).below hW))
  have HM0 := Aside0.mk (fun (W : World) (hW : Below w3.heap.size w3 W) => show Calls Tryd.prog 67 #[.agg #[.bool g0, .slice a0b l0b.length c0b, .slice a0c l0c.length c0c]] W (RaPost W (mkR g0 l0b l0c)) from lmake_w g0 (CU_below C0b.out (T3.out.trans (hW.mono T3.out.size))) S0b.out L0b.out (CU_below C0c.out (T3.out.trans (hW.mono T3.out.size))) S0c.out L0c.out)
  have HM1 := Aside0.mk (fun (W : World) (hW : Below w3.heap.size w3 W) => show Calls Tryd.prog 67 #[.agg #[.bool g1, .slice a1b l1b.length c1b, .slice a1c l1c.length c1c]] W (RaPost W (mkR g1 l1b l1c)) from lmake_w g1 (CU_below C1b.out (T3.out.trans (hW.mono T3.out.size))) S1b.out L1b.out (CU_below C1c.out (T3.out.trans (hW.mono T3.out.size))) S1c.out L1c.out)
  go_wp2_with fail
  refine Inv.wp_region_inv 8 (fun a0 listed a W => ∃ (b0 b1 b2 b3 b4 b5 b6 b7 : Bool) (sl0 sl1 sc0 sc1 sa0 sa1 : Value) (p0 p1 : Nat), listed = #[b0, b1, b2, b3, b4, b5, b6, b7] ∧ a = ((((((a0.put (some 12) sl0).put (some 13) sc0).put (some 5) sa0).put (some 14) sl1).put (some 15) sc1).put (some 6) sa1) ∧ Aside0 (Below w3.heap.size w3 W) ∧ Aside0 (b0 = true → sl0 = .agg #[.bool g0, .slice a0b l0b.length c0b, .slice a0c l0c.length c0c]) ∧ Aside0 (b2 = true → sl1 = .agg #[.bool g1, .slice a1b l1b.length c1b, .slice a1c l1c.length c1c]) ∧ Aside0 (J w3 (mkR g0 l0b l0c) b1 b4 b6 sc0 sa0 p0 W) ∧ Aside0 (J w3 (mkR g1 l1b l1c) b3 b5 b7 sc1 sa1 p1 W) ∧ Aside0 (b4 = true → b5 = true → p1 ≠ p0)) (by kernel_rfl) (by kernel_rfl) (by rfl) ?st3 ?fin3 ?step3
  case st3 => exact ⟨false, false, false, false, false, false, false, false, undef, undef, undef, undef, undef, undef, 0, 0, rfl, (by simp only [Act.put, List.setIfInBounds_toArray, List.set_cons_zero, List.set_cons_succ]), ⟨Below.drew (Below.refl _ _)⟩, ⟨fun e => nomatch e⟩, ⟨fun e => nomatch e⟩, ⟨J.start _ _ _ _ _ _⟩, ⟨J.start _ _ _ _ _ _⟩, ⟨fun e => nomatch e⟩⟩
  case step3 =>
    refine Inv.lt_cases ?_ (Inv.lt_cases ?_ (Inv.lt_cases ?_ (Inv.lt_cases ?_ (Inv.lt_cases ?_ (Inv.lt_cases ?_ (Inv.lt_cases ?_ (Inv.lt_cases ?_ (Inv.lt_none))))))))
    · intro listed a W hI hun hw o ho K hK
      obtain ⟨b0, b1, b2, b3, b4, b5, b6, b7, sl0, sl1, sc0, sc1, sa0, sa1, p0, p1, rfl, rfl, HB, HL0, HL1, HJ0, HJ1, HD01⟩ := hI
      obtain rfl : b7 = false := hun
      obtain rfl : b3 = true := hw 3 (by kernel_rfl)
      obtain rfl : b5 = true := hw 5 (by kernel_rfl)
      obtain rfl := Option.some.inj ho
      clear ho hw
      simp only [Act.put, List.setIfInBounds_toArray, List.set_cons_zero, List.set_cons_succ]
      obtain ⟨rfl, hg, hE⟩ := HJ1.out.2.1 rfl
      obtain ⟨bq, A, L, c, A2, L2, c2, rfl⟩ := HJ1.out.val
      have HE := Aside0.mk hE
      obtain ⟨x, A3, L3, c3, A4, L4, c4, ⟨hc0, hc1, hc2⟩, hf0, hf1, hf2⟩ := hE
      have HG := Aside0.mk hg
      clear hg
      go_simp
      exact hK.out _ _ ⟨b0, b1, b2, true, b4, true, b6, true, sl0, sl1, sc0, (.agg #[.bool bq, .slice A L c, .slice A2 L2 c2]), sa0, (.pointer (some ⟨p1, 0, none⟩)), p0, p1, rfl, (by simp only [Act.put, List.setIfInBounds_toArray, List.set_cons_zero, List.set_cons_succ]), ⟨below_put3 HB.out HG.out _ _ _⟩, HL0, HL1, ⟨HJ0.out.far HE.out (fun e => HD01.out e rfl) _ _ _⟩, ⟨HJ1.out.store⟩, HD01⟩
    · intro listed a W hI hun hw o ho K hK
      obtain ⟨b0, b1, b2, b3, b4, b5, b6, b7, sl0, sl1, sc0, sc1, sa0, sa1, p0, p1, rfl, rfl, HB, HL0, HL1, HJ0, HJ1, HD01⟩ := hI
      obtain rfl : b6 = false := hun
      obtain rfl : b1 = true := hw 1 (by kernel_rfl)
      obtain rfl : b4 = true := hw 4 (by kernel_rfl)
      obtain rfl := Option.some.inj ho
      clear ho hw
      simp only [Act.put, List.setIfInBounds_toArray, List.set_cons_zero, List.set_cons_succ]
      obtain ⟨rfl, hg, hE⟩ := HJ0.out.2.1 rfl
      obtain ⟨bq, A, L, c, A2, L2, c2, rfl⟩ := HJ0.out.val
      have HE := Aside0.mk hE
      obtain ⟨x, A3, L3, c3, A4, L4, c4, ⟨hc0, hc1, hc2⟩, hf0, hf1, hf2⟩ := hE
      have HG := Aside0.mk hg
      clear hg
      go_simp
      exact hK.out _ _ ⟨b0, true, b2, b3, true, b5, true, b7, sl0, sl1, (.agg #[.bool bq, .slice A L c, .slice A2 L2 c2]), sc1, (.pointer (some ⟨p0, 0, none⟩)), sa1, p0, p1, rfl, (by simp only [Act.put, List.setIfInBounds_toArray, List.set_cons_zero, List.set_cons_succ]), ⟨below_put3 HB.out HG.out _ _ _⟩, HL0, HL1, ⟨HJ0.out.store⟩, ⟨HJ1.out.far HE.out (fun e => (HD01.out rfl e).symm) _ _ _⟩, HD01⟩
    · intro listed a W hI hun hw o ho K hK
      obtain ⟨b0, b1, b2, b3, b4, b5, b6, b7, sl0, sl1, sc0, sc1, sa0, sa1, p0, p1, rfl, rfl, HB, HL0, HL1, HJ0, HJ1, HD01⟩ := hI
      obtain rfl : b5 = false := hun
      obtain rfl := Option.some.inj ho
      clear ho hw
      simp only [Act.put, List.setIfInBounds_toArray, List.set_cons_zero, List.set_cons_succ]
      go_simp
      exact hK.out _ _ ⟨b0, b1, b2, b3, b4, true, b6, b7, sl0, sl1, sc0, sc1, sa0, (.pointer (some ⟨W.heap.size, 0, none⟩)), p0, W.heap.size, rfl, (by simp only [Act.put, List.setIfInBounds_toArray, List.set_cons_zero, List.set_cons_succ]), ⟨below_alloc HB.out _⟩, HL0, HL1, ⟨HJ0.out.below (below_alloc (Below.refl _ _) _)⟩, ⟨HJ1.out.alloc HB.out.size⟩, ⟨fun e _ => Nat.ne_of_gt (by subst e; exact HJ0.out.lt)⟩⟩
    · intro listed a W hI hun hw o ho K hK
      obtain ⟨b0, b1, b2, b3, b4, b5, b6, b7, sl0, sl1, sc0, sc1, sa0, sa1, p0, p1, rfl, rfl, HB, HL0, HL1, HJ0, HJ1, HD01⟩ := hI
      obtain rfl : b4 = false := hun
      obtain rfl := Option.some.inj ho
      clear ho hw
      simp only [Act.put, List.setIfInBounds_toArray, List.set_cons_zero, List.set_cons_succ]
      go_simp
      exact hK.out _ _ ⟨b0, b1, b2, b3, true, b5, b6, b7, sl0, sl1, sc0, sc1, (.pointer (some ⟨W.heap.size, 0, none⟩)), sa1, W.heap.size, p1, rfl, (by simp only [Act.put, List.setIfInBounds_toArray, List.set_cons_zero, List.set_cons_succ]), ⟨below_alloc HB.out _⟩, HL0, HL1, ⟨HJ0.out.alloc HB.out.size⟩, ⟨HJ1.out.below (below_alloc (Below.refl _ _) _)⟩, ⟨fun _ e => Nat.ne_of_lt (by subst e; exact HJ1.out.lt)⟩⟩
    · intro listed a W hI hun hw o ho K hK
      obtain ⟨b0, b1, b2, b3, b4, b5, b6, b7, sl0, sl1, sc0, sc1, sa0, sa1, p0, p1, rfl, rfl, HB, HL0, HL1, HJ0, HJ1, HD01⟩ := hI
      obtain rfl : b3 = false := hun
      obtain rfl : b2 = true := hw 2 (by kernel_rfl)
      obtain rfl : b1 = true := hw 1 (by kernel_rfl)
      obtain rfl := Option.some.inj ho
      clear ho hw
      simp only [Act.put, List.setIfInBounds_toArray, List.set_cons_zero, List.set_cons_succ]
      obtain rfl := HL1.out rfl
      have HC := HM1.out _ HB.out
      go_simp
      refine HC.mono ?_
      rintro e W1 ⟨v, rfl, hN, hB⟩
      try go_simp
      exact hK.out _ _ ⟨b0, true, true, true, b4, b5, b6, b7, sl0, (.agg #[.bool g1, .slice a1b l1b.length c1b, .slice a1c l1c.length c1c]), sc0, v, sa0, sa1, p0, p1, rfl, (by simp only [Act.put, List.setIfInBounds_toArray, List.set_cons_zero, List.set_cons_succ]), ⟨HB.out.trans (hB.mono HB.out.size)⟩, HL0, HL1, ⟨HJ0.out.below hB⟩, ⟨HJ1.out.call hB hN⟩, HD01⟩
    · intro listed a W hI hun hw o ho K hK
      obtain ⟨b0, b1, b2, b3, b4, b5, b6, b7, sl0, sl1, sc0, sc1, sa0, sa1, p0, p1, rfl, rfl, HB, HL0, HL1, HJ0, HJ1, HD01⟩ := hI
      obtain rfl : b2 = false := hun
      obtain rfl := Option.some.inj ho
      clear ho hw
      simp only [Act.put, List.setIfInBounds_toArray, List.set_cons_zero, List.set_cons_succ]
      obtain ⟨⟨⟨hx00, hx01, hx02⟩, hy00, hy01, hy02⟩, ⟨⟨hx10, hx11, hx12⟩, hy10, hy11, hy12⟩⟩ := HSB.out _ HB.out
      go_simp
      exact hK.out _ _ ⟨b0, b1, true, b3, b4, b5, b6, b7, sl0, (.agg #[.bool g1, .slice a1b l1b.length c1b, .slice a1c l1c.length c1c]), sc0, sc1, sa0, sa1, p0, p1, rfl, (by simp only [Act.put, List.setIfInBounds_toArray, List.set_cons_zero, List.set_cons_succ]), HB, HL0, ⟨fun _ => rfl⟩, HJ0, HJ1, HD01⟩
    · intro listed a W hI hun hw o ho K hK
      obtain ⟨b0, b1, b2, b3, b4, b5, b6, b7, sl0, sl1, sc0, sc1, sa0, sa1, p0, p1, rfl, rfl, HB, HL0, HL1, HJ0, HJ1, HD01⟩ := hI
      obtain rfl : b1 = false := hun
      obtain rfl : b0 = true := hw 0 (by kernel_rfl)
      obtain rfl := Option.some.inj ho
      clear ho hw
      simp only [Act.put, List.setIfInBounds_toArray, List.set_cons_zero, List.set_cons_succ]
      obtain rfl := HL0.out rfl
      have HC := HM0.out _ HB.out
      go_simp
      refine HC.mono ?_
      rintro e W1 ⟨v, rfl, hN, hB⟩
      try go_simp
      exact hK.out _ _ ⟨true, true, b2, b3, b4, b5, b6, b7, (.agg #[.bool g0, .slice a0b l0b.length c0b, .slice a0c l0c.length c0c]), sl1, v, sc1, sa0, sa1, p0, p1, rfl, (by simp only [Act.put, List.setIfInBounds_toArray, List.set_cons_zero, List.set_cons_succ]), ⟨HB.out.trans (hB.mono HB.out.size)⟩, HL0, HL1, ⟨HJ0.out.call hB hN⟩, ⟨HJ1.out.below hB⟩, HD01⟩
    · intro listed a W hI hun hw o ho K hK
      obtain ⟨b0, b1, b2, b3, b4, b5, b6, b7, sl0, sl1, sc0, sc1, sa0, sa1, p0, p1, rfl, rfl, HB, HL0, HL1, HJ0, HJ1, HD01⟩ := hI
      obtain rfl : b0 = false := hun
      obtain rfl := Option.some.inj ho
      clear ho hw
      simp only [Act.put, List.setIfInBounds_toArray, List.set_cons_zero, List.set_cons_succ]
      obtain ⟨⟨⟨hx00, hx01, hx02⟩, hy00, hy01, hy02⟩, ⟨⟨hx10, hx11, hx12⟩, hy10, hy11, hy12⟩⟩ := HSB.out _ HB.out
      go_simp
      exact hK.out _ _ ⟨true, b1, b2, b3, b4, b5, b6, b7, (.agg #[.bool g0, .slice a0b l0b.length c0b, .slice a0c l0c.length c0c]), sl1, sc0, sc1, sa0, sa1, p0, p1, rfl, (by simp only [Act.put, List.setIfInBounds_toArray, List.set_cons_zero, List.set_cons_succ]), HB, ⟨fun _ => rfl⟩, HL1, HJ0, HJ1, HD01⟩
  rintro listed a1 w4 ⟨b0, b1, b2, b3, b4, b5, b6, b7, sl0, sl1, sc0, sc1, sa0, sa1, p0, p1, rfl, rfl, HB, HL0, HL1, HJ0, HJ1, HD01⟩ hall
  obtain rfl : b0 = true := hall 0 (by decide)
  obtain rfl : b1 = true := hall 1 (by decide)
  obtain rfl : b2 = true := hall 2 (by decide)
  obtain rfl : b3 = true := hall 3 (by decide)
  obtain rfl : b4 = true := hall 4 (by decide)
  obtain rfl : b5 = true := hall 5 (by decide)
  obtain rfl : b6 = true := hall 6 (by decide)
  obtain rfl : b7 = true := hall 7 (by decide)
  clear hall HSB HM0 HL0 HM1 HL1
  obtain ⟨rfl, hg0, b_x, A_x, M_x, c_x, B_x, K_x, d_x, rfl, hR0, hK0⟩ := HJ0.out.done
  clear HJ0
  obtain ⟨rfl, hg1, b_y, A_y, M_y, c_y, B_y, K_y, d_y, rfl, hR1, hK1⟩ := HJ1.out.done
  clear HJ1
  have HD01 := Aside0.mk (HD01.out rfl rfl)
  have hB := HB.out
  clear HB
  have B4 := Aside0.mk hB
  have T4 := Aside0.mk (T3.out.trans (hB.mono T3.out.size))
  clear hB
  have H_x := Aside0.mk hR0
  have X_x := Aside0.mk (show Rb 3 (mkR g0 l0b l0c) from mkR_bnd g0 L0b.out L0c.out)
  have H_bx_x := Aside0.mk hK0
  clear hR0 hK0 hg0
  have H_y := Aside0.mk hR1
  have X_y := Aside0.mk (show Rb 3 (mkR g1 l1b l1c) from mkR_bnd g1 L1b.out L1c.out)
  have H_bx_y := Aside0.mk hK1
  clear hR1 hK1 hg1
  simp only [Act.put, List.setIfInBounds_toArray, List.set_cons_zero, List.set_cons_succ]
  obtain ⟨⟨hu00, hu01, hu02⟩, _⟩ := H_bx_x.out
  obtain ⟨⟨hu10, hu11, hu12⟩, _⟩ := H_bx_y.out
  have HC : Aside0 (Calls Tryd.prog 68 #[(.agg #[.bool b_x, .slice A_x M_x c_x, .slice B_x K_x d_x]), (.agg #[.bool b_y, .slice A_y M_y c_y, .slice B_y K_y d_y])] w4 (RaPost w4 ((mkR g0 l0b l0c) + (mkR g1 l1b l1c)))) := ⟨qaddR H_x.out H_y.out (X_x.out.le (by decide)) (X_y.out.le (by decide))⟩
  go_wp2_with fail
  refine HC.out.mono ?_
  clear HC
  rintro e w5 ⟨v_s, rfl, hN, hB⟩
  have B5 := Aside0.mk hB
  have T5 := Aside0.mk (T4.out.trans (hB.mono T4.out.size))
  have H_s := Aside0.mk hN
  have X_s := Aside0.mk (show Rb 7 ((mkR g0 l0b l0c) + (mkR g1 l1b l1c)) from add_bnd X_x.out X_y.out (by decide))
  clear hN hB
  have HC : Aside0 (Calls Tryd.prog 65 #[.int .i64 2] w5 (RaPost w5 (((2 : Int) : Rat)))) := ⟨by have h := sint_w (2) w5 (by decide) (by decide); exact h⟩
  go_wp2_with fail
  refine HC.out.mono ?_
  clear HC
  rintro e w6 ⟨v_two, rfl, hN, hB⟩
  have B6 := Aside0.mk hB
  have T6 := Aside0.mk (T5.out.trans (hB.mono T5.out.size))
  have H_two := Aside0.mk hN
  have X_two := Aside0.mk (show Rb 1 (((2 : Int) : Rat)) from rb_int (by decide))
  clear hN hB
  clear hu00 hu01 hu02 hu10 hu11 hu12
  have HC : Aside0 (Calls Tryd.prog 72 #[v_s, v_two] w6 (RaPostE w6 (((mkR g0 l0b l0c) + (mkR g1 l1b l1c)) / ((2 : Int) : Rat)) 0)) := ⟨qquoR (H_s.out.below B6.out) H_two.out (X_s.out.le (by decide)) (X_two.out.le (by decide)) two_ne⟩
  go_wp2_with fail
  refine HC.out.mono ?_
  clear HC
  rintro e w7 ⟨v_h, rfl, ⟨A_h, M_h, c_h, B_h, K_h, d_h, rfl, hNA, hNB⟩, hB⟩
  have B7 := Aside0.mk hB
  have T7 := Aside0.mk (T6.out.trans (hB.mono T6.out.size))
  obtain ⟨b_h, hb_h⟩ : ∃ b, b = decide (Rat.num (((mkR g0 l0b l0c) + (mkR g1 l1b l1c)) / ((2 : Int) : Rat)) < 0) := ⟨_, rfl⟩
  rw [← hb_h]
  have E_h := Aside0.mk hb_h
  clear hb_h
  have NA_h := Aside0.mk hNA
  have NB_h := Aside0.mk hNB
  clear hNA hNB hB
  have H_bx_h := Aside0.mk (Blk_alloc w7 (.bool b_h) (.slice A_h M_h c_h) (.slice B_h K_h d_h) 56)
  obtain ⟨⟨hp00, hp01, hp02⟩, _⟩ := (((H_bx_x.out.below B5.out).below B6.out).below B7.out).below (below_alloc (Below.refl w7.heap.size w7) (.cells #[.bool b_h, .slice A_h M_h c_h, .slice B_h K_h d_h] 56))
  obtain ⟨⟨hp10, hp11, hp12⟩, _⟩ := (((H_bx_y.out.below B5.out).below B6.out).below B7.out).below (below_alloc (Below.refl w7.heap.size w7) (.cells #[.bool b_h, .slice A_h M_h c_h, .slice B_h K_h d_h] 56))
  have B8 := Aside0.mk (below_alloc (Below.refl w7.heap.size w7) (.cells #[.bool b_h, .slice A_h M_h c_h, .slice B_h K_h d_h] 56))
  have T8 := Aside0.mk (T7.out.trans (B8.out.mono T7.out.size))
  have H_h0 := Aside0.mk (show Ra w7 (.agg #[(.bool b_h), (.slice A_h M_h c_h), (.slice B_h K_h d_h)]) (((mkR g0 l0b l0c) + (mkR g1 l1b l1c)) / ((2 : Int) : Rat)) from by unfold Ra; rw [← E_h.out]; exact ⟨_, _, _, _, _, _, rfl, NA_h.out, NB_h.out⟩)
  have X_h := Aside0.mk (show Rb 8 (((mkR g0 l0b l0c) + (mkR g1 l1b l1c)) / ((2 : Int) : Rat)) from quo_bnd X_s.out X_two.out two_ne (by decide))
  have H_h := Aside0.mk (show Ra (w7.alloc (.cells #[.bool b_h, .slice A_h M_h c_h, .slice B_h K_h d_h] 56)) (.agg #[(.bool b_h), (.slice A_h M_h c_h), (.slice B_h K_h d_h)]) (((mkR g0 l0b l0c) + (mkR g1 l1b l1c)) / ((2 : Int) : Rat)) from R3.below H_h0.out (below_alloc (Below.refl _ _) _))
  clear hp00 hp01 hp02 hp10 hp11 hp12
  rcases cmp3 (mkR g0 l0b l0c) (mkR g1 l1b l1c) with hc | hc | hc
  ·
    have CZ := Aside0.mk hc
    clear hc
    obtain ⟨⟨hu00, hu01, hu02⟩, _⟩ := ((((H_bx_x.out.below B5.out).below B6.out).below B7.out).below B8.out)
    obtain ⟨⟨hu10, hu11, hu12⟩, _⟩ := ((((H_bx_y.out.below B5.out).below B6.out).below B7.out).below B8.out)
    have HC : Aside0 (Calls Tryd.prog 74 #[(.agg #[.bool b_x, .slice A_x M_x c_x, .slice B_x K_x d_x]), (.agg #[.bool b_y, .slice A_y M_y c_y, .slice B_y K_y d_y])] (w7.alloc (.cells #[.bool b_h, .slice A_h M_h c_h, .slice B_h K_h d_h] 56)) (IntPost (w7.alloc (.cells #[.bool b_h, .slice A_h M_h c_h, .slice B_h K_h d_h] 56)) (-1))) := ⟨by have h := qcmpR ((((H_x.out.below B5.out).below B6.out).below B7.out).below B8.out) ((((H_y.out.below B5.out).below B6.out).below B7.out).below B8.out) (X_x.out.le (by decide)) (X_y.out.le (by decide)); rw [CZ.out] at h; exact h⟩
    go_wp2_with fail
    refine HC.out.mono ?_
    clear HC
    rintro e w9 ⟨rfl, hB⟩
    have B9 := Aside0.mk hB
    have T9 := Aside0.mk (T8.out.trans (hB.mono T8.out.size))
    clear hB
    clear hu00 hu01 hu02 hu10 hu11 hu12
    go_wp2_with fail
    have B10 := Aside0.mk (Below.drew (Below.refl w9.heap.size w9))
    have T10 := Aside0.mk (T9.out.trans (B10.out.mono T9.out.size))
    have HS10 := Aside0.mk (fun (W : World) (hW : Below (w9.drew).heap.size (w9.drew) W) => show W.cell? ⟨p0, 0, none⟩ = some (.bool b_x) ∧ W.cell? ⟨p0, 1, none⟩ = some (.slice A_x M_x c_x) ∧ W.cell? ⟨p0, 2, none⟩ = some (.slice B_x K_x d_x) ∧ W.cell? ⟨p1, 0, none⟩ = some (.bool b_y) ∧ W.cell? ⟨p1, 1, none⟩ = some (.slice A_y M_y c_y) ∧ W.cell? ⟨p1, 2, none⟩ = some (.slice B_y K_y d_y) ∧ W.cell? ⟨w7.heap.size, 0, none⟩ = some (.bool b_h) ∧ W.cell? ⟨w7.heap.size, 1, none⟩ = some (.slice A_h M_h c_h) ∧ W.cell? ⟨w7.heap.size, 2, none⟩ = some (.slice B_h K_h d_h) from ⟨(((((((H_bx_x.out.below B5.out).below B6.out).below B7.out).below B8.out).below B9.out).below B10.out).below hW).1.1, (((((((H_bx_x.out.below B5.out).below B6.out).below B7.out).below B8.out).below B9.out).below B10.out).below hW).1.2.1, (((((((H_bx_x.out.below B5.out).below B6.out).below B7.out).below B8.out).below B9.out).below B10.out).below hW).1.2.2, (((((((H_bx_y.out.below B5.out).below B6.out).below B7.out).below B8.out).below B9.out).below B10.out).below hW).1.1, (((((((H_bx_y.out.below B5.out).below B6.out).below B7.out).below B8.out).below B9.out).below B10.out).below hW).1.2.1, (((((((H_bx_y.out.below B5.out).below B6.out).below B7.out).below B8.out).below B9.out).below B10.out).below hW).1.2.2, (((H_bx_h.out.below B9.out).below B10.out).below hW).1.1, (((H_bx_h.out.below B9.out).below B10.out).below hW).1.2.1, (((H_bx_h.out.below B9.out).below B10.out).below hW).1.2.2⟩)
    have U10 := Aside0.mk (Below.refl (w9.drew).heap.size (w9.drew))
    refine wp_region_held_drew (S := fun W => W.cell? ⟨p0, 0, none⟩ = some (.bool b_x) ∧ W.cell? ⟨p0, 1, none⟩ = some (.slice A_x M_x c_x) ∧ W.cell? ⟨p0, 2, none⟩ = some (.slice B_x K_x d_x) ∧ W.cell? ⟨p1, 0, none⟩ = some (.bool b_y) ∧ W.cell? ⟨p1, 1, none⟩ = some (.slice A_y M_y c_y) ∧ W.cell? ⟨p1, 2, none⟩ = some (.slice B_y K_y d_y) ∧ W.cell? ⟨w7.heap.size, 0, none⟩ = some (.bool b_h) ∧ W.cell? ⟨w7.heap.size, 1, none⟩ = some (.slice A_h M_h c_h) ∧ W.cell? ⟨w7.heap.size, 2, none⟩ = some (.slice B_h K_h d_h)) (by kernel_rfl) (HS10.out _ (Below.refl _ _)) (fun hHeld => ?_)
    refine Inv.takeL (i := 0) (v := ?v10_0) rfl (by kernel_rfl) (by kernel_rfl) (by kernel_rfl) (fun _ _ _ h => h) (by rfl) ?hy10_0 (by assumption) ?rest10_0
    case hy10_0 => ((intro w hSw; (try dsimp only at hSw); go_simp) <;> with_reducible rfl)
    try simp only [Act.put, List.setIfInBounds_toArray, List.set_cons_zero, List.set_cons_succ]
    refine Inv.takeL (i := 1) (v := ?v10_1) rfl (by kernel_rfl) (by kernel_rfl) (by kernel_rfl) (fun _ _ _ h => h) (by rfl) ?hy10_1 (by assumption) ?rest10_1
    case hy10_1 => ((intro w hSw; (try dsimp only at hSw); go_simp) <;> with_reducible rfl)
    try simp only [Act.put, List.setIfInBounds_toArray, List.set_cons_zero, List.set_cons_succ]
    refine Inv.takeL (i := 2) (v := ?v10_2) rfl (by kernel_rfl) (by kernel_rfl) (by kernel_rfl) (fun _ _ _ h => h) (by rfl) ?hy10_2 (by assumption) ?rest10_2
    case hy10_2 => ((intro w hSw; (try dsimp only at hSw); go_simp) <;> with_reducible rfl)
    try simp only [Act.put, List.setIfInBounds_toArray, List.set_cons_zero, List.set_cons_succ]
    refine Inv.takeL (i := 3) (v := ?v10_3) rfl (by kernel_rfl) (by kernel_rfl) (by kernel_rfl) (fun _ _ _ h => h) (by rfl) ?hy10_3 (by assumption) ?rest10_3
    case hy10_3 => ((intro w hSw; (try dsimp only at hSw); go_simp) <;> with_reducible rfl)
    try simp only [Act.put, List.setIfInBounds_toArray, List.set_cons_zero, List.set_cons_succ]
    refine Inv.takeL (i := 4) (v := ?v10_4) rfl (by kernel_rfl) (by kernel_rfl) (by kernel_rfl) (fun _ _ _ h => h) (by rfl) ?hy10_4 (by assumption) ?rest10_4
    case hy10_4 => ((intro w hSw; (try dsimp only at hSw); go_simp) <;> with_reducible rfl)
    try simp only [Act.put, List.setIfInBounds_toArray, List.set_cons_zero, List.set_cons_succ]
    refine Inv.takeL (i := 6) (v := ?v10_6) rfl (by kernel_rfl) (by kernel_rfl) (by kernel_rfl) (fun _ _ _ h => h) (by rfl) ?hy10_6 (by assumption) ?rest10_6
    case hy10_6 => ((intro w hSw; (try dsimp only at hSw); go_simp) <;> with_reducible rfl)
    try simp only [Act.put, List.setIfInBounds_toArray, List.set_cons_zero, List.set_cons_succ]
    have HC : Aside0 (Calls Tryd.prog 74 #[(.agg #[.bool b_x, .slice A_x M_x c_x, .slice B_x K_x d_x]), (.agg #[(.bool b_h), (.slice A_h M_h c_h), (.slice B_h K_h d_h)])] (w9.drew) (IntPost (w9.drew) (-1))) := ⟨by have h := qcmpR ((((((H_x.out.below B5.out).below B6.out).below B7.out).below B8.out).below B9.out).below B10.out) ((H_h.out.below B9.out).below B10.out) (X_x.out.le (by decide)) (X_h.out.le (by decide)); rw [show cmpQ (mkR g0 l0b l0c) (((mkR g0 l0b l0c) + (mkR g1 l1b l1c)) / ((2 : Int) : Rat)) = (-1) by rw [half_lo, CZ.out]] at h; exact h⟩
    refine Inv.oneL (i := 5) rfl (by kernel_rfl) (fun K hK => ?_)
    go_simp
    refine HC.out.mono ?_
    clear HC
    rintro e w11 ⟨rfl, hB⟩
    try go_wp2_with fail
    have B11 := Aside0.mk hB
    have T11 := Aside0.mk (T10.out.trans (hB.mono T10.out.size))
    clear hB
    have U11 := Aside0.mk (U10.out.trans (B11.out.mono U10.out.size))
    refine hK.out _ _ (HS10.out _ U11.out) (fun hHeld => ?_)
    clear hK K
    try simp only [Act.put, List.setIfInBounds_toArray, List.set_cons_zero, List.set_cons_succ]
    refine Inv.takeL (i := 7) (v := ?v10_7) rfl (by kernel_rfl) (by kernel_rfl) (by kernel_rfl) (fun _ _ _ h => h) (by rfl) ?hy10_7 (by assumption) ?rest10_7
    case hy10_7 => ((intro w hSw; (try dsimp only at hSw); go_simp) <;> with_reducible rfl)
    try simp only [Act.put, List.setIfInBounds_toArray, List.set_cons_zero, List.set_cons_succ]
    refine Inv.takeL (i := 8) (v := ?v10_8) rfl (by kernel_rfl) (by kernel_rfl) (by kernel_rfl) (fun _ _ _ h => h) (by rfl) ?hy10_8 (by assumption) ?rest10_8
    case hy10_8 => ((intro w hSw; (try dsimp only at hSw); go_simp) <;> with_reducible rfl)
    try simp only [Act.put, List.setIfInBounds_toArray, List.set_cons_zero, List.set_cons_succ]
    refine Inv.takeL (i := 9) (v := ?v10_9) rfl (by kernel_rfl) (by kernel_rfl) (by kernel_rfl) (fun _ _ _ h => h) (by rfl) ?hy10_9 (by assumption) ?rest10_9
    case hy10_9 => ((intro w hSw; (try dsimp only at hSw); go_simp) <;> with_reducible rfl)
    try simp only [Act.put, List.setIfInBounds_toArray, List.set_cons_zero, List.set_cons_succ]
    refine Inv.takeL (i := 10) (v := ?v10_10) rfl (by kernel_rfl) (by kernel_rfl) (by kernel_rfl) (fun _ _ _ h => h) (by rfl) ?hy10_10 (by assumption) ?rest10_10
    case hy10_10 => ((intro w hSw; (try dsimp only at hSw); go_simp) <;> with_reducible rfl)
    try simp only [Act.put, List.setIfInBounds_toArray, List.set_cons_zero, List.set_cons_succ]
    refine Inv.takeL (i := 11) (v := ?v10_11) rfl (by kernel_rfl) (by kernel_rfl) (by kernel_rfl) (fun _ _ _ h => h) (by rfl) ?hy10_11 (by assumption) ?rest10_11
    case hy10_11 => ((intro w hSw; (try dsimp only at hSw); go_simp) <;> with_reducible rfl)
    try simp only [Act.put, List.setIfInBounds_toArray, List.set_cons_zero, List.set_cons_succ]
    refine Inv.takeL (i := 13) (v := ?v10_13) rfl (by kernel_rfl) (by kernel_rfl) (by kernel_rfl) (fun _ _ _ h => h) (by rfl) ?hy10_13 (by assumption) ?rest10_13
    case hy10_13 => ((intro w hSw; (try dsimp only at hSw); go_simp) <;> with_reducible rfl)
    try simp only [Act.put, List.setIfInBounds_toArray, List.set_cons_zero, List.set_cons_succ]
    have HC : Aside0 (Calls Tryd.prog 74 #[(.agg #[(.bool b_h), (.slice A_h M_h c_h), (.slice B_h K_h d_h)]), (.agg #[.bool b_y, .slice A_y M_y c_y, .slice B_y K_y d_y])] w11 (IntPost w11 (-1))) := ⟨by have h := qcmpR (((H_h.out.below B9.out).below B10.out).below B11.out) (((((((H_y.out.below B5.out).below B6.out).below B7.out).below B8.out).below B9.out).below B10.out).below B11.out) (X_h.out.le (by decide)) (X_y.out.le (by decide)); rw [show cmpQ (((mkR g0 l0b l0c) + (mkR g1 l1b l1c)) / ((2 : Int) : Rat)) (mkR g1 l1b l1c) = (-1) by rw [half_hi, CZ.out]] at h; exact h⟩
    refine Inv.oneL (i := 12) rfl (by kernel_rfl) (fun K hK => ?_)
    go_simp
    refine HC.out.mono ?_
    clear HC
    rintro e w12 ⟨rfl, hB⟩
    try go_wp2_with fail
    have B12 := Aside0.mk hB
    have T12 := Aside0.mk (T11.out.trans (hB.mono T11.out.size))
    clear hB
    have U12 := Aside0.mk (U11.out.trans (B12.out.mono U11.out.size))
    refine hK.out _ _ (HS10.out _ U12.out) (fun hHeld => ?_)
    clear hK K
    try simp only [Act.put, List.setIfInBounds_toArray, List.set_cons_zero, List.set_cons_succ]
    refine Inv.takeL (i := 14) (v := ?v10_14) rfl (by kernel_rfl) (by kernel_rfl) (by kernel_rfl) (fun _ _ _ h => h) (by rfl) ?hy10_14 (by assumption) ?rest10_14
    case hy10_14 => ((intro w hSw; (try dsimp only at hSw); go_simp) <;> with_reducible rfl)
    try simp only [Act.put, List.setIfInBounds_toArray, List.set_cons_zero, List.set_cons_succ]
    refine Inv.takeL (i := 15) (v := ?v10_15) rfl (by kernel_rfl) (by kernel_rfl) (by kernel_rfl) (fun _ _ _ h => h) (by rfl) ?hy10_15 (by assumption) ?rest10_15
    case hy10_15 => ((intro w hSw; (try dsimp only at hSw); go_simp) <;> with_reducible rfl)
    try simp only [Act.put, List.setIfInBounds_toArray, List.set_cons_zero, List.set_cons_succ]
    refine Inv.takeL (i := 16) (v := ?v10_16) rfl (by kernel_rfl) (by kernel_rfl) (by kernel_rfl) (fun _ _ _ h => h) (by rfl) ?hy10_16 (by assumption) ?rest10_16
    case hy10_16 => ((intro w hSw; (try dsimp only at hSw); go_simp) <;> with_reducible rfl)
    try simp only [Act.put, List.setIfInBounds_toArray, List.set_cons_zero, List.set_cons_succ]
    refine Inv.takeL (i := 17) (v := ?v10_17) rfl (by kernel_rfl) (by kernel_rfl) (by kernel_rfl) (fun _ _ _ h => h) (by rfl) ?hy10_17 (by assumption) ?rest10_17
    case hy10_17 => ((intro w hSw; (try dsimp only at hSw); go_simp) <;> with_reducible rfl)
    try simp only [Act.put, List.setIfInBounds_toArray, List.set_cons_zero, List.set_cons_succ]
    refine Inv.takeL (i := 18) (v := ?v10_18) rfl (by kernel_rfl) (by kernel_rfl) (by kernel_rfl) (fun _ _ _ h => h) (by rfl) ?hy10_18 (by assumption) ?rest10_18
    case hy10_18 => ((intro w hSw; (try dsimp only at hSw); go_simp) <;> with_reducible rfl)
    try simp only [Act.put, List.setIfInBounds_toArray, List.set_cons_zero, List.set_cons_succ]
    refine Inv.takeL (i := 20) (v := ?v10_20) rfl (by kernel_rfl) (by kernel_rfl) (by kernel_rfl) (fun _ _ _ h => h) (by rfl) ?hy10_20 (by assumption) ?rest10_20
    case hy10_20 => ((intro w hSw; (try dsimp only at hSw); go_simp) <;> with_reducible rfl)
    try simp only [Act.put, List.setIfInBounds_toArray, List.set_cons_zero, List.set_cons_succ]
    refine Inv.takeL (i := 21) (v := ?v10_21) rfl (by kernel_rfl) (by kernel_rfl) (by kernel_rfl) (fun _ _ _ h => h) (by rfl) ?hy10_21 (by assumption) ?rest10_21
    case hy10_21 => ((intro w hSw; (try dsimp only at hSw); go_simp) <;> with_reducible rfl)
    try simp only [Act.put, List.setIfInBounds_toArray, List.set_cons_zero, List.set_cons_succ]
    have HC : Aside0 (Calls Tryd.prog 69 #[(.agg #[(.bool b_h), (.slice A_h M_h c_h), (.slice B_h K_h d_h)]), (.agg #[.bool b_x, .slice A_x M_x c_x, .slice B_x K_x d_x])] w12 (RaPost w12 ((((mkR g0 l0b l0c) + (mkR g1 l1b l1c)) / ((2 : Int) : Rat)) - (mkR g0 l0b l0c)))) := ⟨qsubR ((((H_h.out.below B9.out).below B10.out).below B11.out).below B12.out) ((((((((H_x.out.below B5.out).below B6.out).below B7.out).below B8.out).below B9.out).below B10.out).below B11.out).below B12.out) (X_h.out.le (by decide)) (X_x.out.le (by decide))⟩
    refine Inv.oneL (i := 19) rfl (by kernel_rfl) (fun K hK => ?_)
    go_simp
    refine HC.out.mono ?_
    clear HC
    rintro e w13 ⟨v_d1, rfl, hN, hB⟩
    try go_wp2_with fail
    have B13 := Aside0.mk hB
    have T13 := Aside0.mk (T12.out.trans (hB.mono T12.out.size))
    have H_d1 := Aside0.mk hN
    have X_d1 := Aside0.mk (show Rb 12 ((((mkR g0 l0b l0c) + (mkR g1 l1b l1c)) / ((2 : Int) : Rat)) - (mkR g0 l0b l0c)) from sub_bnd X_h.out X_x.out (by decide))
    clear hN hB
    have U13 := Aside0.mk (U12.out.trans (B13.out.mono U12.out.size))
    refine hK.out _ _ (HS10.out _ U13.out) (fun hHeld => ?_)
    clear hK K
    try simp only [Act.put, List.setIfInBounds_toArray, List.set_cons_zero, List.set_cons_succ]
    have HC : Aside0 (Calls Tryd.prog 69 #[(.agg #[.bool b_y, .slice A_y M_y c_y, .slice B_y K_y d_y]), (.agg #[(.bool b_h), (.slice A_h M_h c_h), (.slice B_h K_h d_h)])] w13 (RaPost w13 ((mkR g1 l1b l1c) - (((mkR g0 l0b l0c) + (mkR g1 l1b l1c)) / ((2 : Int) : Rat))))) := ⟨qsubR (((((((((H_y.out.below B5.out).below B6.out).below B7.out).below B8.out).below B9.out).below B10.out).below B11.out).below B12.out).below B13.out) (((((H_h.out.below B9.out).below B10.out).below B11.out).below B12.out).below B13.out) (X_y.out.le (by decide)) (X_h.out.le (by decide))⟩
    refine Inv.oneL (i := 22) rfl (by kernel_rfl) (fun K hK => ?_)
    go_simp
    refine HC.out.mono ?_
    clear HC
    rintro e w14 ⟨v_d2, rfl, hN, hB⟩
    try go_wp2_with fail
    have B14 := Aside0.mk hB
    have T14 := Aside0.mk (T13.out.trans (hB.mono T13.out.size))
    have H_d2 := Aside0.mk hN
    have X_d2 := Aside0.mk (show Rb 12 ((mkR g1 l1b l1c) - (((mkR g0 l0b l0c) + (mkR g1 l1b l1c)) / ((2 : Int) : Rat))) from sub_bnd X_y.out X_h.out (by decide))
    clear hN hB
    have U14 := Aside0.mk (U13.out.trans (B14.out.mono U13.out.size))
    refine hK.out _ _ (HS10.out _ U14.out) (fun hHeld => ?_)
    clear hK K
    try simp only [Act.put, List.setIfInBounds_toArray, List.set_cons_zero, List.set_cons_succ]
    have HC : Aside0 (Calls Tryd.prog 58 #[v_d1, v_d2] w14 (TruePost w14)) := ⟨ssameR (H_d1.out.below B14.out) H_d2.out (X_d1.out.le (by decide)) (half_mid _ _)⟩
    refine Inv.oneL (i := 23) rfl (by kernel_rfl) (fun K hK => ?_)
    go_simp
    refine HC.out.mono ?_
    clear HC
    rintro e w15 ⟨rfl, hB⟩
    try go_wp2_with fail
    have B15 := Aside0.mk hB
    have T15 := Aside0.mk (T14.out.trans (hB.mono T14.out.size))
    clear hB
    have U15 := Aside0.mk (U14.out.trans (B15.out.mono U14.out.size))
    refine hK.out _ _ (HS10.out _ U15.out) (fun hHeld => ?_)
    clear hK K
    try simp only [Act.put, List.setIfInBounds_toArray, List.set_cons_zero, List.set_cons_succ]
    refine Inv.takeL (i := 24) (v := ?v10_24) rfl (by kernel_rfl) (by kernel_rfl) (by kernel_rfl) (fun _ _ _ h => h) (by rfl) ?hy10_24 (by assumption) ?rest10_24
    case hy10_24 => ((intro w hSw; (try dsimp only at hSw); go_simp) <;> with_reducible rfl)
    try simp only [Act.put, List.setIfInBounds_toArray, List.set_cons_zero, List.set_cons_succ]
    refine Inv.takeL (i := 25) (v := ?v10_25) rfl (by kernel_rfl) (by kernel_rfl) (by kernel_rfl) (fun _ _ _ h => h) (by rfl) ?hy10_25 (by assumption) ?rest10_25
    case hy10_25 => ((intro w hSw; (try dsimp only at hSw); go_simp) <;> with_reducible rfl)
    try simp only [Act.put, List.setIfInBounds_toArray, List.set_cons_zero, List.set_cons_succ]
    refine wpAnyH_done (by kernel_rfl) ?_ _
    go_wp2_with fail
    go_ret
    exact ⟨rfl, T15.out⟩
  ·
    have CZ := Aside0.mk hc
    clear hc
    obtain ⟨⟨hu00, hu01, hu02⟩, _⟩ := ((((H_bx_x.out.below B5.out).below B6.out).below B7.out).below B8.out)
    obtain ⟨⟨hu10, hu11, hu12⟩, _⟩ := ((((H_bx_y.out.below B5.out).below B6.out).below B7.out).below B8.out)
    have HC : Aside0 (Calls Tryd.prog 74 #[(.agg #[.bool b_x, .slice A_x M_x c_x, .slice B_x K_x d_x]), (.agg #[.bool b_y, .slice A_y M_y c_y, .slice B_y K_y d_y])] (w7.alloc (.cells #[.bool b_h, .slice A_h M_h c_h, .slice B_h K_h d_h] 56)) (IntPost (w7.alloc (.cells #[.bool b_h, .slice A_h M_h c_h, .slice B_h K_h d_h] 56)) 0)) := ⟨by have h := qcmpR ((((H_x.out.below B5.out).below B6.out).below B7.out).below B8.out) ((((H_y.out.below B5.out).below B6.out).below B7.out).below B8.out) (X_x.out.le (by decide)) (X_y.out.le (by decide)); rw [CZ.out] at h; exact h⟩
    go_wp2_with fail
    refine HC.out.mono ?_
    clear HC
    rintro e w9 ⟨rfl, hB⟩
    have B9 := Aside0.mk hB
    have T9 := Aside0.mk (T8.out.trans (hB.mono T8.out.size))
    clear hB
    clear hu00 hu01 hu02 hu10 hu11 hu12
    go_wp2_with fail
    have B10 := Aside0.mk (Below.drew (Below.refl w9.heap.size w9))
    have T10 := Aside0.mk (T9.out.trans (B10.out.mono T9.out.size))
    have HS10 := Aside0.mk (fun (W : World) (hW : Below (w9.drew).heap.size (w9.drew) W) => show W.cell? ⟨p0, 0, none⟩ = some (.bool b_x) ∧ W.cell? ⟨p0, 1, none⟩ = some (.slice A_x M_x c_x) ∧ W.cell? ⟨p0, 2, none⟩ = some (.slice B_x K_x d_x) ∧ W.cell? ⟨p1, 0, none⟩ = some (.bool b_y) ∧ W.cell? ⟨p1, 1, none⟩ = some (.slice A_y M_y c_y) ∧ W.cell? ⟨p1, 2, none⟩ = some (.slice B_y K_y d_y) ∧ W.cell? ⟨w7.heap.size, 0, none⟩ = some (.bool b_h) ∧ W.cell? ⟨w7.heap.size, 1, none⟩ = some (.slice A_h M_h c_h) ∧ W.cell? ⟨w7.heap.size, 2, none⟩ = some (.slice B_h K_h d_h) from ⟨(((((((H_bx_x.out.below B5.out).below B6.out).below B7.out).below B8.out).below B9.out).below B10.out).below hW).1.1, (((((((H_bx_x.out.below B5.out).below B6.out).below B7.out).below B8.out).below B9.out).below B10.out).below hW).1.2.1, (((((((H_bx_x.out.below B5.out).below B6.out).below B7.out).below B8.out).below B9.out).below B10.out).below hW).1.2.2, (((((((H_bx_y.out.below B5.out).below B6.out).below B7.out).below B8.out).below B9.out).below B10.out).below hW).1.1, (((((((H_bx_y.out.below B5.out).below B6.out).below B7.out).below B8.out).below B9.out).below B10.out).below hW).1.2.1, (((((((H_bx_y.out.below B5.out).below B6.out).below B7.out).below B8.out).below B9.out).below B10.out).below hW).1.2.2, (((H_bx_h.out.below B9.out).below B10.out).below hW).1.1, (((H_bx_h.out.below B9.out).below B10.out).below hW).1.2.1, (((H_bx_h.out.below B9.out).below B10.out).below hW).1.2.2⟩)
    have U10 := Aside0.mk (Below.refl (w9.drew).heap.size (w9.drew))
    refine wp_region_held_drew (S := fun W => W.cell? ⟨p0, 0, none⟩ = some (.bool b_x) ∧ W.cell? ⟨p0, 1, none⟩ = some (.slice A_x M_x c_x) ∧ W.cell? ⟨p0, 2, none⟩ = some (.slice B_x K_x d_x) ∧ W.cell? ⟨p1, 0, none⟩ = some (.bool b_y) ∧ W.cell? ⟨p1, 1, none⟩ = some (.slice A_y M_y c_y) ∧ W.cell? ⟨p1, 2, none⟩ = some (.slice B_y K_y d_y) ∧ W.cell? ⟨w7.heap.size, 0, none⟩ = some (.bool b_h) ∧ W.cell? ⟨w7.heap.size, 1, none⟩ = some (.slice A_h M_h c_h) ∧ W.cell? ⟨w7.heap.size, 2, none⟩ = some (.slice B_h K_h d_h)) (by kernel_rfl) (HS10.out _ (Below.refl _ _)) (fun hHeld => ?_)
    refine Inv.takeL (i := 0) (v := ?v11_0) rfl (by kernel_rfl) (by kernel_rfl) (by kernel_rfl) (fun _ _ _ h => h) (by rfl) ?hy11_0 (by assumption) ?rest11_0
    case hy11_0 => ((intro w hSw; (try dsimp only at hSw); go_simp) <;> with_reducible rfl)
    try simp only [Act.put, List.setIfInBounds_toArray, List.set_cons_zero, List.set_cons_succ]
    refine Inv.takeL (i := 1) (v := ?v11_1) rfl (by kernel_rfl) (by kernel_rfl) (by kernel_rfl) (fun _ _ _ h => h) (by rfl) ?hy11_1 (by assumption) ?rest11_1
    case hy11_1 => ((intro w hSw; (try dsimp only at hSw); go_simp) <;> with_reducible rfl)
    try simp only [Act.put, List.setIfInBounds_toArray, List.set_cons_zero, List.set_cons_succ]
    refine Inv.takeL (i := 2) (v := ?v11_2) rfl (by kernel_rfl) (by kernel_rfl) (by kernel_rfl) (fun _ _ _ h => h) (by rfl) ?hy11_2 (by assumption) ?rest11_2
    case hy11_2 => ((intro w hSw; (try dsimp only at hSw); go_simp) <;> with_reducible rfl)
    try simp only [Act.put, List.setIfInBounds_toArray, List.set_cons_zero, List.set_cons_succ]
    refine Inv.takeL (i := 3) (v := ?v11_3) rfl (by kernel_rfl) (by kernel_rfl) (by kernel_rfl) (fun _ _ _ h => h) (by rfl) ?hy11_3 (by assumption) ?rest11_3
    case hy11_3 => ((intro w hSw; (try dsimp only at hSw); go_simp) <;> with_reducible rfl)
    try simp only [Act.put, List.setIfInBounds_toArray, List.set_cons_zero, List.set_cons_succ]
    refine Inv.takeL (i := 4) (v := ?v11_4) rfl (by kernel_rfl) (by kernel_rfl) (by kernel_rfl) (fun _ _ _ h => h) (by rfl) ?hy11_4 (by assumption) ?rest11_4
    case hy11_4 => ((intro w hSw; (try dsimp only at hSw); go_simp) <;> with_reducible rfl)
    try simp only [Act.put, List.setIfInBounds_toArray, List.set_cons_zero, List.set_cons_succ]
    refine Inv.takeL (i := 6) (v := ?v11_6) rfl (by kernel_rfl) (by kernel_rfl) (by kernel_rfl) (fun _ _ _ h => h) (by rfl) ?hy11_6 (by assumption) ?rest11_6
    case hy11_6 => ((intro w hSw; (try dsimp only at hSw); go_simp) <;> with_reducible rfl)
    try simp only [Act.put, List.setIfInBounds_toArray, List.set_cons_zero, List.set_cons_succ]
    have HC : Aside0 (Calls Tryd.prog 74 #[(.agg #[.bool b_x, .slice A_x M_x c_x, .slice B_x K_x d_x]), (.agg #[(.bool b_h), (.slice A_h M_h c_h), (.slice B_h K_h d_h)])] (w9.drew) (IntPost (w9.drew) 0)) := ⟨by have h := qcmpR ((((((H_x.out.below B5.out).below B6.out).below B7.out).below B8.out).below B9.out).below B10.out) ((H_h.out.below B9.out).below B10.out) (X_x.out.le (by decide)) (X_h.out.le (by decide)); rw [show cmpQ (mkR g0 l0b l0c) (((mkR g0 l0b l0c) + (mkR g1 l1b l1c)) / ((2 : Int) : Rat)) = 0 by rw [half_lo, CZ.out]] at h; exact h⟩
    refine Inv.oneL (i := 5) rfl (by kernel_rfl) (fun K hK => ?_)
    go_simp
    refine HC.out.mono ?_
    clear HC
    rintro e w11 ⟨rfl, hB⟩
    try go_wp2_with fail
    have B11 := Aside0.mk hB
    have T11 := Aside0.mk (T10.out.trans (hB.mono T10.out.size))
    clear hB
    have U11 := Aside0.mk (U10.out.trans (B11.out.mono U10.out.size))
    refine hK.out _ _ (HS10.out _ U11.out) (fun hHeld => ?_)
    clear hK K
    try simp only [Act.put, List.setIfInBounds_toArray, List.set_cons_zero, List.set_cons_succ]
    refine Inv.takeL (i := 7) (v := ?v11_7) rfl (by kernel_rfl) (by kernel_rfl) (by kernel_rfl) (fun _ _ _ h => h) (by rfl) ?hy11_7 (by assumption) ?rest11_7
    case hy11_7 => ((intro w hSw; (try dsimp only at hSw); go_simp) <;> with_reducible rfl)
    try simp only [Act.put, List.setIfInBounds_toArray, List.set_cons_zero, List.set_cons_succ]
    refine Inv.takeL (i := 8) (v := ?v11_8) rfl (by kernel_rfl) (by kernel_rfl) (by kernel_rfl) (fun _ _ _ h => h) (by rfl) ?hy11_8 (by assumption) ?rest11_8
    case hy11_8 => ((intro w hSw; (try dsimp only at hSw); go_simp) <;> with_reducible rfl)
    try simp only [Act.put, List.setIfInBounds_toArray, List.set_cons_zero, List.set_cons_succ]
    refine Inv.takeL (i := 9) (v := ?v11_9) rfl (by kernel_rfl) (by kernel_rfl) (by kernel_rfl) (fun _ _ _ h => h) (by rfl) ?hy11_9 (by assumption) ?rest11_9
    case hy11_9 => ((intro w hSw; (try dsimp only at hSw); go_simp) <;> with_reducible rfl)
    try simp only [Act.put, List.setIfInBounds_toArray, List.set_cons_zero, List.set_cons_succ]
    refine Inv.takeL (i := 10) (v := ?v11_10) rfl (by kernel_rfl) (by kernel_rfl) (by kernel_rfl) (fun _ _ _ h => h) (by rfl) ?hy11_10 (by assumption) ?rest11_10
    case hy11_10 => ((intro w hSw; (try dsimp only at hSw); go_simp) <;> with_reducible rfl)
    try simp only [Act.put, List.setIfInBounds_toArray, List.set_cons_zero, List.set_cons_succ]
    refine Inv.takeL (i := 11) (v := ?v11_11) rfl (by kernel_rfl) (by kernel_rfl) (by kernel_rfl) (fun _ _ _ h => h) (by rfl) ?hy11_11 (by assumption) ?rest11_11
    case hy11_11 => ((intro w hSw; (try dsimp only at hSw); go_simp) <;> with_reducible rfl)
    try simp only [Act.put, List.setIfInBounds_toArray, List.set_cons_zero, List.set_cons_succ]
    refine Inv.takeL (i := 13) (v := ?v11_13) rfl (by kernel_rfl) (by kernel_rfl) (by kernel_rfl) (fun _ _ _ h => h) (by rfl) ?hy11_13 (by assumption) ?rest11_13
    case hy11_13 => ((intro w hSw; (try dsimp only at hSw); go_simp) <;> with_reducible rfl)
    try simp only [Act.put, List.setIfInBounds_toArray, List.set_cons_zero, List.set_cons_succ]
    have HC : Aside0 (Calls Tryd.prog 74 #[(.agg #[(.bool b_h), (.slice A_h M_h c_h), (.slice B_h K_h d_h)]), (.agg #[.bool b_y, .slice A_y M_y c_y, .slice B_y K_y d_y])] w11 (IntPost w11 0)) := ⟨by have h := qcmpR (((H_h.out.below B9.out).below B10.out).below B11.out) (((((((H_y.out.below B5.out).below B6.out).below B7.out).below B8.out).below B9.out).below B10.out).below B11.out) (X_h.out.le (by decide)) (X_y.out.le (by decide)); rw [show cmpQ (((mkR g0 l0b l0c) + (mkR g1 l1b l1c)) / ((2 : Int) : Rat)) (mkR g1 l1b l1c) = 0 by rw [half_hi, CZ.out]] at h; exact h⟩
    refine Inv.oneL (i := 12) rfl (by kernel_rfl) (fun K hK => ?_)
    go_simp
    refine HC.out.mono ?_
    clear HC
    rintro e w12 ⟨rfl, hB⟩
    try go_wp2_with fail
    have B12 := Aside0.mk hB
    have T12 := Aside0.mk (T11.out.trans (hB.mono T11.out.size))
    clear hB
    have U12 := Aside0.mk (U11.out.trans (B12.out.mono U11.out.size))
    refine hK.out _ _ (HS10.out _ U12.out) (fun hHeld => ?_)
    clear hK K
    try simp only [Act.put, List.setIfInBounds_toArray, List.set_cons_zero, List.set_cons_succ]
    refine Inv.takeL (i := 14) (v := ?v11_14) rfl (by kernel_rfl) (by kernel_rfl) (by kernel_rfl) (fun _ _ _ h => h) (by rfl) ?hy11_14 (by assumption) ?rest11_14
    case hy11_14 => ((intro w hSw; (try dsimp only at hSw); go_simp) <;> with_reducible rfl)
    try simp only [Act.put, List.setIfInBounds_toArray, List.set_cons_zero, List.set_cons_succ]
    refine Inv.takeL (i := 15) (v := ?v11_15) rfl (by kernel_rfl) (by kernel_rfl) (by kernel_rfl) (fun _ _ _ h => h) (by rfl) ?hy11_15 (by assumption) ?rest11_15
    case hy11_15 => ((intro w hSw; (try dsimp only at hSw); go_simp) <;> with_reducible rfl)
    try simp only [Act.put, List.setIfInBounds_toArray, List.set_cons_zero, List.set_cons_succ]
    refine Inv.takeL (i := 16) (v := ?v11_16) rfl (by kernel_rfl) (by kernel_rfl) (by kernel_rfl) (fun _ _ _ h => h) (by rfl) ?hy11_16 (by assumption) ?rest11_16
    case hy11_16 => ((intro w hSw; (try dsimp only at hSw); go_simp) <;> with_reducible rfl)
    try simp only [Act.put, List.setIfInBounds_toArray, List.set_cons_zero, List.set_cons_succ]
    refine Inv.takeL (i := 17) (v := ?v11_17) rfl (by kernel_rfl) (by kernel_rfl) (by kernel_rfl) (fun _ _ _ h => h) (by rfl) ?hy11_17 (by assumption) ?rest11_17
    case hy11_17 => ((intro w hSw; (try dsimp only at hSw); go_simp) <;> with_reducible rfl)
    try simp only [Act.put, List.setIfInBounds_toArray, List.set_cons_zero, List.set_cons_succ]
    refine Inv.takeL (i := 18) (v := ?v11_18) rfl (by kernel_rfl) (by kernel_rfl) (by kernel_rfl) (fun _ _ _ h => h) (by rfl) ?hy11_18 (by assumption) ?rest11_18
    case hy11_18 => ((intro w hSw; (try dsimp only at hSw); go_simp) <;> with_reducible rfl)
    try simp only [Act.put, List.setIfInBounds_toArray, List.set_cons_zero, List.set_cons_succ]
    refine Inv.takeL (i := 20) (v := ?v11_20) rfl (by kernel_rfl) (by kernel_rfl) (by kernel_rfl) (fun _ _ _ h => h) (by rfl) ?hy11_20 (by assumption) ?rest11_20
    case hy11_20 => ((intro w hSw; (try dsimp only at hSw); go_simp) <;> with_reducible rfl)
    try simp only [Act.put, List.setIfInBounds_toArray, List.set_cons_zero, List.set_cons_succ]
    refine Inv.takeL (i := 21) (v := ?v11_21) rfl (by kernel_rfl) (by kernel_rfl) (by kernel_rfl) (fun _ _ _ h => h) (by rfl) ?hy11_21 (by assumption) ?rest11_21
    case hy11_21 => ((intro w hSw; (try dsimp only at hSw); go_simp) <;> with_reducible rfl)
    try simp only [Act.put, List.setIfInBounds_toArray, List.set_cons_zero, List.set_cons_succ]
    have HC : Aside0 (Calls Tryd.prog 69 #[(.agg #[(.bool b_h), (.slice A_h M_h c_h), (.slice B_h K_h d_h)]), (.agg #[.bool b_x, .slice A_x M_x c_x, .slice B_x K_x d_x])] w12 (RaPost w12 ((((mkR g0 l0b l0c) + (mkR g1 l1b l1c)) / ((2 : Int) : Rat)) - (mkR g0 l0b l0c)))) := ⟨qsubR ((((H_h.out.below B9.out).below B10.out).below B11.out).below B12.out) ((((((((H_x.out.below B5.out).below B6.out).below B7.out).below B8.out).below B9.out).below B10.out).below B11.out).below B12.out) (X_h.out.le (by decide)) (X_x.out.le (by decide))⟩
    refine Inv.oneL (i := 19) rfl (by kernel_rfl) (fun K hK => ?_)
    go_simp
    refine HC.out.mono ?_
    clear HC
    rintro e w13 ⟨v_d1, rfl, hN, hB⟩
    try go_wp2_with fail
    have B13 := Aside0.mk hB
    have T13 := Aside0.mk (T12.out.trans (hB.mono T12.out.size))
    have H_d1 := Aside0.mk hN
    have X_d1 := Aside0.mk (show Rb 12 ((((mkR g0 l0b l0c) + (mkR g1 l1b l1c)) / ((2 : Int) : Rat)) - (mkR g0 l0b l0c)) from sub_bnd X_h.out X_x.out (by decide))
    clear hN hB
    have U13 := Aside0.mk (U12.out.trans (B13.out.mono U12.out.size))
    refine hK.out _ _ (HS10.out _ U13.out) (fun hHeld => ?_)
    clear hK K
    try simp only [Act.put, List.setIfInBounds_toArray, List.set_cons_zero, List.set_cons_succ]
    have HC : Aside0 (Calls Tryd.prog 69 #[(.agg #[.bool b_y, .slice A_y M_y c_y, .slice B_y K_y d_y]), (.agg #[(.bool b_h), (.slice A_h M_h c_h), (.slice B_h K_h d_h)])] w13 (RaPost w13 ((mkR g1 l1b l1c) - (((mkR g0 l0b l0c) + (mkR g1 l1b l1c)) / ((2 : Int) : Rat))))) := ⟨qsubR (((((((((H_y.out.below B5.out).below B6.out).below B7.out).below B8.out).below B9.out).below B10.out).below B11.out).below B12.out).below B13.out) (((((H_h.out.below B9.out).below B10.out).below B11.out).below B12.out).below B13.out) (X_y.out.le (by decide)) (X_h.out.le (by decide))⟩
    refine Inv.oneL (i := 22) rfl (by kernel_rfl) (fun K hK => ?_)
    go_simp
    refine HC.out.mono ?_
    clear HC
    rintro e w14 ⟨v_d2, rfl, hN, hB⟩
    try go_wp2_with fail
    have B14 := Aside0.mk hB
    have T14 := Aside0.mk (T13.out.trans (hB.mono T13.out.size))
    have H_d2 := Aside0.mk hN
    have X_d2 := Aside0.mk (show Rb 12 ((mkR g1 l1b l1c) - (((mkR g0 l0b l0c) + (mkR g1 l1b l1c)) / ((2 : Int) : Rat))) from sub_bnd X_y.out X_h.out (by decide))
    clear hN hB
    have U14 := Aside0.mk (U13.out.trans (B14.out.mono U13.out.size))
    refine hK.out _ _ (HS10.out _ U14.out) (fun hHeld => ?_)
    clear hK K
    try simp only [Act.put, List.setIfInBounds_toArray, List.set_cons_zero, List.set_cons_succ]
    have HC : Aside0 (Calls Tryd.prog 58 #[v_d1, v_d2] w14 (TruePost w14)) := ⟨ssameR (H_d1.out.below B14.out) H_d2.out (X_d1.out.le (by decide)) (half_mid _ _)⟩
    refine Inv.oneL (i := 23) rfl (by kernel_rfl) (fun K hK => ?_)
    go_simp
    refine HC.out.mono ?_
    clear HC
    rintro e w15 ⟨rfl, hB⟩
    try go_wp2_with fail
    have B15 := Aside0.mk hB
    have T15 := Aside0.mk (T14.out.trans (hB.mono T14.out.size))
    clear hB
    have U15 := Aside0.mk (U14.out.trans (B15.out.mono U14.out.size))
    refine hK.out _ _ (HS10.out _ U15.out) (fun hHeld => ?_)
    clear hK K
    try simp only [Act.put, List.setIfInBounds_toArray, List.set_cons_zero, List.set_cons_succ]
    refine Inv.takeL (i := 24) (v := ?v11_24) rfl (by kernel_rfl) (by kernel_rfl) (by kernel_rfl) (fun _ _ _ h => h) (by rfl) ?hy11_24 (by assumption) ?rest11_24
    case hy11_24 => ((intro w hSw; (try dsimp only at hSw); go_simp) <;> with_reducible rfl)
    try simp only [Act.put, List.setIfInBounds_toArray, List.set_cons_zero, List.set_cons_succ]
    refine Inv.takeL (i := 25) (v := ?v11_25) rfl (by kernel_rfl) (by kernel_rfl) (by kernel_rfl) (fun _ _ _ h => h) (by rfl) ?hy11_25 (by assumption) ?rest11_25
    case hy11_25 => ((intro w hSw; (try dsimp only at hSw); go_simp) <;> with_reducible rfl)
    try simp only [Act.put, List.setIfInBounds_toArray, List.set_cons_zero, List.set_cons_succ]
    refine wpAnyH_done (by kernel_rfl) ?_ _
    go_wp2_with fail
    go_ret
    exact ⟨rfl, T15.out⟩
  ·
    have CZ := Aside0.mk hc
    clear hc
    obtain ⟨⟨hu00, hu01, hu02⟩, _⟩ := ((((H_bx_x.out.below B5.out).below B6.out).below B7.out).below B8.out)
    obtain ⟨⟨hu10, hu11, hu12⟩, _⟩ := ((((H_bx_y.out.below B5.out).below B6.out).below B7.out).below B8.out)
    have HC : Aside0 (Calls Tryd.prog 74 #[(.agg #[.bool b_x, .slice A_x M_x c_x, .slice B_x K_x d_x]), (.agg #[.bool b_y, .slice A_y M_y c_y, .slice B_y K_y d_y])] (w7.alloc (.cells #[.bool b_h, .slice A_h M_h c_h, .slice B_h K_h d_h] 56)) (IntPost (w7.alloc (.cells #[.bool b_h, .slice A_h M_h c_h, .slice B_h K_h d_h] 56)) 1)) := ⟨by have h := qcmpR ((((H_x.out.below B5.out).below B6.out).below B7.out).below B8.out) ((((H_y.out.below B5.out).below B6.out).below B7.out).below B8.out) (X_x.out.le (by decide)) (X_y.out.le (by decide)); rw [CZ.out] at h; exact h⟩
    go_wp2_with fail
    refine HC.out.mono ?_
    clear HC
    rintro e w9 ⟨rfl, hB⟩
    have B9 := Aside0.mk hB
    have T9 := Aside0.mk (T8.out.trans (hB.mono T8.out.size))
    clear hB
    clear hu00 hu01 hu02 hu10 hu11 hu12
    go_wp2_with fail
    have B10 := Aside0.mk (Below.drew (Below.refl w9.heap.size w9))
    have T10 := Aside0.mk (T9.out.trans (B10.out.mono T9.out.size))
    have HS10 := Aside0.mk (fun (W : World) (hW : Below (w9.drew).heap.size (w9.drew) W) => show W.cell? ⟨p0, 0, none⟩ = some (.bool b_x) ∧ W.cell? ⟨p0, 1, none⟩ = some (.slice A_x M_x c_x) ∧ W.cell? ⟨p0, 2, none⟩ = some (.slice B_x K_x d_x) ∧ W.cell? ⟨p1, 0, none⟩ = some (.bool b_y) ∧ W.cell? ⟨p1, 1, none⟩ = some (.slice A_y M_y c_y) ∧ W.cell? ⟨p1, 2, none⟩ = some (.slice B_y K_y d_y) ∧ W.cell? ⟨w7.heap.size, 0, none⟩ = some (.bool b_h) ∧ W.cell? ⟨w7.heap.size, 1, none⟩ = some (.slice A_h M_h c_h) ∧ W.cell? ⟨w7.heap.size, 2, none⟩ = some (.slice B_h K_h d_h) from ⟨(((((((H_bx_x.out.below B5.out).below B6.out).below B7.out).below B8.out).below B9.out).below B10.out).below hW).1.1, (((((((H_bx_x.out.below B5.out).below B6.out).below B7.out).below B8.out).below B9.out).below B10.out).below hW).1.2.1, (((((((H_bx_x.out.below B5.out).below B6.out).below B7.out).below B8.out).below B9.out).below B10.out).below hW).1.2.2, (((((((H_bx_y.out.below B5.out).below B6.out).below B7.out).below B8.out).below B9.out).below B10.out).below hW).1.1, (((((((H_bx_y.out.below B5.out).below B6.out).below B7.out).below B8.out).below B9.out).below B10.out).below hW).1.2.1, (((((((H_bx_y.out.below B5.out).below B6.out).below B7.out).below B8.out).below B9.out).below B10.out).below hW).1.2.2, (((H_bx_h.out.below B9.out).below B10.out).below hW).1.1, (((H_bx_h.out.below B9.out).below B10.out).below hW).1.2.1, (((H_bx_h.out.below B9.out).below B10.out).below hW).1.2.2⟩)
    have U10 := Aside0.mk (Below.refl (w9.drew).heap.size (w9.drew))
    refine wp_region_held_drew (S := fun W => W.cell? ⟨p0, 0, none⟩ = some (.bool b_x) ∧ W.cell? ⟨p0, 1, none⟩ = some (.slice A_x M_x c_x) ∧ W.cell? ⟨p0, 2, none⟩ = some (.slice B_x K_x d_x) ∧ W.cell? ⟨p1, 0, none⟩ = some (.bool b_y) ∧ W.cell? ⟨p1, 1, none⟩ = some (.slice A_y M_y c_y) ∧ W.cell? ⟨p1, 2, none⟩ = some (.slice B_y K_y d_y) ∧ W.cell? ⟨w7.heap.size, 0, none⟩ = some (.bool b_h) ∧ W.cell? ⟨w7.heap.size, 1, none⟩ = some (.slice A_h M_h c_h) ∧ W.cell? ⟨w7.heap.size, 2, none⟩ = some (.slice B_h K_h d_h)) (by kernel_rfl) (HS10.out _ (Below.refl _ _)) (fun hHeld => ?_)
    refine Inv.takeL (i := 0) (v := ?v12_0) rfl (by kernel_rfl) (by kernel_rfl) (by kernel_rfl) (fun _ _ _ h => h) (by rfl) ?hy12_0 (by assumption) ?rest12_0
    case hy12_0 => ((intro w hSw; (try dsimp only at hSw); go_simp) <;> with_reducible rfl)
    try simp only [Act.put, List.setIfInBounds_toArray, List.set_cons_zero, List.set_cons_succ]
    refine Inv.takeL (i := 1) (v := ?v12_1) rfl (by kernel_rfl) (by kernel_rfl) (by kernel_rfl) (fun _ _ _ h => h) (by rfl) ?hy12_1 (by assumption) ?rest12_1
    case hy12_1 => ((intro w hSw; (try dsimp only at hSw); go_simp) <;> with_reducible rfl)
    try simp only [Act.put, List.setIfInBounds_toArray, List.set_cons_zero, List.set_cons_succ]
    refine Inv.takeL (i := 2) (v := ?v12_2) rfl (by kernel_rfl) (by kernel_rfl) (by kernel_rfl) (fun _ _ _ h => h) (by rfl) ?hy12_2 (by assumption) ?rest12_2
    case hy12_2 => ((intro w hSw; (try dsimp only at hSw); go_simp) <;> with_reducible rfl)
    try simp only [Act.put, List.setIfInBounds_toArray, List.set_cons_zero, List.set_cons_succ]
    refine Inv.takeL (i := 3) (v := ?v12_3) rfl (by kernel_rfl) (by kernel_rfl) (by kernel_rfl) (fun _ _ _ h => h) (by rfl) ?hy12_3 (by assumption) ?rest12_3
    case hy12_3 => ((intro w hSw; (try dsimp only at hSw); go_simp) <;> with_reducible rfl)
    try simp only [Act.put, List.setIfInBounds_toArray, List.set_cons_zero, List.set_cons_succ]
    refine Inv.takeL (i := 4) (v := ?v12_4) rfl (by kernel_rfl) (by kernel_rfl) (by kernel_rfl) (fun _ _ _ h => h) (by rfl) ?hy12_4 (by assumption) ?rest12_4
    case hy12_4 => ((intro w hSw; (try dsimp only at hSw); go_simp) <;> with_reducible rfl)
    try simp only [Act.put, List.setIfInBounds_toArray, List.set_cons_zero, List.set_cons_succ]
    refine Inv.takeL (i := 6) (v := ?v12_6) rfl (by kernel_rfl) (by kernel_rfl) (by kernel_rfl) (fun _ _ _ h => h) (by rfl) ?hy12_6 (by assumption) ?rest12_6
    case hy12_6 => ((intro w hSw; (try dsimp only at hSw); go_simp) <;> with_reducible rfl)
    try simp only [Act.put, List.setIfInBounds_toArray, List.set_cons_zero, List.set_cons_succ]
    have HC : Aside0 (Calls Tryd.prog 74 #[(.agg #[.bool b_x, .slice A_x M_x c_x, .slice B_x K_x d_x]), (.agg #[(.bool b_h), (.slice A_h M_h c_h), (.slice B_h K_h d_h)])] (w9.drew) (IntPost (w9.drew) 1)) := ⟨by have h := qcmpR ((((((H_x.out.below B5.out).below B6.out).below B7.out).below B8.out).below B9.out).below B10.out) ((H_h.out.below B9.out).below B10.out) (X_x.out.le (by decide)) (X_h.out.le (by decide)); rw [show cmpQ (mkR g0 l0b l0c) (((mkR g0 l0b l0c) + (mkR g1 l1b l1c)) / ((2 : Int) : Rat)) = 1 by rw [half_lo, CZ.out]] at h; exact h⟩
    refine Inv.oneL (i := 5) rfl (by kernel_rfl) (fun K hK => ?_)
    go_simp
    refine HC.out.mono ?_
    clear HC
    rintro e w11 ⟨rfl, hB⟩
    try go_wp2_with fail
    have B11 := Aside0.mk hB
    have T11 := Aside0.mk (T10.out.trans (hB.mono T10.out.size))
    clear hB
    have U11 := Aside0.mk (U10.out.trans (B11.out.mono U10.out.size))
    refine hK.out _ _ (HS10.out _ U11.out) (fun hHeld => ?_)
    clear hK K
    try simp only [Act.put, List.setIfInBounds_toArray, List.set_cons_zero, List.set_cons_succ]
    refine Inv.takeL (i := 7) (v := ?v12_7) rfl (by kernel_rfl) (by kernel_rfl) (by kernel_rfl) (fun _ _ _ h => h) (by rfl) ?hy12_7 (by assumption) ?rest12_7
    case hy12_7 => ((intro w hSw; (try dsimp only at hSw); go_simp) <;> with_reducible rfl)
    try simp only [Act.put, List.setIfInBounds_toArray, List.set_cons_zero, List.set_cons_succ]
    refine Inv.takeL (i := 8) (v := ?v12_8) rfl (by kernel_rfl) (by kernel_rfl) (by kernel_rfl) (fun _ _ _ h => h) (by rfl) ?hy12_8 (by assumption) ?rest12_8
    case hy12_8 => ((intro w hSw; (try dsimp only at hSw); go_simp) <;> with_reducible rfl)
    try simp only [Act.put, List.setIfInBounds_toArray, List.set_cons_zero, List.set_cons_succ]
    refine Inv.takeL (i := 9) (v := ?v12_9) rfl (by kernel_rfl) (by kernel_rfl) (by kernel_rfl) (fun _ _ _ h => h) (by rfl) ?hy12_9 (by assumption) ?rest12_9
    case hy12_9 => ((intro w hSw; (try dsimp only at hSw); go_simp) <;> with_reducible rfl)
    try simp only [Act.put, List.setIfInBounds_toArray, List.set_cons_zero, List.set_cons_succ]
    refine Inv.takeL (i := 10) (v := ?v12_10) rfl (by kernel_rfl) (by kernel_rfl) (by kernel_rfl) (fun _ _ _ h => h) (by rfl) ?hy12_10 (by assumption) ?rest12_10
    case hy12_10 => ((intro w hSw; (try dsimp only at hSw); go_simp) <;> with_reducible rfl)
    try simp only [Act.put, List.setIfInBounds_toArray, List.set_cons_zero, List.set_cons_succ]
    refine Inv.takeL (i := 11) (v := ?v12_11) rfl (by kernel_rfl) (by kernel_rfl) (by kernel_rfl) (fun _ _ _ h => h) (by rfl) ?hy12_11 (by assumption) ?rest12_11
    case hy12_11 => ((intro w hSw; (try dsimp only at hSw); go_simp) <;> with_reducible rfl)
    try simp only [Act.put, List.setIfInBounds_toArray, List.set_cons_zero, List.set_cons_succ]
    refine Inv.takeL (i := 13) (v := ?v12_13) rfl (by kernel_rfl) (by kernel_rfl) (by kernel_rfl) (fun _ _ _ h => h) (by rfl) ?hy12_13 (by assumption) ?rest12_13
    case hy12_13 => ((intro w hSw; (try dsimp only at hSw); go_simp) <;> with_reducible rfl)
    try simp only [Act.put, List.setIfInBounds_toArray, List.set_cons_zero, List.set_cons_succ]
    have HC : Aside0 (Calls Tryd.prog 74 #[(.agg #[(.bool b_h), (.slice A_h M_h c_h), (.slice B_h K_h d_h)]), (.agg #[.bool b_y, .slice A_y M_y c_y, .slice B_y K_y d_y])] w11 (IntPost w11 1)) := ⟨by have h := qcmpR (((H_h.out.below B9.out).below B10.out).below B11.out) (((((((H_y.out.below B5.out).below B6.out).below B7.out).below B8.out).below B9.out).below B10.out).below B11.out) (X_h.out.le (by decide)) (X_y.out.le (by decide)); rw [show cmpQ (((mkR g0 l0b l0c) + (mkR g1 l1b l1c)) / ((2 : Int) : Rat)) (mkR g1 l1b l1c) = 1 by rw [half_hi, CZ.out]] at h; exact h⟩
    refine Inv.oneL (i := 12) rfl (by kernel_rfl) (fun K hK => ?_)
    go_simp
    refine HC.out.mono ?_
    clear HC
    rintro e w12 ⟨rfl, hB⟩
    try go_wp2_with fail
    have B12 := Aside0.mk hB
    have T12 := Aside0.mk (T11.out.trans (hB.mono T11.out.size))
    clear hB
    have U12 := Aside0.mk (U11.out.trans (B12.out.mono U11.out.size))
    refine hK.out _ _ (HS10.out _ U12.out) (fun hHeld => ?_)
    clear hK K
    try simp only [Act.put, List.setIfInBounds_toArray, List.set_cons_zero, List.set_cons_succ]
    refine Inv.takeL (i := 14) (v := ?v12_14) rfl (by kernel_rfl) (by kernel_rfl) (by kernel_rfl) (fun _ _ _ h => h) (by rfl) ?hy12_14 (by assumption) ?rest12_14
    case hy12_14 => ((intro w hSw; (try dsimp only at hSw); go_simp) <;> with_reducible rfl)
    try simp only [Act.put, List.setIfInBounds_toArray, List.set_cons_zero, List.set_cons_succ]
    refine Inv.takeL (i := 15) (v := ?v12_15) rfl (by kernel_rfl) (by kernel_rfl) (by kernel_rfl) (fun _ _ _ h => h) (by rfl) ?hy12_15 (by assumption) ?rest12_15
    case hy12_15 => ((intro w hSw; (try dsimp only at hSw); go_simp) <;> with_reducible rfl)
    try simp only [Act.put, List.setIfInBounds_toArray, List.set_cons_zero, List.set_cons_succ]
    refine Inv.takeL (i := 16) (v := ?v12_16) rfl (by kernel_rfl) (by kernel_rfl) (by kernel_rfl) (fun _ _ _ h => h) (by rfl) ?hy12_16 (by assumption) ?rest12_16
    case hy12_16 => ((intro w hSw; (try dsimp only at hSw); go_simp) <;> with_reducible rfl)
    try simp only [Act.put, List.setIfInBounds_toArray, List.set_cons_zero, List.set_cons_succ]
    refine Inv.takeL (i := 17) (v := ?v12_17) rfl (by kernel_rfl) (by kernel_rfl) (by kernel_rfl) (fun _ _ _ h => h) (by rfl) ?hy12_17 (by assumption) ?rest12_17
    case hy12_17 => ((intro w hSw; (try dsimp only at hSw); go_simp) <;> with_reducible rfl)
    try simp only [Act.put, List.setIfInBounds_toArray, List.set_cons_zero, List.set_cons_succ]
    refine Inv.takeL (i := 18) (v := ?v12_18) rfl (by kernel_rfl) (by kernel_rfl) (by kernel_rfl) (fun _ _ _ h => h) (by rfl) ?hy12_18 (by assumption) ?rest12_18
    case hy12_18 => ((intro w hSw; (try dsimp only at hSw); go_simp) <;> with_reducible rfl)
    try simp only [Act.put, List.setIfInBounds_toArray, List.set_cons_zero, List.set_cons_succ]
    refine Inv.takeL (i := 20) (v := ?v12_20) rfl (by kernel_rfl) (by kernel_rfl) (by kernel_rfl) (fun _ _ _ h => h) (by rfl) ?hy12_20 (by assumption) ?rest12_20
    case hy12_20 => ((intro w hSw; (try dsimp only at hSw); go_simp) <;> with_reducible rfl)
    try simp only [Act.put, List.setIfInBounds_toArray, List.set_cons_zero, List.set_cons_succ]
    refine Inv.takeL (i := 21) (v := ?v12_21) rfl (by kernel_rfl) (by kernel_rfl) (by kernel_rfl) (fun _ _ _ h => h) (by rfl) ?hy12_21 (by assumption) ?rest12_21
    case hy12_21 => ((intro w hSw; (try dsimp only at hSw); go_simp) <;> with_reducible rfl)
    try simp only [Act.put, List.setIfInBounds_toArray, List.set_cons_zero, List.set_cons_succ]
    have HC : Aside0 (Calls Tryd.prog 69 #[(.agg #[(.bool b_h), (.slice A_h M_h c_h), (.slice B_h K_h d_h)]), (.agg #[.bool b_x, .slice A_x M_x c_x, .slice B_x K_x d_x])] w12 (RaPost w12 ((((mkR g0 l0b l0c) + (mkR g1 l1b l1c)) / ((2 : Int) : Rat)) - (mkR g0 l0b l0c)))) := ⟨qsubR ((((H_h.out.below B9.out).below B10.out).below B11.out).below B12.out) ((((((((H_x.out.below B5.out).below B6.out).below B7.out).below B8.out).below B9.out).below B10.out).below B11.out).below B12.out) (X_h.out.le (by decide)) (X_x.out.le (by decide))⟩
    refine Inv.oneL (i := 19) rfl (by kernel_rfl) (fun K hK => ?_)
    go_simp
    refine HC.out.mono ?_
    clear HC
    rintro e w13 ⟨v_d1, rfl, hN, hB⟩
    try go_wp2_with fail
    have B13 := Aside0.mk hB
    have T13 := Aside0.mk (T12.out.trans (hB.mono T12.out.size))
    have H_d1 := Aside0.mk hN
    have X_d1 := Aside0.mk (show Rb 12 ((((mkR g0 l0b l0c) + (mkR g1 l1b l1c)) / ((2 : Int) : Rat)) - (mkR g0 l0b l0c)) from sub_bnd X_h.out X_x.out (by decide))
    clear hN hB
    have U13 := Aside0.mk (U12.out.trans (B13.out.mono U12.out.size))
    refine hK.out _ _ (HS10.out _ U13.out) (fun hHeld => ?_)
    clear hK K
    try simp only [Act.put, List.setIfInBounds_toArray, List.set_cons_zero, List.set_cons_succ]
    have HC : Aside0 (Calls Tryd.prog 69 #[(.agg #[.bool b_y, .slice A_y M_y c_y, .slice B_y K_y d_y]), (.agg #[(.bool b_h), (.slice A_h M_h c_h), (.slice B_h K_h d_h)])] w13 (RaPost w13 ((mkR g1 l1b l1c) - (((mkR g0 l0b l0c) + (mkR g1 l1b l1c)) / ((2 : Int) : Rat))))) := ⟨qsubR (((((((((H_y.out.below B5.out).below B6.out).below B7.out).below B8.out).below B9.out).below B10.out).below B11.out).below B12.out).below B13.out) (((((H_h.out.below B9.out).below B10.out).below B11.out).below B12.out).below B13.out) (X_y.out.le (by decide)) (X_h.out.le (by decide))⟩
    refine Inv.oneL (i := 22) rfl (by kernel_rfl) (fun K hK => ?_)
    go_simp
    refine HC.out.mono ?_
    clear HC
    rintro e w14 ⟨v_d2, rfl, hN, hB⟩
    try go_wp2_with fail
    have B14 := Aside0.mk hB
    have T14 := Aside0.mk (T13.out.trans (hB.mono T13.out.size))
    have H_d2 := Aside0.mk hN
    have X_d2 := Aside0.mk (show Rb 12 ((mkR g1 l1b l1c) - (((mkR g0 l0b l0c) + (mkR g1 l1b l1c)) / ((2 : Int) : Rat))) from sub_bnd X_y.out X_h.out (by decide))
    clear hN hB
    have U14 := Aside0.mk (U13.out.trans (B14.out.mono U13.out.size))
    refine hK.out _ _ (HS10.out _ U14.out) (fun hHeld => ?_)
    clear hK K
    try simp only [Act.put, List.setIfInBounds_toArray, List.set_cons_zero, List.set_cons_succ]
    have HC : Aside0 (Calls Tryd.prog 58 #[v_d1, v_d2] w14 (TruePost w14)) := ⟨ssameR (H_d1.out.below B14.out) H_d2.out (X_d1.out.le (by decide)) (half_mid _ _)⟩
    refine Inv.oneL (i := 23) rfl (by kernel_rfl) (fun K hK => ?_)
    go_simp
    refine HC.out.mono ?_
    clear HC
    rintro e w15 ⟨rfl, hB⟩
    try go_wp2_with fail
    have B15 := Aside0.mk hB
    have T15 := Aside0.mk (T14.out.trans (hB.mono T14.out.size))
    clear hB
    have U15 := Aside0.mk (U14.out.trans (B15.out.mono U14.out.size))
    refine hK.out _ _ (HS10.out _ U15.out) (fun hHeld => ?_)
    clear hK K
    try simp only [Act.put, List.setIfInBounds_toArray, List.set_cons_zero, List.set_cons_succ]
    refine Inv.takeL (i := 24) (v := ?v12_24) rfl (by kernel_rfl) (by kernel_rfl) (by kernel_rfl) (fun _ _ _ h => h) (by rfl) ?hy12_24 (by assumption) ?rest12_24
    case hy12_24 => ((intro w hSw; (try dsimp only at hSw); go_simp) <;> with_reducible rfl)
    try simp only [Act.put, List.setIfInBounds_toArray, List.set_cons_zero, List.set_cons_succ]
    refine Inv.takeL (i := 25) (v := ?v12_25) rfl (by kernel_rfl) (by kernel_rfl) (by kernel_rfl) (fun _ _ _ h => h) (by rfl) ?hy12_25 (by assumption) ?rest12_25
    case hy12_25 => ((intro w hSw; (try dsimp only at hSw); go_simp) <;> with_reducible rfl)
    try simp only [Act.put, List.setIfInBounds_toArray, List.set_cons_zero, List.set_cons_succ]
    refine wpAnyH_done (by kernel_rfl) ?_ _
    go_wp2_with fail
    go_ret
    exact ⟨rfl, T15.out⟩
end Go.Proofs.YtklhpobphloehaaDoor.ratHalves
