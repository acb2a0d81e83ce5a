/- The law RatOrder: the walk through its calls, by their contracts; the row and its card. -/
import Derived.Test.YtklhpobphloehaaDoorS4
import Derived.Test.YtklhpobphloehaaDoorS6
set_option linter.unusedVariables false
namespace Go.Proofs.YtklhpobphloehaaDoor.ratOrder
open Go.RowKit
open Go.Proofs.YtklhpobphloehaaDoor.G Go.Proofs.YtklhpobphloehaaDoor.Nn Go.Proofs.YtklhpobphloehaaDoorW.PrintWords Go.Proofs.YtklhpobphloehaaDoorW.PrintLast

theorem bx (W : World) (g : Nat) (a b c : Value) (t : TypeId) (hg : W.heap.size = g) : Blk (W.alloc (.cells #[a, b, c] t)) g a b c := by
  subst hg
  exact Blk_alloc W a b c t
theorem szeroR (w : World) : Calls Tryd.prog 71 #[] w (RaPost w (0 : Rat)) := (szero_w w).mono fun e w' ⟨v, he, hR, hB⟩ => ⟨v, he, hR, hB⟩
theorem rb_zero : Rb 1 (0 : Rat) := ⟨by decide, by decide⟩
theorem rb_int {n : Int} (h : n.natAbs < 4294967296) : Rb 1 ((n : Int) : Rat) := ⟨by show n.natAbs < pw 1; exact h, by show 1 < pw 1; decide⟩
theorem ssameR {w : World} {v0 v1 : Value} {x y : Rat} (hx : Ra w v0 x) (hy : Ra w v1 y) (bx : Rb 400 x) (h : x = y) : Calls Tryd.prog 58 #[v0, v1] w (TruePost w) := by
  subst h
  exact ssame_w hx hy (pw_lt1000 bx.1 (by omega)) (pw_lt1000 bx.2 (by omega))
theorem cmp_swap (x y : Rat) : cmpQ y x = -cmpQ x y := by
  unfold cmpQ
  by_cases h1 : x < y
  · have h2 : ¬ y < x := fun h => Rat.not_le.2 h1 (Rat.le_of_lt h)
    have h3 : y ≠ x := (Rat.ne_of_lt h1).symm
    rw [if_neg h2, if_neg h3, if_pos h1]; rfl
  · by_cases h2 : x = y
    · subst h2; rw [if_neg h1, if_pos rfl]; rfl
    · have h3 : y < x := by
        rcases Rat.le_total (a := x) (b := y) with h | h
        · exact absurd (Rat.lt_of_le_of_ne h h2) h1
        · exact Rat.lt_of_le_of_ne h (Ne.symm h2)
      rw [if_pos h3, if_neg h1, if_neg h2]
theorem cmp_iff {x y u v : Rat} (h1 : u < v ↔ x < y) (h2 : u = v ↔ x = y) : cmpQ u v = cmpQ x y := by
  unfold cmpQ
  simp only [h1, h2]
theorem cmp_add (x y z : Rat) : cmpQ (x + z) (y + z) = cmpQ x y := cmp_iff Rat.add_lt_add_right ⟨Rat.add_right_cancel z, fun h => by rw [h]⟩
theorem cmp_neg (x y : Rat) : cmpQ (-x) (-y) = -cmpQ x y := by
  rw [← cmp_swap]
  exact cmp_iff Rat.neg_lt_neg_iff ⟨fun h => by rw [← Rat.neg_neg x, h, Rat.neg_neg], fun h => by rw [h]⟩
theorem cmp_mul {x y p : Rat} (hp : 0 < p) : cmpQ (x * p) (y * p) = cmpQ x y := by
  refine cmp_iff (Rat.mul_lt_mul_right hp) ⟨fun h => ?_, fun h => by rw [h]⟩
  have hne : p ≠ 0 := (Rat.ne_of_lt hp).symm
  rw [← Rat.mul_div_cancel (a := x) hne, h, Rat.mul_div_cancel hne]
theorem cmp_zero {x y : Rat} : (cmpQ x y == 0) = decide (x = y) := by
  unfold cmpQ
  by_cases h : x < y
  · simp [h, Rat.ne_of_lt h]
  · by_cases h2 : x = y
    · simp [h2, Rat.lt_irrefl]
    · simp [h, h2]
theorem abs_pos {z : Rat} (h : z ≠ 0) : 0 < Rat.abs z := Rat.abs_pos_iff.2 h
theorem cmp_le {x y : Rat} (h : x ≤ y) : decide (cmpQ x y ≤ 0) = true := by
  rw [decide_eq_true_eq]
  unfold cmpQ
  by_cases h1 : x < y
  · rw [if_pos h1]; decide
  · by_cases h2 : x = y
    · rw [if_neg h1, if_pos h2]; decide
    · exact absurd (Rat.lt_of_le_of_ne h h2) h1
theorem cmpQ_bd (x y : Rat) : -1 ≤ cmpQ x y ∧ cmpQ x y ≤ 1 := by
  unfold cmpQ
  split
  · decide
  · split <;> decide
theorem tri (x y : Rat) : Rat.abs (x + y) ≤ Rat.abs x + Rat.abs y := by
  unfold Rat.abs
  split <;> split <;> split <;> grind
theorem cmp3 (x y : Rat) : cmpQ x y = -1 ∨ cmpQ x y = 0 ∨ cmpQ x y = 1 := by
  unfold cmpQ
  split
  · exact .inl rfl
  · split
    · exact .inr (.inl rfl)
    · exact .inr (.inr rfl)
theorem cmp_eq0 {x y : Rat} (h : cmpQ x y = 0) : x = y := by
  have h2 := @cmp_zero x y
  rw [h] at h2
  simpa using h2
theorem cmp_ne0 {x y : Rat} {c : Int} (h : cmpQ x y = c) (hc : c ≠ 0) : ¬ x = y := by
  rintro rfl
  have h2 := @cmp_zero x x
  rw [h] at h2
  simp at h2
  exact hc h2
theorem cmp_pos {p : Rat} (h : 0 < p) : cmpQ p 0 = 1 := by
  unfold cmpQ
  rw [if_neg (fun h2 => Rat.not_le.2 h (Rat.le_of_lt h2)), if_neg (Rat.ne_of_lt h).symm]
theorem cmp_le2 {x y : Rat} (h : x ≤ y) : ∃ z, cmpQ x y = z ∧ decide (z ≤ 0) = true := ⟨_, rfl, cmp_le h⟩
set_option maxHeartbeats 8000000 in
set_option maxRecDepth 100000 in
theorem walk (g0 : Bool) (a0b : Option Addr) (c0b : Nat) (l0b : List Int) (a0c : Option Addr) (c0c : Nat) (l0c : List Int) (g1 : Bool) (a1b : Option Addr) (c1b : Nat) (l1b : List Int) (a1c : Option Addr) (c1c : Nat) (l1c : List Int) (g2 : Bool) (a2b : Option Addr) (c2b : Nat) (l2b : List Int) (a2c : Option Addr) (c2c : Nat) (l2c : List Int) (w : World) (hr0b : CU w a0b l0b.length l0b) (hc0b : l0b.length ≤ c0b) (hL0b : Lim l0b) (hr0c : CU w a0c l0c.length l0c) (hc0c : l0c.length ≤ c0c) (hL0c : Lim l0c) (hr1b : CU w a1b l1b.length l1b) (hc1b : l1b.length ≤ c1b) (hL1b : Lim l1b) (hr1c : CU w a1c l1c.length l1c) (hc1c : l1c.length ≤ c1c) (hL1c : Lim l1c) (hr2b : CU w a2b l2b.length l2b) (hc2b : l2b.length ≤ c2b) (hL2b : Lim l2b) (hr2c : CU w a2c l2c.length l2c) (hc2c : l2c.length ≤ c2c) (hL2c : Lim l2c) (HT : TabOk w) :
    Calls Tryd.prog 20 #[.agg #[.bool g0, .slice a0b l0b.length c0b, .slice a0c l0c.length c0c], .agg #[.bool g1, .slice a1b l1b.length c1b, .slice a1c l1c.length c1c], .agg #[.bool g2, .slice a2b l2b.length c2b, .slice a2c l2c.length c2c]] w (TruePost w) := by
  have C0b := Aside0.mk hr0b
  have S0b := Aside0.mk hc0b
  have L0b := Aside0.mk hL0b
  clear hr0b hc0b hL0b
  have C0c := Aside0.mk hr0c
  have S0c := Aside0.mk hc0c
  have L0c := Aside0.mk hL0c
  clear hr0c hc0c hL0c
  have C1b := Aside0.mk hr1b
  have S1b := Aside0.mk hc1b
  have L1b := Aside0.mk hL1b
  clear hr1b hc1b hL1b
  have C1c := Aside0.mk hr1c
  have S1c := Aside0.mk hc1c
  have L1c := Aside0.mk hL1c
  clear hr1c hc1c hL1c
  have C2b := Aside0.mk hr2b
  have S2b := Aside0.mk hc2b
  have L2b := Aside0.mk hL2b
  clear hr2b hc2b hL2b
  have C2c := Aside0.mk hr2c
  have S2c := Aside0.mk hc2c
  have L2c := Aside0.mk hL2c
  clear hr2c hc2c hL2c
  have TAB := Aside0.mk HT
  clear HT
  go_enter Tryd.func20, Tryd.ntmps20
  have B1 := Aside0.mk (below_alloc (Below.refl w.heap.size w) (.cells #[.bool g0, .slice a0b l0b.length c0b, .slice a0c l0c.length c0c] 56))
  have T1 := Aside0.mk (B1.out.mono (Nat.le_refl _))
  have H_bx0 := Aside0.mk (bx w (w.heap.size) (.bool g0) (.slice a0b l0b.length c0b) (.slice a0c l0c.length c0c) 56 (by simp))
  have B2 := Aside0.mk (below_alloc (Below.refl (w.alloc (.cells #[.bool g0, .slice a0b l0b.length c0b, .slice a0c l0c.length c0c] 56)).heap.size (w.alloc (.cells #[.bool g0, .slice a0b l0b.length c0b, .slice a0c l0c.length c0c] 56))) (.cells #[.bool g1, .slice a1b l1b.length c1b, .slice a1c l1c.length c1c] 56))
  have T2 := Aside0.mk (T1.out.trans (B2.out.mono T1.out.size))
  have H_bx1 := Aside0.mk (bx (w.alloc (.cells #[.bool g0, .slice a0b l0b.length c0b, .slice a0c l0c.length c0c] 56)) (w.heap.size + 1) (.bool g1) (.slice a1b l1b.length c1b) (.slice a1c l1c.length c1c) 56 (by simp))
  have B3 := Aside0.mk (below_alloc (Below.refl ((w.alloc (.cells #[.bool g0, .slice a0b l0b.length c0b, .slice a0c l0c.length c0c] 56)).alloc (.cells #[.bool g1, .slice a1b l1b.length c1b, .slice a1c l1c.length c1c] 56)).heap.size ((w.alloc (.cells #[.bool g0, .slice a0b l0b.length c0b, .slice a0c l0c.length c0c] 56)).alloc (.cells #[.bool g1, .slice a1b l1b.length c1b, .slice a1c l1c.length c1c] 56))) (.cells #[.bool g2, .slice a2b l2b.length c2b, .slice a2c l2c.length c2c] 56))
  have T3 := Aside0.mk (T2.out.trans (B3.out.mono T2.out.size))
  have H_bx2 := Aside0.mk (bx ((w.alloc (.cells #[.bool g0, .slice a0b l0b.length c0b, .slice a0c l0c.length c0c] 56)).alloc (.cells #[.bool g1, .slice a1b l1b.length c1b, .slice a1c l1c.length c1c] 56)) (w.heap.size + 2) (.bool g2) (.slice a2b l2b.length c2b) (.slice a2c l2c.length c2c) 56 (by simp))
  have HC : Aside0 (Calls Tryd.prog 55 #[] (((w.alloc (.cells #[.bool g0, .slice a0b l0b.length c0b, .slice a0c l0c.length c0c] 56)).alloc (.cells #[.bool g1, .slice a1b l1b.length c1b, .slice a1c l1c.length c1c] 56)).alloc (.cells #[.bool g2, .slice a2b l2b.length c2b, .slice a2c l2c.length c2c] 56)) (TruePost (((w.alloc (.cells #[.bool g0, .slice a0b l0b.length c0b, .slice a0c l0c.length c0c] 56)).alloc (.cells #[.bool g1, .slice a1b l1b.length c1b, .slice a1c l1c.length c1c] 56)).alloc (.cells #[.bool g2, .slice a2b l2b.length c2b, .slice a2c l2c.length c2c] 56)))) := ⟨known2_w (((w.alloc (.cells #[.bool g0, .slice a0b l0b.length c0b, .slice a0c l0c.length c0c] 56)).alloc (.cells #[.bool g1, .slice a1b l1b.length c1b, .slice a1c l1c.length c1c] 56)).alloc (.cells #[.bool g2, .slice a2b l2b.length c2b, .slice a2c l2c.length c2c] 56)) (((TAB.out.below B1.out).below B2.out).below B3.out)⟩
  go_wp2_with fail
  refine HC.out.mono ?_
  clear HC
  rintro e w4 ⟨rfl, hB⟩
  have B4 := Aside0.mk hB
  have T4 := Aside0.mk (T3.out.trans (hB.mono T3.out.size))
  clear hB
  have HSB := Aside0.mk (fun (W : World) (hW : Below w4.heap.size w4 W) => And.intro ((((H_bx0.out.below B2.out).below B3.out).below B4.out).below hW) (And.intro (((H_bx1.out.below B3.out).below B4.out).below hW) ((H_bx2.out.below B4.out).below hW)))
  have HM0 := Aside0.mk (fun (W : World) (hW : Below w4.heap.size w4 W) => show Calls Tryd.prog 67 #[.agg #[.bool g0, .slice a0b l0b.length c0b, .slice a0c l0c.length c0c]] W (RaPost W (mkR g0 l0b l0c)) from lmake_w g0 (CU_below C0b.out (T4.out.trans (hW.mono T4.out.size))) S0b.out L0b.out (CU_below C0c.out (T4.out.trans (hW.mono T4.out.size))) S0c.out L0c.out)
  have HM1 := Aside0.mk (fun (W : World) (hW : Below w4.heap.size w4 W) => show Calls Tryd.prog 67 #[.agg #[.bool g1, .slice a1b l1b.length c1b, .slice a1c l1c.length c1c]] W (RaPost W (mkR g1 l1b l1c)) from lmake_w g1 (CU_below C1b.out (T4.out.trans (hW.mono T4.out.size))) S1b.out L1b.out (CU_below C1c.out (T4.out.trans (hW.mono T4.out.size))) S1c.out L1c.out)
  have HM2 := Aside0.mk (fun (W : World) (hW : Below w4.heap.size w4 W) => show Calls Tryd.prog 67 #[.agg #[.bool g2, .slice a2b l2b.length c2b, .slice a2c l2c.length c2c]] W (RaPost W (mkR g2 l2b l2c)) from lmake_w g2 (CU_below C2b.out (T4.out.trans (hW.mono T4.out.size))) S2b.out L2b.out (CU_below C2c.out (T4.out.trans (hW.mono T4.out.size))) S2c.out L2c.out)
  go_wp2_with fail
  refine Inv.wp_region_inv 12 (fun a0 listed a W => ∃ (b0 b1 b2 b3 b4 b5 b6 b7 b8 b9 b10 b11 : Bool) (sl0 sl1 sl2 sc0 sc1 sc2 sa0 sa1 sa2 : Value) (p0 p1 p2 : Nat), listed = #[b0, b1, b2, b3, b4, b5, b6, b7, b8, b9, b10, b11] ∧ a = (((((((((a0.put (some 14) sl0).put (some 15) sc0).put (some 7) sa0).put (some 16) sl1).put (some 17) sc1).put (some 8) sa1).put (some 18) sl2).put (some 19) sc2).put (some 9) sa2) ∧ Aside0 (Below w4.heap.size w4 W) ∧ Aside0 (b0 = true → sl0 = .agg #[.bool g0, .slice a0b l0b.length c0b, .slice a0c l0c.length c0c]) ∧ Aside0 (b2 = true → sl1 = .agg #[.bool g1, .slice a1b l1b.length c1b, .slice a1c l1c.length c1c]) ∧ Aside0 (b4 = true → sl2 = .agg #[.bool g2, .slice a2b l2b.length c2b, .slice a2c l2c.length c2c]) ∧ Aside0 (J w4 (mkR g0 l0b l0c) b1 b6 b9 sc0 sa0 p0 W) ∧ Aside0 (J w4 (mkR g1 l1b l1c) b3 b7 b10 sc1 sa1 p1 W) ∧ Aside0 (J w4 (mkR g2 l2b l2c) b5 b8 b11 sc2 sa2 p2 W) ∧ Aside0 (b6 = true → b7 = true → p1 ≠ p0) ∧ Aside0 (b6 = true → b8 = true → p2 ≠ p0) ∧ Aside0 (b7 = true → b8 = true → p2 ≠ p1)) (by kernel_rfl) (by kernel_rfl) (by rfl) ?st4 ?fin4 ?step4
  case st4 => exact ⟨false, false, false, false, false, false, false, false, false, false, false, false, undef, undef, undef, undef, undef, undef, undef, undef, undef, 0, 0, 0, rfl, (by simp only [Act.put, List.setIfInBounds_toArray, List.set_cons_zero, List.set_cons_succ]), ⟨Below.drew (Below.refl _ _)⟩, ⟨fun e => nomatch e⟩, ⟨fun e => nomatch e⟩, ⟨fun e => nomatch e⟩, ⟨J.start _ _ _ _ _ _⟩, ⟨J.start _ _ _ _ _ _⟩, ⟨J.start _ _ _ _ _ _⟩, ⟨fun e => nomatch e⟩, ⟨fun e => nomatch e⟩, ⟨fun e => nomatch e⟩⟩
  case step4 =>
    refine Inv.lt_cases ?_ (Inv.lt_cases ?_ (Inv.lt_cases ?_ (Inv.lt_cases ?_ (Inv.lt_cases ?_ (Inv.lt_cases ?_ (Inv.lt_cases ?_ (Inv.lt_cases ?_ (Inv.lt_cases ?_ (Inv.lt_cases ?_ (Inv.lt_cases ?_ (Inv.lt_cases ?_ (Inv.lt_none))))))))))))
    · intro listed a W hI hun hw o ho K hK
      obtain ⟨b0, b1, b2, b3, b4, b5, b6, b7, b8, b9, b10, b11, sl0, sl1, sl2, sc0, sc1, sc2, sa0, sa1, sa2, p0, p1, p2, rfl, rfl, HB, HL0, HL1, HL2, HJ0, HJ1, HJ2, HD01, HD02, HD12⟩ := hI
      obtain rfl : b11 = false := hun
      obtain rfl : b5 = true := hw 5 (by kernel_rfl)
      obtain rfl : b8 = true := hw 8 (by kernel_rfl)
      obtain rfl := Option.some.inj ho
      clear ho hw
      simp only [Act.put, List.setIfInBounds_toArray, List.set_cons_zero, List.set_cons_succ]
      obtain ⟨rfl, hg, hE⟩ := HJ2.out.2.1 rfl
      obtain ⟨bq, A, L, c, A2, L2, c2, rfl⟩ := HJ2.out.val
      have HE := Aside0.mk hE
      obtain ⟨x, A3, L3, c3, A4, L4, c4, ⟨hc0, hc1, hc2⟩, hf0, hf1, hf2⟩ := hE
      have HG := Aside0.mk hg
      clear hg
      go_simp
      exact hK.out _ _ ⟨b0, b1, b2, b3, b4, true, b6, b7, true, b9, b10, true, sl0, sl1, sl2, sc0, sc1, (.agg #[.bool bq, .slice A L c, .slice A2 L2 c2]), sa0, sa1, (.pointer (some ⟨p2, 0, none⟩)), p0, p1, p2, rfl, (by simp only [Act.put, List.setIfInBounds_toArray, List.set_cons_zero, List.set_cons_succ]), ⟨below_put3 HB.out HG.out _ _ _⟩, HL0, HL1, HL2, ⟨HJ0.out.far HE.out (fun e => HD02.out e rfl) _ _ _⟩, ⟨HJ1.out.far HE.out (fun e => HD12.out e rfl) _ _ _⟩, ⟨HJ2.out.store⟩, HD01, HD02, HD12⟩
    · intro listed a W hI hun hw o ho K hK
      obtain ⟨b0, b1, b2, b3, b4, b5, b6, b7, b8, b9, b10, b11, sl0, sl1, sl2, sc0, sc1, sc2, sa0, sa1, sa2, p0, p1, p2, rfl, rfl, HB, HL0, HL1, HL2, HJ0, HJ1, HJ2, HD01, HD02, HD12⟩ := hI
      obtain rfl : b10 = false := hun
      obtain rfl : b3 = true := hw 3 (by kernel_rfl)
      obtain rfl : b7 = true := hw 7 (by kernel_rfl)
      obtain rfl := Option.some.inj ho
      clear ho hw
      simp only [Act.put, List.setIfInBounds_toArray, List.set_cons_zero, List.set_cons_succ]
      obtain ⟨rfl, hg, hE⟩ := HJ1.out.2.1 rfl
      obtain ⟨bq, A, L, c, A2, L2, c2, rfl⟩ := HJ1.out.val
      have HE := Aside0.mk hE
      obtain ⟨x, A3, L3, c3, A4, L4, c4, ⟨hc0, hc1, hc2⟩, hf0, hf1, hf2⟩ := hE
      have HG := Aside0.mk hg
      clear hg
      go_simp
      exact hK.out _ _ ⟨b0, b1, b2, true, b4, b5, b6, true, b8, b9, true, b11, sl0, sl1, sl2, sc0, (.agg #[.bool bq, .slice A L c, .slice A2 L2 c2]), sc2, sa0, (.pointer (some ⟨p1, 0, none⟩)), sa2, p0, p1, p2, rfl, (by simp only [Act.put, List.setIfInBounds_toArray, List.set_cons_zero, List.set_cons_succ]), ⟨below_put3 HB.out HG.out _ _ _⟩, HL0, HL1, HL2, ⟨HJ0.out.far HE.out (fun e => HD01.out e rfl) _ _ _⟩, ⟨HJ1.out.store⟩, ⟨HJ2.out.far HE.out (fun e => (HD12.out rfl e).symm) _ _ _⟩, HD01, HD02, HD12⟩
    · intro listed a W hI hun hw o ho K hK
      obtain ⟨b0, b1, b2, b3, b4, b5, b6, b7, b8, b9, b10, b11, sl0, sl1, sl2, sc0, sc1, sc2, sa0, sa1, sa2, p0, p1, p2, rfl, rfl, HB, HL0, HL1, HL2, HJ0, HJ1, HJ2, HD01, HD02, HD12⟩ := hI
      obtain rfl : b9 = false := hun
      obtain rfl : b1 = true := hw 1 (by kernel_rfl)
      obtain rfl : b6 = true := hw 6 (by kernel_rfl)
      obtain rfl := Option.some.inj ho
      clear ho hw
      simp only [Act.put, List.setIfInBounds_toArray, List.set_cons_zero, List.set_cons_succ]
      obtain ⟨rfl, hg, hE⟩ := HJ0.out.2.1 rfl
      obtain ⟨bq, A, L, c, A2, L2, c2, rfl⟩ := HJ0.out.val
      have HE := Aside0.mk hE
      obtain ⟨x, A3, L3, c3, A4, L4, c4, ⟨hc0, hc1, hc2⟩, hf0, hf1, hf2⟩ := hE
      have HG := Aside0.mk hg
      clear hg
      go_simp
      exact hK.out _ _ ⟨b0, true, b2, b3, b4, b5, true, b7, b8, true, b10, b11, sl0, sl1, sl2, (.agg #[.bool bq, .slice A L c, .slice A2 L2 c2]), sc1, sc2, (.pointer (some ⟨p0, 0, none⟩)), sa1, sa2, p0, p1, p2, rfl, (by simp only [Act.put, List.setIfInBounds_toArray, List.set_cons_zero, List.set_cons_succ]), ⟨below_put3 HB.out HG.out _ _ _⟩, HL0, HL1, HL2, ⟨HJ0.out.store⟩, ⟨HJ1.out.far HE.out (fun e => (HD01.out rfl e).symm) _ _ _⟩, ⟨HJ2.out.far HE.out (fun e => (HD02.out rfl e).symm) _ _ _⟩, HD01, HD02, HD12⟩
    · intro listed a W hI hun hw o ho K hK
      obtain ⟨b0, b1, b2, b3, b4, b5, b6, b7, b8, b9, b10, b11, sl0, sl1, sl2, sc0, sc1, sc2, sa0, sa1, sa2, p0, p1, p2, rfl, rfl, HB, HL0, HL1, HL2, HJ0, HJ1, HJ2, HD01, HD02, HD12⟩ := hI
      obtain rfl : b8 = false := hun
      obtain rfl := Option.some.inj ho
      clear ho hw
      simp only [Act.put, List.setIfInBounds_toArray, List.set_cons_zero, List.set_cons_succ]
      go_simp
      exact hK.out _ _ ⟨b0, b1, b2, b3, b4, b5, b6, b7, true, b9, b10, b11, sl0, sl1, sl2, sc0, sc1, sc2, sa0, sa1, (.pointer (some ⟨W.heap.size, 0, none⟩)), p0, p1, W.heap.size, rfl, (by simp only [Act.put, List.setIfInBounds_toArray, List.set_cons_zero, List.set_cons_succ]), ⟨below_alloc HB.out _⟩, HL0, HL1, HL2, ⟨HJ0.out.below (below_alloc (Below.refl _ _) _)⟩, ⟨HJ1.out.below (below_alloc (Below.refl _ _) _)⟩, ⟨HJ2.out.alloc HB.out.size⟩, HD01, ⟨fun e _ => Nat.ne_of_gt (by subst e; exact HJ0.out.lt)⟩, ⟨fun e _ => Nat.ne_of_gt (by subst e; exact HJ1.out.lt)⟩⟩
    · intro listed a W hI hun hw o ho K hK
      obtain ⟨b0, b1, b2, b3, b4, b5, b6, b7, b8, b9, b10, b11, sl0, sl1, sl2, sc0, sc1, sc2, sa0, sa1, sa2, p0, p1, p2, rfl, rfl, HB, HL0, HL1, HL2, HJ0, HJ1, HJ2, HD01, HD02, HD12⟩ := hI
      obtain rfl : b7 = false := hun
      obtain rfl := Option.some.inj ho
      clear ho hw
      simp only [Act.put, List.setIfInBounds_toArray, List.set_cons_zero, List.set_cons_succ]
      go_simp
      exact hK.out _ _ ⟨b0, b1, b2, b3, b4, b5, b6, true, b8, b9, b10, b11, sl0, sl1, sl2, sc0, sc1, sc2, sa0, (.pointer (some ⟨W.heap.size, 0, none⟩)), sa2, p0, W.heap.size, p2, rfl, (by simp only [Act.put, List.setIfInBounds_toArray, List.set_cons_zero, List.set_cons_succ]), ⟨below_alloc HB.out _⟩, HL0, HL1, HL2, ⟨HJ0.out.below (below_alloc (Below.refl _ _) _)⟩, ⟨HJ1.out.alloc HB.out.size⟩, ⟨HJ2.out.below (below_alloc (Below.refl _ _) _)⟩, ⟨fun e _ => Nat.ne_of_gt (by subst e; exact HJ0.out.lt)⟩, HD02, ⟨fun _ e => Nat.ne_of_lt (by subst e; exact HJ2.out.lt)⟩⟩
    · intro listed a W hI hun hw o ho K hK
      obtain ⟨b0, b1, b2, b3, b4, b5, b6, b7, b8, b9, b10, b11, sl0, sl1, sl2, sc0, sc1, sc2, sa0, sa1, sa2, p0, p1, p2, rfl, rfl, HB, HL0, HL1, HL2, HJ0, HJ1, HJ2, HD01, HD02, HD12⟩ := hI
      obtain rfl : b6 = false := hun
      obtain rfl := Option.some.inj ho
      clear ho hw
      simp only [Act.put, List.setIfInBounds_toArray, List.set_cons_zero, List.set_cons_succ]
      go_simp
      exact hK.out _ _ ⟨b0, b1, b2, b3, b4, b5, true, b7, b8, b9, b10, b11, sl0, sl1, sl2, sc0, sc1, sc2, (.pointer (some ⟨W.heap.size, 0, none⟩)), sa1, sa2, W.heap.size, p1, p2, rfl, (by simp only [Act.put, List.setIfInBounds_toArray, List.set_cons_zero, List.set_cons_succ]), ⟨below_alloc HB.out _⟩, HL0, HL1, HL2, ⟨HJ0.out.alloc HB.out.size⟩, ⟨HJ1.out.below (below_alloc (Below.refl _ _) _)⟩, ⟨HJ2.out.below (below_alloc (Below.refl _ _) _)⟩, ⟨fun _ e => Nat.ne_of_lt (by subst e; exact HJ1.out.lt)⟩, ⟨fun _ e => Nat.ne_of_lt (by subst e; exact HJ2.out.lt)⟩, HD12⟩
    · intro listed a W hI hun hw o ho K hK
      obtain ⟨b0, b1, b2, b3, b4, b5, b6, b7, b8, b9, b10, b11, sl0, sl1, sl2, sc0, sc1, sc2, sa0, sa1, sa2, p0, p1, p2, rfl, rfl, HB, HL0, HL1, HL2, HJ0, HJ1, HJ2, HD01, HD02, HD12⟩ := hI
      obtain rfl : b5 = false := hun
      obtain rfl : b4 = true := hw 4 (by kernel_rfl)
      obtain rfl : b3 = true := hw 3 (by kernel_rfl)
      obtain rfl := Option.some.inj ho
      clear ho hw
      simp only [Act.put, List.setIfInBounds_toArray, List.set_cons_zero, List.set_cons_succ]
      obtain rfl := HL2.out rfl
      have HC := HM2.out _ HB.out
      go_simp
      refine HC.mono ?_
      rintro e W1 ⟨v, rfl, hN, hB⟩
      try go_simp
      exact hK.out _ _ ⟨b0, b1, b2, true, true, true, b6, b7, b8, b9, b10, b11, sl0, sl1, (.agg #[.bool g2, .slice a2b l2b.length c2b, .slice a2c l2c.length c2c]), sc0, sc1, v, sa0, sa1, sa2, p0, p1, p2, rfl, (by simp only [Act.put, List.setIfInBounds_toArray, List.set_cons_zero, List.set_cons_succ]), ⟨HB.out.trans (hB.mono HB.out.size)⟩, HL0, HL1, HL2, ⟨HJ0.out.below hB⟩, ⟨HJ1.out.below hB⟩, ⟨HJ2.out.call hB hN⟩, HD01, HD02, HD12⟩
    · intro listed a W hI hun hw o ho K hK
      obtain ⟨b0, b1, b2, b3, b4, b5, b6, b7, b8, b9, b10, b11, sl0, sl1, sl2, sc0, sc1, sc2, sa0, sa1, sa2, p0, p1, p2, rfl, rfl, HB, HL0, HL1, HL2, HJ0, HJ1, HJ2, HD01, HD02, HD12⟩ := hI
      obtain rfl : b4 = false := hun
      obtain rfl := Option.some.inj ho
      clear ho hw
      simp only [Act.put, List.setIfInBounds_toArray, List.set_cons_zero, List.set_cons_succ]
      obtain ⟨⟨⟨hx00, hx01, hx02⟩, hy00, hy01, hy02⟩, ⟨⟨hx10, hx11, hx12⟩, hy10, hy11, hy12⟩, ⟨⟨hx20, hx21, hx22⟩, hy20, hy21, hy22⟩⟩ := HSB.out _ HB.out
      go_simp
      exact hK.out _ _ ⟨b0, b1, b2, b3, true, b5, b6, b7, b8, b9, b10, b11, sl0, sl1, (.agg #[.bool g2, .slice a2b l2b.length c2b, .slice a2c l2c.length c2c]), sc0, sc1, sc2, sa0, sa1, sa2, p0, p1, p2, rfl, (by simp only [Act.put, List.setIfInBounds_toArray, List.set_cons_zero, List.set_cons_succ]), HB, HL0, HL1, ⟨fun _ => rfl⟩, HJ0, HJ1, HJ2, HD01, HD02, HD12⟩
    · intro listed a W hI hun hw o ho K hK
      obtain ⟨b0, b1, b2, b3, b4, b5, b6, b7, b8, b9, b10, b11, sl0, sl1, sl2, sc0, sc1, sc2, sa0, sa1, sa2, p0, p1, p2, rfl, rfl, HB, HL0, HL1, HL2, HJ0, HJ1, HJ2, HD01, HD02, HD12⟩ := hI
      obtain rfl : b3 = false := hun
      obtain rfl : b2 = true := hw 2 (by kernel_rfl)
      obtain rfl : b1 = true := hw 1 (by kernel_rfl)
      obtain rfl := Option.some.inj ho
      clear ho hw
      simp only [Act.put, List.setIfInBounds_toArray, List.set_cons_zero, List.set_cons_succ]
      obtain rfl := HL1.out rfl
      have HC := HM1.out _ HB.out
      go_simp
      refine HC.mono ?_
      rintro e W1 ⟨v, rfl, hN, hB⟩
      try go_simp
      exact hK.out _ _ ⟨b0, true, true, true, b4, b5, b6, b7, b8, b9, b10, b11, sl0, (.agg #[.bool g1, .slice a1b l1b.length c1b, .slice a1c l1c.length c1c]), sl2, sc0, v, sc2, sa0, sa1, sa2, p0, p1, p2, rfl, (by simp only [Act.put, List.setIfInBounds_toArray, List.set_cons_zero, List.set_cons_succ]), ⟨HB.out.trans (hB.mono HB.out.size)⟩, HL0, HL1, HL2, ⟨HJ0.out.below hB⟩, ⟨HJ1.out.call hB hN⟩, ⟨HJ2.out.below hB⟩, HD01, HD02, HD12⟩
    · intro listed a W hI hun hw o ho K hK
      obtain ⟨b0, b1, b2, b3, b4, b5, b6, b7, b8, b9, b10, b11, sl0, sl1, sl2, sc0, sc1, sc2, sa0, sa1, sa2, p0, p1, p2, rfl, rfl, HB, HL0, HL1, HL2, HJ0, HJ1, HJ2, HD01, HD02, HD12⟩ := hI
      obtain rfl : b2 = false := hun
      obtain rfl := Option.some.inj ho
      clear ho hw
      simp only [Act.put, List.setIfInBounds_toArray, List.set_cons_zero, List.set_cons_succ]
      obtain ⟨⟨⟨hx00, hx01, hx02⟩, hy00, hy01, hy02⟩, ⟨⟨hx10, hx11, hx12⟩, hy10, hy11, hy12⟩, ⟨⟨hx20, hx21, hx22⟩, hy20, hy21, hy22⟩⟩ := HSB.out _ HB.out
      go_simp
      exact hK.out _ _ ⟨b0, b1, true, b3, b4, b5, b6, b7, b8, b9, b10, b11, sl0, (.agg #[.bool g1, .slice a1b l1b.length c1b, .slice a1c l1c.length c1c]), sl2, sc0, sc1, sc2, sa0, sa1, sa2, p0, p1, p2, rfl, (by simp only [Act.put, List.setIfInBounds_toArray, List.set_cons_zero, List.set_cons_succ]), HB, HL0, ⟨fun _ => rfl⟩, HL2, HJ0, HJ1, HJ2, HD01, HD02, HD12⟩
    · intro listed a W hI hun hw o ho K hK
      obtain ⟨b0, b1, b2, b3, b4, b5, b6, b7, b8, b9, b10, b11, sl0, sl1, sl2, sc0, sc1, sc2, sa0, sa1, sa2, p0, p1, p2, rfl, rfl, HB, HL0, HL1, HL2, HJ0, HJ1, HJ2, HD01, HD02, HD12⟩ := hI
      obtain rfl : b1 = false := hun
      obtain rfl : b0 = true := hw 0 (by kernel_rfl)
      obtain rfl := Option.some.inj ho
      clear ho hw
      simp only [Act.put, List.setIfInBounds_toArray, List.set_cons_zero, List.set_cons_succ]
      obtain rfl := HL0.out rfl
      have HC := HM0.out _ HB.out
      go_simp
      refine HC.mono ?_
      rintro e W1 ⟨v, rfl, hN, hB⟩
      try go_simp
      exact hK.out _ _ ⟨true, true, b2, b3, b4, b5, b6, b7, b8, b9, b10, b11, (.agg #[.bool g0, .slice a0b l0b.length c0b, .slice a0c l0c.length c0c]), sl1, sl2, v, sc1, sc2, sa0, sa1, sa2, p0, p1, p2, rfl, (by simp only [Act.put, List.setIfInBounds_toArray, List.set_cons_zero, List.set_cons_succ]), ⟨HB.out.trans (hB.mono HB.out.size)⟩, HL0, HL1, HL2, ⟨HJ0.out.call hB hN⟩, ⟨HJ1.out.below hB⟩, ⟨HJ2.out.below hB⟩, HD01, HD02, HD12⟩
    · intro listed a W hI hun hw o ho K hK
      obtain ⟨b0, b1, b2, b3, b4, b5, b6, b7, b8, b9, b10, b11, sl0, sl1, sl2, sc0, sc1, sc2, sa0, sa1, sa2, p0, p1, p2, rfl, rfl, HB, HL0, HL1, HL2, HJ0, HJ1, HJ2, HD01, HD02, HD12⟩ := hI
      obtain rfl : b0 = false := hun
      obtain rfl := Option.some.inj ho
      clear ho hw
      simp only [Act.put, List.setIfInBounds_toArray, List.set_cons_zero, List.set_cons_succ]
      obtain ⟨⟨⟨hx00, hx01, hx02⟩, hy00, hy01, hy02⟩, ⟨⟨hx10, hx11, hx12⟩, hy10, hy11, hy12⟩, ⟨⟨hx20, hx21, hx22⟩, hy20, hy21, hy22⟩⟩ := HSB.out _ HB.out
      go_simp
      exact hK.out _ _ ⟨true, b1, b2, b3, b4, b5, b6, b7, b8, b9, b10, b11, (.agg #[.bool g0, .slice a0b l0b.length c0b, .slice a0c l0c.length c0c]), sl1, sl2, sc0, sc1, sc2, sa0, sa1, sa2, p0, p1, p2, rfl, (by simp only [Act.put, List.setIfInBounds_toArray, List.set_cons_zero, List.set_cons_succ]), HB, ⟨fun _ => rfl⟩, HL1, HL2, HJ0, HJ1, HJ2, HD01, HD02, HD12⟩
  rintro listed a1 w5 ⟨b0, b1, b2, b3, b4, b5, b6, b7, b8, b9, b10, b11, sl0, sl1, sl2, sc0, sc1, sc2, sa0, sa1, sa2, p0, p1, p2, rfl, rfl, HB, HL0, HL1, HL2, HJ0, HJ1, HJ2, HD01, HD02, HD12⟩ hall
  obtain rfl : b0 = true := hall 0 (by decide)
  obtain rfl : b1 = true := hall 1 (by decide)
  obtain rfl : b2 = true := hall 2 (by decide)
  obtain rfl : b3 = true := hall 3 (by decide)
  obtain rfl : b4 = true := hall 4 (by decide)
  obtain rfl : b5 = true := hall 5 (by decide)
  obtain rfl : b6 = true := hall 6 (by decide)
  obtain rfl : b7 = true := hall 7 (by decide)
  obtain rfl : b8 = true := hall 8 (by decide)
  obtain rfl : b9 = true := hall 9 (by decide)
  obtain rfl : b10 = true := hall 10 (by decide)
  obtain rfl : b11 = true := hall 11 (by decide)
  clear hall HSB HM0 HL0 HM1 HL1 HM2 HL2
  obtain ⟨rfl, hg0, b_x, A_x, M_x, c_x, B_x, K_x, d_x, rfl, hR0, hK0⟩ := HJ0.out.done
  clear HJ0
  obtain ⟨rfl, hg1, b_y, A_y, M_y, c_y, B_y, K_y, d_y, rfl, hR1, hK1⟩ := HJ1.out.done
  clear HJ1
  obtain ⟨rfl, hg2, b_z, A_z, M_z, c_z, B_z, K_z, d_z, rfl, hR2, hK2⟩ := HJ2.out.done
  clear HJ2
  have HD01 := Aside0.mk (HD01.out rfl rfl)
  have HD02 := Aside0.mk (HD02.out rfl rfl)
  have HD12 := Aside0.mk (HD12.out rfl rfl)
  have hB := HB.out
  clear HB
  have B5 := Aside0.mk hB
  have T5 := Aside0.mk (T4.out.trans (hB.mono T4.out.size))
  clear hB
  have H_x := Aside0.mk hR0
  have X_x := Aside0.mk (show Rb 3 (mkR g0 l0b l0c) from mkR_bnd g0 L0b.out L0c.out)
  have H_bx_x := Aside0.mk hK0
  clear hR0 hK0 hg0
  have H_y := Aside0.mk hR1
  have X_y := Aside0.mk (show Rb 3 (mkR g1 l1b l1c) from mkR_bnd g1 L1b.out L1c.out)
  have H_bx_y := Aside0.mk hK1
  clear hR1 hK1 hg1
  have H_z := Aside0.mk hR2
  have X_z := Aside0.mk (show Rb 3 (mkR g2 l2b l2c) from mkR_bnd g2 L2b.out L2c.out)
  have H_bx_z := Aside0.mk hK2
  clear hR2 hK2 hg2
  simp only [Act.put, List.setIfInBounds_toArray, List.set_cons_zero, List.set_cons_succ]
  rcases cmp3 (mkR g0 l0b l0c) (mkR g1 l1b l1c) with hc | hc | hc
  ·
    have CZ := Aside0.mk hc
    clear hc
    obtain ⟨⟨hu00, hu01, hu02⟩, _⟩ := H_bx_x.out
    obtain ⟨⟨hu10, hu11, hu12⟩, _⟩ := H_bx_y.out
    have HC : Aside0 (Calls Tryd.prog 74 #[(.agg #[.bool b_x, .slice A_x M_x c_x, .slice B_x K_x d_x]), (.agg #[.bool b_y, .slice A_y M_y c_y, .slice B_y K_y d_y])] w5 (IntPost w5 (-1))) := ⟨by have h := qcmpR H_x.out H_y.out (X_x.out.le (by decide)) (X_y.out.le (by decide)); rw [CZ.out] at h; exact h⟩
    go_wp2_with fail
    refine HC.out.mono ?_
    clear HC
    rintro e w6 ⟨rfl, hB⟩
    have B6 := Aside0.mk hB
    have T6 := Aside0.mk (T5.out.trans (hB.mono T5.out.size))
    clear hB
    clear hu00 hu01 hu02 hu10 hu11 hu12
    go_wp2_with fail
    have B7 := Aside0.mk (Below.drew (Below.refl w6.heap.size w6))
    have T7 := Aside0.mk (T6.out.trans (B7.out.mono T6.out.size))
    have HS7 := Aside0.mk (fun (W : World) (hW : Below (w6.drew).heap.size (w6.drew) W) => show W.cell? ⟨p0, 0, none⟩ = some (.bool b_x) ∧ W.cell? ⟨p0, 1, none⟩ = some (.slice A_x M_x c_x) ∧ W.cell? ⟨p0, 2, none⟩ = some (.slice B_x K_x d_x) ∧ W.cell? ⟨p1, 0, none⟩ = some (.bool b_y) ∧ W.cell? ⟨p1, 1, none⟩ = some (.slice A_y M_y c_y) ∧ W.cell? ⟨p1, 2, none⟩ = some (.slice B_y K_y d_y) ∧ W.cell? ⟨p2, 0, none⟩ = some (.bool b_z) ∧ W.cell? ⟨p2, 1, none⟩ = some (.slice A_z M_z c_z) ∧ W.cell? ⟨p2, 2, none⟩ = some (.slice B_z K_z d_z) from ⟨(((H_bx_x.out.below B6.out).below B7.out).below hW).1.1, (((H_bx_x.out.below B6.out).below B7.out).below hW).1.2.1, (((H_bx_x.out.below B6.out).below B7.out).below hW).1.2.2, (((H_bx_y.out.below B6.out).below B7.out).below hW).1.1, (((H_bx_y.out.below B6.out).below B7.out).below hW).1.2.1, (((H_bx_y.out.below B6.out).below B7.out).below hW).1.2.2, (((H_bx_z.out.below B6.out).below B7.out).below hW).1.1, (((H_bx_z.out.below B6.out).below B7.out).below hW).1.2.1, (((H_bx_z.out.below B6.out).below B7.out).below hW).1.2.2⟩)
    have U7 := Aside0.mk (Below.refl (w6.drew).heap.size (w6.drew))
    refine wp_region_held_drew (S := fun W => W.cell? ⟨p0, 0, none⟩ = some (.bool b_x) ∧ W.cell? ⟨p0, 1, none⟩ = some (.slice A_x M_x c_x) ∧ W.cell? ⟨p0, 2, none⟩ = some (.slice B_x K_x d_x) ∧ W.cell? ⟨p1, 0, none⟩ = some (.bool b_y) ∧ W.cell? ⟨p1, 1, none⟩ = some (.slice A_y M_y c_y) ∧ W.cell? ⟨p1, 2, none⟩ = some (.slice B_y K_y d_y) ∧ W.cell? ⟨p2, 0, none⟩ = some (.bool b_z) ∧ W.cell? ⟨p2, 1, none⟩ = some (.slice A_z M_z c_z) ∧ W.cell? ⟨p2, 2, none⟩ = some (.slice B_z K_z d_z)) (by kernel_rfl) (HS7.out _ (Below.refl _ _)) (fun hHeld => ?_)
    refine Inv.takeL (i := 0) (v := ?v7_0) rfl (by kernel_rfl) (by kernel_rfl) (by kernel_rfl) (fun _ _ _ h => h) (by rfl) ?hy7_0 (by assumption) ?rest7_0
    case hy7_0 => ((intro w hSw; (try dsimp only at hSw); go_simp) <;> with_reducible rfl)
    try simp only [Act.put, List.setIfInBounds_toArray, List.set_cons_zero, List.set_cons_succ]
    refine Inv.takeL (i := 1) (v := ?v7_1) rfl (by kernel_rfl) (by kernel_rfl) (by kernel_rfl) (fun _ _ _ h => h) (by rfl) ?hy7_1 (by assumption) ?rest7_1
    case hy7_1 => ((intro w hSw; (try dsimp only at hSw); go_simp) <;> with_reducible rfl)
    try simp only [Act.put, List.setIfInBounds_toArray, List.set_cons_zero, List.set_cons_succ]
    refine Inv.takeL (i := 3) (v := ?v7_3) rfl (by kernel_rfl) (by kernel_rfl) (by kernel_rfl) (fun _ _ _ h => h) (by rfl) ?hy7_3 (by assumption) ?rest7_3
    case hy7_3 => ((intro w hSw; (try dsimp only at hSw); go_simp) <;> with_reducible rfl)
    try simp only [Act.put, List.setIfInBounds_toArray, List.set_cons_zero, List.set_cons_succ]
    refine Inv.takeL (i := 4) (v := ?v7_4) rfl (by kernel_rfl) (by kernel_rfl) (by kernel_rfl) (fun _ _ _ h => h) (by rfl) ?hy7_4 (by assumption) ?rest7_4
    case hy7_4 => ((intro w hSw; (try dsimp only at hSw); go_simp) <;> with_reducible rfl)
    try simp only [Act.put, List.setIfInBounds_toArray, List.set_cons_zero, List.set_cons_succ]
    have HC : Aside0 (Calls Tryd.prog 74 #[(.agg #[.bool b_y, .slice A_y M_y c_y, .slice B_y K_y d_y]), (.agg #[.bool b_x, .slice A_x M_x c_x, .slice B_x K_x d_x])] (w6.drew) (IntPost (w6.drew) 1)) := ⟨by have h := qcmpR ((H_y.out.below B6.out).below B7.out) ((H_x.out.below B6.out).below B7.out) (X_y.out.le (by decide)) (X_x.out.le (by decide)); rw [show cmpQ (mkR g1 l1b l1c) (mkR g0 l0b l0c) = 1 by rw [cmp_swap, CZ.out] <;> rfl] at h; exact h⟩
    refine Inv.oneL (i := 2) rfl (by kernel_rfl) (fun K hK => ?_)
    go_simp
    refine HC.out.mono ?_
    clear HC
    rintro e w8 ⟨rfl, hB⟩
    try go_wp2_with fail
    have B8 := Aside0.mk hB
    have T8 := Aside0.mk (T7.out.trans (hB.mono T7.out.size))
    clear hB
    have U8 := Aside0.mk (U7.out.trans (B8.out.mono U7.out.size))
    refine hK.out _ _ (HS7.out _ U8.out) (fun hHeld => ?_)
    clear hK K
    try simp only [Act.put, List.setIfInBounds_toArray, List.set_cons_zero, List.set_cons_succ]
    refine Inv.takeL (i := 5) (v := ?v7_5) rfl (by kernel_rfl) (by kernel_rfl) (by kernel_rfl) (fun _ _ _ h => h) (by rfl) ?hy7_5 (by assumption) ?rest7_5
    case hy7_5 => ((intro w hSw; (try dsimp only at hSw); go_simp) <;> with_reducible rfl)
    try simp only [Act.put, List.setIfInBounds_toArray, List.set_cons_zero, List.set_cons_succ]
    refine Inv.takeL (i := 6) (v := ?v7_6) rfl (by kernel_rfl) (by kernel_rfl) (by kernel_rfl) (fun _ _ _ h => h) (by rfl) ?hy7_6 (by assumption) ?rest7_6
    case hy7_6 => ((intro w hSw; (try dsimp only at hSw); go_simp) <;> with_reducible rfl)
    try simp only [Act.put, List.setIfInBounds_toArray, List.set_cons_zero, List.set_cons_succ]
    refine Inv.takeL (i := 7) (v := ?v7_7) rfl (by kernel_rfl) (by kernel_rfl) (by kernel_rfl) (fun _ _ _ h => h) (by rfl) ?hy7_7 (by assumption) ?rest7_7
    case hy7_7 => ((intro w hSw; (try dsimp only at hSw); go_simp) <;> with_reducible rfl)
    try simp only [Act.put, List.setIfInBounds_toArray, List.set_cons_zero, List.set_cons_succ]
    refine Inv.takeL (i := 8) (v := ?v7_8) rfl (by kernel_rfl) (by kernel_rfl) (by kernel_rfl) (fun _ _ _ h => h) (by rfl) ?hy7_8 (by assumption) ?rest7_8
    case hy7_8 => ((intro w hSw; (try dsimp only at hSw); go_simp) <;> with_reducible rfl)
    try simp only [Act.put, List.setIfInBounds_toArray, List.set_cons_zero, List.set_cons_succ]
    refine Inv.takeL (i := 10) (v := ?v7_10) rfl (by kernel_rfl) (by kernel_rfl) (by kernel_rfl) (fun _ _ _ h => h) (by rfl) ?hy7_10 (by assumption) ?rest7_10
    case hy7_10 => ((intro w hSw; (try dsimp only at hSw); go_simp) <;> with_reducible rfl)
    try simp only [Act.put, List.setIfInBounds_toArray, List.set_cons_zero, List.set_cons_succ]
    refine Inv.takeL (i := 11) (v := ?v7_11) rfl (by kernel_rfl) (by kernel_rfl) (by kernel_rfl) (fun _ _ _ h => h) (by rfl) ?hy7_11 (by assumption) ?rest7_11
    case hy7_11 => ((intro w hSw; (try dsimp only at hSw); go_simp) <;> with_reducible rfl)
    try simp only [Act.put, List.setIfInBounds_toArray, List.set_cons_zero, List.set_cons_succ]
    refine Inv.takeL (i := 14) (v := ?v7_14) rfl (by kernel_rfl) (by kernel_rfl) (by kernel_rfl) (fun _ _ _ h => h) (by rfl) ?hy7_14 (by assumption) ?rest7_14
    case hy7_14 => ((intro w hSw; (try dsimp only at hSw); go_simp) <;> with_reducible rfl)
    try simp only [Act.put, List.setIfInBounds_toArray, List.set_cons_zero, List.set_cons_succ]
    have HC : Aside0 (Calls Tryd.prog 68 #[(.agg #[.bool b_x, .slice A_x M_x c_x, .slice B_x K_x d_x]), (.agg #[.bool b_z, .slice A_z M_z c_z, .slice B_z K_z d_z])] w8 (RaPost w8 ((mkR g0 l0b l0c) + (mkR g2 l2b l2c)))) := ⟨qaddR (((H_x.out.below B6.out).below B7.out).below B8.out) (((H_z.out.below B6.out).below B7.out).below B8.out) (X_x.out.le (by decide)) (X_z.out.le (by decide))⟩
    refine Inv.oneL (i := 9) rfl (by kernel_rfl) (fun K hK => ?_)
    go_simp
    refine HC.out.mono ?_
    clear HC
    rintro e w9 ⟨v_s1, rfl, hN, hB⟩
    try go_wp2_with fail
    have B9 := Aside0.mk hB
    have T9 := Aside0.mk (T8.out.trans (hB.mono T8.out.size))
    have H_s1 := Aside0.mk hN
    have X_s1 := Aside0.mk (show Rb 7 ((mkR g0 l0b l0c) + (mkR g2 l2b l2c)) from add_bnd X_x.out X_z.out (by decide))
    clear hN hB
    have U9 := Aside0.mk (U8.out.trans (B9.out.mono U8.out.size))
    refine hK.out _ _ (HS7.out _ U9.out) (fun hHeld => ?_)
    clear hK K
    try simp only [Act.put, List.setIfInBounds_toArray, List.set_cons_zero, List.set_cons_succ]
    have HC : Aside0 (Calls Tryd.prog 68 #[(.agg #[.bool b_y, .slice A_y M_y c_y, .slice B_y K_y d_y]), (.agg #[.bool b_z, .slice A_z M_z c_z, .slice B_z K_z d_z])] w9 (RaPost w9 ((mkR g1 l1b l1c) + (mkR g2 l2b l2c)))) := ⟨qaddR ((((H_y.out.below B6.out).below B7.out).below B8.out).below B9.out) ((((H_z.out.below B6.out).below B7.out).below B8.out).below B9.out) (X_y.out.le (by decide)) (X_z.out.le (by decide))⟩
    refine Inv.oneL (i := 12) rfl (by kernel_rfl) (fun K hK => ?_)
    go_simp
    refine HC.out.mono ?_
    clear HC
    rintro e w10 ⟨v_s2, rfl, hN, hB⟩
    try go_wp2_with fail
    have B10 := Aside0.mk hB
    have T10 := Aside0.mk (T9.out.trans (hB.mono T9.out.size))
    have H_s2 := Aside0.mk hN
    have X_s2 := Aside0.mk (show Rb 7 ((mkR g1 l1b l1c) + (mkR g2 l2b l2c)) from add_bnd X_y.out X_z.out (by decide))
    clear hN hB
    have U10 := Aside0.mk (U9.out.trans (B10.out.mono U9.out.size))
    refine hK.out _ _ (HS7.out _ U10.out) (fun hHeld => ?_)
    clear hK K
    try simp only [Act.put, List.setIfInBounds_toArray, List.set_cons_zero, List.set_cons_succ]
    have HC : Aside0 (Calls Tryd.prog 74 #[v_s1, v_s2] w10 (IntPost w10 (-1))) := ⟨by have h := qcmpR (H_s1.out.below B10.out) H_s2.out (X_s1.out.le (by decide)) (X_s2.out.le (by decide)); rw [show cmpQ ((mkR g0 l0b l0c) + (mkR g2 l2b l2c)) ((mkR g1 l1b l1c) + (mkR g2 l2b l2c)) = (-1) by rw [cmp_add, CZ.out]] at h; exact h⟩
    refine Inv.oneL (i := 13) rfl (by kernel_rfl) (fun K hK => ?_)
    go_simp
    refine HC.out.mono ?_
    clear HC
    rintro e w11 ⟨rfl, hB⟩
    try go_wp2_with fail
    have B11 := Aside0.mk hB
    have T11 := Aside0.mk (T10.out.trans (hB.mono T10.out.size))
    clear hB
    have U11 := Aside0.mk (U10.out.trans (B11.out.mono U10.out.size))
    refine hK.out _ _ (HS7.out _ U11.out) (fun hHeld => ?_)
    clear hK K
    try simp only [Act.put, List.setIfInBounds_toArray, List.set_cons_zero, List.set_cons_succ]
    refine Inv.takeL (i := 15) (v := ?v7_15) rfl (by kernel_rfl) (by kernel_rfl) (by kernel_rfl) (fun _ _ _ h => h) (by rfl) ?hy7_15 (by assumption) ?rest7_15
    case hy7_15 => ((intro w hSw; (try dsimp only at hSw); go_simp) <;> with_reducible rfl)
    try simp only [Act.put, List.setIfInBounds_toArray, List.set_cons_zero, List.set_cons_succ]
    refine Inv.takeL (i := 16) (v := ?v7_16) rfl (by kernel_rfl) (by kernel_rfl) (by kernel_rfl) (fun _ _ _ h => h) (by rfl) ?hy7_16 (by assumption) ?rest7_16
    case hy7_16 => ((intro w hSw; (try dsimp only at hSw); go_simp) <;> with_reducible rfl)
    try simp only [Act.put, List.setIfInBounds_toArray, List.set_cons_zero, List.set_cons_succ]
    refine Inv.takeL (i := 17) (v := ?v7_17) rfl (by kernel_rfl) (by kernel_rfl) (by kernel_rfl) (fun _ _ _ h => h) (by rfl) ?hy7_17 (by assumption) ?rest7_17
    case hy7_17 => ((intro w hSw; (try dsimp only at hSw); go_simp) <;> with_reducible rfl)
    try simp only [Act.put, List.setIfInBounds_toArray, List.set_cons_zero, List.set_cons_succ]
    refine Inv.takeL (i := 18) (v := ?v7_18) rfl (by kernel_rfl) (by kernel_rfl) (by kernel_rfl) (fun _ _ _ h => h) (by rfl) ?hy7_18 (by assumption) ?rest7_18
    case hy7_18 => ((intro w hSw; (try dsimp only at hSw); go_simp) <;> with_reducible rfl)
    try simp only [Act.put, List.setIfInBounds_toArray, List.set_cons_zero, List.set_cons_succ]
    refine Inv.takeL (i := 19) (v := ?v7_19) rfl (by kernel_rfl) (by kernel_rfl) (by kernel_rfl) (fun _ _ _ h => h) (by rfl) ?hy7_19 (by assumption) ?rest7_19
    case hy7_19 => ((intro w hSw; (try dsimp only at hSw); go_simp) <;> with_reducible rfl)
    try simp only [Act.put, List.setIfInBounds_toArray, List.set_cons_zero, List.set_cons_succ]
    refine Inv.takeL (i := 20) (v := ?v7_20) rfl (by kernel_rfl) (by kernel_rfl) (by kernel_rfl) (fun _ _ _ h => h) (by rfl) ?hy7_20 (by assumption) ?rest7_20
    case hy7_20 => ((intro w hSw; (try dsimp only at hSw); go_simp) <;> with_reducible rfl)
    try simp only [Act.put, List.setIfInBounds_toArray, List.set_cons_zero, List.set_cons_succ]
    refine Inv.takeL (i := 21) (v := ?v7_21) rfl (by kernel_rfl) (by kernel_rfl) (by kernel_rfl) (fun _ _ _ h => h) (by rfl) ?hy7_21 (by assumption) ?rest7_21
    case hy7_21 => ((intro w hSw; (try dsimp only at hSw); go_simp) <;> with_reducible rfl)
    try simp only [Act.put, List.setIfInBounds_toArray, List.set_cons_zero, List.set_cons_succ]
    have HC : Aside0 (Calls Tryd.prog 75 #[(.agg #[.bool b_x, .slice A_x M_x c_x, .slice B_x K_x d_x]), (.agg #[.bool b_y, .slice A_y M_y c_y, .slice B_y K_y d_y])] w11 (BoolPost w11 false)) := ⟨by have h := qsameR ((((((H_x.out.below B6.out).below B7.out).below B8.out).below B9.out).below B10.out).below B11.out) ((((((H_y.out.below B6.out).below B7.out).below B8.out).below B9.out).below B10.out).below B11.out) (X_x.out.le (by decide)) (X_y.out.le (by decide)); rw [decide_eq_false (cmp_ne0 CZ.out (by decide))] at h; exact h⟩
    refine Inv.oneL (i := 22) rfl (by kernel_rfl) (fun K hK => ?_)
    go_simp
    refine HC.out.mono ?_
    clear HC
    rintro e w12 ⟨rfl, hB⟩
    try go_wp2_with fail
    have B12 := Aside0.mk hB
    have T12 := Aside0.mk (T11.out.trans (hB.mono T11.out.size))
    clear hB
    have U12 := Aside0.mk (U11.out.trans (B12.out.mono U11.out.size))
    refine hK.out _ _ (HS7.out _ U12.out) (fun hHeld => ?_)
    clear hK K
    try simp only [Act.put, List.setIfInBounds_toArray, List.set_cons_zero, List.set_cons_succ]
    refine Inv.takeL (i := 23) (v := ?v7_23) rfl (by kernel_rfl) (by kernel_rfl) (by kernel_rfl) (fun _ _ _ h => h) (by rfl) ?hy7_23 (by assumption) ?rest7_23
    case hy7_23 => ((intro w hSw; (try dsimp only at hSw); go_simp) <;> with_reducible rfl)
    try simp only [Act.put, List.setIfInBounds_toArray, List.set_cons_zero, List.set_cons_succ]
    refine Inv.takeL (i := 24) (v := ?v7_24) rfl (by kernel_rfl) (by kernel_rfl) (by kernel_rfl) (fun _ _ _ h => h) (by rfl) ?hy7_24 (by assumption) ?rest7_24
    case hy7_24 => ((intro w hSw; (try dsimp only at hSw); go_simp) <;> with_reducible rfl)
    try simp only [Act.put, List.setIfInBounds_toArray, List.set_cons_zero, List.set_cons_succ]
    refine Inv.takeL (i := 25) (v := ?v7_25) rfl (by kernel_rfl) (by kernel_rfl) (by kernel_rfl) (fun _ _ _ h => h) (by rfl) ?hy7_25 (by assumption) ?rest7_25
    case hy7_25 => ((intro w hSw; (try dsimp only at hSw); go_simp) <;> with_reducible rfl)
    try simp only [Act.put, List.setIfInBounds_toArray, List.set_cons_zero, List.set_cons_succ]
    refine Inv.takeL (i := 26) (v := ?v7_26) rfl (by kernel_rfl) (by kernel_rfl) (by kernel_rfl) (fun _ _ _ h => h) (by rfl) ?hy7_26 (by assumption) ?rest7_26
    case hy7_26 => ((intro w hSw; (try dsimp only at hSw); go_simp) <;> with_reducible rfl)
    try simp only [Act.put, List.setIfInBounds_toArray, List.set_cons_zero, List.set_cons_succ]
    refine Inv.takeL (i := 28) (v := ?v7_28) rfl (by kernel_rfl) (by kernel_rfl) (by kernel_rfl) (fun _ _ _ h => h) (by rfl) ?hy7_28 (by assumption) ?rest7_28
    case hy7_28 => ((intro w hSw; (try dsimp only at hSw); go_simp) <;> with_reducible rfl)
    try simp only [Act.put, List.setIfInBounds_toArray, List.set_cons_zero, List.set_cons_succ]
    refine Inv.takeL (i := 31) (v := ?v7_31) rfl (by kernel_rfl) (by kernel_rfl) (by kernel_rfl) (fun _ _ _ h => h) (by rfl) ?hy7_31 (by assumption) ?rest7_31
    case hy7_31 => ((intro w hSw; (try dsimp only at hSw); go_simp) <;> with_reducible rfl)
    try simp only [Act.put, List.setIfInBounds_toArray, List.set_cons_zero, List.set_cons_succ]
    refine Inv.takeL (i := 32) (v := ?v7_32) rfl (by kernel_rfl) (by kernel_rfl) (by kernel_rfl) (fun _ _ _ h => h) (by rfl) ?hy7_32 (by assumption) ?rest7_32
    case hy7_32 => ((intro w hSw; (try dsimp only at hSw); go_simp) <;> with_reducible rfl)
    try simp only [Act.put, List.setIfInBounds_toArray, List.set_cons_zero, List.set_cons_succ]
    have HC : Aside0 (Calls Tryd.prog 70 #[(.agg #[.bool b_x, .slice A_x M_x c_x, .slice B_x K_x d_x])] w12 (RaPost w12 (-(mkR g0 l0b l0c)))) := ⟨qnegR (((((((H_x.out.below B6.out).below B7.out).below B8.out).below B9.out).below B10.out).below B11.out).below B12.out) (X_x.out.le (by decide))⟩
    refine Inv.oneL (i := 27) rfl (by kernel_rfl) (fun K hK => ?_)
    go_simp
    refine HC.out.mono ?_
    clear HC
    rintro e w13 ⟨v_n1, rfl, hN, hB⟩
    try go_wp2_with fail
    have B13 := Aside0.mk hB
    have T13 := Aside0.mk (T12.out.trans (hB.mono T12.out.size))
    have H_n1 := Aside0.mk hN
    have X_n1 := Aside0.mk (show Rb 3 (-(mkR g0 l0b l0c)) from neg_bnd X_x.out)
    clear hN hB
    have U13 := Aside0.mk (U12.out.trans (B13.out.mono U12.out.size))
    refine hK.out _ _ (HS7.out _ U13.out) (fun hHeld => ?_)
    clear hK K
    try simp only [Act.put, List.setIfInBounds_toArray, List.set_cons_zero, List.set_cons_succ]
    have HC : Aside0 (Calls Tryd.prog 70 #[(.agg #[.bool b_y, .slice A_y M_y c_y, .slice B_y K_y d_y])] w13 (RaPost w13 (-(mkR g1 l1b l1c)))) := ⟨qnegR ((((((((H_y.out.below B6.out).below B7.out).below B8.out).below B9.out).below B10.out).below B11.out).below B12.out).below B13.out) (X_y.out.le (by decide))⟩
    refine Inv.oneL (i := 29) rfl (by kernel_rfl) (fun K hK => ?_)
    go_simp
    refine HC.out.mono ?_
    clear HC
    rintro e w14 ⟨v_n2, rfl, hN, hB⟩
    try go_wp2_with fail
    have B14 := Aside0.mk hB
    have T14 := Aside0.mk (T13.out.trans (hB.mono T13.out.size))
    have H_n2 := Aside0.mk hN
    have X_n2 := Aside0.mk (show Rb 3 (-(mkR g1 l1b l1c)) from neg_bnd X_y.out)
    clear hN hB
    have U14 := Aside0.mk (U13.out.trans (B14.out.mono U13.out.size))
    refine hK.out _ _ (HS7.out _ U14.out) (fun hHeld => ?_)
    clear hK K
    try simp only [Act.put, List.setIfInBounds_toArray, List.set_cons_zero, List.set_cons_succ]
    have HC : Aside0 (Calls Tryd.prog 74 #[v_n1, v_n2] w14 (IntPost w14 1)) := ⟨by have h := qcmpR (H_n1.out.below B14.out) H_n2.out (X_n1.out.le (by decide)) (X_n2.out.le (by decide)); rw [show cmpQ (-(mkR g0 l0b l0c)) (-(mkR g1 l1b l1c)) = 1 by rw [cmp_neg, CZ.out] <;> rfl] at h; exact h⟩
    refine Inv.oneL (i := 30) rfl (by kernel_rfl) (fun K hK => ?_)
    go_simp
    refine HC.out.mono ?_
    clear HC
    rintro e w15 ⟨rfl, hB⟩
    try go_wp2_with fail
    have B15 := Aside0.mk hB
    have T15 := Aside0.mk (T14.out.trans (hB.mono T14.out.size))
    clear hB
    have U15 := Aside0.mk (U14.out.trans (B15.out.mono U14.out.size))
    refine hK.out _ _ (HS7.out _ U15.out) (fun hHeld => ?_)
    clear hK K
    try simp only [Act.put, List.setIfInBounds_toArray, List.set_cons_zero, List.set_cons_succ]
    refine Inv.takeL (i := 33) (v := ?v7_33) rfl (by kernel_rfl) (by kernel_rfl) (by kernel_rfl) (fun _ _ _ h => h) (by rfl) ?hy7_33 (by assumption) ?rest7_33
    case hy7_33 => ((intro w hSw; (try dsimp only at hSw); go_simp) <;> with_reducible rfl)
    try simp only [Act.put, List.setIfInBounds_toArray, List.set_cons_zero, List.set_cons_succ]
    refine Inv.takeL (i := 34) (v := ?v7_34) rfl (by kernel_rfl) (by kernel_rfl) (by kernel_rfl) (fun _ _ _ h => h) (by rfl) ?hy7_34 (by assumption) ?rest7_34
    case hy7_34 => ((intro w hSw; (try dsimp only at hSw); go_simp) <;> with_reducible rfl)
    try simp only [Act.put, List.setIfInBounds_toArray, List.set_cons_zero, List.set_cons_succ]
    refine wpAnyH_done (by kernel_rfl) ?_ _
    by_cases hz0 : (mkR g2 l2b l2c) = 0
    ·
      have Z0 := Aside0.mk hz0
      clear hz0
      obtain ⟨⟨hu00, hu01, hu02⟩, _⟩ := ((((((((((H_bx_z.out.below B6.out).below B7.out).below B8.out).below B9.out).below B10.out).below B11.out).below B12.out).below B13.out).below B14.out).below B15.out)
      have HC : Aside0 (Calls Tryd.prog 76 #[(.agg #[.bool b_z, .slice A_z M_z c_z, .slice B_z K_z d_z])] w15 (RaPost w15 (Rat.abs (mkR g2 l2b l2c)))) := ⟨qabsR ((((((((((H_z.out.below B6.out).below B7.out).below B8.out).below B9.out).below B10.out).below B11.out).below B12.out).below B13.out).below B14.out).below B15.out) (X_z.out.le (by decide))⟩
      go_wp2_with fail
      refine HC.out.mono ?_
      clear HC
      rintro e w16 ⟨v_p, rfl, ⟨A_p, M_p, c_p, B_p, K_p, d_p, rfl, hNA, hNB⟩, hB⟩
      have B16 := Aside0.mk hB
      have T16 := Aside0.mk (T15.out.trans (hB.mono T15.out.size))
      obtain ⟨b_p, hb_p⟩ : ∃ b, b = decide ((Rat.abs (mkR g2 l2b l2c)).num < 0) := ⟨_, rfl⟩
      rw [← hb_p]
      have E_p := Aside0.mk hb_p
      clear hb_p
      have NA_p := Aside0.mk hNA
      have NB_p := Aside0.mk hNB
      clear hNA hNB hB
      clear hu00 hu01 hu02
      have H_bx_p := Aside0.mk (Blk_alloc w16 (.bool b_p) (.slice A_p M_p c_p) (.slice B_p K_p d_p) 56)
      have B17 := Aside0.mk (below_alloc (Below.refl w16.heap.size w16) (.cells #[.bool b_p, .slice A_p M_p c_p, .slice B_p K_p d_p] 56))
      have T17 := Aside0.mk (T16.out.trans (B17.out.mono T16.out.size))
      have H_p0 := Aside0.mk (show Ra w16 (.agg #[(.bool b_p), (.slice A_p M_p c_p), (.slice B_p K_p d_p)]) (Rat.abs (mkR g2 l2b l2c)) from by unfold Ra; rw [← E_p.out]; exact ⟨_, _, _, _, _, _, rfl, NA_p.out, NB_p.out⟩)
      have X_p := Aside0.mk (show Rb 3 (Rat.abs (mkR g2 l2b l2c)) from abs_bnd X_z.out)
      have H_p := Aside0.mk (show Ra (w16.alloc (.cells #[.bool b_p, .slice A_p M_p c_p, .slice B_p K_p d_p] 56)) (.agg #[(.bool b_p), (.slice A_p M_p c_p), (.slice B_p K_p d_p)]) (Rat.abs (mkR g2 l2b l2c)) from R3.below H_p0.out (below_alloc (Below.refl _ _) _))
      go_wp2_with fail
      have B18 := Aside0.mk (Below.drew (Below.refl (w16.alloc (.cells #[.bool b_p, .slice A_p M_p c_p, .slice B_p K_p d_p] 56)).heap.size (w16.alloc (.cells #[.bool b_p, .slice A_p M_p c_p, .slice B_p K_p d_p] 56))))
      have T18 := Aside0.mk (T17.out.trans (B18.out.mono T17.out.size))
      have HS18 := Aside0.mk (fun (W : World) (hW : Below ((w16.alloc (.cells #[.bool b_p, .slice A_p M_p c_p, .slice B_p K_p d_p] 56)).drew).heap.size ((w16.alloc (.cells #[.bool b_p, .slice A_p M_p c_p, .slice B_p K_p d_p] 56)).drew) W) => show W.cell? ⟨p0, 0, none⟩ = some (.bool b_x) ∧ W.cell? ⟨p0, 1, none⟩ = some (.slice A_x M_x c_x) ∧ W.cell? ⟨p0, 2, none⟩ = some (.slice B_x K_x d_x) ∧ W.cell? ⟨p1, 0, none⟩ = some (.bool b_y) ∧ W.cell? ⟨p1, 1, none⟩ = some (.slice A_y M_y c_y) ∧ W.cell? ⟨p1, 2, none⟩ = some (.slice B_y K_y d_y) ∧ W.cell? ⟨p2, 0, none⟩ = some (.bool b_z) ∧ W.cell? ⟨p2, 1, none⟩ = some (.slice A_z M_z c_z) ∧ W.cell? ⟨p2, 2, none⟩ = some (.slice B_z K_z d_z) ∧ W.cell? ⟨w16.heap.size, 0, none⟩ = some (.bool b_p) ∧ W.cell? ⟨w16.heap.size, 1, none⟩ = some (.slice A_p M_p c_p) ∧ W.cell? ⟨w16.heap.size, 2, none⟩ = some (.slice B_p K_p d_p) from ⟨((((((((((((((H_bx_x.out.below B6.out).below B7.out).below B8.out).below B9.out).below B10.out).below B11.out).below B12.out).below B13.out).below B14.out).below B15.out).below B16.out).below B17.out).below B18.out).below hW).1.1, ((((((((((((((H_bx_x.out.below B6.out).below B7.out).below B8.out).below B9.out).below B10.out).below B11.out).below B12.out).below B13.out).below B14.out).below B15.out).below B16.out).below B17.out).below B18.out).below hW).1.2.1, ((((((((((((((H_bx_x.out.below B6.out).below B7.out).below B8.out).below B9.out).below B10.out).below B11.out).below B12.out).below B13.out).below B14.out).below B15.out).below B16.out).below B17.out).below B18.out).below hW).1.2.2, ((((((((((((((H_bx_y.out.below B6.out).below B7.out).below B8.out).below B9.out).below B10.out).below B11.out).below B12.out).below B13.out).below B14.out).below B15.out).below B16.out).below B17.out).below B18.out).below hW).1.1, ((((((((((((((H_bx_y.out.below B6.out).below B7.out).below B8.out).below B9.out).below B10.out).below B11.out).below B12.out).below B13.out).below B14.out).below B15.out).below B16.out).below B17.out).below B18.out).below hW).1.2.1, ((((((((((((((H_bx_y.out.below B6.out).below B7.out).below B8.out).below B9.out).below B10.out).below B11.out).below B12.out).below B13.out).below B14.out).below B15.out).below B16.out).below B17.out).below B18.out).below hW).1.2.2, ((((((((((((((H_bx_z.out.below B6.out).below B7.out).below B8.out).below B9.out).below B10.out).below B11.out).below B12.out).below B13.out).below B14.out).below B15.out).below B16.out).below B17.out).below B18.out).below hW).1.1, ((((((((((((((H_bx_z.out.below B6.out).below B7.out).below B8.out).below B9.out).below B10.out).below B11.out).below B12.out).below B13.out).below B14.out).below B15.out).below B16.out).below B17.out).below B18.out).below hW).1.2.1, ((((((((((((((H_bx_z.out.below B6.out).below B7.out).below B8.out).below B9.out).below B10.out).below B11.out).below B12.out).below B13.out).below B14.out).below B15.out).below B16.out).below B17.out).below B18.out).below hW).1.2.2, ((H_bx_p.out.below B18.out).below hW).1.1, ((H_bx_p.out.below B18.out).below hW).1.2.1, ((H_bx_p.out.below B18.out).below hW).1.2.2⟩)
      have U18 := Aside0.mk (Below.refl ((w16.alloc (.cells #[.bool b_p, .slice A_p M_p c_p, .slice B_p K_p d_p] 56)).drew).heap.size ((w16.alloc (.cells #[.bool b_p, .slice A_p M_p c_p, .slice B_p K_p d_p] 56)).drew))
      refine wp_region_held_drew (S := fun W => W.cell? ⟨p0, 0, none⟩ = some (.bool b_x) ∧ W.cell? ⟨p0, 1, none⟩ = some (.slice A_x M_x c_x) ∧ W.cell? ⟨p0, 2, none⟩ = some (.slice B_x K_x d_x) ∧ W.cell? ⟨p1, 0, none⟩ = some (.bool b_y) ∧ W.cell? ⟨p1, 1, none⟩ = some (.slice A_y M_y c_y) ∧ W.cell? ⟨p1, 2, none⟩ = some (.slice B_y K_y d_y) ∧ W.cell? ⟨p2, 0, none⟩ = some (.bool b_z) ∧ W.cell? ⟨p2, 1, none⟩ = some (.slice A_z M_z c_z) ∧ W.cell? ⟨p2, 2, none⟩ = some (.slice B_z K_z d_z) ∧ W.cell? ⟨w16.heap.size, 0, none⟩ = some (.bool b_p) ∧ W.cell? ⟨w16.heap.size, 1, none⟩ = some (.slice A_p M_p c_p) ∧ W.cell? ⟨w16.heap.size, 2, none⟩ = some (.slice B_p K_p d_p)) (by kernel_rfl) (HS18.out _ (Below.refl _ _)) (fun hHeld => ?_)
      refine Inv.takeL (i := 0) (v := ?v8_0) rfl (by kernel_rfl) (by kernel_rfl) (by kernel_rfl) (fun _ _ _ h => h) (by rfl) ?hy8_0 (by assumption) ?rest8_0
      case hy8_0 => ((intro w hSw; (try dsimp only at hSw); go_simp) <;> with_reducible rfl)
      try simp only [Act.put, List.setIfInBounds_toArray, List.set_cons_zero, List.set_cons_succ]
      have HC : Aside0 (Calls Tryd.prog 73 #[(.agg #[.bool b_z, .slice A_z M_z c_z, .slice B_z K_z d_z])] ((w16.alloc (.cells #[.bool b_p, .slice A_p M_p c_p, .slice B_p K_p d_p] 56)).drew) (BoolPost ((w16.alloc (.cells #[.bool b_p, .slice A_p M_p c_p, .slice B_p K_p d_p] 56)).drew) true)) := ⟨by have h := snought_w (((((((((((((H_z.out.below B6.out).below B7.out).below B8.out).below B9.out).below B10.out).below B11.out).below B12.out).below B13.out).below B14.out).below B15.out).below B16.out).below B17.out).below B18.out); rw [decide_eq_true Z0.out] at h; exact h⟩
      refine Inv.oneL (i := 1) rfl (by kernel_rfl) (fun K hK => ?_)
      go_simp
      refine HC.out.mono ?_
      clear HC
      rintro e w19 ⟨rfl, hB⟩
      try go_wp2_with fail
      have B19 := Aside0.mk hB
      have T19 := Aside0.mk (T18.out.trans (hB.mono T18.out.size))
      clear hB
      have U19 := Aside0.mk (U18.out.trans (B19.out.mono U18.out.size))
      refine hK.out _ _ (HS18.out _ U19.out) (fun hHeld => ?_)
      clear hK K
      try simp only [Act.put, List.setIfInBounds_toArray, List.set_cons_zero, List.set_cons_succ]
      refine Inv.takeL (i := 2) (v := ?v8_2) rfl (by kernel_rfl) (by kernel_rfl) (by kernel_rfl) (fun _ _ _ h => h) (by rfl) ?hy8_2 (by assumption) ?rest8_2
      case hy8_2 => ((intro w hSw; (try dsimp only at hSw); go_simp) <;> with_reducible rfl)
      try simp only [Act.put, List.setIfInBounds_toArray, List.set_cons_zero, List.set_cons_succ]
      refine Inv.skipL (i := 3) rfl (by kernel_rfl) (by kernel_rfl) (by kernel_rfl) (fun _ _ _ h => h) (by rfl) (by assumption) ?_
      try simp only [Act.put, List.setIfInBounds_toArray, List.set_cons_zero, List.set_cons_succ]
      refine Inv.skipL (i := 4) rfl (by kernel_rfl) (by kernel_rfl) (by kernel_rfl) (fun _ _ _ h => h) (by rfl) (by assumption) ?_
      try simp only [Act.put, List.setIfInBounds_toArray, List.set_cons_zero, List.set_cons_succ]
      refine Inv.skipL (i := 5) rfl (by kernel_rfl) (by kernel_rfl) (by kernel_rfl) (fun _ _ _ h => h) (by rfl) (by assumption) ?_
      try simp only [Act.put, List.setIfInBounds_toArray, List.set_cons_zero, List.set_cons_succ]
      refine Inv.skipL (i := 6) rfl (by kernel_rfl) (by kernel_rfl) (by kernel_rfl) (fun _ _ _ h => h) (by rfl) (by assumption) ?_
      try simp only [Act.put, List.setIfInBounds_toArray, List.set_cons_zero, List.set_cons_succ]
      refine Inv.skipL (i := 7) rfl (by kernel_rfl) (by kernel_rfl) (by kernel_rfl) (fun _ _ _ h => h) (by rfl) (by assumption) ?_
      try simp only [Act.put, List.setIfInBounds_toArray, List.set_cons_zero, List.set_cons_succ]
      refine Inv.skipL (i := 8) rfl (by kernel_rfl) (by kernel_rfl) (by kernel_rfl) (fun _ _ _ h => h) (by rfl) (by assumption) ?_
      try simp only [Act.put, List.setIfInBounds_toArray, List.set_cons_zero, List.set_cons_succ]
      refine Inv.skipL (i := 9) rfl (by kernel_rfl) (by kernel_rfl) (by kernel_rfl) (fun _ _ _ h => h) (by rfl) (by assumption) ?_
      try simp only [Act.put, List.setIfInBounds_toArray, List.set_cons_zero, List.set_cons_succ]
      refine Inv.skipL (i := 10) rfl (by kernel_rfl) (by kernel_rfl) (by kernel_rfl) (fun _ _ _ h => h) (by rfl) (by assumption) ?_
      try simp only [Act.put, List.setIfInBounds_toArray, List.set_cons_zero, List.set_cons_succ]
      refine Inv.skipL (i := 11) rfl (by kernel_rfl) (by kernel_rfl) (by kernel_rfl) (fun _ _ _ h => h) (by rfl) (by assumption) ?_
      try simp only [Act.put, List.setIfInBounds_toArray, List.set_cons_zero, List.set_cons_succ]
      refine Inv.skipL (i := 12) rfl (by kernel_rfl) (by kernel_rfl) (by kernel_rfl) (fun _ _ _ h => h) (by rfl) (by assumption) ?_
      try simp only [Act.put, List.setIfInBounds_toArray, List.set_cons_zero, List.set_cons_succ]
      refine Inv.skipL (i := 13) rfl (by kernel_rfl) (by kernel_rfl) (by kernel_rfl) (fun _ _ _ h => h) (by rfl) (by assumption) ?_
      try simp only [Act.put, List.setIfInBounds_toArray, List.set_cons_zero, List.set_cons_succ]
      refine Inv.skipL (i := 14) rfl (by kernel_rfl) (by kernel_rfl) (by kernel_rfl) (fun _ _ _ h => h) (by rfl) (by assumption) ?_
      try simp only [Act.put, List.setIfInBounds_toArray, List.set_cons_zero, List.set_cons_succ]
      refine Inv.skipL (i := 15) rfl (by kernel_rfl) (by kernel_rfl) (by kernel_rfl) (fun _ _ _ h => h) (by rfl) (by assumption) ?_
      try simp only [Act.put, List.setIfInBounds_toArray, List.set_cons_zero, List.set_cons_succ]
      refine Inv.skipL (i := 16) rfl (by kernel_rfl) (by kernel_rfl) (by kernel_rfl) (fun _ _ _ h => h) (by rfl) (by assumption) ?_
      try simp only [Act.put, List.setIfInBounds_toArray, List.set_cons_zero, List.set_cons_succ]
      refine Inv.skipL (i := 17) rfl (by kernel_rfl) (by kernel_rfl) (by kernel_rfl) (fun _ _ _ h => h) (by rfl) (by assumption) ?_
      try simp only [Act.put, List.setIfInBounds_toArray, List.set_cons_zero, List.set_cons_succ]
      refine Inv.skipL (i := 18) rfl (by kernel_rfl) (by kernel_rfl) (by kernel_rfl) (fun _ _ _ h => h) (by rfl) (by assumption) ?_
      try simp only [Act.put, List.setIfInBounds_toArray, List.set_cons_zero, List.set_cons_succ]
      refine Inv.skipL (i := 19) rfl (by kernel_rfl) (by kernel_rfl) (by kernel_rfl) (fun _ _ _ h => h) (by rfl) (by assumption) ?_
      try simp only [Act.put, List.setIfInBounds_toArray, List.set_cons_zero, List.set_cons_succ]
      refine Inv.skipL (i := 20) rfl (by kernel_rfl) (by kernel_rfl) (by kernel_rfl) (fun _ _ _ h => h) (by rfl) (by assumption) ?_
      try simp only [Act.put, List.setIfInBounds_toArray, List.set_cons_zero, List.set_cons_succ]
      refine Inv.skipL (i := 21) rfl (by kernel_rfl) (by kernel_rfl) (by kernel_rfl) (fun _ _ _ h => h) (by rfl) (by assumption) ?_
      try simp only [Act.put, List.setIfInBounds_toArray, List.set_cons_zero, List.set_cons_succ]
      refine Inv.skipL (i := 22) rfl (by kernel_rfl) (by kernel_rfl) (by kernel_rfl) (fun _ _ _ h => h) (by rfl) (by assumption) ?_
      try simp only [Act.put, List.setIfInBounds_toArray, List.set_cons_zero, List.set_cons_succ]
      refine Inv.skipL (i := 23) rfl (by kernel_rfl) (by kernel_rfl) (by kernel_rfl) (fun _ _ _ h => h) (by rfl) (by assumption) ?_
      try simp only [Act.put, List.setIfInBounds_toArray, List.set_cons_zero, List.set_cons_succ]
      refine Inv.skipL (i := 24) rfl (by kernel_rfl) (by kernel_rfl) (by kernel_rfl) (fun _ _ _ h => h) (by rfl) (by assumption) ?_
      try simp only [Act.put, List.setIfInBounds_toArray, List.set_cons_zero, List.set_cons_succ]
      refine Inv.skipL (i := 25) rfl (by kernel_rfl) (by kernel_rfl) (by kernel_rfl) (fun _ _ _ h => h) (by rfl) (by assumption) ?_
      try simp only [Act.put, List.setIfInBounds_toArray, List.set_cons_zero, List.set_cons_succ]
      refine Inv.skipL (i := 26) rfl (by kernel_rfl) (by kernel_rfl) (by kernel_rfl) (fun _ _ _ h => h) (by rfl) (by assumption) ?_
      try simp only [Act.put, List.setIfInBounds_toArray, List.set_cons_zero, List.set_cons_succ]
      refine Inv.skipL (i := 27) rfl (by kernel_rfl) (by kernel_rfl) (by kernel_rfl) (fun _ _ _ h => h) (by rfl) (by assumption) ?_
      try simp only [Act.put, List.setIfInBounds_toArray, List.set_cons_zero, List.set_cons_succ]
      refine Inv.skipL (i := 28) rfl (by kernel_rfl) (by kernel_rfl) (by kernel_rfl) (fun _ _ _ h => h) (by rfl) (by assumption) ?_
      try simp only [Act.put, List.setIfInBounds_toArray, List.set_cons_zero, List.set_cons_succ]
      refine Inv.skipL (i := 29) rfl (by kernel_rfl) (by kernel_rfl) (by kernel_rfl) (fun _ _ _ h => h) (by rfl) (by assumption) ?_
      try simp only [Act.put, List.setIfInBounds_toArray, List.set_cons_zero, List.set_cons_succ]
      refine Inv.skipL (i := 30) rfl (by kernel_rfl) (by kernel_rfl) (by kernel_rfl) (fun _ _ _ h => h) (by rfl) (by assumption) ?_
      try simp only [Act.put, List.setIfInBounds_toArray, List.set_cons_zero, List.set_cons_succ]
      refine Inv.takeL (i := 31) (v := ?v8_31) rfl (by kernel_rfl) (by kernel_rfl) (by kernel_rfl) (fun _ _ _ h => h) (by rfl) ?hy8_31 (by assumption) ?rest8_31
      case hy8_31 => ((intro w hSw; (try dsimp only at hSw); go_simp) <;> with_reducible rfl)
      try simp only [Act.put, List.setIfInBounds_toArray, List.set_cons_zero, List.set_cons_succ]
      refine Inv.takeL (i := 32) (v := ?v8_32) rfl (by kernel_rfl) (by kernel_rfl) (by kernel_rfl) (fun _ _ _ h => h) (by rfl) ?hy8_32 (by assumption) ?rest8_32
      case hy8_32 => ((intro w hSw; (try dsimp only at hSw); go_simp) <;> with_reducible rfl)
      try simp only [Act.put, List.setIfInBounds_toArray, List.set_cons_zero, List.set_cons_succ]
      refine wpAnyH_done (by kernel_rfl) ?_ _
      go_wp2_with fail
      go_ret
      exact ⟨rfl, T19.out⟩
    ·
      have Z0 := Aside0.mk hz0
      clear hz0
      obtain ⟨⟨hu00, hu01, hu02⟩, _⟩ := ((((((((((H_bx_z.out.below B6.out).below B7.out).below B8.out).below B9.out).below B10.out).below B11.out).below B12.out).below B13.out).below B14.out).below B15.out)
      have HC : Aside0 (Calls Tryd.prog 76 #[(.agg #[.bool b_z, .slice A_z M_z c_z, .slice B_z K_z d_z])] w15 (RaPost w15 (Rat.abs (mkR g2 l2b l2c)))) := ⟨qabsR ((((((((((H_z.out.below B6.out).below B7.out).below B8.out).below B9.out).below B10.out).below B11.out).below B12.out).below B13.out).below B14.out).below B15.out) (X_z.out.le (by decide))⟩
      go_wp2_with fail
      refine HC.out.mono ?_
      clear HC
      rintro e w16 ⟨v_p, rfl, ⟨A_p, M_p, c_p, B_p, K_p, d_p, rfl, hNA, hNB⟩, hB⟩
      have B16 := Aside0.mk hB
      have T16 := Aside0.mk (T15.out.trans (hB.mono T15.out.size))
      obtain ⟨b_p, hb_p⟩ : ∃ b, b = decide ((Rat.abs (mkR g2 l2b l2c)).num < 0) := ⟨_, rfl⟩
      rw [← hb_p]
      have E_p := Aside0.mk hb_p
      clear hb_p
      have NA_p := Aside0.mk hNA
      have NB_p := Aside0.mk hNB
      clear hNA hNB hB
      clear hu00 hu01 hu02
      have H_bx_p := Aside0.mk (Blk_alloc w16 (.bool b_p) (.slice A_p M_p c_p) (.slice B_p K_p d_p) 56)
      have B17 := Aside0.mk (below_alloc (Below.refl w16.heap.size w16) (.cells #[.bool b_p, .slice A_p M_p c_p, .slice B_p K_p d_p] 56))
      have T17 := Aside0.mk (T16.out.trans (B17.out.mono T16.out.size))
      have H_p0 := Aside0.mk (show Ra w16 (.agg #[(.bool b_p), (.slice A_p M_p c_p), (.slice B_p K_p d_p)]) (Rat.abs (mkR g2 l2b l2c)) from by unfold Ra; rw [← E_p.out]; exact ⟨_, _, _, _, _, _, rfl, NA_p.out, NB_p.out⟩)
      have X_p := Aside0.mk (show Rb 3 (Rat.abs (mkR g2 l2b l2c)) from abs_bnd X_z.out)
      have H_p := Aside0.mk (show Ra (w16.alloc (.cells #[.bool b_p, .slice A_p M_p c_p, .slice B_p K_p d_p] 56)) (.agg #[(.bool b_p), (.slice A_p M_p c_p), (.slice B_p K_p d_p)]) (Rat.abs (mkR g2 l2b l2c)) from R3.below H_p0.out (below_alloc (Below.refl _ _) _))
      have PP := Aside0.mk (abs_pos Z0.out)
      go_wp2_with fail
      have B18 := Aside0.mk (Below.drew (Below.refl (w16.alloc (.cells #[.bool b_p, .slice A_p M_p c_p, .slice B_p K_p d_p] 56)).heap.size (w16.alloc (.cells #[.bool b_p, .slice A_p M_p c_p, .slice B_p K_p d_p] 56))))
      have T18 := Aside0.mk (T17.out.trans (B18.out.mono T17.out.size))
      have HS18 := Aside0.mk (fun (W : World) (hW : Below ((w16.alloc (.cells #[.bool b_p, .slice A_p M_p c_p, .slice B_p K_p d_p] 56)).drew).heap.size ((w16.alloc (.cells #[.bool b_p, .slice A_p M_p c_p, .slice B_p K_p d_p] 56)).drew) W) => show W.cell? ⟨p0, 0, none⟩ = some (.bool b_x) ∧ W.cell? ⟨p0, 1, none⟩ = some (.slice A_x M_x c_x) ∧ W.cell? ⟨p0, 2, none⟩ = some (.slice B_x K_x d_x) ∧ W.cell? ⟨p1, 0, none⟩ = some (.bool b_y) ∧ W.cell? ⟨p1, 1, none⟩ = some (.slice A_y M_y c_y) ∧ W.cell? ⟨p1, 2, none⟩ = some (.slice B_y K_y d_y) ∧ W.cell? ⟨p2, 0, none⟩ = some (.bool b_z) ∧ W.cell? ⟨p2, 1, none⟩ = some (.slice A_z M_z c_z) ∧ W.cell? ⟨p2, 2, none⟩ = some (.slice B_z K_z d_z) ∧ W.cell? ⟨w16.heap.size, 0, none⟩ = some (.bool b_p) ∧ W.cell? ⟨w16.heap.size, 1, none⟩ = some (.slice A_p M_p c_p) ∧ W.cell? ⟨w16.heap.size, 2, none⟩ = some (.slice B_p K_p d_p) from ⟨((((((((((((((H_bx_x.out.below B6.out).below B7.out).below B8.out).below B9.out).below B10.out).below B11.out).below B12.out).below B13.out).below B14.out).below B15.out).below B16.out).below B17.out).below B18.out).below hW).1.1, ((((((((((((((H_bx_x.out.below B6.out).below B7.out).below B8.out).below B9.out).below B10.out).below B11.out).below B12.out).below B13.out).below B14.out).below B15.out).below B16.out).below B17.out).below B18.out).below hW).1.2.1, ((((((((((((((H_bx_x.out.below B6.out).below B7.out).below B8.out).below B9.out).below B10.out).below B11.out).below B12.out).below B13.out).below B14.out).below B15.out).below B16.out).below B17.out).below B18.out).below hW).1.2.2, ((((((((((((((H_bx_y.out.below B6.out).below B7.out).below B8.out).below B9.out).below B10.out).below B11.out).below B12.out).below B13.out).below B14.out).below B15.out).below B16.out).below B17.out).below B18.out).below hW).1.1, ((((((((((((((H_bx_y.out.below B6.out).below B7.out).below B8.out).below B9.out).below B10.out).below B11.out).below B12.out).below B13.out).below B14.out).below B15.out).below B16.out).below B17.out).below B18.out).below hW).1.2.1, ((((((((((((((H_bx_y.out.below B6.out).below B7.out).below B8.out).below B9.out).below B10.out).below B11.out).below B12.out).below B13.out).below B14.out).below B15.out).below B16.out).below B17.out).below B18.out).below hW).1.2.2, ((((((((((((((H_bx_z.out.below B6.out).below B7.out).below B8.out).below B9.out).below B10.out).below B11.out).below B12.out).below B13.out).below B14.out).below B15.out).below B16.out).below B17.out).below B18.out).below hW).1.1, ((((((((((((((H_bx_z.out.below B6.out).below B7.out).below B8.out).below B9.out).below B10.out).below B11.out).below B12.out).below B13.out).below B14.out).below B15.out).below B16.out).below B17.out).below B18.out).below hW).1.2.1, ((((((((((((((H_bx_z.out.below B6.out).below B7.out).below B8.out).below B9.out).below B10.out).below B11.out).below B12.out).below B13.out).below B14.out).below B15.out).below B16.out).below B17.out).below B18.out).below hW).1.2.2, ((H_bx_p.out.below B18.out).below hW).1.1, ((H_bx_p.out.below B18.out).below hW).1.2.1, ((H_bx_p.out.below B18.out).below hW).1.2.2⟩)
      have U18 := Aside0.mk (Below.refl ((w16.alloc (.cells #[.bool b_p, .slice A_p M_p c_p, .slice B_p K_p d_p] 56)).drew).heap.size ((w16.alloc (.cells #[.bool b_p, .slice A_p M_p c_p, .slice B_p K_p d_p] 56)).drew))
      refine wp_region_held_drew (S := fun W => W.cell? ⟨p0, 0, none⟩ = some (.bool b_x) ∧ W.cell? ⟨p0, 1, none⟩ = some (.slice A_x M_x c_x) ∧ W.cell? ⟨p0, 2, none⟩ = some (.slice B_x K_x d_x) ∧ W.cell? ⟨p1, 0, none⟩ = some (.bool b_y) ∧ W.cell? ⟨p1, 1, none⟩ = some (.slice A_y M_y c_y) ∧ W.cell? ⟨p1, 2, none⟩ = some (.slice B_y K_y d_y) ∧ W.cell? ⟨p2, 0, none⟩ = some (.bool b_z) ∧ W.cell? ⟨p2, 1, none⟩ = some (.slice A_z M_z c_z) ∧ W.cell? ⟨p2, 2, none⟩ = some (.slice B_z K_z d_z) ∧ W.cell? ⟨w16.heap.size, 0, none⟩ = some (.bool b_p) ∧ W.cell? ⟨w16.heap.size, 1, none⟩ = some (.slice A_p M_p c_p) ∧ W.cell? ⟨w16.heap.size, 2, none⟩ = some (.slice B_p K_p d_p)) (by kernel_rfl) (HS18.out _ (Below.refl _ _)) (fun hHeld => ?_)
      refine Inv.takeL (i := 0) (v := ?v9_0) rfl (by kernel_rfl) (by kernel_rfl) (by kernel_rfl) (fun _ _ _ h => h) (by rfl) ?hy9_0 (by assumption) ?rest9_0
      case hy9_0 => ((intro w hSw; (try dsimp only at hSw); go_simp) <;> with_reducible rfl)
      try simp only [Act.put, List.setIfInBounds_toArray, List.set_cons_zero, List.set_cons_succ]
      have HC : Aside0 (Calls Tryd.prog 73 #[(.agg #[.bool b_z, .slice A_z M_z c_z, .slice B_z K_z d_z])] ((w16.alloc (.cells #[.bool b_p, .slice A_p M_p c_p, .slice B_p K_p d_p] 56)).drew) (BoolPost ((w16.alloc (.cells #[.bool b_p, .slice A_p M_p c_p, .slice B_p K_p d_p] 56)).drew) false)) := ⟨by have h := snought_w (((((((((((((H_z.out.below B6.out).below B7.out).below B8.out).below B9.out).below B10.out).below B11.out).below B12.out).below B13.out).below B14.out).below B15.out).below B16.out).below B17.out).below B18.out); rw [decide_eq_false Z0.out] at h; exact h⟩
      refine Inv.oneL (i := 1) rfl (by kernel_rfl) (fun K hK => ?_)
      go_simp
      refine HC.out.mono ?_
      clear HC
      rintro e w19 ⟨rfl, hB⟩
      try go_wp2_with fail
      have B19 := Aside0.mk hB
      have T19 := Aside0.mk (T18.out.trans (hB.mono T18.out.size))
      clear hB
      have U19 := Aside0.mk (U18.out.trans (B19.out.mono U18.out.size))
      refine hK.out _ _ (HS18.out _ U19.out) (fun hHeld => ?_)
      clear hK K
      try simp only [Act.put, List.setIfInBounds_toArray, List.set_cons_zero, List.set_cons_succ]
      refine Inv.takeL (i := 2) (v := ?v9_2) rfl (by kernel_rfl) (by kernel_rfl) (by kernel_rfl) (fun _ _ _ h => h) (by rfl) ?hy9_2 (by assumption) ?rest9_2
      case hy9_2 => ((intro w hSw; (try dsimp only at hSw); go_simp) <;> with_reducible rfl)
      try simp only [Act.put, List.setIfInBounds_toArray, List.set_cons_zero, List.set_cons_succ]
      refine Inv.takeL (i := 3) (v := ?v9_3) rfl (by kernel_rfl) (by kernel_rfl) (by kernel_rfl) (fun _ _ _ h => h) (by rfl) ?hy9_3 (by assumption) ?rest9_3
      case hy9_3 => ((intro w hSw; (try dsimp only at hSw); go_simp) <;> with_reducible rfl)
      try simp only [Act.put, List.setIfInBounds_toArray, List.set_cons_zero, List.set_cons_succ]
      refine Inv.takeL (i := 4) (v := ?v9_4) rfl (by kernel_rfl) (by kernel_rfl) (by kernel_rfl) (fun _ _ _ h => h) (by rfl) ?hy9_4 (by assumption) ?rest9_4
      case hy9_4 => ((intro w hSw; (try dsimp only at hSw); go_simp) <;> with_reducible rfl)
      try simp only [Act.put, List.setIfInBounds_toArray, List.set_cons_zero, List.set_cons_succ]
      refine Inv.takeL (i := 6) (v := ?v9_6) rfl (by kernel_rfl) (by kernel_rfl) (by kernel_rfl) (fun _ _ _ h => h) (by rfl) ?hy9_6 (by assumption) ?rest9_6
      case hy9_6 => ((intro w hSw; (try dsimp only at hSw); go_simp) <;> with_reducible rfl)
      try simp only [Act.put, List.setIfInBounds_toArray, List.set_cons_zero, List.set_cons_succ]
      refine Inv.takeL (i := 7) (v := ?v9_7) rfl (by kernel_rfl) (by kernel_rfl) (by kernel_rfl) (fun _ _ _ h => h) (by rfl) ?hy9_7 (by assumption) ?rest9_7
      case hy9_7 => ((intro w hSw; (try dsimp only at hSw); go_simp) <;> with_reducible rfl)
      try simp only [Act.put, List.setIfInBounds_toArray, List.set_cons_zero, List.set_cons_succ]
      refine Inv.takeL (i := 10) (v := ?v9_10) rfl (by kernel_rfl) (by kernel_rfl) (by kernel_rfl) (fun _ _ _ h => h) (by rfl) ?hy9_10 (by assumption) ?rest9_10
      case hy9_10 => ((intro w hSw; (try dsimp only at hSw); go_simp) <;> with_reducible rfl)
      try simp only [Act.put, List.setIfInBounds_toArray, List.set_cons_zero, List.set_cons_succ]
      have HC : Aside0 (Calls Tryd.prog 64 #[(.agg #[.bool b_x, .slice A_x M_x c_x, .slice B_x K_x d_x]), (.agg #[(.bool b_p), (.slice A_p M_p c_p), (.slice B_p K_p d_p)])] w19 (RaPost w19 ((mkR g0 l0b l0c) * (Rat.abs (mkR g2 l2b l2c))))) := ⟨qmulR ((((((((((((((H_x.out.below B6.out).below B7.out).below B8.out).below B9.out).below B10.out).below B11.out).below B12.out).below B13.out).below B14.out).below B15.out).below B16.out).below B17.out).below B18.out).below B19.out) ((H_p.out.below B18.out).below B19.out) (X_x.out.le (by decide)) (X_p.out.le (by decide))⟩
      refine Inv.oneL (i := 5) rfl (by kernel_rfl) (fun K hK => ?_)
      go_simp
      refine HC.out.mono ?_
      clear HC
      rintro e w20 ⟨v_m1, rfl, hN, hB⟩
      try go_wp2_with fail
      have B20 := Aside0.mk hB
      have T20 := Aside0.mk (T19.out.trans (hB.mono T19.out.size))
      have H_m1 := Aside0.mk hN
      have X_m1 := Aside0.mk (show Rb 6 ((mkR g0 l0b l0c) * (Rat.abs (mkR g2 l2b l2c))) from mul_bnd X_x.out X_p.out (by decide))
      clear hN hB
      have U20 := Aside0.mk (U19.out.trans (B20.out.mono U19.out.size))
      refine hK.out _ _ (HS18.out _ U20.out) (fun hHeld => ?_)
      clear hK K
      try simp only [Act.put, List.setIfInBounds_toArray, List.set_cons_zero, List.set_cons_succ]
      have HC : Aside0 (Calls Tryd.prog 64 #[(.agg #[.bool b_y, .slice A_y M_y c_y, .slice B_y K_y d_y]), (.agg #[(.bool b_p), (.slice A_p M_p c_p), (.slice B_p K_p d_p)])] w20 (RaPost w20 ((mkR g1 l1b l1c) * (Rat.abs (mkR g2 l2b l2c))))) := ⟨qmulR (((((((((((((((H_y.out.below B6.out).below B7.out).below B8.out).below B9.out).below B10.out).below B11.out).below B12.out).below B13.out).below B14.out).below B15.out).below B16.out).below B17.out).below B18.out).below B19.out).below B20.out) (((H_p.out.below B18.out).below B19.out).below B20.out) (X_y.out.le (by decide)) (X_p.out.le (by decide))⟩
      refine Inv.oneL (i := 8) rfl (by kernel_rfl) (fun K hK => ?_)
      go_simp
      refine HC.out.mono ?_
      clear HC
      rintro e w21 ⟨v_m2, rfl, hN, hB⟩
      try go_wp2_with fail
      have B21 := Aside0.mk hB
      have T21 := Aside0.mk (T20.out.trans (hB.mono T20.out.size))
      have H_m2 := Aside0.mk hN
      have X_m2 := Aside0.mk (show Rb 6 ((mkR g1 l1b l1c) * (Rat.abs (mkR g2 l2b l2c))) from mul_bnd X_y.out X_p.out (by decide))
      clear hN hB
      have U21 := Aside0.mk (U20.out.trans (B21.out.mono U20.out.size))
      refine hK.out _ _ (HS18.out _ U21.out) (fun hHeld => ?_)
      clear hK K
      try simp only [Act.put, List.setIfInBounds_toArray, List.set_cons_zero, List.set_cons_succ]
      have HC : Aside0 (Calls Tryd.prog 74 #[v_m1, v_m2] w21 (IntPost w21 (-1))) := ⟨by have h := qcmpR (H_m1.out.below B21.out) H_m2.out (X_m1.out.le (by decide)) (X_m2.out.le (by decide)); rw [show cmpQ ((mkR g0 l0b l0c) * (Rat.abs (mkR g2 l2b l2c))) ((mkR g1 l1b l1c) * (Rat.abs (mkR g2 l2b l2c))) = (-1) by rw [cmp_mul PP.out, CZ.out]] at h; exact h⟩
      refine Inv.oneL (i := 9) rfl (by kernel_rfl) (fun K hK => ?_)
      go_simp
      refine HC.out.mono ?_
      clear HC
      rintro e w22 ⟨rfl, hB⟩
      try go_wp2_with fail
      have B22 := Aside0.mk hB
      have T22 := Aside0.mk (T21.out.trans (hB.mono T21.out.size))
      clear hB
      have U22 := Aside0.mk (U21.out.trans (B22.out.mono U21.out.size))
      refine hK.out _ _ (HS18.out _ U22.out) (fun hHeld => ?_)
      clear hK K
      try simp only [Act.put, List.setIfInBounds_toArray, List.set_cons_zero, List.set_cons_succ]
      refine Inv.takeL (i := 11) (v := ?v9_11) rfl (by kernel_rfl) (by kernel_rfl) (by kernel_rfl) (fun _ _ _ h => h) (by rfl) ?hy9_11 (by assumption) ?rest9_11
      case hy9_11 => ((intro w hSw; (try dsimp only at hSw); go_simp) <;> with_reducible rfl)
      try simp only [Act.put, List.setIfInBounds_toArray, List.set_cons_zero, List.set_cons_succ]
      refine Inv.takeL (i := 12) (v := ?v9_12) rfl (by kernel_rfl) (by kernel_rfl) (by kernel_rfl) (fun _ _ _ h => h) (by rfl) ?hy9_12 (by assumption) ?rest9_12
      case hy9_12 => ((intro w hSw; (try dsimp only at hSw); go_simp) <;> with_reducible rfl)
      try simp only [Act.put, List.setIfInBounds_toArray, List.set_cons_zero, List.set_cons_succ]
      refine Inv.takeL (i := 13) (v := ?v9_13) rfl (by kernel_rfl) (by kernel_rfl) (by kernel_rfl) (fun _ _ _ h => h) (by rfl) ?hy9_13 (by assumption) ?rest9_13
      case hy9_13 => ((intro w hSw; (try dsimp only at hSw); go_simp) <;> with_reducible rfl)
      try simp only [Act.put, List.setIfInBounds_toArray, List.set_cons_zero, List.set_cons_succ]
      have HC : Aside0 (Calls Tryd.prog 71 #[] w22 (RaPost w22 ((0 : Rat)))) := ⟨szeroR w22⟩
      refine Inv.oneL (i := 14) rfl (by kernel_rfl) (fun K hK => ?_)
      go_simp
      refine HC.out.mono ?_
      clear HC
      rintro e w23 ⟨v_zz, rfl, hN, hB⟩
      try go_wp2_with fail
      have B23 := Aside0.mk hB
      have T23 := Aside0.mk (T22.out.trans (hB.mono T22.out.size))
      have H_zz := Aside0.mk hN
      have X_zz := Aside0.mk (show Rb 1 ((0 : Rat)) from rb_zero)
      clear hN hB
      have U23 := Aside0.mk (U22.out.trans (B23.out.mono U22.out.size))
      refine hK.out _ _ (HS18.out _ U23.out) (fun hHeld => ?_)
      clear hK K
      try simp only [Act.put, List.setIfInBounds_toArray, List.set_cons_zero, List.set_cons_succ]
      have HC : Aside0 (Calls Tryd.prog 74 #[(.agg #[(.bool b_p), (.slice A_p M_p c_p), (.slice B_p K_p d_p)]), v_zz] w23 (IntPost w23 1)) := ⟨by have h := qcmpR ((((((H_p.out.below B18.out).below B19.out).below B20.out).below B21.out).below B22.out).below B23.out) H_zz.out (X_p.out.le (by decide)) (X_zz.out.le (by decide)); rw [show cmpQ (Rat.abs (mkR g2 l2b l2c)) 0 = 1 from cmp_pos PP.out] at h; exact h⟩
      refine Inv.oneL (i := 15) rfl (by kernel_rfl) (fun K hK => ?_)
      go_simp
      refine HC.out.mono ?_
      clear HC
      rintro e w24 ⟨rfl, hB⟩
      try go_wp2_with fail
      have B24 := Aside0.mk hB
      have T24 := Aside0.mk (T23.out.trans (hB.mono T23.out.size))
      clear hB
      have U24 := Aside0.mk (U23.out.trans (B24.out.mono U23.out.size))
      refine hK.out _ _ (HS18.out _ U24.out) (fun hHeld => ?_)
      clear hK K
      try simp only [Act.put, List.setIfInBounds_toArray, List.set_cons_zero, List.set_cons_succ]
      refine Inv.takeL (i := 16) (v := ?v9_16) rfl (by kernel_rfl) (by kernel_rfl) (by kernel_rfl) (fun _ _ _ h => h) (by rfl) ?hy9_16 (by assumption) ?rest9_16
      case hy9_16 => ((intro w hSw; (try dsimp only at hSw); go_simp) <;> with_reducible rfl)
      try simp only [Act.put, List.setIfInBounds_toArray, List.set_cons_zero, List.set_cons_succ]
      refine Inv.takeL (i := 17) (v := ?v9_17) rfl (by kernel_rfl) (by kernel_rfl) (by kernel_rfl) (fun _ _ _ h => h) (by rfl) ?hy9_17 (by assumption) ?rest9_17
      case hy9_17 => ((intro w hSw; (try dsimp only at hSw); go_simp) <;> with_reducible rfl)
      try simp only [Act.put, List.setIfInBounds_toArray, List.set_cons_zero, List.set_cons_succ]
      refine Inv.takeL (i := 18) (v := ?v9_18) rfl (by kernel_rfl) (by kernel_rfl) (by kernel_rfl) (fun _ _ _ h => h) (by rfl) ?hy9_18 (by assumption) ?rest9_18
      case hy9_18 => ((intro w hSw; (try dsimp only at hSw); go_simp) <;> with_reducible rfl)
      try simp only [Act.put, List.setIfInBounds_toArray, List.set_cons_zero, List.set_cons_succ]
      refine Inv.takeL (i := 19) (v := ?v9_19) rfl (by kernel_rfl) (by kernel_rfl) (by kernel_rfl) (fun _ _ _ h => h) (by rfl) ?hy9_19 (by assumption) ?rest9_19
      case hy9_19 => ((intro w hSw; (try dsimp only at hSw); go_simp) <;> with_reducible rfl)
      try simp only [Act.put, List.setIfInBounds_toArray, List.set_cons_zero, List.set_cons_succ]
      refine Inv.takeL (i := 20) (v := ?v9_20) rfl (by kernel_rfl) (by kernel_rfl) (by kernel_rfl) (fun _ _ _ h => h) (by rfl) ?hy9_20 (by assumption) ?rest9_20
      case hy9_20 => ((intro w hSw; (try dsimp only at hSw); go_simp) <;> with_reducible rfl)
      try simp only [Act.put, List.setIfInBounds_toArray, List.set_cons_zero, List.set_cons_succ]
      refine Inv.takeL (i := 23) (v := ?v9_23) rfl (by kernel_rfl) (by kernel_rfl) (by kernel_rfl) (fun _ _ _ h => h) (by rfl) ?hy9_23 (by assumption) ?rest9_23
      case hy9_23 => ((intro w hSw; (try dsimp only at hSw); go_simp) <;> with_reducible rfl)
      try simp only [Act.put, List.setIfInBounds_toArray, List.set_cons_zero, List.set_cons_succ]
      refine Inv.takeL (i := 25) (v := ?v9_25) rfl (by kernel_rfl) (by kernel_rfl) (by kernel_rfl) (fun _ _ _ h => h) (by rfl) ?hy9_25 (by assumption) ?rest9_25
      case hy9_25 => ((intro w hSw; (try dsimp only at hSw); go_simp) <;> with_reducible rfl)
      try simp only [Act.put, List.setIfInBounds_toArray, List.set_cons_zero, List.set_cons_succ]
      have HC : Aside0 (Calls Tryd.prog 68 #[(.agg #[.bool b_x, .slice A_x M_x c_x, .slice B_x K_x d_x]), (.agg #[.bool b_y, .slice A_y M_y c_y, .slice B_y K_y d_y])] w24 (RaPost w24 ((mkR g0 l0b l0c) + (mkR g1 l1b l1c)))) := ⟨qaddR (((((((((((((((((((H_x.out.below B6.out).below B7.out).below B8.out).below B9.out).below B10.out).below B11.out).below B12.out).below B13.out).below B14.out).below B15.out).below B16.out).below B17.out).below B18.out).below B19.out).below B20.out).below B21.out).below B22.out).below B23.out).below B24.out) (((((((((((((((((((H_y.out.below B6.out).below B7.out).below B8.out).below B9.out).below B10.out).below B11.out).below B12.out).below B13.out).below B14.out).below B15.out).below B16.out).below B17.out).below B18.out).below B19.out).below B20.out).below B21.out).below B22.out).below B23.out).below B24.out) (X_x.out.le (by decide)) (X_y.out.le (by decide))⟩
      refine Inv.oneL (i := 21) rfl (by kernel_rfl) (fun K hK => ?_)
      go_simp
      refine HC.out.mono ?_
      clear HC
      rintro e w25 ⟨v_a1, rfl, hN, hB⟩
      try go_wp2_with fail
      have B25 := Aside0.mk hB
      have T25 := Aside0.mk (T24.out.trans (hB.mono T24.out.size))
      have H_a1 := Aside0.mk hN
      have X_a1 := Aside0.mk (show Rb 7 ((mkR g0 l0b l0c) + (mkR g1 l1b l1c)) from add_bnd X_x.out X_y.out (by decide))
      clear hN hB
      have U25 := Aside0.mk (U24.out.trans (B25.out.mono U24.out.size))
      refine hK.out _ _ (HS18.out _ U25.out) (fun hHeld => ?_)
      clear hK K
      try simp only [Act.put, List.setIfInBounds_toArray, List.set_cons_zero, List.set_cons_succ]
      have HC : Aside0 (Calls Tryd.prog 76 #[v_a1] w25 (RaPost w25 (Rat.abs ((mkR g0 l0b l0c) + (mkR g1 l1b l1c))))) := ⟨qabsR H_a1.out (X_a1.out.le (by decide))⟩
      refine Inv.oneL (i := 22) rfl (by kernel_rfl) (fun K hK => ?_)
      go_simp
      refine HC.out.mono ?_
      clear HC
      rintro e w26 ⟨v_a2, rfl, hN, hB⟩
      try go_wp2_with fail
      have B26 := Aside0.mk hB
      have T26 := Aside0.mk (T25.out.trans (hB.mono T25.out.size))
      have H_a2 := Aside0.mk hN
      have X_a2 := Aside0.mk (show Rb 7 (Rat.abs ((mkR g0 l0b l0c) + (mkR g1 l1b l1c))) from abs_bnd X_a1.out)
      clear hN hB
      have U26 := Aside0.mk (U25.out.trans (B26.out.mono U25.out.size))
      refine hK.out _ _ (HS18.out _ U26.out) (fun hHeld => ?_)
      clear hK K
      try simp only [Act.put, List.setIfInBounds_toArray, List.set_cons_zero, List.set_cons_succ]
      have HC : Aside0 (Calls Tryd.prog 76 #[(.agg #[.bool b_x, .slice A_x M_x c_x, .slice B_x K_x d_x])] w26 (RaPost w26 (Rat.abs (mkR g0 l0b l0c)))) := ⟨qabsR (((((((((((((((((((((H_x.out.below B6.out).below B7.out).below B8.out).below B9.out).below B10.out).below B11.out).below B12.out).below B13.out).below B14.out).below B15.out).below B16.out).below B17.out).below B18.out).below B19.out).below B20.out).below B21.out).below B22.out).below B23.out).below B24.out).below B25.out).below B26.out) (X_x.out.le (by decide))⟩
      refine Inv.oneL (i := 24) rfl (by kernel_rfl) (fun K hK => ?_)
      go_simp
      refine HC.out.mono ?_
      clear HC
      rintro e w27 ⟨v_a3, rfl, hN, hB⟩
      try go_wp2_with fail
      have B27 := Aside0.mk hB
      have T27 := Aside0.mk (T26.out.trans (hB.mono T26.out.size))
      have H_a3 := Aside0.mk hN
      have X_a3 := Aside0.mk (show Rb 3 (Rat.abs (mkR g0 l0b l0c)) from abs_bnd X_x.out)
      clear hN hB
      have U27 := Aside0.mk (U26.out.trans (B27.out.mono U26.out.size))
      refine hK.out _ _ (HS18.out _ U27.out) (fun hHeld => ?_)
      clear hK K
      try simp only [Act.put, List.setIfInBounds_toArray, List.set_cons_zero, List.set_cons_succ]
      have HC : Aside0 (Calls Tryd.prog 76 #[(.agg #[.bool b_y, .slice A_y M_y c_y, .slice B_y K_y d_y])] w27 (RaPost w27 (Rat.abs (mkR g1 l1b l1c)))) := ⟨qabsR ((((((((((((((((((((((H_y.out.below B6.out).below B7.out).below B8.out).below B9.out).below B10.out).below B11.out).below B12.out).below B13.out).below B14.out).below B15.out).below B16.out).below B17.out).below B18.out).below B19.out).below B20.out).below B21.out).below B22.out).below B23.out).below B24.out).below B25.out).below B26.out).below B27.out) (X_y.out.le (by decide))⟩
      refine Inv.oneL (i := 26) rfl (by kernel_rfl) (fun K hK => ?_)
      go_simp
      refine HC.out.mono ?_
      clear HC
      rintro e w28 ⟨v_a4, rfl, hN, hB⟩
      try go_wp2_with fail
      have B28 := Aside0.mk hB
      have T28 := Aside0.mk (T27.out.trans (hB.mono T27.out.size))
      have H_a4 := Aside0.mk hN
      have X_a4 := Aside0.mk (show Rb 3 (Rat.abs (mkR g1 l1b l1c)) from abs_bnd X_y.out)
      clear hN hB
      have U28 := Aside0.mk (U27.out.trans (B28.out.mono U27.out.size))
      refine hK.out _ _ (HS18.out _ U28.out) (fun hHeld => ?_)
      clear hK K
      try simp only [Act.put, List.setIfInBounds_toArray, List.set_cons_zero, List.set_cons_succ]
      have HC : Aside0 (Calls Tryd.prog 68 #[v_a3, v_a4] w28 (RaPost w28 ((Rat.abs (mkR g0 l0b l0c)) + (Rat.abs (mkR g1 l1b l1c))))) := ⟨qaddR (H_a3.out.below B28.out) H_a4.out (X_a3.out.le (by decide)) (X_a4.out.le (by decide))⟩
      refine Inv.oneL (i := 27) rfl (by kernel_rfl) (fun K hK => ?_)
      go_simp
      refine HC.out.mono ?_
      clear HC
      rintro e w29 ⟨v_a5, rfl, hN, hB⟩
      try go_wp2_with fail
      have B29 := Aside0.mk hB
      have T29 := Aside0.mk (T28.out.trans (hB.mono T28.out.size))
      have H_a5 := Aside0.mk hN
      have X_a5 := Aside0.mk (show Rb 7 ((Rat.abs (mkR g0 l0b l0c)) + (Rat.abs (mkR g1 l1b l1c))) from add_bnd X_a3.out X_a4.out (by decide))
      clear hN hB
      obtain ⟨zq, hzq, hzd⟩ := cmp_le2 (tri (mkR g0 l0b l0c) (mkR g1 l1b l1c))
      have ZQ := Aside0.mk hzq
      clear hzq
      have U29 := Aside0.mk (U28.out.trans (B29.out.mono U28.out.size))
      refine hK.out _ _ (HS18.out _ U29.out) (fun hHeld => ?_)
      clear hK K
      try simp only [Act.put, List.setIfInBounds_toArray, List.set_cons_zero, List.set_cons_succ]
      have HC : Aside0 (Calls Tryd.prog 74 #[v_a2, v_a5] w29 (IntPost w29 zq)) := ⟨by have h := qcmpR (((H_a2.out.below B27.out).below B28.out).below B29.out) H_a5.out (X_a2.out.le (by decide)) (X_a5.out.le (by decide)); rw [ZQ.out] at h; exact h⟩
      refine Inv.oneL (i := 28) rfl (by kernel_rfl) (fun K hK => ?_)
      go_simp
      refine HC.out.mono ?_
      clear HC
      rintro e w30 ⟨rfl, hB⟩
      try go_wp2_with fail
      have B30 := Aside0.mk hB
      have T30 := Aside0.mk (T29.out.trans (hB.mono T29.out.size))
      clear hB
      have U30 := Aside0.mk (U29.out.trans (B30.out.mono U29.out.size))
      refine hK.out _ _ (HS18.out _ U30.out) (fun hHeld => ?_)
      clear hK K
      try simp only [Act.put, List.setIfInBounds_toArray, List.set_cons_zero, List.set_cons_succ]
      refine Inv.takeL (i := 29) (v := ?v9_29) rfl (by kernel_rfl) (by kernel_rfl) (by kernel_rfl) (fun _ _ _ h => h) (by rfl) ?hy9_29 (by assumption) ?rest9_29
      case hy9_29 => ((intro w hSw; (try dsimp only at hSw); go_simp) <;> with_reducible rfl)
      try simp only [Act.put, List.setIfInBounds_toArray, List.set_cons_zero, List.set_cons_succ]
      refine Inv.takeL (i := 30) (v := ?v9_30) rfl (by kernel_rfl) (by kernel_rfl) (by kernel_rfl) (fun _ _ _ h => h) (by rfl) ?hy9_30 (by assumption) ?rest9_30
      case hy9_30 => ((intro w hSw; (try dsimp only at hSw); go_simp) <;> with_reducible rfl)
      try simp only [Act.put, List.setIfInBounds_toArray, List.set_cons_zero, List.set_cons_succ]
      refine Inv.takeL (i := 31) (v := ?v9_31) rfl (by kernel_rfl) (by kernel_rfl) (by kernel_rfl) (fun _ _ _ h => h) (by rfl) ?hy9_31 (by assumption) ?rest9_31
      case hy9_31 => ((intro w hSw; (try dsimp only at hSw); go_simp) <;> with_reducible rfl)
      try simp only [Act.put, List.setIfInBounds_toArray, List.set_cons_zero, List.set_cons_succ]
      refine Inv.takeL (i := 32) (v := ?v9_32) rfl (by kernel_rfl) (by kernel_rfl) (by kernel_rfl) (fun _ _ _ h => h) (by rfl) ?hy9_32 (by assumption) ?rest9_32
      case hy9_32 => ((intro w hSw; (try dsimp only at hSw); go_simp) <;> with_reducible rfl)
      try simp only [Act.put, List.setIfInBounds_toArray, List.set_cons_zero, List.set_cons_succ]
      refine wpAnyH_done (by kernel_rfl) ?_ _
      go_wp2_with fail
      go_ret
      exact ⟨rfl, T30.out⟩
  ·
    have CZ := Aside0.mk hc
    clear hc
    obtain ⟨⟨hu00, hu01, hu02⟩, _⟩ := H_bx_x.out
    obtain ⟨⟨hu10, hu11, hu12⟩, _⟩ := H_bx_y.out
    have HC : Aside0 (Calls Tryd.prog 74 #[(.agg #[.bool b_x, .slice A_x M_x c_x, .slice B_x K_x d_x]), (.agg #[.bool b_y, .slice A_y M_y c_y, .slice B_y K_y d_y])] w5 (IntPost w5 0)) := ⟨by have h := qcmpR H_x.out H_y.out (X_x.out.le (by decide)) (X_y.out.le (by decide)); rw [CZ.out] at h; exact h⟩
    go_wp2_with fail
    refine HC.out.mono ?_
    clear HC
    rintro e w6 ⟨rfl, hB⟩
    have B6 := Aside0.mk hB
    have T6 := Aside0.mk (T5.out.trans (hB.mono T5.out.size))
    clear hB
    clear hu00 hu01 hu02 hu10 hu11 hu12
    go_wp2_with fail
    have B7 := Aside0.mk (Below.drew (Below.refl w6.heap.size w6))
    have T7 := Aside0.mk (T6.out.trans (B7.out.mono T6.out.size))
    have HS7 := Aside0.mk (fun (W : World) (hW : Below (w6.drew).heap.size (w6.drew) W) => show W.cell? ⟨p0, 0, none⟩ = some (.bool b_x) ∧ W.cell? ⟨p0, 1, none⟩ = some (.slice A_x M_x c_x) ∧ W.cell? ⟨p0, 2, none⟩ = some (.slice B_x K_x d_x) ∧ W.cell? ⟨p1, 0, none⟩ = some (.bool b_y) ∧ W.cell? ⟨p1, 1, none⟩ = some (.slice A_y M_y c_y) ∧ W.cell? ⟨p1, 2, none⟩ = some (.slice B_y K_y d_y) ∧ W.cell? ⟨p2, 0, none⟩ = some (.bool b_z) ∧ W.cell? ⟨p2, 1, none⟩ = some (.slice A_z M_z c_z) ∧ W.cell? ⟨p2, 2, none⟩ = some (.slice B_z K_z d_z) from ⟨(((H_bx_x.out.below B6.out).below B7.out).below hW).1.1, (((H_bx_x.out.below B6.out).below B7.out).below hW).1.2.1, (((H_bx_x.out.below B6.out).below B7.out).below hW).1.2.2, (((H_bx_y.out.below B6.out).below B7.out).below hW).1.1, (((H_bx_y.out.below B6.out).below B7.out).below hW).1.2.1, (((H_bx_y.out.below B6.out).below B7.out).below hW).1.2.2, (((H_bx_z.out.below B6.out).below B7.out).below hW).1.1, (((H_bx_z.out.below B6.out).below B7.out).below hW).1.2.1, (((H_bx_z.out.below B6.out).below B7.out).below hW).1.2.2⟩)
    have U7 := Aside0.mk (Below.refl (w6.drew).heap.size (w6.drew))
    refine wp_region_held_drew (S := fun W => W.cell? ⟨p0, 0, none⟩ = some (.bool b_x) ∧ W.cell? ⟨p0, 1, none⟩ = some (.slice A_x M_x c_x) ∧ W.cell? ⟨p0, 2, none⟩ = some (.slice B_x K_x d_x) ∧ W.cell? ⟨p1, 0, none⟩ = some (.bool b_y) ∧ W.cell? ⟨p1, 1, none⟩ = some (.slice A_y M_y c_y) ∧ W.cell? ⟨p1, 2, none⟩ = some (.slice B_y K_y d_y) ∧ W.cell? ⟨p2, 0, none⟩ = some (.bool b_z) ∧ W.cell? ⟨p2, 1, none⟩ = some (.slice A_z M_z c_z) ∧ W.cell? ⟨p2, 2, none⟩ = some (.slice B_z K_z d_z)) (by kernel_rfl) (HS7.out _ (Below.refl _ _)) (fun hHeld => ?_)
    refine Inv.takeL (i := 0) (v := ?v10_0) rfl (by kernel_rfl) (by kernel_rfl) (by kernel_rfl) (fun _ _ _ h => h) (by rfl) ?hy10_0 (by assumption) ?rest10_0
    case hy10_0 => ((intro w hSw; (try dsimp only at hSw); go_simp) <;> with_reducible rfl)
    try simp only [Act.put, List.setIfInBounds_toArray, List.set_cons_zero, List.set_cons_succ]
    refine Inv.takeL (i := 1) (v := ?v10_1) rfl (by kernel_rfl) (by kernel_rfl) (by kernel_rfl) (fun _ _ _ h => h) (by rfl) ?hy10_1 (by assumption) ?rest10_1
    case hy10_1 => ((intro w hSw; (try dsimp only at hSw); go_simp) <;> with_reducible rfl)
    try simp only [Act.put, List.setIfInBounds_toArray, List.set_cons_zero, List.set_cons_succ]
    refine Inv.takeL (i := 3) (v := ?v10_3) rfl (by kernel_rfl) (by kernel_rfl) (by kernel_rfl) (fun _ _ _ h => h) (by rfl) ?hy10_3 (by assumption) ?rest10_3
    case hy10_3 => ((intro w hSw; (try dsimp only at hSw); go_simp) <;> with_reducible rfl)
    try simp only [Act.put, List.setIfInBounds_toArray, List.set_cons_zero, List.set_cons_succ]
    refine Inv.takeL (i := 4) (v := ?v10_4) rfl (by kernel_rfl) (by kernel_rfl) (by kernel_rfl) (fun _ _ _ h => h) (by rfl) ?hy10_4 (by assumption) ?rest10_4
    case hy10_4 => ((intro w hSw; (try dsimp only at hSw); go_simp) <;> with_reducible rfl)
    try simp only [Act.put, List.setIfInBounds_toArray, List.set_cons_zero, List.set_cons_succ]
    have HC : Aside0 (Calls Tryd.prog 74 #[(.agg #[.bool b_y, .slice A_y M_y c_y, .slice B_y K_y d_y]), (.agg #[.bool b_x, .slice A_x M_x c_x, .slice B_x K_x d_x])] (w6.drew) (IntPost (w6.drew) 0)) := ⟨by have h := qcmpR ((H_y.out.below B6.out).below B7.out) ((H_x.out.below B6.out).below B7.out) (X_y.out.le (by decide)) (X_x.out.le (by decide)); rw [show cmpQ (mkR g1 l1b l1c) (mkR g0 l0b l0c) = 0 by rw [cmp_swap, CZ.out] <;> rfl] at h; exact h⟩
    refine Inv.oneL (i := 2) rfl (by kernel_rfl) (fun K hK => ?_)
    go_simp
    refine HC.out.mono ?_
    clear HC
    rintro e w8 ⟨rfl, hB⟩
    try go_wp2_with fail
    have B8 := Aside0.mk hB
    have T8 := Aside0.mk (T7.out.trans (hB.mono T7.out.size))
    clear hB
    have U8 := Aside0.mk (U7.out.trans (B8.out.mono U7.out.size))
    refine hK.out _ _ (HS7.out _ U8.out) (fun hHeld => ?_)
    clear hK K
    try simp only [Act.put, List.setIfInBounds_toArray, List.set_cons_zero, List.set_cons_succ]
    refine Inv.takeL (i := 5) (v := ?v10_5) rfl (by kernel_rfl) (by kernel_rfl) (by kernel_rfl) (fun _ _ _ h => h) (by rfl) ?hy10_5 (by assumption) ?rest10_5
    case hy10_5 => ((intro w hSw; (try dsimp only at hSw); go_simp) <;> with_reducible rfl)
    try simp only [Act.put, List.setIfInBounds_toArray, List.set_cons_zero, List.set_cons_succ]
    refine Inv.takeL (i := 6) (v := ?v10_6) rfl (by kernel_rfl) (by kernel_rfl) (by kernel_rfl) (fun _ _ _ h => h) (by rfl) ?hy10_6 (by assumption) ?rest10_6
    case hy10_6 => ((intro w hSw; (try dsimp only at hSw); go_simp) <;> with_reducible rfl)
    try simp only [Act.put, List.setIfInBounds_toArray, List.set_cons_zero, List.set_cons_succ]
    refine Inv.takeL (i := 7) (v := ?v10_7) rfl (by kernel_rfl) (by kernel_rfl) (by kernel_rfl) (fun _ _ _ h => h) (by rfl) ?hy10_7 (by assumption) ?rest10_7
    case hy10_7 => ((intro w hSw; (try dsimp only at hSw); go_simp) <;> with_reducible rfl)
    try simp only [Act.put, List.setIfInBounds_toArray, List.set_cons_zero, List.set_cons_succ]
    refine Inv.takeL (i := 8) (v := ?v10_8) rfl (by kernel_rfl) (by kernel_rfl) (by kernel_rfl) (fun _ _ _ h => h) (by rfl) ?hy10_8 (by assumption) ?rest10_8
    case hy10_8 => ((intro w hSw; (try dsimp only at hSw); go_simp) <;> with_reducible rfl)
    try simp only [Act.put, List.setIfInBounds_toArray, List.set_cons_zero, List.set_cons_succ]
    refine Inv.takeL (i := 10) (v := ?v10_10) rfl (by kernel_rfl) (by kernel_rfl) (by kernel_rfl) (fun _ _ _ h => h) (by rfl) ?hy10_10 (by assumption) ?rest10_10
    case hy10_10 => ((intro w hSw; (try dsimp only at hSw); go_simp) <;> with_reducible rfl)
    try simp only [Act.put, List.setIfInBounds_toArray, List.set_cons_zero, List.set_cons_succ]
    refine Inv.takeL (i := 11) (v := ?v10_11) rfl (by kernel_rfl) (by kernel_rfl) (by kernel_rfl) (fun _ _ _ h => h) (by rfl) ?hy10_11 (by assumption) ?rest10_11
    case hy10_11 => ((intro w hSw; (try dsimp only at hSw); go_simp) <;> with_reducible rfl)
    try simp only [Act.put, List.setIfInBounds_toArray, List.set_cons_zero, List.set_cons_succ]
    refine Inv.takeL (i := 14) (v := ?v10_14) rfl (by kernel_rfl) (by kernel_rfl) (by kernel_rfl) (fun _ _ _ h => h) (by rfl) ?hy10_14 (by assumption) ?rest10_14
    case hy10_14 => ((intro w hSw; (try dsimp only at hSw); go_simp) <;> with_reducible rfl)
    try simp only [Act.put, List.setIfInBounds_toArray, List.set_cons_zero, List.set_cons_succ]
    have HC : Aside0 (Calls Tryd.prog 68 #[(.agg #[.bool b_x, .slice A_x M_x c_x, .slice B_x K_x d_x]), (.agg #[.bool b_z, .slice A_z M_z c_z, .slice B_z K_z d_z])] w8 (RaPost w8 ((mkR g0 l0b l0c) + (mkR g2 l2b l2c)))) := ⟨qaddR (((H_x.out.below B6.out).below B7.out).below B8.out) (((H_z.out.below B6.out).below B7.out).below B8.out) (X_x.out.le (by decide)) (X_z.out.le (by decide))⟩
    refine Inv.oneL (i := 9) rfl (by kernel_rfl) (fun K hK => ?_)
    go_simp
    refine HC.out.mono ?_
    clear HC
    rintro e w9 ⟨v_s1, rfl, hN, hB⟩
    try go_wp2_with fail
    have B9 := Aside0.mk hB
    have T9 := Aside0.mk (T8.out.trans (hB.mono T8.out.size))
    have H_s1 := Aside0.mk hN
    have X_s1 := Aside0.mk (show Rb 7 ((mkR g0 l0b l0c) + (mkR g2 l2b l2c)) from add_bnd X_x.out X_z.out (by decide))
    clear hN hB
    have U9 := Aside0.mk (U8.out.trans (B9.out.mono U8.out.size))
    refine hK.out _ _ (HS7.out _ U9.out) (fun hHeld => ?_)
    clear hK K
    try simp only [Act.put, List.setIfInBounds_toArray, List.set_cons_zero, List.set_cons_succ]
    have HC : Aside0 (Calls Tryd.prog 68 #[(.agg #[.bool b_y, .slice A_y M_y c_y, .slice B_y K_y d_y]), (.agg #[.bool b_z, .slice A_z M_z c_z, .slice B_z K_z d_z])] w9 (RaPost w9 ((mkR g1 l1b l1c) + (mkR g2 l2b l2c)))) := ⟨qaddR ((((H_y.out.below B6.out).below B7.out).below B8.out).below B9.out) ((((H_z.out.below B6.out).below B7.out).below B8.out).below B9.out) (X_y.out.le (by decide)) (X_z.out.le (by decide))⟩
    refine Inv.oneL (i := 12) rfl (by kernel_rfl) (fun K hK => ?_)
    go_simp
    refine HC.out.mono ?_
    clear HC
    rintro e w10 ⟨v_s2, rfl, hN, hB⟩
    try go_wp2_with fail
    have B10 := Aside0.mk hB
    have T10 := Aside0.mk (T9.out.trans (hB.mono T9.out.size))
    have H_s2 := Aside0.mk hN
    have X_s2 := Aside0.mk (show Rb 7 ((mkR g1 l1b l1c) + (mkR g2 l2b l2c)) from add_bnd X_y.out X_z.out (by decide))
    clear hN hB
    have U10 := Aside0.mk (U9.out.trans (B10.out.mono U9.out.size))
    refine hK.out _ _ (HS7.out _ U10.out) (fun hHeld => ?_)
    clear hK K
    try simp only [Act.put, List.setIfInBounds_toArray, List.set_cons_zero, List.set_cons_succ]
    have HC : Aside0 (Calls Tryd.prog 74 #[v_s1, v_s2] w10 (IntPost w10 0)) := ⟨by have h := qcmpR (H_s1.out.below B10.out) H_s2.out (X_s1.out.le (by decide)) (X_s2.out.le (by decide)); rw [show cmpQ ((mkR g0 l0b l0c) + (mkR g2 l2b l2c)) ((mkR g1 l1b l1c) + (mkR g2 l2b l2c)) = 0 by rw [cmp_add, CZ.out]] at h; exact h⟩
    refine Inv.oneL (i := 13) rfl (by kernel_rfl) (fun K hK => ?_)
    go_simp
    refine HC.out.mono ?_
    clear HC
    rintro e w11 ⟨rfl, hB⟩
    try go_wp2_with fail
    have B11 := Aside0.mk hB
    have T11 := Aside0.mk (T10.out.trans (hB.mono T10.out.size))
    clear hB
    have U11 := Aside0.mk (U10.out.trans (B11.out.mono U10.out.size))
    refine hK.out _ _ (HS7.out _ U11.out) (fun hHeld => ?_)
    clear hK K
    try simp only [Act.put, List.setIfInBounds_toArray, List.set_cons_zero, List.set_cons_succ]
    refine Inv.takeL (i := 15) (v := ?v10_15) rfl (by kernel_rfl) (by kernel_rfl) (by kernel_rfl) (fun _ _ _ h => h) (by rfl) ?hy10_15 (by assumption) ?rest10_15
    case hy10_15 => ((intro w hSw; (try dsimp only at hSw); go_simp) <;> with_reducible rfl)
    try simp only [Act.put, List.setIfInBounds_toArray, List.set_cons_zero, List.set_cons_succ]
    refine Inv.takeL (i := 16) (v := ?v10_16) rfl (by kernel_rfl) (by kernel_rfl) (by kernel_rfl) (fun _ _ _ h => h) (by rfl) ?hy10_16 (by assumption) ?rest10_16
    case hy10_16 => ((intro w hSw; (try dsimp only at hSw); go_simp) <;> with_reducible rfl)
    try simp only [Act.put, List.setIfInBounds_toArray, List.set_cons_zero, List.set_cons_succ]
    refine Inv.takeL (i := 17) (v := ?v10_17) rfl (by kernel_rfl) (by kernel_rfl) (by kernel_rfl) (fun _ _ _ h => h) (by rfl) ?hy10_17 (by assumption) ?rest10_17
    case hy10_17 => ((intro w hSw; (try dsimp only at hSw); go_simp) <;> with_reducible rfl)
    try simp only [Act.put, List.setIfInBounds_toArray, List.set_cons_zero, List.set_cons_succ]
    refine Inv.takeL (i := 18) (v := ?v10_18) rfl (by kernel_rfl) (by kernel_rfl) (by kernel_rfl) (fun _ _ _ h => h) (by rfl) ?hy10_18 (by assumption) ?rest10_18
    case hy10_18 => ((intro w hSw; (try dsimp only at hSw); go_simp) <;> with_reducible rfl)
    try simp only [Act.put, List.setIfInBounds_toArray, List.set_cons_zero, List.set_cons_succ]
    refine Inv.takeL (i := 19) (v := ?v10_19) rfl (by kernel_rfl) (by kernel_rfl) (by kernel_rfl) (fun _ _ _ h => h) (by rfl) ?hy10_19 (by assumption) ?rest10_19
    case hy10_19 => ((intro w hSw; (try dsimp only at hSw); go_simp) <;> with_reducible rfl)
    try simp only [Act.put, List.setIfInBounds_toArray, List.set_cons_zero, List.set_cons_succ]
    refine Inv.takeL (i := 20) (v := ?v10_20) rfl (by kernel_rfl) (by kernel_rfl) (by kernel_rfl) (fun _ _ _ h => h) (by rfl) ?hy10_20 (by assumption) ?rest10_20
    case hy10_20 => ((intro w hSw; (try dsimp only at hSw); go_simp) <;> with_reducible rfl)
    try simp only [Act.put, List.setIfInBounds_toArray, List.set_cons_zero, List.set_cons_succ]
    refine Inv.takeL (i := 21) (v := ?v10_21) rfl (by kernel_rfl) (by kernel_rfl) (by kernel_rfl) (fun _ _ _ h => h) (by rfl) ?hy10_21 (by assumption) ?rest10_21
    case hy10_21 => ((intro w hSw; (try dsimp only at hSw); go_simp) <;> with_reducible rfl)
    try simp only [Act.put, List.setIfInBounds_toArray, List.set_cons_zero, List.set_cons_succ]
    have HC : Aside0 (Calls Tryd.prog 75 #[(.agg #[.bool b_x, .slice A_x M_x c_x, .slice B_x K_x d_x]), (.agg #[.bool b_y, .slice A_y M_y c_y, .slice B_y K_y d_y])] w11 (BoolPost w11 true)) := ⟨by have h := qsameR ((((((H_x.out.below B6.out).below B7.out).below B8.out).below B9.out).below B10.out).below B11.out) ((((((H_y.out.below B6.out).below B7.out).below B8.out).below B9.out).below B10.out).below B11.out) (X_x.out.le (by decide)) (X_y.out.le (by decide)); rw [decide_eq_true (cmp_eq0 CZ.out)] at h; exact h⟩
    refine Inv.oneL (i := 22) rfl (by kernel_rfl) (fun K hK => ?_)
    go_simp
    refine HC.out.mono ?_
    clear HC
    rintro e w12 ⟨rfl, hB⟩
    try go_wp2_with fail
    have B12 := Aside0.mk hB
    have T12 := Aside0.mk (T11.out.trans (hB.mono T11.out.size))
    clear hB
    have U12 := Aside0.mk (U11.out.trans (B12.out.mono U11.out.size))
    refine hK.out _ _ (HS7.out _ U12.out) (fun hHeld => ?_)
    clear hK K
    try simp only [Act.put, List.setIfInBounds_toArray, List.set_cons_zero, List.set_cons_succ]
    refine Inv.takeL (i := 23) (v := ?v10_23) rfl (by kernel_rfl) (by kernel_rfl) (by kernel_rfl) (fun _ _ _ h => h) (by rfl) ?hy10_23 (by assumption) ?rest10_23
    case hy10_23 => ((intro w hSw; (try dsimp only at hSw); go_simp) <;> with_reducible rfl)
    try simp only [Act.put, List.setIfInBounds_toArray, List.set_cons_zero, List.set_cons_succ]
    refine Inv.takeL (i := 24) (v := ?v10_24) rfl (by kernel_rfl) (by kernel_rfl) (by kernel_rfl) (fun _ _ _ h => h) (by rfl) ?hy10_24 (by assumption) ?rest10_24
    case hy10_24 => ((intro w hSw; (try dsimp only at hSw); go_simp) <;> with_reducible rfl)
    try simp only [Act.put, List.setIfInBounds_toArray, List.set_cons_zero, List.set_cons_succ]
    refine Inv.takeL (i := 25) (v := ?v10_25) rfl (by kernel_rfl) (by kernel_rfl) (by kernel_rfl) (fun _ _ _ h => h) (by rfl) ?hy10_25 (by assumption) ?rest10_25
    case hy10_25 => ((intro w hSw; (try dsimp only at hSw); go_simp) <;> with_reducible rfl)
    try simp only [Act.put, List.setIfInBounds_toArray, List.set_cons_zero, List.set_cons_succ]
    refine Inv.takeL (i := 26) (v := ?v10_26) rfl (by kernel_rfl) (by kernel_rfl) (by kernel_rfl) (fun _ _ _ h => h) (by rfl) ?hy10_26 (by assumption) ?rest10_26
    case hy10_26 => ((intro w hSw; (try dsimp only at hSw); go_simp) <;> with_reducible rfl)
    try simp only [Act.put, List.setIfInBounds_toArray, List.set_cons_zero, List.set_cons_succ]
    refine Inv.takeL (i := 28) (v := ?v10_28) rfl (by kernel_rfl) (by kernel_rfl) (by kernel_rfl) (fun _ _ _ h => h) (by rfl) ?hy10_28 (by assumption) ?rest10_28
    case hy10_28 => ((intro w hSw; (try dsimp only at hSw); go_simp) <;> with_reducible rfl)
    try simp only [Act.put, List.setIfInBounds_toArray, List.set_cons_zero, List.set_cons_succ]
    refine Inv.takeL (i := 31) (v := ?v10_31) rfl (by kernel_rfl) (by kernel_rfl) (by kernel_rfl) (fun _ _ _ h => h) (by rfl) ?hy10_31 (by assumption) ?rest10_31
    case hy10_31 => ((intro w hSw; (try dsimp only at hSw); go_simp) <;> with_reducible rfl)
    try simp only [Act.put, List.setIfInBounds_toArray, List.set_cons_zero, List.set_cons_succ]
    refine Inv.takeL (i := 32) (v := ?v10_32) rfl (by kernel_rfl) (by kernel_rfl) (by kernel_rfl) (fun _ _ _ h => h) (by rfl) ?hy10_32 (by assumption) ?rest10_32
    case hy10_32 => ((intro w hSw; (try dsimp only at hSw); go_simp) <;> with_reducible rfl)
    try simp only [Act.put, List.setIfInBounds_toArray, List.set_cons_zero, List.set_cons_succ]
    have HC : Aside0 (Calls Tryd.prog 70 #[(.agg #[.bool b_x, .slice A_x M_x c_x, .slice B_x K_x d_x])] w12 (RaPost w12 (-(mkR g0 l0b l0c)))) := ⟨qnegR (((((((H_x.out.below B6.out).below B7.out).below B8.out).below B9.out).below B10.out).below B11.out).below B12.out) (X_x.out.le (by decide))⟩
    refine Inv.oneL (i := 27) rfl (by kernel_rfl) (fun K hK => ?_)
    go_simp
    refine HC.out.mono ?_
    clear HC
    rintro e w13 ⟨v_n1, rfl, hN, hB⟩
    try go_wp2_with fail
    have B13 := Aside0.mk hB
    have T13 := Aside0.mk (T12.out.trans (hB.mono T12.out.size))
    have H_n1 := Aside0.mk hN
    have X_n1 := Aside0.mk (show Rb 3 (-(mkR g0 l0b l0c)) from neg_bnd X_x.out)
    clear hN hB
    have U13 := Aside0.mk (U12.out.trans (B13.out.mono U12.out.size))
    refine hK.out _ _ (HS7.out _ U13.out) (fun hHeld => ?_)
    clear hK K
    try simp only [Act.put, List.setIfInBounds_toArray, List.set_cons_zero, List.set_cons_succ]
    have HC : Aside0 (Calls Tryd.prog 70 #[(.agg #[.bool b_y, .slice A_y M_y c_y, .slice B_y K_y d_y])] w13 (RaPost w13 (-(mkR g1 l1b l1c)))) := ⟨qnegR ((((((((H_y.out.below B6.out).below B7.out).below B8.out).below B9.out).below B10.out).below B11.out).below B12.out).below B13.out) (X_y.out.le (by decide))⟩
    refine Inv.oneL (i := 29) rfl (by kernel_rfl) (fun K hK => ?_)
    go_simp
    refine HC.out.mono ?_
    clear HC
    rintro e w14 ⟨v_n2, rfl, hN, hB⟩
    try go_wp2_with fail
    have B14 := Aside0.mk hB
    have T14 := Aside0.mk (T13.out.trans (hB.mono T13.out.size))
    have H_n2 := Aside0.mk hN
    have X_n2 := Aside0.mk (show Rb 3 (-(mkR g1 l1b l1c)) from neg_bnd X_y.out)
    clear hN hB
    have U14 := Aside0.mk (U13.out.trans (B14.out.mono U13.out.size))
    refine hK.out _ _ (HS7.out _ U14.out) (fun hHeld => ?_)
    clear hK K
    try simp only [Act.put, List.setIfInBounds_toArray, List.set_cons_zero, List.set_cons_succ]
    have HC : Aside0 (Calls Tryd.prog 74 #[v_n1, v_n2] w14 (IntPost w14 0)) := ⟨by have h := qcmpR (H_n1.out.below B14.out) H_n2.out (X_n1.out.le (by decide)) (X_n2.out.le (by decide)); rw [show cmpQ (-(mkR g0 l0b l0c)) (-(mkR g1 l1b l1c)) = 0 by rw [cmp_neg, CZ.out] <;> rfl] at h; exact h⟩
    refine Inv.oneL (i := 30) rfl (by kernel_rfl) (fun K hK => ?_)
    go_simp
    refine HC.out.mono ?_
    clear HC
    rintro e w15 ⟨rfl, hB⟩
    try go_wp2_with fail
    have B15 := Aside0.mk hB
    have T15 := Aside0.mk (T14.out.trans (hB.mono T14.out.size))
    clear hB
    have U15 := Aside0.mk (U14.out.trans (B15.out.mono U14.out.size))
    refine hK.out _ _ (HS7.out _ U15.out) (fun hHeld => ?_)
    clear hK K
    try simp only [Act.put, List.setIfInBounds_toArray, List.set_cons_zero, List.set_cons_succ]
    refine Inv.takeL (i := 33) (v := ?v10_33) rfl (by kernel_rfl) (by kernel_rfl) (by kernel_rfl) (fun _ _ _ h => h) (by rfl) ?hy10_33 (by assumption) ?rest10_33
    case hy10_33 => ((intro w hSw; (try dsimp only at hSw); go_simp) <;> with_reducible rfl)
    try simp only [Act.put, List.setIfInBounds_toArray, List.set_cons_zero, List.set_cons_succ]
    refine Inv.takeL (i := 34) (v := ?v10_34) rfl (by kernel_rfl) (by kernel_rfl) (by kernel_rfl) (fun _ _ _ h => h) (by rfl) ?hy10_34 (by assumption) ?rest10_34
    case hy10_34 => ((intro w hSw; (try dsimp only at hSw); go_simp) <;> with_reducible rfl)
    try simp only [Act.put, List.setIfInBounds_toArray, List.set_cons_zero, List.set_cons_succ]
    refine wpAnyH_done (by kernel_rfl) ?_ _
    by_cases hz0 : (mkR g2 l2b l2c) = 0
    ·
      have Z0 := Aside0.mk hz0
      clear hz0
      obtain ⟨⟨hu00, hu01, hu02⟩, _⟩ := ((((((((((H_bx_z.out.below B6.out).below B7.out).below B8.out).below B9.out).below B10.out).below B11.out).below B12.out).below B13.out).below B14.out).below B15.out)
      have HC : Aside0 (Calls Tryd.prog 76 #[(.agg #[.bool b_z, .slice A_z M_z c_z, .slice B_z K_z d_z])] w15 (RaPost w15 (Rat.abs (mkR g2 l2b l2c)))) := ⟨qabsR ((((((((((H_z.out.below B6.out).below B7.out).below B8.out).below B9.out).below B10.out).below B11.out).below B12.out).below B13.out).below B14.out).below B15.out) (X_z.out.le (by decide))⟩
      go_wp2_with fail
      refine HC.out.mono ?_
      clear HC
      rintro e w16 ⟨v_p, rfl, ⟨A_p, M_p, c_p, B_p, K_p, d_p, rfl, hNA, hNB⟩, hB⟩
      have B16 := Aside0.mk hB
      have T16 := Aside0.mk (T15.out.trans (hB.mono T15.out.size))
      obtain ⟨b_p, hb_p⟩ : ∃ b, b = decide ((Rat.abs (mkR g2 l2b l2c)).num < 0) := ⟨_, rfl⟩
      rw [← hb_p]
      have E_p := Aside0.mk hb_p
      clear hb_p
      have NA_p := Aside0.mk hNA
      have NB_p := Aside0.mk hNB
      clear hNA hNB hB
      clear hu00 hu01 hu02
      have H_bx_p := Aside0.mk (Blk_alloc w16 (.bool b_p) (.slice A_p M_p c_p) (.slice B_p K_p d_p) 56)
      have B17 := Aside0.mk (below_alloc (Below.refl w16.heap.size w16) (.cells #[.bool b_p, .slice A_p M_p c_p, .slice B_p K_p d_p] 56))
      have T17 := Aside0.mk (T16.out.trans (B17.out.mono T16.out.size))
      have H_p0 := Aside0.mk (show Ra w16 (.agg #[(.bool b_p), (.slice A_p M_p c_p), (.slice B_p K_p d_p)]) (Rat.abs (mkR g2 l2b l2c)) from by unfold Ra; rw [← E_p.out]; exact ⟨_, _, _, _, _, _, rfl, NA_p.out, NB_p.out⟩)
      have X_p := Aside0.mk (show Rb 3 (Rat.abs (mkR g2 l2b l2c)) from abs_bnd X_z.out)
      have H_p := Aside0.mk (show Ra (w16.alloc (.cells #[.bool b_p, .slice A_p M_p c_p, .slice B_p K_p d_p] 56)) (.agg #[(.bool b_p), (.slice A_p M_p c_p), (.slice B_p K_p d_p)]) (Rat.abs (mkR g2 l2b l2c)) from R3.below H_p0.out (below_alloc (Below.refl _ _) _))
      go_wp2_with fail
      have B18 := Aside0.mk (Below.drew (Below.refl (w16.alloc (.cells #[.bool b_p, .slice A_p M_p c_p, .slice B_p K_p d_p] 56)).heap.size (w16.alloc (.cells #[.bool b_p, .slice A_p M_p c_p, .slice B_p K_p d_p] 56))))
      have T18 := Aside0.mk (T17.out.trans (B18.out.mono T17.out.size))
      have HS18 := Aside0.mk (fun (W : World) (hW : Below ((w16.alloc (.cells #[.bool b_p, .slice A_p M_p c_p, .slice B_p K_p d_p] 56)).drew).heap.size ((w16.alloc (.cells #[.bool b_p, .slice A_p M_p c_p, .slice B_p K_p d_p] 56)).drew) W) => show W.cell? ⟨p0, 0, none⟩ = some (.bool b_x) ∧ W.cell? ⟨p0, 1, none⟩ = some (.slice A_x M_x c_x) ∧ W.cell? ⟨p0, 2, none⟩ = some (.slice B_x K_x d_x) ∧ W.cell? ⟨p1, 0, none⟩ = some (.bool b_y) ∧ W.cell? ⟨p1, 1, none⟩ = some (.slice A_y M_y c_y) ∧ W.cell? ⟨p1, 2, none⟩ = some (.slice B_y K_y d_y) ∧ W.cell? ⟨p2, 0, none⟩ = some (.bool b_z) ∧ W.cell? ⟨p2, 1, none⟩ = some (.slice A_z M_z c_z) ∧ W.cell? ⟨p2, 2, none⟩ = some (.slice B_z K_z d_z) ∧ W.cell? ⟨w16.heap.size, 0, none⟩ = some (.bool b_p) ∧ W.cell? ⟨w16.heap.size, 1, none⟩ = some (.slice A_p M_p c_p) ∧ W.cell? ⟨w16.heap.size, 2, none⟩ = some (.slice B_p K_p d_p) from ⟨((((((((((((((H_bx_x.out.below B6.out).below B7.out).below B8.out).below B9.out).below B10.out).below B11.out).below B12.out).below B13.out).below B14.out).below B15.out).below B16.out).below B17.out).below B18.out).below hW).1.1, ((((((((((((((H_bx_x.out.below B6.out).below B7.out).below B8.out).below B9.out).below B10.out).below B11.out).below B12.out).below B13.out).below B14.out).below B15.out).below B16.out).below B17.out).below B18.out).below hW).1.2.1, ((((((((((((((H_bx_x.out.below B6.out).below B7.out).below B8.out).below B9.out).below B10.out).below B11.out).below B12.out).below B13.out).below B14.out).below B15.out).below B16.out).below B17.out).below B18.out).below hW).1.2.2, ((((((((((((((H_bx_y.out.below B6.out).below B7.out).below B8.out).below B9.out).below B10.out).below B11.out).below B12.out).below B13.out).below B14.out).below B15.out).below B16.out).below B17.out).below B18.out).below hW).1.1, ((((((((((((((H_bx_y.out.below B6.out).below B7.out).below B8.out).below B9.out).below B10.out).below B11.out).below B12.out).below B13.out).below B14.out).below B15.out).below B16.out).below B17.out).below B18.out).below hW).1.2.1, ((((((((((((((H_bx_y.out.below B6.out).below B7.out).below B8.out).below B9.out).below B10.out).below B11.out).below B12.out).below B13.out).below B14.out).below B15.out).below B16.out).below B17.out).below B18.out).below hW).1.2.2, ((((((((((((((H_bx_z.out.below B6.out).below B7.out).below B8.out).below B9.out).below B10.out).below B11.out).below B12.out).below B13.out).below B14.out).below B15.out).below B16.out).below B17.out).below B18.out).below hW).1.1, ((((((((((((((H_bx_z.out.below B6.out).below B7.out).below B8.out).below B9.out).below B10.out).below B11.out).below B12.out).below B13.out).below B14.out).below B15.out).below B16.out).below B17.out).below B18.out).below hW).1.2.1, ((((((((((((((H_bx_z.out.below B6.out).below B7.out).below B8.out).below B9.out).below B10.out).below B11.out).below B12.out).below B13.out).below B14.out).below B15.out).below B16.out).below B17.out).below B18.out).below hW).1.2.2, ((H_bx_p.out.below B18.out).below hW).1.1, ((H_bx_p.out.below B18.out).below hW).1.2.1, ((H_bx_p.out.below B18.out).below hW).1.2.2⟩)
      have U18 := Aside0.mk (Below.refl ((w16.alloc (.cells #[.bool b_p, .slice A_p M_p c_p, .slice B_p K_p d_p] 56)).drew).heap.size ((w16.alloc (.cells #[.bool b_p, .slice A_p M_p c_p, .slice B_p K_p d_p] 56)).drew))
      refine wp_region_held_drew (S := fun W => W.cell? ⟨p0, 0, none⟩ = some (.bool b_x) ∧ W.cell? ⟨p0, 1, none⟩ = some (.slice A_x M_x c_x) ∧ W.cell? ⟨p0, 2, none⟩ = some (.slice B_x K_x d_x) ∧ W.cell? ⟨p1, 0, none⟩ = some (.bool b_y) ∧ W.cell? ⟨p1, 1, none⟩ = some (.slice A_y M_y c_y) ∧ W.cell? ⟨p1, 2, none⟩ = some (.slice B_y K_y d_y) ∧ W.cell? ⟨p2, 0, none⟩ = some (.bool b_z) ∧ W.cell? ⟨p2, 1, none⟩ = some (.slice A_z M_z c_z) ∧ W.cell? ⟨p2, 2, none⟩ = some (.slice B_z K_z d_z) ∧ W.cell? ⟨w16.heap.size, 0, none⟩ = some (.bool b_p) ∧ W.cell? ⟨w16.heap.size, 1, none⟩ = some (.slice A_p M_p c_p) ∧ W.cell? ⟨w16.heap.size, 2, none⟩ = some (.slice B_p K_p d_p)) (by kernel_rfl) (HS18.out _ (Below.refl _ _)) (fun hHeld => ?_)
      refine Inv.takeL (i := 0) (v := ?v11_0) rfl (by kernel_rfl) (by kernel_rfl) (by kernel_rfl) (fun _ _ _ h => h) (by rfl) ?hy11_0 (by assumption) ?rest11_0
      case hy11_0 => ((intro w hSw; (try dsimp only at hSw); go_simp) <;> with_reducible rfl)
      try simp only [Act.put, List.setIfInBounds_toArray, List.set_cons_zero, List.set_cons_succ]
      have HC : Aside0 (Calls Tryd.prog 73 #[(.agg #[.bool b_z, .slice A_z M_z c_z, .slice B_z K_z d_z])] ((w16.alloc (.cells #[.bool b_p, .slice A_p M_p c_p, .slice B_p K_p d_p] 56)).drew) (BoolPost ((w16.alloc (.cells #[.bool b_p, .slice A_p M_p c_p, .slice B_p K_p d_p] 56)).drew) true)) := ⟨by have h := snought_w (((((((((((((H_z.out.below B6.out).below B7.out).below B8.out).below B9.out).below B10.out).below B11.out).below B12.out).below B13.out).below B14.out).below B15.out).below B16.out).below B17.out).below B18.out); rw [decide_eq_true Z0.out] at h; exact h⟩
      refine Inv.oneL (i := 1) rfl (by kernel_rfl) (fun K hK => ?_)
      go_simp
      refine HC.out.mono ?_
      clear HC
      rintro e w19 ⟨rfl, hB⟩
      try go_wp2_with fail
      have B19 := Aside0.mk hB
      have T19 := Aside0.mk (T18.out.trans (hB.mono T18.out.size))
      clear hB
      have U19 := Aside0.mk (U18.out.trans (B19.out.mono U18.out.size))
      refine hK.out _ _ (HS18.out _ U19.out) (fun hHeld => ?_)
      clear hK K
      try simp only [Act.put, List.setIfInBounds_toArray, List.set_cons_zero, List.set_cons_succ]
      refine Inv.takeL (i := 2) (v := ?v11_2) rfl (by kernel_rfl) (by kernel_rfl) (by kernel_rfl) (fun _ _ _ h => h) (by rfl) ?hy11_2 (by assumption) ?rest11_2
      case hy11_2 => ((intro w hSw; (try dsimp only at hSw); go_simp) <;> with_reducible rfl)
      try simp only [Act.put, List.setIfInBounds_toArray, List.set_cons_zero, List.set_cons_succ]
      refine Inv.skipL (i := 3) rfl (by kernel_rfl) (by kernel_rfl) (by kernel_rfl) (fun _ _ _ h => h) (by rfl) (by assumption) ?_
      try simp only [Act.put, List.setIfInBounds_toArray, List.set_cons_zero, List.set_cons_succ]
      refine Inv.skipL (i := 4) rfl (by kernel_rfl) (by kernel_rfl) (by kernel_rfl) (fun _ _ _ h => h) (by rfl) (by assumption) ?_
      try simp only [Act.put, List.setIfInBounds_toArray, List.set_cons_zero, List.set_cons_succ]
      refine Inv.skipL (i := 5) rfl (by kernel_rfl) (by kernel_rfl) (by kernel_rfl) (fun _ _ _ h => h) (by rfl) (by assumption) ?_
      try simp only [Act.put, List.setIfInBounds_toArray, List.set_cons_zero, List.set_cons_succ]
      refine Inv.skipL (i := 6) rfl (by kernel_rfl) (by kernel_rfl) (by kernel_rfl) (fun _ _ _ h => h) (by rfl) (by assumption) ?_
      try simp only [Act.put, List.setIfInBounds_toArray, List.set_cons_zero, List.set_cons_succ]
      refine Inv.skipL (i := 7) rfl (by kernel_rfl) (by kernel_rfl) (by kernel_rfl) (fun _ _ _ h => h) (by rfl) (by assumption) ?_
      try simp only [Act.put, List.setIfInBounds_toArray, List.set_cons_zero, List.set_cons_succ]
      refine Inv.skipL (i := 8) rfl (by kernel_rfl) (by kernel_rfl) (by kernel_rfl) (fun _ _ _ h => h) (by rfl) (by assumption) ?_
      try simp only [Act.put, List.setIfInBounds_toArray, List.set_cons_zero, List.set_cons_succ]
      refine Inv.skipL (i := 9) rfl (by kernel_rfl) (by kernel_rfl) (by kernel_rfl) (fun _ _ _ h => h) (by rfl) (by assumption) ?_
      try simp only [Act.put, List.setIfInBounds_toArray, List.set_cons_zero, List.set_cons_succ]
      refine Inv.skipL (i := 10) rfl (by kernel_rfl) (by kernel_rfl) (by kernel_rfl) (fun _ _ _ h => h) (by rfl) (by assumption) ?_
      try simp only [Act.put, List.setIfInBounds_toArray, List.set_cons_zero, List.set_cons_succ]
      refine Inv.skipL (i := 11) rfl (by kernel_rfl) (by kernel_rfl) (by kernel_rfl) (fun _ _ _ h => h) (by rfl) (by assumption) ?_
      try simp only [Act.put, List.setIfInBounds_toArray, List.set_cons_zero, List.set_cons_succ]
      refine Inv.skipL (i := 12) rfl (by kernel_rfl) (by kernel_rfl) (by kernel_rfl) (fun _ _ _ h => h) (by rfl) (by assumption) ?_
      try simp only [Act.put, List.setIfInBounds_toArray, List.set_cons_zero, List.set_cons_succ]
      refine Inv.skipL (i := 13) rfl (by kernel_rfl) (by kernel_rfl) (by kernel_rfl) (fun _ _ _ h => h) (by rfl) (by assumption) ?_
      try simp only [Act.put, List.setIfInBounds_toArray, List.set_cons_zero, List.set_cons_succ]
      refine Inv.skipL (i := 14) rfl (by kernel_rfl) (by kernel_rfl) (by kernel_rfl) (fun _ _ _ h => h) (by rfl) (by assumption) ?_
      try simp only [Act.put, List.setIfInBounds_toArray, List.set_cons_zero, List.set_cons_succ]
      refine Inv.skipL (i := 15) rfl (by kernel_rfl) (by kernel_rfl) (by kernel_rfl) (fun _ _ _ h => h) (by rfl) (by assumption) ?_
      try simp only [Act.put, List.setIfInBounds_toArray, List.set_cons_zero, List.set_cons_succ]
      refine Inv.skipL (i := 16) rfl (by kernel_rfl) (by kernel_rfl) (by kernel_rfl) (fun _ _ _ h => h) (by rfl) (by assumption) ?_
      try simp only [Act.put, List.setIfInBounds_toArray, List.set_cons_zero, List.set_cons_succ]
      refine Inv.skipL (i := 17) rfl (by kernel_rfl) (by kernel_rfl) (by kernel_rfl) (fun _ _ _ h => h) (by rfl) (by assumption) ?_
      try simp only [Act.put, List.setIfInBounds_toArray, List.set_cons_zero, List.set_cons_succ]
      refine Inv.skipL (i := 18) rfl (by kernel_rfl) (by kernel_rfl) (by kernel_rfl) (fun _ _ _ h => h) (by rfl) (by assumption) ?_
      try simp only [Act.put, List.setIfInBounds_toArray, List.set_cons_zero, List.set_cons_succ]
      refine Inv.skipL (i := 19) rfl (by kernel_rfl) (by kernel_rfl) (by kernel_rfl) (fun _ _ _ h => h) (by rfl) (by assumption) ?_
      try simp only [Act.put, List.setIfInBounds_toArray, List.set_cons_zero, List.set_cons_succ]
      refine Inv.skipL (i := 20) rfl (by kernel_rfl) (by kernel_rfl) (by kernel_rfl) (fun _ _ _ h => h) (by rfl) (by assumption) ?_
      try simp only [Act.put, List.setIfInBounds_toArray, List.set_cons_zero, List.set_cons_succ]
      refine Inv.skipL (i := 21) rfl (by kernel_rfl) (by kernel_rfl) (by kernel_rfl) (fun _ _ _ h => h) (by rfl) (by assumption) ?_
      try simp only [Act.put, List.setIfInBounds_toArray, List.set_cons_zero, List.set_cons_succ]
      refine Inv.skipL (i := 22) rfl (by kernel_rfl) (by kernel_rfl) (by kernel_rfl) (fun _ _ _ h => h) (by rfl) (by assumption) ?_
      try simp only [Act.put, List.setIfInBounds_toArray, List.set_cons_zero, List.set_cons_succ]
      refine Inv.skipL (i := 23) rfl (by kernel_rfl) (by kernel_rfl) (by kernel_rfl) (fun _ _ _ h => h) (by rfl) (by assumption) ?_
      try simp only [Act.put, List.setIfInBounds_toArray, List.set_cons_zero, List.set_cons_succ]
      refine Inv.skipL (i := 24) rfl (by kernel_rfl) (by kernel_rfl) (by kernel_rfl) (fun _ _ _ h => h) (by rfl) (by assumption) ?_
      try simp only [Act.put, List.setIfInBounds_toArray, List.set_cons_zero, List.set_cons_succ]
      refine Inv.skipL (i := 25) rfl (by kernel_rfl) (by kernel_rfl) (by kernel_rfl) (fun _ _ _ h => h) (by rfl) (by assumption) ?_
      try simp only [Act.put, List.setIfInBounds_toArray, List.set_cons_zero, List.set_cons_succ]
      refine Inv.skipL (i := 26) rfl (by kernel_rfl) (by kernel_rfl) (by kernel_rfl) (fun _ _ _ h => h) (by rfl) (by assumption) ?_
      try simp only [Act.put, List.setIfInBounds_toArray, List.set_cons_zero, List.set_cons_succ]
      refine Inv.skipL (i := 27) rfl (by kernel_rfl) (by kernel_rfl) (by kernel_rfl) (fun _ _ _ h => h) (by rfl) (by assumption) ?_
      try simp only [Act.put, List.setIfInBounds_toArray, List.set_cons_zero, List.set_cons_succ]
      refine Inv.skipL (i := 28) rfl (by kernel_rfl) (by kernel_rfl) (by kernel_rfl) (fun _ _ _ h => h) (by rfl) (by assumption) ?_
      try simp only [Act.put, List.setIfInBounds_toArray, List.set_cons_zero, List.set_cons_succ]
      refine Inv.skipL (i := 29) rfl (by kernel_rfl) (by kernel_rfl) (by kernel_rfl) (fun _ _ _ h => h) (by rfl) (by assumption) ?_
      try simp only [Act.put, List.setIfInBounds_toArray, List.set_cons_zero, List.set_cons_succ]
      refine Inv.skipL (i := 30) rfl (by kernel_rfl) (by kernel_rfl) (by kernel_rfl) (fun _ _ _ h => h) (by rfl) (by assumption) ?_
      try simp only [Act.put, List.setIfInBounds_toArray, List.set_cons_zero, List.set_cons_succ]
      refine Inv.takeL (i := 31) (v := ?v11_31) rfl (by kernel_rfl) (by kernel_rfl) (by kernel_rfl) (fun _ _ _ h => h) (by rfl) ?hy11_31 (by assumption) ?rest11_31
      case hy11_31 => ((intro w hSw; (try dsimp only at hSw); go_simp) <;> with_reducible rfl)
      try simp only [Act.put, List.setIfInBounds_toArray, List.set_cons_zero, List.set_cons_succ]
      refine Inv.takeL (i := 32) (v := ?v11_32) rfl (by kernel_rfl) (by kernel_rfl) (by kernel_rfl) (fun _ _ _ h => h) (by rfl) ?hy11_32 (by assumption) ?rest11_32
      case hy11_32 => ((intro w hSw; (try dsimp only at hSw); go_simp) <;> with_reducible rfl)
      try simp only [Act.put, List.setIfInBounds_toArray, List.set_cons_zero, List.set_cons_succ]
      refine wpAnyH_done (by kernel_rfl) ?_ _
      go_wp2_with fail
      go_ret
      exact ⟨rfl, T19.out⟩
    ·
      have Z0 := Aside0.mk hz0
      clear hz0
      obtain ⟨⟨hu00, hu01, hu02⟩, _⟩ := ((((((((((H_bx_z.out.below B6.out).below B7.out).below B8.out).below B9.out).below B10.out).below B11.out).below B12.out).below B13.out).below B14.out).below B15.out)
      have HC : Aside0 (Calls Tryd.prog 76 #[(.agg #[.bool b_z, .slice A_z M_z c_z, .slice B_z K_z d_z])] w15 (RaPost w15 (Rat.abs (mkR g2 l2b l2c)))) := ⟨qabsR ((((((((((H_z.out.below B6.out).below B7.out).below B8.out).below B9.out).below B10.out).below B11.out).below B12.out).below B13.out).below B14.out).below B15.out) (X_z.out.le (by decide))⟩
      go_wp2_with fail
      refine HC.out.mono ?_
      clear HC
      rintro e w16 ⟨v_p, rfl, ⟨A_p, M_p, c_p, B_p, K_p, d_p, rfl, hNA, hNB⟩, hB⟩
      have B16 := Aside0.mk hB
      have T16 := Aside0.mk (T15.out.trans (hB.mono T15.out.size))
      obtain ⟨b_p, hb_p⟩ : ∃ b, b = decide ((Rat.abs (mkR g2 l2b l2c)).num < 0) := ⟨_, rfl⟩
      rw [← hb_p]
      have E_p := Aside0.mk hb_p
      clear hb_p
      have NA_p := Aside0.mk hNA
      have NB_p := Aside0.mk hNB
      clear hNA hNB hB
      clear hu00 hu01 hu02
      have H_bx_p := Aside0.mk (Blk_alloc w16 (.bool b_p) (.slice A_p M_p c_p) (.slice B_p K_p d_p) 56)
      have B17 := Aside0.mk (below_alloc (Below.refl w16.heap.size w16) (.cells #[.bool b_p, .slice A_p M_p c_p, .slice B_p K_p d_p] 56))
      have T17 := Aside0.mk (T16.out.trans (B17.out.mono T16.out.size))
      have H_p0 := Aside0.mk (show Ra w16 (.agg #[(.bool b_p), (.slice A_p M_p c_p), (.slice B_p K_p d_p)]) (Rat.abs (mkR g2 l2b l2c)) from by unfold Ra; rw [← E_p.out]; exact ⟨_, _, _, _, _, _, rfl, NA_p.out, NB_p.out⟩)
      have X_p := Aside0.mk (show Rb 3 (Rat.abs (mkR g2 l2b l2c)) from abs_bnd X_z.out)
      have H_p := Aside0.mk (show Ra (w16.alloc (.cells #[.bool b_p, .slice A_p M_p c_p, .slice B_p K_p d_p] 56)) (.agg #[(.bool b_p), (.slice A_p M_p c_p), (.slice B_p K_p d_p)]) (Rat.abs (mkR g2 l2b l2c)) from R3.below H_p0.out (below_alloc (Below.refl _ _) _))
      have PP := Aside0.mk (abs_pos Z0.out)
      go_wp2_with fail
      have B18 := Aside0.mk (Below.drew (Below.refl (w16.alloc (.cells #[.bool b_p, .slice A_p M_p c_p, .slice B_p K_p d_p] 56)).heap.size (w16.alloc (.cells #[.bool b_p, .slice A_p M_p c_p, .slice B_p K_p d_p] 56))))
      have T18 := Aside0.mk (T17.out.trans (B18.out.mono T17.out.size))
      have HS18 := Aside0.mk (fun (W : World) (hW : Below ((w16.alloc (.cells #[.bool b_p, .slice A_p M_p c_p, .slice B_p K_p d_p] 56)).drew).heap.size ((w16.alloc (.cells #[.bool b_p, .slice A_p M_p c_p, .slice B_p K_p d_p] 56)).drew) W) => show W.cell? ⟨p0, 0, none⟩ = some (.bool b_x) ∧ W.cell? ⟨p0, 1, none⟩ = some (.slice A_x M_x c_x) ∧ W.cell? ⟨p0, 2, none⟩ = some (.slice B_x K_x d_x) ∧ W.cell? ⟨p1, 0, none⟩ = some (.bool b_y) ∧ W.cell? ⟨p1, 1, none⟩ = some (.slice A_y M_y c_y) ∧ W.cell? ⟨p1, 2, none⟩ = some (.slice B_y K_y d_y) ∧ W.cell? ⟨p2, 0, none⟩ = some (.bool b_z) ∧ W.cell? ⟨p2, 1, none⟩ = some (.slice A_z M_z c_z) ∧ W.cell? ⟨p2, 2, none⟩ = some (.slice B_z K_z d_z) ∧ W.cell? ⟨w16.heap.size, 0, none⟩ = some (.bool b_p) ∧ W.cell? ⟨w16.heap.size, 1, none⟩ = some (.slice A_p M_p c_p) ∧ W.cell? ⟨w16.heap.size, 2, none⟩ = some (.slice B_p K_p d_p) from ⟨((((((((((((((H_bx_x.out.below B6.out).below B7.out).below B8.out).below B9.out).below B10.out).below B11.out).below B12.out).below B13.out).below B14.out).below B15.out).below B16.out).below B17.out).below B18.out).below hW).1.1, ((((((((((((((H_bx_x.out.below B6.out).below B7.out).below B8.out).below B9.out).below B10.out).below B11.out).below B12.out).below B13.out).below B14.out).below B15.out).below B16.out).below B17.out).below B18.out).below hW).1.2.1, ((((((((((((((H_bx_x.out.below B6.out).below B7.out).below B8.out).below B9.out).below B10.out).below B11.out).below B12.out).below B13.out).below B14.out).below B15.out).below B16.out).below B17.out).below B18.out).below hW).1.2.2, ((((((((((((((H_bx_y.out.below B6.out).below B7.out).below B8.out).below B9.out).below B10.out).below B11.out).below B12.out).below B13.out).below B14.out).below B15.out).below B16.out).below B17.out).below B18.out).below hW).1.1, ((((((((((((((H_bx_y.out.below B6.out).below B7.out).below B8.out).below B9.out).below B10.out).below B11.out).below B12.out).below B13.out).below B14.out).below B15.out).below B16.out).below B17.out).below B18.out).below hW).1.2.1, ((((((((((((((H_bx_y.out.below B6.out).below B7.out).below B8.out).below B9.out).below B10.out).below B11.out).below B12.out).below B13.out).below B14.out).below B15.out).below B16.out).below B17.out).below B18.out).below hW).1.2.2, ((((((((((((((H_bx_z.out.below B6.out).below B7.out).below B8.out).below B9.out).below B10.out).below B11.out).below B12.out).below B13.out).below B14.out).below B15.out).below B16.out).below B17.out).below B18.out).below hW).1.1, ((((((((((((((H_bx_z.out.below B6.out).below B7.out).below B8.out).below B9.out).below B10.out).below B11.out).below B12.out).below B13.out).below B14.out).below B15.out).below B16.out).below B17.out).below B18.out).below hW).1.2.1, ((((((((((((((H_bx_z.out.below B6.out).below B7.out).below B8.out).below B9.out).below B10.out).below B11.out).below B12.out).below B13.out).below B14.out).below B15.out).below B16.out).below B17.out).below B18.out).below hW).1.2.2, ((H_bx_p.out.below B18.out).below hW).1.1, ((H_bx_p.out.below B18.out).below hW).1.2.1, ((H_bx_p.out.below B18.out).below hW).1.2.2⟩)
      have U18 := Aside0.mk (Below.refl ((w16.alloc (.cells #[.bool b_p, .slice A_p M_p c_p, .slice B_p K_p d_p] 56)).drew).heap.size ((w16.alloc (.cells #[.bool b_p, .slice A_p M_p c_p, .slice B_p K_p d_p] 56)).drew))
      refine wp_region_held_drew (S := fun W => W.cell? ⟨p0, 0, none⟩ = some (.bool b_x) ∧ W.cell? ⟨p0, 1, none⟩ = some (.slice A_x M_x c_x) ∧ W.cell? ⟨p0, 2, none⟩ = some (.slice B_x K_x d_x) ∧ W.cell? ⟨p1, 0, none⟩ = some (.bool b_y) ∧ W.cell? ⟨p1, 1, none⟩ = some (.slice A_y M_y c_y) ∧ W.cell? ⟨p1, 2, none⟩ = some (.slice B_y K_y d_y) ∧ W.cell? ⟨p2, 0, none⟩ = some (.bool b_z) ∧ W.cell? ⟨p2, 1, none⟩ = some (.slice A_z M_z c_z) ∧ W.cell? ⟨p2, 2, none⟩ = some (.slice B_z K_z d_z) ∧ W.cell? ⟨w16.heap.size, 0, none⟩ = some (.bool b_p) ∧ W.cell? ⟨w16.heap.size, 1, none⟩ = some (.slice A_p M_p c_p) ∧ W.cell? ⟨w16.heap.size, 2, none⟩ = some (.slice B_p K_p d_p)) (by kernel_rfl) (HS18.out _ (Below.refl _ _)) (fun hHeld => ?_)
      refine Inv.takeL (i := 0) (v := ?v12_0) rfl (by kernel_rfl) (by kernel_rfl) (by kernel_rfl) (fun _ _ _ h => h) (by rfl) ?hy12_0 (by assumption) ?rest12_0
      case hy12_0 => ((intro w hSw; (try dsimp only at hSw); go_simp) <;> with_reducible rfl)
      try simp only [Act.put, List.setIfInBounds_toArray, List.set_cons_zero, List.set_cons_succ]
      have HC : Aside0 (Calls Tryd.prog 73 #[(.agg #[.bool b_z, .slice A_z M_z c_z, .slice B_z K_z d_z])] ((w16.alloc (.cells #[.bool b_p, .slice A_p M_p c_p, .slice B_p K_p d_p] 56)).drew) (BoolPost ((w16.alloc (.cells #[.bool b_p, .slice A_p M_p c_p, .slice B_p K_p d_p] 56)).drew) false)) := ⟨by have h := snought_w (((((((((((((H_z.out.below B6.out).below B7.out).below B8.out).below B9.out).below B10.out).below B11.out).below B12.out).below B13.out).below B14.out).below B15.out).below B16.out).below B17.out).below B18.out); rw [decide_eq_false Z0.out] at h; exact h⟩
      refine Inv.oneL (i := 1) rfl (by kernel_rfl) (fun K hK => ?_)
      go_simp
      refine HC.out.mono ?_
      clear HC
      rintro e w19 ⟨rfl, hB⟩
      try go_wp2_with fail
      have B19 := Aside0.mk hB
      have T19 := Aside0.mk (T18.out.trans (hB.mono T18.out.size))
      clear hB
      have U19 := Aside0.mk (U18.out.trans (B19.out.mono U18.out.size))
      refine hK.out _ _ (HS18.out _ U19.out) (fun hHeld => ?_)
      clear hK K
      try simp only [Act.put, List.setIfInBounds_toArray, List.set_cons_zero, List.set_cons_succ]
      refine Inv.takeL (i := 2) (v := ?v12_2) rfl (by kernel_rfl) (by kernel_rfl) (by kernel_rfl) (fun _ _ _ h => h) (by rfl) ?hy12_2 (by assumption) ?rest12_2
      case hy12_2 => ((intro w hSw; (try dsimp only at hSw); go_simp) <;> with_reducible rfl)
      try simp only [Act.put, List.setIfInBounds_toArray, List.set_cons_zero, List.set_cons_succ]
      refine Inv.takeL (i := 3) (v := ?v12_3) rfl (by kernel_rfl) (by kernel_rfl) (by kernel_rfl) (fun _ _ _ h => h) (by rfl) ?hy12_3 (by assumption) ?rest12_3
      case hy12_3 => ((intro w hSw; (try dsimp only at hSw); go_simp) <;> with_reducible rfl)
      try simp only [Act.put, List.setIfInBounds_toArray, List.set_cons_zero, List.set_cons_succ]
      refine Inv.takeL (i := 4) (v := ?v12_4) rfl (by kernel_rfl) (by kernel_rfl) (by kernel_rfl) (fun _ _ _ h => h) (by rfl) ?hy12_4 (by assumption) ?rest12_4
      case hy12_4 => ((intro w hSw; (try dsimp only at hSw); go_simp) <;> with_reducible rfl)
      try simp only [Act.put, List.setIfInBounds_toArray, List.set_cons_zero, List.set_cons_succ]
      refine Inv.takeL (i := 6) (v := ?v12_6) rfl (by kernel_rfl) (by kernel_rfl) (by kernel_rfl) (fun _ _ _ h => h) (by rfl) ?hy12_6 (by assumption) ?rest12_6
      case hy12_6 => ((intro w hSw; (try dsimp only at hSw); go_simp) <;> with_reducible rfl)
      try simp only [Act.put, List.setIfInBounds_toArray, List.set_cons_zero, List.set_cons_succ]
      refine Inv.takeL (i := 7) (v := ?v12_7) rfl (by kernel_rfl) (by kernel_rfl) (by kernel_rfl) (fun _ _ _ h => h) (by rfl) ?hy12_7 (by assumption) ?rest12_7
      case hy12_7 => ((intro w hSw; (try dsimp only at hSw); go_simp) <;> with_reducible rfl)
      try simp only [Act.put, List.setIfInBounds_toArray, List.set_cons_zero, List.set_cons_succ]
      refine Inv.takeL (i := 10) (v := ?v12_10) rfl (by kernel_rfl) (by kernel_rfl) (by kernel_rfl) (fun _ _ _ h => h) (by rfl) ?hy12_10 (by assumption) ?rest12_10
      case hy12_10 => ((intro w hSw; (try dsimp only at hSw); go_simp) <;> with_reducible rfl)
      try simp only [Act.put, List.setIfInBounds_toArray, List.set_cons_zero, List.set_cons_succ]
      have HC : Aside0 (Calls Tryd.prog 64 #[(.agg #[.bool b_x, .slice A_x M_x c_x, .slice B_x K_x d_x]), (.agg #[(.bool b_p), (.slice A_p M_p c_p), (.slice B_p K_p d_p)])] w19 (RaPost w19 ((mkR g0 l0b l0c) * (Rat.abs (mkR g2 l2b l2c))))) := ⟨qmulR ((((((((((((((H_x.out.below B6.out).below B7.out).below B8.out).below B9.out).below B10.out).below B11.out).below B12.out).below B13.out).below B14.out).below B15.out).below B16.out).below B17.out).below B18.out).below B19.out) ((H_p.out.below B18.out).below B19.out) (X_x.out.le (by decide)) (X_p.out.le (by decide))⟩
      refine Inv.oneL (i := 5) rfl (by kernel_rfl) (fun K hK => ?_)
      go_simp
      refine HC.out.mono ?_
      clear HC
      rintro e w20 ⟨v_m1, rfl, hN, hB⟩
      try go_wp2_with fail
      have B20 := Aside0.mk hB
      have T20 := Aside0.mk (T19.out.trans (hB.mono T19.out.size))
      have H_m1 := Aside0.mk hN
      have X_m1 := Aside0.mk (show Rb 6 ((mkR g0 l0b l0c) * (Rat.abs (mkR g2 l2b l2c))) from mul_bnd X_x.out X_p.out (by decide))
      clear hN hB
      have U20 := Aside0.mk (U19.out.trans (B20.out.mono U19.out.size))
      refine hK.out _ _ (HS18.out _ U20.out) (fun hHeld => ?_)
      clear hK K
      try simp only [Act.put, List.setIfInBounds_toArray, List.set_cons_zero, List.set_cons_succ]
      have HC : Aside0 (Calls Tryd.prog 64 #[(.agg #[.bool b_y, .slice A_y M_y c_y, .slice B_y K_y d_y]), (.agg #[(.bool b_p), (.slice A_p M_p c_p), (.slice B_p K_p d_p)])] w20 (RaPost w20 ((mkR g1 l1b l1c) * (Rat.abs (mkR g2 l2b l2c))))) := ⟨qmulR (((((((((((((((H_y.out.below B6.out).below B7.out).below B8.out).below B9.out).below B10.out).below B11.out).below B12.out).below B13.out).below B14.out).below B15.out).below B16.out).below B17.out).below B18.out).below B19.out).below B20.out) (((H_p.out.below B18.out).below B19.out).below B20.out) (X_y.out.le (by decide)) (X_p.out.le (by decide))⟩
      refine Inv.oneL (i := 8) rfl (by kernel_rfl) (fun K hK => ?_)
      go_simp
      refine HC.out.mono ?_
      clear HC
      rintro e w21 ⟨v_m2, rfl, hN, hB⟩
      try go_wp2_with fail
      have B21 := Aside0.mk hB
      have T21 := Aside0.mk (T20.out.trans (hB.mono T20.out.size))
      have H_m2 := Aside0.mk hN
      have X_m2 := Aside0.mk (show Rb 6 ((mkR g1 l1b l1c) * (Rat.abs (mkR g2 l2b l2c))) from mul_bnd X_y.out X_p.out (by decide))
      clear hN hB
      have U21 := Aside0.mk (U20.out.trans (B21.out.mono U20.out.size))
      refine hK.out _ _ (HS18.out _ U21.out) (fun hHeld => ?_)
      clear hK K
      try simp only [Act.put, List.setIfInBounds_toArray, List.set_cons_zero, List.set_cons_succ]
      have HC : Aside0 (Calls Tryd.prog 74 #[v_m1, v_m2] w21 (IntPost w21 0)) := ⟨by have h := qcmpR (H_m1.out.below B21.out) H_m2.out (X_m1.out.le (by decide)) (X_m2.out.le (by decide)); rw [show cmpQ ((mkR g0 l0b l0c) * (Rat.abs (mkR g2 l2b l2c))) ((mkR g1 l1b l1c) * (Rat.abs (mkR g2 l2b l2c))) = 0 by rw [cmp_mul PP.out, CZ.out]] at h; exact h⟩
      refine Inv.oneL (i := 9) rfl (by kernel_rfl) (fun K hK => ?_)
      go_simp
      refine HC.out.mono ?_
      clear HC
      rintro e w22 ⟨rfl, hB⟩
      try go_wp2_with fail
      have B22 := Aside0.mk hB
      have T22 := Aside0.mk (T21.out.trans (hB.mono T21.out.size))
      clear hB
      have U22 := Aside0.mk (U21.out.trans (B22.out.mono U21.out.size))
      refine hK.out _ _ (HS18.out _ U22.out) (fun hHeld => ?_)
      clear hK K
      try simp only [Act.put, List.setIfInBounds_toArray, List.set_cons_zero, List.set_cons_succ]
      refine Inv.takeL (i := 11) (v := ?v12_11) rfl (by kernel_rfl) (by kernel_rfl) (by kernel_rfl) (fun _ _ _ h => h) (by rfl) ?hy12_11 (by assumption) ?rest12_11
      case hy12_11 => ((intro w hSw; (try dsimp only at hSw); go_simp) <;> with_reducible rfl)
      try simp only [Act.put, List.setIfInBounds_toArray, List.set_cons_zero, List.set_cons_succ]
      refine Inv.takeL (i := 12) (v := ?v12_12) rfl (by kernel_rfl) (by kernel_rfl) (by kernel_rfl) (fun _ _ _ h => h) (by rfl) ?hy12_12 (by assumption) ?rest12_12
      case hy12_12 => ((intro w hSw; (try dsimp only at hSw); go_simp) <;> with_reducible rfl)
      try simp only [Act.put, List.setIfInBounds_toArray, List.set_cons_zero, List.set_cons_succ]
      refine Inv.takeL (i := 13) (v := ?v12_13) rfl (by kernel_rfl) (by kernel_rfl) (by kernel_rfl) (fun _ _ _ h => h) (by rfl) ?hy12_13 (by assumption) ?rest12_13
      case hy12_13 => ((intro w hSw; (try dsimp only at hSw); go_simp) <;> with_reducible rfl)
      try simp only [Act.put, List.setIfInBounds_toArray, List.set_cons_zero, List.set_cons_succ]
      have HC : Aside0 (Calls Tryd.prog 71 #[] w22 (RaPost w22 ((0 : Rat)))) := ⟨szeroR w22⟩
      refine Inv.oneL (i := 14) rfl (by kernel_rfl) (fun K hK => ?_)
      go_simp
      refine HC.out.mono ?_
      clear HC
      rintro e w23 ⟨v_zz, rfl, hN, hB⟩
      try go_wp2_with fail
      have B23 := Aside0.mk hB
      have T23 := Aside0.mk (T22.out.trans (hB.mono T22.out.size))
      have H_zz := Aside0.mk hN
      have X_zz := Aside0.mk (show Rb 1 ((0 : Rat)) from rb_zero)
      clear hN hB
      have U23 := Aside0.mk (U22.out.trans (B23.out.mono U22.out.size))
      refine hK.out _ _ (HS18.out _ U23.out) (fun hHeld => ?_)
      clear hK K
      try simp only [Act.put, List.setIfInBounds_toArray, List.set_cons_zero, List.set_cons_succ]
      have HC : Aside0 (Calls Tryd.prog 74 #[(.agg #[(.bool b_p), (.slice A_p M_p c_p), (.slice B_p K_p d_p)]), v_zz] w23 (IntPost w23 1)) := ⟨by have h := qcmpR ((((((H_p.out.below B18.out).below B19.out).below B20.out).below B21.out).below B22.out).below B23.out) H_zz.out (X_p.out.le (by decide)) (X_zz.out.le (by decide)); rw [show cmpQ (Rat.abs (mkR g2 l2b l2c)) 0 = 1 from cmp_pos PP.out] at h; exact h⟩
      refine Inv.oneL (i := 15) rfl (by kernel_rfl) (fun K hK => ?_)
      go_simp
      refine HC.out.mono ?_
      clear HC
      rintro e w24 ⟨rfl, hB⟩
      try go_wp2_with fail
      have B24 := Aside0.mk hB
      have T24 := Aside0.mk (T23.out.trans (hB.mono T23.out.size))
      clear hB
      have U24 := Aside0.mk (U23.out.trans (B24.out.mono U23.out.size))
      refine hK.out _ _ (HS18.out _ U24.out) (fun hHeld => ?_)
      clear hK K
      try simp only [Act.put, List.setIfInBounds_toArray, List.set_cons_zero, List.set_cons_succ]
      refine Inv.takeL (i := 16) (v := ?v12_16) rfl (by kernel_rfl) (by kernel_rfl) (by kernel_rfl) (fun _ _ _ h => h) (by rfl) ?hy12_16 (by assumption) ?rest12_16
      case hy12_16 => ((intro w hSw; (try dsimp only at hSw); go_simp) <;> with_reducible rfl)
      try simp only [Act.put, List.setIfInBounds_toArray, List.set_cons_zero, List.set_cons_succ]
      refine Inv.takeL (i := 17) (v := ?v12_17) rfl (by kernel_rfl) (by kernel_rfl) (by kernel_rfl) (fun _ _ _ h => h) (by rfl) ?hy12_17 (by assumption) ?rest12_17
      case hy12_17 => ((intro w hSw; (try dsimp only at hSw); go_simp) <;> with_reducible rfl)
      try simp only [Act.put, List.setIfInBounds_toArray, List.set_cons_zero, List.set_cons_succ]
      refine Inv.takeL (i := 18) (v := ?v12_18) rfl (by kernel_rfl) (by kernel_rfl) (by kernel_rfl) (fun _ _ _ h => h) (by rfl) ?hy12_18 (by assumption) ?rest12_18
      case hy12_18 => ((intro w hSw; (try dsimp only at hSw); go_simp) <;> with_reducible rfl)
      try simp only [Act.put, List.setIfInBounds_toArray, List.set_cons_zero, List.set_cons_succ]
      refine Inv.takeL (i := 19) (v := ?v12_19) rfl (by kernel_rfl) (by kernel_rfl) (by kernel_rfl) (fun _ _ _ h => h) (by rfl) ?hy12_19 (by assumption) ?rest12_19
      case hy12_19 => ((intro w hSw; (try dsimp only at hSw); go_simp) <;> with_reducible rfl)
      try simp only [Act.put, List.setIfInBounds_toArray, List.set_cons_zero, List.set_cons_succ]
      refine Inv.takeL (i := 20) (v := ?v12_20) rfl (by kernel_rfl) (by kernel_rfl) (by kernel_rfl) (fun _ _ _ h => h) (by rfl) ?hy12_20 (by assumption) ?rest12_20
      case hy12_20 => ((intro w hSw; (try dsimp only at hSw); go_simp) <;> with_reducible rfl)
      try simp only [Act.put, List.setIfInBounds_toArray, List.set_cons_zero, List.set_cons_succ]
      refine Inv.takeL (i := 23) (v := ?v12_23) rfl (by kernel_rfl) (by kernel_rfl) (by kernel_rfl) (fun _ _ _ h => h) (by rfl) ?hy12_23 (by assumption) ?rest12_23
      case hy12_23 => ((intro w hSw; (try dsimp only at hSw); go_simp) <;> with_reducible rfl)
      try simp only [Act.put, List.setIfInBounds_toArray, List.set_cons_zero, List.set_cons_succ]
      refine Inv.takeL (i := 25) (v := ?v12_25) rfl (by kernel_rfl) (by kernel_rfl) (by kernel_rfl) (fun _ _ _ h => h) (by rfl) ?hy12_25 (by assumption) ?rest12_25
      case hy12_25 => ((intro w hSw; (try dsimp only at hSw); go_simp) <;> with_reducible rfl)
      try simp only [Act.put, List.setIfInBounds_toArray, List.set_cons_zero, List.set_cons_succ]
      have HC : Aside0 (Calls Tryd.prog 68 #[(.agg #[.bool b_x, .slice A_x M_x c_x, .slice B_x K_x d_x]), (.agg #[.bool b_y, .slice A_y M_y c_y, .slice B_y K_y d_y])] w24 (RaPost w24 ((mkR g0 l0b l0c) + (mkR g1 l1b l1c)))) := ⟨qaddR (((((((((((((((((((H_x.out.below B6.out).below B7.out).below B8.out).below B9.out).below B10.out).below B11.out).below B12.out).below B13.out).below B14.out).below B15.out).below B16.out).below B17.out).below B18.out).below B19.out).below B20.out).below B21.out).below B22.out).below B23.out).below B24.out) (((((((((((((((((((H_y.out.below B6.out).below B7.out).below B8.out).below B9.out).below B10.out).below B11.out).below B12.out).below B13.out).below B14.out).below B15.out).below B16.out).below B17.out).below B18.out).below B19.out).below B20.out).below B21.out).below B22.out).below B23.out).below B24.out) (X_x.out.le (by decide)) (X_y.out.le (by decide))⟩
      refine Inv.oneL (i := 21) rfl (by kernel_rfl) (fun K hK => ?_)
      go_simp
      refine HC.out.mono ?_
      clear HC
      rintro e w25 ⟨v_a1, rfl, hN, hB⟩
      try go_wp2_with fail
      have B25 := Aside0.mk hB
      have T25 := Aside0.mk (T24.out.trans (hB.mono T24.out.size))
      have H_a1 := Aside0.mk hN
      have X_a1 := Aside0.mk (show Rb 7 ((mkR g0 l0b l0c) + (mkR g1 l1b l1c)) from add_bnd X_x.out X_y.out (by decide))
      clear hN hB
      have U25 := Aside0.mk (U24.out.trans (B25.out.mono U24.out.size))
      refine hK.out _ _ (HS18.out _ U25.out) (fun hHeld => ?_)
      clear hK K
      try simp only [Act.put, List.setIfInBounds_toArray, List.set_cons_zero, List.set_cons_succ]
      have HC : Aside0 (Calls Tryd.prog 76 #[v_a1] w25 (RaPost w25 (Rat.abs ((mkR g0 l0b l0c) + (mkR g1 l1b l1c))))) := ⟨qabsR H_a1.out (X_a1.out.le (by decide))⟩
      refine Inv.oneL (i := 22) rfl (by kernel_rfl) (fun K hK => ?_)
      go_simp
      refine HC.out.mono ?_
      clear HC
      rintro e w26 ⟨v_a2, rfl, hN, hB⟩
      try go_wp2_with fail
      have B26 := Aside0.mk hB
      have T26 := Aside0.mk (T25.out.trans (hB.mono T25.out.size))
      have H_a2 := Aside0.mk hN
      have X_a2 := Aside0.mk (show Rb 7 (Rat.abs ((mkR g0 l0b l0c) + (mkR g1 l1b l1c))) from abs_bnd X_a1.out)
      clear hN hB
      have U26 := Aside0.mk (U25.out.trans (B26.out.mono U25.out.size))
      refine hK.out _ _ (HS18.out _ U26.out) (fun hHeld => ?_)
      clear hK K
      try simp only [Act.put, List.setIfInBounds_toArray, List.set_cons_zero, List.set_cons_succ]
      have HC : Aside0 (Calls Tryd.prog 76 #[(.agg #[.bool b_x, .slice A_x M_x c_x, .slice B_x K_x d_x])] w26 (RaPost w26 (Rat.abs (mkR g0 l0b l0c)))) := ⟨qabsR (((((((((((((((((((((H_x.out.below B6.out).below B7.out).below B8.out).below B9.out).below B10.out).below B11.out).below B12.out).below B13.out).below B14.out).below B15.out).below B16.out).below B17.out).below B18.out).below B19.out).below B20.out).below B21.out).below B22.out).below B23.out).below B24.out).below B25.out).below B26.out) (X_x.out.le (by decide))⟩
      refine Inv.oneL (i := 24) rfl (by kernel_rfl) (fun K hK => ?_)
      go_simp
      refine HC.out.mono ?_
      clear HC
      rintro e w27 ⟨v_a3, rfl, hN, hB⟩
      try go_wp2_with fail
      have B27 := Aside0.mk hB
      have T27 := Aside0.mk (T26.out.trans (hB.mono T26.out.size))
      have H_a3 := Aside0.mk hN
      have X_a3 := Aside0.mk (show Rb 3 (Rat.abs (mkR g0 l0b l0c)) from abs_bnd X_x.out)
      clear hN hB
      have U27 := Aside0.mk (U26.out.trans (B27.out.mono U26.out.size))
      refine hK.out _ _ (HS18.out _ U27.out) (fun hHeld => ?_)
      clear hK K
      try simp only [Act.put, List.setIfInBounds_toArray, List.set_cons_zero, List.set_cons_succ]
      have HC : Aside0 (Calls Tryd.prog 76 #[(.agg #[.bool b_y, .slice A_y M_y c_y, .slice B_y K_y d_y])] w27 (RaPost w27 (Rat.abs (mkR g1 l1b l1c)))) := ⟨qabsR ((((((((((((((((((((((H_y.out.below B6.out).below B7.out).below B8.out).below B9.out).below B10.out).below B11.out).below B12.out).below B13.out).below B14.out).below B15.out).below B16.out).below B17.out).below B18.out).below B19.out).below B20.out).below B21.out).below B22.out).below B23.out).below B24.out).below B25.out).below B26.out).below B27.out) (X_y.out.le (by decide))⟩
      refine Inv.oneL (i := 26) rfl (by kernel_rfl) (fun K hK => ?_)
      go_simp
      refine HC.out.mono ?_
      clear HC
      rintro e w28 ⟨v_a4, rfl, hN, hB⟩
      try go_wp2_with fail
      have B28 := Aside0.mk hB
      have T28 := Aside0.mk (T27.out.trans (hB.mono T27.out.size))
      have H_a4 := Aside0.mk hN
      have X_a4 := Aside0.mk (show Rb 3 (Rat.abs (mkR g1 l1b l1c)) from abs_bnd X_y.out)
      clear hN hB
      have U28 := Aside0.mk (U27.out.trans (B28.out.mono U27.out.size))
      refine hK.out _ _ (HS18.out _ U28.out) (fun hHeld => ?_)
      clear hK K
      try simp only [Act.put, List.setIfInBounds_toArray, List.set_cons_zero, List.set_cons_succ]
      have HC : Aside0 (Calls Tryd.prog 68 #[v_a3, v_a4] w28 (RaPost w28 ((Rat.abs (mkR g0 l0b l0c)) + (Rat.abs (mkR g1 l1b l1c))))) := ⟨qaddR (H_a3.out.below B28.out) H_a4.out (X_a3.out.le (by decide)) (X_a4.out.le (by decide))⟩
      refine Inv.oneL (i := 27) rfl (by kernel_rfl) (fun K hK => ?_)
      go_simp
      refine HC.out.mono ?_
      clear HC
      rintro e w29 ⟨v_a5, rfl, hN, hB⟩
      try go_wp2_with fail
      have B29 := Aside0.mk hB
      have T29 := Aside0.mk (T28.out.trans (hB.mono T28.out.size))
      have H_a5 := Aside0.mk hN
      have X_a5 := Aside0.mk (show Rb 7 ((Rat.abs (mkR g0 l0b l0c)) + (Rat.abs (mkR g1 l1b l1c))) from add_bnd X_a3.out X_a4.out (by decide))
      clear hN hB
      obtain ⟨zq, hzq, hzd⟩ := cmp_le2 (tri (mkR g0 l0b l0c) (mkR g1 l1b l1c))
      have ZQ := Aside0.mk hzq
      clear hzq
      have U29 := Aside0.mk (U28.out.trans (B29.out.mono U28.out.size))
      refine hK.out _ _ (HS18.out _ U29.out) (fun hHeld => ?_)
      clear hK K
      try simp only [Act.put, List.setIfInBounds_toArray, List.set_cons_zero, List.set_cons_succ]
      have HC : Aside0 (Calls Tryd.prog 74 #[v_a2, v_a5] w29 (IntPost w29 zq)) := ⟨by have h := qcmpR (((H_a2.out.below B27.out).below B28.out).below B29.out) H_a5.out (X_a2.out.le (by decide)) (X_a5.out.le (by decide)); rw [ZQ.out] at h; exact h⟩
      refine Inv.oneL (i := 28) rfl (by kernel_rfl) (fun K hK => ?_)
      go_simp
      refine HC.out.mono ?_
      clear HC
      rintro e w30 ⟨rfl, hB⟩
      try go_wp2_with fail
      have B30 := Aside0.mk hB
      have T30 := Aside0.mk (T29.out.trans (hB.mono T29.out.size))
      clear hB
      have U30 := Aside0.mk (U29.out.trans (B30.out.mono U29.out.size))
      refine hK.out _ _ (HS18.out _ U30.out) (fun hHeld => ?_)
      clear hK K
      try simp only [Act.put, List.setIfInBounds_toArray, List.set_cons_zero, List.set_cons_succ]
      refine Inv.takeL (i := 29) (v := ?v12_29) rfl (by kernel_rfl) (by kernel_rfl) (by kernel_rfl) (fun _ _ _ h => h) (by rfl) ?hy12_29 (by assumption) ?rest12_29
      case hy12_29 => ((intro w hSw; (try dsimp only at hSw); go_simp) <;> with_reducible rfl)
      try simp only [Act.put, List.setIfInBounds_toArray, List.set_cons_zero, List.set_cons_succ]
      refine Inv.takeL (i := 30) (v := ?v12_30) rfl (by kernel_rfl) (by kernel_rfl) (by kernel_rfl) (fun _ _ _ h => h) (by rfl) ?hy12_30 (by assumption) ?rest12_30
      case hy12_30 => ((intro w hSw; (try dsimp only at hSw); go_simp) <;> with_reducible rfl)
      try simp only [Act.put, List.setIfInBounds_toArray, List.set_cons_zero, List.set_cons_succ]
      refine Inv.takeL (i := 31) (v := ?v12_31) rfl (by kernel_rfl) (by kernel_rfl) (by kernel_rfl) (fun _ _ _ h => h) (by rfl) ?hy12_31 (by assumption) ?rest12_31
      case hy12_31 => ((intro w hSw; (try dsimp only at hSw); go_simp) <;> with_reducible rfl)
      try simp only [Act.put, List.setIfInBounds_toArray, List.set_cons_zero, List.set_cons_succ]
      refine Inv.takeL (i := 32) (v := ?v12_32) rfl (by kernel_rfl) (by kernel_rfl) (by kernel_rfl) (fun _ _ _ h => h) (by rfl) ?hy12_32 (by assumption) ?rest12_32
      case hy12_32 => ((intro w hSw; (try dsimp only at hSw); go_simp) <;> with_reducible rfl)
      try simp only [Act.put, List.setIfInBounds_toArray, List.set_cons_zero, List.set_cons_succ]
      refine wpAnyH_done (by kernel_rfl) ?_ _
      go_wp2_with fail
      go_ret
      exact ⟨rfl, T30.out⟩
  ·
    have CZ := Aside0.mk hc
    clear hc
    obtain ⟨⟨hu00, hu01, hu02⟩, _⟩ := H_bx_x.out
    obtain ⟨⟨hu10, hu11, hu12⟩, _⟩ := H_bx_y.out
    have HC : Aside0 (Calls Tryd.prog 74 #[(.agg #[.bool b_x, .slice A_x M_x c_x, .slice B_x K_x d_x]), (.agg #[.bool b_y, .slice A_y M_y c_y, .slice B_y K_y d_y])] w5 (IntPost w5 1)) := ⟨by have h := qcmpR H_x.out H_y.out (X_x.out.le (by decide)) (X_y.out.le (by decide)); rw [CZ.out] at h; exact h⟩
    go_wp2_with fail
    refine HC.out.mono ?_
    clear HC
    rintro e w6 ⟨rfl, hB⟩
    have B6 := Aside0.mk hB
    have T6 := Aside0.mk (T5.out.trans (hB.mono T5.out.size))
    clear hB
    clear hu00 hu01 hu02 hu10 hu11 hu12
    go_wp2_with fail
    have B7 := Aside0.mk (Below.drew (Below.refl w6.heap.size w6))
    have T7 := Aside0.mk (T6.out.trans (B7.out.mono T6.out.size))
    have HS7 := Aside0.mk (fun (W : World) (hW : Below (w6.drew).heap.size (w6.drew) W) => show W.cell? ⟨p0, 0, none⟩ = some (.bool b_x) ∧ W.cell? ⟨p0, 1, none⟩ = some (.slice A_x M_x c_x) ∧ W.cell? ⟨p0, 2, none⟩ = some (.slice B_x K_x d_x) ∧ W.cell? ⟨p1, 0, none⟩ = some (.bool b_y) ∧ W.cell? ⟨p1, 1, none⟩ = some (.slice A_y M_y c_y) ∧ W.cell? ⟨p1, 2, none⟩ = some (.slice B_y K_y d_y) ∧ W.cell? ⟨p2, 0, none⟩ = some (.bool b_z) ∧ W.cell? ⟨p2, 1, none⟩ = some (.slice A_z M_z c_z) ∧ W.cell? ⟨p2, 2, none⟩ = some (.slice B_z K_z d_z) from ⟨(((H_bx_x.out.below B6.out).below B7.out).below hW).1.1, (((H_bx_x.out.below B6.out).below B7.out).below hW).1.2.1, (((H_bx_x.out.below B6.out).below B7.out).below hW).1.2.2, (((H_bx_y.out.below B6.out).below B7.out).below hW).1.1, (((H_bx_y.out.below B6.out).below B7.out).below hW).1.2.1, (((H_bx_y.out.below B6.out).below B7.out).below hW).1.2.2, (((H_bx_z.out.below B6.out).below B7.out).below hW).1.1, (((H_bx_z.out.below B6.out).below B7.out).below hW).1.2.1, (((H_bx_z.out.below B6.out).below B7.out).below hW).1.2.2⟩)
    have U7 := Aside0.mk (Below.refl (w6.drew).heap.size (w6.drew))
    refine wp_region_held_drew (S := fun W => W.cell? ⟨p0, 0, none⟩ = some (.bool b_x) ∧ W.cell? ⟨p0, 1, none⟩ = some (.slice A_x M_x c_x) ∧ W.cell? ⟨p0, 2, none⟩ = some (.slice B_x K_x d_x) ∧ W.cell? ⟨p1, 0, none⟩ = some (.bool b_y) ∧ W.cell? ⟨p1, 1, none⟩ = some (.slice A_y M_y c_y) ∧ W.cell? ⟨p1, 2, none⟩ = some (.slice B_y K_y d_y) ∧ W.cell? ⟨p2, 0, none⟩ = some (.bool b_z) ∧ W.cell? ⟨p2, 1, none⟩ = some (.slice A_z M_z c_z) ∧ W.cell? ⟨p2, 2, none⟩ = some (.slice B_z K_z d_z)) (by kernel_rfl) (HS7.out _ (Below.refl _ _)) (fun hHeld => ?_)
    refine Inv.takeL (i := 0) (v := ?v13_0) rfl (by kernel_rfl) (by kernel_rfl) (by kernel_rfl) (fun _ _ _ h => h) (by rfl) ?hy13_0 (by assumption) ?rest13_0
    case hy13_0 => ((intro w hSw; (try dsimp only at hSw); go_simp) <;> with_reducible rfl)
    try simp only [Act.put, List.setIfInBounds_toArray, List.set_cons_zero, List.set_cons_succ]
    refine Inv.takeL (i := 1) (v := ?v13_1) rfl (by kernel_rfl) (by kernel_rfl) (by kernel_rfl) (fun _ _ _ h => h) (by rfl) ?hy13_1 (by assumption) ?rest13_1
    case hy13_1 => ((intro w hSw; (try dsimp only at hSw); go_simp) <;> with_reducible rfl)
    try simp only [Act.put, List.setIfInBounds_toArray, List.set_cons_zero, List.set_cons_succ]
    refine Inv.takeL (i := 3) (v := ?v13_3) rfl (by kernel_rfl) (by kernel_rfl) (by kernel_rfl) (fun _ _ _ h => h) (by rfl) ?hy13_3 (by assumption) ?rest13_3
    case hy13_3 => ((intro w hSw; (try dsimp only at hSw); go_simp) <;> with_reducible rfl)
    try simp only [Act.put, List.setIfInBounds_toArray, List.set_cons_zero, List.set_cons_succ]
    refine Inv.takeL (i := 4) (v := ?v13_4) rfl (by kernel_rfl) (by kernel_rfl) (by kernel_rfl) (fun _ _ _ h => h) (by rfl) ?hy13_4 (by assumption) ?rest13_4
    case hy13_4 => ((intro w hSw; (try dsimp only at hSw); go_simp) <;> with_reducible rfl)
    try simp only [Act.put, List.setIfInBounds_toArray, List.set_cons_zero, List.set_cons_succ]
    have HC : Aside0 (Calls Tryd.prog 74 #[(.agg #[.bool b_y, .slice A_y M_y c_y, .slice B_y K_y d_y]), (.agg #[.bool b_x, .slice A_x M_x c_x, .slice B_x K_x d_x])] (w6.drew) (IntPost (w6.drew) (-1))) := ⟨by have h := qcmpR ((H_y.out.below B6.out).below B7.out) ((H_x.out.below B6.out).below B7.out) (X_y.out.le (by decide)) (X_x.out.le (by decide)); rw [show cmpQ (mkR g1 l1b l1c) (mkR g0 l0b l0c) = (-1) by rw [cmp_swap, CZ.out] <;> rfl] at h; exact h⟩
    refine Inv.oneL (i := 2) rfl (by kernel_rfl) (fun K hK => ?_)
    go_simp
    refine HC.out.mono ?_
    clear HC
    rintro e w8 ⟨rfl, hB⟩
    try go_wp2_with fail
    have B8 := Aside0.mk hB
    have T8 := Aside0.mk (T7.out.trans (hB.mono T7.out.size))
    clear hB
    have U8 := Aside0.mk (U7.out.trans (B8.out.mono U7.out.size))
    refine hK.out _ _ (HS7.out _ U8.out) (fun hHeld => ?_)
    clear hK K
    try simp only [Act.put, List.setIfInBounds_toArray, List.set_cons_zero, List.set_cons_succ]
    refine Inv.takeL (i := 5) (v := ?v13_5) rfl (by kernel_rfl) (by kernel_rfl) (by kernel_rfl) (fun _ _ _ h => h) (by rfl) ?hy13_5 (by assumption) ?rest13_5
    case hy13_5 => ((intro w hSw; (try dsimp only at hSw); go_simp) <;> with_reducible rfl)
    try simp only [Act.put, List.setIfInBounds_toArray, List.set_cons_zero, List.set_cons_succ]
    refine Inv.takeL (i := 6) (v := ?v13_6) rfl (by kernel_rfl) (by kernel_rfl) (by kernel_rfl) (fun _ _ _ h => h) (by rfl) ?hy13_6 (by assumption) ?rest13_6
    case hy13_6 => ((intro w hSw; (try dsimp only at hSw); go_simp) <;> with_reducible rfl)
    try simp only [Act.put, List.setIfInBounds_toArray, List.set_cons_zero, List.set_cons_succ]
    refine Inv.takeL (i := 7) (v := ?v13_7) rfl (by kernel_rfl) (by kernel_rfl) (by kernel_rfl) (fun _ _ _ h => h) (by rfl) ?hy13_7 (by assumption) ?rest13_7
    case hy13_7 => ((intro w hSw; (try dsimp only at hSw); go_simp) <;> with_reducible rfl)
    try simp only [Act.put, List.setIfInBounds_toArray, List.set_cons_zero, List.set_cons_succ]
    refine Inv.takeL (i := 8) (v := ?v13_8) rfl (by kernel_rfl) (by kernel_rfl) (by kernel_rfl) (fun _ _ _ h => h) (by rfl) ?hy13_8 (by assumption) ?rest13_8
    case hy13_8 => ((intro w hSw; (try dsimp only at hSw); go_simp) <;> with_reducible rfl)
    try simp only [Act.put, List.setIfInBounds_toArray, List.set_cons_zero, List.set_cons_succ]
    refine Inv.takeL (i := 10) (v := ?v13_10) rfl (by kernel_rfl) (by kernel_rfl) (by kernel_rfl) (fun _ _ _ h => h) (by rfl) ?hy13_10 (by assumption) ?rest13_10
    case hy13_10 => ((intro w hSw; (try dsimp only at hSw); go_simp) <;> with_reducible rfl)
    try simp only [Act.put, List.setIfInBounds_toArray, List.set_cons_zero, List.set_cons_succ]
    refine Inv.takeL (i := 11) (v := ?v13_11) rfl (by kernel_rfl) (by kernel_rfl) (by kernel_rfl) (fun _ _ _ h => h) (by rfl) ?hy13_11 (by assumption) ?rest13_11
    case hy13_11 => ((intro w hSw; (try dsimp only at hSw); go_simp) <;> with_reducible rfl)
    try simp only [Act.put, List.setIfInBounds_toArray, List.set_cons_zero, List.set_cons_succ]
    refine Inv.takeL (i := 14) (v := ?v13_14) rfl (by kernel_rfl) (by kernel_rfl) (by kernel_rfl) (fun _ _ _ h => h) (by rfl) ?hy13_14 (by assumption) ?rest13_14
    case hy13_14 => ((intro w hSw; (try dsimp only at hSw); go_simp) <;> with_reducible rfl)
    try simp only [Act.put, List.setIfInBounds_toArray, List.set_cons_zero, List.set_cons_succ]
    have HC : Aside0 (Calls Tryd.prog 68 #[(.agg #[.bool b_x, .slice A_x M_x c_x, .slice B_x K_x d_x]), (.agg #[.bool b_z, .slice A_z M_z c_z, .slice B_z K_z d_z])] w8 (RaPost w8 ((mkR g0 l0b l0c) + (mkR g2 l2b l2c)))) := ⟨qaddR (((H_x.out.below B6.out).below B7.out).below B8.out) (((H_z.out.below B6.out).below B7.out).below B8.out) (X_x.out.le (by decide)) (X_z.out.le (by decide))⟩
    refine Inv.oneL (i := 9) rfl (by kernel_rfl) (fun K hK => ?_)
    go_simp
    refine HC.out.mono ?_
    clear HC
    rintro e w9 ⟨v_s1, rfl, hN, hB⟩
    try go_wp2_with fail
    have B9 := Aside0.mk hB
    have T9 := Aside0.mk (T8.out.trans (hB.mono T8.out.size))
    have H_s1 := Aside0.mk hN
    have X_s1 := Aside0.mk (show Rb 7 ((mkR g0 l0b l0c) + (mkR g2 l2b l2c)) from add_bnd X_x.out X_z.out (by decide))
    clear hN hB
    have U9 := Aside0.mk (U8.out.trans (B9.out.mono U8.out.size))
    refine hK.out _ _ (HS7.out _ U9.out) (fun hHeld => ?_)
    clear hK K
    try simp only [Act.put, List.setIfInBounds_toArray, List.set_cons_zero, List.set_cons_succ]
    have HC : Aside0 (Calls Tryd.prog 68 #[(.agg #[.bool b_y, .slice A_y M_y c_y, .slice B_y K_y d_y]), (.agg #[.bool b_z, .slice A_z M_z c_z, .slice B_z K_z d_z])] w9 (RaPost w9 ((mkR g1 l1b l1c) + (mkR g2 l2b l2c)))) := ⟨qaddR ((((H_y.out.below B6.out).below B7.out).below B8.out).below B9.out) ((((H_z.out.below B6.out).below B7.out).below B8.out).below B9.out) (X_y.out.le (by decide)) (X_z.out.le (by decide))⟩
    refine Inv.oneL (i := 12) rfl (by kernel_rfl) (fun K hK => ?_)
    go_simp
    refine HC.out.mono ?_
    clear HC
    rintro e w10 ⟨v_s2, rfl, hN, hB⟩
    try go_wp2_with fail
    have B10 := Aside0.mk hB
    have T10 := Aside0.mk (T9.out.trans (hB.mono T9.out.size))
    have H_s2 := Aside0.mk hN
    have X_s2 := Aside0.mk (show Rb 7 ((mkR g1 l1b l1c) + (mkR g2 l2b l2c)) from add_bnd X_y.out X_z.out (by decide))
    clear hN hB
    have U10 := Aside0.mk (U9.out.trans (B10.out.mono U9.out.size))
    refine hK.out _ _ (HS7.out _ U10.out) (fun hHeld => ?_)
    clear hK K
    try simp only [Act.put, List.setIfInBounds_toArray, List.set_cons_zero, List.set_cons_succ]
    have HC : Aside0 (Calls Tryd.prog 74 #[v_s1, v_s2] w10 (IntPost w10 1)) := ⟨by have h := qcmpR (H_s1.out.below B10.out) H_s2.out (X_s1.out.le (by decide)) (X_s2.out.le (by decide)); rw [show cmpQ ((mkR g0 l0b l0c) + (mkR g2 l2b l2c)) ((mkR g1 l1b l1c) + (mkR g2 l2b l2c)) = 1 by rw [cmp_add, CZ.out]] at h; exact h⟩
    refine Inv.oneL (i := 13) rfl (by kernel_rfl) (fun K hK => ?_)
    go_simp
    refine HC.out.mono ?_
    clear HC
    rintro e w11 ⟨rfl, hB⟩
    try go_wp2_with fail
    have B11 := Aside0.mk hB
    have T11 := Aside0.mk (T10.out.trans (hB.mono T10.out.size))
    clear hB
    have U11 := Aside0.mk (U10.out.trans (B11.out.mono U10.out.size))
    refine hK.out _ _ (HS7.out _ U11.out) (fun hHeld => ?_)
    clear hK K
    try simp only [Act.put, List.setIfInBounds_toArray, List.set_cons_zero, List.set_cons_succ]
    refine Inv.takeL (i := 15) (v := ?v13_15) rfl (by kernel_rfl) (by kernel_rfl) (by kernel_rfl) (fun _ _ _ h => h) (by rfl) ?hy13_15 (by assumption) ?rest13_15
    case hy13_15 => ((intro w hSw; (try dsimp only at hSw); go_simp) <;> with_reducible rfl)
    try simp only [Act.put, List.setIfInBounds_toArray, List.set_cons_zero, List.set_cons_succ]
    refine Inv.takeL (i := 16) (v := ?v13_16) rfl (by kernel_rfl) (by kernel_rfl) (by kernel_rfl) (fun _ _ _ h => h) (by rfl) ?hy13_16 (by assumption) ?rest13_16
    case hy13_16 => ((intro w hSw; (try dsimp only at hSw); go_simp) <;> with_reducible rfl)
    try simp only [Act.put, List.setIfInBounds_toArray, List.set_cons_zero, List.set_cons_succ]
    refine Inv.takeL (i := 17) (v := ?v13_17) rfl (by kernel_rfl) (by kernel_rfl) (by kernel_rfl) (fun _ _ _ h => h) (by rfl) ?hy13_17 (by assumption) ?rest13_17
    case hy13_17 => ((intro w hSw; (try dsimp only at hSw); go_simp) <;> with_reducible rfl)
    try simp only [Act.put, List.setIfInBounds_toArray, List.set_cons_zero, List.set_cons_succ]
    refine Inv.takeL (i := 18) (v := ?v13_18) rfl (by kernel_rfl) (by kernel_rfl) (by kernel_rfl) (fun _ _ _ h => h) (by rfl) ?hy13_18 (by assumption) ?rest13_18
    case hy13_18 => ((intro w hSw; (try dsimp only at hSw); go_simp) <;> with_reducible rfl)
    try simp only [Act.put, List.setIfInBounds_toArray, List.set_cons_zero, List.set_cons_succ]
    refine Inv.takeL (i := 19) (v := ?v13_19) rfl (by kernel_rfl) (by kernel_rfl) (by kernel_rfl) (fun _ _ _ h => h) (by rfl) ?hy13_19 (by assumption) ?rest13_19
    case hy13_19 => ((intro w hSw; (try dsimp only at hSw); go_simp) <;> with_reducible rfl)
    try simp only [Act.put, List.setIfInBounds_toArray, List.set_cons_zero, List.set_cons_succ]
    refine Inv.takeL (i := 20) (v := ?v13_20) rfl (by kernel_rfl) (by kernel_rfl) (by kernel_rfl) (fun _ _ _ h => h) (by rfl) ?hy13_20 (by assumption) ?rest13_20
    case hy13_20 => ((intro w hSw; (try dsimp only at hSw); go_simp) <;> with_reducible rfl)
    try simp only [Act.put, List.setIfInBounds_toArray, List.set_cons_zero, List.set_cons_succ]
    refine Inv.takeL (i := 21) (v := ?v13_21) rfl (by kernel_rfl) (by kernel_rfl) (by kernel_rfl) (fun _ _ _ h => h) (by rfl) ?hy13_21 (by assumption) ?rest13_21
    case hy13_21 => ((intro w hSw; (try dsimp only at hSw); go_simp) <;> with_reducible rfl)
    try simp only [Act.put, List.setIfInBounds_toArray, List.set_cons_zero, List.set_cons_succ]
    have HC : Aside0 (Calls Tryd.prog 75 #[(.agg #[.bool b_x, .slice A_x M_x c_x, .slice B_x K_x d_x]), (.agg #[.bool b_y, .slice A_y M_y c_y, .slice B_y K_y d_y])] w11 (BoolPost w11 false)) := ⟨by have h := qsameR ((((((H_x.out.below B6.out).below B7.out).below B8.out).below B9.out).below B10.out).below B11.out) ((((((H_y.out.below B6.out).below B7.out).below B8.out).below B9.out).below B10.out).below B11.out) (X_x.out.le (by decide)) (X_y.out.le (by decide)); rw [decide_eq_false (cmp_ne0 CZ.out (by decide))] at h; exact h⟩
    refine Inv.oneL (i := 22) rfl (by kernel_rfl) (fun K hK => ?_)
    go_simp
    refine HC.out.mono ?_
    clear HC
    rintro e w12 ⟨rfl, hB⟩
    try go_wp2_with fail
    have B12 := Aside0.mk hB
    have T12 := Aside0.mk (T11.out.trans (hB.mono T11.out.size))
    clear hB
    have U12 := Aside0.mk (U11.out.trans (B12.out.mono U11.out.size))
    refine hK.out _ _ (HS7.out _ U12.out) (fun hHeld => ?_)
    clear hK K
    try simp only [Act.put, List.setIfInBounds_toArray, List.set_cons_zero, List.set_cons_succ]
    refine Inv.takeL (i := 23) (v := ?v13_23) rfl (by kernel_rfl) (by kernel_rfl) (by kernel_rfl) (fun _ _ _ h => h) (by rfl) ?hy13_23 (by assumption) ?rest13_23
    case hy13_23 => ((intro w hSw; (try dsimp only at hSw); go_simp) <;> with_reducible rfl)
    try simp only [Act.put, List.setIfInBounds_toArray, List.set_cons_zero, List.set_cons_succ]
    refine Inv.takeL (i := 24) (v := ?v13_24) rfl (by kernel_rfl) (by kernel_rfl) (by kernel_rfl) (fun _ _ _ h => h) (by rfl) ?hy13_24 (by assumption) ?rest13_24
    case hy13_24 => ((intro w hSw; (try dsimp only at hSw); go_simp) <;> with_reducible rfl)
    try simp only [Act.put, List.setIfInBounds_toArray, List.set_cons_zero, List.set_cons_succ]
    refine Inv.takeL (i := 25) (v := ?v13_25) rfl (by kernel_rfl) (by kernel_rfl) (by kernel_rfl) (fun _ _ _ h => h) (by rfl) ?hy13_25 (by assumption) ?rest13_25
    case hy13_25 => ((intro w hSw; (try dsimp only at hSw); go_simp) <;> with_reducible rfl)
    try simp only [Act.put, List.setIfInBounds_toArray, List.set_cons_zero, List.set_cons_succ]
    refine Inv.takeL (i := 26) (v := ?v13_26) rfl (by kernel_rfl) (by kernel_rfl) (by kernel_rfl) (fun _ _ _ h => h) (by rfl) ?hy13_26 (by assumption) ?rest13_26
    case hy13_26 => ((intro w hSw; (try dsimp only at hSw); go_simp) <;> with_reducible rfl)
    try simp only [Act.put, List.setIfInBounds_toArray, List.set_cons_zero, List.set_cons_succ]
    refine Inv.takeL (i := 28) (v := ?v13_28) rfl (by kernel_rfl) (by kernel_rfl) (by kernel_rfl) (fun _ _ _ h => h) (by rfl) ?hy13_28 (by assumption) ?rest13_28
    case hy13_28 => ((intro w hSw; (try dsimp only at hSw); go_simp) <;> with_reducible rfl)
    try simp only [Act.put, List.setIfInBounds_toArray, List.set_cons_zero, List.set_cons_succ]
    refine Inv.takeL (i := 31) (v := ?v13_31) rfl (by kernel_rfl) (by kernel_rfl) (by kernel_rfl) (fun _ _ _ h => h) (by rfl) ?hy13_31 (by assumption) ?rest13_31
    case hy13_31 => ((intro w hSw; (try dsimp only at hSw); go_simp) <;> with_reducible rfl)
    try simp only [Act.put, List.setIfInBounds_toArray, List.set_cons_zero, List.set_cons_succ]
    refine Inv.takeL (i := 32) (v := ?v13_32) rfl (by kernel_rfl) (by kernel_rfl) (by kernel_rfl) (fun _ _ _ h => h) (by rfl) ?hy13_32 (by assumption) ?rest13_32
    case hy13_32 => ((intro w hSw; (try dsimp only at hSw); go_simp) <;> with_reducible rfl)
    try simp only [Act.put, List.setIfInBounds_toArray, List.set_cons_zero, List.set_cons_succ]
    have HC : Aside0 (Calls Tryd.prog 70 #[(.agg #[.bool b_x, .slice A_x M_x c_x, .slice B_x K_x d_x])] w12 (RaPost w12 (-(mkR g0 l0b l0c)))) := ⟨qnegR (((((((H_x.out.below B6.out).below B7.out).below B8.out).below B9.out).below B10.out).below B11.out).below B12.out) (X_x.out.le (by decide))⟩
    refine Inv.oneL (i := 27) rfl (by kernel_rfl) (fun K hK => ?_)
    go_simp
    refine HC.out.mono ?_
    clear HC
    rintro e w13 ⟨v_n1, rfl, hN, hB⟩
    try go_wp2_with fail
    have B13 := Aside0.mk hB
    have T13 := Aside0.mk (T12.out.trans (hB.mono T12.out.size))
    have H_n1 := Aside0.mk hN
    have X_n1 := Aside0.mk (show Rb 3 (-(mkR g0 l0b l0c)) from neg_bnd X_x.out)
    clear hN hB
    have U13 := Aside0.mk (U12.out.trans (B13.out.mono U12.out.size))
    refine hK.out _ _ (HS7.out _ U13.out) (fun hHeld => ?_)
    clear hK K
    try simp only [Act.put, List.setIfInBounds_toArray, List.set_cons_zero, List.set_cons_succ]
    have HC : Aside0 (Calls Tryd.prog 70 #[(.agg #[.bool b_y, .slice A_y M_y c_y, .slice B_y K_y d_y])] w13 (RaPost w13 (-(mkR g1 l1b l1c)))) := ⟨qnegR ((((((((H_y.out.below B6.out).below B7.out).below B8.out).below B9.out).below B10.out).below B11.out).below B12.out).below B13.out) (X_y.out.le (by decide))⟩
    refine Inv.oneL (i := 29) rfl (by kernel_rfl) (fun K hK => ?_)
    go_simp
    refine HC.out.mono ?_
    clear HC
    rintro e w14 ⟨v_n2, rfl, hN, hB⟩
    try go_wp2_with fail
    have B14 := Aside0.mk hB
    have T14 := Aside0.mk (T13.out.trans (hB.mono T13.out.size))
    have H_n2 := Aside0.mk hN
    have X_n2 := Aside0.mk (show Rb 3 (-(mkR g1 l1b l1c)) from neg_bnd X_y.out)
    clear hN hB
    have U14 := Aside0.mk (U13.out.trans (B14.out.mono U13.out.size))
    refine hK.out _ _ (HS7.out _ U14.out) (fun hHeld => ?_)
    clear hK K
    try simp only [Act.put, List.setIfInBounds_toArray, List.set_cons_zero, List.set_cons_succ]
    have HC : Aside0 (Calls Tryd.prog 74 #[v_n1, v_n2] w14 (IntPost w14 (-1))) := ⟨by have h := qcmpR (H_n1.out.below B14.out) H_n2.out (X_n1.out.le (by decide)) (X_n2.out.le (by decide)); rw [show cmpQ (-(mkR g0 l0b l0c)) (-(mkR g1 l1b l1c)) = (-1) by rw [cmp_neg, CZ.out] <;> rfl] at h; exact h⟩
    refine Inv.oneL (i := 30) rfl (by kernel_rfl) (fun K hK => ?_)
    go_simp
    refine HC.out.mono ?_
    clear HC
    rintro e w15 ⟨rfl, hB⟩
    try go_wp2_with fail
    have B15 := Aside0.mk hB
    have T15 := Aside0.mk (T14.out.trans (hB.mono T14.out.size))
    clear hB
    have U15 := Aside0.mk (U14.out.trans (B15.out.mono U14.out.size))
    refine hK.out _ _ (HS7.out _ U15.out) (fun hHeld => ?_)
    clear hK K
    try simp only [Act.put, List.setIfInBounds_toArray, List.set_cons_zero, List.set_cons_succ]
    refine Inv.takeL (i := 33) (v := ?v13_33) rfl (by kernel_rfl) (by kernel_rfl) (by kernel_rfl) (fun _ _ _ h => h) (by rfl) ?hy13_33 (by assumption) ?rest13_33
    case hy13_33 => ((intro w hSw; (try dsimp only at hSw); go_simp) <;> with_reducible rfl)
    try simp only [Act.put, List.setIfInBounds_toArray, List.set_cons_zero, List.set_cons_succ]
    refine Inv.takeL (i := 34) (v := ?v13_34) rfl (by kernel_rfl) (by kernel_rfl) (by kernel_rfl) (fun _ _ _ h => h) (by rfl) ?hy13_34 (by assumption) ?rest13_34
    case hy13_34 => ((intro w hSw; (try dsimp only at hSw); go_simp) <;> with_reducible rfl)
    try simp only [Act.put, List.setIfInBounds_toArray, List.set_cons_zero, List.set_cons_succ]
    refine wpAnyH_done (by kernel_rfl) ?_ _
    by_cases hz0 : (mkR g2 l2b l2c) = 0
    ·
      have Z0 := Aside0.mk hz0
      clear hz0
      obtain ⟨⟨hu00, hu01, hu02⟩, _⟩ := ((((((((((H_bx_z.out.below B6.out).below B7.out).below B8.out).below B9.out).below B10.out).below B11.out).below B12.out).below B13.out).below B14.out).below B15.out)
      have HC : Aside0 (Calls Tryd.prog 76 #[(.agg #[.bool b_z, .slice A_z M_z c_z, .slice B_z K_z d_z])] w15 (RaPost w15 (Rat.abs (mkR g2 l2b l2c)))) := ⟨qabsR ((((((((((H_z.out.below B6.out).below B7.out).below B8.out).below B9.out).below B10.out).below B11.out).below B12.out).below B13.out).below B14.out).below B15.out) (X_z.out.le (by decide))⟩
      go_wp2_with fail
      refine HC.out.mono ?_
      clear HC
      rintro e w16 ⟨v_p, rfl, ⟨A_p, M_p, c_p, B_p, K_p, d_p, rfl, hNA, hNB⟩, hB⟩
      have B16 := Aside0.mk hB
      have T16 := Aside0.mk (T15.out.trans (hB.mono T15.out.size))
      obtain ⟨b_p, hb_p⟩ : ∃ b, b = decide ((Rat.abs (mkR g2 l2b l2c)).num < 0) := ⟨_, rfl⟩
      rw [← hb_p]
      have E_p := Aside0.mk hb_p
      clear hb_p
      have NA_p := Aside0.mk hNA
      have NB_p := Aside0.mk hNB
      clear hNA hNB hB
      clear hu00 hu01 hu02
      have H_bx_p := Aside0.mk (Blk_alloc w16 (.bool b_p) (.slice A_p M_p c_p) (.slice B_p K_p d_p) 56)
      have B17 := Aside0.mk (below_alloc (Below.refl w16.heap.size w16) (.cells #[.bool b_p, .slice A_p M_p c_p, .slice B_p K_p d_p] 56))
      have T17 := Aside0.mk (T16.out.trans (B17.out.mono T16.out.size))
      have H_p0 := Aside0.mk (show Ra w16 (.agg #[(.bool b_p), (.slice A_p M_p c_p), (.slice B_p K_p d_p)]) (Rat.abs (mkR g2 l2b l2c)) from by unfold Ra; rw [← E_p.out]; exact ⟨_, _, _, _, _, _, rfl, NA_p.out, NB_p.out⟩)
      have X_p := Aside0.mk (show Rb 3 (Rat.abs (mkR g2 l2b l2c)) from abs_bnd X_z.out)
      have H_p := Aside0.mk (show Ra (w16.alloc (.cells #[.bool b_p, .slice A_p M_p c_p, .slice B_p K_p d_p] 56)) (.agg #[(.bool b_p), (.slice A_p M_p c_p), (.slice B_p K_p d_p)]) (Rat.abs (mkR g2 l2b l2c)) from R3.below H_p0.out (below_alloc (Below.refl _ _) _))
      go_wp2_with fail
      have B18 := Aside0.mk (Below.drew (Below.refl (w16.alloc (.cells #[.bool b_p, .slice A_p M_p c_p, .slice B_p K_p d_p] 56)).heap.size (w16.alloc (.cells #[.bool b_p, .slice A_p M_p c_p, .slice B_p K_p d_p] 56))))
      have T18 := Aside0.mk (T17.out.trans (B18.out.mono T17.out.size))
      have HS18 := Aside0.mk (fun (W : World) (hW : Below ((w16.alloc (.cells #[.bool b_p, .slice A_p M_p c_p, .slice B_p K_p d_p] 56)).drew).heap.size ((w16.alloc (.cells #[.bool b_p, .slice A_p M_p c_p, .slice B_p K_p d_p] 56)).drew) W) => show W.cell? ⟨p0, 0, none⟩ = some (.bool b_x) ∧ W.cell? ⟨p0, 1, none⟩ = some (.slice A_x M_x c_x) ∧ W.cell? ⟨p0, 2, none⟩ = some (.slice B_x K_x d_x) ∧ W.cell? ⟨p1, 0, none⟩ = some (.bool b_y) ∧ W.cell? ⟨p1, 1, none⟩ = some (.slice A_y M_y c_y) ∧ W.cell? ⟨p1, 2, none⟩ = some (.slice B_y K_y d_y) ∧ W.cell? ⟨p2, 0, none⟩ = some (.bool b_z) ∧ W.cell? ⟨p2, 1, none⟩ = some (.slice A_z M_z c_z) ∧ W.cell? ⟨p2, 2, none⟩ = some (.slice B_z K_z d_z) ∧ W.cell? ⟨w16.heap.size, 0, none⟩ = some (.bool b_p) ∧ W.cell? ⟨w16.heap.size, 1, none⟩ = some (.slice A_p M_p c_p) ∧ W.cell? ⟨w16.heap.size, 2, none⟩ = some (.slice B_p K_p d_p) from ⟨((((((((((((((H_bx_x.out.below B6.out).below B7.out).below B8.out).below B9.out).below B10.out).below B11.out).below B12.out).below B13.out).below B14.out).below B15.out).below B16.out).below B17.out).below B18.out).below hW).1.1, ((((((((((((((H_bx_x.out.below B6.out).below B7.out).below B8.out).below B9.out).below B10.out).below B11.out).below B12.out).below B13.out).below B14.out).below B15.out).below B16.out).below B17.out).below B18.out).below hW).1.2.1, ((((((((((((((H_bx_x.out.below B6.out).below B7.out).below B8.out).below B9.out).below B10.out).below B11.out).below B12.out).below B13.out).below B14.out).below B15.out).below B16.out).below B17.out).below B18.out).below hW).1.2.2, ((((((((((((((H_bx_y.out.below B6.out).below B7.out).below B8.out).below B9.out).below B10.out).below B11.out).below B12.out).below B13.out).below B14.out).below B15.out).below B16.out).below B17.out).below B18.out).below hW).1.1, ((((((((((((((H_bx_y.out.below B6.out).below B7.out).below B8.out).below B9.out).below B10.out).below B11.out).below B12.out).below B13.out).below B14.out).below B15.out).below B16.out).below B17.out).below B18.out).below hW).1.2.1, ((((((((((((((H_bx_y.out.below B6.out).below B7.out).below B8.out).below B9.out).below B10.out).below B11.out).below B12.out).below B13.out).below B14.out).below B15.out).below B16.out).below B17.out).below B18.out).below hW).1.2.2, ((((((((((((((H_bx_z.out.below B6.out).below B7.out).below B8.out).below B9.out).below B10.out).below B11.out).below B12.out).below B13.out).below B14.out).below B15.out).below B16.out).below B17.out).below B18.out).below hW).1.1, ((((((((((((((H_bx_z.out.below B6.out).below B7.out).below B8.out).below B9.out).below B10.out).below B11.out).below B12.out).below B13.out).below B14.out).below B15.out).below B16.out).below B17.out).below B18.out).below hW).1.2.1, ((((((((((((((H_bx_z.out.below B6.out).below B7.out).below B8.out).below B9.out).below B10.out).below B11.out).below B12.out).below B13.out).below B14.out).below B15.out).below B16.out).below B17.out).below B18.out).below hW).1.2.2, ((H_bx_p.out.below B18.out).below hW).1.1, ((H_bx_p.out.below B18.out).below hW).1.2.1, ((H_bx_p.out.below B18.out).below hW).1.2.2⟩)
      have U18 := Aside0.mk (Below.refl ((w16.alloc (.cells #[.bool b_p, .slice A_p M_p c_p, .slice B_p K_p d_p] 56)).drew).heap.size ((w16.alloc (.cells #[.bool b_p, .slice A_p M_p c_p, .slice B_p K_p d_p] 56)).drew))
      refine wp_region_held_drew (S := fun W => W.cell? ⟨p0, 0, none⟩ = some (.bool b_x) ∧ W.cell? ⟨p0, 1, none⟩ = some (.slice A_x M_x c_x) ∧ W.cell? ⟨p0, 2, none⟩ = some (.slice B_x K_x d_x) ∧ W.cell? ⟨p1, 0, none⟩ = some (.bool b_y) ∧ W.cell? ⟨p1, 1, none⟩ = some (.slice A_y M_y c_y) ∧ W.cell? ⟨p1, 2, none⟩ = some (.slice B_y K_y d_y) ∧ W.cell? ⟨p2, 0, none⟩ = some (.bool b_z) ∧ W.cell? ⟨p2, 1, none⟩ = some (.slice A_z M_z c_z) ∧ W.cell? ⟨p2, 2, none⟩ = some (.slice B_z K_z d_z) ∧ W.cell? ⟨w16.heap.size, 0, none⟩ = some (.bool b_p) ∧ W.cell? ⟨w16.heap.size, 1, none⟩ = some (.slice A_p M_p c_p) ∧ W.cell? ⟨w16.heap.size, 2, none⟩ = some (.slice B_p K_p d_p)) (by kernel_rfl) (HS18.out _ (Below.refl _ _)) (fun hHeld => ?_)
      refine Inv.takeL (i := 0) (v := ?v14_0) rfl (by kernel_rfl) (by kernel_rfl) (by kernel_rfl) (fun _ _ _ h => h) (by rfl) ?hy14_0 (by assumption) ?rest14_0
      case hy14_0 => ((intro w hSw; (try dsimp only at hSw); go_simp) <;> with_reducible rfl)
      try simp only [Act.put, List.setIfInBounds_toArray, List.set_cons_zero, List.set_cons_succ]
      have HC : Aside0 (Calls Tryd.prog 73 #[(.agg #[.bool b_z, .slice A_z M_z c_z, .slice B_z K_z d_z])] ((w16.alloc (.cells #[.bool b_p, .slice A_p M_p c_p, .slice B_p K_p d_p] 56)).drew) (BoolPost ((w16.alloc (.cells #[.bool b_p, .slice A_p M_p c_p, .slice B_p K_p d_p] 56)).drew) true)) := ⟨by have h := snought_w (((((((((((((H_z.out.below B6.out).below B7.out).below B8.out).below B9.out).below B10.out).below B11.out).below B12.out).below B13.out).below B14.out).below B15.out).below B16.out).below B17.out).below B18.out); rw [decide_eq_true Z0.out] at h; exact h⟩
      refine Inv.oneL (i := 1) rfl (by kernel_rfl) (fun K hK => ?_)
      go_simp
      refine HC.out.mono ?_
      clear HC
      rintro e w19 ⟨rfl, hB⟩
      try go_wp2_with fail
      have B19 := Aside0.mk hB
      have T19 := Aside0.mk (T18.out.trans (hB.mono T18.out.size))
      clear hB
      have U19 := Aside0.mk (U18.out.trans (B19.out.mono U18.out.size))
      refine hK.out _ _ (HS18.out _ U19.out) (fun hHeld => ?_)
      clear hK K
      try simp only [Act.put, List.setIfInBounds_toArray, List.set_cons_zero, List.set_cons_succ]
      refine Inv.takeL (i := 2) (v := ?v14_2) rfl (by kernel_rfl) (by kernel_rfl) (by kernel_rfl) (fun _ _ _ h => h) (by rfl) ?hy14_2 (by assumption) ?rest14_2
      case hy14_2 => ((intro w hSw; (try dsimp only at hSw); go_simp) <;> with_reducible rfl)
      try simp only [Act.put, List.setIfInBounds_toArray, List.set_cons_zero, List.set_cons_succ]
      refine Inv.skipL (i := 3) rfl (by kernel_rfl) (by kernel_rfl) (by kernel_rfl) (fun _ _ _ h => h) (by rfl) (by assumption) ?_
      try simp only [Act.put, List.setIfInBounds_toArray, List.set_cons_zero, List.set_cons_succ]
      refine Inv.skipL (i := 4) rfl (by kernel_rfl) (by kernel_rfl) (by kernel_rfl) (fun _ _ _ h => h) (by rfl) (by assumption) ?_
      try simp only [Act.put, List.setIfInBounds_toArray, List.set_cons_zero, List.set_cons_succ]
      refine Inv.skipL (i := 5) rfl (by kernel_rfl) (by kernel_rfl) (by kernel_rfl) (fun _ _ _ h => h) (by rfl) (by assumption) ?_
      try simp only [Act.put, List.setIfInBounds_toArray, List.set_cons_zero, List.set_cons_succ]
      refine Inv.skipL (i := 6) rfl (by kernel_rfl) (by kernel_rfl) (by kernel_rfl) (fun _ _ _ h => h) (by rfl) (by assumption) ?_
      try simp only [Act.put, List.setIfInBounds_toArray, List.set_cons_zero, List.set_cons_succ]
      refine Inv.skipL (i := 7) rfl (by kernel_rfl) (by kernel_rfl) (by kernel_rfl) (fun _ _ _ h => h) (by rfl) (by assumption) ?_
      try simp only [Act.put, List.setIfInBounds_toArray, List.set_cons_zero, List.set_cons_succ]
      refine Inv.skipL (i := 8) rfl (by kernel_rfl) (by kernel_rfl) (by kernel_rfl) (fun _ _ _ h => h) (by rfl) (by assumption) ?_
      try simp only [Act.put, List.setIfInBounds_toArray, List.set_cons_zero, List.set_cons_succ]
      refine Inv.skipL (i := 9) rfl (by kernel_rfl) (by kernel_rfl) (by kernel_rfl) (fun _ _ _ h => h) (by rfl) (by assumption) ?_
      try simp only [Act.put, List.setIfInBounds_toArray, List.set_cons_zero, List.set_cons_succ]
      refine Inv.skipL (i := 10) rfl (by kernel_rfl) (by kernel_rfl) (by kernel_rfl) (fun _ _ _ h => h) (by rfl) (by assumption) ?_
      try simp only [Act.put, List.setIfInBounds_toArray, List.set_cons_zero, List.set_cons_succ]
      refine Inv.skipL (i := 11) rfl (by kernel_rfl) (by kernel_rfl) (by kernel_rfl) (fun _ _ _ h => h) (by rfl) (by assumption) ?_
      try simp only [Act.put, List.setIfInBounds_toArray, List.set_cons_zero, List.set_cons_succ]
      refine Inv.skipL (i := 12) rfl (by kernel_rfl) (by kernel_rfl) (by kernel_rfl) (fun _ _ _ h => h) (by rfl) (by assumption) ?_
      try simp only [Act.put, List.setIfInBounds_toArray, List.set_cons_zero, List.set_cons_succ]
      refine Inv.skipL (i := 13) rfl (by kernel_rfl) (by kernel_rfl) (by kernel_rfl) (fun _ _ _ h => h) (by rfl) (by assumption) ?_
      try simp only [Act.put, List.setIfInBounds_toArray, List.set_cons_zero, List.set_cons_succ]
      refine Inv.skipL (i := 14) rfl (by kernel_rfl) (by kernel_rfl) (by kernel_rfl) (fun _ _ _ h => h) (by rfl) (by assumption) ?_
      try simp only [Act.put, List.setIfInBounds_toArray, List.set_cons_zero, List.set_cons_succ]
      refine Inv.skipL (i := 15) rfl (by kernel_rfl) (by kernel_rfl) (by kernel_rfl) (fun _ _ _ h => h) (by rfl) (by assumption) ?_
      try simp only [Act.put, List.setIfInBounds_toArray, List.set_cons_zero, List.set_cons_succ]
      refine Inv.skipL (i := 16) rfl (by kernel_rfl) (by kernel_rfl) (by kernel_rfl) (fun _ _ _ h => h) (by rfl) (by assumption) ?_
      try simp only [Act.put, List.setIfInBounds_toArray, List.set_cons_zero, List.set_cons_succ]
      refine Inv.skipL (i := 17) rfl (by kernel_rfl) (by kernel_rfl) (by kernel_rfl) (fun _ _ _ h => h) (by rfl) (by assumption) ?_
      try simp only [Act.put, List.setIfInBounds_toArray, List.set_cons_zero, List.set_cons_succ]
      refine Inv.skipL (i := 18) rfl (by kernel_rfl) (by kernel_rfl) (by kernel_rfl) (fun _ _ _ h => h) (by rfl) (by assumption) ?_
      try simp only [Act.put, List.setIfInBounds_toArray, List.set_cons_zero, List.set_cons_succ]
      refine Inv.skipL (i := 19) rfl (by kernel_rfl) (by kernel_rfl) (by kernel_rfl) (fun _ _ _ h => h) (by rfl) (by assumption) ?_
      try simp only [Act.put, List.setIfInBounds_toArray, List.set_cons_zero, List.set_cons_succ]
      refine Inv.skipL (i := 20) rfl (by kernel_rfl) (by kernel_rfl) (by kernel_rfl) (fun _ _ _ h => h) (by rfl) (by assumption) ?_
      try simp only [Act.put, List.setIfInBounds_toArray, List.set_cons_zero, List.set_cons_succ]
      refine Inv.skipL (i := 21) rfl (by kernel_rfl) (by kernel_rfl) (by kernel_rfl) (fun _ _ _ h => h) (by rfl) (by assumption) ?_
      try simp only [Act.put, List.setIfInBounds_toArray, List.set_cons_zero, List.set_cons_succ]
      refine Inv.skipL (i := 22) rfl (by kernel_rfl) (by kernel_rfl) (by kernel_rfl) (fun _ _ _ h => h) (by rfl) (by assumption) ?_
      try simp only [Act.put, List.setIfInBounds_toArray, List.set_cons_zero, List.set_cons_succ]
      refine Inv.skipL (i := 23) rfl (by kernel_rfl) (by kernel_rfl) (by kernel_rfl) (fun _ _ _ h => h) (by rfl) (by assumption) ?_
      try simp only [Act.put, List.setIfInBounds_toArray, List.set_cons_zero, List.set_cons_succ]
      refine Inv.skipL (i := 24) rfl (by kernel_rfl) (by kernel_rfl) (by kernel_rfl) (fun _ _ _ h => h) (by rfl) (by assumption) ?_
      try simp only [Act.put, List.setIfInBounds_toArray, List.set_cons_zero, List.set_cons_succ]
      refine Inv.skipL (i := 25) rfl (by kernel_rfl) (by kernel_rfl) (by kernel_rfl) (fun _ _ _ h => h) (by rfl) (by assumption) ?_
      try simp only [Act.put, List.setIfInBounds_toArray, List.set_cons_zero, List.set_cons_succ]
      refine Inv.skipL (i := 26) rfl (by kernel_rfl) (by kernel_rfl) (by kernel_rfl) (fun _ _ _ h => h) (by rfl) (by assumption) ?_
      try simp only [Act.put, List.setIfInBounds_toArray, List.set_cons_zero, List.set_cons_succ]
      refine Inv.skipL (i := 27) rfl (by kernel_rfl) (by kernel_rfl) (by kernel_rfl) (fun _ _ _ h => h) (by rfl) (by assumption) ?_
      try simp only [Act.put, List.setIfInBounds_toArray, List.set_cons_zero, List.set_cons_succ]
      refine Inv.skipL (i := 28) rfl (by kernel_rfl) (by kernel_rfl) (by kernel_rfl) (fun _ _ _ h => h) (by rfl) (by assumption) ?_
      try simp only [Act.put, List.setIfInBounds_toArray, List.set_cons_zero, List.set_cons_succ]
      refine Inv.skipL (i := 29) rfl (by kernel_rfl) (by kernel_rfl) (by kernel_rfl) (fun _ _ _ h => h) (by rfl) (by assumption) ?_
      try simp only [Act.put, List.setIfInBounds_toArray, List.set_cons_zero, List.set_cons_succ]
      refine Inv.skipL (i := 30) rfl (by kernel_rfl) (by kernel_rfl) (by kernel_rfl) (fun _ _ _ h => h) (by rfl) (by assumption) ?_
      try simp only [Act.put, List.setIfInBounds_toArray, List.set_cons_zero, List.set_cons_succ]
      refine Inv.takeL (i := 31) (v := ?v14_31) rfl (by kernel_rfl) (by kernel_rfl) (by kernel_rfl) (fun _ _ _ h => h) (by rfl) ?hy14_31 (by assumption) ?rest14_31
      case hy14_31 => ((intro w hSw; (try dsimp only at hSw); go_simp) <;> with_reducible rfl)
      try simp only [Act.put, List.setIfInBounds_toArray, List.set_cons_zero, List.set_cons_succ]
      refine Inv.takeL (i := 32) (v := ?v14_32) rfl (by kernel_rfl) (by kernel_rfl) (by kernel_rfl) (fun _ _ _ h => h) (by rfl) ?hy14_32 (by assumption) ?rest14_32
      case hy14_32 => ((intro w hSw; (try dsimp only at hSw); go_simp) <;> with_reducible rfl)
      try simp only [Act.put, List.setIfInBounds_toArray, List.set_cons_zero, List.set_cons_succ]
      refine wpAnyH_done (by kernel_rfl) ?_ _
      go_wp2_with fail
      go_ret
      exact ⟨rfl, T19.out⟩
    ·
      have Z0 := Aside0.mk hz0
      clear hz0
      obtain ⟨⟨hu00, hu01, hu02⟩, _⟩ := ((((((((((H_bx_z.out.below B6.out).below B7.out).below B8.out).below B9.out).below B10.out).below B11.out).below B12.out).below B13.out).below B14.out).below B15.out)
      have HC : Aside0 (Calls Tryd.prog 76 #[(.agg #[.bool b_z, .slice A_z M_z c_z, .slice B_z K_z d_z])] w15 (RaPost w15 (Rat.abs (mkR g2 l2b l2c)))) := ⟨qabsR ((((((((((H_z.out.below B6.out).below B7.out).below B8.out).below B9.out).below B10.out).below B11.out).below B12.out).below B13.out).below B14.out).below B15.out) (X_z.out.le (by decide))⟩
      go_wp2_with fail
      refine HC.out.mono ?_
      clear HC
      rintro e w16 ⟨v_p, rfl, ⟨A_p, M_p, c_p, B_p, K_p, d_p, rfl, hNA, hNB⟩, hB⟩
      have B16 := Aside0.mk hB
      have T16 := Aside0.mk (T15.out.trans (hB.mono T15.out.size))
      obtain ⟨b_p, hb_p⟩ : ∃ b, b = decide ((Rat.abs (mkR g2 l2b l2c)).num < 0) := ⟨_, rfl⟩
      rw [← hb_p]
      have E_p := Aside0.mk hb_p
      clear hb_p
      have NA_p := Aside0.mk hNA
      have NB_p := Aside0.mk hNB
      clear hNA hNB hB
      clear hu00 hu01 hu02
      have H_bx_p := Aside0.mk (Blk_alloc w16 (.bool b_p) (.slice A_p M_p c_p) (.slice B_p K_p d_p) 56)
      have B17 := Aside0.mk (below_alloc (Below.refl w16.heap.size w16) (.cells #[.bool b_p, .slice A_p M_p c_p, .slice B_p K_p d_p] 56))
      have T17 := Aside0.mk (T16.out.trans (B17.out.mono T16.out.size))
      have H_p0 := Aside0.mk (show Ra w16 (.agg #[(.bool b_p), (.slice A_p M_p c_p), (.slice B_p K_p d_p)]) (Rat.abs (mkR g2 l2b l2c)) from by unfold Ra; rw [← E_p.out]; exact ⟨_, _, _, _, _, _, rfl, NA_p.out, NB_p.out⟩)
      have X_p := Aside0.mk (show Rb 3 (Rat.abs (mkR g2 l2b l2c)) from abs_bnd X_z.out)
      have H_p := Aside0.mk (show Ra (w16.alloc (.cells #[.bool b_p, .slice A_p M_p c_p, .slice B_p K_p d_p] 56)) (.agg #[(.bool b_p), (.slice A_p M_p c_p), (.slice B_p K_p d_p)]) (Rat.abs (mkR g2 l2b l2c)) from R3.below H_p0.out (below_alloc (Below.refl _ _) _))
      have PP := Aside0.mk (abs_pos Z0.out)
      go_wp2_with fail
      have B18 := Aside0.mk (Below.drew (Below.refl (w16.alloc (.cells #[.bool b_p, .slice A_p M_p c_p, .slice B_p K_p d_p] 56)).heap.size (w16.alloc (.cells #[.bool b_p, .slice A_p M_p c_p, .slice B_p K_p d_p] 56))))
      have T18 := Aside0.mk (T17.out.trans (B18.out.mono T17.out.size))
      have HS18 := Aside0.mk (fun (W : World) (hW : Below ((w16.alloc (.cells #[.bool b_p, .slice A_p M_p c_p, .slice B_p K_p d_p] 56)).drew).heap.size ((w16.alloc (.cells #[.bool b_p, .slice A_p M_p c_p, .slice B_p K_p d_p] 56)).drew) W) => show W.cell? ⟨p0, 0, none⟩ = some (.bool b_x) ∧ W.cell? ⟨p0, 1, none⟩ = some (.slice A_x M_x c_x) ∧ W.cell? ⟨p0, 2, none⟩ = some (.slice B_x K_x d_x) ∧ W.cell? ⟨p1, 0, none⟩ = some (.bool b_y) ∧ W.cell? ⟨p1, 1, none⟩ = some (.slice A_y M_y c_y) ∧ W.cell? ⟨p1, 2, none⟩ = some (.slice B_y K_y d_y) ∧ W.cell? ⟨p2, 0, none⟩ = some (.bool b_z) ∧ W.cell? ⟨p2, 1, none⟩ = some (.slice A_z M_z c_z) ∧ W.cell? ⟨p2, 2, none⟩ = some (.slice B_z K_z d_z) ∧ W.cell? ⟨w16.heap.size, 0, none⟩ = some (.bool b_p) ∧ W.cell? ⟨w16.heap.size, 1, none⟩ = some (.slice A_p M_p c_p) ∧ W.cell? ⟨w16.heap.size, 2, none⟩ = some (.slice B_p K_p d_p) from ⟨((((((((((((((H_bx_x.out.below B6.out).below B7.out).below B8.out).below B9.out).below B10.out).below B11.out).below B12.out).below B13.out).below B14.out).below B15.out).below B16.out).below B17.out).below B18.out).below hW).1.1, ((((((((((((((H_bx_x.out.below B6.out).below B7.out).below B8.out).below B9.out).below B10.out).below B11.out).below B12.out).below B13.out).below B14.out).below B15.out).below B16.out).below B17.out).below B18.out).below hW).1.2.1, ((((((((((((((H_bx_x.out.below B6.out).below B7.out).below B8.out).below B9.out).below B10.out).below B11.out).below B12.out).below B13.out).below B14.out).below B15.out).below B16.out).below B17.out).below B18.out).below hW).1.2.2, ((((((((((((((H_bx_y.out.below B6.out).below B7.out).below B8.out).below B9.out).below B10.out).below B11.out).below B12.out).below B13.out).below B14.out).below B15.out).below B16.out).below B17.out).below B18.out).below hW).1.1, ((((((((((((((H_bx_y.out.below B6.out).below B7.out).below B8.out).below B9.out).below B10.out).below B11.out).below B12.out).below B13.out).below B14.out).below B15.out).below B16.out).below B17.out).below B18.out).below hW).1.2.1, ((((((((((((((H_bx_y.out.below B6.out).below B7.out).below B8.out).below B9.out).below B10.out).below B11.out).below B12.out).below B13.out).below B14.out).below B15.out).below B16.out).below B17.out).below B18.out).below hW).1.2.2, ((((((((((((((H_bx_z.out.below B6.out).below B7.out).below B8.out).below B9.out).below B10.out).below B11.out).below B12.out).below B13.out).below B14.out).below B15.out).below B16.out).below B17.out).below B18.out).below hW).1.1, ((((((((((((((H_bx_z.out.below B6.out).below B7.out).below B8.out).below B9.out).below B10.out).below B11.out).below B12.out).below B13.out).below B14.out).below B15.out).below B16.out).below B17.out).below B18.out).below hW).1.2.1, ((((((((((((((H_bx_z.out.below B6.out).below B7.out).below B8.out).below B9.out).below B10.out).below B11.out).below B12.out).below B13.out).below B14.out).below B15.out).below B16.out).below B17.out).below B18.out).below hW).1.2.2, ((H_bx_p.out.below B18.out).below hW).1.1, ((H_bx_p.out.below B18.out).below hW).1.2.1, ((H_bx_p.out.below B18.out).below hW).1.2.2⟩)
      have U18 := Aside0.mk (Below.refl ((w16.alloc (.cells #[.bool b_p, .slice A_p M_p c_p, .slice B_p K_p d_p] 56)).drew).heap.size ((w16.alloc (.cells #[.bool b_p, .slice A_p M_p c_p, .slice B_p K_p d_p] 56)).drew))
      refine wp_region_held_drew (S := fun W => W.cell? ⟨p0, 0, none⟩ = some (.bool b_x) ∧ W.cell? ⟨p0, 1, none⟩ = some (.slice A_x M_x c_x) ∧ W.cell? ⟨p0, 2, none⟩ = some (.slice B_x K_x d_x) ∧ W.cell? ⟨p1, 0, none⟩ = some (.bool b_y) ∧ W.cell? ⟨p1, 1, none⟩ = some (.slice A_y M_y c_y) ∧ W.cell? ⟨p1, 2, none⟩ = some (.slice B_y K_y d_y) ∧ W.cell? ⟨p2, 0, none⟩ = some (.bool b_z) ∧ W.cell? ⟨p2, 1, none⟩ = some (.slice A_z M_z c_z) ∧ W.cell? ⟨p2, 2, none⟩ = some (.slice B_z K_z d_z) ∧ W.cell? ⟨w16.heap.size, 0, none⟩ = some (.bool b_p) ∧ W.cell? ⟨w16.heap.size, 1, none⟩ = some (.slice A_p M_p c_p) ∧ W.cell? ⟨w16.heap.size, 2, none⟩ = some (.slice B_p K_p d_p)) (by kernel_rfl) (HS18.out _ (Below.refl _ _)) (fun hHeld => ?_)
      refine Inv.takeL (i := 0) (v := ?v15_0) rfl (by kernel_rfl) (by kernel_rfl) (by kernel_rfl) (fun _ _ _ h => h) (by rfl) ?hy15_0 (by assumption) ?rest15_0
      case hy15_0 => ((intro w hSw; (try dsimp only at hSw); go_simp) <;> with_reducible rfl)
      try simp only [Act.put, List.setIfInBounds_toArray, List.set_cons_zero, List.set_cons_succ]
      have HC : Aside0 (Calls Tryd.prog 73 #[(.agg #[.bool b_z, .slice A_z M_z c_z, .slice B_z K_z d_z])] ((w16.alloc (.cells #[.bool b_p, .slice A_p M_p c_p, .slice B_p K_p d_p] 56)).drew) (BoolPost ((w16.alloc (.cells #[.bool b_p, .slice A_p M_p c_p, .slice B_p K_p d_p] 56)).drew) false)) := ⟨by have h := snought_w (((((((((((((H_z.out.below B6.out).below B7.out).below B8.out).below B9.out).below B10.out).below B11.out).below B12.out).below B13.out).below B14.out).below B15.out).below B16.out).below B17.out).below B18.out); rw [decide_eq_false Z0.out] at h; exact h⟩
      refine Inv.oneL (i := 1) rfl (by kernel_rfl) (fun K hK => ?_)
      go_simp
      refine HC.out.mono ?_
      clear HC
      rintro e w19 ⟨rfl, hB⟩
      try go_wp2_with fail
      have B19 := Aside0.mk hB
      have T19 := Aside0.mk (T18.out.trans (hB.mono T18.out.size))
      clear hB
      have U19 := Aside0.mk (U18.out.trans (B19.out.mono U18.out.size))
      refine hK.out _ _ (HS18.out _ U19.out) (fun hHeld => ?_)
      clear hK K
      try simp only [Act.put, List.setIfInBounds_toArray, List.set_cons_zero, List.set_cons_succ]
      refine Inv.takeL (i := 2) (v := ?v15_2) rfl (by kernel_rfl) (by kernel_rfl) (by kernel_rfl) (fun _ _ _ h => h) (by rfl) ?hy15_2 (by assumption) ?rest15_2
      case hy15_2 => ((intro w hSw; (try dsimp only at hSw); go_simp) <;> with_reducible rfl)
      try simp only [Act.put, List.setIfInBounds_toArray, List.set_cons_zero, List.set_cons_succ]
      refine Inv.takeL (i := 3) (v := ?v15_3) rfl (by kernel_rfl) (by kernel_rfl) (by kernel_rfl) (fun _ _ _ h => h) (by rfl) ?hy15_3 (by assumption) ?rest15_3
      case hy15_3 => ((intro w hSw; (try dsimp only at hSw); go_simp) <;> with_reducible rfl)
      try simp only [Act.put, List.setIfInBounds_toArray, List.set_cons_zero, List.set_cons_succ]
      refine Inv.takeL (i := 4) (v := ?v15_4) rfl (by kernel_rfl) (by kernel_rfl) (by kernel_rfl) (fun _ _ _ h => h) (by rfl) ?hy15_4 (by assumption) ?rest15_4
      case hy15_4 => ((intro w hSw; (try dsimp only at hSw); go_simp) <;> with_reducible rfl)
      try simp only [Act.put, List.setIfInBounds_toArray, List.set_cons_zero, List.set_cons_succ]
      refine Inv.takeL (i := 6) (v := ?v15_6) rfl (by kernel_rfl) (by kernel_rfl) (by kernel_rfl) (fun _ _ _ h => h) (by rfl) ?hy15_6 (by assumption) ?rest15_6
      case hy15_6 => ((intro w hSw; (try dsimp only at hSw); go_simp) <;> with_reducible rfl)
      try simp only [Act.put, List.setIfInBounds_toArray, List.set_cons_zero, List.set_cons_succ]
      refine Inv.takeL (i := 7) (v := ?v15_7) rfl (by kernel_rfl) (by kernel_rfl) (by kernel_rfl) (fun _ _ _ h => h) (by rfl) ?hy15_7 (by assumption) ?rest15_7
      case hy15_7 => ((intro w hSw; (try dsimp only at hSw); go_simp) <;> with_reducible rfl)
      try simp only [Act.put, List.setIfInBounds_toArray, List.set_cons_zero, List.set_cons_succ]
      refine Inv.takeL (i := 10) (v := ?v15_10) rfl (by kernel_rfl) (by kernel_rfl) (by kernel_rfl) (fun _ _ _ h => h) (by rfl) ?hy15_10 (by assumption) ?rest15_10
      case hy15_10 => ((intro w hSw; (try dsimp only at hSw); go_simp) <;> with_reducible rfl)
      try simp only [Act.put, List.setIfInBounds_toArray, List.set_cons_zero, List.set_cons_succ]
      have HC : Aside0 (Calls Tryd.prog 64 #[(.agg #[.bool b_x, .slice A_x M_x c_x, .slice B_x K_x d_x]), (.agg #[(.bool b_p), (.slice A_p M_p c_p), (.slice B_p K_p d_p)])] w19 (RaPost w19 ((mkR g0 l0b l0c) * (Rat.abs (mkR g2 l2b l2c))))) := ⟨qmulR ((((((((((((((H_x.out.below B6.out).below B7.out).below B8.out).below B9.out).below B10.out).below B11.out).below B12.out).below B13.out).below B14.out).below B15.out).below B16.out).below B17.out).below B18.out).below B19.out) ((H_p.out.below B18.out).below B19.out) (X_x.out.le (by decide)) (X_p.out.le (by decide))⟩
      refine Inv.oneL (i := 5) rfl (by kernel_rfl) (fun K hK => ?_)
      go_simp
      refine HC.out.mono ?_
      clear HC
      rintro e w20 ⟨v_m1, rfl, hN, hB⟩
      try go_wp2_with fail
      have B20 := Aside0.mk hB
      have T20 := Aside0.mk (T19.out.trans (hB.mono T19.out.size))
      have H_m1 := Aside0.mk hN
      have X_m1 := Aside0.mk (show Rb 6 ((mkR g0 l0b l0c) * (Rat.abs (mkR g2 l2b l2c))) from mul_bnd X_x.out X_p.out (by decide))
      clear hN hB
      have U20 := Aside0.mk (U19.out.trans (B20.out.mono U19.out.size))
      refine hK.out _ _ (HS18.out _ U20.out) (fun hHeld => ?_)
      clear hK K
      try simp only [Act.put, List.setIfInBounds_toArray, List.set_cons_zero, List.set_cons_succ]
      have HC : Aside0 (Calls Tryd.prog 64 #[(.agg #[.bool b_y, .slice A_y M_y c_y, .slice B_y K_y d_y]), (.agg #[(.bool b_p), (.slice A_p M_p c_p), (.slice B_p K_p d_p)])] w20 (RaPost w20 ((mkR g1 l1b l1c) * (Rat.abs (mkR g2 l2b l2c))))) := ⟨qmulR (((((((((((((((H_y.out.below B6.out).below B7.out).below B8.out).below B9.out).below B10.out).below B11.out).below B12.out).below B13.out).below B14.out).below B15.out).below B16.out).below B17.out).below B18.out).below B19.out).below B20.out) (((H_p.out.below B18.out).below B19.out).below B20.out) (X_y.out.le (by decide)) (X_p.out.le (by decide))⟩
      refine Inv.oneL (i := 8) rfl (by kernel_rfl) (fun K hK => ?_)
      go_simp
      refine HC.out.mono ?_
      clear HC
      rintro e w21 ⟨v_m2, rfl, hN, hB⟩
      try go_wp2_with fail
      have B21 := Aside0.mk hB
      have T21 := Aside0.mk (T20.out.trans (hB.mono T20.out.size))
      have H_m2 := Aside0.mk hN
      have X_m2 := Aside0.mk (show Rb 6 ((mkR g1 l1b l1c) * (Rat.abs (mkR g2 l2b l2c))) from mul_bnd X_y.out X_p.out (by decide))
      clear hN hB
      have U21 := Aside0.mk (U20.out.trans (B21.out.mono U20.out.size))
      refine hK.out _ _ (HS18.out _ U21.out) (fun hHeld => ?_)
      clear hK K
      try simp only [Act.put, List.setIfInBounds_toArray, List.set_cons_zero, List.set_cons_succ]
      have HC : Aside0 (Calls Tryd.prog 74 #[v_m1, v_m2] w21 (IntPost w21 1)) := ⟨by have h := qcmpR (H_m1.out.below B21.out) H_m2.out (X_m1.out.le (by decide)) (X_m2.out.le (by decide)); rw [show cmpQ ((mkR g0 l0b l0c) * (Rat.abs (mkR g2 l2b l2c))) ((mkR g1 l1b l1c) * (Rat.abs (mkR g2 l2b l2c))) = 1 by rw [cmp_mul PP.out, CZ.out]] at h; exact h⟩
      refine Inv.oneL (i := 9) rfl (by kernel_rfl) (fun K hK => ?_)
      go_simp
      refine HC.out.mono ?_
      clear HC
      rintro e w22 ⟨rfl, hB⟩
      try go_wp2_with fail
      have B22 := Aside0.mk hB
      have T22 := Aside0.mk (T21.out.trans (hB.mono T21.out.size))
      clear hB
      have U22 := Aside0.mk (U21.out.trans (B22.out.mono U21.out.size))
      refine hK.out _ _ (HS18.out _ U22.out) (fun hHeld => ?_)
      clear hK K
      try simp only [Act.put, List.setIfInBounds_toArray, List.set_cons_zero, List.set_cons_succ]
      refine Inv.takeL (i := 11) (v := ?v15_11) rfl (by kernel_rfl) (by kernel_rfl) (by kernel_rfl) (fun _ _ _ h => h) (by rfl) ?hy15_11 (by assumption) ?rest15_11
      case hy15_11 => ((intro w hSw; (try dsimp only at hSw); go_simp) <;> with_reducible rfl)
      try simp only [Act.put, List.setIfInBounds_toArray, List.set_cons_zero, List.set_cons_succ]
      refine Inv.takeL (i := 12) (v := ?v15_12) rfl (by kernel_rfl) (by kernel_rfl) (by kernel_rfl) (fun _ _ _ h => h) (by rfl) ?hy15_12 (by assumption) ?rest15_12
      case hy15_12 => ((intro w hSw; (try dsimp only at hSw); go_simp) <;> with_reducible rfl)
      try simp only [Act.put, List.setIfInBounds_toArray, List.set_cons_zero, List.set_cons_succ]
      refine Inv.takeL (i := 13) (v := ?v15_13) rfl (by kernel_rfl) (by kernel_rfl) (by kernel_rfl) (fun _ _ _ h => h) (by rfl) ?hy15_13 (by assumption) ?rest15_13
      case hy15_13 => ((intro w hSw; (try dsimp only at hSw); go_simp) <;> with_reducible rfl)
      try simp only [Act.put, List.setIfInBounds_toArray, List.set_cons_zero, List.set_cons_succ]
      have HC : Aside0 (Calls Tryd.prog 71 #[] w22 (RaPost w22 ((0 : Rat)))) := ⟨szeroR w22⟩
      refine Inv.oneL (i := 14) rfl (by kernel_rfl) (fun K hK => ?_)
      go_simp
      refine HC.out.mono ?_
      clear HC
      rintro e w23 ⟨v_zz, rfl, hN, hB⟩
      try go_wp2_with fail
      have B23 := Aside0.mk hB
      have T23 := Aside0.mk (T22.out.trans (hB.mono T22.out.size))
      have H_zz := Aside0.mk hN
      have X_zz := Aside0.mk (show Rb 1 ((0 : Rat)) from rb_zero)
      clear hN hB
      have U23 := Aside0.mk (U22.out.trans (B23.out.mono U22.out.size))
      refine hK.out _ _ (HS18.out _ U23.out) (fun hHeld => ?_)
      clear hK K
      try simp only [Act.put, List.setIfInBounds_toArray, List.set_cons_zero, List.set_cons_succ]
      have HC : Aside0 (Calls Tryd.prog 74 #[(.agg #[(.bool b_p), (.slice A_p M_p c_p), (.slice B_p K_p d_p)]), v_zz] w23 (IntPost w23 1)) := ⟨by have h := qcmpR ((((((H_p.out.below B18.out).below B19.out).below B20.out).below B21.out).below B22.out).below B23.out) H_zz.out (X_p.out.le (by decide)) (X_zz.out.le (by decide)); rw [show cmpQ (Rat.abs (mkR g2 l2b l2c)) 0 = 1 from cmp_pos PP.out] at h; exact h⟩
      refine Inv.oneL (i := 15) rfl (by kernel_rfl) (fun K hK => ?_)
      go_simp
      refine HC.out.mono ?_
      clear HC
      rintro e w24 ⟨rfl, hB⟩
      try go_wp2_with fail
      have B24 := Aside0.mk hB
      have T24 := Aside0.mk (T23.out.trans (hB.mono T23.out.size))
      clear hB
      have U24 := Aside0.mk (U23.out.trans (B24.out.mono U23.out.size))
      refine hK.out _ _ (HS18.out _ U24.out) (fun hHeld => ?_)
      clear hK K
      try simp only [Act.put, List.setIfInBounds_toArray, List.set_cons_zero, List.set_cons_succ]
      refine Inv.takeL (i := 16) (v := ?v15_16) rfl (by kernel_rfl) (by kernel_rfl) (by kernel_rfl) (fun _ _ _ h => h) (by rfl) ?hy15_16 (by assumption) ?rest15_16
      case hy15_16 => ((intro w hSw; (try dsimp only at hSw); go_simp) <;> with_reducible rfl)
      try simp only [Act.put, List.setIfInBounds_toArray, List.set_cons_zero, List.set_cons_succ]
      refine Inv.takeL (i := 17) (v := ?v15_17) rfl (by kernel_rfl) (by kernel_rfl) (by kernel_rfl) (fun _ _ _ h => h) (by rfl) ?hy15_17 (by assumption) ?rest15_17
      case hy15_17 => ((intro w hSw; (try dsimp only at hSw); go_simp) <;> with_reducible rfl)
      try simp only [Act.put, List.setIfInBounds_toArray, List.set_cons_zero, List.set_cons_succ]
      refine Inv.takeL (i := 18) (v := ?v15_18) rfl (by kernel_rfl) (by kernel_rfl) (by kernel_rfl) (fun _ _ _ h => h) (by rfl) ?hy15_18 (by assumption) ?rest15_18
      case hy15_18 => ((intro w hSw; (try dsimp only at hSw); go_simp) <;> with_reducible rfl)
      try simp only [Act.put, List.setIfInBounds_toArray, List.set_cons_zero, List.set_cons_succ]
      refine Inv.takeL (i := 19) (v := ?v15_19) rfl (by kernel_rfl) (by kernel_rfl) (by kernel_rfl) (fun _ _ _ h => h) (by rfl) ?hy15_19 (by assumption) ?rest15_19
      case hy15_19 => ((intro w hSw; (try dsimp only at hSw); go_simp) <;> with_reducible rfl)
      try simp only [Act.put, List.setIfInBounds_toArray, List.set_cons_zero, List.set_cons_succ]
      refine Inv.takeL (i := 20) (v := ?v15_20) rfl (by kernel_rfl) (by kernel_rfl) (by kernel_rfl) (fun _ _ _ h => h) (by rfl) ?hy15_20 (by assumption) ?rest15_20
      case hy15_20 => ((intro w hSw; (try dsimp only at hSw); go_simp) <;> with_reducible rfl)
      try simp only [Act.put, List.setIfInBounds_toArray, List.set_cons_zero, List.set_cons_succ]
      refine Inv.takeL (i := 23) (v := ?v15_23) rfl (by kernel_rfl) (by kernel_rfl) (by kernel_rfl) (fun _ _ _ h => h) (by rfl) ?hy15_23 (by assumption) ?rest15_23
      case hy15_23 => ((intro w hSw; (try dsimp only at hSw); go_simp) <;> with_reducible rfl)
      try simp only [Act.put, List.setIfInBounds_toArray, List.set_cons_zero, List.set_cons_succ]
      refine Inv.takeL (i := 25) (v := ?v15_25) rfl (by kernel_rfl) (by kernel_rfl) (by kernel_rfl) (fun _ _ _ h => h) (by rfl) ?hy15_25 (by assumption) ?rest15_25
      case hy15_25 => ((intro w hSw; (try dsimp only at hSw); go_simp) <;> with_reducible rfl)
      try simp only [Act.put, List.setIfInBounds_toArray, List.set_cons_zero, List.set_cons_succ]
      have HC : Aside0 (Calls Tryd.prog 68 #[(.agg #[.bool b_x, .slice A_x M_x c_x, .slice B_x K_x d_x]), (.agg #[.bool b_y, .slice A_y M_y c_y, .slice B_y K_y d_y])] w24 (RaPost w24 ((mkR g0 l0b l0c) + (mkR g1 l1b l1c)))) := ⟨qaddR (((((((((((((((((((H_x.out.below B6.out).below B7.out).below B8.out).below B9.out).below B10.out).below B11.out).below B12.out).below B13.out).below B14.out).below B15.out).below B16.out).below B17.out).below B18.out).below B19.out).below B20.out).below B21.out).below B22.out).below B23.out).below B24.out) (((((((((((((((((((H_y.out.below B6.out).below B7.out).below B8.out).below B9.out).below B10.out).below B11.out).below B12.out).below B13.out).below B14.out).below B15.out).below B16.out).below B17.out).below B18.out).below B19.out).below B20.out).below B21.out).below B22.out).below B23.out).below B24.out) (X_x.out.le (by decide)) (X_y.out.le (by decide))⟩
      refine Inv.oneL (i := 21) rfl (by kernel_rfl) (fun K hK => ?_)
      go_simp
      refine HC.out.mono ?_
      clear HC
      rintro e w25 ⟨v_a1, rfl, hN, hB⟩
      try go_wp2_with fail
      have B25 := Aside0.mk hB
      have T25 := Aside0.mk (T24.out.trans (hB.mono T24.out.size))
      have H_a1 := Aside0.mk hN
      have X_a1 := Aside0.mk (show Rb 7 ((mkR g0 l0b l0c) + (mkR g1 l1b l1c)) from add_bnd X_x.out X_y.out (by decide))
      clear hN hB
      have U25 := Aside0.mk (U24.out.trans (B25.out.mono U24.out.size))
      refine hK.out _ _ (HS18.out _ U25.out) (fun hHeld => ?_)
      clear hK K
      try simp only [Act.put, List.setIfInBounds_toArray, List.set_cons_zero, List.set_cons_succ]
      have HC : Aside0 (Calls Tryd.prog 76 #[v_a1] w25 (RaPost w25 (Rat.abs ((mkR g0 l0b l0c) + (mkR g1 l1b l1c))))) := ⟨qabsR H_a1.out (X_a1.out.le (by decide))⟩
      refine Inv.oneL (i := 22) rfl (by kernel_rfl) (fun K hK => ?_)
      go_simp
      refine HC.out.mono ?_
      clear HC
      rintro e w26 ⟨v_a2, rfl, hN, hB⟩
      try go_wp2_with fail
      have B26 := Aside0.mk hB
      have T26 := Aside0.mk (T25.out.trans (hB.mono T25.out.size))
      have H_a2 := Aside0.mk hN
      have X_a2 := Aside0.mk (show Rb 7 (Rat.abs ((mkR g0 l0b l0c) + (mkR g1 l1b l1c))) from abs_bnd X_a1.out)
      clear hN hB
      have U26 := Aside0.mk (U25.out.trans (B26.out.mono U25.out.size))
      refine hK.out _ _ (HS18.out _ U26.out) (fun hHeld => ?_)
      clear hK K
      try simp only [Act.put, List.setIfInBounds_toArray, List.set_cons_zero, List.set_cons_succ]
      have HC : Aside0 (Calls Tryd.prog 76 #[(.agg #[.bool b_x, .slice A_x M_x c_x, .slice B_x K_x d_x])] w26 (RaPost w26 (Rat.abs (mkR g0 l0b l0c)))) := ⟨qabsR (((((((((((((((((((((H_x.out.below B6.out).below B7.out).below B8.out).below B9.out).below B10.out).below B11.out).below B12.out).below B13.out).below B14.out).below B15.out).below B16.out).below B17.out).below B18.out).below B19.out).below B20.out).below B21.out).below B22.out).below B23.out).below B24.out).below B25.out).below B26.out) (X_x.out.le (by decide))⟩
      refine Inv.oneL (i := 24) rfl (by kernel_rfl) (fun K hK => ?_)
      go_simp
      refine HC.out.mono ?_
      clear HC
      rintro e w27 ⟨v_a3, rfl, hN, hB⟩
      try go_wp2_with fail
      have B27 := Aside0.mk hB
      have T27 := Aside0.mk (T26.out.trans (hB.mono T26.out.size))
      have H_a3 := Aside0.mk hN
      have X_a3 := Aside0.mk (show Rb 3 (Rat.abs (mkR g0 l0b l0c)) from abs_bnd X_x.out)
      clear hN hB
      have U27 := Aside0.mk (U26.out.trans (B27.out.mono U26.out.size))
      refine hK.out _ _ (HS18.out _ U27.out) (fun hHeld => ?_)
      clear hK K
      try simp only [Act.put, List.setIfInBounds_toArray, List.set_cons_zero, List.set_cons_succ]
      have HC : Aside0 (Calls Tryd.prog 76 #[(.agg #[.bool b_y, .slice A_y M_y c_y, .slice B_y K_y d_y])] w27 (RaPost w27 (Rat.abs (mkR g1 l1b l1c)))) := ⟨qabsR ((((((((((((((((((((((H_y.out.below B6.out).below B7.out).below B8.out).below B9.out).below B10.out).below B11.out).below B12.out).below B13.out).below B14.out).below B15.out).below B16.out).below B17.out).below B18.out).below B19.out).below B20.out).below B21.out).below B22.out).below B23.out).below B24.out).below B25.out).below B26.out).below B27.out) (X_y.out.le (by decide))⟩
      refine Inv.oneL (i := 26) rfl (by kernel_rfl) (fun K hK => ?_)
      go_simp
      refine HC.out.mono ?_
      clear HC
      rintro e w28 ⟨v_a4, rfl, hN, hB⟩
      try go_wp2_with fail
      have B28 := Aside0.mk hB
      have T28 := Aside0.mk (T27.out.trans (hB.mono T27.out.size))
      have H_a4 := Aside0.mk hN
      have X_a4 := Aside0.mk (show Rb 3 (Rat.abs (mkR g1 l1b l1c)) from abs_bnd X_y.out)
      clear hN hB
      have U28 := Aside0.mk (U27.out.trans (B28.out.mono U27.out.size))
      refine hK.out _ _ (HS18.out _ U28.out) (fun hHeld => ?_)
      clear hK K
      try simp only [Act.put, List.setIfInBounds_toArray, List.set_cons_zero, List.set_cons_succ]
      have HC : Aside0 (Calls Tryd.prog 68 #[v_a3, v_a4] w28 (RaPost w28 ((Rat.abs (mkR g0 l0b l0c)) + (Rat.abs (mkR g1 l1b l1c))))) := ⟨qaddR (H_a3.out.below B28.out) H_a4.out (X_a3.out.le (by decide)) (X_a4.out.le (by decide))⟩
      refine Inv.oneL (i := 27) rfl (by kernel_rfl) (fun K hK => ?_)
      go_simp
      refine HC.out.mono ?_
      clear HC
      rintro e w29 ⟨v_a5, rfl, hN, hB⟩
      try go_wp2_with fail
      have B29 := Aside0.mk hB
      have T29 := Aside0.mk (T28.out.trans (hB.mono T28.out.size))
      have H_a5 := Aside0.mk hN
      have X_a5 := Aside0.mk (show Rb 7 ((Rat.abs (mkR g0 l0b l0c)) + (Rat.abs (mkR g1 l1b l1c))) from add_bnd X_a3.out X_a4.out (by decide))
      clear hN hB
      obtain ⟨zq, hzq, hzd⟩ := cmp_le2 (tri (mkR g0 l0b l0c) (mkR g1 l1b l1c))
      have ZQ := Aside0.mk hzq
      clear hzq
      have U29 := Aside0.mk (U28.out.trans (B29.out.mono U28.out.size))
      refine hK.out _ _ (HS18.out _ U29.out) (fun hHeld => ?_)
      clear hK K
      try simp only [Act.put, List.setIfInBounds_toArray, List.set_cons_zero, List.set_cons_succ]
      have HC : Aside0 (Calls Tryd.prog 74 #[v_a2, v_a5] w29 (IntPost w29 zq)) := ⟨by have h := qcmpR (((H_a2.out.below B27.out).below B28.out).below B29.out) H_a5.out (X_a2.out.le (by decide)) (X_a5.out.le (by decide)); rw [ZQ.out] at h; exact h⟩
      refine Inv.oneL (i := 28) rfl (by kernel_rfl) (fun K hK => ?_)
      go_simp
      refine HC.out.mono ?_
      clear HC
      rintro e w30 ⟨rfl, hB⟩
      try go_wp2_with fail
      have B30 := Aside0.mk hB
      have T30 := Aside0.mk (T29.out.trans (hB.mono T29.out.size))
      clear hB
      have U30 := Aside0.mk (U29.out.trans (B30.out.mono U29.out.size))
      refine hK.out _ _ (HS18.out _ U30.out) (fun hHeld => ?_)
      clear hK K
      try simp only [Act.put, List.setIfInBounds_toArray, List.set_cons_zero, List.set_cons_succ]
      refine Inv.takeL (i := 29) (v := ?v15_29) rfl (by kernel_rfl) (by kernel_rfl) (by kernel_rfl) (fun _ _ _ h => h) (by rfl) ?hy15_29 (by assumption) ?rest15_29
      case hy15_29 => ((intro w hSw; (try dsimp only at hSw); go_simp) <;> with_reducible rfl)
      try simp only [Act.put, List.setIfInBounds_toArray, List.set_cons_zero, List.set_cons_succ]
      refine Inv.takeL (i := 30) (v := ?v15_30) rfl (by kernel_rfl) (by kernel_rfl) (by kernel_rfl) (fun _ _ _ h => h) (by rfl) ?hy15_30 (by assumption) ?rest15_30
      case hy15_30 => ((intro w hSw; (try dsimp only at hSw); go_simp) <;> with_reducible rfl)
      try simp only [Act.put, List.setIfInBounds_toArray, List.set_cons_zero, List.set_cons_succ]
      refine Inv.takeL (i := 31) (v := ?v15_31) rfl (by kernel_rfl) (by kernel_rfl) (by kernel_rfl) (fun _ _ _ h => h) (by rfl) ?hy15_31 (by assumption) ?rest15_31
      case hy15_31 => ((intro w hSw; (try dsimp only at hSw); go_simp) <;> with_reducible rfl)
      try simp only [Act.put, List.setIfInBounds_toArray, List.set_cons_zero, List.set_cons_succ]
      refine Inv.takeL (i := 32) (v := ?v15_32) rfl (by kernel_rfl) (by kernel_rfl) (by kernel_rfl) (fun _ _ _ h => h) (by rfl) ?hy15_32 (by assumption) ?rest15_32
      case hy15_32 => ((intro w hSw; (try dsimp only at hSw); go_simp) <;> with_reducible rfl)
      try simp only [Act.put, List.setIfInBounds_toArray, List.set_cons_zero, List.set_cons_succ]
      refine wpAnyH_done (by kernel_rfl) ?_ _
      go_wp2_with fail
      go_ret
      exact ⟨rfl, T30.out⟩
end Go.Proofs.YtklhpobphloehaaDoor.ratOrder
