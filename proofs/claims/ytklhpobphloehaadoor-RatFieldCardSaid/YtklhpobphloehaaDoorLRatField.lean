/- The law RatField: the walk through its calls, by their contracts; the row and its card. -/
import Derived.Test.YtklhpobphloehaaDoorS4
import Derived.Test.YtklhpobphloehaaDoorS6
set_option linter.unusedVariables false
namespace Go.Proofs.YtklhpobphloehaaDoor.ratField
open Go.RowKit
open Go.Proofs.YtklhpobphloehaaDoor.G Go.Proofs.YtklhpobphloehaaDoor.Nn Go.Proofs.YtklhpobphloehaaDoorW.PrintWords Go.Proofs.YtklhpobphloehaaDoorW.PrintLast

theorem bx (W : World) (g : Nat) (a b c : Value) (t : TypeId) (hg : W.heap.size = g) : Blk (W.alloc (.cells #[a, b, c] t)) g a b c := by
  subst hg
  exact Blk_alloc W a b c t
theorem szeroR (w : World) : Calls Tryd.prog 71 #[] w (RaPost w (0 : Rat)) := (szero_w w).mono fun e w' ⟨v, he, hR, hB⟩ => ⟨v, he, hR, hB⟩
theorem rb_zero : Rb 1 (0 : Rat) := ⟨by decide, by decide⟩
theorem rb_int {n : Int} (h : n.natAbs < 4294967296) : Rb 1 ((n : Int) : Rat) := ⟨by show n.natAbs < pw 1; exact h, by show 1 < pw 1; decide⟩
theorem ssameR {w : World} {v0 v1 : Value} {x y : Rat} (hx : Ra w v0 x) (hy : Ra w v1 y) (bx : Rb 400 x) (h : x = y) : Calls Tryd.prog 58 #[v0, v1] w (TruePost w) := by
  subst h
  exact ssame_w hx hy (pw_lt1000 bx.1 (by omega)) (pw_lt1000 bx.2 (by omega))
set_option maxHeartbeats 4000000 in
set_option maxRecDepth 100000 in
theorem walk (g0 : Bool) (a0b : Option Addr) (c0b : Nat) (l0b : List Int) (a0c : Option Addr) (c0c : Nat) (l0c : List Int) (g1 : Bool) (a1b : Option Addr) (c1b : Nat) (l1b : List Int) (a1c : Option Addr) (c1c : Nat) (l1c : List Int) (g2 : Bool) (a2b : Option Addr) (c2b : Nat) (l2b : List Int) (a2c : Option Addr) (c2c : Nat) (l2c : List Int) (w : World) (hr0b : CU w a0b l0b.length l0b) (hc0b : l0b.length ≤ c0b) (hL0b : Lim l0b) (hr0c : CU w a0c l0c.length l0c) (hc0c : l0c.length ≤ c0c) (hL0c : Lim l0c) (hr1b : CU w a1b l1b.length l1b) (hc1b : l1b.length ≤ c1b) (hL1b : Lim l1b) (hr1c : CU w a1c l1c.length l1c) (hc1c : l1c.length ≤ c1c) (hL1c : Lim l1c) (hr2b : CU w a2b l2b.length l2b) (hc2b : l2b.length ≤ c2b) (hL2b : Lim l2b) (hr2c : CU w a2c l2c.length l2c) (hc2c : l2c.length ≤ c2c) (hL2c : Lim l2c) (HT : TabOk w) :
    Calls Tryd.prog 18 #[.agg #[.bool g0, .slice a0b l0b.length c0b, .slice a0c l0c.length c0c], .agg #[.bool g1, .slice a1b l1b.length c1b, .slice a1c l1c.length c1c], .agg #[.bool g2, .slice a2b l2b.length c2b, .slice a2c l2c.length c2c]] w (TruePost w) := by
  have C0b := Aside0.mk hr0b
  have S0b := Aside0.mk hc0b
  have L0b := Aside0.mk hL0b
  clear hr0b hc0b hL0b
  have C0c := Aside0.mk hr0c
  have S0c := Aside0.mk hc0c
  have L0c := Aside0.mk hL0c
  clear hr0c hc0c hL0c
  have C1b := Aside0.mk hr1b
  have S1b := Aside0.mk hc1b
  have L1b := Aside0.mk hL1b
  clear hr1b hc1b hL1b
  have C1c := Aside0.mk hr1c
  have S1c := Aside0.mk hc1c
  have L1c := Aside0.mk hL1c
  clear hr1c hc1c hL1c
  have C2b := Aside0.mk hr2b
  have S2b := Aside0.mk hc2b
  have L2b := Aside0.mk hL2b
  clear hr2b hc2b hL2b
  have C2c := Aside0.mk hr2c
  have S2c := Aside0.mk hc2c
  have L2c := Aside0.mk hL2c
  clear hr2c hc2c hL2c
  have TAB := Aside0.mk HT
  clear HT
  go_enter Tryd.func18, Tryd.ntmps18
  have B1 := Aside0.mk (below_alloc (Below.refl w.heap.size w) (.cells #[.bool g0, .slice a0b l0b.length c0b, .slice a0c l0c.length c0c] 56))
  have T1 := Aside0.mk (B1.out.mono (Nat.le_refl _))
  have H_bx0 := Aside0.mk (bx w (w.heap.size) (.bool g0) (.slice a0b l0b.length c0b) (.slice a0c l0c.length c0c) 56 (by simp))
  have B2 := Aside0.mk (below_alloc (Below.refl (w.alloc (.cells #[.bool g0, .slice a0b l0b.length c0b, .slice a0c l0c.length c0c] 56)).heap.size (w.alloc (.cells #[.bool g0, .slice a0b l0b.length c0b, .slice a0c l0c.length c0c] 56))) (.cells #[.bool g1, .slice a1b l1b.length c1b, .slice a1c l1c.length c1c] 56))
  have T2 := Aside0.mk (T1.out.trans (B2.out.mono T1.out.size))
  have H_bx1 := Aside0.mk (bx (w.alloc (.cells #[.bool g0, .slice a0b l0b.length c0b, .slice a0c l0c.length c0c] 56)) (w.heap.size + 1) (.bool g1) (.slice a1b l1b.length c1b) (.slice a1c l1c.length c1c) 56 (by simp))
  have B3 := Aside0.mk (below_alloc (Below.refl ((w.alloc (.cells #[.bool g0, .slice a0b l0b.length c0b, .slice a0c l0c.length c0c] 56)).alloc (.cells #[.bool g1, .slice a1b l1b.length c1b, .slice a1c l1c.length c1c] 56)).heap.size ((w.alloc (.cells #[.bool g0, .slice a0b l0b.length c0b, .slice a0c l0c.length c0c] 56)).alloc (.cells #[.bool g1, .slice a1b l1b.length c1b, .slice a1c l1c.length c1c] 56))) (.cells #[.bool g2, .slice a2b l2b.length c2b, .slice a2c l2c.length c2c] 56))
  have T3 := Aside0.mk (T2.out.trans (B3.out.mono T2.out.size))
  have H_bx2 := Aside0.mk (bx ((w.alloc (.cells #[.bool g0, .slice a0b l0b.length c0b, .slice a0c l0c.length c0c] 56)).alloc (.cells #[.bool g1, .slice a1b l1b.length c1b, .slice a1c l1c.length c1c] 56)) (w.heap.size + 2) (.bool g2) (.slice a2b l2b.length c2b) (.slice a2c l2c.length c2c) 56 (by simp))
  have HC : Aside0 (Calls Tryd.prog 55 #[] (((w.alloc (.cells #[.bool g0, .slice a0b l0b.length c0b, .slice a0c l0c.length c0c] 56)).alloc (.cells #[.bool g1, .slice a1b l1b.length c1b, .slice a1c l1c.length c1c] 56)).alloc (.cells #[.bool g2, .slice a2b l2b.length c2b, .slice a2c l2c.length c2c] 56)) (TruePost (((w.alloc (.cells #[.bool g0, .slice a0b l0b.length c0b, .slice a0c l0c.length c0c] 56)).alloc (.cells #[.bool g1, .slice a1b l1b.length c1b, .slice a1c l1c.length c1c] 56)).alloc (.cells #[.bool g2, .slice a2b l2b.length c2b, .slice a2c l2c.length c2c] 56)))) := ⟨known2_w (((w.alloc (.cells #[.bool g0, .slice a0b l0b.length c0b, .slice a0c l0c.length c0c] 56)).alloc (.cells #[.bool g1, .slice a1b l1b.length c1b, .slice a1c l1c.length c1c] 56)).alloc (.cells #[.bool g2, .slice a2b l2b.length c2b, .slice a2c l2c.length c2c] 56)) (((TAB.out.below B1.out).below B2.out).below B3.out)⟩
  go_wp2_with fail
  refine HC.out.mono ?_
  clear HC
  rintro e w4 ⟨rfl, hB⟩
  have B4 := Aside0.mk hB
  have T4 := Aside0.mk (T3.out.trans (hB.mono T3.out.size))
  clear hB
  have HSB := Aside0.mk (fun (W : World) (hW : Below w4.heap.size w4 W) => And.intro ((((H_bx0.out.below B2.out).below B3.out).below B4.out).below hW) (And.intro (((H_bx1.out.below B3.out).below B4.out).below hW) ((H_bx2.out.below B4.out).below hW)))
  have HM0 := Aside0.mk (fun (W : World) (hW : Below w4.heap.size w4 W) => show Calls Tryd.prog 67 #[.agg #[.bool g0, .slice a0b l0b.length c0b, .slice a0c l0c.length c0c]] W (RaPost W (mkR g0 l0b l0c)) from lmake_w g0 (CU_below C0b.out (T4.out.trans (hW.mono T4.out.size))) S0b.out L0b.out (CU_below C0c.out (T4.out.trans (hW.mono T4.out.size))) S0c.out L0c.out)
  have HM1 := Aside0.mk (fun (W : World) (hW : Below w4.heap.size w4 W) => show Calls Tryd.prog 67 #[.agg #[.bool g1, .slice a1b l1b.length c1b, .slice a1c l1c.length c1c]] W (RaPost W (mkR g1 l1b l1c)) from lmake_w g1 (CU_below C1b.out (T4.out.trans (hW.mono T4.out.size))) S1b.out L1b.out (CU_below C1c.out (T4.out.trans (hW.mono T4.out.size))) S1c.out L1c.out)
  have HM2 := Aside0.mk (fun (W : World) (hW : Below w4.heap.size w4 W) => show Calls Tryd.prog 67 #[.agg #[.bool g2, .slice a2b l2b.length c2b, .slice a2c l2c.length c2c]] W (RaPost W (mkR g2 l2b l2c)) from lmake_w g2 (CU_below C2b.out (T4.out.trans (hW.mono T4.out.size))) S2b.out L2b.out (CU_below C2c.out (T4.out.trans (hW.mono T4.out.size))) S2c.out L2c.out)
  go_wp2_with fail
  refine Inv.wp_region_inv 12 (fun a0 listed a W => ∃ (b0 b1 b2 b3 b4 b5 b6 b7 b8 b9 b10 b11 : Bool) (sl0 sl1 sl2 sc0 sc1 sc2 sa0 sa1 sa2 : Value) (p0 p1 p2 : Nat), listed = #[b0, b1, b2, b3, b4, b5, b6, b7, b8, b9, b10, b11] ∧ a = (((((((((a0.put (some 14) sl0).put (some 15) sc0).put (some 7) sa0).put (some 16) sl1).put (some 17) sc1).put (some 8) sa1).put (some 18) sl2).put (some 19) sc2).put (some 9) sa2) ∧ Aside0 (Below w4.heap.size w4 W) ∧ Aside0 (b0 = true → sl0 = .agg #[.bool g0, .slice a0b l0b.length c0b, .slice a0c l0c.length c0c]) ∧ Aside0 (b2 = true → sl1 = .agg #[.bool g1, .slice a1b l1b.length c1b, .slice a1c l1c.length c1c]) ∧ Aside0 (b4 = true → sl2 = .agg #[.bool g2, .slice a2b l2b.length c2b, .slice a2c l2c.length c2c]) ∧ Aside0 (J w4 (mkR g0 l0b l0c) b1 b6 b9 sc0 sa0 p0 W) ∧ Aside0 (J w4 (mkR g1 l1b l1c) b3 b7 b10 sc1 sa1 p1 W) ∧ Aside0 (J w4 (mkR g2 l2b l2c) b5 b8 b11 sc2 sa2 p2 W) ∧ Aside0 (b6 = true → b7 = true → p1 ≠ p0) ∧ Aside0 (b6 = true → b8 = true → p2 ≠ p0) ∧ Aside0 (b7 = true → b8 = true → p2 ≠ p1)) (by kernel_rfl) (by kernel_rfl) (by rfl) ?st4 ?fin4 ?step4
  case st4 => exact ⟨false, false, false, false, false, false, false, false, false, false, false, false, undef, undef, undef, undef, undef, undef, undef, undef, undef, 0, 0, 0, rfl, (by simp only [Act.put, List.setIfInBounds_toArray, List.set_cons_zero, List.set_cons_succ]), ⟨Below.drew (Below.refl _ _)⟩, ⟨fun e => nomatch e⟩, ⟨fun e => nomatch e⟩, ⟨fun e => nomatch e⟩, ⟨J.start _ _ _ _ _ _⟩, ⟨J.start _ _ _ _ _ _⟩, ⟨J.start _ _ _ _ _ _⟩, ⟨fun e => nomatch e⟩, ⟨fun e => nomatch e⟩, ⟨fun e => nomatch e⟩⟩
  case step4 =>
    refine Inv.lt_cases ?_ (Inv.lt_cases ?_ (Inv.lt_cases ?_ (Inv.lt_cases ?_ (Inv.lt_cases ?_ (Inv.lt_cases ?_ (Inv.lt_cases ?_ (Inv.lt_cases ?_ (Inv.lt_cases ?_ (Inv.lt_cases ?_ (Inv.lt_cases ?_ (Inv.lt_cases ?_ (Inv.lt_none))))))))))))
    · intro listed a W hI hun hw o ho K hK
      obtain ⟨b0, b1, b2, b3, b4, b5, b6, b7, b8, b9, b10, b11, sl0, sl1, sl2, sc0, sc1, sc2, sa0, sa1, sa2, p0, p1, p2, rfl, rfl, HB, HL0, HL1, HL2, HJ0, HJ1, HJ2, HD01, HD02, HD12⟩ := hI
      obtain rfl : b11 = false := hun
      obtain rfl : b5 = true := hw 5 (by kernel_rfl)
      obtain rfl : b8 = true := hw 8 (by kernel_rfl)
      obtain rfl := Option.some.inj ho
      clear ho hw
      simp only [Act.put, List.setIfInBounds_toArray, List.set_cons_zero, List.set_cons_succ]
      obtain ⟨rfl, hg, hE⟩ := HJ2.out.2.1 rfl
      obtain ⟨bq, A, L, c, A2, L2, c2, rfl⟩ := HJ2.out.val
      have HE := Aside0.mk hE
      obtain ⟨x, A3, L3, c3, A4, L4, c4, ⟨hc0, hc1, hc2⟩, hf0, hf1, hf2⟩ := hE
      have HG := Aside0.mk hg
      clear hg
      go_simp
      exact hK.out _ _ ⟨b0, b1, b2, b3, b4, true, b6, b7, true, b9, b10, true, sl0, sl1, sl2, sc0, sc1, (.agg #[.bool bq, .slice A L c, .slice A2 L2 c2]), sa0, sa1, (.pointer (some ⟨p2, 0, none⟩)), p0, p1, p2, rfl, (by simp only [Act.put, List.setIfInBounds_toArray, List.set_cons_zero, List.set_cons_succ]), ⟨below_put3 HB.out HG.out _ _ _⟩, HL0, HL1, HL2, ⟨HJ0.out.far HE.out (fun e => HD02.out e rfl) _ _ _⟩, ⟨HJ1.out.far HE.out (fun e => HD12.out e rfl) _ _ _⟩, ⟨HJ2.out.store⟩, HD01, HD02, HD12⟩
    · intro listed a W hI hun hw o ho K hK
      obtain ⟨b0, b1, b2, b3, b4, b5, b6, b7, b8, b9, b10, b11, sl0, sl1, sl2, sc0, sc1, sc2, sa0, sa1, sa2, p0, p1, p2, rfl, rfl, HB, HL0, HL1, HL2, HJ0, HJ1, HJ2, HD01, HD02, HD12⟩ := hI
      obtain rfl : b10 = false := hun
      obtain rfl : b3 = true := hw 3 (by kernel_rfl)
      obtain rfl : b7 = true := hw 7 (by kernel_rfl)
      obtain rfl := Option.some.inj ho
      clear ho hw
      simp only [Act.put, List.setIfInBounds_toArray, List.set_cons_zero, List.set_cons_succ]
      obtain ⟨rfl, hg, hE⟩ := HJ1.out.2.1 rfl
      obtain ⟨bq, A, L, c, A2, L2, c2, rfl⟩ := HJ1.out.val
      have HE := Aside0.mk hE
      obtain ⟨x, A3, L3, c3, A4, L4, c4, ⟨hc0, hc1, hc2⟩, hf0, hf1, hf2⟩ := hE
      have HG := Aside0.mk hg
      clear hg
      go_simp
      exact hK.out _ _ ⟨b0, b1, b2, true, b4, b5, b6, true, b8, b9, true, b11, sl0, sl1, sl2, sc0, (.agg #[.bool bq, .slice A L c, .slice A2 L2 c2]), sc2, sa0, (.pointer (some ⟨p1, 0, none⟩)), sa2, p0, p1, p2, rfl, (by simp only [Act.put, List.setIfInBounds_toArray, List.set_cons_zero, List.set_cons_succ]), ⟨below_put3 HB.out HG.out _ _ _⟩, HL0, HL1, HL2, ⟨HJ0.out.far HE.out (fun e => HD01.out e rfl) _ _ _⟩, ⟨HJ1.out.store⟩, ⟨HJ2.out.far HE.out (fun e => (HD12.out rfl e).symm) _ _ _⟩, HD01, HD02, HD12⟩
    · intro listed a W hI hun hw o ho K hK
      obtain ⟨b0, b1, b2, b3, b4, b5, b6, b7, b8, b9, b10, b11, sl0, sl1, sl2, sc0, sc1, sc2, sa0, sa1, sa2, p0, p1, p2, rfl, rfl, HB, HL0, HL1, HL2, HJ0, HJ1, HJ2, HD01, HD02, HD12⟩ := hI
      obtain rfl : b9 = false := hun
      obtain rfl : b1 = true := hw 1 (by kernel_rfl)
      obtain rfl : b6 = true := hw 6 (by kernel_rfl)
      obtain rfl := Option.some.inj ho
      clear ho hw
      simp only [Act.put, List.setIfInBounds_toArray, List.set_cons_zero, List.set_cons_succ]
      obtain ⟨rfl, hg, hE⟩ := HJ0.out.2.1 rfl
      obtain ⟨bq, A, L, c, A2, L2, c2, rfl⟩ := HJ0.out.val
      have HE := Aside0.mk hE
      obtain ⟨x, A3, L3, c3, A4, L4, c4, ⟨hc0, hc1, hc2⟩, hf0, hf1, hf2⟩ := hE
      have HG := Aside0.mk hg
      clear hg
      go_simp
      exact hK.out _ _ ⟨b0, true, b2, b3, b4, b5, true, b7, b8, true, b10, b11, sl0, sl1, sl2, (.agg #[.bool bq, .slice A L c, .slice A2 L2 c2]), sc1, sc2, (.pointer (some ⟨p0, 0, none⟩)), sa1, sa2, p0, p1, p2, rfl, (by simp only [Act.put, List.setIfInBounds_toArray, List.set_cons_zero, List.set_cons_succ]), ⟨below_put3 HB.out HG.out _ _ _⟩, HL0, HL1, HL2, ⟨HJ0.out.store⟩, ⟨HJ1.out.far HE.out (fun e => (HD01.out rfl e).symm) _ _ _⟩, ⟨HJ2.out.far HE.out (fun e => (HD02.out rfl e).symm) _ _ _⟩, HD01, HD02, HD12⟩
    · intro listed a W hI hun hw o ho K hK
      obtain ⟨b0, b1, b2, b3, b4, b5, b6, b7, b8, b9, b10, b11, sl0, sl1, sl2, sc0, sc1, sc2, sa0, sa1, sa2, p0, p1, p2, rfl, rfl, HB, HL0, HL1, HL2, HJ0, HJ1, HJ2, HD01, HD02, HD12⟩ := hI
      obtain rfl : b8 = false := hun
      obtain rfl := Option.some.inj ho
      clear ho hw
      simp only [Act.put, List.setIfInBounds_toArray, List.set_cons_zero, List.set_cons_succ]
      go_simp
      exact hK.out _ _ ⟨b0, b1, b2, b3, b4, b5, b6, b7, true, b9, b10, b11, sl0, sl1, sl2, sc0, sc1, sc2, sa0, sa1, (.pointer (some ⟨W.heap.size, 0, none⟩)), p0, p1, W.heap.size, rfl, (by simp only [Act.put, List.setIfInBounds_toArray, List.set_cons_zero, List.set_cons_succ]), ⟨below_alloc HB.out _⟩, HL0, HL1, HL2, ⟨HJ0.out.below (below_alloc (Below.refl _ _) _)⟩, ⟨HJ1.out.below (below_alloc (Below.refl _ _) _)⟩, ⟨HJ2.out.alloc HB.out.size⟩, HD01, ⟨fun e _ => Nat.ne_of_gt (by subst e; exact HJ0.out.lt)⟩, ⟨fun e _ => Nat.ne_of_gt (by subst e; exact HJ1.out.lt)⟩⟩
    · intro listed a W hI hun hw o ho K hK
      obtain ⟨b0, b1, b2, b3, b4, b5, b6, b7, b8, b9, b10, b11, sl0, sl1, sl2, sc0, sc1, sc2, sa0, sa1, sa2, p0, p1, p2, rfl, rfl, HB, HL0, HL1, HL2, HJ0, HJ1, HJ2, HD01, HD02, HD12⟩ := hI
      obtain rfl : b7 = false := hun
      obtain rfl := Option.some.inj ho
      clear ho hw
      simp only [Act.put, List.setIfInBounds_toArray, List.set_cons_zero, List.set_cons_succ]
      go_simp
      exact hK.out _ _ ⟨b0, b1, b2, b3, b4, b5, b6, true, b8, b9, b10, b11, sl0, sl1, sl2, sc0, sc1, sc2, sa0, (.pointer (some ⟨W.heap.size, 0, none⟩)), sa2, p0, W.heap.size, p2, rfl, (by simp only [Act.put, List.setIfInBounds_toArray, List.set_cons_zero, List.set_cons_succ]), ⟨below_alloc HB.out _⟩, HL0, HL1, HL2, ⟨HJ0.out.below (below_alloc (Below.refl _ _) _)⟩, ⟨HJ1.out.alloc HB.out.size⟩, ⟨HJ2.out.below (below_alloc (Below.refl _ _) _)⟩, ⟨fun e _ => Nat.ne_of_gt (by subst e; exact HJ0.out.lt)⟩, HD02, ⟨fun _ e => Nat.ne_of_lt (by subst e; exact HJ2.out.lt)⟩⟩
    · intro listed a W hI hun hw o ho K hK
      obtain ⟨b0, b1, b2, b3, b4, b5, b6, b7, b8, b9, b10, b11, sl0, sl1, sl2, sc0, sc1, sc2, sa0, sa1, sa2, p0, p1, p2, rfl, rfl, HB, HL0, HL1, HL2, HJ0, HJ1, HJ2, HD01, HD02, HD12⟩ := hI
      obtain rfl : b6 = false := hun
      obtain rfl := Option.some.inj ho
      clear ho hw
      simp only [Act.put, List.setIfInBounds_toArray, List.set_cons_zero, List.set_cons_succ]
      go_simp
      exact hK.out _ _ ⟨b0, b1, b2, b3, b4, b5, true, b7, b8, b9, b10, b11, sl0, sl1, sl2, sc0, sc1, sc2, (.pointer (some ⟨W.heap.size, 0, none⟩)), sa1, sa2, W.heap.size, p1, p2, rfl, (by simp only [Act.put, List.setIfInBounds_toArray, List.set_cons_zero, List.set_cons_succ]), ⟨below_alloc HB.out _⟩, HL0, HL1, HL2, ⟨HJ0.out.alloc HB.out.size⟩, ⟨HJ1.out.below (below_alloc (Below.refl _ _) _)⟩, ⟨HJ2.out.below (below_alloc (Below.refl _ _) _)⟩, ⟨fun _ e => Nat.ne_of_lt (by subst e; exact HJ1.out.lt)⟩, ⟨fun _ e => Nat.ne_of_lt (by subst e; exact HJ2.out.lt)⟩, HD12⟩
    · intro listed a W hI hun hw o ho K hK
      obtain ⟨b0, b1, b2, b3, b4, b5, b6, b7, b8, b9, b10, b11, sl0, sl1, sl2, sc0, sc1, sc2, sa0, sa1, sa2, p0, p1, p2, rfl, rfl, HB, HL0, HL1, HL2, HJ0, HJ1, HJ2, HD01, HD02, HD12⟩ := hI
      obtain rfl : b5 = false := hun
      obtain rfl : b4 = true := hw 4 (by kernel_rfl)
      obtain rfl : b3 = true := hw 3 (by kernel_rfl)
      obtain rfl := Option.some.inj ho
      clear ho hw
      simp only [Act.put, List.setIfInBounds_toArray, List.set_cons_zero, List.set_cons_succ]
      obtain rfl := HL2.out rfl
      have HC := HM2.out _ HB.out
      go_simp
      refine HC.mono ?_
      rintro e W1 ⟨v, rfl, hN, hB⟩
      try go_simp
      exact hK.out _ _ ⟨b0, b1, b2, true, true, true, b6, b7, b8, b9, b10, b11, sl0, sl1, (.agg #[.bool g2, .slice a2b l2b.length c2b, .slice a2c l2c.length c2c]), sc0, sc1, v, sa0, sa1, sa2, p0, p1, p2, rfl, (by simp only [Act.put, List.setIfInBounds_toArray, List.set_cons_zero, List.set_cons_succ]), ⟨HB.out.trans (hB.mono HB.out.size)⟩, HL0, HL1, HL2, ⟨HJ0.out.below hB⟩, ⟨HJ1.out.below hB⟩, ⟨HJ2.out.call hB hN⟩, HD01, HD02, HD12⟩
    · intro listed a W hI hun hw o ho K hK
      obtain ⟨b0, b1, b2, b3, b4, b5, b6, b7, b8, b9, b10, b11, sl0, sl1, sl2, sc0, sc1, sc2, sa0, sa1, sa2, p0, p1, p2, rfl, rfl, HB, HL0, HL1, HL2, HJ0, HJ1, HJ2, HD01, HD02, HD12⟩ := hI
      obtain rfl : b4 = false := hun
      obtain rfl := Option.some.inj ho
      clear ho hw
      simp only [Act.put, List.setIfInBounds_toArray, List.set_cons_zero, List.set_cons_succ]
      obtain ⟨⟨⟨hx00, hx01, hx02⟩, hy00, hy01, hy02⟩, ⟨⟨hx10, hx11, hx12⟩, hy10, hy11, hy12⟩, ⟨⟨hx20, hx21, hx22⟩, hy20, hy21, hy22⟩⟩ := HSB.out _ HB.out
      go_simp
      exact hK.out _ _ ⟨b0, b1, b2, b3, true, b5, b6, b7, b8, b9, b10, b11, sl0, sl1, (.agg #[.bool g2, .slice a2b l2b.length c2b, .slice a2c l2c.length c2c]), sc0, sc1, sc2, sa0, sa1, sa2, p0, p1, p2, rfl, (by simp only [Act.put, List.setIfInBounds_toArray, List.set_cons_zero, List.set_cons_succ]), HB, HL0, HL1, ⟨fun _ => rfl⟩, HJ0, HJ1, HJ2, HD01, HD02, HD12⟩
    · intro listed a W hI hun hw o ho K hK
      obtain ⟨b0, b1, b2, b3, b4, b5, b6, b7, b8, b9, b10, b11, sl0, sl1, sl2, sc0, sc1, sc2, sa0, sa1, sa2, p0, p1, p2, rfl, rfl, HB, HL0, HL1, HL2, HJ0, HJ1, HJ2, HD01, HD02, HD12⟩ := hI
      obtain rfl : b3 = false := hun
      obtain rfl : b2 = true := hw 2 (by kernel_rfl)
      obtain rfl : b1 = true := hw 1 (by kernel_rfl)
      obtain rfl := Option.some.inj ho
      clear ho hw
      simp only [Act.put, List.setIfInBounds_toArray, List.set_cons_zero, List.set_cons_succ]
      obtain rfl := HL1.out rfl
      have HC := HM1.out _ HB.out
      go_simp
      refine HC.mono ?_
      rintro e W1 ⟨v, rfl, hN, hB⟩
      try go_simp
      exact hK.out _ _ ⟨b0, true, true, true, b4, b5, b6, b7, b8, b9, b10, b11, sl0, (.agg #[.bool g1, .slice a1b l1b.length c1b, .slice a1c l1c.length c1c]), sl2, sc0, v, sc2, sa0, sa1, sa2, p0, p1, p2, rfl, (by simp only [Act.put, List.setIfInBounds_toArray, List.set_cons_zero, List.set_cons_succ]), ⟨HB.out.trans (hB.mono HB.out.size)⟩, HL0, HL1, HL2, ⟨HJ0.out.below hB⟩, ⟨HJ1.out.call hB hN⟩, ⟨HJ2.out.below hB⟩, HD01, HD02, HD12⟩
    · intro listed a W hI hun hw o ho K hK
      obtain ⟨b0, b1, b2, b3, b4, b5, b6, b7, b8, b9, b10, b11, sl0, sl1, sl2, sc0, sc1, sc2, sa0, sa1, sa2, p0, p1, p2, rfl, rfl, HB, HL0, HL1, HL2, HJ0, HJ1, HJ2, HD01, HD02, HD12⟩ := hI
      obtain rfl : b2 = false := hun
      obtain rfl := Option.some.inj ho
      clear ho hw
      simp only [Act.put, List.setIfInBounds_toArray, List.set_cons_zero, List.set_cons_succ]
      obtain ⟨⟨⟨hx00, hx01, hx02⟩, hy00, hy01, hy02⟩, ⟨⟨hx10, hx11, hx12⟩, hy10, hy11, hy12⟩, ⟨⟨hx20, hx21, hx22⟩, hy20, hy21, hy22⟩⟩ := HSB.out _ HB.out
      go_simp
      exact hK.out _ _ ⟨b0, b1, true, b3, b4, b5, b6, b7, b8, b9, b10, b11, sl0, (.agg #[.bool g1, .slice a1b l1b.length c1b, .slice a1c l1c.length c1c]), sl2, sc0, sc1, sc2, sa0, sa1, sa2, p0, p1, p2, rfl, (by simp only [Act.put, List.setIfInBounds_toArray, List.set_cons_zero, List.set_cons_succ]), HB, HL0, ⟨fun _ => rfl⟩, HL2, HJ0, HJ1, HJ2, HD01, HD02, HD12⟩
    · intro listed a W hI hun hw o ho K hK
      obtain ⟨b0, b1, b2, b3, b4, b5, b6, b7, b8, b9, b10, b11, sl0, sl1, sl2, sc0, sc1, sc2, sa0, sa1, sa2, p0, p1, p2, rfl, rfl, HB, HL0, HL1, HL2, HJ0, HJ1, HJ2, HD01, HD02, HD12⟩ := hI
      obtain rfl : b1 = false := hun
      obtain rfl : b0 = true := hw 0 (by kernel_rfl)
      obtain rfl := Option.some.inj ho
      clear ho hw
      simp only [Act.put, List.setIfInBounds_toArray, List.set_cons_zero, List.set_cons_succ]
      obtain rfl := HL0.out rfl
      have HC := HM0.out _ HB.out
      go_simp
      refine HC.mono ?_
      rintro e W1 ⟨v, rfl, hN, hB⟩
      try go_simp
      exact hK.out _ _ ⟨true, true, b2, b3, b4, b5, b6, b7, b8, b9, b10, b11, (.agg #[.bool g0, .slice a0b l0b.length c0b, .slice a0c l0c.length c0c]), sl1, sl2, v, sc1, sc2, sa0, sa1, sa2, p0, p1, p2, rfl, (by simp only [Act.put, List.setIfInBounds_toArray, List.set_cons_zero, List.set_cons_succ]), ⟨HB.out.trans (hB.mono HB.out.size)⟩, HL0, HL1, HL2, ⟨HJ0.out.call hB hN⟩, ⟨HJ1.out.below hB⟩, ⟨HJ2.out.below hB⟩, HD01, HD02, HD12⟩
    · intro listed a W hI hun hw o ho K hK
      obtain ⟨b0, b1, b2, b3, b4, b5, b6, b7, b8, b9, b10, b11, sl0, sl1, sl2, sc0, sc1, sc2, sa0, sa1, sa2, p0, p1, p2, rfl, rfl, HB, HL0, HL1, HL2, HJ0, HJ1, HJ2, HD01, HD02, HD12⟩ := hI
      obtain rfl : b0 = false := hun
      obtain rfl := Option.some.inj ho
      clear ho hw
      simp only [Act.put, List.setIfInBounds_toArray, List.set_cons_zero, List.set_cons_succ]
      obtain ⟨⟨⟨hx00, hx01, hx02⟩, hy00, hy01, hy02⟩, ⟨⟨hx10, hx11, hx12⟩, hy10, hy11, hy12⟩, ⟨⟨hx20, hx21, hx22⟩, hy20, hy21, hy22⟩⟩ := HSB.out _ HB.out
      go_simp
      exact hK.out _ _ ⟨true, b1, b2, b3, b4, b5, b6, b7, b8, b9, b10, b11, (.agg #[.bool g0, .slice a0b l0b.length c0b, .slice a0c l0c.length c0c]), sl1, sl2, sc0, sc1, sc2, sa0, sa1, sa2, p0, p1, p2, rfl, (by simp only [Act.put, List.setIfInBounds_toArray, List.set_cons_zero, List.set_cons_succ]), HB, ⟨fun _ => rfl⟩, HL1, HL2, HJ0, HJ1, HJ2, HD01, HD02, HD12⟩
  rintro listed a1 w5 ⟨b0, b1, b2, b3, b4, b5, b6, b7, b8, b9, b10, b11, sl0, sl1, sl2, sc0, sc1, sc2, sa0, sa1, sa2, p0, p1, p2, rfl, rfl, HB, HL0, HL1, HL2, HJ0, HJ1, HJ2, HD01, HD02, HD12⟩ hall
  obtain rfl : b0 = true := hall 0 (by decide)
  obtain rfl : b1 = true := hall 1 (by decide)
  obtain rfl : b2 = true := hall 2 (by decide)
  obtain rfl : b3 = true := hall 3 (by decide)
  obtain rfl : b4 = true := hall 4 (by decide)
  obtain rfl : b5 = true := hall 5 (by decide)
  obtain rfl : b6 = true := hall 6 (by decide)
  obtain rfl : b7 = true := hall 7 (by decide)
  obtain rfl : b8 = true := hall 8 (by decide)
  obtain rfl : b9 = true := hall 9 (by decide)
  obtain rfl : b10 = true := hall 10 (by decide)
  obtain rfl : b11 = true := hall 11 (by decide)
  clear hall HSB HM0 HL0 HM1 HL1 HM2 HL2
  obtain ⟨rfl, hg0, b_x, A_x, M_x, c_x, B_x, K_x, d_x, rfl, hR0, hK0⟩ := HJ0.out.done
  clear HJ0
  obtain ⟨rfl, hg1, b_y, A_y, M_y, c_y, B_y, K_y, d_y, rfl, hR1, hK1⟩ := HJ1.out.done
  clear HJ1
  obtain ⟨rfl, hg2, b_z, A_z, M_z, c_z, B_z, K_z, d_z, rfl, hR2, hK2⟩ := HJ2.out.done
  clear HJ2
  have HD01 := Aside0.mk (HD01.out rfl rfl)
  have HD02 := Aside0.mk (HD02.out rfl rfl)
  have HD12 := Aside0.mk (HD12.out rfl rfl)
  have hB := HB.out
  clear HB
  have B5 := Aside0.mk hB
  have T5 := Aside0.mk (T4.out.trans (hB.mono T4.out.size))
  clear hB
  have H_x := Aside0.mk hR0
  have X_x := Aside0.mk (show Rb 3 (mkR g0 l0b l0c) from mkR_bnd g0 L0b.out L0c.out)
  have H_bx_x := Aside0.mk hK0
  clear hR0 hK0 hg0
  have H_y := Aside0.mk hR1
  have X_y := Aside0.mk (show Rb 3 (mkR g1 l1b l1c) from mkR_bnd g1 L1b.out L1c.out)
  have H_bx_y := Aside0.mk hK1
  clear hR1 hK1 hg1
  have H_z := Aside0.mk hR2
  have X_z := Aside0.mk (show Rb 3 (mkR g2 l2b l2c) from mkR_bnd g2 L2b.out L2c.out)
  have H_bx_z := Aside0.mk hK2
  clear hR2 hK2 hg2
  simp only [Act.put, List.setIfInBounds_toArray, List.set_cons_zero, List.set_cons_succ]
  go_wp2_with fail
  have B6 := Aside0.mk (Below.drew (Below.refl w5.heap.size w5))
  have T6 := Aside0.mk (T5.out.trans (B6.out.mono T5.out.size))
  have HS6 := Aside0.mk (fun (W : World) (hW : Below (w5.drew).heap.size (w5.drew) W) => show W.cell? ⟨p0, 0, none⟩ = some (.bool b_x) ∧ W.cell? ⟨p0, 1, none⟩ = some (.slice A_x M_x c_x) ∧ W.cell? ⟨p0, 2, none⟩ = some (.slice B_x K_x d_x) ∧ W.cell? ⟨p1, 0, none⟩ = some (.bool b_y) ∧ W.cell? ⟨p1, 1, none⟩ = some (.slice A_y M_y c_y) ∧ W.cell? ⟨p1, 2, none⟩ = some (.slice B_y K_y d_y) ∧ W.cell? ⟨p2, 0, none⟩ = some (.bool b_z) ∧ W.cell? ⟨p2, 1, none⟩ = some (.slice A_z M_z c_z) ∧ W.cell? ⟨p2, 2, none⟩ = some (.slice B_z K_z d_z) from ⟨((H_bx_x.out.below B6.out).below hW).1.1, ((H_bx_x.out.below B6.out).below hW).1.2.1, ((H_bx_x.out.below B6.out).below hW).1.2.2, ((H_bx_y.out.below B6.out).below hW).1.1, ((H_bx_y.out.below B6.out).below hW).1.2.1, ((H_bx_y.out.below B6.out).below hW).1.2.2, ((H_bx_z.out.below B6.out).below hW).1.1, ((H_bx_z.out.below B6.out).below hW).1.2.1, ((H_bx_z.out.below B6.out).below hW).1.2.2⟩)
  have U6 := Aside0.mk (Below.refl (w5.drew).heap.size (w5.drew))
  refine wp_region_held_drew (S := fun W => W.cell? ⟨p0, 0, none⟩ = some (.bool b_x) ∧ W.cell? ⟨p0, 1, none⟩ = some (.slice A_x M_x c_x) ∧ W.cell? ⟨p0, 2, none⟩ = some (.slice B_x K_x d_x) ∧ W.cell? ⟨p1, 0, none⟩ = some (.bool b_y) ∧ W.cell? ⟨p1, 1, none⟩ = some (.slice A_y M_y c_y) ∧ W.cell? ⟨p1, 2, none⟩ = some (.slice B_y K_y d_y) ∧ W.cell? ⟨p2, 0, none⟩ = some (.bool b_z) ∧ W.cell? ⟨p2, 1, none⟩ = some (.slice A_z M_z c_z) ∧ W.cell? ⟨p2, 2, none⟩ = some (.slice B_z K_z d_z)) (by kernel_rfl) (HS6.out _ (Below.refl _ _)) (fun hHeld => ?_)
  refine Inv.takeL (i := 0) (v := ?v6_0) rfl (by kernel_rfl) (by kernel_rfl) (by kernel_rfl) (fun _ _ _ h => h) (by rfl) ?hy6_0 (by assumption) ?rest6_0
  case hy6_0 => ((intro w hSw; (try dsimp only at hSw); go_simp) <;> with_reducible rfl)
  try simp only [Act.put, List.setIfInBounds_toArray, List.set_cons_zero, List.set_cons_succ]
  refine Inv.takeL (i := 1) (v := ?v6_1) rfl (by kernel_rfl) (by kernel_rfl) (by kernel_rfl) (fun _ _ _ h => h) (by rfl) ?hy6_1 (by assumption) ?rest6_1
  case hy6_1 => ((intro w hSw; (try dsimp only at hSw); go_simp) <;> with_reducible rfl)
  try simp only [Act.put, List.setIfInBounds_toArray, List.set_cons_zero, List.set_cons_succ]
  refine Inv.takeL (i := 3) (v := ?v6_3) rfl (by kernel_rfl) (by kernel_rfl) (by kernel_rfl) (fun _ _ _ h => h) (by rfl) ?hy6_3 (by assumption) ?rest6_3
  case hy6_3 => ((intro w hSw; (try dsimp only at hSw); go_simp) <;> with_reducible rfl)
  try simp only [Act.put, List.setIfInBounds_toArray, List.set_cons_zero, List.set_cons_succ]
  refine Inv.takeL (i := 4) (v := ?v6_4) rfl (by kernel_rfl) (by kernel_rfl) (by kernel_rfl) (fun _ _ _ h => h) (by rfl) ?hy6_4 (by assumption) ?rest6_4
  case hy6_4 => ((intro w hSw; (try dsimp only at hSw); go_simp) <;> with_reducible rfl)
  try simp only [Act.put, List.setIfInBounds_toArray, List.set_cons_zero, List.set_cons_succ]
  have HC : Aside0 (Calls Tryd.prog 68 #[(.agg #[.bool b_x, .slice A_x M_x c_x, .slice B_x K_x d_x]), (.agg #[.bool b_y, .slice A_y M_y c_y, .slice B_y K_y d_y])] (w5.drew) (RaPost (w5.drew) ((mkR g0 l0b l0c) + (mkR g1 l1b l1c)))) := ⟨qaddR (H_x.out.below B6.out) (H_y.out.below B6.out) (X_x.out.le (by decide)) (X_y.out.le (by decide))⟩
  refine Inv.oneL (i := 2) rfl (by kernel_rfl) (fun K hK => ?_)
  go_simp
  refine HC.out.mono ?_
  clear HC
  rintro e w7 ⟨v_s1, rfl, hN, hB⟩
  try go_wp2_with fail
  have B7 := Aside0.mk hB
  have T7 := Aside0.mk (T6.out.trans (hB.mono T6.out.size))
  have H_s1 := Aside0.mk hN
  have X_s1 := Aside0.mk (show Rb 7 ((mkR g0 l0b l0c) + (mkR g1 l1b l1c)) from add_bnd X_x.out X_y.out (by decide))
  clear hN hB
  have U7 := Aside0.mk (U6.out.trans (B7.out.mono U6.out.size))
  refine hK.out _ _ (HS6.out _ U7.out) (fun hHeld => ?_)
  clear hK K
  try simp only [Act.put, List.setIfInBounds_toArray, List.set_cons_zero, List.set_cons_succ]
  have HC : Aside0 (Calls Tryd.prog 68 #[(.agg #[.bool b_y, .slice A_y M_y c_y, .slice B_y K_y d_y]), (.agg #[.bool b_x, .slice A_x M_x c_x, .slice B_x K_x d_x])] w7 (RaPost w7 ((mkR g1 l1b l1c) + (mkR g0 l0b l0c)))) := ⟨qaddR ((H_y.out.below B6.out).below B7.out) ((H_x.out.below B6.out).below B7.out) (X_y.out.le (by decide)) (X_x.out.le (by decide))⟩
  refine Inv.oneL (i := 5) rfl (by kernel_rfl) (fun K hK => ?_)
  go_simp
  refine HC.out.mono ?_
  clear HC
  rintro e w8 ⟨v_s2, rfl, hN, hB⟩
  try go_wp2_with fail
  have B8 := Aside0.mk hB
  have T8 := Aside0.mk (T7.out.trans (hB.mono T7.out.size))
  have H_s2 := Aside0.mk hN
  have X_s2 := Aside0.mk (show Rb 7 ((mkR g1 l1b l1c) + (mkR g0 l0b l0c)) from add_bnd X_y.out X_x.out (by decide))
  clear hN hB
  have U8 := Aside0.mk (U7.out.trans (B8.out.mono U7.out.size))
  refine hK.out _ _ (HS6.out _ U8.out) (fun hHeld => ?_)
  clear hK K
  try simp only [Act.put, List.setIfInBounds_toArray, List.set_cons_zero, List.set_cons_succ]
  have HC : Aside0 (Calls Tryd.prog 58 #[v_s1, v_s2] w8 (TruePost w8)) := ⟨ssameR (H_s1.out.below B8.out) H_s2.out (X_s1.out.le (by decide)) (Rat.add_comm _ _)⟩
  refine Inv.oneL (i := 6) rfl (by kernel_rfl) (fun K hK => ?_)
  go_simp
  refine HC.out.mono ?_
  clear HC
  rintro e w9 ⟨rfl, hB⟩
  try go_wp2_with fail
  have B9 := Aside0.mk hB
  have T9 := Aside0.mk (T8.out.trans (hB.mono T8.out.size))
  clear hB
  have U9 := Aside0.mk (U8.out.trans (B9.out.mono U8.out.size))
  refine hK.out _ _ (HS6.out _ U9.out) (fun hHeld => ?_)
  clear hK K
  try simp only [Act.put, List.setIfInBounds_toArray, List.set_cons_zero, List.set_cons_succ]
  refine Inv.takeL (i := 7) (v := ?v6_7) rfl (by kernel_rfl) (by kernel_rfl) (by kernel_rfl) (fun _ _ _ h => h) (by rfl) ?hy6_7 (by assumption) ?rest6_7
  case hy6_7 => ((intro w hSw; (try dsimp only at hSw); go_simp) <;> with_reducible rfl)
  try simp only [Act.put, List.setIfInBounds_toArray, List.set_cons_zero, List.set_cons_succ]
  refine Inv.takeL (i := 8) (v := ?v6_8) rfl (by kernel_rfl) (by kernel_rfl) (by kernel_rfl) (fun _ _ _ h => h) (by rfl) ?hy6_8 (by assumption) ?rest6_8
  case hy6_8 => ((intro w hSw; (try dsimp only at hSw); go_simp) <;> with_reducible rfl)
  try simp only [Act.put, List.setIfInBounds_toArray, List.set_cons_zero, List.set_cons_succ]
  refine Inv.takeL (i := 9) (v := ?v6_9) rfl (by kernel_rfl) (by kernel_rfl) (by kernel_rfl) (fun _ _ _ h => h) (by rfl) ?hy6_9 (by assumption) ?rest6_9
  case hy6_9 => ((intro w hSw; (try dsimp only at hSw); go_simp) <;> with_reducible rfl)
  try simp only [Act.put, List.setIfInBounds_toArray, List.set_cons_zero, List.set_cons_succ]
  refine Inv.takeL (i := 10) (v := ?v6_10) rfl (by kernel_rfl) (by kernel_rfl) (by kernel_rfl) (fun _ _ _ h => h) (by rfl) ?hy6_10 (by assumption) ?rest6_10
  case hy6_10 => ((intro w hSw; (try dsimp only at hSw); go_simp) <;> with_reducible rfl)
  try simp only [Act.put, List.setIfInBounds_toArray, List.set_cons_zero, List.set_cons_succ]
  refine Inv.takeL (i := 12) (v := ?v6_12) rfl (by kernel_rfl) (by kernel_rfl) (by kernel_rfl) (fun _ _ _ h => h) (by rfl) ?hy6_12 (by assumption) ?rest6_12
  case hy6_12 => ((intro w hSw; (try dsimp only at hSw); go_simp) <;> with_reducible rfl)
  try simp only [Act.put, List.setIfInBounds_toArray, List.set_cons_zero, List.set_cons_succ]
  refine Inv.takeL (i := 13) (v := ?v6_13) rfl (by kernel_rfl) (by kernel_rfl) (by kernel_rfl) (fun _ _ _ h => h) (by rfl) ?hy6_13 (by assumption) ?rest6_13
  case hy6_13 => ((intro w hSw; (try dsimp only at hSw); go_simp) <;> with_reducible rfl)
  try simp only [Act.put, List.setIfInBounds_toArray, List.set_cons_zero, List.set_cons_succ]
  have HC : Aside0 (Calls Tryd.prog 64 #[(.agg #[.bool b_x, .slice A_x M_x c_x, .slice B_x K_x d_x]), (.agg #[.bool b_y, .slice A_y M_y c_y, .slice B_y K_y d_y])] w9 (RaPost w9 ((mkR g0 l0b l0c) * (mkR g1 l1b l1c)))) := ⟨qmulR ((((H_x.out.below B6.out).below B7.out).below B8.out).below B9.out) ((((H_y.out.below B6.out).below B7.out).below B8.out).below B9.out) (X_x.out.le (by decide)) (X_y.out.le (by decide))⟩
  refine Inv.oneL (i := 11) rfl (by kernel_rfl) (fun K hK => ?_)
  go_simp
  refine HC.out.mono ?_
  clear HC
  rintro e w10 ⟨v_m1, rfl, hN, hB⟩
  try go_wp2_with fail
  have B10 := Aside0.mk hB
  have T10 := Aside0.mk (T9.out.trans (hB.mono T9.out.size))
  have H_m1 := Aside0.mk hN
  have X_m1 := Aside0.mk (show Rb 6 ((mkR g0 l0b l0c) * (mkR g1 l1b l1c)) from mul_bnd X_x.out X_y.out (by decide))
  clear hN hB
  have U10 := Aside0.mk (U9.out.trans (B10.out.mono U9.out.size))
  refine hK.out _ _ (HS6.out _ U10.out) (fun hHeld => ?_)
  clear hK K
  try simp only [Act.put, List.setIfInBounds_toArray, List.set_cons_zero, List.set_cons_succ]
  have HC : Aside0 (Calls Tryd.prog 64 #[(.agg #[.bool b_y, .slice A_y M_y c_y, .slice B_y K_y d_y]), (.agg #[.bool b_x, .slice A_x M_x c_x, .slice B_x K_x d_x])] w10 (RaPost w10 ((mkR g1 l1b l1c) * (mkR g0 l0b l0c)))) := ⟨qmulR (((((H_y.out.below B6.out).below B7.out).below B8.out).below B9.out).below B10.out) (((((H_x.out.below B6.out).below B7.out).below B8.out).below B9.out).below B10.out) (X_y.out.le (by decide)) (X_x.out.le (by decide))⟩
  refine Inv.oneL (i := 14) rfl (by kernel_rfl) (fun K hK => ?_)
  go_simp
  refine HC.out.mono ?_
  clear HC
  rintro e w11 ⟨v_m2, rfl, hN, hB⟩
  try go_wp2_with fail
  have B11 := Aside0.mk hB
  have T11 := Aside0.mk (T10.out.trans (hB.mono T10.out.size))
  have H_m2 := Aside0.mk hN
  have X_m2 := Aside0.mk (show Rb 6 ((mkR g1 l1b l1c) * (mkR g0 l0b l0c)) from mul_bnd X_y.out X_x.out (by decide))
  clear hN hB
  have U11 := Aside0.mk (U10.out.trans (B11.out.mono U10.out.size))
  refine hK.out _ _ (HS6.out _ U11.out) (fun hHeld => ?_)
  clear hK K
  try simp only [Act.put, List.setIfInBounds_toArray, List.set_cons_zero, List.set_cons_succ]
  have HC : Aside0 (Calls Tryd.prog 58 #[v_m1, v_m2] w11 (TruePost w11)) := ⟨ssameR (H_m1.out.below B11.out) H_m2.out (X_m1.out.le (by decide)) (Rat.mul_comm _ _)⟩
  refine Inv.oneL (i := 15) rfl (by kernel_rfl) (fun K hK => ?_)
  go_simp
  refine HC.out.mono ?_
  clear HC
  rintro e w12 ⟨rfl, hB⟩
  try go_wp2_with fail
  have B12 := Aside0.mk hB
  have T12 := Aside0.mk (T11.out.trans (hB.mono T11.out.size))
  clear hB
  have U12 := Aside0.mk (U11.out.trans (B12.out.mono U11.out.size))
  refine hK.out _ _ (HS6.out _ U12.out) (fun hHeld => ?_)
  clear hK K
  try simp only [Act.put, List.setIfInBounds_toArray, List.set_cons_zero, List.set_cons_succ]
  refine Inv.takeL (i := 16) (v := ?v6_16) rfl (by kernel_rfl) (by kernel_rfl) (by kernel_rfl) (fun _ _ _ h => h) (by rfl) ?hy6_16 (by assumption) ?rest6_16
  case hy6_16 => ((intro w hSw; (try dsimp only at hSw); go_simp) <;> with_reducible rfl)
  try simp only [Act.put, List.setIfInBounds_toArray, List.set_cons_zero, List.set_cons_succ]
  refine Inv.takeL (i := 17) (v := ?v6_17) rfl (by kernel_rfl) (by kernel_rfl) (by kernel_rfl) (fun _ _ _ h => h) (by rfl) ?hy6_17 (by assumption) ?rest6_17
  case hy6_17 => ((intro w hSw; (try dsimp only at hSw); go_simp) <;> with_reducible rfl)
  try simp only [Act.put, List.setIfInBounds_toArray, List.set_cons_zero, List.set_cons_succ]
  refine Inv.takeL (i := 18) (v := ?v6_18) rfl (by kernel_rfl) (by kernel_rfl) (by kernel_rfl) (fun _ _ _ h => h) (by rfl) ?hy6_18 (by assumption) ?rest6_18
  case hy6_18 => ((intro w hSw; (try dsimp only at hSw); go_simp) <;> with_reducible rfl)
  try simp only [Act.put, List.setIfInBounds_toArray, List.set_cons_zero, List.set_cons_succ]
  refine Inv.takeL (i := 19) (v := ?v6_19) rfl (by kernel_rfl) (by kernel_rfl) (by kernel_rfl) (fun _ _ _ h => h) (by rfl) ?hy6_19 (by assumption) ?rest6_19
  case hy6_19 => ((intro w hSw; (try dsimp only at hSw); go_simp) <;> with_reducible rfl)
  try simp only [Act.put, List.setIfInBounds_toArray, List.set_cons_zero, List.set_cons_succ]
  refine Inv.takeL (i := 20) (v := ?v6_20) rfl (by kernel_rfl) (by kernel_rfl) (by kernel_rfl) (fun _ _ _ h => h) (by rfl) ?hy6_20 (by assumption) ?rest6_20
  case hy6_20 => ((intro w hSw; (try dsimp only at hSw); go_simp) <;> with_reducible rfl)
  try simp only [Act.put, List.setIfInBounds_toArray, List.set_cons_zero, List.set_cons_succ]
  refine Inv.takeL (i := 22) (v := ?v6_22) rfl (by kernel_rfl) (by kernel_rfl) (by kernel_rfl) (fun _ _ _ h => h) (by rfl) ?hy6_22 (by assumption) ?rest6_22
  case hy6_22 => ((intro w hSw; (try dsimp only at hSw); go_simp) <;> with_reducible rfl)
  try simp only [Act.put, List.setIfInBounds_toArray, List.set_cons_zero, List.set_cons_succ]
  refine Inv.takeL (i := 24) (v := ?v6_24) rfl (by kernel_rfl) (by kernel_rfl) (by kernel_rfl) (fun _ _ _ h => h) (by rfl) ?hy6_24 (by assumption) ?rest6_24
  case hy6_24 => ((intro w hSw; (try dsimp only at hSw); go_simp) <;> with_reducible rfl)
  try simp only [Act.put, List.setIfInBounds_toArray, List.set_cons_zero, List.set_cons_succ]
  refine Inv.takeL (i := 25) (v := ?v6_25) rfl (by kernel_rfl) (by kernel_rfl) (by kernel_rfl) (fun _ _ _ h => h) (by rfl) ?hy6_25 (by assumption) ?rest6_25
  case hy6_25 => ((intro w hSw; (try dsimp only at hSw); go_simp) <;> with_reducible rfl)
  try simp only [Act.put, List.setIfInBounds_toArray, List.set_cons_zero, List.set_cons_succ]
  refine Inv.takeL (i := 26) (v := ?v6_26) rfl (by kernel_rfl) (by kernel_rfl) (by kernel_rfl) (fun _ _ _ h => h) (by rfl) ?hy6_26 (by assumption) ?rest6_26
  case hy6_26 => ((intro w hSw; (try dsimp only at hSw); go_simp) <;> with_reducible rfl)
  try simp only [Act.put, List.setIfInBounds_toArray, List.set_cons_zero, List.set_cons_succ]
  have HC : Aside0 (Calls Tryd.prog 68 #[(.agg #[.bool b_x, .slice A_x M_x c_x, .slice B_x K_x d_x]), (.agg #[.bool b_y, .slice A_y M_y c_y, .slice B_y K_y d_y])] w12 (RaPost w12 ((mkR g0 l0b l0c) + (mkR g1 l1b l1c)))) := ⟨qaddR (((((((H_x.out.below B6.out).below B7.out).below B8.out).below B9.out).below B10.out).below B11.out).below B12.out) (((((((H_y.out.below B6.out).below B7.out).below B8.out).below B9.out).below B10.out).below B11.out).below B12.out) (X_x.out.le (by decide)) (X_y.out.le (by decide))⟩
  refine Inv.oneL (i := 21) rfl (by kernel_rfl) (fun K hK => ?_)
  go_simp
  refine HC.out.mono ?_
  clear HC
  rintro e w13 ⟨v_a1, rfl, hN, hB⟩
  try go_wp2_with fail
  have B13 := Aside0.mk hB
  have T13 := Aside0.mk (T12.out.trans (hB.mono T12.out.size))
  have H_a1 := Aside0.mk hN
  have X_a1 := Aside0.mk (show Rb 7 ((mkR g0 l0b l0c) + (mkR g1 l1b l1c)) from add_bnd X_x.out X_y.out (by decide))
  clear hN hB
  have U13 := Aside0.mk (U12.out.trans (B13.out.mono U12.out.size))
  refine hK.out _ _ (HS6.out _ U13.out) (fun hHeld => ?_)
  clear hK K
  try simp only [Act.put, List.setIfInBounds_toArray, List.set_cons_zero, List.set_cons_succ]
  have HC : Aside0 (Calls Tryd.prog 68 #[v_a1, (.agg #[.bool b_z, .slice A_z M_z c_z, .slice B_z K_z d_z])] w13 (RaPost w13 (((mkR g0 l0b l0c) + (mkR g1 l1b l1c)) + (mkR g2 l2b l2c)))) := ⟨qaddR H_a1.out ((((((((H_z.out.below B6.out).below B7.out).below B8.out).below B9.out).below B10.out).below B11.out).below B12.out).below B13.out) (X_a1.out.le (by decide)) (X_z.out.le (by decide))⟩
  refine Inv.oneL (i := 23) rfl (by kernel_rfl) (fun K hK => ?_)
  go_simp
  refine HC.out.mono ?_
  clear HC
  rintro e w14 ⟨v_a2, rfl, hN, hB⟩
  try go_wp2_with fail
  have B14 := Aside0.mk hB
  have T14 := Aside0.mk (T13.out.trans (hB.mono T13.out.size))
  have H_a2 := Aside0.mk hN
  have X_a2 := Aside0.mk (show Rb 11 (((mkR g0 l0b l0c) + (mkR g1 l1b l1c)) + (mkR g2 l2b l2c)) from add_bnd X_a1.out X_z.out (by decide))
  clear hN hB
  have U14 := Aside0.mk (U13.out.trans (B14.out.mono U13.out.size))
  refine hK.out _ _ (HS6.out _ U14.out) (fun hHeld => ?_)
  clear hK K
  try simp only [Act.put, List.setIfInBounds_toArray, List.set_cons_zero, List.set_cons_succ]
  have HC : Aside0 (Calls Tryd.prog 68 #[(.agg #[.bool b_y, .slice A_y M_y c_y, .slice B_y K_y d_y]), (.agg #[.bool b_z, .slice A_z M_z c_z, .slice B_z K_z d_z])] w14 (RaPost w14 ((mkR g1 l1b l1c) + (mkR g2 l2b l2c)))) := ⟨qaddR (((((((((H_y.out.below B6.out).below B7.out).below B8.out).below B9.out).below B10.out).below B11.out).below B12.out).below B13.out).below B14.out) (((((((((H_z.out.below B6.out).below B7.out).below B8.out).below B9.out).below B10.out).below B11.out).below B12.out).below B13.out).below B14.out) (X_y.out.le (by decide)) (X_z.out.le (by decide))⟩
  refine Inv.oneL (i := 27) rfl (by kernel_rfl) (fun K hK => ?_)
  go_simp
  refine HC.out.mono ?_
  clear HC
  rintro e w15 ⟨v_a3, rfl, hN, hB⟩
  try go_wp2_with fail
  have B15 := Aside0.mk hB
  have T15 := Aside0.mk (T14.out.trans (hB.mono T14.out.size))
  have H_a3 := Aside0.mk hN
  have X_a3 := Aside0.mk (show Rb 7 ((mkR g1 l1b l1c) + (mkR g2 l2b l2c)) from add_bnd X_y.out X_z.out (by decide))
  clear hN hB
  have U15 := Aside0.mk (U14.out.trans (B15.out.mono U14.out.size))
  refine hK.out _ _ (HS6.out _ U15.out) (fun hHeld => ?_)
  clear hK K
  try simp only [Act.put, List.setIfInBounds_toArray, List.set_cons_zero, List.set_cons_succ]
  have HC : Aside0 (Calls Tryd.prog 68 #[(.agg #[.bool b_x, .slice A_x M_x c_x, .slice B_x K_x d_x]), v_a3] w15 (RaPost w15 ((mkR g0 l0b l0c) + ((mkR g1 l1b l1c) + (mkR g2 l2b l2c))))) := ⟨qaddR ((((((((((H_x.out.below B6.out).below B7.out).below B8.out).below B9.out).below B10.out).below B11.out).below B12.out).below B13.out).below B14.out).below B15.out) H_a3.out (X_x.out.le (by decide)) (X_a3.out.le (by decide))⟩
  refine Inv.oneL (i := 28) rfl (by kernel_rfl) (fun K hK => ?_)
  go_simp
  refine HC.out.mono ?_
  clear HC
  rintro e w16 ⟨v_a4, rfl, hN, hB⟩
  try go_wp2_with fail
  have B16 := Aside0.mk hB
  have T16 := Aside0.mk (T15.out.trans (hB.mono T15.out.size))
  have H_a4 := Aside0.mk hN
  have X_a4 := Aside0.mk (show Rb 11 ((mkR g0 l0b l0c) + ((mkR g1 l1b l1c) + (mkR g2 l2b l2c))) from add_bnd X_x.out X_a3.out (by decide))
  clear hN hB
  have U16 := Aside0.mk (U15.out.trans (B16.out.mono U15.out.size))
  refine hK.out _ _ (HS6.out _ U16.out) (fun hHeld => ?_)
  clear hK K
  try simp only [Act.put, List.setIfInBounds_toArray, List.set_cons_zero, List.set_cons_succ]
  have HC : Aside0 (Calls Tryd.prog 58 #[v_a2, v_a4] w16 (TruePost w16)) := ⟨ssameR ((H_a2.out.below B15.out).below B16.out) H_a4.out (X_a2.out.le (by decide)) (Rat.add_assoc _ _ _)⟩
  refine Inv.oneL (i := 29) rfl (by kernel_rfl) (fun K hK => ?_)
  go_simp
  refine HC.out.mono ?_
  clear HC
  rintro e w17 ⟨rfl, hB⟩
  try go_wp2_with fail
  have B17 := Aside0.mk hB
  have T17 := Aside0.mk (T16.out.trans (hB.mono T16.out.size))
  clear hB
  have U17 := Aside0.mk (U16.out.trans (B17.out.mono U16.out.size))
  refine hK.out _ _ (HS6.out _ U17.out) (fun hHeld => ?_)
  clear hK K
  try simp only [Act.put, List.setIfInBounds_toArray, List.set_cons_zero, List.set_cons_succ]
  refine Inv.takeL (i := 30) (v := ?v6_30) rfl (by kernel_rfl) (by kernel_rfl) (by kernel_rfl) (fun _ _ _ h => h) (by rfl) ?hy6_30 (by assumption) ?rest6_30
  case hy6_30 => ((intro w hSw; (try dsimp only at hSw); go_simp) <;> with_reducible rfl)
  try simp only [Act.put, List.setIfInBounds_toArray, List.set_cons_zero, List.set_cons_succ]
  refine Inv.takeL (i := 31) (v := ?v6_31) rfl (by kernel_rfl) (by kernel_rfl) (by kernel_rfl) (fun _ _ _ h => h) (by rfl) ?hy6_31 (by assumption) ?rest6_31
  case hy6_31 => ((intro w hSw; (try dsimp only at hSw); go_simp) <;> with_reducible rfl)
  try simp only [Act.put, List.setIfInBounds_toArray, List.set_cons_zero, List.set_cons_succ]
  refine Inv.takeL (i := 32) (v := ?v6_32) rfl (by kernel_rfl) (by kernel_rfl) (by kernel_rfl) (fun _ _ _ h => h) (by rfl) ?hy6_32 (by assumption) ?rest6_32
  case hy6_32 => ((intro w hSw; (try dsimp only at hSw); go_simp) <;> with_reducible rfl)
  try simp only [Act.put, List.setIfInBounds_toArray, List.set_cons_zero, List.set_cons_succ]
  refine Inv.takeL (i := 33) (v := ?v6_33) rfl (by kernel_rfl) (by kernel_rfl) (by kernel_rfl) (fun _ _ _ h => h) (by rfl) ?hy6_33 (by assumption) ?rest6_33
  case hy6_33 => ((intro w hSw; (try dsimp only at hSw); go_simp) <;> with_reducible rfl)
  try simp only [Act.put, List.setIfInBounds_toArray, List.set_cons_zero, List.set_cons_succ]
  refine Inv.takeL (i := 34) (v := ?v6_34) rfl (by kernel_rfl) (by kernel_rfl) (by kernel_rfl) (fun _ _ _ h => h) (by rfl) ?hy6_34 (by assumption) ?rest6_34
  case hy6_34 => ((intro w hSw; (try dsimp only at hSw); go_simp) <;> with_reducible rfl)
  try simp only [Act.put, List.setIfInBounds_toArray, List.set_cons_zero, List.set_cons_succ]
  refine Inv.takeL (i := 36) (v := ?v6_36) rfl (by kernel_rfl) (by kernel_rfl) (by kernel_rfl) (fun _ _ _ h => h) (by rfl) ?hy6_36 (by assumption) ?rest6_36
  case hy6_36 => ((intro w hSw; (try dsimp only at hSw); go_simp) <;> with_reducible rfl)
  try simp only [Act.put, List.setIfInBounds_toArray, List.set_cons_zero, List.set_cons_succ]
  refine Inv.takeL (i := 38) (v := ?v6_38) rfl (by kernel_rfl) (by kernel_rfl) (by kernel_rfl) (fun _ _ _ h => h) (by rfl) ?hy6_38 (by assumption) ?rest6_38
  case hy6_38 => ((intro w hSw; (try dsimp only at hSw); go_simp) <;> with_reducible rfl)
  try simp only [Act.put, List.setIfInBounds_toArray, List.set_cons_zero, List.set_cons_succ]
  refine Inv.takeL (i := 39) (v := ?v6_39) rfl (by kernel_rfl) (by kernel_rfl) (by kernel_rfl) (fun _ _ _ h => h) (by rfl) ?hy6_39 (by assumption) ?rest6_39
  case hy6_39 => ((intro w hSw; (try dsimp only at hSw); go_simp) <;> with_reducible rfl)
  try simp only [Act.put, List.setIfInBounds_toArray, List.set_cons_zero, List.set_cons_succ]
  refine Inv.takeL (i := 41) (v := ?v6_41) rfl (by kernel_rfl) (by kernel_rfl) (by kernel_rfl) (fun _ _ _ h => h) (by rfl) ?hy6_41 (by assumption) ?rest6_41
  case hy6_41 => ((intro w hSw; (try dsimp only at hSw); go_simp) <;> with_reducible rfl)
  try simp only [Act.put, List.setIfInBounds_toArray, List.set_cons_zero, List.set_cons_succ]
  refine Inv.takeL (i := 42) (v := ?v6_42) rfl (by kernel_rfl) (by kernel_rfl) (by kernel_rfl) (fun _ _ _ h => h) (by rfl) ?hy6_42 (by assumption) ?rest6_42
  case hy6_42 => ((intro w hSw; (try dsimp only at hSw); go_simp) <;> with_reducible rfl)
  try simp only [Act.put, List.setIfInBounds_toArray, List.set_cons_zero, List.set_cons_succ]
  have HC : Aside0 (Calls Tryd.prog 68 #[(.agg #[.bool b_x, .slice A_x M_x c_x, .slice B_x K_x d_x]), (.agg #[.bool b_y, .slice A_y M_y c_y, .slice B_y K_y d_y])] w17 (RaPost w17 ((mkR g0 l0b l0c) + (mkR g1 l1b l1c)))) := ⟨qaddR ((((((((((((H_x.out.below B6.out).below B7.out).below B8.out).below B9.out).below B10.out).below B11.out).below B12.out).below B13.out).below B14.out).below B15.out).below B16.out).below B17.out) ((((((((((((H_y.out.below B6.out).below B7.out).below B8.out).below B9.out).below B10.out).below B11.out).below B12.out).below B13.out).below B14.out).below B15.out).below B16.out).below B17.out) (X_x.out.le (by decide)) (X_y.out.le (by decide))⟩
  refine Inv.oneL (i := 35) rfl (by kernel_rfl) (fun K hK => ?_)
  go_simp
  refine HC.out.mono ?_
  clear HC
  rintro e w18 ⟨v_b1, rfl, hN, hB⟩
  try go_wp2_with fail
  have B18 := Aside0.mk hB
  have T18 := Aside0.mk (T17.out.trans (hB.mono T17.out.size))
  have H_b1 := Aside0.mk hN
  have X_b1 := Aside0.mk (show Rb 7 ((mkR g0 l0b l0c) + (mkR g1 l1b l1c)) from add_bnd X_x.out X_y.out (by decide))
  clear hN hB
  have U18 := Aside0.mk (U17.out.trans (B18.out.mono U17.out.size))
  refine hK.out _ _ (HS6.out _ U18.out) (fun hHeld => ?_)
  clear hK K
  try simp only [Act.put, List.setIfInBounds_toArray, List.set_cons_zero, List.set_cons_succ]
  have HC : Aside0 (Calls Tryd.prog 64 #[v_b1, (.agg #[.bool b_z, .slice A_z M_z c_z, .slice B_z K_z d_z])] w18 (RaPost w18 (((mkR g0 l0b l0c) + (mkR g1 l1b l1c)) * (mkR g2 l2b l2c)))) := ⟨qmulR H_b1.out (((((((((((((H_z.out.below B6.out).below B7.out).below B8.out).below B9.out).below B10.out).below B11.out).below B12.out).below B13.out).below B14.out).below B15.out).below B16.out).below B17.out).below B18.out) (X_b1.out.le (by decide)) (X_z.out.le (by decide))⟩
  refine Inv.oneL (i := 37) rfl (by kernel_rfl) (fun K hK => ?_)
  go_simp
  refine HC.out.mono ?_
  clear HC
  rintro e w19 ⟨v_b2, rfl, hN, hB⟩
  try go_wp2_with fail
  have B19 := Aside0.mk hB
  have T19 := Aside0.mk (T18.out.trans (hB.mono T18.out.size))
  have H_b2 := Aside0.mk hN
  have X_b2 := Aside0.mk (show Rb 10 (((mkR g0 l0b l0c) + (mkR g1 l1b l1c)) * (mkR g2 l2b l2c)) from mul_bnd X_b1.out X_z.out (by decide))
  clear hN hB
  have U19 := Aside0.mk (U18.out.trans (B19.out.mono U18.out.size))
  refine hK.out _ _ (HS6.out _ U19.out) (fun hHeld => ?_)
  clear hK K
  try simp only [Act.put, List.setIfInBounds_toArray, List.set_cons_zero, List.set_cons_succ]
  have HC : Aside0 (Calls Tryd.prog 64 #[(.agg #[.bool b_x, .slice A_x M_x c_x, .slice B_x K_x d_x]), (.agg #[.bool b_z, .slice A_z M_z c_z, .slice B_z K_z d_z])] w19 (RaPost w19 ((mkR g0 l0b l0c) * (mkR g2 l2b l2c)))) := ⟨qmulR ((((((((((((((H_x.out.below B6.out).below B7.out).below B8.out).below B9.out).below B10.out).below B11.out).below B12.out).below B13.out).below B14.out).below B15.out).below B16.out).below B17.out).below B18.out).below B19.out) ((((((((((((((H_z.out.below B6.out).below B7.out).below B8.out).below B9.out).below B10.out).below B11.out).below B12.out).below B13.out).below B14.out).below B15.out).below B16.out).below B17.out).below B18.out).below B19.out) (X_x.out.le (by decide)) (X_z.out.le (by decide))⟩
  refine Inv.oneL (i := 40) rfl (by kernel_rfl) (fun K hK => ?_)
  go_simp
  refine HC.out.mono ?_
  clear HC
  rintro e w20 ⟨v_b3, rfl, hN, hB⟩
  try go_wp2_with fail
  have B20 := Aside0.mk hB
  have T20 := Aside0.mk (T19.out.trans (hB.mono T19.out.size))
  have H_b3 := Aside0.mk hN
  have X_b3 := Aside0.mk (show Rb 6 ((mkR g0 l0b l0c) * (mkR g2 l2b l2c)) from mul_bnd X_x.out X_z.out (by decide))
  clear hN hB
  have U20 := Aside0.mk (U19.out.trans (B20.out.mono U19.out.size))
  refine hK.out _ _ (HS6.out _ U20.out) (fun hHeld => ?_)
  clear hK K
  try simp only [Act.put, List.setIfInBounds_toArray, List.set_cons_zero, List.set_cons_succ]
  have HC : Aside0 (Calls Tryd.prog 64 #[(.agg #[.bool b_y, .slice A_y M_y c_y, .slice B_y K_y d_y]), (.agg #[.bool b_z, .slice A_z M_z c_z, .slice B_z K_z d_z])] w20 (RaPost w20 ((mkR g1 l1b l1c) * (mkR g2 l2b l2c)))) := ⟨qmulR (((((((((((((((H_y.out.below B6.out).below B7.out).below B8.out).below B9.out).below B10.out).below B11.out).below B12.out).below B13.out).below B14.out).below B15.out).below B16.out).below B17.out).below B18.out).below B19.out).below B20.out) (((((((((((((((H_z.out.below B6.out).below B7.out).below B8.out).below B9.out).below B10.out).below B11.out).below B12.out).below B13.out).below B14.out).below B15.out).below B16.out).below B17.out).below B18.out).below B19.out).below B20.out) (X_y.out.le (by decide)) (X_z.out.le (by decide))⟩
  refine Inv.oneL (i := 43) rfl (by kernel_rfl) (fun K hK => ?_)
  go_simp
  refine HC.out.mono ?_
  clear HC
  rintro e w21 ⟨v_b4, rfl, hN, hB⟩
  try go_wp2_with fail
  have B21 := Aside0.mk hB
  have T21 := Aside0.mk (T20.out.trans (hB.mono T20.out.size))
  have H_b4 := Aside0.mk hN
  have X_b4 := Aside0.mk (show Rb 6 ((mkR g1 l1b l1c) * (mkR g2 l2b l2c)) from mul_bnd X_y.out X_z.out (by decide))
  clear hN hB
  have U21 := Aside0.mk (U20.out.trans (B21.out.mono U20.out.size))
  refine hK.out _ _ (HS6.out _ U21.out) (fun hHeld => ?_)
  clear hK K
  try simp only [Act.put, List.setIfInBounds_toArray, List.set_cons_zero, List.set_cons_succ]
  have HC : Aside0 (Calls Tryd.prog 68 #[v_b3, v_b4] w21 (RaPost w21 (((mkR g0 l0b l0c) * (mkR g2 l2b l2c)) + ((mkR g1 l1b l1c) * (mkR g2 l2b l2c))))) := ⟨qaddR (H_b3.out.below B21.out) H_b4.out (X_b3.out.le (by decide)) (X_b4.out.le (by decide))⟩
  refine Inv.oneL (i := 44) rfl (by kernel_rfl) (fun K hK => ?_)
  go_simp
  refine HC.out.mono ?_
  clear HC
  rintro e w22 ⟨v_b5, rfl, hN, hB⟩
  try go_wp2_with fail
  have B22 := Aside0.mk hB
  have T22 := Aside0.mk (T21.out.trans (hB.mono T21.out.size))
  have H_b5 := Aside0.mk hN
  have X_b5 := Aside0.mk (show Rb 13 (((mkR g0 l0b l0c) * (mkR g2 l2b l2c)) + ((mkR g1 l1b l1c) * (mkR g2 l2b l2c))) from add_bnd X_b3.out X_b4.out (by decide))
  clear hN hB
  have U22 := Aside0.mk (U21.out.trans (B22.out.mono U21.out.size))
  refine hK.out _ _ (HS6.out _ U22.out) (fun hHeld => ?_)
  clear hK K
  try simp only [Act.put, List.setIfInBounds_toArray, List.set_cons_zero, List.set_cons_succ]
  have HC : Aside0 (Calls Tryd.prog 58 #[v_b2, v_b5] w22 (TruePost w22)) := ⟨ssameR (((H_b2.out.below B20.out).below B21.out).below B22.out) H_b5.out (X_b2.out.le (by decide)) (Rat.add_mul _ _ _)⟩
  refine Inv.oneL (i := 45) rfl (by kernel_rfl) (fun K hK => ?_)
  go_simp
  refine HC.out.mono ?_
  clear HC
  rintro e w23 ⟨rfl, hB⟩
  try go_wp2_with fail
  have B23 := Aside0.mk hB
  have T23 := Aside0.mk (T22.out.trans (hB.mono T22.out.size))
  clear hB
  have U23 := Aside0.mk (U22.out.trans (B23.out.mono U22.out.size))
  refine hK.out _ _ (HS6.out _ U23.out) (fun hHeld => ?_)
  clear hK K
  try simp only [Act.put, List.setIfInBounds_toArray, List.set_cons_zero, List.set_cons_succ]
  refine Inv.takeL (i := 46) (v := ?v6_46) rfl (by kernel_rfl) (by kernel_rfl) (by kernel_rfl) (fun _ _ _ h => h) (by rfl) ?hy6_46 (by assumption) ?rest6_46
  case hy6_46 => ((intro w hSw; (try dsimp only at hSw); go_simp) <;> with_reducible rfl)
  try simp only [Act.put, List.setIfInBounds_toArray, List.set_cons_zero, List.set_cons_succ]
  refine Inv.takeL (i := 47) (v := ?v6_47) rfl (by kernel_rfl) (by kernel_rfl) (by kernel_rfl) (fun _ _ _ h => h) (by rfl) ?hy6_47 (by assumption) ?rest6_47
  case hy6_47 => ((intro w hSw; (try dsimp only at hSw); go_simp) <;> with_reducible rfl)
  try simp only [Act.put, List.setIfInBounds_toArray, List.set_cons_zero, List.set_cons_succ]
  refine Inv.takeL (i := 48) (v := ?v6_48) rfl (by kernel_rfl) (by kernel_rfl) (by kernel_rfl) (fun _ _ _ h => h) (by rfl) ?hy6_48 (by assumption) ?rest6_48
  case hy6_48 => ((intro w hSw; (try dsimp only at hSw); go_simp) <;> with_reducible rfl)
  try simp only [Act.put, List.setIfInBounds_toArray, List.set_cons_zero, List.set_cons_succ]
  refine Inv.takeL (i := 49) (v := ?v6_49) rfl (by kernel_rfl) (by kernel_rfl) (by kernel_rfl) (fun _ _ _ h => h) (by rfl) ?hy6_49 (by assumption) ?rest6_49
  case hy6_49 => ((intro w hSw; (try dsimp only at hSw); go_simp) <;> with_reducible rfl)
  try simp only [Act.put, List.setIfInBounds_toArray, List.set_cons_zero, List.set_cons_succ]
  refine Inv.takeL (i := 50) (v := ?v6_50) rfl (by kernel_rfl) (by kernel_rfl) (by kernel_rfl) (fun _ _ _ h => h) (by rfl) ?hy6_50 (by assumption) ?rest6_50
  case hy6_50 => ((intro w hSw; (try dsimp only at hSw); go_simp) <;> with_reducible rfl)
  try simp only [Act.put, List.setIfInBounds_toArray, List.set_cons_zero, List.set_cons_succ]
  refine Inv.takeL (i := 52) (v := ?v6_52) rfl (by kernel_rfl) (by kernel_rfl) (by kernel_rfl) (fun _ _ _ h => h) (by rfl) ?hy6_52 (by assumption) ?rest6_52
  case hy6_52 => ((intro w hSw; (try dsimp only at hSw); go_simp) <;> with_reducible rfl)
  try simp only [Act.put, List.setIfInBounds_toArray, List.set_cons_zero, List.set_cons_succ]
  refine Inv.takeL (i := 54) (v := ?v6_54) rfl (by kernel_rfl) (by kernel_rfl) (by kernel_rfl) (fun _ _ _ h => h) (by rfl) ?hy6_54 (by assumption) ?rest6_54
  case hy6_54 => ((intro w hSw; (try dsimp only at hSw); go_simp) <;> with_reducible rfl)
  try simp only [Act.put, List.setIfInBounds_toArray, List.set_cons_zero, List.set_cons_succ]
  have HC : Aside0 (Calls Tryd.prog 68 #[(.agg #[.bool b_x, .slice A_x M_x c_x, .slice B_x K_x d_x]), (.agg #[.bool b_y, .slice A_y M_y c_y, .slice B_y K_y d_y])] w23 (RaPost w23 ((mkR g0 l0b l0c) + (mkR g1 l1b l1c)))) := ⟨qaddR ((((((((((((((((((H_x.out.below B6.out).below B7.out).below B8.out).below B9.out).below B10.out).below B11.out).below B12.out).below B13.out).below B14.out).below B15.out).below B16.out).below B17.out).below B18.out).below B19.out).below B20.out).below B21.out).below B22.out).below B23.out) ((((((((((((((((((H_y.out.below B6.out).below B7.out).below B8.out).below B9.out).below B10.out).below B11.out).below B12.out).below B13.out).below B14.out).below B15.out).below B16.out).below B17.out).below B18.out).below B19.out).below B20.out).below B21.out).below B22.out).below B23.out) (X_x.out.le (by decide)) (X_y.out.le (by decide))⟩
  refine Inv.oneL (i := 51) rfl (by kernel_rfl) (fun K hK => ?_)
  go_simp
  refine HC.out.mono ?_
  clear HC
  rintro e w24 ⟨v_c1, rfl, hN, hB⟩
  try go_wp2_with fail
  have B24 := Aside0.mk hB
  have T24 := Aside0.mk (T23.out.trans (hB.mono T23.out.size))
  have H_c1 := Aside0.mk hN
  have X_c1 := Aside0.mk (show Rb 7 ((mkR g0 l0b l0c) + (mkR g1 l1b l1c)) from add_bnd X_x.out X_y.out (by decide))
  clear hN hB
  have U24 := Aside0.mk (U23.out.trans (B24.out.mono U23.out.size))
  refine hK.out _ _ (HS6.out _ U24.out) (fun hHeld => ?_)
  clear hK K
  try simp only [Act.put, List.setIfInBounds_toArray, List.set_cons_zero, List.set_cons_succ]
  have HC : Aside0 (Calls Tryd.prog 69 #[v_c1, (.agg #[.bool b_y, .slice A_y M_y c_y, .slice B_y K_y d_y])] w24 (RaPost w24 (((mkR g0 l0b l0c) + (mkR g1 l1b l1c)) - (mkR g1 l1b l1c)))) := ⟨qsubR H_c1.out (((((((((((((((((((H_y.out.below B6.out).below B7.out).below B8.out).below B9.out).below B10.out).below B11.out).below B12.out).below B13.out).below B14.out).below B15.out).below B16.out).below B17.out).below B18.out).below B19.out).below B20.out).below B21.out).below B22.out).below B23.out).below B24.out) (X_c1.out.le (by decide)) (X_y.out.le (by decide))⟩
  refine Inv.oneL (i := 53) rfl (by kernel_rfl) (fun K hK => ?_)
  go_simp
  refine HC.out.mono ?_
  clear HC
  rintro e w25 ⟨v_c2, rfl, hN, hB⟩
  try go_wp2_with fail
  have B25 := Aside0.mk hB
  have T25 := Aside0.mk (T24.out.trans (hB.mono T24.out.size))
  have H_c2 := Aside0.mk hN
  have X_c2 := Aside0.mk (show Rb 11 (((mkR g0 l0b l0c) + (mkR g1 l1b l1c)) - (mkR g1 l1b l1c)) from sub_bnd X_c1.out X_y.out (by decide))
  clear hN hB
  have U25 := Aside0.mk (U24.out.trans (B25.out.mono U24.out.size))
  refine hK.out _ _ (HS6.out _ U25.out) (fun hHeld => ?_)
  clear hK K
  try simp only [Act.put, List.setIfInBounds_toArray, List.set_cons_zero, List.set_cons_succ]
  have HC : Aside0 (Calls Tryd.prog 58 #[v_c2, (.agg #[.bool b_x, .slice A_x M_x c_x, .slice B_x K_x d_x])] w25 (TruePost w25)) := ⟨ssameR H_c2.out ((((((((((((((((((((H_x.out.below B6.out).below B7.out).below B8.out).below B9.out).below B10.out).below B11.out).below B12.out).below B13.out).below B14.out).below B15.out).below B16.out).below B17.out).below B18.out).below B19.out).below B20.out).below B21.out).below B22.out).below B23.out).below B24.out).below B25.out) (X_c2.out.le (by decide)) (Rat.add_sub_cancel)⟩
  refine Inv.oneL (i := 55) rfl (by kernel_rfl) (fun K hK => ?_)
  go_simp
  refine HC.out.mono ?_
  clear HC
  rintro e w26 ⟨rfl, hB⟩
  try go_wp2_with fail
  have B26 := Aside0.mk hB
  have T26 := Aside0.mk (T25.out.trans (hB.mono T25.out.size))
  clear hB
  have U26 := Aside0.mk (U25.out.trans (B26.out.mono U25.out.size))
  refine hK.out _ _ (HS6.out _ U26.out) (fun hHeld => ?_)
  clear hK K
  try simp only [Act.put, List.setIfInBounds_toArray, List.set_cons_zero, List.set_cons_succ]
  refine Inv.takeL (i := 56) (v := ?v6_56) rfl (by kernel_rfl) (by kernel_rfl) (by kernel_rfl) (fun _ _ _ h => h) (by rfl) ?hy6_56 (by assumption) ?rest6_56
  case hy6_56 => ((intro w hSw; (try dsimp only at hSw); go_simp) <;> with_reducible rfl)
  try simp only [Act.put, List.setIfInBounds_toArray, List.set_cons_zero, List.set_cons_succ]
  refine Inv.takeL (i := 57) (v := ?v6_57) rfl (by kernel_rfl) (by kernel_rfl) (by kernel_rfl) (fun _ _ _ h => h) (by rfl) ?hy6_57 (by assumption) ?rest6_57
  case hy6_57 => ((intro w hSw; (try dsimp only at hSw); go_simp) <;> with_reducible rfl)
  try simp only [Act.put, List.setIfInBounds_toArray, List.set_cons_zero, List.set_cons_succ]
  refine Inv.takeL (i := 58) (v := ?v6_58) rfl (by kernel_rfl) (by kernel_rfl) (by kernel_rfl) (fun _ _ _ h => h) (by rfl) ?hy6_58 (by assumption) ?rest6_58
  case hy6_58 => ((intro w hSw; (try dsimp only at hSw); go_simp) <;> with_reducible rfl)
  try simp only [Act.put, List.setIfInBounds_toArray, List.set_cons_zero, List.set_cons_succ]
  refine Inv.takeL (i := 59) (v := ?v6_59) rfl (by kernel_rfl) (by kernel_rfl) (by kernel_rfl) (fun _ _ _ h => h) (by rfl) ?hy6_59 (by assumption) ?rest6_59
  case hy6_59 => ((intro w hSw; (try dsimp only at hSw); go_simp) <;> with_reducible rfl)
  try simp only [Act.put, List.setIfInBounds_toArray, List.set_cons_zero, List.set_cons_succ]
  refine Inv.takeL (i := 60) (v := ?v6_60) rfl (by kernel_rfl) (by kernel_rfl) (by kernel_rfl) (fun _ _ _ h => h) (by rfl) ?hy6_60 (by assumption) ?rest6_60
  case hy6_60 => ((intro w hSw; (try dsimp only at hSw); go_simp) <;> with_reducible rfl)
  try simp only [Act.put, List.setIfInBounds_toArray, List.set_cons_zero, List.set_cons_succ]
  have HC : Aside0 (Calls Tryd.prog 70 #[(.agg #[.bool b_x, .slice A_x M_x c_x, .slice B_x K_x d_x])] w26 (RaPost w26 (-(mkR g0 l0b l0c)))) := ⟨qnegR (((((((((((((((((((((H_x.out.below B6.out).below B7.out).below B8.out).below B9.out).below B10.out).below B11.out).below B12.out).below B13.out).below B14.out).below B15.out).below B16.out).below B17.out).below B18.out).below B19.out).below B20.out).below B21.out).below B22.out).below B23.out).below B24.out).below B25.out).below B26.out) (X_x.out.le (by decide))⟩
  refine Inv.oneL (i := 61) rfl (by kernel_rfl) (fun K hK => ?_)
  go_simp
  refine HC.out.mono ?_
  clear HC
  rintro e w27 ⟨v_n1, rfl, hN, hB⟩
  try go_wp2_with fail
  have B27 := Aside0.mk hB
  have T27 := Aside0.mk (T26.out.trans (hB.mono T26.out.size))
  have H_n1 := Aside0.mk hN
  have X_n1 := Aside0.mk (show Rb 3 (-(mkR g0 l0b l0c)) from neg_bnd X_x.out)
  clear hN hB
  have U27 := Aside0.mk (U26.out.trans (B27.out.mono U26.out.size))
  refine hK.out _ _ (HS6.out _ U27.out) (fun hHeld => ?_)
  clear hK K
  try simp only [Act.put, List.setIfInBounds_toArray, List.set_cons_zero, List.set_cons_succ]
  have HC : Aside0 (Calls Tryd.prog 68 #[(.agg #[.bool b_x, .slice A_x M_x c_x, .slice B_x K_x d_x]), v_n1] w27 (RaPost w27 ((mkR g0 l0b l0c) + (-(mkR g0 l0b l0c))))) := ⟨qaddR ((((((((((((((((((((((H_x.out.below B6.out).below B7.out).below B8.out).below B9.out).below B10.out).below B11.out).below B12.out).below B13.out).below B14.out).below B15.out).below B16.out).below B17.out).below B18.out).below B19.out).below B20.out).below B21.out).below B22.out).below B23.out).below B24.out).below B25.out).below B26.out).below B27.out) H_n1.out (X_x.out.le (by decide)) (X_n1.out.le (by decide))⟩
  refine Inv.oneL (i := 62) rfl (by kernel_rfl) (fun K hK => ?_)
  go_simp
  refine HC.out.mono ?_
  clear HC
  rintro e w28 ⟨v_n2, rfl, hN, hB⟩
  try go_wp2_with fail
  have B28 := Aside0.mk hB
  have T28 := Aside0.mk (T27.out.trans (hB.mono T27.out.size))
  have H_n2 := Aside0.mk hN
  have X_n2 := Aside0.mk (show Rb 7 ((mkR g0 l0b l0c) + (-(mkR g0 l0b l0c))) from add_bnd X_x.out X_n1.out (by decide))
  clear hN hB
  have U28 := Aside0.mk (U27.out.trans (B28.out.mono U27.out.size))
  refine hK.out _ _ (HS6.out _ U28.out) (fun hHeld => ?_)
  clear hK K
  try simp only [Act.put, List.setIfInBounds_toArray, List.set_cons_zero, List.set_cons_succ]
  have HC : Aside0 (Calls Tryd.prog 71 #[] w28 (RaPost w28 ((0 : Rat)))) := ⟨szeroR w28⟩
  refine Inv.oneL (i := 63) rfl (by kernel_rfl) (fun K hK => ?_)
  go_simp
  refine HC.out.mono ?_
  clear HC
  rintro e w29 ⟨v_zz, rfl, hN, hB⟩
  try go_wp2_with fail
  have B29 := Aside0.mk hB
  have T29 := Aside0.mk (T28.out.trans (hB.mono T28.out.size))
  have H_zz := Aside0.mk hN
  have X_zz := Aside0.mk (show Rb 1 ((0 : Rat)) from rb_zero)
  clear hN hB
  have U29 := Aside0.mk (U28.out.trans (B29.out.mono U28.out.size))
  refine hK.out _ _ (HS6.out _ U29.out) (fun hHeld => ?_)
  clear hK K
  try simp only [Act.put, List.setIfInBounds_toArray, List.set_cons_zero, List.set_cons_succ]
  have HC : Aside0 (Calls Tryd.prog 58 #[v_n2, v_zz] w29 (TruePost w29)) := ⟨ssameR (H_n2.out.below B29.out) H_zz.out (X_n2.out.le (by decide)) (Rat.add_neg_cancel _)⟩
  refine Inv.oneL (i := 64) rfl (by kernel_rfl) (fun K hK => ?_)
  go_simp
  refine HC.out.mono ?_
  clear HC
  rintro e w30 ⟨rfl, hB⟩
  try go_wp2_with fail
  have B30 := Aside0.mk hB
  have T30 := Aside0.mk (T29.out.trans (hB.mono T29.out.size))
  clear hB
  have U30 := Aside0.mk (U29.out.trans (B30.out.mono U29.out.size))
  refine hK.out _ _ (HS6.out _ U30.out) (fun hHeld => ?_)
  clear hK K
  try simp only [Act.put, List.setIfInBounds_toArray, List.set_cons_zero, List.set_cons_succ]
  refine Inv.takeL (i := 65) (v := ?v6_65) rfl (by kernel_rfl) (by kernel_rfl) (by kernel_rfl) (fun _ _ _ h => h) (by rfl) ?hy6_65 (by assumption) ?rest6_65
  case hy6_65 => ((intro w hSw; (try dsimp only at hSw); go_simp) <;> with_reducible rfl)
  try simp only [Act.put, List.setIfInBounds_toArray, List.set_cons_zero, List.set_cons_succ]
  refine Inv.takeL (i := 66) (v := ?v6_66) rfl (by kernel_rfl) (by kernel_rfl) (by kernel_rfl) (fun _ _ _ h => h) (by rfl) ?hy6_66 (by assumption) ?rest6_66
  case hy6_66 => ((intro w hSw; (try dsimp only at hSw); go_simp) <;> with_reducible rfl)
  try simp only [Act.put, List.setIfInBounds_toArray, List.set_cons_zero, List.set_cons_succ]
  refine wpAnyH_done (by kernel_rfl) ?_ _
  by_cases hy0 : (mkR g1 l1b l1c) = 0
  ·
    have Y0 := Aside0.mk hy0
    clear hy0
    obtain ⟨⟨hu0, hu1, hu2⟩, _⟩ := (((((((((((((((((((((((((H_bx_x.out.below B6.out).below B7.out).below B8.out).below B9.out).below B10.out).below B11.out).below B12.out).below B13.out).below B14.out).below B15.out).below B16.out).below B17.out).below B18.out).below B19.out).below B20.out).below B21.out).below B22.out).below B23.out).below B24.out).below B25.out).below B26.out).below B27.out).below B28.out).below B29.out).below B30.out)
    obtain ⟨⟨hv0, hv1, hv2⟩, _⟩ := (((((((((((((((((((((((((H_bx_y.out.below B6.out).below B7.out).below B8.out).below B9.out).below B10.out).below B11.out).below B12.out).below B13.out).below B14.out).below B15.out).below B16.out).below B17.out).below B18.out).below B19.out).below B20.out).below B21.out).below B22.out).below B23.out).below B24.out).below B25.out).below B26.out).below B27.out).below B28.out).below B29.out).below B30.out)
    have HC : Aside0 (Calls Tryd.prog 72 #[(.agg #[.bool b_x, .slice A_x M_x c_x, .slice B_x K_x d_x]), (.agg #[.bool b_y, .slice A_y M_y c_y, .slice B_y K_y d_y])] w30 (R3PostE w30 false 0 0 5)) := ⟨qquoR0 (((((((((((((((((((((((((H_x.out.below B6.out).below B7.out).below B8.out).below B9.out).below B10.out).below B11.out).below B12.out).below B13.out).below B14.out).below B15.out).below B16.out).below B17.out).below B18.out).below B19.out).below B20.out).below B21.out).below B22.out).below B23.out).below B24.out).below B25.out).below B26.out).below B27.out).below B28.out).below B29.out).below B30.out) (((((((((((((((((((((((((H_y.out.below B6.out).below B7.out).below B8.out).below B9.out).below B10.out).below B11.out).below B12.out).below B13.out).below B14.out).below B15.out).below B16.out).below B17.out).below B18.out).below B19.out).below B20.out).below B21.out).below B22.out).below B23.out).below B24.out).below B25.out).below B26.out).below B27.out).below B28.out).below B29.out).below B30.out) (X_x.out.le (by decide)) (X_y.out.le (by decide)) Y0.out⟩
    go_wp2_with fail
    refine HC.out.mono ?_
    clear HC
    rintro e w31 ⟨v_q, rfl, ⟨A_q, M_q, c_q, B_q, K_q, d_q, rfl, hNA, hNB⟩, hB⟩
    have B31 := Aside0.mk hB
    have T31 := Aside0.mk (T30.out.trans (hB.mono T30.out.size))
    have NA := Aside0.mk hNA
    have NB := Aside0.mk hNB
    clear hNA hNB hB
    have H_bx_q := Aside0.mk (Blk_alloc w31 (.bool false) (.slice A_q M_q c_q) (.slice B_q K_q d_q) 56)
    obtain ⟨⟨hp0, hp1, hp2⟩, _⟩ := ((((((((((((((((((((((((((H_bx_x.out.below B6.out).below B7.out).below B8.out).below B9.out).below B10.out).below B11.out).below B12.out).below B13.out).below B14.out).below B15.out).below B16.out).below B17.out).below B18.out).below B19.out).below B20.out).below B21.out).below B22.out).below B23.out).below B24.out).below B25.out).below B26.out).below B27.out).below B28.out).below B29.out).below B30.out).below B31.out).below (below_alloc (Below.refl w31.heap.size w31) (.cells #[.bool false, .slice A_q M_q c_q, .slice B_q K_q d_q] 56))
    obtain ⟨⟨hm0, hm1, hm2⟩, _⟩ := ((((((((((((((((((((((((((H_bx_y.out.below B6.out).below B7.out).below B8.out).below B9.out).below B10.out).below B11.out).below B12.out).below B13.out).below B14.out).below B15.out).below B16.out).below B17.out).below B18.out).below B19.out).below B20.out).below B21.out).below B22.out).below B23.out).below B24.out).below B25.out).below B26.out).below B27.out).below B28.out).below B29.out).below B30.out).below B31.out).below (below_alloc (Below.refl w31.heap.size w31) (.cells #[.bool false, .slice A_q M_q c_q, .slice B_q K_q d_q] 56))
    have B32 := Aside0.mk (below_alloc (Below.refl w31.heap.size w31) (.cells #[.bool false, .slice A_q M_q c_q, .slice B_q K_q d_q] 56))
    have T32 := Aside0.mk (T31.out.trans (B32.out.mono T31.out.size))
    have HC : Aside0 (Calls Tryd.prog 73 #[(.agg #[.bool b_y, .slice A_y M_y c_y, .slice B_y K_y d_y])] (w31.alloc (.cells #[.bool false, .slice A_q M_q c_q, .slice B_q K_q d_q] 56)) (BoolPost (w31.alloc (.cells #[.bool false, .slice A_q M_q c_q, .slice B_q K_q d_q] 56)) true)) := ⟨by have h := snought_w (((((((((((((((((((((((((((H_y.out.below B6.out).below B7.out).below B8.out).below B9.out).below B10.out).below B11.out).below B12.out).below B13.out).below B14.out).below B15.out).below B16.out).below B17.out).below B18.out).below B19.out).below B20.out).below B21.out).below B22.out).below B23.out).below B24.out).below B25.out).below B26.out).below B27.out).below B28.out).below B29.out).below B30.out).below B31.out).below B32.out); rw [decide_eq_true Y0.out] at h; exact h⟩
    go_wp2_with fail
    refine HC.out.mono ?_
    clear HC
    rintro e w33 ⟨rfl, hB⟩
    have B33 := Aside0.mk hB
    have T33 := Aside0.mk (T32.out.trans (hB.mono T32.out.size))
    clear hB
    go_wp2_with fail
    go_ret
    exact ⟨rfl, T33.out⟩
  ·
    have Y0 := Aside0.mk hy0
    clear hy0
    obtain ⟨⟨hu0, hu1, hu2⟩, _⟩ := (((((((((((((((((((((((((H_bx_x.out.below B6.out).below B7.out).below B8.out).below B9.out).below B10.out).below B11.out).below B12.out).below B13.out).below B14.out).below B15.out).below B16.out).below B17.out).below B18.out).below B19.out).below B20.out).below B21.out).below B22.out).below B23.out).below B24.out).below B25.out).below B26.out).below B27.out).below B28.out).below B29.out).below B30.out)
    obtain ⟨⟨hv0, hv1, hv2⟩, _⟩ := (((((((((((((((((((((((((H_bx_y.out.below B6.out).below B7.out).below B8.out).below B9.out).below B10.out).below B11.out).below B12.out).below B13.out).below B14.out).below B15.out).below B16.out).below B17.out).below B18.out).below B19.out).below B20.out).below B21.out).below B22.out).below B23.out).below B24.out).below B25.out).below B26.out).below B27.out).below B28.out).below B29.out).below B30.out)
    have HC : Aside0 (Calls Tryd.prog 72 #[(.agg #[.bool b_x, .slice A_x M_x c_x, .slice B_x K_x d_x]), (.agg #[.bool b_y, .slice A_y M_y c_y, .slice B_y K_y d_y])] w30 (RaPostE w30 ((mkR g0 l0b l0c) / (mkR g1 l1b l1c)) 0)) := ⟨qquoR (((((((((((((((((((((((((H_x.out.below B6.out).below B7.out).below B8.out).below B9.out).below B10.out).below B11.out).below B12.out).below B13.out).below B14.out).below B15.out).below B16.out).below B17.out).below B18.out).below B19.out).below B20.out).below B21.out).below B22.out).below B23.out).below B24.out).below B25.out).below B26.out).below B27.out).below B28.out).below B29.out).below B30.out) (((((((((((((((((((((((((H_y.out.below B6.out).below B7.out).below B8.out).below B9.out).below B10.out).below B11.out).below B12.out).below B13.out).below B14.out).below B15.out).below B16.out).below B17.out).below B18.out).below B19.out).below B20.out).below B21.out).below B22.out).below B23.out).below B24.out).below B25.out).below B26.out).below B27.out).below B28.out).below B29.out).below B30.out) (X_x.out.le (by decide)) (X_y.out.le (by decide)) Y0.out⟩
    go_wp2_with fail
    refine HC.out.mono ?_
    clear HC
    rintro e w31 ⟨v_q, rfl, ⟨A_q, M_q, c_q, B_q, K_q, d_q, rfl, hNA, hNB⟩, hB⟩
    have B31 := Aside0.mk hB
    have T31 := Aside0.mk (T30.out.trans (hB.mono T30.out.size))
    obtain ⟨bq, hbq⟩ : ∃ b, b = decide (Rat.num ((mkR g0 l0b l0c) / (mkR g1 l1b l1c)) < 0) := ⟨_, rfl⟩
    rw [← hbq]
    have Eq := Aside0.mk hbq
    clear hbq
    have NA := Aside0.mk hNA
    have NB := Aside0.mk hNB
    clear hNA hNB hB
    have H_bx_q := Aside0.mk (Blk_alloc w31 (.bool bq) (.slice A_q M_q c_q) (.slice B_q K_q d_q) 56)
    obtain ⟨⟨hp0, hp1, hp2⟩, _⟩ := ((((((((((((((((((((((((((H_bx_x.out.below B6.out).below B7.out).below B8.out).below B9.out).below B10.out).below B11.out).below B12.out).below B13.out).below B14.out).below B15.out).below B16.out).below B17.out).below B18.out).below B19.out).below B20.out).below B21.out).below B22.out).below B23.out).below B24.out).below B25.out).below B26.out).below B27.out).below B28.out).below B29.out).below B30.out).below B31.out).below (below_alloc (Below.refl w31.heap.size w31) (.cells #[.bool bq, .slice A_q M_q c_q, .slice B_q K_q d_q] 56))
    obtain ⟨⟨hm0, hm1, hm2⟩, _⟩ := ((((((((((((((((((((((((((H_bx_y.out.below B6.out).below B7.out).below B8.out).below B9.out).below B10.out).below B11.out).below B12.out).below B13.out).below B14.out).below B15.out).below B16.out).below B17.out).below B18.out).below B19.out).below B20.out).below B21.out).below B22.out).below B23.out).below B24.out).below B25.out).below B26.out).below B27.out).below B28.out).below B29.out).below B30.out).below B31.out).below (below_alloc (Below.refl w31.heap.size w31) (.cells #[.bool bq, .slice A_q M_q c_q, .slice B_q K_q d_q] 56))
    have B32 := Aside0.mk (below_alloc (Below.refl w31.heap.size w31) (.cells #[.bool bq, .slice A_q M_q c_q, .slice B_q K_q d_q] 56))
    have T32 := Aside0.mk (T31.out.trans (B32.out.mono T31.out.size))
    have H_q := Aside0.mk (show Ra w31 (.agg #[(.bool bq), (.slice A_q M_q c_q), (.slice B_q K_q d_q)]) ((mkR g0 l0b l0c) / (mkR g1 l1b l1c)) from by unfold Ra; rw [← Eq.out]; exact ⟨_, _, _, _, _, _, rfl, NA.out, NB.out⟩)
    have X_q := Aside0.mk (show Rb 6 ((mkR g0 l0b l0c) / (mkR g1 l1b l1c)) from quo_bnd X_x.out X_y.out Y0.out (by decide))
    have H_q2 := Aside0.mk (show Ra (w31.alloc (.cells #[.bool bq, .slice A_q M_q c_q, .slice B_q K_q d_q] 56)) (.agg #[(.bool bq), (.slice A_q M_q c_q), (.slice B_q K_q d_q)]) ((mkR g0 l0b l0c) / (mkR g1 l1b l1c)) from R3.below H_q.out (below_alloc (Below.refl _ _) _))
    have X_q2 := Aside0.mk X_q.out
    have HC : Aside0 (Calls Tryd.prog 73 #[(.agg #[.bool b_y, .slice A_y M_y c_y, .slice B_y K_y d_y])] (w31.alloc (.cells #[.bool bq, .slice A_q M_q c_q, .slice B_q K_q d_q] 56)) (BoolPost (w31.alloc (.cells #[.bool bq, .slice A_q M_q c_q, .slice B_q K_q d_q] 56)) false)) := ⟨by have h := snought_w (((((((((((((((((((((((((((H_y.out.below B6.out).below B7.out).below B8.out).below B9.out).below B10.out).below B11.out).below B12.out).below B13.out).below B14.out).below B15.out).below B16.out).below B17.out).below B18.out).below B19.out).below B20.out).below B21.out).below B22.out).below B23.out).below B24.out).below B25.out).below B26.out).below B27.out).below B28.out).below B29.out).below B30.out).below B31.out).below B32.out); rw [decide_eq_false Y0.out] at h; exact h⟩
    go_wp2_with fail
    refine HC.out.mono ?_
    clear HC
    rintro e w33 ⟨rfl, hB⟩
    have B33 := Aside0.mk hB
    have T33 := Aside0.mk (T32.out.trans (hB.mono T32.out.size))
    clear hB
    go_wp2_with fail
    have B34 := Aside0.mk (Below.drew (Below.refl w33.heap.size w33))
    have T34 := Aside0.mk (T33.out.trans (B34.out.mono T33.out.size))
    have HS34 := Aside0.mk (fun (W : World) (hW : Below (w33.drew).heap.size (w33.drew) W) => show W.cell? ⟨p0, 0, none⟩ = some (.bool b_x) ∧ W.cell? ⟨p0, 1, none⟩ = some (.slice A_x M_x c_x) ∧ W.cell? ⟨p0, 2, none⟩ = some (.slice B_x K_x d_x) ∧ W.cell? ⟨p1, 0, none⟩ = some (.bool b_y) ∧ W.cell? ⟨p1, 1, none⟩ = some (.slice A_y M_y c_y) ∧ W.cell? ⟨p1, 2, none⟩ = some (.slice B_y K_y d_y) ∧ W.cell? ⟨w31.heap.size, 0, none⟩ = some (.bool bq) ∧ W.cell? ⟨w31.heap.size, 1, none⟩ = some (.slice A_q M_q c_q) ∧ W.cell? ⟨w31.heap.size, 2, none⟩ = some (.slice B_q K_q d_q) from ⟨((((((((((((((((((((((((((((((H_bx_x.out.below B6.out).below B7.out).below B8.out).below B9.out).below B10.out).below B11.out).below B12.out).below B13.out).below B14.out).below B15.out).below B16.out).below B17.out).below B18.out).below B19.out).below B20.out).below B21.out).below B22.out).below B23.out).below B24.out).below B25.out).below B26.out).below B27.out).below B28.out).below B29.out).below B30.out).below B31.out).below B32.out).below B33.out).below B34.out).below hW).1.1, ((((((((((((((((((((((((((((((H_bx_x.out.below B6.out).below B7.out).below B8.out).below B9.out).below B10.out).below B11.out).below B12.out).below B13.out).below B14.out).below B15.out).below B16.out).below B17.out).below B18.out).below B19.out).below B20.out).below B21.out).below B22.out).below B23.out).below B24.out).below B25.out).below B26.out).below B27.out).below B28.out).below B29.out).below B30.out).below B31.out).below B32.out).below B33.out).below B34.out).below hW).1.2.1, ((((((((((((((((((((((((((((((H_bx_x.out.below B6.out).below B7.out).below B8.out).below B9.out).below B10.out).below B11.out).below B12.out).below B13.out).below B14.out).below B15.out).below B16.out).below B17.out).below B18.out).below B19.out).below B20.out).below B21.out).below B22.out).below B23.out).below B24.out).below B25.out).below B26.out).below B27.out).below B28.out).below B29.out).below B30.out).below B31.out).below B32.out).below B33.out).below B34.out).below hW).1.2.2, ((((((((((((((((((((((((((((((H_bx_y.out.below B6.out).below B7.out).below B8.out).below B9.out).below B10.out).below B11.out).below B12.out).below B13.out).below B14.out).below B15.out).below B16.out).below B17.out).below B18.out).below B19.out).below B20.out).below B21.out).below B22.out).below B23.out).below B24.out).below B25.out).below B26.out).below B27.out).below B28.out).below B29.out).below B30.out).below B31.out).below B32.out).below B33.out).below B34.out).below hW).1.1, ((((((((((((((((((((((((((((((H_bx_y.out.below B6.out).below B7.out).below B8.out).below B9.out).below B10.out).below B11.out).below B12.out).below B13.out).below B14.out).below B15.out).below B16.out).below B17.out).below B18.out).below B19.out).below B20.out).below B21.out).below B22.out).below B23.out).below B24.out).below B25.out).below B26.out).below B27.out).below B28.out).below B29.out).below B30.out).below B31.out).below B32.out).below B33.out).below B34.out).below hW).1.2.1, ((((((((((((((((((((((((((((((H_bx_y.out.below B6.out).below B7.out).below B8.out).below B9.out).below B10.out).below B11.out).below B12.out).below B13.out).below B14.out).below B15.out).below B16.out).below B17.out).below B18.out).below B19.out).below B20.out).below B21.out).below B22.out).below B23.out).below B24.out).below B25.out).below B26.out).below B27.out).below B28.out).below B29.out).below B30.out).below B31.out).below B32.out).below B33.out).below B34.out).below hW).1.2.2, (((H_bx_q.out.below B33.out).below B34.out).below hW).1.1, (((H_bx_q.out.below B33.out).below B34.out).below hW).1.2.1, (((H_bx_q.out.below B33.out).below B34.out).below hW).1.2.2⟩)
    have U34 := Aside0.mk (Below.refl (w33.drew).heap.size (w33.drew))
    refine wp_region_held_drew (S := fun W => W.cell? ⟨p0, 0, none⟩ = some (.bool b_x) ∧ W.cell? ⟨p0, 1, none⟩ = some (.slice A_x M_x c_x) ∧ W.cell? ⟨p0, 2, none⟩ = some (.slice B_x K_x d_x) ∧ W.cell? ⟨p1, 0, none⟩ = some (.bool b_y) ∧ W.cell? ⟨p1, 1, none⟩ = some (.slice A_y M_y c_y) ∧ W.cell? ⟨p1, 2, none⟩ = some (.slice B_y K_y d_y) ∧ W.cell? ⟨w31.heap.size, 0, none⟩ = some (.bool bq) ∧ W.cell? ⟨w31.heap.size, 1, none⟩ = some (.slice A_q M_q c_q) ∧ W.cell? ⟨w31.heap.size, 2, none⟩ = some (.slice B_q K_q d_q)) (by kernel_rfl) (HS34.out _ (Below.refl _ _)) (fun hHeld => ?_)
    refine Inv.takeL (i := 0) (v := ?v7_0) rfl (by kernel_rfl) (by kernel_rfl) (by kernel_rfl) (fun _ _ _ h => h) (by rfl) ?hy7_0 (by assumption) ?rest7_0
    case hy7_0 => ((intro w hSw; (try dsimp only at hSw); go_simp) <;> with_reducible rfl)
    try simp only [Act.put, List.setIfInBounds_toArray, List.set_cons_zero, List.set_cons_succ]
    refine Inv.takeL (i := 1) (v := ?v7_1) rfl (by kernel_rfl) (by kernel_rfl) (by kernel_rfl) (fun _ _ _ h => h) (by rfl) ?hy7_1 (by assumption) ?rest7_1
    case hy7_1 => ((intro w hSw; (try dsimp only at hSw); go_simp) <;> with_reducible rfl)
    try simp only [Act.put, List.setIfInBounds_toArray, List.set_cons_zero, List.set_cons_succ]
    refine Inv.takeL (i := 2) (v := ?v7_2) rfl (by kernel_rfl) (by kernel_rfl) (by kernel_rfl) (fun _ _ _ h => h) (by rfl) ?hy7_2 (by assumption) ?rest7_2
    case hy7_2 => ((intro w hSw; (try dsimp only at hSw); go_simp) <;> with_reducible rfl)
    try simp only [Act.put, List.setIfInBounds_toArray, List.set_cons_zero, List.set_cons_succ]
    refine Inv.takeL (i := 3) (v := ?v7_3) rfl (by kernel_rfl) (by kernel_rfl) (by kernel_rfl) (fun _ _ _ h => h) (by rfl) ?hy7_3 (by assumption) ?rest7_3
    case hy7_3 => ((intro w hSw; (try dsimp only at hSw); go_simp) <;> with_reducible rfl)
    try simp only [Act.put, List.setIfInBounds_toArray, List.set_cons_zero, List.set_cons_succ]
    refine Inv.takeL (i := 4) (v := ?v7_4) rfl (by kernel_rfl) (by kernel_rfl) (by kernel_rfl) (fun _ _ _ h => h) (by rfl) ?hy7_4 (by assumption) ?rest7_4
    case hy7_4 => ((intro w hSw; (try dsimp only at hSw); go_simp) <;> with_reducible rfl)
    try simp only [Act.put, List.setIfInBounds_toArray, List.set_cons_zero, List.set_cons_succ]
    refine Inv.takeL (i := 6) (v := ?v7_6) rfl (by kernel_rfl) (by kernel_rfl) (by kernel_rfl) (fun _ _ _ h => h) (by rfl) ?hy7_6 (by assumption) ?rest7_6
    case hy7_6 => ((intro w hSw; (try dsimp only at hSw); go_simp) <;> with_reducible rfl)
    try simp only [Act.put, List.setIfInBounds_toArray, List.set_cons_zero, List.set_cons_succ]
    have HC : Aside0 (Calls Tryd.prog 64 #[(.agg #[(.bool bq), (.slice A_q M_q c_q), (.slice B_q K_q d_q)]), (.agg #[.bool b_y, .slice A_y M_y c_y, .slice B_y K_y d_y])] (w33.drew) (RaPost (w33.drew) (((mkR g0 l0b l0c) / (mkR g1 l1b l1c)) * (mkR g1 l1b l1c)))) := ⟨qmulR ((H_q2.out.below B33.out).below B34.out) (((((((((((((((((((((((((((((H_y.out.below B6.out).below B7.out).below B8.out).below B9.out).below B10.out).below B11.out).below B12.out).below B13.out).below B14.out).below B15.out).below B16.out).below B17.out).below B18.out).below B19.out).below B20.out).below B21.out).below B22.out).below B23.out).below B24.out).below B25.out).below B26.out).below B27.out).below B28.out).below B29.out).below B30.out).below B31.out).below B32.out).below B33.out).below B34.out) (X_q2.out.le (by decide)) (X_y.out.le (by decide))⟩
    refine Inv.oneL (i := 5) rfl (by kernel_rfl) (fun K hK => ?_)
    go_simp
    refine HC.out.mono ?_
    clear HC
    rintro e w35 ⟨v_qy, rfl, hN, hB⟩
    try go_wp2_with fail
    have B35 := Aside0.mk hB
    have T35 := Aside0.mk (T34.out.trans (hB.mono T34.out.size))
    have H_qy := Aside0.mk hN
    have X_qy := Aside0.mk (show Rb 9 (((mkR g0 l0b l0c) / (mkR g1 l1b l1c)) * (mkR g1 l1b l1c)) from mul_bnd X_q2.out X_y.out (by decide))
    clear hN hB
    have U35 := Aside0.mk (U34.out.trans (B35.out.mono U34.out.size))
    refine hK.out _ _ (HS34.out _ U35.out) (fun hHeld => ?_)
    clear hK K
    try simp only [Act.put, List.setIfInBounds_toArray, List.set_cons_zero, List.set_cons_succ]
    have HC : Aside0 (Calls Tryd.prog 58 #[v_qy, (.agg #[.bool b_x, .slice A_x M_x c_x, .slice B_x K_x d_x])] w35 (TruePost w35)) := ⟨ssameR H_qy.out ((((((((((((((((((((((((((((((H_x.out.below B6.out).below B7.out).below B8.out).below B9.out).below B10.out).below B11.out).below B12.out).below B13.out).below B14.out).below B15.out).below B16.out).below B17.out).below B18.out).below B19.out).below B20.out).below B21.out).below B22.out).below B23.out).below B24.out).below B25.out).below B26.out).below B27.out).below B28.out).below B29.out).below B30.out).below B31.out).below B32.out).below B33.out).below B34.out).below B35.out) (X_qy.out.le (by decide)) (Rat.div_mul_cancel Y0.out)⟩
    refine Inv.oneL (i := 7) rfl (by kernel_rfl) (fun K hK => ?_)
    go_simp
    refine HC.out.mono ?_
    clear HC
    rintro e w36 ⟨rfl, hB⟩
    try go_wp2_with fail
    have B36 := Aside0.mk hB
    have T36 := Aside0.mk (T35.out.trans (hB.mono T35.out.size))
    clear hB
    have U36 := Aside0.mk (U35.out.trans (B36.out.mono U35.out.size))
    refine hK.out _ _ (HS34.out _ U36.out) (fun hHeld => ?_)
    clear hK K
    try simp only [Act.put, List.setIfInBounds_toArray, List.set_cons_zero, List.set_cons_succ]
    refine Inv.takeL (i := 8) (v := ?v7_8) rfl (by kernel_rfl) (by kernel_rfl) (by kernel_rfl) (fun _ _ _ h => h) (by rfl) ?hy7_8 (by assumption) ?rest7_8
    case hy7_8 => ((intro w hSw; (try dsimp only at hSw); go_simp) <;> with_reducible rfl)
    try simp only [Act.put, List.setIfInBounds_toArray, List.set_cons_zero, List.set_cons_succ]
    refine Inv.takeL (i := 9) (v := ?v7_9) rfl (by kernel_rfl) (by kernel_rfl) (by kernel_rfl) (fun _ _ _ h => h) (by rfl) ?hy7_9 (by assumption) ?rest7_9
    case hy7_9 => ((intro w hSw; (try dsimp only at hSw); go_simp) <;> with_reducible rfl)
    try simp only [Act.put, List.setIfInBounds_toArray, List.set_cons_zero, List.set_cons_succ]
    refine Inv.takeL (i := 10) (v := ?v7_10) rfl (by kernel_rfl) (by kernel_rfl) (by kernel_rfl) (fun _ _ _ h => h) (by rfl) ?hy7_10 (by assumption) ?rest7_10
    case hy7_10 => ((intro w hSw; (try dsimp only at hSw); go_simp) <;> with_reducible rfl)
    try simp only [Act.put, List.setIfInBounds_toArray, List.set_cons_zero, List.set_cons_succ]
    have HC : Aside0 (Calls Tryd.prog 62 #[(.agg #[(.bool bq), (.slice A_q M_q c_q), (.slice B_q K_q d_q)])] w36 (BoolPost w36 true)) := ⟨qrightR ((((H_q2.out.below B33.out).below B34.out).below B35.out).below B36.out) (X_q2.out.le (by decide))⟩
    refine Inv.oneL (i := 11) rfl (by kernel_rfl) (fun K hK => ?_)
    go_simp
    refine HC.out.mono ?_
    clear HC
    rintro e w37 ⟨rfl, hB⟩
    try go_wp2_with fail
    have B37 := Aside0.mk hB
    have T37 := Aside0.mk (T36.out.trans (hB.mono T36.out.size))
    clear hB
    have U37 := Aside0.mk (U36.out.trans (B37.out.mono U36.out.size))
    refine hK.out _ _ (HS34.out _ U37.out) (fun hHeld => ?_)
    clear hK K
    try simp only [Act.put, List.setIfInBounds_toArray, List.set_cons_zero, List.set_cons_succ]
    refine Inv.takeL (i := 12) (v := ?v7_12) rfl (by kernel_rfl) (by kernel_rfl) (by kernel_rfl) (fun _ _ _ h => h) (by rfl) ?hy7_12 (by assumption) ?rest7_12
    case hy7_12 => ((intro w hSw; (try dsimp only at hSw); go_simp) <;> with_reducible rfl)
    try simp only [Act.put, List.setIfInBounds_toArray, List.set_cons_zero, List.set_cons_succ]
    refine Inv.takeL (i := 13) (v := ?v7_13) rfl (by kernel_rfl) (by kernel_rfl) (by kernel_rfl) (fun _ _ _ h => h) (by rfl) ?hy7_13 (by assumption) ?rest7_13
    case hy7_13 => ((intro w hSw; (try dsimp only at hSw); go_simp) <;> with_reducible rfl)
    try simp only [Act.put, List.setIfInBounds_toArray, List.set_cons_zero, List.set_cons_succ]
    refine wpAnyH_done (by kernel_rfl) ?_ _
    go_wp2_with fail
    go_ret
    exact ⟨rfl, T37.out⟩
end Go.Proofs.YtklhpobphloehaaDoor.ratField
