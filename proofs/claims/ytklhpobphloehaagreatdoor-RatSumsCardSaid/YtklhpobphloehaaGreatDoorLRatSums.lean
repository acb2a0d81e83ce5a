/- The law RatSums: the walk through its calls, by their contracts; the row and its card. -/
import Derived.Test.YtklhpobphloehaaGreatDoorS4
import Derived.Test.YtklhpobphloehaaGreatDoorS8
import Derived.Test.YtklhpobphloehaaGreatDoorS6
set_option linter.unusedVariables false
namespace Go.Proofs.YtklhpobphloehaaGreatDoor.ratSums
open Go.RowKit
open Go.Proofs.YtklhpobphloehaaGreatDoor.G Go.Proofs.YtklhpobphloehaaGreatDoor.Nn Go.Proofs.YtklhpobphloehaaGreatDoorW.PrintWords Go.Proofs.YtklhpobphloehaaGreatDoorW.PrintLast

theorem rb0 : Rb 3 (0 : Rat) := ⟨by decide, by decide⟩
/-- Two numbers that lie side by side in a row of pairs. -/
def PairAt (W : World) (g k : Nat) (x y : Rat) (u v : Value) : Prop := ∃ (b0 b1 : Bool) (A0 : Option Addr) (L0 c0 : Nat) (D0 : Option Addr) (M0 d0 : Nat) (A1 : Option Addr) (L1 c1 : Nat) (D1 : Option Addr) (M1 d1 : Nat),
  u = .agg #[.bool b0, .slice A0 L0 c0, .slice D0 M0 d0] ∧ v = .agg #[.bool b1, .slice A1 L1 c1, .slice D1 M1 d1] ∧
  (W.cell? ⟨g, 6 * k, none⟩ = some (.bool b0) ∧ W.cell? ⟨g, 6 * k + 1, none⟩ = some (.slice A0 L0 c0) ∧ W.cell? ⟨g, 6 * k + 2, none⟩ = some (.slice D0 M0 d0)) ∧
  (W.cell? ⟨g, 6 * k + 3, none⟩ = some (.bool b1) ∧ W.cell? ⟨g, 6 * k + 4, none⟩ = some (.slice A1 L1 c1) ∧ W.cell? ⟨g, 6 * k + 5, none⟩ = some (.slice D1 M1 d1))
set_option maxHeartbeats 40000000 in
set_option maxRecDepth 100000 in
theorem walk (g0 : Bool) (a0b : Option Addr) (c0b : Nat) (l0b : List Int) (a0c : Option Addr) (c0c : Nat) (l0c : List Int) (g1 : Bool) (a1b : Option Addr) (c1b : Nat) (l1b : List Int) (a1c : Option Addr) (c1c : Nat) (l1c : List Int) (a2 : Int) (a3 : Int) (w : World) (hr0b : CU w a0b l0b.length l0b) (hc0b : l0b.length ≤ c0b) (hL0b : Lim l0b) (hr0c : CU w a0c l0c.length l0c) (hc0c : l0c.length ≤ c0c) (hL0c : Lim l0c) (hr1b : CU w a1b l1b.length l1b) (hc1b : l1b.length ≤ c1b) (hL1b : Lim l1b) (hr1c : CU w a1c l1c.length l1c) (hc1c : l1c.length ≤ c1c) (hL1c : Lim l1c) (hi2 : -9223372036854775808 ≤ a2 ∧ a2 ≤ 9223372036854775807) (hi3 : -9223372036854775808 ≤ a3 ∧ a3 ≤ 9223372036854775807) (HT : TabOk w) :
    Calls Tryz.prog 3 #[.agg #[.bool g0, .slice a0b l0b.length c0b, .slice a0c l0c.length c0c], .agg #[.bool g1, .slice a1b l1b.length c1b, .slice a1c l1c.length c1c], .int .i64 a2, .int .i64 a3] w (TruePost w) := by
  have C0b := Aside0.mk hr0b
  have S0b := Aside0.mk hc0b
  have L0b := Aside0.mk hL0b
  clear hr0b hc0b hL0b
  have C0c := Aside0.mk hr0c
  have S0c := Aside0.mk hc0c
  have L0c := Aside0.mk hL0c
  clear hr0c hc0c hL0c
  have C1b := Aside0.mk hr1b
  have S1b := Aside0.mk hc1b
  have L1b := Aside0.mk hL1b
  clear hr1b hc1b hL1b
  have C1c := Aside0.mk hr1c
  have S1c := Aside0.mk hc1c
  have L1c := Aside0.mk hL1c
  clear hr1c hc1c hL1c
  have TAB := Aside0.mk HT
  clear HT
  obtain ⟨qa, hqa⟩ : ∃ q : Rat, q = mkR g0 l0b l0c := ⟨_, rfl⟩
  have Eqa := Aside0.mk hqa
  clear hqa
  obtain ⟨qb, hqb⟩ : ∃ q : Rat, q = mkR g1 l1b l1c := ⟨_, rfl⟩
  have Eqb := Aside0.mk hqb
  clear hqb
  obtain ⟨qn, hqn⟩ : ∃ q : Rat, q = smallQ a2 := ⟨_, rfl⟩
  have Eqn := Aside0.mk hqn
  clear hqn
  obtain ⟨qm, hqm⟩ : ∃ q : Rat, q = smallQ a3 := ⟨_, rfl⟩
  have Eqm := Aside0.mk hqm
  clear hqm
  have HI2 := Aside0.mk hi2
  have HI3 := Aside0.mk hi3
  clear hi2 hi3
  have Bqa := Aside0.mk (show Rb 3 qa by rw [Eqa.out]; exact mkR_bnd g0 L0b.out L0c.out)
  have Bqb := Aside0.mk (show Rb 3 qb by rw [Eqb.out]; exact mkR_bnd g1 L1b.out L1c.out)
  have Bqn := Aside0.mk (show Rb 3 qn by rw [Eqn.out]; exact smallQ_bnd _)
  have Bqm := Aside0.mk (show Rb 3 qm by rw [Eqm.out]; exact smallQ_bnd _)
  go_enter Tryz.func3, Tryz.ntmps3
  have B1 := Aside0.mk (below_alloc (Below.refl w.heap.size w) (.cells #[.bool g0, .slice a0b l0b.length c0b, .slice a0c l0c.length c0c] 24))
  have T1 := Aside0.mk (B1.out.mono (Nat.le_refl _))
  have H_bx0 := Aside0.mk (bx w (w.heap.size) (.bool g0) (.slice a0b l0b.length c0b) (.slice a0c l0c.length c0c) 24 (by simp))
  have B2 := Aside0.mk (below_alloc (Below.refl (w.alloc (.cells #[.bool g0, .slice a0b l0b.length c0b, .slice a0c l0c.length c0c] 24)).heap.size (w.alloc (.cells #[.bool g0, .slice a0b l0b.length c0b, .slice a0c l0c.length c0c] 24))) (.cells #[.bool g1, .slice a1b l1b.length c1b, .slice a1c l1c.length c1c] 24))
  have T2 := Aside0.mk (T1.out.trans (B2.out.mono T1.out.size))
  have H_bx1 := Aside0.mk (bx (w.alloc (.cells #[.bool g0, .slice a0b l0b.length c0b, .slice a0c l0c.length c0c] 24)) (w.heap.size + 1) (.bool g1) (.slice a1b l1b.length c1b) (.slice a1c l1c.length c1c) 24 (by simp))
  have HC : Aside0 (Calls Tryz.prog 5 #[] ((w.alloc (.cells #[.bool g0, .slice a0b l0b.length c0b, .slice a0c l0c.length c0c] 24)).alloc (.cells #[.bool g1, .slice a1b l1b.length c1b, .slice a1c l1c.length c1c] 24)) (TruePost ((w.alloc (.cells #[.bool g0, .slice a0b l0b.length c0b, .slice a0c l0c.length c0c] 24)).alloc (.cells #[.bool g1, .slice a1b l1b.length c1b, .slice a1c l1c.length c1c] 24)))) := ⟨known2_w ((w.alloc (.cells #[.bool g0, .slice a0b l0b.length c0b, .slice a0c l0c.length c0c] 24)).alloc (.cells #[.bool g1, .slice a1b l1b.length c1b, .slice a1c l1c.length c1c] 24)) ((TAB.out.below B1.out).below B2.out)⟩
  go_wp2_with fail
  refine HC.out.mono ?_
  clear HC
  rintro e w3 ⟨rfl, hB⟩
  have B3 := Aside0.mk hB
  have T3 := Aside0.mk (T2.out.trans (hB.mono T2.out.size))
  clear hB
  go_wp2_with fail
  have B4 := Aside0.mk (Below.drew (Below.refl w3.heap.size w3))
  have T4 := Aside0.mk (T3.out.trans (B4.out.mono T3.out.size))
  have HS4 := Aside0.mk (fun (W : World) (hW : Below (w3.drew).heap.size (w3.drew) W) => show W.cell? ⟨w.heap.size, 0, none⟩ = some (.bool g0) ∧ W.cell? ⟨w.heap.size, 1, none⟩ = some (.slice a0b l0b.length c0b) ∧ W.cell? ⟨w.heap.size, 2, none⟩ = some (.slice a0c l0c.length c0c) ∧ W.cell? ⟨w.heap.size + 1, 0, none⟩ = some (.bool g1) ∧ W.cell? ⟨w.heap.size + 1, 1, none⟩ = some (.slice a1b l1b.length c1b) ∧ W.cell? ⟨w.heap.size + 1, 2, none⟩ = some (.slice a1c l1c.length c1c) from ⟨((((H_bx0.out.below B2.out).below B3.out).below B4.out).below hW).1.1, ((((H_bx0.out.below B2.out).below B3.out).below B4.out).below hW).1.2.1, ((((H_bx0.out.below B2.out).below B3.out).below B4.out).below hW).1.2.2, (((H_bx1.out.below B3.out).below B4.out).below hW).1.1, (((H_bx1.out.below B3.out).below B4.out).below hW).1.2.1, (((H_bx1.out.below B3.out).below B4.out).below hW).1.2.2⟩)
  have U4 := Aside0.mk (Below.refl (w3.drew).heap.size (w3.drew))
  refine wp_region_held_drew (S := fun W => W.cell? ⟨w.heap.size, 0, none⟩ = some (.bool g0) ∧ W.cell? ⟨w.heap.size, 1, none⟩ = some (.slice a0b l0b.length c0b) ∧ W.cell? ⟨w.heap.size, 2, none⟩ = some (.slice a0c l0c.length c0c) ∧ W.cell? ⟨w.heap.size + 1, 0, none⟩ = some (.bool g1) ∧ W.cell? ⟨w.heap.size + 1, 1, none⟩ = some (.slice a1b l1b.length c1b) ∧ W.cell? ⟨w.heap.size + 1, 2, none⟩ = some (.slice a1c l1c.length c1c)) (by kernel_rfl) (HS4.out _ (Below.refl _ _)) (fun hHeld => ?_)
  refine Inv.takeL (i := 0) (v := ?vsums_1) rfl (by kernel_rfl) (by kernel_rfl) (by kernel_rfl) (fun _ _ _ h => h) (by rfl) ?hysums_1 (by assumption) ?restsums_1
  case hysums_1 => ((intro w hSw; (try dsimp only at hSw); go_simp) <;> with_reducible rfl)
  try simp only [Act.put, List.setIfInBounds_toArray, List.set_cons_zero, List.set_cons_succ]
  refine Inv.takeL (i := 2) (v := ?vsums_2) rfl (by kernel_rfl) (by kernel_rfl) (by kernel_rfl) (fun _ _ _ h => h) (by rfl) ?hysums_2 (by assumption) ?restsums_2
  case hysums_2 => ((intro w hSw; (try dsimp only at hSw); go_simp) <;> with_reducible rfl)
  try simp only [Act.put, List.setIfInBounds_toArray, List.set_cons_zero, List.set_cons_succ]
  refine Inv.takeL (i := 5) (v := ?vsums_3) rfl (by kernel_rfl) (by kernel_rfl) (by kernel_rfl) (fun _ _ _ h => h) (by rfl) ?hysums_3 (by assumption) ?restsums_3
  case hysums_3 => ((intro w hSw; (try dsimp only at hSw); go_simp) <;> with_reducible rfl)
  try simp only [Act.put, List.setIfInBounds_toArray, List.set_cons_zero, List.set_cons_succ]
  refine Inv.takeL (i := 7) (v := ?vsums_4) rfl (by kernel_rfl) (by kernel_rfl) (by kernel_rfl) (fun _ _ _ h => h) (by rfl) ?hysums_4 (by assumption) ?restsums_4
  case hysums_4 => ((intro w hSw; (try dsimp only at hSw); go_simp) <;> with_reducible rfl)
  try simp only [Act.put, List.setIfInBounds_toArray, List.set_cons_zero, List.set_cons_succ]
  refine Inv.takeL (i := 10) (v := ?vsums_5) rfl (by kernel_rfl) (by kernel_rfl) (by kernel_rfl) (fun _ _ _ h => h) (by rfl) ?hysums_5 (by assumption) ?restsums_5
  case hysums_5 => ((intro w hSw; (try dsimp only at hSw); go_simp) <;> with_reducible rfl)
  try simp only [Act.put, List.setIfInBounds_toArray, List.set_cons_zero, List.set_cons_succ]
  refine Inv.takeL (i := 12) (v := ?vsums_6) rfl (by kernel_rfl) (by kernel_rfl) (by kernel_rfl) (fun _ _ _ h => h) (by rfl) ?hysums_6 (by assumption) ?restsums_6
  case hysums_6 => ((intro w hSw; (try dsimp only at hSw); go_simp) <;> with_reducible rfl)
  try simp only [Act.put, List.setIfInBounds_toArray, List.set_cons_zero, List.set_cons_succ]
  refine Inv.takeL (i := 16) (v := ?vsums_7) rfl (by kernel_rfl) (by kernel_rfl) (by kernel_rfl) (fun _ _ _ h => h) (by rfl) ?hysums_7 (by assumption) ?restsums_7
  case hysums_7 => ((intro w hSw; (try dsimp only at hSw); go_simp) <;> with_reducible rfl)
  try simp only [Act.put, List.setIfInBounds_toArray, List.set_cons_zero, List.set_cons_succ]
  refine Inv.takeL (i := 19) (v := ?vsums_8) rfl (by kernel_rfl) (by kernel_rfl) (by kernel_rfl) (fun _ _ _ h => h) (by rfl) ?hysums_8 (by assumption) ?restsums_8
  case hysums_8 => ((intro w hSw; (try dsimp only at hSw); go_simp) <;> with_reducible rfl)
  try simp only [Act.put, List.setIfInBounds_toArray, List.set_cons_zero, List.set_cons_succ]
  refine Inv.oneL (i := 1) rfl (by kernel_rfl) (fun K hK => ?_)
  have HC : Aside0 (Calls Tryz.prog 6 #[.agg #[.bool g0, .slice a0b l0b.length c0b, .slice a0c l0c.length c0c]] (w3.drew) (RaPost (w3.drew) qa)) := ⟨by rw [Eqa.out]; exact lmake_w g0 (CU_below C0b.out T4.out) S0b.out L0b.out (CU_below C0c.out T4.out) S0c.out L0c.out⟩
  go_simp
  refine HC.out.mono ?_
  clear HC
  rintro e w5 ⟨v_x0, rfl, ⟨A_x0, M_x0, c_x0, B_x0, K_x0, d_x0, rfl, hNA, hNB⟩, hB⟩
  try go_wp2_with fail
  have B5 := Aside0.mk hB
  have T5 := Aside0.mk (T4.out.trans (hB.mono T4.out.size))
  obtain ⟨b_x0, hb_x0⟩ : ∃ b, b = decide (Rat.num qa < 0) := ⟨_, rfl⟩
  try rw [← hb_x0]
  have H_x0 := Aside0.mk (show Ra w5 (.agg #[.bool b_x0, .slice A_x0 M_x0 c_x0, .slice B_x0 K_x0 d_x0]) qa from by unfold Ra; rw [← hb_x0]; exact ⟨_, _, _, _, _, _, rfl, hNA, hNB⟩)
  clear hb_x0 hNA hNB hB
  have U5 := Aside0.mk (U4.out.trans (B5.out.mono U4.out.size))
  refine hK.out _ _ (HS4.out _ U5.out) (fun hHeld => ?_)
  clear hK K
  try simp only [Act.put, List.setIfInBounds_toArray, List.set_cons_zero, List.set_cons_succ]
  refine Inv.oneL (i := 3) rfl (by kernel_rfl) (fun K hK => ?_)
  have HC : Aside0 (Calls Tryz.prog 6 #[.agg #[.bool g1, .slice a1b l1b.length c1b, .slice a1c l1c.length c1c]] w5 (RaPost w5 qb)) := ⟨by rw [Eqb.out]; exact lmake_w g1 (CU_below C1b.out T5.out) S1b.out L1b.out (CU_below C1c.out T5.out) S1c.out L1c.out⟩
  go_simp
  refine HC.out.mono ?_
  clear HC
  rintro e w6 ⟨v_y0, rfl, ⟨A_y0, M_y0, c_y0, B_y0, K_y0, d_y0, rfl, hNA, hNB⟩, hB⟩
  try go_wp2_with fail
  have B6 := Aside0.mk hB
  have T6 := Aside0.mk (T5.out.trans (hB.mono T5.out.size))
  obtain ⟨b_y0, hb_y0⟩ : ∃ b, b = decide (Rat.num qb < 0) := ⟨_, rfl⟩
  try rw [← hb_y0]
  have H_y0 := Aside0.mk (show Ra w6 (.agg #[.bool b_y0, .slice A_y0 M_y0 c_y0, .slice B_y0 K_y0 d_y0]) qb from by unfold Ra; rw [← hb_y0]; exact ⟨_, _, _, _, _, _, rfl, hNA, hNB⟩)
  clear hb_y0 hNA hNB hB
  have U6 := Aside0.mk (U5.out.trans (B6.out.mono U5.out.size))
  refine hK.out _ _ (HS4.out _ U6.out) (fun hHeld => ?_)
  clear hK K
  try simp only [Act.put, List.setIfInBounds_toArray, List.set_cons_zero, List.set_cons_succ]
  refine Inv.takeL (i := 4) (v := ?vsums_9) rfl (by kernel_rfl) (by kernel_rfl) (by kernel_rfl) (fun _ _ _ h => h) (by rfl) ?hysums_9 (by assumption) ?restsums_9
  case hysums_9 => ((intro w hSw; (try dsimp only at hSw); go_simp) <;> with_reducible rfl)
  try simp only [Act.put, List.setIfInBounds_toArray, List.set_cons_zero, List.set_cons_succ]
  refine Inv.oneL (i := 6) rfl (by kernel_rfl) (fun K hK => ?_)
  have HC : Aside0 (Calls Tryz.prog 7 #[.int .i64 a2] w6 (RaPost w6 qn)) := ⟨by rw [Eqn.out]; exact lsmall_w a2 w6 HI2.out.1 HI2.out.2⟩
  go_simp
  refine HC.out.mono ?_
  clear HC
  rintro e w7 ⟨v_x1, rfl, ⟨A_x1, M_x1, c_x1, B_x1, K_x1, d_x1, rfl, hNA, hNB⟩, hB⟩
  try go_wp2_with fail
  have B7 := Aside0.mk hB
  have T7 := Aside0.mk (T6.out.trans (hB.mono T6.out.size))
  obtain ⟨b_x1, hb_x1⟩ : ∃ b, b = decide (Rat.num qn < 0) := ⟨_, rfl⟩
  try rw [← hb_x1]
  have H_x1 := Aside0.mk (show Ra w7 (.agg #[.bool b_x1, .slice A_x1 M_x1 c_x1, .slice B_x1 K_x1 d_x1]) qn from by unfold Ra; rw [← hb_x1]; exact ⟨_, _, _, _, _, _, rfl, hNA, hNB⟩)
  clear hb_x1 hNA hNB hB
  have U7 := Aside0.mk (U6.out.trans (B7.out.mono U6.out.size))
  refine hK.out _ _ (HS4.out _ U7.out) (fun hHeld => ?_)
  clear hK K
  try simp only [Act.put, List.setIfInBounds_toArray, List.set_cons_zero, List.set_cons_succ]
  refine Inv.oneL (i := 8) rfl (by kernel_rfl) (fun K hK => ?_)
  have HC : Aside0 (Calls Tryz.prog 7 #[.int .i64 a3] w7 (RaPost w7 qm)) := ⟨by rw [Eqm.out]; exact lsmall_w a3 w7 HI3.out.1 HI3.out.2⟩
  go_simp
  refine HC.out.mono ?_
  clear HC
  rintro e w8 ⟨v_y1, rfl, ⟨A_y1, M_y1, c_y1, B_y1, K_y1, d_y1, rfl, hNA, hNB⟩, hB⟩
  try go_wp2_with fail
  have B8 := Aside0.mk hB
  have T8 := Aside0.mk (T7.out.trans (hB.mono T7.out.size))
  obtain ⟨b_y1, hb_y1⟩ : ∃ b, b = decide (Rat.num qm < 0) := ⟨_, rfl⟩
  try rw [← hb_y1]
  have H_y1 := Aside0.mk (show Ra w8 (.agg #[.bool b_y1, .slice A_y1 M_y1 c_y1, .slice B_y1 K_y1 d_y1]) qm from by unfold Ra; rw [← hb_y1]; exact ⟨_, _, _, _, _, _, rfl, hNA, hNB⟩)
  clear hb_y1 hNA hNB hB
  have U8 := Aside0.mk (U7.out.trans (B8.out.mono U7.out.size))
  refine hK.out _ _ (HS4.out _ U8.out) (fun hHeld => ?_)
  clear hK K
  try simp only [Act.put, List.setIfInBounds_toArray, List.set_cons_zero, List.set_cons_succ]
  refine Inv.takeL (i := 9) (v := ?vsums_10) rfl (by kernel_rfl) (by kernel_rfl) (by kernel_rfl) (fun _ _ _ h => h) (by rfl) ?hysums_10 (by assumption) ?restsums_10
  case hysums_10 => ((intro w hSw; (try dsimp only at hSw); go_simp) <;> with_reducible rfl)
  try simp only [Act.put, List.setIfInBounds_toArray, List.set_cons_zero, List.set_cons_succ]
  refine Inv.oneL (i := 11) rfl (by kernel_rfl) (fun K hK => ?_)
  have HC : Aside0 (Calls Tryz.prog 6 #[.agg #[.bool g0, .slice a0b l0b.length c0b, .slice a0c l0c.length c0c]] w8 (RaPost w8 qa)) := ⟨by rw [Eqa.out]; exact lmake_w g0 (CU_below C0b.out T8.out) S0b.out L0b.out (CU_below C0c.out T8.out) S0c.out L0c.out⟩
  go_simp
  refine HC.out.mono ?_
  clear HC
  rintro e w9 ⟨v_x2, rfl, ⟨A_x2, M_x2, c_x2, B_x2, K_x2, d_x2, rfl, hNA, hNB⟩, hB⟩
  try go_wp2_with fail
  have B9 := Aside0.mk hB
  have T9 := Aside0.mk (T8.out.trans (hB.mono T8.out.size))
  obtain ⟨b_x2, hb_x2⟩ : ∃ b, b = decide (Rat.num qa < 0) := ⟨_, rfl⟩
  try rw [← hb_x2]
  have H_x2 := Aside0.mk (show Ra w9 (.agg #[.bool b_x2, .slice A_x2 M_x2 c_x2, .slice B_x2 K_x2 d_x2]) qa from by unfold Ra; rw [← hb_x2]; exact ⟨_, _, _, _, _, _, rfl, hNA, hNB⟩)
  clear hb_x2 hNA hNB hB
  have U9 := Aside0.mk (U8.out.trans (B9.out.mono U8.out.size))
  refine hK.out _ _ (HS4.out _ U9.out) (fun hHeld => ?_)
  clear hK K
  try simp only [Act.put, List.setIfInBounds_toArray, List.set_cons_zero, List.set_cons_succ]
  refine Inv.oneL (i := 13) rfl (by kernel_rfl) (fun K hK => ?_)
  have HC : Aside0 (Calls Tryz.prog 6 #[.agg #[.bool g0, .slice a0b l0b.length c0b, .slice a0c l0c.length c0c]] w9 (RaPost w9 qa)) := ⟨by rw [Eqa.out]; exact lmake_w g0 (CU_below C0b.out T9.out) S0b.out L0b.out (CU_below C0c.out T9.out) S0c.out L0c.out⟩
  go_simp
  refine HC.out.mono ?_
  clear HC
  rintro e w10 ⟨v_y2, rfl, ⟨A_y2, M_y2, c_y2, B_y2, K_y2, d_y2, rfl, hNA, hNB⟩, hB⟩
  try go_wp2_with fail
  have B10 := Aside0.mk hB
  have T10 := Aside0.mk (T9.out.trans (hB.mono T9.out.size))
  obtain ⟨b_y2, hb_y2⟩ : ∃ b, b = decide (Rat.num qa < 0) := ⟨_, rfl⟩
  try rw [← hb_y2]
  have H_y2 := Aside0.mk (show Ra w10 (.agg #[.bool b_y2, .slice A_y2 M_y2 c_y2, .slice B_y2 K_y2 d_y2]) qa from by unfold Ra; rw [← hb_y2]; exact ⟨_, _, _, _, _, _, rfl, hNA, hNB⟩)
  clear hb_y2 hNA hNB hB
  have U10 := Aside0.mk (U9.out.trans (B10.out.mono U9.out.size))
  refine hK.out _ _ (HS4.out _ U10.out) (fun hHeld => ?_)
  clear hK K
  try simp only [Act.put, List.setIfInBounds_toArray, List.set_cons_zero, List.set_cons_succ]
  refine Inv.takeL (i := 14) (v := ?vsums_11) rfl (by kernel_rfl) (by kernel_rfl) (by kernel_rfl) (fun _ _ _ h => h) (by rfl) ?hysums_11 (by assumption) ?restsums_11
  case hysums_11 => ((intro w hSw; (try dsimp only at hSw); go_simp) <;> with_reducible rfl)
  try simp only [Act.put, List.setIfInBounds_toArray, List.set_cons_zero, List.set_cons_succ]
  refine Inv.oneL (i := 15) rfl (by kernel_rfl) (fun K hK => ?_)
  have HC : Aside0 (Calls Tryz.prog 8 #[] w10 (RaPost w10 (0 : Rat))) := ⟨(szero_w w10).mono fun e w' ⟨v, he, hR, hB⟩ => ⟨v, he, hR, hB⟩⟩
  go_simp
  refine HC.out.mono ?_
  clear HC
  rintro e w11 ⟨v_x3, rfl, ⟨A_x3, M_x3, c_x3, B_x3, K_x3, d_x3, rfl, hNA, hNB⟩, hB⟩
  try go_wp2_with fail
  have B11 := Aside0.mk hB
  have T11 := Aside0.mk (T10.out.trans (hB.mono T10.out.size))
  have H_x3 := Aside0.mk (show Ra w11 (.agg #[.bool false, .slice A_x3 M_x3 c_x3, .slice B_x3 K_x3 d_x3]) (0 : Rat) from ⟨_, _, _, _, _, _, rfl, hNA, hNB⟩)
  clear hNA hNB hB
  have U11 := Aside0.mk (U10.out.trans (B11.out.mono U10.out.size))
  refine hK.out _ _ (HS4.out _ U11.out) (fun hHeld => ?_)
  clear hK K
  try simp only [Act.put, List.setIfInBounds_toArray, List.set_cons_zero, List.set_cons_succ]
  refine Inv.oneL (i := 17) rfl (by kernel_rfl) (fun K hK => ?_)
  have HC : Aside0 (Calls Tryz.prog 6 #[.agg #[.bool g1, .slice a1b l1b.length c1b, .slice a1c l1c.length c1c]] w11 (RaPost w11 qb)) := ⟨by rw [Eqb.out]; exact lmake_w g1 (CU_below C1b.out T11.out) S1b.out L1b.out (CU_below C1c.out T11.out) S1c.out L1c.out⟩
  go_simp
  refine HC.out.mono ?_
  clear HC
  rintro e w12 ⟨v_y3, rfl, ⟨A_y3, M_y3, c_y3, B_y3, K_y3, d_y3, rfl, hNA, hNB⟩, hB⟩
  try go_wp2_with fail
  have B12 := Aside0.mk hB
  have T12 := Aside0.mk (T11.out.trans (hB.mono T11.out.size))
  obtain ⟨b_y3, hb_y3⟩ : ∃ b, b = decide (Rat.num qb < 0) := ⟨_, rfl⟩
  try rw [← hb_y3]
  have H_y3 := Aside0.mk (show Ra w12 (.agg #[.bool b_y3, .slice A_y3 M_y3 c_y3, .slice B_y3 K_y3 d_y3]) qb from by unfold Ra; rw [← hb_y3]; exact ⟨_, _, _, _, _, _, rfl, hNA, hNB⟩)
  clear hb_y3 hNA hNB hB
  have U12 := Aside0.mk (U11.out.trans (B12.out.mono U11.out.size))
  refine hK.out _ _ (HS4.out _ U12.out) (fun hHeld => ?_)
  clear hK K
  try simp only [Act.put, List.setIfInBounds_toArray, List.set_cons_zero, List.set_cons_succ]
  refine Inv.takeL (i := 18) (v := ?vsums_12) rfl (by kernel_rfl) (by kernel_rfl) (by kernel_rfl) (fun _ _ _ h => h) (by rfl) ?hysums_12 (by assumption) ?restsums_12
  case hysums_12 => ((intro w hSw; (try dsimp only at hSw); go_simp) <;> with_reducible rfl)
  try simp only [Act.put, List.setIfInBounds_toArray, List.set_cons_zero, List.set_cons_succ]
  refine Inv.oneL (i := 20) rfl (by kernel_rfl) (fun K hK => ?_)
  have HC : Aside0 (Calls Tryz.prog 6 #[.agg #[.bool g0, .slice a0b l0b.length c0b, .slice a0c l0c.length c0c]] w12 (RaPost w12 qa)) := ⟨by rw [Eqa.out]; exact lmake_w g0 (CU_below C0b.out T12.out) S0b.out L0b.out (CU_below C0c.out T12.out) S0c.out L0c.out⟩
  go_simp
  refine HC.out.mono ?_
  clear HC
  rintro e w13 ⟨v_x4, rfl, ⟨A_x4, M_x4, c_x4, B_x4, K_x4, d_x4, rfl, hNA, hNB⟩, hB⟩
  try go_wp2_with fail
  have B13 := Aside0.mk hB
  have T13 := Aside0.mk (T12.out.trans (hB.mono T12.out.size))
  obtain ⟨b_x4, hb_x4⟩ : ∃ b, b = decide (Rat.num qa < 0) := ⟨_, rfl⟩
  try rw [← hb_x4]
  have H_x4 := Aside0.mk (show Ra w13 (.agg #[.bool b_x4, .slice A_x4 M_x4 c_x4, .slice B_x4 K_x4 d_x4]) qa from by unfold Ra; rw [← hb_x4]; exact ⟨_, _, _, _, _, _, rfl, hNA, hNB⟩)
  clear hb_x4 hNA hNB hB
  have U13 := Aside0.mk (U12.out.trans (B13.out.mono U12.out.size))
  refine hK.out _ _ (HS4.out _ U13.out) (fun hHeld => ?_)
  clear hK K
  try simp only [Act.put, List.setIfInBounds_toArray, List.set_cons_zero, List.set_cons_succ]
  refine Inv.oneL (i := 21) rfl (by kernel_rfl) (fun K hK => ?_)
  have HC : Aside0 (Calls Tryz.prog 8 #[] w13 (RaPost w13 (0 : Rat))) := ⟨(szero_w w13).mono fun e w' ⟨v, he, hR, hB⟩ => ⟨v, he, hR, hB⟩⟩
  go_simp
  refine HC.out.mono ?_
  clear HC
  rintro e w14 ⟨v_y4, rfl, ⟨A_y4, M_y4, c_y4, B_y4, K_y4, d_y4, rfl, hNA, hNB⟩, hB⟩
  try go_wp2_with fail
  have B14 := Aside0.mk hB
  have T14 := Aside0.mk (T13.out.trans (hB.mono T13.out.size))
  have H_y4 := Aside0.mk (show Ra w14 (.agg #[.bool false, .slice A_y4 M_y4 c_y4, .slice B_y4 K_y4 d_y4]) (0 : Rat) from ⟨_, _, _, _, _, _, rfl, hNA, hNB⟩)
  clear hNA hNB hB
  have U14 := Aside0.mk (U13.out.trans (B14.out.mono U13.out.size))
  refine hK.out _ _ (HS4.out _ U14.out) (fun hHeld => ?_)
  clear hK K
  try simp only [Act.put, List.setIfInBounds_toArray, List.set_cons_zero, List.set_cons_succ]
  refine Inv.takeL (i := 22) (v := ?vsums_13) rfl (by kernel_rfl) (by kernel_rfl) (by kernel_rfl) (fun _ _ _ h => h) (by rfl) ?hysums_13 (by assumption) ?restsums_13
  case hysums_13 => ((intro w hSw; (try dsimp only at hSw); go_simp) <;> with_reducible rfl)
  try simp only [Act.put, List.setIfInBounds_toArray, List.set_cons_zero, List.set_cons_succ]
  refine Inv.oneL (i := 23) rfl (by kernel_rfl) (fun K hK => ?_)
  go_simp
  have B15 := Aside0.mk (below_alloc (Below.refl w14.heap.size w14) (.cells #[.bool b_x0, .slice A_x0 M_x0 c_x0, .slice B_x0 K_x0 d_x0, .bool b_y0, .slice A_y0 M_y0 c_y0, .slice B_y0 K_y0 d_y0, .bool b_x1, .slice A_x1 M_x1 c_x1, .slice B_x1 K_x1 d_x1, .bool b_y1, .slice A_y1 M_y1 c_y1, .slice B_y1 K_y1 d_y1, .bool b_x2, .slice A_x2 M_x2 c_x2, .slice B_x2 K_x2 d_x2, .bool b_y2, .slice A_y2 M_y2 c_y2, .slice B_y2 K_y2 d_y2, .bool false, .slice A_x3 M_x3 c_x3, .slice B_x3 K_x3 d_x3, .bool b_y3, .slice A_y3 M_y3 c_y3, .slice B_y3 K_y3 d_y3, .bool b_x4, .slice A_x4 M_x4 c_x4, .slice B_x4 K_x4 d_x4, .bool false, .slice A_y4 M_y4 c_y4, .slice B_y4 K_y4 d_y4] 27))
  have T15 := Aside0.mk (T14.out.trans (B15.out.mono T14.out.size))
  have U15 := Aside0.mk (U14.out.trans (B15.out.mono U14.out.size))
  refine hK.out _ _ (HS4.out _ U15.out) (fun hHeld => ?_)
  clear hK K
  try simp only [Act.put, List.setIfInBounds_toArray, List.set_cons_zero, List.set_cons_succ]
  refine Inv.takeL (i := 24) (v := ?vsums_14) rfl (by kernel_rfl) (by kernel_rfl) (by kernel_rfl) (fun _ _ _ h => h) (by rfl) ?hysums_14 (by assumption) ?restsums_14
  case hysums_14 => ((intro w hSw; (try dsimp only at hSw); go_simp) <;> with_reducible rfl)
  try simp only [Act.put, List.setIfInBounds_toArray, List.set_cons_zero, List.set_cons_succ]
  refine wpAnyH_done (by kernel_rfl) ?_ _
  have HROW : Aside0 (∀ k, k < 5 → ∃ x y u v, PairAt (w14.alloc (.cells #[.bool b_x0, .slice A_x0 M_x0 c_x0, .slice B_x0 K_x0 d_x0, .bool b_y0, .slice A_y0 M_y0 c_y0, .slice B_y0 K_y0 d_y0, .bool b_x1, .slice A_x1 M_x1 c_x1, .slice B_x1 K_x1 d_x1, .bool b_y1, .slice A_y1 M_y1 c_y1, .slice B_y1 K_y1 d_y1, .bool b_x2, .slice A_x2 M_x2 c_x2, .slice B_x2 K_x2 d_x2, .bool b_y2, .slice A_y2 M_y2 c_y2, .slice B_y2 K_y2 d_y2, .bool false, .slice A_x3 M_x3 c_x3, .slice B_x3 K_x3 d_x3, .bool b_y3, .slice A_y3 M_y3 c_y3, .slice B_y3 K_y3 d_y3, .bool b_x4, .slice A_x4 M_x4 c_x4, .slice B_x4 K_x4 d_x4, .bool false, .slice A_y4 M_y4 c_y4, .slice B_y4 K_y4 d_y4] 27)) (w14.heap.size) k x y u v ∧ Ra (w14.alloc (.cells #[.bool b_x0, .slice A_x0 M_x0 c_x0, .slice B_x0 K_x0 d_x0, .bool b_y0, .slice A_y0 M_y0 c_y0, .slice B_y0 K_y0 d_y0, .bool b_x1, .slice A_x1 M_x1 c_x1, .slice B_x1 K_x1 d_x1, .bool b_y1, .slice A_y1 M_y1 c_y1, .slice B_y1 K_y1 d_y1, .bool b_x2, .slice A_x2 M_x2 c_x2, .slice B_x2 K_x2 d_x2, .bool b_y2, .slice A_y2 M_y2 c_y2, .slice B_y2 K_y2 d_y2, .bool false, .slice A_x3 M_x3 c_x3, .slice B_x3 K_x3 d_x3, .bool b_y3, .slice A_y3 M_y3 c_y3, .slice B_y3 K_y3 d_y3, .bool b_x4, .slice A_x4 M_x4 c_x4, .slice B_x4 K_x4 d_x4, .bool false, .slice A_y4 M_y4 c_y4, .slice B_y4 K_y4 d_y4] 27)) u x ∧ Ra (w14.alloc (.cells #[.bool b_x0, .slice A_x0 M_x0 c_x0, .slice B_x0 K_x0 d_x0, .bool b_y0, .slice A_y0 M_y0 c_y0, .slice B_y0 K_y0 d_y0, .bool b_x1, .slice A_x1 M_x1 c_x1, .slice B_x1 K_x1 d_x1, .bool b_y1, .slice A_y1 M_y1 c_y1, .slice B_y1 K_y1 d_y1, .bool b_x2, .slice A_x2 M_x2 c_x2, .slice B_x2 K_x2 d_x2, .bool b_y2, .slice A_y2 M_y2 c_y2, .slice B_y2 K_y2 d_y2, .bool false, .slice A_x3 M_x3 c_x3, .slice B_x3 K_x3 d_x3, .bool b_y3, .slice A_y3 M_y3 c_y3, .slice B_y3 K_y3 d_y3, .bool b_x4, .slice A_x4 M_x4 c_x4, .slice B_x4 K_x4 d_x4, .bool false, .slice A_y4 M_y4 c_y4, .slice B_y4 K_y4 d_y4] 27)) v y ∧ Rb 3 x ∧ Rb 3 y) := ⟨by
    intro k hk
    have : k = 0 ∨ k = 1 ∨ k = 2 ∨ k = 3 ∨ k = 4 := by omega
    rcases this with rfl | rfl | rfl | rfl | rfl
    · exact ⟨_, _, _, _, ⟨_, _, _, _, _, _, _, _, _, _, _, _, _, _, rfl, rfl, ⟨by simp, by simp, by simp⟩, ⟨by simp, by simp, by simp⟩⟩, ((((((((((H_x0.out.below B6.out).below B7.out).below B8.out).below B9.out).below B10.out).below B11.out).below B12.out).below B13.out).below B14.out).below B15.out), (((((((((H_y0.out.below B7.out).below B8.out).below B9.out).below B10.out).below B11.out).below B12.out).below B13.out).below B14.out).below B15.out), Bqa.out, Bqb.out⟩
    · exact ⟨_, _, _, _, ⟨_, _, _, _, _, _, _, _, _, _, _, _, _, _, rfl, rfl, ⟨by simp, by simp, by simp⟩, ⟨by simp, by simp, by simp⟩⟩, ((((((((H_x1.out.below B8.out).below B9.out).below B10.out).below B11.out).below B12.out).below B13.out).below B14.out).below B15.out), (((((((H_y1.out.below B9.out).below B10.out).below B11.out).below B12.out).below B13.out).below B14.out).below B15.out), Bqn.out, Bqm.out⟩
    · exact ⟨_, _, _, _, ⟨_, _, _, _, _, _, _, _, _, _, _, _, _, _, rfl, rfl, ⟨by simp, by simp, by simp⟩, ⟨by simp, by simp, by simp⟩⟩, ((((((H_x2.out.below B10.out).below B11.out).below B12.out).below B13.out).below B14.out).below B15.out), (((((H_y2.out.below B11.out).below B12.out).below B13.out).below B14.out).below B15.out), Bqa.out, Bqa.out⟩
    · exact ⟨_, _, _, _, ⟨_, _, _, _, _, _, _, _, _, _, _, _, _, _, rfl, rfl, ⟨by simp, by simp, by simp⟩, ⟨by simp, by simp, by simp⟩⟩, ((((H_x3.out.below B12.out).below B13.out).below B14.out).below B15.out), (((H_y3.out.below B13.out).below B14.out).below B15.out), rb0, Bqb.out⟩
    · exact ⟨_, _, _, _, ⟨_, _, _, _, _, _, _, _, _, _, _, _, _, _, rfl, rfl, ⟨by simp, by simp, by simp⟩, ⟨by simp, by simp, by simp⟩⟩, ((H_x4.out.below B14.out).below B15.out), (H_y4.out.below B15.out), Bqa.out, rb0⟩⟩
  have HGL := Aside0.mk (show w14.heap.size < (w14.alloc (.cells #[.bool b_x0, .slice A_x0 M_x0 c_x0, .slice B_x0 K_x0 d_x0, .bool b_y0, .slice A_y0 M_y0 c_y0, .slice B_y0 K_y0 d_y0, .bool b_x1, .slice A_x1 M_x1 c_x1, .slice B_x1 K_x1 d_x1, .bool b_y1, .slice A_y1 M_y1 c_y1, .slice B_y1 K_y1 d_y1, .bool b_x2, .slice A_x2 M_x2 c_x2, .slice B_x2 K_x2 d_x2, .bool b_y2, .slice A_y2 M_y2 c_y2, .slice B_y2 K_y2 d_y2, .bool false, .slice A_x3 M_x3 c_x3, .slice B_x3 K_x3 d_x3, .bool b_y3, .slice A_y3 M_y3 c_y3, .slice B_y3 K_y3 d_y3, .bool b_x4, .slice A_x4 M_x4 c_x4, .slice B_x4 K_x4 d_x4, .bool false, .slice A_y4 M_y4 c_y4, .slice B_y4 K_y4 d_y4] 27)).heap.size by simp)
  obtain ⟨W0, hW0⟩ : ∃ W, W = (w14.alloc (.cells #[.bool b_x0, .slice A_x0 M_x0 c_x0, .slice B_x0 K_x0 d_x0, .bool b_y0, .slice A_y0 M_y0 c_y0, .slice B_y0 K_y0 d_y0, .bool b_x1, .slice A_x1 M_x1 c_x1, .slice B_x1 K_x1 d_x1, .bool b_y1, .slice A_y1 M_y1 c_y1, .slice B_y1 K_y1 d_y1, .bool b_x2, .slice A_x2 M_x2 c_x2, .slice B_x2 K_x2 d_x2, .bool b_y2, .slice A_y2 M_y2 c_y2, .slice B_y2 K_y2 d_y2, .bool false, .slice A_x3 M_x3 c_x3, .slice B_x3 K_x3 d_x3, .bool b_y3, .slice A_y3 M_y3 c_y3, .slice B_y3 K_y3 d_y3, .bool b_x4, .slice A_x4 M_x4 c_x4, .slice B_x4 K_x4 d_x4, .bool false, .slice A_y4 M_y4 c_y4, .slice B_y4 K_y4 d_y4] 27)) := ⟨_, rfl⟩
  obtain ⟨gr, hgr⟩ : ∃ q, q = w14.heap.size := ⟨_, rfl⟩
  go_wp2_with fail
  rw [← hW0] at HROW HGL ⊢
  rw [← hgr] at HROW HGL ⊢
  have HTW := Aside0.mk (show Below w.heap.size w W0 by rw [hW0]; exact T15.out)
  clear hW0 hgr
  go_loopw [10] (fun i wr => ∃ k : Nat, k ≤ 5 ∧ i = .int .i64 (k : Int) ∧ Aside0 (Below W0.heap.size W0 wr)) (fun i _ => 5 - (intOf i).toNat)
  case atStart => exact ⟨0, by omega, rfl, ⟨Below.refl _ _⟩⟩
  case round =>
    obtain ⟨k, hk, rfl, HB⟩ := hrel
    by_cases hk5 : k < 5
    · obtain ⟨x, y, u, v, hP, hRx, hRy, hBx, hBy⟩ := HROW.out k hk5
      obtain ⟨b0, b1, A0, L0, c0, D0, M0, d0, A1, L1, c1, D1, M1, d1, rfl, rfl, ⟨k0, k1, k2⟩, ⟨k3, k4, k5⟩⟩ := hP
      have hki : (k : Int) < 5 := by omega
      go_wp2_with fail
      have HSK := Aside0.mk (fun (W : World) (hW : Below wr.heap.size wr W) => show W.cell? ⟨gr, k * 6, none⟩ = some (.bool b0) ∧ W.cell? ⟨gr, k * 6 + 1, none⟩ = some (.slice A0 L0 c0) ∧ W.cell? ⟨gr, k * 6 + 2, none⟩ = some (.slice D0 M0 d0) ∧ W.cell? ⟨gr, k * 6 + 3, none⟩ = some (.bool b1) ∧ W.cell? ⟨gr, k * 6 + 4, none⟩ = some (.slice A1 L1 c1) ∧ W.cell? ⟨gr, k * 6 + 5, none⟩ = some (.slice D1 M1 d1) from by
        have hg := Nat.lt_of_lt_of_le HGL.out HB.out.size
        have e0 : (⟨gr, k * 6, none⟩ : Addr) = ⟨gr, 6 * k, none⟩ := by rw [Nat.mul_comm]
        have e1 : (⟨gr, k * 6 + 1, none⟩ : Addr) = ⟨gr, 6 * k + 1, none⟩ := by rw [Nat.mul_comm]
        have e2 : (⟨gr, k * 6 + 2, none⟩ : Addr) = ⟨gr, 6 * k + 2, none⟩ := by rw [Nat.mul_comm]
        have e3 : (⟨gr, k * 6 + 3, none⟩ : Addr) = ⟨gr, 6 * k + 3, none⟩ := by rw [Nat.mul_comm]
        have e4 : (⟨gr, k * 6 + 4, none⟩ : Addr) = ⟨gr, 6 * k + 4, none⟩ := by rw [Nat.mul_comm]
        have e5 : (⟨gr, k * 6 + 5, none⟩ : Addr) = ⟨gr, 6 * k + 5, none⟩ := by rw [Nat.mul_comm]
        have f0 : W.cell? ⟨gr, k * 6, none⟩ = some (.bool b0) := by rw [e0, hW.cell (p := ⟨gr, 6 * k, none⟩) hg, HB.out.cell (p := ⟨gr, 6 * k, none⟩) HGL.out]; exact k0
        have f1 : W.cell? ⟨gr, k * 6 + 1, none⟩ = some (.slice A0 L0 c0) := by rw [e1, hW.cell (p := ⟨gr, 6 * k + 1, none⟩) hg, HB.out.cell (p := ⟨gr, 6 * k + 1, none⟩) HGL.out]; exact k1
        have f2 : W.cell? ⟨gr, k * 6 + 2, none⟩ = some (.slice D0 M0 d0) := by rw [e2, hW.cell (p := ⟨gr, 6 * k + 2, none⟩) hg, HB.out.cell (p := ⟨gr, 6 * k + 2, none⟩) HGL.out]; exact k2
        have f3 : W.cell? ⟨gr, k * 6 + 3, none⟩ = some (.bool b1) := by rw [e3, hW.cell (p := ⟨gr, 6 * k + 3, none⟩) hg, HB.out.cell (p := ⟨gr, 6 * k + 3, none⟩) HGL.out]; exact k3
        have f4 : W.cell? ⟨gr, k * 6 + 4, none⟩ = some (.slice A1 L1 c1) := by rw [e4, hW.cell (p := ⟨gr, 6 * k + 4, none⟩) hg, HB.out.cell (p := ⟨gr, 6 * k + 4, none⟩) HGL.out]; exact k4
        have f5 : W.cell? ⟨gr, k * 6 + 5, none⟩ = some (.slice D1 M1 d1) := by rw [e5, hW.cell (p := ⟨gr, 6 * k + 5, none⟩) hg, HB.out.cell (p := ⟨gr, 6 * k + 5, none⟩) HGL.out]; exact k5
        exact ⟨f0, f1, f2, f3, f4, f5⟩)
      clear k0 k1 k2 k3 k4 k5
      refine wp_region_held_drew (S := fun W => W.cell? ⟨gr, k * 6, none⟩ = some (.bool b0) ∧ W.cell? ⟨gr, k * 6 + 1, none⟩ = some (.slice A0 L0 c0) ∧ W.cell? ⟨gr, k * 6 + 2, none⟩ = some (.slice D0 M0 d0) ∧ W.cell? ⟨gr, k * 6 + 3, none⟩ = some (.bool b1) ∧ W.cell? ⟨gr, k * 6 + 4, none⟩ = some (.slice A1 L1 c1) ∧ W.cell? ⟨gr, k * 6 + 5, none⟩ = some (.slice D1 M1 d1)) (by kernel_rfl) (HSK.out _ (Below.drew (Below.refl _ _))) (fun hHeld => ?_)
      refine Inv.takeL (i := 0) (v := ?vl7_15) rfl (by kernel_rfl) (by kernel_rfl) (by kernel_rfl) (fun _ _ _ h => h) (by rfl) ?hyl7_15 (by assumption) ?restl7_15
      case hyl7_15 => ((intro w hSw; (try dsimp only at hSw); go_simp) <;> with_reducible rfl)
      try simp only [Act.put, List.setIfInBounds_toArray, List.set_cons_zero, List.set_cons_succ]
      refine Inv.takeL (i := 1) (v := ?vl7_16) rfl (by kernel_rfl) (by kernel_rfl) (by kernel_rfl) (fun _ _ _ h => h) (by rfl) ?hyl7_16 (by assumption) ?restl7_16
      case hyl7_16 => ((intro w hSw; (try dsimp only at hSw); go_simp) <;> with_reducible rfl)
      try simp only [Act.put, List.setIfInBounds_toArray, List.set_cons_zero, List.set_cons_succ]
      refine Inv.takeL (i := 2) (v := ?vl7_17) rfl (by kernel_rfl) (by kernel_rfl) (by kernel_rfl) (fun _ _ _ h => h) (by rfl) ?hyl7_17 (by assumption) ?restl7_17
      case hyl7_17 => ((intro w hSw; (try dsimp only at hSw); go_simp) <;> with_reducible rfl)
      try simp only [Act.put, List.setIfInBounds_toArray, List.set_cons_zero, List.set_cons_succ]
      refine Inv.takeL (i := 3) (v := ?vl7_18) rfl (by kernel_rfl) (by kernel_rfl) (by kernel_rfl) (fun _ _ _ h => h) (by rfl) ?hyl7_18 (by assumption) ?restl7_18
      case hyl7_18 => ((intro w hSw; (try dsimp only at hSw); go_simp) <;> with_reducible rfl)
      try simp only [Act.put, List.setIfInBounds_toArray, List.set_cons_zero, List.set_cons_succ]
      refine Inv.takeL (i := 4) (v := ?vl7_19) rfl (by kernel_rfl) (by kernel_rfl) (by kernel_rfl) (fun _ _ _ h => h) (by rfl) ?hyl7_19 (by assumption) ?restl7_19
      case hyl7_19 => ((intro w hSw; (try dsimp only at hSw); go_simp) <;> with_reducible rfl)
      try simp only [Act.put, List.setIfInBounds_toArray, List.set_cons_zero, List.set_cons_succ]
      refine Inv.takeL (i := 5) (v := ?vl7_20) rfl (by kernel_rfl) (by kernel_rfl) (by kernel_rfl) (fun _ _ _ h => h) (by rfl) ?hyl7_20 (by assumption) ?restl7_20
      case hyl7_20 => ((intro w hSw; (try dsimp only at hSw); go_simp) <;> with_reducible rfl)
      try simp only [Act.put, List.setIfInBounds_toArray, List.set_cons_zero, List.set_cons_succ]
      refine Inv.takeL (i := 6) (v := ?vl7_21) rfl (by kernel_rfl) (by kernel_rfl) (by kernel_rfl) (fun _ _ _ h => h) (by rfl) ?hyl7_21 (by assumption) ?restl7_21
      case hyl7_21 => ((intro w hSw; (try dsimp only at hSw); go_simp) <;> with_reducible rfl)
      try simp only [Act.put, List.setIfInBounds_toArray, List.set_cons_zero, List.set_cons_succ]
      refine Inv.takeL (i := 7) (v := ?vl7_22) rfl (by kernel_rfl) (by kernel_rfl) (by kernel_rfl) (fun _ _ _ h => h) (by rfl) ?hyl7_22 (by assumption) ?restl7_22
      case hyl7_22 => ((intro w hSw; (try dsimp only at hSw); go_simp) <;> with_reducible rfl)
      try simp only [Act.put, List.setIfInBounds_toArray, List.set_cons_zero, List.set_cons_succ]
      refine Inv.takeL (i := 8) (v := ?vl7_23) rfl (by kernel_rfl) (by kernel_rfl) (by kernel_rfl) (fun _ _ _ h => h) (by rfl) ?hyl7_23 (by assumption) ?restl7_23
      case hyl7_23 => ((intro w hSw; (try dsimp only at hSw); go_simp) <;> with_reducible rfl)
      try simp only [Act.put, List.setIfInBounds_toArray, List.set_cons_zero, List.set_cons_succ]
      refine Inv.takeL (i := 9) (v := ?vl7_24) rfl (by kernel_rfl) (by kernel_rfl) (by kernel_rfl) (fun _ _ _ h => h) (by rfl) ?hyl7_24 (by assumption) ?restl7_24
      case hyl7_24 => ((intro w hSw; (try dsimp only at hSw); go_simp) <;> with_reducible rfl)
      try simp only [Act.put, List.setIfInBounds_toArray, List.set_cons_zero, List.set_cons_succ]
      refine two_ends 11 12 (fun p q W => p ≠ q ∧ Aside0 (Blk W p (.bool b0) (.slice A0 L0 c0) (.slice D0 M0 d0)) ∧ Aside0 (Blk W q (.bool b1) (.slice A1 L1 c1) (.slice D1 M1 d1)) ∧ Aside0 (Below wr.heap.size wr W)) ?rest7 ?walk7
      case walk7 =>
        intro hrest
        refine wpAnyH_ready (rs := [10, 11]) (by kernel_rfl) (by simp) (AllReadyH.cons (Inv.at_list rfl) (fun K hK => ?_) (AllReadyH.cons (Inv.at_list rfl) (fun K hK => ?_) AllReadyH.nil))
        ·
          have BA := Aside0.mk (Below.drew (below_alloc (Below.refl wr.heap.size wr) (.cells #[.bool false, .slice none 0 0, .slice none 0 0] 24)))
          have BB := Aside0.mk (Below.drew (below_alloc (below_alloc (Below.refl wr.heap.size wr) (.cells #[.bool false, .slice none 0 0, .slice none 0 0] 24)) (.cells #[.bool false, .slice none 0 0, .slice none 0 0] 24)))
          have HA := Aside0.mk (show Blk (((wr.alloc (.cells #[.bool false, .slice none 0 0, .slice none 0 0] 24)).alloc (.cells #[.bool false, .slice none 0 0, .slice none 0 0] 24)).drew) (wr.heap.size) (.bool false) (.slice none 0 0) (.slice none 0 0) from Blk_drew ((Blk_alloc wr (.bool false) (.slice none 0 0) (.slice none 0 0) 24).below (below_alloc (Below.refl _ _) _)))
          have HB2 := Aside0.mk (show Blk (((wr.alloc (.cells #[.bool false, .slice none 0 0, .slice none 0 0] 24)).alloc (.cells #[.bool false, .slice none 0 0, .slice none 0 0] 24)).drew) (wr.heap.size + 1) (.bool false) (.slice none 0 0) (.slice none 0 0) from Blk_drew (by have h := Blk_alloc (wr.alloc (.cells #[.bool false, .slice none 0 0, .slice none 0 0] 24)) (.bool false) (.slice none 0 0) (.slice none 0 0) 24; simpa using h))
          go_simp
          refine hK.out _ _ (HSK.out _ BA.out) (fun hHeld => ?_)
          clear hK K
          try simp only [Act.put, List.setIfInBounds_toArray, List.set_cons_zero, List.set_cons_succ]
          refine Inv.oneL (i := 11) rfl (by kernel_rfl) (fun K hK => ?_)
          go_simp
          refine hK.out _ _ (HSK.out _ BB.out) (fun hHeld => ?_)
          clear hK K
          try simp only [Act.put, List.setIfInBounds_toArray, List.set_cons_zero, List.set_cons_succ]
          obtain ⟨Wz, hWz⟩ : ∃ W, W = (((wr.alloc (.cells #[.bool false, .slice none 0 0, .slice none 0 0] 24)).alloc (.cells #[.bool false, .slice none 0 0, .slice none 0 0] 24)).drew) := ⟨_, rfl⟩
          rw [← hWz] at HA HB2 BB ⊢
          clear hWz
          have BC := Aside0.mk (below_put3 BB.out (show wr.heap.size ≤ wr.heap.size by omega) (.bool b0) (.slice A0 L0 c0) (.slice D0 M0 d0))
          have BD := Aside0.mk (below_put3 BC.out (show wr.heap.size ≤ wr.heap.size + 1 by omega) (.bool b1) (.slice A1 L1 c1) (.slice D1 M1 d1))
          have HP3 := Aside0.mk (Blk_put3 HA.out (.bool b0) (.slice A0 L0 c0) (.slice D0 M0 d0))
          have HQ3 := Aside0.mk (Blk_put3_far (a := .bool b0) (b := .slice A0 L0 c0) (c := .slice D0 M0 d0) HB2.out (show wr.heap.size ≠ wr.heap.size + 1 by omega))
          have HQ4 := Aside0.mk (Blk_put3 HQ3.out (.bool b1) (.slice A1 L1 c1) (.slice D1 M1 d1))
          have HP4 := Aside0.mk (Blk_put3_far (a := .bool b1) (b := .slice A1 L1 c1) (c := .slice D1 M1 d1) HP3.out (show wr.heap.size + 1 ≠ wr.heap.size by omega))
          refine Inv.oneL (i := 12) rfl (by kernel_rfl) (fun K hK => ?_)
          obtain ⟨⟨z0, z1, z2⟩, y0, y1, y2⟩ := HA.out
          go_simp
          clear z0 z1 z2 y0 y1 y2
          refine hK.out _ _ (HSK.out _ BC.out) (fun hHeld => ?_)
          clear hK K
          try simp only [Act.put, List.setIfInBounds_toArray, List.set_cons_zero, List.set_cons_succ]
          refine Inv.oneL (i := 13) rfl (by kernel_rfl) (fun K hK => ?_)
          obtain ⟨⟨z0, z1, z2⟩, y0, y1, y2⟩ := HQ3.out
          unfold put3 at z0 z1 z2 y0 y1 y2
          go_simp
          clear z0 z1 z2 y0 y1 y2
          refine hK.out _ _ (HSK.out _ BD.out) (fun hHeld => ?_)
          clear hK K
          try simp only [Act.put, List.setIfInBounds_toArray, List.set_cons_zero, List.set_cons_succ]
          refine wpAnyH_done (by kernel_rfl) ?_ _
          have h := hrest.out (wr.heap.size) (wr.heap.size + 1) _ ⟨by omega, HP4, HQ4, BD⟩
          unfold put3 at h
          simp only [Act.put, List.setIfInBounds_toArray, List.set_cons_zero, List.set_cons_succ] at h
          exact h
        ·
          have BA := Aside0.mk (Below.drew (below_alloc (Below.refl wr.heap.size wr) (.cells #[.bool false, .slice none 0 0, .slice none 0 0] 24)))
          have BB := Aside0.mk (Below.drew (below_alloc (below_alloc (Below.refl wr.heap.size wr) (.cells #[.bool false, .slice none 0 0, .slice none 0 0] 24)) (.cells #[.bool false, .slice none 0 0, .slice none 0 0] 24)))
          have HA := Aside0.mk (show Blk (((wr.alloc (.cells #[.bool false, .slice none 0 0, .slice none 0 0] 24)).alloc (.cells #[.bool false, .slice none 0 0, .slice none 0 0] 24)).drew) (wr.heap.size) (.bool false) (.slice none 0 0) (.slice none 0 0) from Blk_drew ((Blk_alloc wr (.bool false) (.slice none 0 0) (.slice none 0 0) 24).below (below_alloc (Below.refl _ _) _)))
          have HB2 := Aside0.mk (show Blk (((wr.alloc (.cells #[.bool false, .slice none 0 0, .slice none 0 0] 24)).alloc (.cells #[.bool false, .slice none 0 0, .slice none 0 0] 24)).drew) (wr.heap.size + 1) (.bool false) (.slice none 0 0) (.slice none 0 0) from Blk_drew (by have h := Blk_alloc (wr.alloc (.cells #[.bool false, .slice none 0 0, .slice none 0 0] 24)) (.bool false) (.slice none 0 0) (.slice none 0 0) 24; simpa using h))
          go_simp
          refine hK.out _ _ (HSK.out _ BA.out) (fun hHeld => ?_)
          clear hK K
          try simp only [Act.put, List.setIfInBounds_toArray, List.set_cons_zero, List.set_cons_succ]
          refine Inv.oneL (i := 10) rfl (by kernel_rfl) (fun K hK => ?_)
          go_simp
          refine hK.out _ _ (HSK.out _ BB.out) (fun hHeld => ?_)
          clear hK K
          try simp only [Act.put, List.setIfInBounds_toArray, List.set_cons_zero, List.set_cons_succ]
          obtain ⟨Wz, hWz⟩ : ∃ W, W = (((wr.alloc (.cells #[.bool false, .slice none 0 0, .slice none 0 0] 24)).alloc (.cells #[.bool false, .slice none 0 0, .slice none 0 0] 24)).drew) := ⟨_, rfl⟩
          rw [← hWz] at HA HB2 BB ⊢
          clear hWz
          have BC := Aside0.mk (below_put3 BB.out (show wr.heap.size ≤ wr.heap.size + 1 by omega) (.bool b0) (.slice A0 L0 c0) (.slice D0 M0 d0))
          have BD := Aside0.mk (below_put3 BC.out (show wr.heap.size ≤ wr.heap.size by omega) (.bool b1) (.slice A1 L1 c1) (.slice D1 M1 d1))
          have HP3 := Aside0.mk (Blk_put3 HB2.out (.bool b0) (.slice A0 L0 c0) (.slice D0 M0 d0))
          have HQ3 := Aside0.mk (Blk_put3_far (a := .bool b0) (b := .slice A0 L0 c0) (c := .slice D0 M0 d0) HA.out (show wr.heap.size + 1 ≠ wr.heap.size by omega))
          have HQ4 := Aside0.mk (Blk_put3 HQ3.out (.bool b1) (.slice A1 L1 c1) (.slice D1 M1 d1))
          have HP4 := Aside0.mk (Blk_put3_far (a := .bool b1) (b := .slice A1 L1 c1) (c := .slice D1 M1 d1) HP3.out (show wr.heap.size ≠ wr.heap.size + 1 by omega))
          refine Inv.oneL (i := 12) rfl (by kernel_rfl) (fun K hK => ?_)
          obtain ⟨⟨z0, z1, z2⟩, y0, y1, y2⟩ := HB2.out
          go_simp
          clear z0 z1 z2 y0 y1 y2
          refine hK.out _ _ (HSK.out _ BC.out) (fun hHeld => ?_)
          clear hK K
          try simp only [Act.put, List.setIfInBounds_toArray, List.set_cons_zero, List.set_cons_succ]
          refine Inv.oneL (i := 13) rfl (by kernel_rfl) (fun K hK => ?_)
          obtain ⟨⟨z0, z1, z2⟩, y0, y1, y2⟩ := HQ3.out
          unfold put3 at z0 z1 z2 y0 y1 y2
          go_simp
          clear z0 z1 z2 y0 y1 y2
          refine hK.out _ _ (HSK.out _ BD.out) (fun hHeld => ?_)
          clear hK K
          try simp only [Act.put, List.setIfInBounds_toArray, List.set_cons_zero, List.set_cons_succ]
          refine wpAnyH_done (by kernel_rfl) ?_ _
          have h := hrest.out (wr.heap.size + 1) (wr.heap.size) _ ⟨by omega, HP4, HQ4, BD⟩
          unfold put3 at h
          simp only [Act.put, List.setIfInBounds_toArray, List.set_cons_zero, List.set_cons_succ] at h
          exact h
      case rest7 =>
        rintro p q w100 ⟨hne, HP, HQ, HB7⟩
        try simp only [Act.put, List.setIfInBounds_toArray, List.set_cons_zero, List.set_cons_succ]
        have T100 := Aside0.mk (HB.out.trans (HB7.out.mono HB.out.size))
        have H_x := Aside0.mk (Ra.below hRx T100.out)
        have X_x := Aside0.mk hBx
        have H_bx_x := HP
        have H_y := Aside0.mk (Ra.below hRy T100.out)
        have X_y := Aside0.mk hBy
        have H_bx_y := HQ
        obtain ⟨Bq, Nq, Dq, kq, hNq, hDq, hq1, hq2⟩ := quo_parts x y hBx hBy
        have HNQ := Aside0.mk hNq
        have HDQ := Aside0.mk hDq
        have HQ1 := Aside0.mk hq1
        have HQ2 := Aside0.mk hq2
        clear hNq hDq hq1 hq2 hRx hRy hBx hBy HP HQ hne
        obtain ⟨se, hse⟩ : ∃ q, q = decide (x = y) := ⟨_, rfl⟩
        have Ese := Aside0.mk hse
        clear hse
        obtain ⟨zc, hzc⟩ : ∃ q, q = cmpQ x y := ⟨_, rfl⟩
        have Ezc := Aside0.mk hzc
        clear hzc
        obtain ⟨nx, hnx⟩ : ∃ q, q = -x := ⟨_, rfl⟩
        have Enx := Aside0.mk hnx
        clear hnx
        obtain ⟨ax, hax⟩ : ∃ q, q = Rat.abs x := ⟨_, rfl⟩
        have Eax := Aside0.mk hax
        clear hax
        obtain ⟨sx, hsx⟩ : ∃ q, q = x + y := ⟨_, rfl⟩
        have Esx := Aside0.mk hsx
        clear hsx
        obtain ⟨dx, hdx⟩ : ∃ q, q = x - y := ⟨_, rfl⟩
        have Edx := Aside0.mk hdx
        clear hdx
        obtain ⟨mx, hmx⟩ : ∃ q, q = x * y := ⟨_, rfl⟩
        have Emx := Aside0.mk hmx
        clear hmx
        have Bnx := Aside0.mk (show Rb 3 nx by rw [Enx.out]; exact neg_bnd X_x.out)
        have Bax := Aside0.mk (show Rb 3 ax by rw [Eax.out]; exact abs_bnd X_x.out)
        have Bsx := Aside0.mk (show Rb 7 sx by rw [Esx.out]; exact add_bnd X_x.out X_y.out (by decide))
        have Bdx := Aside0.mk (show Rb 7 dx by rw [Edx.out]; exact sub_bnd X_x.out X_y.out (by decide))
        have Bmx := Aside0.mk (show Rb 6 mx by rw [Emx.out]; exact mul_bnd X_x.out X_y.out (by decide))
        obtain ⟨⟨hu00, hu01, hu02⟩, _⟩ := H_bx_x.out
        obtain ⟨⟨hu10, hu11, hu12⟩, _⟩ := H_bx_y.out
        have HC : Aside0 (Calls Tryz.prog 9 #[(.agg #[.bool b0, .slice A0 L0 c0, .slice D0 M0 d0]), (.agg #[.bool b1, .slice A1 L1 c1, .slice D1 M1 d1])] w100 (R3PostE w100 Bq (Nq) (Dq) kq)) := ⟨HQ1.out _ _ _ H_x.out H_y.out⟩
        go_wp2_with fail
        refine HC.out.mono ?_
        clear HC
        rintro e w101 ⟨v_q, rfl, ⟨A_q, M_q, c_q, B_q, K_q, d_q, rfl, hNA, hNB⟩, hB⟩
        have B101 := Aside0.mk hB
        have T101 := Aside0.mk (T100.out.trans (hB.mono T100.out.size))
        have NA_q := Aside0.mk hNA
        have NB_q := Aside0.mk hNB
        clear hNA hNB hB
        have H_bx_q := Aside0.mk (Blk_alloc w101 (.bool Bq) (.slice A_q M_q c_q) (.slice B_q K_q d_q) 24)
        have B102 := Aside0.mk (below_alloc (Below.refl w101.heap.size w101) (.cells #[.bool Bq, .slice A_q M_q c_q, .slice B_q K_q d_q] 24))
        have T102 := Aside0.mk (T101.out.trans (B102.out.mono T101.out.size))
        have H_rq := Aside0.mk (show R3 (w101.alloc (.cells #[.bool Bq, .slice A_q M_q c_q, .slice B_q K_q d_q] 24)) (.agg #[(.bool Bq), (.slice A_q M_q c_q), (.slice B_q K_q d_q)]) Bq (Nq) (Dq) from R3.below (show R3 w101 (.agg #[(.bool Bq), (.slice A_q M_q c_q), (.slice B_q K_q d_q)]) Bq (Nq) (Dq) from ⟨_, _, _, _, _, _, rfl, NA_q.out, NB_q.out⟩) (below_alloc (Below.refl _ _) _))
        clear hu00 hu01 hu02 hu10 hu11 hu12
        obtain ⟨⟨hu00, hu01, hu02⟩, _⟩ := ((H_bx_x.out.below B101.out).below B102.out)
        obtain ⟨⟨hu10, hu11, hu12⟩, _⟩ := ((H_bx_y.out.below B101.out).below B102.out)
        have HC : Aside0 (Calls Tryz.prog 10 #[(.agg #[.bool b0, .slice A0 L0 c0, .slice D0 M0 d0]), (.agg #[.bool b1, .slice A1 L1 c1, .slice D1 M1 d1])] (w101.alloc (.cells #[.bool Bq, .slice A_q M_q c_q, .slice B_q K_q d_q] 24)) (R3PostE (w101.alloc (.cells #[.bool Bq, .slice A_q M_q c_q, .slice B_q K_q d_q] 24)) Bq (Nq) (Dq) kq)) := ⟨HQ2.out _ _ _ ((H_x.out.below B101.out).below B102.out) ((H_y.out.below B101.out).below B102.out)⟩
        go_wp2_with fail
        refine HC.out.mono ?_
        clear HC
        rintro e w103 ⟨v_p_, rfl, ⟨A_p_, M_p_, c_p_, B_p_, K_p_, d_p_, rfl, hNA, hNB⟩, hB⟩
        have B103 := Aside0.mk hB
        have T103 := Aside0.mk (T102.out.trans (hB.mono T102.out.size))
        have NA_p_ := Aside0.mk hNA
        have NB_p_ := Aside0.mk hNB
        clear hNA hNB hB
        have H_bx_p_ := Aside0.mk (Blk_alloc w103 (.bool Bq) (.slice A_p_ M_p_ c_p_) (.slice B_p_ K_p_ d_p_) 24)
        have B104 := Aside0.mk (below_alloc (Below.refl w103.heap.size w103) (.cells #[.bool Bq, .slice A_p_ M_p_ c_p_, .slice B_p_ K_p_ d_p_] 24))
        have T104 := Aside0.mk (T103.out.trans (B104.out.mono T103.out.size))
        have H_rp_ := Aside0.mk (show R3 (w103.alloc (.cells #[.bool Bq, .slice A_p_ M_p_ c_p_, .slice B_p_ K_p_ d_p_] 24)) (.agg #[(.bool Bq), (.slice A_p_ M_p_ c_p_), (.slice B_p_ K_p_ d_p_)]) Bq (Nq) (Dq) from R3.below (show R3 w103 (.agg #[(.bool Bq), (.slice A_p_ M_p_ c_p_), (.slice B_p_ K_p_ d_p_)]) Bq (Nq) (Dq) from ⟨_, _, _, _, _, _, rfl, NA_p_.out, NB_p_.out⟩) (below_alloc (Below.refl _ _) _))
        clear hu00 hu01 hu02 hu10 hu11 hu12
        go_wp2_with fail
        have B105 := Aside0.mk (Below.drew (Below.refl (w103.alloc (.cells #[.bool Bq, .slice A_p_ M_p_ c_p_, .slice B_p_ K_p_ d_p_] 24)).heap.size (w103.alloc (.cells #[.bool Bq, .slice A_p_ M_p_ c_p_, .slice B_p_ K_p_ d_p_] 24))))
        have T105 := Aside0.mk (T104.out.trans (B105.out.mono T104.out.size))
        have HS105 := Aside0.mk (fun (W : World) (hW : Below ((w103.alloc (.cells #[.bool Bq, .slice A_p_ M_p_ c_p_, .slice B_p_ K_p_ d_p_] 24)).drew).heap.size ((w103.alloc (.cells #[.bool Bq, .slice A_p_ M_p_ c_p_, .slice B_p_ K_p_ d_p_] 24)).drew) W) => show W.cell? ⟨p, 0, none⟩ = some (.bool b0) ∧ W.cell? ⟨p, 1, none⟩ = some (.slice A0 L0 c0) ∧ W.cell? ⟨p, 2, none⟩ = some (.slice D0 M0 d0) ∧ W.cell? ⟨q, 0, none⟩ = some (.bool b1) ∧ W.cell? ⟨q, 1, none⟩ = some (.slice A1 L1 c1) ∧ W.cell? ⟨q, 2, none⟩ = some (.slice D1 M1 d1) ∧ W.cell? ⟨w101.heap.size, 0, none⟩ = some (.bool Bq) ∧ W.cell? ⟨w101.heap.size, 1, none⟩ = some (.slice A_q M_q c_q) ∧ W.cell? ⟨w101.heap.size, 2, none⟩ = some (.slice B_q K_q d_q) ∧ W.cell? ⟨w103.heap.size, 0, none⟩ = some (.bool Bq) ∧ W.cell? ⟨w103.heap.size, 1, none⟩ = some (.slice A_p_ M_p_ c_p_) ∧ W.cell? ⟨w103.heap.size, 2, none⟩ = some (.slice B_p_ K_p_ d_p_) from ⟨((((((H_bx_x.out.below B101.out).below B102.out).below B103.out).below B104.out).below B105.out).below hW).1.1, ((((((H_bx_x.out.below B101.out).below B102.out).below B103.out).below B104.out).below B105.out).below hW).1.2.1, ((((((H_bx_x.out.below B101.out).below B102.out).below B103.out).below B104.out).below B105.out).below hW).1.2.2, ((((((H_bx_y.out.below B101.out).below B102.out).below B103.out).below B104.out).below B105.out).below hW).1.1, ((((((H_bx_y.out.below B101.out).below B102.out).below B103.out).below B104.out).below B105.out).below hW).1.2.1, ((((((H_bx_y.out.below B101.out).below B102.out).below B103.out).below B104.out).below B105.out).below hW).1.2.2, ((((H_bx_q.out.below B103.out).below B104.out).below B105.out).below hW).1.1, ((((H_bx_q.out.below B103.out).below B104.out).below B105.out).below hW).1.2.1, ((((H_bx_q.out.below B103.out).below B104.out).below B105.out).below hW).1.2.2, ((H_bx_p_.out.below B105.out).below hW).1.1, ((H_bx_p_.out.below B105.out).below hW).1.2.1, ((H_bx_p_.out.below B105.out).below hW).1.2.2⟩)
        have U105 := Aside0.mk (Below.refl ((w103.alloc (.cells #[.bool Bq, .slice A_p_ M_p_ c_p_, .slice B_p_ K_p_ d_p_] 24)).drew).heap.size ((w103.alloc (.cells #[.bool Bq, .slice A_p_ M_p_ c_p_, .slice B_p_ K_p_ d_p_] 24)).drew))
        refine wp_region_held_drew (S := fun W => W.cell? ⟨p, 0, none⟩ = some (.bool b0) ∧ W.cell? ⟨p, 1, none⟩ = some (.slice A0 L0 c0) ∧ W.cell? ⟨p, 2, none⟩ = some (.slice D0 M0 d0) ∧ W.cell? ⟨q, 0, none⟩ = some (.bool b1) ∧ W.cell? ⟨q, 1, none⟩ = some (.slice A1 L1 c1) ∧ W.cell? ⟨q, 2, none⟩ = some (.slice D1 M1 d1) ∧ W.cell? ⟨w101.heap.size, 0, none⟩ = some (.bool Bq) ∧ W.cell? ⟨w101.heap.size, 1, none⟩ = some (.slice A_q M_q c_q) ∧ W.cell? ⟨w101.heap.size, 2, none⟩ = some (.slice B_q K_q d_q) ∧ W.cell? ⟨w103.heap.size, 0, none⟩ = some (.bool Bq) ∧ W.cell? ⟨w103.heap.size, 1, none⟩ = some (.slice A_p_ M_p_ c_p_) ∧ W.cell? ⟨w103.heap.size, 2, none⟩ = some (.slice B_p_ K_p_ d_p_)) (by kernel_rfl) (HS105.out _ (Below.refl _ _)) (fun hHeld => ?_)
        refine Inv.takeL (i := 0) (v := ?vsums_25) rfl (by kernel_rfl) (by kernel_rfl) (by kernel_rfl) (fun _ _ _ h => h) (by rfl) ?hysums_25 (by assumption) ?restsums_25
        case hysums_25 => ((intro w hSw; (try dsimp only at hSw); go_simp) <;> with_reducible rfl)
        try simp only [Act.put, List.setIfInBounds_toArray, List.set_cons_zero, List.set_cons_succ]
        refine Inv.takeL (i := 1) (v := ?vsums_26) rfl (by kernel_rfl) (by kernel_rfl) (by kernel_rfl) (fun _ _ _ h => h) (by rfl) ?hysums_26 (by assumption) ?restsums_26
        case hysums_26 => ((intro w hSw; (try dsimp only at hSw); go_simp) <;> with_reducible rfl)
        try simp only [Act.put, List.setIfInBounds_toArray, List.set_cons_zero, List.set_cons_succ]
        refine Inv.takeL (i := 3) (v := ?vsums_27) rfl (by kernel_rfl) (by kernel_rfl) (by kernel_rfl) (fun _ _ _ h => h) (by rfl) ?hysums_27 (by assumption) ?restsums_27
        case hysums_27 => ((intro w hSw; (try dsimp only at hSw); go_simp) <;> with_reducible rfl)
        try simp only [Act.put, List.setIfInBounds_toArray, List.set_cons_zero, List.set_cons_succ]
        refine Inv.takeL (i := 4) (v := ?vsums_28) rfl (by kernel_rfl) (by kernel_rfl) (by kernel_rfl) (fun _ _ _ h => h) (by rfl) ?hysums_28 (by assumption) ?restsums_28
        case hysums_28 => ((intro w hSw; (try dsimp only at hSw); go_simp) <;> with_reducible rfl)
        try simp only [Act.put, List.setIfInBounds_toArray, List.set_cons_zero, List.set_cons_succ]
        refine Inv.oneL (i := 2) rfl (by kernel_rfl) (fun K hK => ?_)
        have HC : Aside0 (Calls Tryz.prog 11 #[(.agg #[.bool b0, .slice A0 L0 c0, .slice D0 M0 d0]), (.agg #[.bool b1, .slice A1 L1 c1, .slice D1 M1 d1])] ((w103.alloc (.cells #[.bool Bq, .slice A_p_ M_p_ c_p_, .slice B_p_ K_p_ d_p_] 24)).drew) (BoolPost ((w103.alloc (.cells #[.bool Bq, .slice A_p_ M_p_ c_p_, .slice B_p_ K_p_ d_p_] 24)).drew) se)) := ⟨by rw [Ese.out]; exact qsameR (((((H_x.out.below B101.out).below B102.out).below B103.out).below B104.out).below B105.out) (((((H_y.out.below B101.out).below B102.out).below B103.out).below B104.out).below B105.out) (X_x.out.le (by decide)) (X_y.out.le (by decide))⟩
        go_simp
        refine HC.out.mono ?_
        clear HC
        rintro e w106 ⟨rfl, hB⟩
        try go_wp2_with fail
        have B106 := Aside0.mk hB
        have T106 := Aside0.mk (T105.out.trans (hB.mono T105.out.size))
        clear hB
        have U106 := Aside0.mk (U105.out.trans (B106.out.mono U105.out.size))
        refine hK.out _ _ (HS105.out _ U106.out) (fun hHeld => ?_)
        clear hK K
        try simp only [Act.put, List.setIfInBounds_toArray, List.set_cons_zero, List.set_cons_succ]
        refine Inv.oneL (i := 5) rfl (by kernel_rfl) (fun K hK => ?_)
        have HC : Aside0 (Calls Tryz.prog 12 #[(.agg #[.bool b0, .slice A0 L0 c0, .slice D0 M0 d0]), (.agg #[.bool b1, .slice A1 L1 c1, .slice D1 M1 d1])] w106 (BoolPost w106 se)) := ⟨by rw [Ese.out]; exact ssameX ((((((H_x.out.below B101.out).below B102.out).below B103.out).below B104.out).below B105.out).below B106.out) ((((((H_y.out.below B101.out).below B102.out).below B103.out).below B104.out).below B105.out).below B106.out) (X_x.out.le (by decide)) (X_y.out.le (by decide))⟩
        go_simp
        refine HC.out.mono ?_
        clear HC
        rintro e w107 ⟨rfl, hB⟩
        try go_wp2_with fail
        have B107 := Aside0.mk hB
        have T107 := Aside0.mk (T106.out.trans (hB.mono T106.out.size))
        clear hB
        have U107 := Aside0.mk (U106.out.trans (B107.out.mono U106.out.size))
        refine hK.out _ _ (HS105.out _ U107.out) (fun hHeld => ?_)
        clear hK K
        try simp only [Act.put, List.setIfInBounds_toArray, List.set_cons_zero, List.set_cons_succ]
        refine Inv.takeL (i := 6) (v := ?vsums_29) rfl (by kernel_rfl) (by kernel_rfl) (by kernel_rfl) (fun _ _ _ h => h) (by rfl) ?hysums_29 (by assumption) ?restsums_29
        case hysums_29 => ((intro w hSw; (try dsimp only at hSw); go_simp) <;> with_reducible rfl)
        try simp only [Act.put, List.setIfInBounds_toArray, List.set_cons_zero, List.set_cons_succ]
        refine Inv.takeL (i := 7) (v := ?vsums_30) rfl (by kernel_rfl) (by kernel_rfl) (by kernel_rfl) (fun _ _ _ h => h) (by rfl) ?hysums_30 (by assumption) ?restsums_30
        case hysums_30 => ((intro w hSw; (try dsimp only at hSw); go_simp) <;> with_reducible rfl)
        try simp only [Act.put, List.setIfInBounds_toArray, List.set_cons_zero, List.set_cons_succ]
        refine Inv.takeL (i := 8) (v := ?vsums_31) rfl (by kernel_rfl) (by kernel_rfl) (by kernel_rfl) (fun _ _ _ h => h) (by rfl) ?hysums_31 (by assumption) ?restsums_31
        case hysums_31 => ((intro w hSw; (try dsimp only at hSw); go_simp) <;> with_reducible rfl)
        try simp only [Act.put, List.setIfInBounds_toArray, List.set_cons_zero, List.set_cons_succ]
        refine Inv.takeL (i := 9) (v := ?vsums_32) rfl (by kernel_rfl) (by kernel_rfl) (by kernel_rfl) (fun _ _ _ h => h) (by rfl) ?hysums_32 (by assumption) ?restsums_32
        case hysums_32 => ((intro w hSw; (try dsimp only at hSw); go_simp) <;> with_reducible rfl)
        try simp only [Act.put, List.setIfInBounds_toArray, List.set_cons_zero, List.set_cons_succ]
        refine Inv.takeL (i := 11) (v := ?vsums_33) rfl (by kernel_rfl) (by kernel_rfl) (by kernel_rfl) (fun _ _ _ h => h) (by rfl) ?hysums_33 (by assumption) ?restsums_33
        case hysums_33 => ((intro w hSw; (try dsimp only at hSw); go_simp) <;> with_reducible rfl)
        try simp only [Act.put, List.setIfInBounds_toArray, List.set_cons_zero, List.set_cons_succ]
        refine Inv.takeL (i := 12) (v := ?vsums_34) rfl (by kernel_rfl) (by kernel_rfl) (by kernel_rfl) (fun _ _ _ h => h) (by rfl) ?hysums_34 (by assumption) ?restsums_34
        case hysums_34 => ((intro w hSw; (try dsimp only at hSw); go_simp) <;> with_reducible rfl)
        try simp only [Act.put, List.setIfInBounds_toArray, List.set_cons_zero, List.set_cons_succ]
        refine Inv.oneL (i := 10) rfl (by kernel_rfl) (fun K hK => ?_)
        have HC : Aside0 (Calls Tryz.prog 13 #[(.agg #[.bool b0, .slice A0 L0 c0, .slice D0 M0 d0]), (.agg #[.bool b1, .slice A1 L1 c1, .slice D1 M1 d1])] w107 (IntPost w107 zc)) := ⟨by rw [Ezc.out]; exact qcmpR (((((((H_x.out.below B101.out).below B102.out).below B103.out).below B104.out).below B105.out).below B106.out).below B107.out) (((((((H_y.out.below B101.out).below B102.out).below B103.out).below B104.out).below B105.out).below B106.out).below B107.out) (X_x.out.le (by decide)) (X_y.out.le (by decide))⟩
        go_simp
        refine HC.out.mono ?_
        clear HC
        rintro e w108 ⟨rfl, hB⟩
        try go_wp2_with fail
        have B108 := Aside0.mk hB
        have T108 := Aside0.mk (T107.out.trans (hB.mono T107.out.size))
        clear hB
        have U108 := Aside0.mk (U107.out.trans (B108.out.mono U107.out.size))
        refine hK.out _ _ (HS105.out _ U108.out) (fun hHeld => ?_)
        clear hK K
        try simp only [Act.put, List.setIfInBounds_toArray, List.set_cons_zero, List.set_cons_succ]
        refine Inv.oneL (i := 13) rfl (by kernel_rfl) (fun K hK => ?_)
        have HC : Aside0 (Calls Tryz.prog 14 #[(.agg #[.bool b0, .slice A0 L0 c0, .slice D0 M0 d0]), (.agg #[.bool b1, .slice A1 L1 c1, .slice D1 M1 d1])] w108 (IntPost w108 zc)) := ⟨by rw [Ezc.out]; exact scmpR ((((((((H_x.out.below B101.out).below B102.out).below B103.out).below B104.out).below B105.out).below B106.out).below B107.out).below B108.out) ((((((((H_y.out.below B101.out).below B102.out).below B103.out).below B104.out).below B105.out).below B106.out).below B107.out).below B108.out) (X_x.out.le (by decide)) (X_y.out.le (by decide))⟩
        go_simp
        refine HC.out.mono ?_
        clear HC
        rintro e w109 ⟨rfl, hB⟩
        try go_wp2_with fail
        have B109 := Aside0.mk hB
        have T109 := Aside0.mk (T108.out.trans (hB.mono T108.out.size))
        clear hB
        have U109 := Aside0.mk (U108.out.trans (B109.out.mono U108.out.size))
        refine hK.out _ _ (HS105.out _ U109.out) (fun hHeld => ?_)
        clear hK K
        try simp only [Act.put, List.setIfInBounds_toArray, List.set_cons_zero, List.set_cons_succ]
        refine Inv.takeL (i := 14) (v := ?vsums_35) rfl (by kernel_rfl) (by kernel_rfl) (by kernel_rfl) (fun _ _ _ h => h) (by rfl) ?hysums_35 (by assumption) ?restsums_35
        case hysums_35 => ((intro w hSw; (try dsimp only at hSw); go_simp) <;> with_reducible rfl)
        try simp only [Act.put, List.setIfInBounds_toArray, List.set_cons_zero, List.set_cons_succ]
        refine Inv.takeL (i := 15) (v := ?vsums_36) rfl (by kernel_rfl) (by kernel_rfl) (by kernel_rfl) (fun _ _ _ h => h) (by rfl) ?hysums_36 (by assumption) ?restsums_36
        case hysums_36 => ((intro w hSw; (try dsimp only at hSw); go_simp) <;> with_reducible rfl)
        try simp only [Act.put, List.setIfInBounds_toArray, List.set_cons_zero, List.set_cons_succ]
        refine Inv.takeL (i := 16) (v := ?vsums_37) rfl (by kernel_rfl) (by kernel_rfl) (by kernel_rfl) (fun _ _ _ h => h) (by rfl) ?hysums_37 (by assumption) ?restsums_37
        case hysums_37 => ((intro w hSw; (try dsimp only at hSw); go_simp) <;> with_reducible rfl)
        try simp only [Act.put, List.setIfInBounds_toArray, List.set_cons_zero, List.set_cons_succ]
        refine Inv.takeL (i := 17) (v := ?vsums_38) rfl (by kernel_rfl) (by kernel_rfl) (by kernel_rfl) (fun _ _ _ h => h) (by rfl) ?hysums_38 (by assumption) ?restsums_38
        case hysums_38 => ((intro w hSw; (try dsimp only at hSw); go_simp) <;> with_reducible rfl)
        try simp only [Act.put, List.setIfInBounds_toArray, List.set_cons_zero, List.set_cons_succ]
        refine Inv.takeL (i := 19) (v := ?vsums_39) rfl (by kernel_rfl) (by kernel_rfl) (by kernel_rfl) (fun _ _ _ h => h) (by rfl) ?hysums_39 (by assumption) ?restsums_39
        case hysums_39 => ((intro w hSw; (try dsimp only at hSw); go_simp) <;> with_reducible rfl)
        try simp only [Act.put, List.setIfInBounds_toArray, List.set_cons_zero, List.set_cons_succ]
        refine Inv.oneL (i := 18) rfl (by kernel_rfl) (fun K hK => ?_)
        have HC : Aside0 (Calls Tryz.prog 15 #[(.agg #[.bool b0, .slice A0 L0 c0, .slice D0 M0 d0])] w109 (RaPost w109 nx)) := ⟨by rw [Enx.out]; exact qnegR (((((((((H_x.out.below B101.out).below B102.out).below B103.out).below B104.out).below B105.out).below B106.out).below B107.out).below B108.out).below B109.out) (X_x.out.le (by decide))⟩
        go_simp
        refine HC.out.mono ?_
        clear HC
        rintro e w110 ⟨v_n1, rfl, hN, hB⟩
        try go_wp2_with fail
        have B110 := Aside0.mk hB
        have T110 := Aside0.mk (T109.out.trans (hB.mono T109.out.size))
        have H_n1 := Aside0.mk hN
        clear hN hB
        have U110 := Aside0.mk (U109.out.trans (B110.out.mono U109.out.size))
        refine hK.out _ _ (HS105.out _ U110.out) (fun hHeld => ?_)
        clear hK K
        try simp only [Act.put, List.setIfInBounds_toArray, List.set_cons_zero, List.set_cons_succ]
        refine Inv.oneL (i := 20) rfl (by kernel_rfl) (fun K hK => ?_)
        have HC : Aside0 (Calls Tryz.prog 16 #[(.agg #[.bool b0, .slice A0 L0 c0, .slice D0 M0 d0])] w110 (RaPost w110 nx)) := ⟨by rw [Enx.out]; exact snegR ((((((((((H_x.out.below B101.out).below B102.out).below B103.out).below B104.out).below B105.out).below B106.out).below B107.out).below B108.out).below B109.out).below B110.out) (X_x.out.le (by decide))⟩
        go_simp
        refine HC.out.mono ?_
        clear HC
        rintro e w111 ⟨v_n2, rfl, hN, hB⟩
        try go_wp2_with fail
        have B111 := Aside0.mk hB
        have T111 := Aside0.mk (T110.out.trans (hB.mono T110.out.size))
        have H_n2 := Aside0.mk hN
        clear hN hB
        have U111 := Aside0.mk (U110.out.trans (B111.out.mono U110.out.size))
        refine hK.out _ _ (HS105.out _ U111.out) (fun hHeld => ?_)
        clear hK K
        try simp only [Act.put, List.setIfInBounds_toArray, List.set_cons_zero, List.set_cons_succ]
        refine Inv.oneL (i := 21) rfl (by kernel_rfl) (fun K hK => ?_)
        have HC : Aside0 (Calls Tryz.prog 12 #[v_n1, v_n2] w111 (TruePost w111)) := ⟨ssame_w (H_n1.out.below B111.out) H_n2.out (pw_lt1000 Bnx.out.1 (by omega)) (pw_lt1000 Bnx.out.2 (by omega))⟩
        go_simp
        refine HC.out.mono ?_
        clear HC
        rintro e w112 ⟨rfl, hB⟩
        try go_wp2_with fail
        have B112 := Aside0.mk hB
        have T112 := Aside0.mk (T111.out.trans (hB.mono T111.out.size))
        clear hB
        have U112 := Aside0.mk (U111.out.trans (B112.out.mono U111.out.size))
        refine hK.out _ _ (HS105.out _ U112.out) (fun hHeld => ?_)
        clear hK K
        try simp only [Act.put, List.setIfInBounds_toArray, List.set_cons_zero, List.set_cons_succ]
        refine Inv.takeL (i := 22) (v := ?vsums_40) rfl (by kernel_rfl) (by kernel_rfl) (by kernel_rfl) (fun _ _ _ h => h) (by rfl) ?hysums_40 (by assumption) ?restsums_40
        case hysums_40 => ((intro w hSw; (try dsimp only at hSw); go_simp) <;> with_reducible rfl)
        try simp only [Act.put, List.setIfInBounds_toArray, List.set_cons_zero, List.set_cons_succ]
        refine Inv.takeL (i := 23) (v := ?vsums_41) rfl (by kernel_rfl) (by kernel_rfl) (by kernel_rfl) (fun _ _ _ h => h) (by rfl) ?hysums_41 (by assumption) ?restsums_41
        case hysums_41 => ((intro w hSw; (try dsimp only at hSw); go_simp) <;> with_reducible rfl)
        try simp only [Act.put, List.setIfInBounds_toArray, List.set_cons_zero, List.set_cons_succ]
        refine Inv.takeL (i := 24) (v := ?vsums_42) rfl (by kernel_rfl) (by kernel_rfl) (by kernel_rfl) (fun _ _ _ h => h) (by rfl) ?hysums_42 (by assumption) ?restsums_42
        case hysums_42 => ((intro w hSw; (try dsimp only at hSw); go_simp) <;> with_reducible rfl)
        try simp only [Act.put, List.setIfInBounds_toArray, List.set_cons_zero, List.set_cons_succ]
        refine Inv.takeL (i := 25) (v := ?vsums_43) rfl (by kernel_rfl) (by kernel_rfl) (by kernel_rfl) (fun _ _ _ h => h) (by rfl) ?hysums_43 (by assumption) ?restsums_43
        case hysums_43 => ((intro w hSw; (try dsimp only at hSw); go_simp) <;> with_reducible rfl)
        try simp only [Act.put, List.setIfInBounds_toArray, List.set_cons_zero, List.set_cons_succ]
        refine Inv.takeL (i := 27) (v := ?vsums_44) rfl (by kernel_rfl) (by kernel_rfl) (by kernel_rfl) (fun _ _ _ h => h) (by rfl) ?hysums_44 (by assumption) ?restsums_44
        case hysums_44 => ((intro w hSw; (try dsimp only at hSw); go_simp) <;> with_reducible rfl)
        try simp only [Act.put, List.setIfInBounds_toArray, List.set_cons_zero, List.set_cons_succ]
        refine Inv.oneL (i := 26) rfl (by kernel_rfl) (fun K hK => ?_)
        have HC : Aside0 (Calls Tryz.prog 17 #[(.agg #[.bool b0, .slice A0 L0 c0, .slice D0 M0 d0])] w112 (RaPost w112 ax)) := ⟨by rw [Eax.out]; exact qabsR ((((((((((((H_x.out.below B101.out).below B102.out).below B103.out).below B104.out).below B105.out).below B106.out).below B107.out).below B108.out).below B109.out).below B110.out).below B111.out).below B112.out) (X_x.out.le (by decide))⟩
        go_simp
        refine HC.out.mono ?_
        clear HC
        rintro e w113 ⟨v_a1, rfl, hN, hB⟩
        try go_wp2_with fail
        have B113 := Aside0.mk hB
        have T113 := Aside0.mk (T112.out.trans (hB.mono T112.out.size))
        have H_a1 := Aside0.mk hN
        clear hN hB
        have U113 := Aside0.mk (U112.out.trans (B113.out.mono U112.out.size))
        refine hK.out _ _ (HS105.out _ U113.out) (fun hHeld => ?_)
        clear hK K
        try simp only [Act.put, List.setIfInBounds_toArray, List.set_cons_zero, List.set_cons_succ]
        refine Inv.oneL (i := 28) rfl (by kernel_rfl) (fun K hK => ?_)
        have HC : Aside0 (Calls Tryz.prog 18 #[(.agg #[.bool b0, .slice A0 L0 c0, .slice D0 M0 d0])] w113 (RaPost w113 ax)) := ⟨by rw [Eax.out]; exact sabsR (((((((((((((H_x.out.below B101.out).below B102.out).below B103.out).below B104.out).below B105.out).below B106.out).below B107.out).below B108.out).below B109.out).below B110.out).below B111.out).below B112.out).below B113.out) (X_x.out.le (by decide))⟩
        go_simp
        refine HC.out.mono ?_
        clear HC
        rintro e w114 ⟨v_a2, rfl, hN, hB⟩
        try go_wp2_with fail
        have B114 := Aside0.mk hB
        have T114 := Aside0.mk (T113.out.trans (hB.mono T113.out.size))
        have H_a2 := Aside0.mk hN
        clear hN hB
        have U114 := Aside0.mk (U113.out.trans (B114.out.mono U113.out.size))
        refine hK.out _ _ (HS105.out _ U114.out) (fun hHeld => ?_)
        clear hK K
        try simp only [Act.put, List.setIfInBounds_toArray, List.set_cons_zero, List.set_cons_succ]
        refine Inv.oneL (i := 29) rfl (by kernel_rfl) (fun K hK => ?_)
        have HC : Aside0 (Calls Tryz.prog 12 #[v_a1, v_a2] w114 (TruePost w114)) := ⟨ssame_w (H_a1.out.below B114.out) H_a2.out (pw_lt1000 Bax.out.1 (by omega)) (pw_lt1000 Bax.out.2 (by omega))⟩
        go_simp
        refine HC.out.mono ?_
        clear HC
        rintro e w115 ⟨rfl, hB⟩
        try go_wp2_with fail
        have B115 := Aside0.mk hB
        have T115 := Aside0.mk (T114.out.trans (hB.mono T114.out.size))
        clear hB
        have U115 := Aside0.mk (U114.out.trans (B115.out.mono U114.out.size))
        refine hK.out _ _ (HS105.out _ U115.out) (fun hHeld => ?_)
        clear hK K
        try simp only [Act.put, List.setIfInBounds_toArray, List.set_cons_zero, List.set_cons_succ]
        refine Inv.takeL (i := 30) (v := ?vsums_45) rfl (by kernel_rfl) (by kernel_rfl) (by kernel_rfl) (fun _ _ _ h => h) (by rfl) ?hysums_45 (by assumption) ?restsums_45
        case hysums_45 => ((intro w hSw; (try dsimp only at hSw); go_simp) <;> with_reducible rfl)
        try simp only [Act.put, List.setIfInBounds_toArray, List.set_cons_zero, List.set_cons_succ]
        refine Inv.takeL (i := 31) (v := ?vsums_46) rfl (by kernel_rfl) (by kernel_rfl) (by kernel_rfl) (fun _ _ _ h => h) (by rfl) ?hysums_46 (by assumption) ?restsums_46
        case hysums_46 => ((intro w hSw; (try dsimp only at hSw); go_simp) <;> with_reducible rfl)
        try simp only [Act.put, List.setIfInBounds_toArray, List.set_cons_zero, List.set_cons_succ]
        refine Inv.takeL (i := 32) (v := ?vsums_47) rfl (by kernel_rfl) (by kernel_rfl) (by kernel_rfl) (fun _ _ _ h => h) (by rfl) ?hysums_47 (by assumption) ?restsums_47
        case hysums_47 => ((intro w hSw; (try dsimp only at hSw); go_simp) <;> with_reducible rfl)
        try simp only [Act.put, List.setIfInBounds_toArray, List.set_cons_zero, List.set_cons_succ]
        refine Inv.takeL (i := 33) (v := ?vsums_48) rfl (by kernel_rfl) (by kernel_rfl) (by kernel_rfl) (fun _ _ _ h => h) (by rfl) ?hysums_48 (by assumption) ?restsums_48
        case hysums_48 => ((intro w hSw; (try dsimp only at hSw); go_simp) <;> with_reducible rfl)
        try simp only [Act.put, List.setIfInBounds_toArray, List.set_cons_zero, List.set_cons_succ]
        refine Inv.takeL (i := 34) (v := ?vsums_49) rfl (by kernel_rfl) (by kernel_rfl) (by kernel_rfl) (fun _ _ _ h => h) (by rfl) ?hysums_49 (by assumption) ?restsums_49
        case hysums_49 => ((intro w hSw; (try dsimp only at hSw); go_simp) <;> with_reducible rfl)
        try simp only [Act.put, List.setIfInBounds_toArray, List.set_cons_zero, List.set_cons_succ]
        refine Inv.takeL (i := 36) (v := ?vsums_50) rfl (by kernel_rfl) (by kernel_rfl) (by kernel_rfl) (fun _ _ _ h => h) (by rfl) ?hysums_50 (by assumption) ?restsums_50
        case hysums_50 => ((intro w hSw; (try dsimp only at hSw); go_simp) <;> with_reducible rfl)
        try simp only [Act.put, List.setIfInBounds_toArray, List.set_cons_zero, List.set_cons_succ]
        refine Inv.takeL (i := 37) (v := ?vsums_51) rfl (by kernel_rfl) (by kernel_rfl) (by kernel_rfl) (fun _ _ _ h => h) (by rfl) ?hysums_51 (by assumption) ?restsums_51
        case hysums_51 => ((intro w hSw; (try dsimp only at hSw); go_simp) <;> with_reducible rfl)
        try simp only [Act.put, List.setIfInBounds_toArray, List.set_cons_zero, List.set_cons_succ]
        refine Inv.oneL (i := 35) rfl (by kernel_rfl) (fun K hK => ?_)
        have HC : Aside0 (Calls Tryz.prog 19 #[(.agg #[.bool b0, .slice A0 L0 c0, .slice D0 M0 d0]), (.agg #[.bool b1, .slice A1 L1 c1, .slice D1 M1 d1])] w115 (RaPost w115 sx)) := ⟨by rw [Esx.out]; exact qaddR (((((((((((((((H_x.out.below B101.out).below B102.out).below B103.out).below B104.out).below B105.out).below B106.out).below B107.out).below B108.out).below B109.out).below B110.out).below B111.out).below B112.out).below B113.out).below B114.out).below B115.out) (((((((((((((((H_y.out.below B101.out).below B102.out).below B103.out).below B104.out).below B105.out).below B106.out).below B107.out).below B108.out).below B109.out).below B110.out).below B111.out).below B112.out).below B113.out).below B114.out).below B115.out) (X_x.out.le (by decide)) (X_y.out.le (by decide))⟩
        go_simp
        refine HC.out.mono ?_
        clear HC
        rintro e w116 ⟨v_s1, rfl, hN, hB⟩
        try go_wp2_with fail
        have B116 := Aside0.mk hB
        have T116 := Aside0.mk (T115.out.trans (hB.mono T115.out.size))
        have H_s1 := Aside0.mk hN
        clear hN hB
        have U116 := Aside0.mk (U115.out.trans (B116.out.mono U115.out.size))
        refine hK.out _ _ (HS105.out _ U116.out) (fun hHeld => ?_)
        clear hK K
        try simp only [Act.put, List.setIfInBounds_toArray, List.set_cons_zero, List.set_cons_succ]
        refine Inv.oneL (i := 38) rfl (by kernel_rfl) (fun K hK => ?_)
        have HC : Aside0 (Calls Tryz.prog 20 #[(.agg #[.bool b0, .slice A0 L0 c0, .slice D0 M0 d0]), (.agg #[.bool b1, .slice A1 L1 c1, .slice D1 M1 d1])] w116 (RaPost w116 sx)) := ⟨by rw [Esx.out]; exact saddR ((((((((((((((((H_x.out.below B101.out).below B102.out).below B103.out).below B104.out).below B105.out).below B106.out).below B107.out).below B108.out).below B109.out).below B110.out).below B111.out).below B112.out).below B113.out).below B114.out).below B115.out).below B116.out) ((((((((((((((((H_y.out.below B101.out).below B102.out).below B103.out).below B104.out).below B105.out).below B106.out).below B107.out).below B108.out).below B109.out).below B110.out).below B111.out).below B112.out).below B113.out).below B114.out).below B115.out).below B116.out) (X_x.out.le (by decide)) (X_y.out.le (by decide))⟩
        go_simp
        refine HC.out.mono ?_
        clear HC
        rintro e w117 ⟨v_s2, rfl, hN, hB⟩
        try go_wp2_with fail
        have B117 := Aside0.mk hB
        have T117 := Aside0.mk (T116.out.trans (hB.mono T116.out.size))
        have H_s2 := Aside0.mk hN
        clear hN hB
        have U117 := Aside0.mk (U116.out.trans (B117.out.mono U116.out.size))
        refine hK.out _ _ (HS105.out _ U117.out) (fun hHeld => ?_)
        clear hK K
        try simp only [Act.put, List.setIfInBounds_toArray, List.set_cons_zero, List.set_cons_succ]
        refine Inv.oneL (i := 39) rfl (by kernel_rfl) (fun K hK => ?_)
        have HC : Aside0 (Calls Tryz.prog 12 #[v_s1, v_s2] w117 (TruePost w117)) := ⟨ssame_w (H_s1.out.below B117.out) H_s2.out (pw_lt1000 Bsx.out.1 (by omega)) (pw_lt1000 Bsx.out.2 (by omega))⟩
        go_simp
        refine HC.out.mono ?_
        clear HC
        rintro e w118 ⟨rfl, hB⟩
        try go_wp2_with fail
        have B118 := Aside0.mk hB
        have T118 := Aside0.mk (T117.out.trans (hB.mono T117.out.size))
        clear hB
        have U118 := Aside0.mk (U117.out.trans (B118.out.mono U117.out.size))
        refine hK.out _ _ (HS105.out _ U118.out) (fun hHeld => ?_)
        clear hK K
        try simp only [Act.put, List.setIfInBounds_toArray, List.set_cons_zero, List.set_cons_succ]
        refine Inv.takeL (i := 40) (v := ?vsums_52) rfl (by kernel_rfl) (by kernel_rfl) (by kernel_rfl) (fun _ _ _ h => h) (by rfl) ?hysums_52 (by assumption) ?restsums_52
        case hysums_52 => ((intro w hSw; (try dsimp only at hSw); go_simp) <;> with_reducible rfl)
        try simp only [Act.put, List.setIfInBounds_toArray, List.set_cons_zero, List.set_cons_succ]
        refine Inv.takeL (i := 41) (v := ?vsums_53) rfl (by kernel_rfl) (by kernel_rfl) (by kernel_rfl) (fun _ _ _ h => h) (by rfl) ?hysums_53 (by assumption) ?restsums_53
        case hysums_53 => ((intro w hSw; (try dsimp only at hSw); go_simp) <;> with_reducible rfl)
        try simp only [Act.put, List.setIfInBounds_toArray, List.set_cons_zero, List.set_cons_succ]
        refine Inv.takeL (i := 42) (v := ?vsums_54) rfl (by kernel_rfl) (by kernel_rfl) (by kernel_rfl) (fun _ _ _ h => h) (by rfl) ?hysums_54 (by assumption) ?restsums_54
        case hysums_54 => ((intro w hSw; (try dsimp only at hSw); go_simp) <;> with_reducible rfl)
        try simp only [Act.put, List.setIfInBounds_toArray, List.set_cons_zero, List.set_cons_succ]
        refine Inv.takeL (i := 43) (v := ?vsums_55) rfl (by kernel_rfl) (by kernel_rfl) (by kernel_rfl) (fun _ _ _ h => h) (by rfl) ?hysums_55 (by assumption) ?restsums_55
        case hysums_55 => ((intro w hSw; (try dsimp only at hSw); go_simp) <;> with_reducible rfl)
        try simp only [Act.put, List.setIfInBounds_toArray, List.set_cons_zero, List.set_cons_succ]
        refine Inv.takeL (i := 44) (v := ?vsums_56) rfl (by kernel_rfl) (by kernel_rfl) (by kernel_rfl) (fun _ _ _ h => h) (by rfl) ?hysums_56 (by assumption) ?restsums_56
        case hysums_56 => ((intro w hSw; (try dsimp only at hSw); go_simp) <;> with_reducible rfl)
        try simp only [Act.put, List.setIfInBounds_toArray, List.set_cons_zero, List.set_cons_succ]
        refine Inv.takeL (i := 46) (v := ?vsums_57) rfl (by kernel_rfl) (by kernel_rfl) (by kernel_rfl) (fun _ _ _ h => h) (by rfl) ?hysums_57 (by assumption) ?restsums_57
        case hysums_57 => ((intro w hSw; (try dsimp only at hSw); go_simp) <;> with_reducible rfl)
        try simp only [Act.put, List.setIfInBounds_toArray, List.set_cons_zero, List.set_cons_succ]
        refine Inv.takeL (i := 47) (v := ?vsums_58) rfl (by kernel_rfl) (by kernel_rfl) (by kernel_rfl) (fun _ _ _ h => h) (by rfl) ?hysums_58 (by assumption) ?restsums_58
        case hysums_58 => ((intro w hSw; (try dsimp only at hSw); go_simp) <;> with_reducible rfl)
        try simp only [Act.put, List.setIfInBounds_toArray, List.set_cons_zero, List.set_cons_succ]
        refine Inv.oneL (i := 45) rfl (by kernel_rfl) (fun K hK => ?_)
        have HC : Aside0 (Calls Tryz.prog 21 #[(.agg #[.bool b0, .slice A0 L0 c0, .slice D0 M0 d0]), (.agg #[.bool b1, .slice A1 L1 c1, .slice D1 M1 d1])] w118 (RaPost w118 dx)) := ⟨by rw [Edx.out]; exact qsubR ((((((((((((((((((H_x.out.below B101.out).below B102.out).below B103.out).below B104.out).below B105.out).below B106.out).below B107.out).below B108.out).below B109.out).below B110.out).below B111.out).below B112.out).below B113.out).below B114.out).below B115.out).below B116.out).below B117.out).below B118.out) ((((((((((((((((((H_y.out.below B101.out).below B102.out).below B103.out).below B104.out).below B105.out).below B106.out).below B107.out).below B108.out).below B109.out).below B110.out).below B111.out).below B112.out).below B113.out).below B114.out).below B115.out).below B116.out).below B117.out).below B118.out) (X_x.out.le (by decide)) (X_y.out.le (by decide))⟩
        go_simp
        refine HC.out.mono ?_
        clear HC
        rintro e w119 ⟨v_d1, rfl, hN, hB⟩
        try go_wp2_with fail
        have B119 := Aside0.mk hB
        have T119 := Aside0.mk (T118.out.trans (hB.mono T118.out.size))
        have H_d1 := Aside0.mk hN
        clear hN hB
        have U119 := Aside0.mk (U118.out.trans (B119.out.mono U118.out.size))
        refine hK.out _ _ (HS105.out _ U119.out) (fun hHeld => ?_)
        clear hK K
        try simp only [Act.put, List.setIfInBounds_toArray, List.set_cons_zero, List.set_cons_succ]
        refine Inv.oneL (i := 48) rfl (by kernel_rfl) (fun K hK => ?_)
        have HC : Aside0 (Calls Tryz.prog 22 #[(.agg #[.bool b0, .slice A0 L0 c0, .slice D0 M0 d0]), (.agg #[.bool b1, .slice A1 L1 c1, .slice D1 M1 d1])] w119 (RaPost w119 dx)) := ⟨by rw [Edx.out]; exact ssubR (((((((((((((((((((H_x.out.below B101.out).below B102.out).below B103.out).below B104.out).below B105.out).below B106.out).below B107.out).below B108.out).below B109.out).below B110.out).below B111.out).below B112.out).below B113.out).below B114.out).below B115.out).below B116.out).below B117.out).below B118.out).below B119.out) (((((((((((((((((((H_y.out.below B101.out).below B102.out).below B103.out).below B104.out).below B105.out).below B106.out).below B107.out).below B108.out).below B109.out).below B110.out).below B111.out).below B112.out).below B113.out).below B114.out).below B115.out).below B116.out).below B117.out).below B118.out).below B119.out) (X_x.out.le (by decide)) (X_y.out.le (by decide))⟩
        go_simp
        refine HC.out.mono ?_
        clear HC
        rintro e w120 ⟨v_d2, rfl, hN, hB⟩
        try go_wp2_with fail
        have B120 := Aside0.mk hB
        have T120 := Aside0.mk (T119.out.trans (hB.mono T119.out.size))
        have H_d2 := Aside0.mk hN
        clear hN hB
        have U120 := Aside0.mk (U119.out.trans (B120.out.mono U119.out.size))
        refine hK.out _ _ (HS105.out _ U120.out) (fun hHeld => ?_)
        clear hK K
        try simp only [Act.put, List.setIfInBounds_toArray, List.set_cons_zero, List.set_cons_succ]
        refine Inv.oneL (i := 49) rfl (by kernel_rfl) (fun K hK => ?_)
        have HC : Aside0 (Calls Tryz.prog 12 #[v_d1, v_d2] w120 (TruePost w120)) := ⟨ssame_w (H_d1.out.below B120.out) H_d2.out (pw_lt1000 Bdx.out.1 (by omega)) (pw_lt1000 Bdx.out.2 (by omega))⟩
        go_simp
        refine HC.out.mono ?_
        clear HC
        rintro e w121 ⟨rfl, hB⟩
        try go_wp2_with fail
        have B121 := Aside0.mk hB
        have T121 := Aside0.mk (T120.out.trans (hB.mono T120.out.size))
        clear hB
        have U121 := Aside0.mk (U120.out.trans (B121.out.mono U120.out.size))
        refine hK.out _ _ (HS105.out _ U121.out) (fun hHeld => ?_)
        clear hK K
        try simp only [Act.put, List.setIfInBounds_toArray, List.set_cons_zero, List.set_cons_succ]
        refine Inv.takeL (i := 50) (v := ?vsums_59) rfl (by kernel_rfl) (by kernel_rfl) (by kernel_rfl) (fun _ _ _ h => h) (by rfl) ?hysums_59 (by assumption) ?restsums_59
        case hysums_59 => ((intro w hSw; (try dsimp only at hSw); go_simp) <;> with_reducible rfl)
        try simp only [Act.put, List.setIfInBounds_toArray, List.set_cons_zero, List.set_cons_succ]
        refine Inv.takeL (i := 51) (v := ?vsums_60) rfl (by kernel_rfl) (by kernel_rfl) (by kernel_rfl) (fun _ _ _ h => h) (by rfl) ?hysums_60 (by assumption) ?restsums_60
        case hysums_60 => ((intro w hSw; (try dsimp only at hSw); go_simp) <;> with_reducible rfl)
        try simp only [Act.put, List.setIfInBounds_toArray, List.set_cons_zero, List.set_cons_succ]
        refine Inv.takeL (i := 52) (v := ?vsums_61) rfl (by kernel_rfl) (by kernel_rfl) (by kernel_rfl) (fun _ _ _ h => h) (by rfl) ?hysums_61 (by assumption) ?restsums_61
        case hysums_61 => ((intro w hSw; (try dsimp only at hSw); go_simp) <;> with_reducible rfl)
        try simp only [Act.put, List.setIfInBounds_toArray, List.set_cons_zero, List.set_cons_succ]
        refine Inv.takeL (i := 53) (v := ?vsums_62) rfl (by kernel_rfl) (by kernel_rfl) (by kernel_rfl) (fun _ _ _ h => h) (by rfl) ?hysums_62 (by assumption) ?restsums_62
        case hysums_62 => ((intro w hSw; (try dsimp only at hSw); go_simp) <;> with_reducible rfl)
        try simp only [Act.put, List.setIfInBounds_toArray, List.set_cons_zero, List.set_cons_succ]
        refine Inv.takeL (i := 54) (v := ?vsums_63) rfl (by kernel_rfl) (by kernel_rfl) (by kernel_rfl) (fun _ _ _ h => h) (by rfl) ?hysums_63 (by assumption) ?restsums_63
        case hysums_63 => ((intro w hSw; (try dsimp only at hSw); go_simp) <;> with_reducible rfl)
        try simp only [Act.put, List.setIfInBounds_toArray, List.set_cons_zero, List.set_cons_succ]
        refine Inv.takeL (i := 56) (v := ?vsums_64) rfl (by kernel_rfl) (by kernel_rfl) (by kernel_rfl) (fun _ _ _ h => h) (by rfl) ?hysums_64 (by assumption) ?restsums_64
        case hysums_64 => ((intro w hSw; (try dsimp only at hSw); go_simp) <;> with_reducible rfl)
        try simp only [Act.put, List.setIfInBounds_toArray, List.set_cons_zero, List.set_cons_succ]
        refine Inv.takeL (i := 57) (v := ?vsums_65) rfl (by kernel_rfl) (by kernel_rfl) (by kernel_rfl) (fun _ _ _ h => h) (by rfl) ?hysums_65 (by assumption) ?restsums_65
        case hysums_65 => ((intro w hSw; (try dsimp only at hSw); go_simp) <;> with_reducible rfl)
        try simp only [Act.put, List.setIfInBounds_toArray, List.set_cons_zero, List.set_cons_succ]
        refine Inv.oneL (i := 55) rfl (by kernel_rfl) (fun K hK => ?_)
        have HC : Aside0 (Calls Tryz.prog 23 #[(.agg #[.bool b0, .slice A0 L0 c0, .slice D0 M0 d0]), (.agg #[.bool b1, .slice A1 L1 c1, .slice D1 M1 d1])] w121 (RaPost w121 mx)) := ⟨by rw [Emx.out]; exact qmulR (((((((((((((((((((((H_x.out.below B101.out).below B102.out).below B103.out).below B104.out).below B105.out).below B106.out).below B107.out).below B108.out).below B109.out).below B110.out).below B111.out).below B112.out).below B113.out).below B114.out).below B115.out).below B116.out).below B117.out).below B118.out).below B119.out).below B120.out).below B121.out) (((((((((((((((((((((H_y.out.below B101.out).below B102.out).below B103.out).below B104.out).below B105.out).below B106.out).below B107.out).below B108.out).below B109.out).below B110.out).below B111.out).below B112.out).below B113.out).below B114.out).below B115.out).below B116.out).below B117.out).below B118.out).below B119.out).below B120.out).below B121.out) (X_x.out.le (by decide)) (X_y.out.le (by decide))⟩
        go_simp
        refine HC.out.mono ?_
        clear HC
        rintro e w122 ⟨v_m1, rfl, hN, hB⟩
        try go_wp2_with fail
        have B122 := Aside0.mk hB
        have T122 := Aside0.mk (T121.out.trans (hB.mono T121.out.size))
        have H_m1 := Aside0.mk hN
        clear hN hB
        have U122 := Aside0.mk (U121.out.trans (B122.out.mono U121.out.size))
        refine hK.out _ _ (HS105.out _ U122.out) (fun hHeld => ?_)
        clear hK K
        try simp only [Act.put, List.setIfInBounds_toArray, List.set_cons_zero, List.set_cons_succ]
        refine Inv.oneL (i := 58) rfl (by kernel_rfl) (fun K hK => ?_)
        have HC : Aside0 (Calls Tryz.prog 24 #[(.agg #[.bool b0, .slice A0 L0 c0, .slice D0 M0 d0]), (.agg #[.bool b1, .slice A1 L1 c1, .slice D1 M1 d1])] w122 (RaPost w122 mx)) := ⟨by rw [Emx.out]; exact smulR ((((((((((((((((((((((H_x.out.below B101.out).below B102.out).below B103.out).below B104.out).below B105.out).below B106.out).below B107.out).below B108.out).below B109.out).below B110.out).below B111.out).below B112.out).below B113.out).below B114.out).below B115.out).below B116.out).below B117.out).below B118.out).below B119.out).below B120.out).below B121.out).below B122.out) ((((((((((((((((((((((H_y.out.below B101.out).below B102.out).below B103.out).below B104.out).below B105.out).below B106.out).below B107.out).below B108.out).below B109.out).below B110.out).below B111.out).below B112.out).below B113.out).below B114.out).below B115.out).below B116.out).below B117.out).below B118.out).below B119.out).below B120.out).below B121.out).below B122.out) (X_x.out.le (by decide)) (X_y.out.le (by decide))⟩
        go_simp
        refine HC.out.mono ?_
        clear HC
        rintro e w123 ⟨v_m2, rfl, hN, hB⟩
        try go_wp2_with fail
        have B123 := Aside0.mk hB
        have T123 := Aside0.mk (T122.out.trans (hB.mono T122.out.size))
        have H_m2 := Aside0.mk hN
        clear hN hB
        have U123 := Aside0.mk (U122.out.trans (B123.out.mono U122.out.size))
        refine hK.out _ _ (HS105.out _ U123.out) (fun hHeld => ?_)
        clear hK K
        try simp only [Act.put, List.setIfInBounds_toArray, List.set_cons_zero, List.set_cons_succ]
        refine Inv.oneL (i := 59) rfl (by kernel_rfl) (fun K hK => ?_)
        have HC : Aside0 (Calls Tryz.prog 12 #[v_m1, v_m2] w123 (TruePost w123)) := ⟨ssame_w (H_m1.out.below B123.out) H_m2.out (pw_lt1000 Bmx.out.1 (by omega)) (pw_lt1000 Bmx.out.2 (by omega))⟩
        go_simp
        refine HC.out.mono ?_
        clear HC
        rintro e w124 ⟨rfl, hB⟩
        try go_wp2_with fail
        have B124 := Aside0.mk hB
        have T124 := Aside0.mk (T123.out.trans (hB.mono T123.out.size))
        clear hB
        have U124 := Aside0.mk (U123.out.trans (B124.out.mono U123.out.size))
        refine hK.out _ _ (HS105.out _ U124.out) (fun hHeld => ?_)
        clear hK K
        try simp only [Act.put, List.setIfInBounds_toArray, List.set_cons_zero, List.set_cons_succ]
        refine Inv.takeL (i := 60) (v := ?vsums_66) rfl (by kernel_rfl) (by kernel_rfl) (by kernel_rfl) (fun _ _ _ h => h) (by rfl) ?hysums_66 (by assumption) ?restsums_66
        case hysums_66 => ((intro w hSw; (try dsimp only at hSw); go_simp) <;> with_reducible rfl)
        try simp only [Act.put, List.setIfInBounds_toArray, List.set_cons_zero, List.set_cons_succ]
        refine Inv.takeL (i := 61) (v := ?vsums_67) rfl (by kernel_rfl) (by kernel_rfl) (by kernel_rfl) (fun _ _ _ h => h) (by rfl) ?hysums_67 (by assumption) ?restsums_67
        case hysums_67 => ((intro w hSw; (try dsimp only at hSw); go_simp) <;> with_reducible rfl)
        try simp only [Act.put, List.setIfInBounds_toArray, List.set_cons_zero, List.set_cons_succ]
        refine Inv.takeL (i := 62) (v := ?vsums_68) rfl (by kernel_rfl) (by kernel_rfl) (by kernel_rfl) (fun _ _ _ h => h) (by rfl) ?hysums_68 (by assumption) ?restsums_68
        case hysums_68 => ((intro w hSw; (try dsimp only at hSw); go_simp) <;> with_reducible rfl)
        try simp only [Act.put, List.setIfInBounds_toArray, List.set_cons_zero, List.set_cons_succ]
        refine Inv.takeL (i := 63) (v := ?vsums_69) rfl (by kernel_rfl) (by kernel_rfl) (by kernel_rfl) (fun _ _ _ h => h) (by rfl) ?hysums_69 (by assumption) ?restsums_69
        case hysums_69 => ((intro w hSw; (try dsimp only at hSw); go_simp) <;> with_reducible rfl)
        try simp only [Act.put, List.setIfInBounds_toArray, List.set_cons_zero, List.set_cons_succ]
        refine Inv.takeL (i := 64) (v := ?vsums_70) rfl (by kernel_rfl) (by kernel_rfl) (by kernel_rfl) (fun _ _ _ h => h) (by rfl) ?hysums_70 (by assumption) ?restsums_70
        case hysums_70 => ((intro w hSw; (try dsimp only at hSw); go_simp) <;> with_reducible rfl)
        try simp only [Act.put, List.setIfInBounds_toArray, List.set_cons_zero, List.set_cons_succ]
        refine Inv.takeL (i := 65) (v := ?vsums_71) rfl (by kernel_rfl) (by kernel_rfl) (by kernel_rfl) (fun _ _ _ h => h) (by rfl) ?hysums_71 (by assumption) ?restsums_71
        case hysums_71 => ((intro w hSw; (try dsimp only at hSw); go_simp) <;> with_reducible rfl)
        try simp only [Act.put, List.setIfInBounds_toArray, List.set_cons_zero, List.set_cons_succ]
        refine Inv.takeL (i := 66) (v := ?vsums_72) rfl (by kernel_rfl) (by kernel_rfl) (by kernel_rfl) (fun _ _ _ h => h) (by rfl) ?hysums_72 (by assumption) ?restsums_72
        case hysums_72 => ((intro w hSw; (try dsimp only at hSw); go_simp) <;> with_reducible rfl)
        try simp only [Act.put, List.setIfInBounds_toArray, List.set_cons_zero, List.set_cons_succ]
        refine Inv.takeL (i := 67) (v := ?vsums_73) rfl (by kernel_rfl) (by kernel_rfl) (by kernel_rfl) (fun _ _ _ h => h) (by rfl) ?hysums_73 (by assumption) ?restsums_73
        case hysums_73 => ((intro w hSw; (try dsimp only at hSw); go_simp) <;> with_reducible rfl)
        try simp only [Act.put, List.setIfInBounds_toArray, List.set_cons_zero, List.set_cons_succ]
        refine Inv.takeL (i := 68) (v := ?vsums_74) rfl (by kernel_rfl) (by kernel_rfl) (by kernel_rfl) (fun _ _ _ h => h) (by rfl) ?hysums_74 (by assumption) ?restsums_74
        case hysums_74 => ((intro w hSw; (try dsimp only at hSw); go_simp) <;> with_reducible rfl)
        try simp only [Act.put, List.setIfInBounds_toArray, List.set_cons_zero, List.set_cons_succ]
        refine Inv.takeL (i := 69) (v := ?vsums_75) rfl (by kernel_rfl) (by kernel_rfl) (by kernel_rfl) (fun _ _ _ h => h) (by rfl) ?hysums_75 (by assumption) ?restsums_75
        case hysums_75 => ((intro w hSw; (try dsimp only at hSw); go_simp) <;> with_reducible rfl)
        try simp only [Act.put, List.setIfInBounds_toArray, List.set_cons_zero, List.set_cons_succ]
        refine Inv.oneL (i := 70) rfl (by kernel_rfl) (fun K hK => ?_)
        have HC : Aside0 (Calls Tryz.prog 12 #[(.agg #[(.bool Bq), (.slice A_q M_q c_q), (.slice B_q K_q d_q)]), (.agg #[(.bool Bq), (.slice A_p_ M_p_ c_p_), (.slice B_p_ K_p_ d_p_)])] w124 (TruePost w124)) := ⟨ssame_w ((((((((((((((((((((((H_rq.out.below B103.out).below B104.out).below B105.out).below B106.out).below B107.out).below B108.out).below B109.out).below B110.out).below B111.out).below B112.out).below B113.out).below B114.out).below B115.out).below B116.out).below B117.out).below B118.out).below B119.out).below B120.out).below B121.out).below B122.out).below B123.out).below B124.out) ((((((((((((((((((((H_rp_.out.below B105.out).below B106.out).below B107.out).below B108.out).below B109.out).below B110.out).below B111.out).below B112.out).below B113.out).below B114.out).below B115.out).below B116.out).below B117.out).below B118.out).below B119.out).below B120.out).below B121.out).below B122.out).below B123.out).below B124.out) HNQ.out HDQ.out⟩
        go_simp
        refine HC.out.mono ?_
        clear HC
        rintro e w125 ⟨rfl, hB⟩
        try go_wp2_with fail
        have B125 := Aside0.mk hB
        have T125 := Aside0.mk (T124.out.trans (hB.mono T124.out.size))
        clear hB
        have U125 := Aside0.mk (U124.out.trans (B125.out.mono U124.out.size))
        refine hK.out _ _ (HS105.out _ U125.out) (fun hHeld => ?_)
        clear hK K
        try simp only [Act.put, List.setIfInBounds_toArray, List.set_cons_zero, List.set_cons_succ]
        refine Inv.takeL (i := 71) (v := ?vsums_76) rfl (by kernel_rfl) (by kernel_rfl) (by kernel_rfl) (fun _ _ _ h => h) (by rfl) ?hysums_76 (by assumption) ?restsums_76
        case hysums_76 => ((intro w hSw; (try dsimp only at hSw); go_simp) <;> with_reducible rfl)
        try simp only [Act.put, List.setIfInBounds_toArray, List.set_cons_zero, List.set_cons_succ]
        refine Inv.takeL (i := 72) (v := ?vsums_77) rfl (by kernel_rfl) (by kernel_rfl) (by kernel_rfl) (fun _ _ _ h => h) (by rfl) ?hysums_77 (by assumption) ?restsums_77
        case hysums_77 => ((intro w hSw; (try dsimp only at hSw); go_simp) <;> with_reducible rfl)
        try simp only [Act.put, List.setIfInBounds_toArray, List.set_cons_zero, List.set_cons_succ]
        refine wpAnyH_done (by kernel_rfl) ?_ _
        go_wp2_with fail
        go_roundw
        case rel => exact ⟨k + 1, by omega, by go_num, ⟨T125.out⟩⟩
        case measure => simp [intOf]; omega
    · have hk6 : k = 5 := by omega
      subst hk6
      have HT := Aside0.mk (HTW.out.trans (HB.out.mono HTW.out.size))
      go_wp2_with fail
      go_ret
      exact ⟨rfl, HT.out⟩
end Go.Proofs.YtklhpobphloehaaGreatDoor.ratSums
