/- Rational numbers: the reference's functions: the small texts of this part, one behind another. -/
import Derived.Test.YtklhpobphloehaaGreatDoorS6
/- The reference's functions of rational numbers. -/
set_option linter.unusedVariables false
namespace Go.Proofs.YtklhpobphloehaaGreatDoor.G
open Go.RowKit Go.Proofs.YtklhpobphloehaaGreatDoorW.PrintWords Go.Proofs.YtklhpobphloehaaGreatDoorW.PrintLast Go.Proofs.YtklhpobphloehaaGreatDoor.Nn

theorem bx (W : World) (g : Nat) (a b c : Value) (t : TypeId) (hg : W.heap.size = g) : Blk (W.alloc (.cells #[a, b, c] t)) g a b c := by
  subst hg
  exact Blk_alloc W a b c t
theorem done_ra {w w' : World} {v : Value} {b : Bool} {X : Rat} (hb : b = decide (X.num < 0)) (h : R3 w' v b X.num.natAbs X.den ∧ Below w.heap.size w w') : RaPost w X (.returned v) w' := ⟨v, rfl, by unfold Ra; rw [← hb]; exact h.1, h.2⟩
theorem done_raE {w w' : World} {v : Value} {b : Bool} {X : Rat} {k : Int} (hb : b = decide (X.num < 0)) (h : R3 w' v b X.num.natAbs X.den ∧ Below w.heap.size w w') : RaPostE w X k (.returned (.tuple #[v, .int .i64 k])) w' := ⟨v, rfl, by unfold Ra; rw [← hb]; exact h.1, h.2⟩
theorem smakeX {w : World} (neg : Bool) {vn vd : Value} {n d : Nat} {X : Rat} (hn : Nu w vn n) (hd : Nu w vd d) (bn : n < pw 500) (bd : d < pw 500) (hd0 : d ≠ 0) (hX : X = mkRat (sg neg n) d) : Calls Tryz.prog 32 #[.bool neg, vn, vd] w (RaPostE w X 0) :=
  (smake_w neg hn hd bn bd hd0).mono fun _ _ h => low_ratE hd0 hX h
set_option maxHeartbeats 8000000 in
set_option maxRecDepth 100000 in
theorem smadeX {w : World} (neg : Bool) {vn vd : Value} {n d : Nat} {X : Rat} (hn : Nu w vn n) (hd : Nu w vd d) (bn : n < pw 500) (bd : d < pw 500) (hd0 : d ≠ 0) (hX : X = mkRat (sg neg n) d) : Calls Tryz.prog 37 #[.bool neg, vn, vd] w (RaPost w X) := by
  have H_n := Aside0.mk hn
  have H_d := Aside0.mk hd
  have HQ := Aside0.mk (And.intro bn (And.intro bd (And.intro hd0 hX)))
  clear hn hd bn bd hd0 hX
  go_enter Tryz.func37, Tryz.ntmps37
  have B1 := Aside0.mk (below_alloc (Below.refl w.heap.size w) (.cells #[.bool false, .slice none 0 0, .slice none 0 0] 24))
  have T1 := Aside0.mk (B1.out.mono (Nat.le_refl _))
  have H_res := Aside0.mk (bx w (w.heap.size) (.bool false) (.slice none 0 0) (.slice none 0 0) 24 (by simp))
  have TR := Aside0.mk T1.out
  have HC : Aside0 (Calls Tryz.prog 32 #[.bool (neg), vn, vd] (w.alloc (.cells #[.bool false, .slice none 0 0, .slice none 0 0] 24)) (RaPostE (w.alloc (.cells #[.bool false, .slice none 0 0, .slice none 0 0] 24)) (X) 0)) := ⟨smakeX (neg) (H_n.out.below B1.out) (H_d.out.below B1.out) (HQ.out.1) (HQ.out.2.1) (HQ.out.2.2.1) (HQ.out.2.2.2)⟩
  go_wp2_with fail
  refine HC.out.mono ?_
  clear HC
  rintro e w2 ⟨v_q, rfl, ⟨A_q, M_q, c_q, B_q, K_q, d_q, rfl, hNA, hNB⟩, hB⟩
  have B2 := Aside0.mk hB
  have T2 := Aside0.mk (T1.out.trans (hB.mono T1.out.size))
  obtain ⟨b_q, hb_q⟩ : ∃ b, b = decide (Rat.num (X) < 0) := ⟨_, rfl⟩
  try rw [← hb_q]
  have E_q := Aside0.mk hb_q
  clear hb_q
  have NA_q := Aside0.mk hNA
  have NB_q := Aside0.mk hNB
  clear hNA hNB hB
  have H_q := Aside0.mk (show Ra w2 (.agg #[.bool b_q, .slice A_q M_q c_q, .slice B_q K_q d_q]) (X) from by unfold Ra; rw [← E_q.out]; exact ⟨_, _, _, _, _, _, rfl, NA_q.out, NB_q.out⟩)
  have B3 := Aside0.mk (below_alloc (Below.refl w2.heap.size w2) (.cells #[.bool b_q, .slice A_q M_q c_q, .slice B_q K_q d_q] 24))
  have T3 := Aside0.mk (T2.out.trans (B3.out.mono T2.out.size))
  have H_loc := Aside0.mk (bx w2 (w2.heap.size) (.bool b_q) (.slice A_q M_q c_q) (.slice B_q K_q d_q) 24 (by simp))
  have NA_q := Aside0.mk (NA_q.out.below B3.out)
  have NB_q := Aside0.mk (NB_q.out.below B3.out)
  have HD := Aside0.mk (r3_done (neg := b_q) TR.out (by omega) H_res.out (B2.out.trans (B3.out.mono B2.out.size)) NA_q.out NB_q.out)
  obtain ⟨⟨zc0, zc1, zc2⟩, zf0, zf1, zf2⟩ := ((H_res.out.below B2.out).below B3.out)
  obtain ⟨⟨lc0, lc1, lc2⟩, _⟩ := H_loc.out
  go_wp2_with fail
  exact bodyPost_ret (v := .agg #[.bool b_q, .slice A_q M_q c_q, .slice B_q K_q d_q]) (by simp [results, Tryz.results37, go_sem, *]) rfl (done_ra E_q.out HD.out)
set_option maxHeartbeats 8000000 in
set_option maxRecDepth 100000 in
theorem smulR {w : World} {v0 v1 : Value} {x y : Rat} (hx : Ra w v0 x) (hy : Ra w v1 y) (hbx : Rb 200 x) (hby : Rb 200 y) : Calls Tryz.prog 24 #[v0, v1] w (RaPost w (x * y)) := by
  obtain ⟨Aa0, La0, ca0, Ab0, Lb0, cb0, rfl, hn0, hd0⟩ := hx
  obtain ⟨g0, hg0⟩ : ∃ b, b = decide (x.num < 0) := ⟨_, rfl⟩
  have EG0 := Aside0.mk hg0
  rw [← hg0]
  obtain ⟨n0, hnn0⟩ : ∃ n, n = x.num.natAbs := ⟨_, rfl⟩
  obtain ⟨m0, hmm0⟩ : ∃ n, n = x.den := ⟨_, rfl⟩
  rw [← hnn0] at hn0
  rw [← hmm0] at hd0
  have EN0 := Aside0.mk hnn0
  have EM0 := Aside0.mk hmm0
  have H_N0 := Aside0.mk hn0
  have H_D0 := Aside0.mk hd0
  have BB0 := Aside0.mk hbx
  have X_N0 := Aside0.mk (show n0 < pw 200 by rw [hnn0]; exact BB0.out.1)
  have X_D0 := Aside0.mk (show m0 < pw 200 by rw [hmm0]; exact BB0.out.2)
  have M00 := Aside0.mk (show m0 ≠ 0 by rw [hmm0]; exact x.den_nz)
  clear hg0 hnn0 hmm0 hn0 hd0
  obtain ⟨Aa1, La1, ca1, Ab1, Lb1, cb1, rfl, hn1, hd1⟩ := hy
  obtain ⟨g1, hg1⟩ : ∃ b, b = decide (y.num < 0) := ⟨_, rfl⟩
  have EG1 := Aside0.mk hg1
  rw [← hg1]
  obtain ⟨n1, hnn1⟩ : ∃ n, n = y.num.natAbs := ⟨_, rfl⟩
  obtain ⟨m1, hmm1⟩ : ∃ n, n = y.den := ⟨_, rfl⟩
  rw [← hnn1] at hn1
  rw [← hmm1] at hd1
  have EN1 := Aside0.mk hnn1
  have EM1 := Aside0.mk hmm1
  have H_N1 := Aside0.mk hn1
  have H_D1 := Aside0.mk hd1
  have BB1 := Aside0.mk hby
  have X_N1 := Aside0.mk (show n1 < pw 200 by rw [hnn1]; exact BB1.out.1)
  have X_D1 := Aside0.mk (show m1 < pw 200 by rw [hmm1]; exact BB1.out.2)
  have M01 := Aside0.mk (show m1 ≠ 0 by rw [hmm1]; exact y.den_nz)
  clear hg1 hnn1 hmm1 hn1 hd1
  go_enter Tryz.func24, Tryz.ntmps24
  have B1 := Aside0.mk (below_alloc (Below.refl w.heap.size w) (.cells #[.bool g0, .slice Aa0 La0 ca0, .slice Ab0 Lb0 cb0] 24))
  have T1 := Aside0.mk (B1.out.mono (Nat.le_refl _))
  have H_bx0 := Aside0.mk (bx w (w.heap.size) (.bool g0) (.slice Aa0 La0 ca0) (.slice Ab0 Lb0 cb0) 24 (by simp))
  have B2 := Aside0.mk (below_alloc (Below.refl (w.alloc (.cells #[.bool g0, .slice Aa0 La0 ca0, .slice Ab0 Lb0 cb0] 24)).heap.size (w.alloc (.cells #[.bool g0, .slice Aa0 La0 ca0, .slice Ab0 Lb0 cb0] 24))) (.cells #[.bool g1, .slice Aa1 La1 ca1, .slice Ab1 Lb1 cb1] 24))
  have T2 := Aside0.mk (T1.out.trans (B2.out.mono T1.out.size))
  have H_bx1 := Aside0.mk (bx (w.alloc (.cells #[.bool g0, .slice Aa0 La0 ca0, .slice Ab0 Lb0 cb0] 24)) (w.heap.size + 1) (.bool g1) (.slice Aa1 La1 ca1) (.slice Ab1 Lb1 cb1) 24 (by simp))
  have B3 := Aside0.mk (below_alloc (Below.refl ((w.alloc (.cells #[.bool g0, .slice Aa0 La0 ca0, .slice Ab0 Lb0 cb0] 24)).alloc (.cells #[.bool g1, .slice Aa1 La1 ca1, .slice Ab1 Lb1 cb1] 24)).heap.size ((w.alloc (.cells #[.bool g0, .slice Aa0 La0 ca0, .slice Ab0 Lb0 cb0] 24)).alloc (.cells #[.bool g1, .slice Aa1 La1 ca1, .slice Ab1 Lb1 cb1] 24))) (.cells #[.bool false, .slice none 0 0, .slice none 0 0] 24))
  have T3 := Aside0.mk (T2.out.trans (B3.out.mono T2.out.size))
  have H_res := Aside0.mk (bx ((w.alloc (.cells #[.bool g0, .slice Aa0 La0 ca0, .slice Ab0 Lb0 cb0] 24)).alloc (.cells #[.bool g1, .slice Aa1 La1 ca1, .slice Ab1 Lb1 cb1] 24)) (w.heap.size + 2) (.bool false) (.slice none 0 0) (.slice none 0 0) 24 (by simp))
  have TR := Aside0.mk T3.out
  have HNE0 := Aside0.mk (show w.heap.size + 2 ≠ w.heap.size by omega)
  have HNE1 := Aside0.mk (show w.heap.size + 2 ≠ w.heap.size + 1 by omega)
  go_wp2_with fail
  have B4 := Aside0.mk (Below.drew (Below.refl (((w.alloc (.cells #[.bool g0, .slice Aa0 La0 ca0, .slice Ab0 Lb0 cb0] 24)).alloc (.cells #[.bool g1, .slice Aa1 La1 ca1, .slice Ab1 Lb1 cb1] 24)).alloc (.cells #[.bool false, .slice none 0 0, .slice none 0 0] 24)).heap.size (((w.alloc (.cells #[.bool g0, .slice Aa0 La0 ca0, .slice Ab0 Lb0 cb0] 24)).alloc (.cells #[.bool g1, .slice Aa1 La1 ca1, .slice Ab1 Lb1 cb1] 24)).alloc (.cells #[.bool false, .slice none 0 0, .slice none 0 0] 24))))
  have T4 := Aside0.mk (T3.out.trans (B4.out.mono T3.out.size))
  have HS4 := Aside0.mk (fun (W : World) (hW : Below ((((w.alloc (.cells #[.bool g0, .slice Aa0 La0 ca0, .slice Ab0 Lb0 cb0] 24)).alloc (.cells #[.bool g1, .slice Aa1 La1 ca1, .slice Ab1 Lb1 cb1] 24)).alloc (.cells #[.bool false, .slice none 0 0, .slice none 0 0] 24)).drew).heap.size ((((w.alloc (.cells #[.bool g0, .slice Aa0 La0 ca0, .slice Ab0 Lb0 cb0] 24)).alloc (.cells #[.bool g1, .slice Aa1 La1 ca1, .slice Ab1 Lb1 cb1] 24)).alloc (.cells #[.bool false, .slice none 0 0, .slice none 0 0] 24)).drew) W) => show W.cell? ⟨w.heap.size, 0, none⟩ = some (.bool g0) ∧ W.cell? ⟨w.heap.size, 1, none⟩ = some (.slice Aa0 La0 ca0) ∧ W.cell? ⟨w.heap.size, 2, none⟩ = some (.slice Ab0 Lb0 cb0) ∧ W.cell? ⟨w.heap.size + 1, 0, none⟩ = some (.bool g1) ∧ W.cell? ⟨w.heap.size + 1, 1, none⟩ = some (.slice Aa1 La1 ca1) ∧ W.cell? ⟨w.heap.size + 1, 2, none⟩ = some (.slice Ab1 Lb1 cb1) from ⟨((((H_bx0.out.below B2.out).below B3.out).below B4.out).below hW).1.1, ((((H_bx0.out.below B2.out).below B3.out).below B4.out).below hW).1.2.1, ((((H_bx0.out.below B2.out).below B3.out).below B4.out).below hW).1.2.2, (((H_bx1.out.below B3.out).below B4.out).below hW).1.1, (((H_bx1.out.below B3.out).below B4.out).below hW).1.2.1, (((H_bx1.out.below B3.out).below B4.out).below hW).1.2.2⟩)
  have U4 := Aside0.mk (Below.refl ((((w.alloc (.cells #[.bool g0, .slice Aa0 La0 ca0, .slice Ab0 Lb0 cb0] 24)).alloc (.cells #[.bool g1, .slice Aa1 La1 ca1, .slice Ab1 Lb1 cb1] 24)).alloc (.cells #[.bool false, .slice none 0 0, .slice none 0 0] 24)).drew).heap.size ((((w.alloc (.cells #[.bool g0, .slice Aa0 La0 ca0, .slice Ab0 Lb0 cb0] 24)).alloc (.cells #[.bool g1, .slice Aa1 La1 ca1, .slice Ab1 Lb1 cb1] 24)).alloc (.cells #[.bool false, .slice none 0 0, .slice none 0 0] 24)).drew))
  refine wp_region_held_drew (S := fun W => W.cell? ⟨w.heap.size, 0, none⟩ = some (.bool g0) ∧ W.cell? ⟨w.heap.size, 1, none⟩ = some (.slice Aa0 La0 ca0) ∧ W.cell? ⟨w.heap.size, 2, none⟩ = some (.slice Ab0 Lb0 cb0) ∧ W.cell? ⟨w.heap.size + 1, 0, none⟩ = some (.bool g1) ∧ W.cell? ⟨w.heap.size + 1, 1, none⟩ = some (.slice Aa1 La1 ca1) ∧ W.cell? ⟨w.heap.size + 1, 2, none⟩ = some (.slice Ab1 Lb1 cb1)) (by kernel_rfl) (HS4.out _ (Below.refl _ _)) (fun hHeld => ?_)
  refine Inv.takeL (i := 0) (v := ?v4_0) rfl (by kernel_rfl) (by kernel_rfl) (by kernel_rfl) (fun _ _ _ h => h) (by rfl) ?hy4_0 (by assumption) ?rest4_0
  case hy4_0 => ((intro w hSw; (try dsimp only at hSw); go_simp) <;> with_reducible rfl)
  try simp only [Act.put, List.setIfInBounds_toArray, List.set_cons_zero, List.set_cons_succ]
  refine Inv.takeL (i := 1) (v := ?v4_1) rfl (by kernel_rfl) (by kernel_rfl) (by kernel_rfl) (fun _ _ _ h => h) (by rfl) ?hy4_1 (by assumption) ?rest4_1
  case hy4_1 => ((intro w hSw; (try dsimp only at hSw); go_simp) <;> with_reducible rfl)
  try simp only [Act.put, List.setIfInBounds_toArray, List.set_cons_zero, List.set_cons_succ]
  refine Inv.takeL (i := 2) (v := ?v4_2) rfl (by kernel_rfl) (by kernel_rfl) (by kernel_rfl) (fun _ _ _ h => h) (by rfl) ?hy4_2 (by assumption) ?rest4_2
  case hy4_2 => ((intro w hSw; (try dsimp only at hSw); go_simp) <;> with_reducible rfl)
  try simp only [Act.put, List.setIfInBounds_toArray, List.set_cons_zero, List.set_cons_succ]
  refine Inv.takeL (i := 3) (v := ?v4_3) rfl (by kernel_rfl) (by kernel_rfl) (by kernel_rfl) (fun _ _ _ h => h) (by rfl) ?hy4_3 (by assumption) ?rest4_3
  case hy4_3 => ((intro w hSw; (try dsimp only at hSw); go_simp) <;> with_reducible rfl)
  try simp only [Act.put, List.setIfInBounds_toArray, List.set_cons_zero, List.set_cons_succ]
  refine Inv.takeL (i := 4) (v := ?v4_4) rfl (by kernel_rfl) (by kernel_rfl) (by kernel_rfl) (fun _ _ _ h => h) (by rfl) ?hy4_4 (by assumption) ?rest4_4
  case hy4_4 => ((intro w hSw; (try dsimp only at hSw); go_simp) <;> with_reducible rfl)
  try simp only [Act.put, List.setIfInBounds_toArray, List.set_cons_zero, List.set_cons_succ]
  refine Inv.takeL (i := 5) (v := ?v4_5) rfl (by kernel_rfl) (by kernel_rfl) (by kernel_rfl) (fun _ _ _ h => h) (by rfl) ?hy4_5 (by assumption) ?rest4_5
  case hy4_5 => ((intro w hSw; (try dsimp only at hSw); go_simp) <;> with_reducible rfl)
  try simp only [Act.put, List.setIfInBounds_toArray, List.set_cons_zero, List.set_cons_succ]
  refine Inv.takeL (i := 6) (v := ?v4_6) rfl (by kernel_rfl) (by kernel_rfl) (by kernel_rfl) (fun _ _ _ h => h) (by rfl) ?hy4_6 (by assumption) ?rest4_6
  case hy4_6 => ((intro w hSw; (try dsimp only at hSw); go_simp) <;> with_reducible rfl)
  try simp only [Act.put, List.setIfInBounds_toArray, List.set_cons_zero, List.set_cons_succ]
  refine Inv.takeL (i := 7) (v := ?v4_7) rfl (by kernel_rfl) (by kernel_rfl) (by kernel_rfl) (fun _ _ _ h => h) (by rfl) ?hy4_7 (by assumption) ?rest4_7
  case hy4_7 => ((intro w hSw; (try dsimp only at hSw); go_simp) <;> with_reducible rfl)
  try simp only [Act.put, List.setIfInBounds_toArray, List.set_cons_zero, List.set_cons_succ]
  refine Inv.takeL (i := 8) (v := ?v4_8) rfl (by kernel_rfl) (by kernel_rfl) (by kernel_rfl) (fun _ _ _ h => h) (by rfl) ?hy4_8 (by assumption) ?rest4_8
  case hy4_8 => ((intro w hSw; (try dsimp only at hSw); go_simp) <;> with_reducible rfl)
  try simp only [Act.put, List.setIfInBounds_toArray, List.set_cons_zero, List.set_cons_succ]
  refine Inv.takeL (i := 10) (v := ?v4_10) rfl (by kernel_rfl) (by kernel_rfl) (by kernel_rfl) (fun _ _ _ h => h) (by rfl) ?hy4_10 (by assumption) ?rest4_10
  case hy4_10 => ((intro w hSw; (try dsimp only at hSw); go_simp) <;> with_reducible rfl)
  try simp only [Act.put, List.setIfInBounds_toArray, List.set_cons_zero, List.set_cons_succ]
  refine Inv.takeL (i := 11) (v := ?v4_11) rfl (by kernel_rfl) (by kernel_rfl) (by kernel_rfl) (fun _ _ _ h => h) (by rfl) ?hy4_11 (by assumption) ?rest4_11
  case hy4_11 => ((intro w hSw; (try dsimp only at hSw); go_simp) <;> with_reducible rfl)
  try simp only [Act.put, List.setIfInBounds_toArray, List.set_cons_zero, List.set_cons_succ]
  refine Inv.takeL (i := 12) (v := ?v4_12) rfl (by kernel_rfl) (by kernel_rfl) (by kernel_rfl) (fun _ _ _ h => h) (by rfl) ?hy4_12 (by assumption) ?rest4_12
  case hy4_12 => ((intro w hSw; (try dsimp only at hSw); go_simp) <;> with_reducible rfl)
  try simp only [Act.put, List.setIfInBounds_toArray, List.set_cons_zero, List.set_cons_succ]
  refine Inv.takeL (i := 13) (v := ?v4_13) rfl (by kernel_rfl) (by kernel_rfl) (by kernel_rfl) (fun _ _ _ h => h) (by rfl) ?hy4_13 (by assumption) ?rest4_13
  case hy4_13 => ((intro w hSw; (try dsimp only at hSw); go_simp) <;> with_reducible rfl)
  try simp only [Act.put, List.setIfInBounds_toArray, List.set_cons_zero, List.set_cons_succ]
  have HC : Aside0 (Calls Tryz.prog 38 #[(.slice Aa0 La0 ca0), (.slice Aa1 La1 ca1)] ((((w.alloc (.cells #[.bool g0, .slice Aa0 La0 ca0, .slice Ab0 Lb0 cb0] 24)).alloc (.cells #[.bool g1, .slice Aa1 La1 ca1, .slice Ab1 Lb1 cb1] 24)).alloc (.cells #[.bool false, .slice none 0 0, .slice none 0 0] 24)).drew) (NuPost ((((w.alloc (.cells #[.bool g0, .slice Aa0 La0 ca0, .slice Ab0 Lb0 cb0] 24)).alloc (.cells #[.bool g1, .slice Aa1 La1 ca1, .slice Ab1 Lb1 cb1] 24)).alloc (.cells #[.bool false, .slice none 0 0, .slice none 0 0] 24)).drew) (n0 * n1))) := ⟨rmulN ((((H_N0.out.below B1.out).below B2.out).below B3.out).below B4.out) ((((H_N1.out.below B1.out).below B2.out).below B3.out).below B4.out) (pw_lt1000 X_N0.out (by omega)) (pw_lt1000 X_N1.out (by omega))⟩
  refine Inv.oneL (i := 9) rfl (by kernel_rfl) (fun K hK => ?_)
  go_simp
  refine HC.out.mono ?_
  clear HC
  rintro e w5 ⟨v_nn, rfl, hN, hB⟩
  try go_wp2_with fail
  have B5 := Aside0.mk hB
  have T5 := Aside0.mk (T4.out.trans (hB.mono T4.out.size))
  have H_nn := Aside0.mk hN
  have X_nn := Aside0.mk (show n0 * n1 < pw 400 from pw_mulb X_N0.out X_N1.out)
  clear hN hB
  have U5 := Aside0.mk (U4.out.trans (B5.out.mono U4.out.size))
  refine hK.out _ _ (HS4.out _ U5.out) (fun hHeld => ?_)
  clear hK K
  try simp only [Act.put, List.setIfInBounds_toArray, List.set_cons_zero, List.set_cons_succ]
  have HC : Aside0 (Calls Tryz.prog 38 #[(.slice Ab0 Lb0 cb0), (.slice Ab1 Lb1 cb1)] w5 (NuPost w5 (m0 * m1))) := ⟨rmulN (((((H_D0.out.below B1.out).below B2.out).below B3.out).below B4.out).below B5.out) (((((H_D1.out.below B1.out).below B2.out).below B3.out).below B4.out).below B5.out) (pw_lt1000 X_D0.out (by omega)) (pw_lt1000 X_D1.out (by omega))⟩
  refine Inv.oneL (i := 14) rfl (by kernel_rfl) (fun K hK => ?_)
  go_simp
  refine HC.out.mono ?_
  clear HC
  rintro e w6 ⟨v_dd, rfl, hN, hB⟩
  try go_wp2_with fail
  have B6 := Aside0.mk hB
  have T6 := Aside0.mk (T5.out.trans (hB.mono T5.out.size))
  have H_dd := Aside0.mk hN
  have X_dd := Aside0.mk (show m0 * m1 < pw 400 from pw_mulb X_D0.out X_D1.out)
  clear hN hB
  have U6 := Aside0.mk (U5.out.trans (B6.out.mono U5.out.size))
  refine hK.out _ _ (HS4.out _ U6.out) (fun hHeld => ?_)
  clear hK K
  try simp only [Act.put, List.setIfInBounds_toArray, List.set_cons_zero, List.set_cons_succ]
  have HC : Aside0 (Calls Tryz.prog 37 #[.bool (g0 != g1), v_nn, v_dd] w6 (RaPost w6 (x * y))) := ⟨smadeX (g0 != g1) (H_nn.out.below B6.out) H_dd.out (Nat.lt_of_lt_of_le X_nn.out (pw_le (by decide))) (Nat.lt_of_lt_of_le X_dd.out (pw_le (by decide))) (Nat.mul_ne_zero M00.out M01.out) (by rw [Rat.mul_def', EG0.out, EG1.out, EN0.out, EN1.out, EM0.out, EM1.out, sg_mul])⟩
  refine Inv.oneL (i := 15) rfl (by kernel_rfl) (fun K hK => ?_)
  go_simp
  refine HC.out.mono ?_
  clear HC
  rintro e w7 ⟨v_q, rfl, ⟨A_q, M_q, c_q, B_q, K_q, d_q, rfl, hNA, hNB⟩, hB⟩
  try go_wp2_with fail
  have B7 := Aside0.mk hB
  have T7 := Aside0.mk (T6.out.trans (hB.mono T6.out.size))
  obtain ⟨b_q, hb_q⟩ : ∃ b, b = decide (Rat.num (x * y) < 0) := ⟨_, rfl⟩
  try rw [← hb_q]
  have E_q := Aside0.mk hb_q
  clear hb_q
  have NA_q := Aside0.mk hNA
  have NB_q := Aside0.mk hNB
  clear hNA hNB hB
  have H_q := Aside0.mk (show Ra w7 (.agg #[.bool b_q, .slice A_q M_q c_q, .slice B_q K_q d_q]) (x * y) from by unfold Ra; rw [← E_q.out]; exact ⟨_, _, _, _, _, _, rfl, NA_q.out, NB_q.out⟩)
  have U7 := Aside0.mk (U6.out.trans (B7.out.mono U6.out.size))
  refine hK.out _ _ (HS4.out _ U7.out) (fun hHeld => ?_)
  clear hK K
  try simp only [Act.put, List.setIfInBounds_toArray, List.set_cons_zero, List.set_cons_succ]
  have HD := Aside0.mk (r3_done (neg := b_q) TR.out (by omega) H_res.out (((B4.out.trans (B5.out.mono B4.out.size)).trans (B6.out.mono (B4.out.trans (B5.out.mono B4.out.size)).size)).trans (B7.out.mono ((B4.out.trans (B5.out.mono B4.out.size)).trans (B6.out.mono (B4.out.trans (B5.out.mono B4.out.size)).size)).size)) NA_q.out NB_q.out)
  obtain ⟨⟨zc0, zc1, zc2⟩, zf0, zf1, zf2⟩ := ((((H_res.out.below B4.out).below B5.out).below B6.out).below B7.out)
  have HKK := Aside0.mk (HS4.out _ U7.out)
  refine Inv.oneL (i := 16) rfl (by kernel_rfl) (fun K hK => ?_)
  go_simp
  refine hK.out _ _ (by obtain ⟨k0, k1, k2, k3, k4, k5⟩ := HKK.out; exact ⟨cell_far3 HNE0.out k0, cell_far3 HNE0.out k1, cell_far3 HNE0.out k2, cell_far3 HNE1.out k3, cell_far3 HNE1.out k4, cell_far3 HNE1.out k5⟩) (fun hHeld => ?_)
  clear hK K
  try simp only [Act.put, List.setIfInBounds_toArray, List.set_cons_zero, List.set_cons_succ]
  refine wpAnyH_done (by kernel_rfl) ?_ _
  go_wp2_with fail
  exact bodyPost_ret (v := .agg #[.bool b_q, .slice A_q M_q c_q, .slice B_q K_q d_q]) (by simp [results, Tryz.results24, go_sem, *]) rfl (done_ra E_q.out HD.out)
set_option maxHeartbeats 8000000 in
set_option maxRecDepth 100000 in
theorem squoR {w : World} {v0 v1 : Value} {x y : Rat} (hx : Ra w v0 x) (hy : Ra w v1 y) (hbx : Rb 200 x) (hby : Rb 200 y) (h0 : y ≠ 0) : Calls Tryz.prog 10 #[v0, v1] w (RaPostE w (x / y) 0) := by
  obtain ⟨Aa0, La0, ca0, Ab0, Lb0, cb0, rfl, hn0, hd0⟩ := hx
  obtain ⟨g0, hg0⟩ : ∃ b, b = decide (x.num < 0) := ⟨_, rfl⟩
  have EG0 := Aside0.mk hg0
  rw [← hg0]
  obtain ⟨n0, hnn0⟩ : ∃ n, n = x.num.natAbs := ⟨_, rfl⟩
  obtain ⟨m0, hmm0⟩ : ∃ n, n = x.den := ⟨_, rfl⟩
  rw [← hnn0] at hn0
  rw [← hmm0] at hd0
  have EN0 := Aside0.mk hnn0
  have EM0 := Aside0.mk hmm0
  have H_N0 := Aside0.mk hn0
  have H_D0 := Aside0.mk hd0
  have BB0 := Aside0.mk hbx
  have X_N0 := Aside0.mk (show n0 < pw 200 by rw [hnn0]; exact BB0.out.1)
  have X_D0 := Aside0.mk (show m0 < pw 200 by rw [hmm0]; exact BB0.out.2)
  have M00 := Aside0.mk (show m0 ≠ 0 by rw [hmm0]; exact x.den_nz)
  clear hg0 hnn0 hmm0 hn0 hd0
  obtain ⟨Aa1, La1, ca1, Ab1, Lb1, cb1, rfl, hn1, hd1⟩ := hy
  obtain ⟨g1, hg1⟩ : ∃ b, b = decide (y.num < 0) := ⟨_, rfl⟩
  have EG1 := Aside0.mk hg1
  rw [← hg1]
  obtain ⟨n1, hnn1⟩ : ∃ n, n = y.num.natAbs := ⟨_, rfl⟩
  obtain ⟨m1, hmm1⟩ : ∃ n, n = y.den := ⟨_, rfl⟩
  rw [← hnn1] at hn1
  rw [← hmm1] at hd1
  have EN1 := Aside0.mk hnn1
  have EM1 := Aside0.mk hmm1
  have H_N1 := Aside0.mk hn1
  have H_D1 := Aside0.mk hd1
  have BB1 := Aside0.mk hby
  have X_N1 := Aside0.mk (show n1 < pw 200 by rw [hnn1]; exact BB1.out.1)
  have X_D1 := Aside0.mk (show m1 < pw 200 by rw [hmm1]; exact BB1.out.2)
  have M01 := Aside0.mk (show m1 ≠ 0 by rw [hmm1]; exact y.den_nz)
  clear hg1 hnn1 hmm1 hn1 hd1
  have HY0 := Aside0.mk h0
  have N01 := Aside0.mk (show n1 ≠ 0 by rw [EN1.out]; exact fun h => h0 (Rat.num_eq_zero.1 (by omega)))
  have hl := Nu_len0 H_N1.out
  have hLp : 0 < La1 := Nat.pos_of_ne_zero fun h => N01.out (hl.1 h)
  have hb1 : ((La1 : Int) == 0) = false := by rw [beq_eq_false_iff_ne]; omega
  have hb2 : (La1 == 0) = false := by rw [beq_eq_false_iff_ne]; omega
  clear h0 hl
  go_enter Tryz.func10, Tryz.ntmps10
  have B1 := Aside0.mk (below_alloc (Below.refl w.heap.size w) (.cells #[.bool g0, .slice Aa0 La0 ca0, .slice Ab0 Lb0 cb0] 24))
  have T1 := Aside0.mk (B1.out.mono (Nat.le_refl _))
  have H_bx0 := Aside0.mk (bx w (w.heap.size) (.bool g0) (.slice Aa0 La0 ca0) (.slice Ab0 Lb0 cb0) 24 (by simp))
  have B2 := Aside0.mk (below_alloc (Below.refl (w.alloc (.cells #[.bool g0, .slice Aa0 La0 ca0, .slice Ab0 Lb0 cb0] 24)).heap.size (w.alloc (.cells #[.bool g0, .slice Aa0 La0 ca0, .slice Ab0 Lb0 cb0] 24))) (.cells #[.bool g1, .slice Aa1 La1 ca1, .slice Ab1 Lb1 cb1] 24))
  have T2 := Aside0.mk (T1.out.trans (B2.out.mono T1.out.size))
  have H_bx1 := Aside0.mk (bx (w.alloc (.cells #[.bool g0, .slice Aa0 La0 ca0, .slice Ab0 Lb0 cb0] 24)) (w.heap.size + 1) (.bool g1) (.slice Aa1 La1 ca1) (.slice Ab1 Lb1 cb1) 24 (by simp))
  have B3 := Aside0.mk (below_alloc (Below.refl ((w.alloc (.cells #[.bool g0, .slice Aa0 La0 ca0, .slice Ab0 Lb0 cb0] 24)).alloc (.cells #[.bool g1, .slice Aa1 La1 ca1, .slice Ab1 Lb1 cb1] 24)).heap.size ((w.alloc (.cells #[.bool g0, .slice Aa0 La0 ca0, .slice Ab0 Lb0 cb0] 24)).alloc (.cells #[.bool g1, .slice Aa1 La1 ca1, .slice Ab1 Lb1 cb1] 24))) (.cells #[.bool false, .slice none 0 0, .slice none 0 0] 24))
  have T3 := Aside0.mk (T2.out.trans (B3.out.mono T2.out.size))
  have H_res := Aside0.mk (bx ((w.alloc (.cells #[.bool g0, .slice Aa0 La0 ca0, .slice Ab0 Lb0 cb0] 24)).alloc (.cells #[.bool g1, .slice Aa1 La1 ca1, .slice Ab1 Lb1 cb1] 24)) (w.heap.size + 2) (.bool false) (.slice none 0 0) (.slice none 0 0) 24 (by simp))
  have TR := Aside0.mk T3.out
  have HNE0 := Aside0.mk (show w.heap.size + 2 ≠ w.heap.size by omega)
  have HNE1 := Aside0.mk (show w.heap.size + 2 ≠ w.heap.size + 1 by omega)
  obtain ⟨⟨hu0, hu1, hu2⟩, _⟩ := (H_bx1.out.below B3.out)
  go_wp2_with fail
  have B4 := Aside0.mk (Below.drew (Below.refl (((w.alloc (.cells #[.bool g0, .slice Aa0 La0 ca0, .slice Ab0 Lb0 cb0] 24)).alloc (.cells #[.bool g1, .slice Aa1 La1 ca1, .slice Ab1 Lb1 cb1] 24)).alloc (.cells #[.bool false, .slice none 0 0, .slice none 0 0] 24)).heap.size (((w.alloc (.cells #[.bool g0, .slice Aa0 La0 ca0, .slice Ab0 Lb0 cb0] 24)).alloc (.cells #[.bool g1, .slice Aa1 La1 ca1, .slice Ab1 Lb1 cb1] 24)).alloc (.cells #[.bool false, .slice none 0 0, .slice none 0 0] 24))))
  have T4 := Aside0.mk (T3.out.trans (B4.out.mono T3.out.size))
  have HS4 := Aside0.mk (fun (W : World) (hW : Below ((((w.alloc (.cells #[.bool g0, .slice Aa0 La0 ca0, .slice Ab0 Lb0 cb0] 24)).alloc (.cells #[.bool g1, .slice Aa1 La1 ca1, .slice Ab1 Lb1 cb1] 24)).alloc (.cells #[.bool false, .slice none 0 0, .slice none 0 0] 24)).drew).heap.size ((((w.alloc (.cells #[.bool g0, .slice Aa0 La0 ca0, .slice Ab0 Lb0 cb0] 24)).alloc (.cells #[.bool g1, .slice Aa1 La1 ca1, .slice Ab1 Lb1 cb1] 24)).alloc (.cells #[.bool false, .slice none 0 0, .slice none 0 0] 24)).drew) W) => show W.cell? ⟨w.heap.size, 0, none⟩ = some (.bool g0) ∧ W.cell? ⟨w.heap.size, 1, none⟩ = some (.slice Aa0 La0 ca0) ∧ W.cell? ⟨w.heap.size, 2, none⟩ = some (.slice Ab0 Lb0 cb0) ∧ W.cell? ⟨w.heap.size + 1, 0, none⟩ = some (.bool g1) ∧ W.cell? ⟨w.heap.size + 1, 1, none⟩ = some (.slice Aa1 La1 ca1) ∧ W.cell? ⟨w.heap.size + 1, 2, none⟩ = some (.slice Ab1 Lb1 cb1) from ⟨((((H_bx0.out.below B2.out).below B3.out).below B4.out).below hW).1.1, ((((H_bx0.out.below B2.out).below B3.out).below B4.out).below hW).1.2.1, ((((H_bx0.out.below B2.out).below B3.out).below B4.out).below hW).1.2.2, (((H_bx1.out.below B3.out).below B4.out).below hW).1.1, (((H_bx1.out.below B3.out).below B4.out).below hW).1.2.1, (((H_bx1.out.below B3.out).below B4.out).below hW).1.2.2⟩)
  have U4 := Aside0.mk (Below.refl ((((w.alloc (.cells #[.bool g0, .slice Aa0 La0 ca0, .slice Ab0 Lb0 cb0] 24)).alloc (.cells #[.bool g1, .slice Aa1 La1 ca1, .slice Ab1 Lb1 cb1] 24)).alloc (.cells #[.bool false, .slice none 0 0, .slice none 0 0] 24)).drew).heap.size ((((w.alloc (.cells #[.bool g0, .slice Aa0 La0 ca0, .slice Ab0 Lb0 cb0] 24)).alloc (.cells #[.bool g1, .slice Aa1 La1 ca1, .slice Ab1 Lb1 cb1] 24)).alloc (.cells #[.bool false, .slice none 0 0, .slice none 0 0] 24)).drew))
  refine wp_region_held_drew (S := fun W => W.cell? ⟨w.heap.size, 0, none⟩ = some (.bool g0) ∧ W.cell? ⟨w.heap.size, 1, none⟩ = some (.slice Aa0 La0 ca0) ∧ W.cell? ⟨w.heap.size, 2, none⟩ = some (.slice Ab0 Lb0 cb0) ∧ W.cell? ⟨w.heap.size + 1, 0, none⟩ = some (.bool g1) ∧ W.cell? ⟨w.heap.size + 1, 1, none⟩ = some (.slice Aa1 La1 ca1) ∧ W.cell? ⟨w.heap.size + 1, 2, none⟩ = some (.slice Ab1 Lb1 cb1)) (by kernel_rfl) (HS4.out _ (Below.refl _ _)) (fun hHeld => ?_)
  refine Inv.takeL (i := 0) (v := ?v4_0) rfl (by kernel_rfl) (by kernel_rfl) (by kernel_rfl) (fun _ _ _ h => h) (by rfl) ?hy4_0 (by assumption) ?rest4_0
  case hy4_0 => ((intro w hSw; (try dsimp only at hSw); go_simp) <;> with_reducible rfl)
  try simp only [Act.put, List.setIfInBounds_toArray, List.set_cons_zero, List.set_cons_succ]
  refine Inv.takeL (i := 1) (v := ?v4_1) rfl (by kernel_rfl) (by kernel_rfl) (by kernel_rfl) (fun _ _ _ h => h) (by rfl) ?hy4_1 (by assumption) ?rest4_1
  case hy4_1 => ((intro w hSw; (try dsimp only at hSw); go_simp) <;> with_reducible rfl)
  try simp only [Act.put, List.setIfInBounds_toArray, List.set_cons_zero, List.set_cons_succ]
  refine Inv.takeL (i := 2) (v := ?v4_2) rfl (by kernel_rfl) (by kernel_rfl) (by kernel_rfl) (fun _ _ _ h => h) (by rfl) ?hy4_2 (by assumption) ?rest4_2
  case hy4_2 => ((intro w hSw; (try dsimp only at hSw); go_simp) <;> with_reducible rfl)
  try simp only [Act.put, List.setIfInBounds_toArray, List.set_cons_zero, List.set_cons_succ]
  refine Inv.takeL (i := 3) (v := ?v4_3) rfl (by kernel_rfl) (by kernel_rfl) (by kernel_rfl) (fun _ _ _ h => h) (by rfl) ?hy4_3 (by assumption) ?rest4_3
  case hy4_3 => ((intro w hSw; (try dsimp only at hSw); go_simp) <;> with_reducible rfl)
  try simp only [Act.put, List.setIfInBounds_toArray, List.set_cons_zero, List.set_cons_succ]
  refine Inv.takeL (i := 4) (v := ?v4_4) rfl (by kernel_rfl) (by kernel_rfl) (by kernel_rfl) (fun _ _ _ h => h) (by rfl) ?hy4_4 (by assumption) ?rest4_4
  case hy4_4 => ((intro w hSw; (try dsimp only at hSw); go_simp) <;> with_reducible rfl)
  try simp only [Act.put, List.setIfInBounds_toArray, List.set_cons_zero, List.set_cons_succ]
  refine Inv.takeL (i := 5) (v := ?v4_5) rfl (by kernel_rfl) (by kernel_rfl) (by kernel_rfl) (fun _ _ _ h => h) (by rfl) ?hy4_5 (by assumption) ?rest4_5
  case hy4_5 => ((intro w hSw; (try dsimp only at hSw); go_simp) <;> with_reducible rfl)
  try simp only [Act.put, List.setIfInBounds_toArray, List.set_cons_zero, List.set_cons_succ]
  refine Inv.takeL (i := 6) (v := ?v4_6) rfl (by kernel_rfl) (by kernel_rfl) (by kernel_rfl) (fun _ _ _ h => h) (by rfl) ?hy4_6 (by assumption) ?rest4_6
  case hy4_6 => ((intro w hSw; (try dsimp only at hSw); go_simp) <;> with_reducible rfl)
  try simp only [Act.put, List.setIfInBounds_toArray, List.set_cons_zero, List.set_cons_succ]
  refine Inv.takeL (i := 7) (v := ?v4_7) rfl (by kernel_rfl) (by kernel_rfl) (by kernel_rfl) (fun _ _ _ h => h) (by rfl) ?hy4_7 (by assumption) ?rest4_7
  case hy4_7 => ((intro w hSw; (try dsimp only at hSw); go_simp) <;> with_reducible rfl)
  try simp only [Act.put, List.setIfInBounds_toArray, List.set_cons_zero, List.set_cons_succ]
  refine Inv.takeL (i := 8) (v := ?v4_8) rfl (by kernel_rfl) (by kernel_rfl) (by kernel_rfl) (fun _ _ _ h => h) (by rfl) ?hy4_8 (by assumption) ?rest4_8
  case hy4_8 => ((intro w hSw; (try dsimp only at hSw); go_simp) <;> with_reducible rfl)
  try simp only [Act.put, List.setIfInBounds_toArray, List.set_cons_zero, List.set_cons_succ]
  refine Inv.takeL (i := 10) (v := ?v4_10) rfl (by kernel_rfl) (by kernel_rfl) (by kernel_rfl) (fun _ _ _ h => h) (by rfl) ?hy4_10 (by assumption) ?rest4_10
  case hy4_10 => ((intro w hSw; (try dsimp only at hSw); go_simp) <;> with_reducible rfl)
  try simp only [Act.put, List.setIfInBounds_toArray, List.set_cons_zero, List.set_cons_succ]
  refine Inv.takeL (i := 11) (v := ?v4_11) rfl (by kernel_rfl) (by kernel_rfl) (by kernel_rfl) (fun _ _ _ h => h) (by rfl) ?hy4_11 (by assumption) ?rest4_11
  case hy4_11 => ((intro w hSw; (try dsimp only at hSw); go_simp) <;> with_reducible rfl)
  try simp only [Act.put, List.setIfInBounds_toArray, List.set_cons_zero, List.set_cons_succ]
  refine Inv.takeL (i := 12) (v := ?v4_12) rfl (by kernel_rfl) (by kernel_rfl) (by kernel_rfl) (fun _ _ _ h => h) (by rfl) ?hy4_12 (by assumption) ?rest4_12
  case hy4_12 => ((intro w hSw; (try dsimp only at hSw); go_simp) <;> with_reducible rfl)
  try simp only [Act.put, List.setIfInBounds_toArray, List.set_cons_zero, List.set_cons_succ]
  refine Inv.takeL (i := 13) (v := ?v4_13) rfl (by kernel_rfl) (by kernel_rfl) (by kernel_rfl) (fun _ _ _ h => h) (by rfl) ?hy4_13 (by assumption) ?rest4_13
  case hy4_13 => ((intro w hSw; (try dsimp only at hSw); go_simp) <;> with_reducible rfl)
  try simp only [Act.put, List.setIfInBounds_toArray, List.set_cons_zero, List.set_cons_succ]
  have HC : Aside0 (Calls Tryz.prog 38 #[(.slice Aa0 La0 ca0), (.slice Ab1 Lb1 cb1)] ((((w.alloc (.cells #[.bool g0, .slice Aa0 La0 ca0, .slice Ab0 Lb0 cb0] 24)).alloc (.cells #[.bool g1, .slice Aa1 La1 ca1, .slice Ab1 Lb1 cb1] 24)).alloc (.cells #[.bool false, .slice none 0 0, .slice none 0 0] 24)).drew) (NuPost ((((w.alloc (.cells #[.bool g0, .slice Aa0 La0 ca0, .slice Ab0 Lb0 cb0] 24)).alloc (.cells #[.bool g1, .slice Aa1 La1 ca1, .slice Ab1 Lb1 cb1] 24)).alloc (.cells #[.bool false, .slice none 0 0, .slice none 0 0] 24)).drew) (n0 * m1))) := ⟨rmulN ((((H_N0.out.below B1.out).below B2.out).below B3.out).below B4.out) ((((H_D1.out.below B1.out).below B2.out).below B3.out).below B4.out) (pw_lt1000 X_N0.out (by omega)) (pw_lt1000 X_D1.out (by omega))⟩
  refine Inv.oneL (i := 9) rfl (by kernel_rfl) (fun K hK => ?_)
  go_simp
  refine HC.out.mono ?_
  clear HC
  rintro e w5 ⟨v_nn, rfl, hN, hB⟩
  try go_wp2_with fail
  have B5 := Aside0.mk hB
  have T5 := Aside0.mk (T4.out.trans (hB.mono T4.out.size))
  have H_nn := Aside0.mk hN
  have X_nn := Aside0.mk (show n0 * m1 < pw 400 from pw_mulb X_N0.out X_D1.out)
  clear hN hB
  have U5 := Aside0.mk (U4.out.trans (B5.out.mono U4.out.size))
  refine hK.out _ _ (HS4.out _ U5.out) (fun hHeld => ?_)
  clear hK K
  try simp only [Act.put, List.setIfInBounds_toArray, List.set_cons_zero, List.set_cons_succ]
  have HC : Aside0 (Calls Tryz.prog 38 #[(.slice Ab0 Lb0 cb0), (.slice Aa1 La1 ca1)] w5 (NuPost w5 (m0 * n1))) := ⟨rmulN (((((H_D0.out.below B1.out).below B2.out).below B3.out).below B4.out).below B5.out) (((((H_N1.out.below B1.out).below B2.out).below B3.out).below B4.out).below B5.out) (pw_lt1000 X_D0.out (by omega)) (pw_lt1000 X_N1.out (by omega))⟩
  refine Inv.oneL (i := 14) rfl (by kernel_rfl) (fun K hK => ?_)
  go_simp
  refine HC.out.mono ?_
  clear HC
  rintro e w6 ⟨v_dd, rfl, hN, hB⟩
  try go_wp2_with fail
  have B6 := Aside0.mk hB
  have T6 := Aside0.mk (T5.out.trans (hB.mono T5.out.size))
  have H_dd := Aside0.mk hN
  have X_dd := Aside0.mk (show m0 * n1 < pw 400 from pw_mulb X_D0.out X_N1.out)
  clear hN hB
  have U6 := Aside0.mk (U5.out.trans (B6.out.mono U5.out.size))
  refine hK.out _ _ (HS4.out _ U6.out) (fun hHeld => ?_)
  clear hK K
  try simp only [Act.put, List.setIfInBounds_toArray, List.set_cons_zero, List.set_cons_succ]
  have HC : Aside0 (Calls Tryz.prog 37 #[.bool (g0 != g1), v_nn, v_dd] w6 (RaPost w6 (x / y))) := ⟨smadeX (g0 != g1) (H_nn.out.below B6.out) H_dd.out (Nat.lt_of_lt_of_le X_nn.out (pw_le (by decide))) (Nat.lt_of_lt_of_le X_dd.out (pw_le (by decide))) (Nat.mul_ne_zero M00.out N01.out) (by rw [quo_eq HY0.out, EG0.out, EG1.out, EN0.out, EN1.out, EM0.out, EM1.out])⟩
  refine Inv.oneL (i := 15) rfl (by kernel_rfl) (fun K hK => ?_)
  go_simp
  refine HC.out.mono ?_
  clear HC
  rintro e w7 ⟨v_q, rfl, ⟨A_q, M_q, c_q, B_q, K_q, d_q, rfl, hNA, hNB⟩, hB⟩
  try go_wp2_with fail
  have B7 := Aside0.mk hB
  have T7 := Aside0.mk (T6.out.trans (hB.mono T6.out.size))
  obtain ⟨b_q, hb_q⟩ : ∃ b, b = decide (Rat.num (x / y) < 0) := ⟨_, rfl⟩
  try rw [← hb_q]
  have E_q := Aside0.mk hb_q
  clear hb_q
  have NA_q := Aside0.mk hNA
  have NB_q := Aside0.mk hNB
  clear hNA hNB hB
  have H_q := Aside0.mk (show Ra w7 (.agg #[.bool b_q, .slice A_q M_q c_q, .slice B_q K_q d_q]) (x / y) from by unfold Ra; rw [← E_q.out]; exact ⟨_, _, _, _, _, _, rfl, NA_q.out, NB_q.out⟩)
  have U7 := Aside0.mk (U6.out.trans (B7.out.mono U6.out.size))
  refine hK.out _ _ (HS4.out _ U7.out) (fun hHeld => ?_)
  clear hK K
  try simp only [Act.put, List.setIfInBounds_toArray, List.set_cons_zero, List.set_cons_succ]
  have HD := Aside0.mk (r3_done (neg := b_q) TR.out (by omega) H_res.out (((B4.out.trans (B5.out.mono B4.out.size)).trans (B6.out.mono (B4.out.trans (B5.out.mono B4.out.size)).size)).trans (B7.out.mono ((B4.out.trans (B5.out.mono B4.out.size)).trans (B6.out.mono (B4.out.trans (B5.out.mono B4.out.size)).size)).size)) NA_q.out NB_q.out)
  obtain ⟨⟨zc0, zc1, zc2⟩, zf0, zf1, zf2⟩ := ((((H_res.out.below B4.out).below B5.out).below B6.out).below B7.out)
  have HKK := Aside0.mk (HS4.out _ U7.out)
  refine Inv.oneL (i := 16) rfl (by kernel_rfl) (fun K hK => ?_)
  go_simp
  refine hK.out _ _ (by obtain ⟨k0, k1, k2, k3, k4, k5⟩ := HKK.out; exact ⟨cell_far3 HNE0.out k0, cell_far3 HNE0.out k1, cell_far3 HNE0.out k2, cell_far3 HNE1.out k3, cell_far3 HNE1.out k4, cell_far3 HNE1.out k5⟩) (fun hHeld => ?_)
  clear hK K
  try simp only [Act.put, List.setIfInBounds_toArray, List.set_cons_zero, List.set_cons_succ]
  refine Inv.takeL (i := 17) (v := ?v4_17) rfl (by kernel_rfl) (by kernel_rfl) (by kernel_rfl) (fun _ _ _ h => h) (by rfl) ?hy4_17 (by assumption) ?rest4_17
  case hy4_17 => ((intro w hSw; (try dsimp only at hSw); go_simp) <;> with_reducible rfl)
  try simp only [Act.put, List.setIfInBounds_toArray, List.set_cons_zero, List.set_cons_succ]
  refine wpAnyH_done (by kernel_rfl) ?_ _
  go_wp2_with fail
  exact bodyPost_ret (v := .tuple #[.agg #[.bool b_q, .slice A_q M_q c_q, .slice B_q K_q d_q], .int .i64 0]) (by simp [results, Tryz.results10, go_sem, *]) rfl (done_raE E_q.out HD.out)
set_option maxHeartbeats 8000000 in
set_option maxRecDepth 100000 in
theorem squo0R {w : World} {v0 v1 : Value} {x y : Rat} (hx : Ra w v0 x) (hy : Ra w v1 y) (hbx : Rb 200 x) (hby : Rb 200 y) (h0 : y = 0) : Calls Tryz.prog 10 #[v0, v1] w (R3PostE w false 0 0 5) := by
  obtain ⟨Aa0, La0, ca0, Ab0, Lb0, cb0, rfl, hn0, hd0⟩ := hx
  obtain ⟨g0, hg0⟩ : ∃ b, b = decide (x.num < 0) := ⟨_, rfl⟩
  have EG0 := Aside0.mk hg0
  rw [← hg0]
  obtain ⟨n0, hnn0⟩ : ∃ n, n = x.num.natAbs := ⟨_, rfl⟩
  obtain ⟨m0, hmm0⟩ : ∃ n, n = x.den := ⟨_, rfl⟩
  rw [← hnn0] at hn0
  rw [← hmm0] at hd0
  have EN0 := Aside0.mk hnn0
  have EM0 := Aside0.mk hmm0
  have H_N0 := Aside0.mk hn0
  have H_D0 := Aside0.mk hd0
  have BB0 := Aside0.mk hbx
  have X_N0 := Aside0.mk (show n0 < pw 200 by rw [hnn0]; exact BB0.out.1)
  have X_D0 := Aside0.mk (show m0 < pw 200 by rw [hmm0]; exact BB0.out.2)
  have M00 := Aside0.mk (show m0 ≠ 0 by rw [hmm0]; exact x.den_nz)
  clear hg0 hnn0 hmm0 hn0 hd0
  obtain ⟨Aa1, La1, ca1, Ab1, Lb1, cb1, rfl, hn1, hd1⟩ := hy
  obtain ⟨g1, hg1⟩ : ∃ b, b = decide (y.num < 0) := ⟨_, rfl⟩
  have EG1 := Aside0.mk hg1
  rw [← hg1]
  obtain ⟨n1, hnn1⟩ : ∃ n, n = y.num.natAbs := ⟨_, rfl⟩
  obtain ⟨m1, hmm1⟩ : ∃ n, n = y.den := ⟨_, rfl⟩
  rw [← hnn1] at hn1
  rw [← hmm1] at hd1
  have EN1 := Aside0.mk hnn1
  have EM1 := Aside0.mk hmm1
  have H_N1 := Aside0.mk hn1
  have H_D1 := Aside0.mk hd1
  have BB1 := Aside0.mk hby
  have X_N1 := Aside0.mk (show n1 < pw 200 by rw [hnn1]; exact BB1.out.1)
  have X_D1 := Aside0.mk (show m1 < pw 200 by rw [hmm1]; exact BB1.out.2)
  have M01 := Aside0.mk (show m1 ≠ 0 by rw [hmm1]; exact y.den_nz)
  clear hg1 hnn1 hmm1 hn1 hd1
  have hL : La1 = 0 := (Nu_len0 H_N1.out).2 (by rw [EN1.out, h0]; rfl)
  clear h0
  have hb1 : ((La1 : Int) == 0) = true := by rw [hL]; rfl
  clear hL
  go_enter Tryz.func10, Tryz.ntmps10
  have B1 := Aside0.mk (below_alloc (Below.refl w.heap.size w) (.cells #[.bool g0, .slice Aa0 La0 ca0, .slice Ab0 Lb0 cb0] 24))
  have T1 := Aside0.mk (B1.out.mono (Nat.le_refl _))
  have H_bx0 := Aside0.mk (bx w (w.heap.size) (.bool g0) (.slice Aa0 La0 ca0) (.slice Ab0 Lb0 cb0) 24 (by simp))
  have B2 := Aside0.mk (below_alloc (Below.refl (w.alloc (.cells #[.bool g0, .slice Aa0 La0 ca0, .slice Ab0 Lb0 cb0] 24)).heap.size (w.alloc (.cells #[.bool g0, .slice Aa0 La0 ca0, .slice Ab0 Lb0 cb0] 24))) (.cells #[.bool g1, .slice Aa1 La1 ca1, .slice Ab1 Lb1 cb1] 24))
  have T2 := Aside0.mk (T1.out.trans (B2.out.mono T1.out.size))
  have H_bx1 := Aside0.mk (bx (w.alloc (.cells #[.bool g0, .slice Aa0 La0 ca0, .slice Ab0 Lb0 cb0] 24)) (w.heap.size + 1) (.bool g1) (.slice Aa1 La1 ca1) (.slice Ab1 Lb1 cb1) 24 (by simp))
  have B3 := Aside0.mk (below_alloc (Below.refl ((w.alloc (.cells #[.bool g0, .slice Aa0 La0 ca0, .slice Ab0 Lb0 cb0] 24)).alloc (.cells #[.bool g1, .slice Aa1 La1 ca1, .slice Ab1 Lb1 cb1] 24)).heap.size ((w.alloc (.cells #[.bool g0, .slice Aa0 La0 ca0, .slice Ab0 Lb0 cb0] 24)).alloc (.cells #[.bool g1, .slice Aa1 La1 ca1, .slice Ab1 Lb1 cb1] 24))) (.cells #[.bool false, .slice none 0 0, .slice none 0 0] 24))
  have T3 := Aside0.mk (T2.out.trans (B3.out.mono T2.out.size))
  have H_res := Aside0.mk (bx ((w.alloc (.cells #[.bool g0, .slice Aa0 La0 ca0, .slice Ab0 Lb0 cb0] 24)).alloc (.cells #[.bool g1, .slice Aa1 La1 ca1, .slice Ab1 Lb1 cb1] 24)) (w.heap.size + 2) (.bool false) (.slice none 0 0) (.slice none 0 0) 24 (by simp))
  have TR := Aside0.mk T3.out
  have HNE0 := Aside0.mk (show w.heap.size + 2 ≠ w.heap.size by omega)
  have HNE1 := Aside0.mk (show w.heap.size + 2 ≠ w.heap.size + 1 by omega)
  obtain ⟨⟨hu0, hu1, hu2⟩, _⟩ := (H_bx1.out.below B3.out)
  have HD := Aside0.mk (r3_done (neg := false) TR.out (by omega) H_res.out (Below.refl _ _) (Nu_nil _) (Nu_nil _))
  obtain ⟨⟨zc0, zc1, zc2⟩, zf0, zf1, zf2⟩ := H_res.out
  go_wp2_with fail
  exact bodyPost_ret (v := .tuple #[.agg #[.bool false, .slice none 0 0, .slice none 0 0], .int .i64 5]) (by simp [results, Tryz.results10, go_sem, *]) rfl (by first | exact r3_postE HD.out | exact ⟨_, rfl, ⟨none, 0, 0, none, 0, 0, rfl, Nu_nil _, Nu_nil _⟩, TR.out⟩)
end Go.Proofs.YtklhpobphloehaaGreatDoor.G
/- The reference's functions of rational numbers: Neg, Sub, Abs, Add, Cmp, Same. -/
set_option linter.unusedVariables false
namespace Go.Proofs.YtklhpobphloehaaGreatDoor.G
open Go.RowKit Go.Proofs.YtklhpobphloehaaGreatDoorW.PrintWords Go.Proofs.YtklhpobphloehaaGreatDoorW.PrintLast Go.Proofs.YtklhpobphloehaaGreatDoor.Nn

theorem nums_noone (l : List Int) : ∀ u ∈ nums .u32 l, u.oneCell' = true := fun u hu => by
  obtain ⟨x, _, rfl⟩ := List.mem_map.1 hu
  rfl
/-- Limbs are copied behind an empty row without room: nothing that was is touched. -/
theorem wp_append_cap0 {o : Oper} {a : Act} {K : Act → World → Prop} {Q : Exit → Act → World → Prop} (W : World) (s x : Operand) (ho : o.op = .call { callee := .builtin .append, args := #[s, x], argTypes := #[22, 22] })
    {b : Addr} (hs : a.eval s = .slice (some b) 0 0) {A : Option Addr} {m c : Nat} {l : List Int} (hx : a.eval x = .slice A m c) (hR : CU W A m l) (hm : m ≤ 35184372088832)
    (h : ∀ A1 c1 w1, CU w1 A1 m l → m ≤ c1 → Below W.heap.size W w1 → K (a.put o.dst (.slice A1 m c1)) w1) : o.wp Tryz.prog a W K Q := by
  obtain ⟨hl, hlb, hcs⟩ := CU_reads hR
  obtain ⟨i, hi, hz, hsz, hby⟩ := info_parts infoU
  have key : ∃ A1 c1 w1, (Builtin.append_ #[22, 22] o.type #[.slice (some b) 0 0, .slice A m c]).run Tryz.prog W = .ok (.slice A1 m c1) w1 ∧ CU w1 A1 m l ∧ m ≤ c1 ∧ Below W.heap.size W w1 := by
    rcases Nat.eq_zero_or_pos m with hm0 | hm0
    · subst hm0
      obtain rfl : l = [] := List.eq_nil_of_length_eq_zero hl
      refine ⟨some b, 0, W, ?_, reads_CU ⟨rfl, by simp, fun h => absurd h (by simp)⟩, Nat.le_refl _, Below.refl _ _⟩
      cases A with
      | none => simp [Builtin.append_, run_underlying Tryz.underlying22, sizeOf, typeInfo, hi, Builtin.lenOf, Builtin.firstCells, storeCells]
      | some ad => simp [Builtin.append_, run_underlying Tryz.underlying22, sizeOf, typeInfo, hi, Builtin.lenOf, Builtin.firstCells, storeCells, loadCells, loadCellsFrom]
    · obtain ⟨ad, rfl, hc⟩ := hcs hm0
      have hcell : ∀ j u, (nums .u32 l)[j]? = some u → W.cell? (ad.add j) = some u := fun j u hj => by
        have hj2 : j < l.length := by
          rcases Nat.lt_or_ge j l.length with h | h
          · exact h
          · rw [List.getElem?_eq_none (by rw [nums_length]; exact h)] at hj; cases hj
        have h1 := hc j (by omega)
        rw [h1]
        simp only [nums, List.getElem?_map, List.getElem?_eq_getElem hj2, Option.map_some, Option.some.injEq] at hj
        rw [← hj, List.getD_eq_getElem?_getD, List.getElem?_eq_getElem hj2]
        rfl
      have hr := run_append_grow (P := Tryz.prog) W 22 o.type 49 i (.int .u32 0) Tryz.underlying22 hi hz b 0 0 [] (by simp) (fun j v h => by simp at h) ad m c (nums .u32 l) (by rw [nums_length, hl, hsz, Nat.mul_one]) hcell (by omega) (by omega) (growslice_fits (by omega) (by rw [hby]; omega))
      rw [Nat.zero_add] at hr
      refine ⟨_, _, _, hr, ?_, grownCap_ge _ _ _ _, ?_⟩
      · have hge := grownCap_ge W m 0 49
        have hle := grownCap_le_maxLen W m 0 49 (by simp only [maxLen]; omega)
        have hown : (W.drew.alloc (.cells (([] : List Value).toArray ++ (nums .u32 l).toArray ++ Builtin.zeroCells (Value.int .u32 0).cells (grownCap W m 0 49 - m)) 49)).ownsRow W.heap.size 49 1 (.slice (some ⟨W.heap.size, 0, none⟩) m (grownCap W m 0 49)) m (nums .u32 l) := by
          refine ⟨by rw [nums_length, hl, Nat.mul_one], .inr ⟨W.heap.size, _, _, rfl, Nat.le_refl _, heap_alloc_new W.drew _, hge, hle, ?_, ?_⟩⟩
          · simp only [Array.size_append, List.size_toArray, List.length_nil, size_zeroCells, nums_length, hl]
            have : (Value.int .u32 0).cells.size = 1 := rfl
            rw [this]
            omega
          · simp only [Array.toList_append, List.nil_append]
            rw [Nat.mul_one, ← hl, ← nums_length .u32 l]
            exact List.take_left
        rw [← hl] at hown ⊢
        obtain ⟨A2, c2, e, h2, h3⟩ := RU_slice (RU_own hown)
        cases e
        exact h3
      · exact ⟨rfl, rfl, rfl, by simp, fun k hk => by first | exact heap_alloc_old W.drew _ hk | exact heap_alloc_old W.drew _ k hk⟩
  obtain ⟨A1, c1, w1, h1, h2, h3, h4⟩ := key
  unfold Oper.wp execOp
  simp only [ho, resolve, invoke, builtin, Sem.run_bind, Sem.run_pure, Result.andThen_ok, List.map_toArray, List.map_cons, List.map_nil, hs, hx, h1]
  exact h A1 c1 w1 h2 h3 h4
theorem Nu_reads {w : World} {A : Option Addr} {L c n : Nat} (h : Nu w (.slice A L c) n) : CU w A L (digs n) := by
  obtain ⟨A', c', e, h1, h2⟩ := h
  cases e
  exact h2
theorem nu_copy {w w1 : World} {A A1 : Option Addr} {L c c1 n : Nat} (h : Nu w (.slice A L c) n) (hc : L ≤ c1) (hC : CU w1 A1 L (digs n)) : Nu w1 (.slice A1 L c1) n := by
  obtain ⟨A', c', e, h1, h2⟩ := h
  cases e
  exact ⟨A1, c1, rfl, hc, hC⟩
theorem Nu_small {w : World} {A : Option Addr} {L c n k : Nat} (h : Nu w (.slice A L c) n) (hn : n < pw k) (hk : k ≤ 1000) : L ≤ 1000 := by
  obtain ⟨A', c', e, h1, h2⟩ := h
  cases e
  have := digs_length_le hn
  omega
set_option maxHeartbeats 8000000 in
set_option maxRecDepth 100000 in
theorem snegR {w : World} {v0 : Value} {x : Rat} (hx : Ra w v0 x) (hbx : Rb 200 x) : Calls Tryz.prog 16 #[v0] w (RaPost w (-x)) := by
  obtain ⟨Aa0, La0, ca0, Ab0, Lb0, cb0, rfl, hn0, hd0⟩ := hx
  obtain ⟨g0, hg0⟩ : ∃ b, b = decide (x.num < 0) := ⟨_, rfl⟩
  have EG0 := Aside0.mk hg0
  rw [← hg0]
  obtain ⟨n0, hnn0⟩ : ∃ n, n = x.num.natAbs := ⟨_, rfl⟩
  obtain ⟨m0, hmm0⟩ : ∃ n, n = x.den := ⟨_, rfl⟩
  rw [← hnn0] at hn0
  rw [← hmm0] at hd0
  have EN0 := Aside0.mk hnn0
  have EM0 := Aside0.mk hmm0
  have H_N0 := Aside0.mk hn0
  have H_D0 := Aside0.mk hd0
  have BB0 := Aside0.mk hbx
  have X_N0 := Aside0.mk (show n0 < pw 200 by rw [hnn0]; exact BB0.out.1)
  have X_D0 := Aside0.mk (show m0 < pw 200 by rw [hmm0]; exact BB0.out.2)
  have M00 := Aside0.mk (show m0 ≠ 0 by rw [hmm0]; exact x.den_nz)
  clear hg0 hnn0 hmm0 hn0 hd0
  have hl := Nu_len0 H_N0.out
  have HSM := Aside0.mk (And.intro (Nu_small H_N0.out X_N0.out (by decide)) (Nu_small H_D0.out X_D0.out (by decide)))
  have hneg : (decide ((-x).num < 0)) = (!g0 && decide (n0 ≠ 0)) := by
    rw [EG0.out, EN0.out, Rat.neg_num, ← negB_num]
    unfold negB
    cases decide (x.num < 0) <;> simp
  have HNG := Aside0.mk hneg
  clear hneg
  have HNN := Aside0.mk (show (-x).num.natAbs = n0 by rw [EN0.out, Rat.neg_num, Int.natAbs_neg])
  have HDD := Aside0.mk (show (-x).den = m0 by rw [EM0.out, Rat.neg_den])
  cases g0 with
  | true =>
    have hbq : decide ((-x).num < 0) = false := by rw [HNG.out]; rfl
    have HBQ := Aside0.mk hbq.symm
    clear hbq
    clear hl
    go_enter Tryz.func16, Tryz.ntmps16
    have B1 := Aside0.mk (below_alloc (Below.refl w.heap.size w) (.cells #[.bool true, .slice Aa0 La0 ca0, .slice Ab0 Lb0 cb0] 24))
    have T1 := Aside0.mk (B1.out.mono (Nat.le_refl _))
    have H_bx0 := Aside0.mk (bx w (w.heap.size) (.bool true) (.slice Aa0 La0 ca0) (.slice Ab0 Lb0 cb0) 24 (by simp))
    have B2 := Aside0.mk (below_alloc (Below.refl (w.alloc (.cells #[.bool true, .slice Aa0 La0 ca0, .slice Ab0 Lb0 cb0] 24)).heap.size (w.alloc (.cells #[.bool true, .slice Aa0 La0 ca0, .slice Ab0 Lb0 cb0] 24))) (.cells #[.bool false, .slice none 0 0, .slice none 0 0] 24))
    have T2 := Aside0.mk (T1.out.trans (B2.out.mono T1.out.size))
    have H_res := Aside0.mk (bx (w.alloc (.cells #[.bool true, .slice Aa0 La0 ca0, .slice Ab0 Lb0 cb0] 24)) (w.heap.size + 1) (.bool false) (.slice none 0 0) (.slice none 0 0) 24 (by simp))
    have TR := Aside0.mk T2.out
    have HNE0 := Aside0.mk (show w.heap.size + 1 ≠ w.heap.size by omega)
    go_wp2_with fail
    have B3 := Aside0.mk (Below.drew (Below.refl ((w.alloc (.cells #[.bool true, .slice Aa0 La0 ca0, .slice Ab0 Lb0 cb0] 24)).alloc (.cells #[.bool false, .slice none 0 0, .slice none 0 0] 24)).heap.size ((w.alloc (.cells #[.bool true, .slice Aa0 La0 ca0, .slice Ab0 Lb0 cb0] 24)).alloc (.cells #[.bool false, .slice none 0 0, .slice none 0 0] 24))))
    have T3 := Aside0.mk (T2.out.trans (B3.out.mono T2.out.size))
    have HS3 := Aside0.mk (fun (W : World) (hW : Below (((w.alloc (.cells #[.bool true, .slice Aa0 La0 ca0, .slice Ab0 Lb0 cb0] 24)).alloc (.cells #[.bool false, .slice none 0 0, .slice none 0 0] 24)).drew).heap.size (((w.alloc (.cells #[.bool true, .slice Aa0 La0 ca0, .slice Ab0 Lb0 cb0] 24)).alloc (.cells #[.bool false, .slice none 0 0, .slice none 0 0] 24)).drew) W) => show W.cell? ⟨w.heap.size, 0, none⟩ = some (.bool true) ∧ W.cell? ⟨w.heap.size, 1, none⟩ = some (.slice Aa0 La0 ca0) ∧ W.cell? ⟨w.heap.size, 2, none⟩ = some (.slice Ab0 Lb0 cb0) from ⟨(((H_bx0.out.below B2.out).below B3.out).below hW).1.1, (((H_bx0.out.below B2.out).below B3.out).below hW).1.2.1, (((H_bx0.out.below B2.out).below B3.out).below hW).1.2.2⟩)
    have U3 := Aside0.mk (Below.refl (((w.alloc (.cells #[.bool true, .slice Aa0 La0 ca0, .slice Ab0 Lb0 cb0] 24)).alloc (.cells #[.bool false, .slice none 0 0, .slice none 0 0] 24)).drew).heap.size (((w.alloc (.cells #[.bool true, .slice Aa0 La0 ca0, .slice Ab0 Lb0 cb0] 24)).alloc (.cells #[.bool false, .slice none 0 0, .slice none 0 0] 24)).drew))
    refine wp_region_held_drew (S := fun W => W.cell? ⟨w.heap.size, 0, none⟩ = some (.bool true) ∧ W.cell? ⟨w.heap.size, 1, none⟩ = some (.slice Aa0 La0 ca0) ∧ W.cell? ⟨w.heap.size, 2, none⟩ = some (.slice Ab0 Lb0 cb0)) (by kernel_rfl) (HS3.out _ (Below.refl _ _)) (fun hHeld => ?_)
    refine Inv.takeL (i := 0) (v := ?vneg_1) rfl (by kernel_rfl) (by kernel_rfl) (by kernel_rfl) (fun _ _ _ h => h) (by rfl) ?hyneg_1 (by assumption) ?restneg_1
    case hyneg_1 => ((intro w hSw; (try dsimp only at hSw); go_simp) <;> with_reducible rfl)
    try simp only [Act.put, List.setIfInBounds_toArray, List.set_cons_zero, List.set_cons_succ]
    refine Inv.takeL (i := 1) (v := ?vneg_2) rfl (by kernel_rfl) (by kernel_rfl) (by kernel_rfl) (fun _ _ _ h => h) (by rfl) ?hyneg_2 (by assumption) ?restneg_2
    case hyneg_2 => ((intro w hSw; (try dsimp only at hSw); go_simp) <;> with_reducible rfl)
    try simp only [Act.put, List.setIfInBounds_toArray, List.set_cons_zero, List.set_cons_succ]
    refine Inv.takeL (i := 2) (v := ?vneg_3) rfl (by kernel_rfl) (by kernel_rfl) (by kernel_rfl) (fun _ _ _ h => h) (by rfl) ?hyneg_3 (by assumption) ?restneg_3
    case hyneg_3 => ((intro w hSw; (try dsimp only at hSw); go_simp) <;> with_reducible rfl)
    try simp only [Act.put, List.setIfInBounds_toArray, List.set_cons_zero, List.set_cons_succ]
    refine Inv.takeL (i := 3) (v := ?vneg_4) rfl (by kernel_rfl) (by kernel_rfl) (by kernel_rfl) (fun _ _ _ h => h) (by rfl) ?hyneg_4 (by assumption) ?restneg_4
    case hyneg_4 => ((intro w hSw; (try dsimp only at hSw); go_simp) <;> with_reducible rfl)
    try simp only [Act.put, List.setIfInBounds_toArray, List.set_cons_zero, List.set_cons_succ]
    refine Inv.skipL (i := 4) rfl (by kernel_rfl) (by kernel_rfl) (by kernel_rfl) (fun _ _ _ h => h) (by rfl) (by assumption) ?_
    try simp only [Act.put, List.setIfInBounds_toArray, List.set_cons_zero, List.set_cons_succ]
    refine Inv.skipL (i := 5) rfl (by kernel_rfl) (by kernel_rfl) (by kernel_rfl) (fun _ _ _ h => h) (by rfl) (by assumption) ?_
    try simp only [Act.put, List.setIfInBounds_toArray, List.set_cons_zero, List.set_cons_succ]
    refine Inv.skipL (i := 6) rfl (by kernel_rfl) (by kernel_rfl) (by kernel_rfl) (fun _ _ _ h => h) (by rfl) (by assumption) ?_
    try simp only [Act.put, List.setIfInBounds_toArray, List.set_cons_zero, List.set_cons_succ]
    refine Inv.skipL (i := 7) rfl (by kernel_rfl) (by kernel_rfl) (by kernel_rfl) (fun _ _ _ h => h) (by rfl) (by assumption) ?_
    try simp only [Act.put, List.setIfInBounds_toArray, List.set_cons_zero, List.set_cons_succ]
    refine Inv.takeL (i := 8) (v := ?vneg_9) rfl (by kernel_rfl) (by kernel_rfl) (by kernel_rfl) (fun _ _ _ h => h) (by rfl) ?hyneg_9 (by assumption) ?restneg_9
    case hyneg_9 => ((intro w hSw; (try dsimp only at hSw); go_simp) <;> with_reducible rfl)
    try simp only [Act.put, List.setIfInBounds_toArray, List.set_cons_zero, List.set_cons_succ]
    refine Inv.takeL (i := 10) (v := ?vneg_10) rfl (by kernel_rfl) (by kernel_rfl) (by kernel_rfl) (fun _ _ _ h => h) (by rfl) ?hyneg_10 (by assumption) ?restneg_10
    case hyneg_10 => ((intro w hSw; (try dsimp only at hSw); go_simp) <;> with_reducible rfl)
    try simp only [Act.put, List.setIfInBounds_toArray, List.set_cons_zero, List.set_cons_succ]
    refine Inv.takeL (i := 11) (v := ?vneg_11) rfl (by kernel_rfl) (by kernel_rfl) (by kernel_rfl) (fun _ _ _ h => h) (by rfl) ?hyneg_11 (by assumption) ?restneg_11
    case hyneg_11 => ((intro w hSw; (try dsimp only at hSw); go_simp) <;> with_reducible rfl)
    try simp only [Act.put, List.setIfInBounds_toArray, List.set_cons_zero, List.set_cons_succ]
    refine Inv.takeL (i := 14) (v := ?vneg_12) rfl (by kernel_rfl) (by kernel_rfl) (by kernel_rfl) (fun _ _ _ h => h) (by rfl) ?hyneg_12 (by assumption) ?restneg_12
    case hyneg_12 => ((intro w hSw; (try dsimp only at hSw); go_simp) <;> with_reducible rfl)
    try simp only [Act.put, List.setIfInBounds_toArray, List.set_cons_zero, List.set_cons_succ]
    refine Inv.takeL (i := 15) (v := ?vneg_13) rfl (by kernel_rfl) (by kernel_rfl) (by kernel_rfl) (fun _ _ _ h => h) (by rfl) ?hyneg_13 (by assumption) ?restneg_13
    case hyneg_13 => ((intro w hSw; (try dsimp only at hSw); go_simp) <;> with_reducible rfl)
    try simp only [Act.put, List.setIfInBounds_toArray, List.set_cons_zero, List.set_cons_succ]
    refine wpAnyH_ready (rs := [9, 13]) (by kernel_rfl) (by simp) (AllReadyH.cons (Inv.at_list rfl) (fun K hK => ?_) (AllReadyH.cons (Inv.at_list rfl) (fun K hK => ?_) AllReadyH.nil))
    ·
      go_simp
      have B4 := Aside0.mk (below_alloc (Below.refl (((w.alloc (.cells #[.bool true, .slice Aa0 La0 ca0, .slice Ab0 Lb0 cb0] 24)).alloc (.cells #[.bool false, .slice none 0 0, .slice none 0 0] 24)).drew).heap.size (((w.alloc (.cells #[.bool true, .slice Aa0 La0 ca0, .slice Ab0 Lb0 cb0] 24)).alloc (.cells #[.bool false, .slice none 0 0, .slice none 0 0] 24)).drew)) (.cells #[] 49))
      have T4 := Aside0.mk (T3.out.trans (B4.out.mono T3.out.size))
      have U4 := Aside0.mk (U3.out.trans (B4.out.mono U3.out.size))
      refine hK.out _ _ (HS3.out _ U4.out) (fun hHeld => ?_)
      clear hK K
      try simp only [Act.put, List.setIfInBounds_toArray, List.set_cons_zero, List.set_cons_succ]
      refine wpAnyH_ready (rs := [12, 13]) (by kernel_rfl) (by simp) (AllReadyH.cons (Inv.at_list rfl) (fun K hK => ?_) (AllReadyH.cons (Inv.at_list rfl) (fun K hK => ?_) AllReadyH.nil))
      ·
        rw [if_pos (by rfl)]
        refine wp_append_cap0 ((((w.alloc (.cells #[.bool true, .slice Aa0 La0 ca0, .slice Ab0 Lb0 cb0] 24)).alloc (.cells #[.bool false, .slice none 0 0, .slice none 0 0] 24)).drew).alloc (.cells #[] 49)) (.tmp 12) (.tmp 14) rfl rfl rfl (Nu_reads ((((H_N0.out.below B1.out).below B2.out).below B3.out).below B4.out)) (by have := HSM.out; omega) ?_
        intro Aq0 cq0 w5 hCq hcq hB
        have B5 := Aside0.mk hB
        have T5 := Aside0.mk (T4.out.trans (hB.mono T4.out.size))
        have H_Q0 := Aside0.mk (show Nu w5 (.slice Aq0 La0 cq0) n0 from nu_copy H_N0.out hcq hCq)
        clear hB hCq hcq
        have U5 := Aside0.mk (U4.out.trans (B5.out.mono U4.out.size))
        refine hK.out _ _ (HS3.out _ U5.out) (fun hHeld => ?_)
        clear hK K
        try simp only [Act.put, List.setIfInBounds_toArray, List.set_cons_zero, List.set_cons_succ]
        refine Inv.oneL (i := 13) rfl (by kernel_rfl) (fun K hK => ?_)
        go_simp
        have B6 := Aside0.mk (below_alloc (Below.refl w5.heap.size w5) (.cells #[] 49))
        have T6 := Aside0.mk (T5.out.trans (B6.out.mono T5.out.size))
        have U6 := Aside0.mk (U5.out.trans (B6.out.mono U5.out.size))
        refine hK.out _ _ (HS3.out _ U6.out) (fun hHeld => ?_)
        clear hK K
        try simp only [Act.put, List.setIfInBounds_toArray, List.set_cons_zero, List.set_cons_succ]
        refine Inv.oneL (i := 16) rfl (by kernel_rfl) (fun K hK => ?_)
        rw [if_pos (by rfl)]
        refine wp_append_cap0 (w5.alloc (.cells #[] 49)) (.tmp 16) (.tmp 18) rfl rfl rfl (Nu_reads ((((((H_D0.out.below B1.out).below B2.out).below B3.out).below B4.out).below B5.out).below B6.out)) (by have := HSM.out; omega) ?_
        intro Aq1 cq1 w7 hCq hcq hB
        have B7 := Aside0.mk hB
        have T7 := Aside0.mk (T6.out.trans (hB.mono T6.out.size))
        have H_Q1 := Aside0.mk (show Nu w7 (.slice Aq1 Lb0 cq1) m0 from nu_copy H_D0.out hcq hCq)
        clear hB hCq hcq
        have U7 := Aside0.mk (U6.out.trans (B7.out.mono U6.out.size))
        refine hK.out _ _ (HS3.out _ U7.out) (fun hHeld => ?_)
        clear hK K
        try simp only [Act.put, List.setIfInBounds_toArray, List.set_cons_zero, List.set_cons_succ]
        refine Inv.takeL (i := 17) (v := ?vneg_14) rfl (by kernel_rfl) (by kernel_rfl) (by kernel_rfl) (fun _ _ _ h => h) (by rfl) ?hyneg_14 (by assumption) ?restneg_14
        case hyneg_14 => ((intro w hSw; (try dsimp only at hSw); go_simp) <;> with_reducible rfl)
        try simp only [Act.put, List.setIfInBounds_toArray, List.set_cons_zero, List.set_cons_succ]
        refine Inv.oneL (i := 18) rfl (by kernel_rfl) (fun K hK => ?_)
        have HD := Aside0.mk (r3_done (neg := false) TR.out (by omega) H_res.out ((((B3.out.trans (B4.out.mono B3.out.size)).trans (B5.out.mono (B3.out.trans (B4.out.mono B3.out.size)).size)).trans (B6.out.mono ((B3.out.trans (B4.out.mono B3.out.size)).trans (B5.out.mono (B3.out.trans (B4.out.mono B3.out.size)).size)).size)).trans (B7.out.mono (((B3.out.trans (B4.out.mono B3.out.size)).trans (B5.out.mono (B3.out.trans (B4.out.mono B3.out.size)).size)).trans (B6.out.mono ((B3.out.trans (B4.out.mono B3.out.size)).trans (B5.out.mono (B3.out.trans (B4.out.mono B3.out.size)).size)).size)).size)) ((H_Q0.out.below B6.out).below B7.out) H_Q1.out)
        obtain ⟨⟨zc0, zc1, zc2⟩, zf0, zf1, zf2⟩ := H_res.out.below ((((B3.out.trans (B4.out.mono B3.out.size)).trans (B5.out.mono (B3.out.trans (B4.out.mono B3.out.size)).size)).trans (B6.out.mono ((B3.out.trans (B4.out.mono B3.out.size)).trans (B5.out.mono (B3.out.trans (B4.out.mono B3.out.size)).size)).size)).trans (B7.out.mono (((B3.out.trans (B4.out.mono B3.out.size)).trans (B5.out.mono (B3.out.trans (B4.out.mono B3.out.size)).size)).trans (B6.out.mono ((B3.out.trans (B4.out.mono B3.out.size)).trans (B5.out.mono (B3.out.trans (B4.out.mono B3.out.size)).size)).size)).size))
        have HKK := Aside0.mk (HS3.out _ U7.out)
        go_simp
        refine hK.out _ _ (by obtain ⟨k0, k1, k2⟩ := HKK.out; exact ⟨cell_far3 HNE0.out k0, cell_far3 HNE0.out k1, cell_far3 HNE0.out k2⟩) (fun hHeld => ?_)
        clear hK K
        try simp only [Act.put, List.setIfInBounds_toArray, List.set_cons_zero, List.set_cons_succ]
        refine wpAnyH_done (by kernel_rfl) ?_ _
        go_wp2_with fail
        exact bodyPost_ret (v := .agg #[.bool false, .slice Aq0 La0 cq0, .slice Aq1 Lb0 cq1]) (by simp [results, Tryz.results16, go_sem, *]) rfl (done_ra HBQ.out (by rw [HNN.out, HDD.out]; exact HD.out))
      ·
        go_simp
        have B5 := Aside0.mk (below_alloc (Below.refl ((((w.alloc (.cells #[.bool true, .slice Aa0 La0 ca0, .slice Ab0 Lb0 cb0] 24)).alloc (.cells #[.bool false, .slice none 0 0, .slice none 0 0] 24)).drew).alloc (.cells #[] 49)).heap.size ((((w.alloc (.cells #[.bool true, .slice Aa0 La0 ca0, .slice Ab0 Lb0 cb0] 24)).alloc (.cells #[.bool false, .slice none 0 0, .slice none 0 0] 24)).drew).alloc (.cells #[] 49))) (.cells #[] 49))
        have T5 := Aside0.mk (T4.out.trans (B5.out.mono T4.out.size))
        have U5 := Aside0.mk (U4.out.trans (B5.out.mono U4.out.size))
        refine hK.out _ _ (HS3.out _ U5.out) (fun hHeld => ?_)
        clear hK K
        try simp only [Act.put, List.setIfInBounds_toArray, List.set_cons_zero, List.set_cons_succ]
        refine Inv.oneL (i := 12) rfl (by kernel_rfl) (fun K hK => ?_)
        rw [if_pos (by rfl)]
        refine wp_append_cap0 (((((w.alloc (.cells #[.bool true, .slice Aa0 La0 ca0, .slice Ab0 Lb0 cb0] 24)).alloc (.cells #[.bool false, .slice none 0 0, .slice none 0 0] 24)).drew).alloc (.cells #[] 49)).alloc (.cells #[] 49)) (.tmp 12) (.tmp 14) rfl rfl rfl (Nu_reads (((((H_N0.out.below B1.out).below B2.out).below B3.out).below B4.out).below B5.out)) (by have := HSM.out; omega) ?_
        intro Aq0 cq0 w6 hCq hcq hB
        have B6 := Aside0.mk hB
        have T6 := Aside0.mk (T5.out.trans (hB.mono T5.out.size))
        have H_Q0 := Aside0.mk (show Nu w6 (.slice Aq0 La0 cq0) n0 from nu_copy H_N0.out hcq hCq)
        clear hB hCq hcq
        have U6 := Aside0.mk (U5.out.trans (B6.out.mono U5.out.size))
        refine hK.out _ _ (HS3.out _ U6.out) (fun hHeld => ?_)
        clear hK K
        try simp only [Act.put, List.setIfInBounds_toArray, List.set_cons_zero, List.set_cons_succ]
        refine Inv.oneL (i := 16) rfl (by kernel_rfl) (fun K hK => ?_)
        rw [if_pos (by rfl)]
        refine wp_append_cap0 w6 (.tmp 16) (.tmp 18) rfl rfl rfl (Nu_reads ((((((H_D0.out.below B1.out).below B2.out).below B3.out).below B4.out).below B5.out).below B6.out)) (by have := HSM.out; omega) ?_
        intro Aq1 cq1 w7 hCq hcq hB
        have B7 := Aside0.mk hB
        have T7 := Aside0.mk (T6.out.trans (hB.mono T6.out.size))
        have H_Q1 := Aside0.mk (show Nu w7 (.slice Aq1 Lb0 cq1) m0 from nu_copy H_D0.out hcq hCq)
        clear hB hCq hcq
        have U7 := Aside0.mk (U6.out.trans (B7.out.mono U6.out.size))
        refine hK.out _ _ (HS3.out _ U7.out) (fun hHeld => ?_)
        clear hK K
        try simp only [Act.put, List.setIfInBounds_toArray, List.set_cons_zero, List.set_cons_succ]
        refine Inv.takeL (i := 17) (v := ?vneg_15) rfl (by kernel_rfl) (by kernel_rfl) (by kernel_rfl) (fun _ _ _ h => h) (by rfl) ?hyneg_15 (by assumption) ?restneg_15
        case hyneg_15 => ((intro w hSw; (try dsimp only at hSw); go_simp) <;> with_reducible rfl)
        try simp only [Act.put, List.setIfInBounds_toArray, List.set_cons_zero, List.set_cons_succ]
        refine Inv.oneL (i := 18) rfl (by kernel_rfl) (fun K hK => ?_)
        have HD := Aside0.mk (r3_done (neg := false) TR.out (by omega) H_res.out ((((B3.out.trans (B4.out.mono B3.out.size)).trans (B5.out.mono (B3.out.trans (B4.out.mono B3.out.size)).size)).trans (B6.out.mono ((B3.out.trans (B4.out.mono B3.out.size)).trans (B5.out.mono (B3.out.trans (B4.out.mono B3.out.size)).size)).size)).trans (B7.out.mono (((B3.out.trans (B4.out.mono B3.out.size)).trans (B5.out.mono (B3.out.trans (B4.out.mono B3.out.size)).size)).trans (B6.out.mono ((B3.out.trans (B4.out.mono B3.out.size)).trans (B5.out.mono (B3.out.trans (B4.out.mono B3.out.size)).size)).size)).size)) (H_Q0.out.below B7.out) H_Q1.out)
        obtain ⟨⟨zc0, zc1, zc2⟩, zf0, zf1, zf2⟩ := H_res.out.below ((((B3.out.trans (B4.out.mono B3.out.size)).trans (B5.out.mono (B3.out.trans (B4.out.mono B3.out.size)).size)).trans (B6.out.mono ((B3.out.trans (B4.out.mono B3.out.size)).trans (B5.out.mono (B3.out.trans (B4.out.mono B3.out.size)).size)).size)).trans (B7.out.mono (((B3.out.trans (B4.out.mono B3.out.size)).trans (B5.out.mono (B3.out.trans (B4.out.mono B3.out.size)).size)).trans (B6.out.mono ((B3.out.trans (B4.out.mono B3.out.size)).trans (B5.out.mono (B3.out.trans (B4.out.mono B3.out.size)).size)).size)).size))
        have HKK := Aside0.mk (HS3.out _ U7.out)
        go_simp
        refine hK.out _ _ (by obtain ⟨k0, k1, k2⟩ := HKK.out; exact ⟨cell_far3 HNE0.out k0, cell_far3 HNE0.out k1, cell_far3 HNE0.out k2⟩) (fun hHeld => ?_)
        clear hK K
        try simp only [Act.put, List.setIfInBounds_toArray, List.set_cons_zero, List.set_cons_succ]
        refine wpAnyH_done (by kernel_rfl) ?_ _
        go_wp2_with fail
        exact bodyPost_ret (v := .agg #[.bool false, .slice Aq0 La0 cq0, .slice Aq1 Lb0 cq1]) (by simp [results, Tryz.results16, go_sem, *]) rfl (done_ra HBQ.out (by rw [HNN.out, HDD.out]; exact HD.out))
    ·
      go_simp
      have B4 := Aside0.mk (below_alloc (Below.refl (((w.alloc (.cells #[.bool true, .slice Aa0 La0 ca0, .slice Ab0 Lb0 cb0] 24)).alloc (.cells #[.bool false, .slice none 0 0, .slice none 0 0] 24)).drew).heap.size (((w.alloc (.cells #[.bool true, .slice Aa0 La0 ca0, .slice Ab0 Lb0 cb0] 24)).alloc (.cells #[.bool false, .slice none 0 0, .slice none 0 0] 24)).drew)) (.cells #[] 49))
      have T4 := Aside0.mk (T3.out.trans (B4.out.mono T3.out.size))
      have U4 := Aside0.mk (U3.out.trans (B4.out.mono U3.out.size))
      refine hK.out _ _ (HS3.out _ U4.out) (fun hHeld => ?_)
      clear hK K
      try simp only [Act.put, List.setIfInBounds_toArray, List.set_cons_zero, List.set_cons_succ]
      refine Inv.oneL (i := 9) rfl (by kernel_rfl) (fun K hK => ?_)
      go_simp
      have B5 := Aside0.mk (below_alloc (Below.refl ((((w.alloc (.cells #[.bool true, .slice Aa0 La0 ca0, .slice Ab0 Lb0 cb0] 24)).alloc (.cells #[.bool false, .slice none 0 0, .slice none 0 0] 24)).drew).alloc (.cells #[] 49)).heap.size ((((w.alloc (.cells #[.bool true, .slice Aa0 La0 ca0, .slice Ab0 Lb0 cb0] 24)).alloc (.cells #[.bool false, .slice none 0 0, .slice none 0 0] 24)).drew).alloc (.cells #[] 49))) (.cells #[] 49))
      have T5 := Aside0.mk (T4.out.trans (B5.out.mono T4.out.size))
      have U5 := Aside0.mk (U4.out.trans (B5.out.mono U4.out.size))
      refine hK.out _ _ (HS3.out _ U5.out) (fun hHeld => ?_)
      clear hK K
      try simp only [Act.put, List.setIfInBounds_toArray, List.set_cons_zero, List.set_cons_succ]
      refine Inv.oneL (i := 12) rfl (by kernel_rfl) (fun K hK => ?_)
      rw [if_pos (by rfl)]
      refine wp_append_cap0 (((((w.alloc (.cells #[.bool true, .slice Aa0 La0 ca0, .slice Ab0 Lb0 cb0] 24)).alloc (.cells #[.bool false, .slice none 0 0, .slice none 0 0] 24)).drew).alloc (.cells #[] 49)).alloc (.cells #[] 49)) (.tmp 12) (.tmp 14) rfl rfl rfl (Nu_reads (((((H_N0.out.below B1.out).below B2.out).below B3.out).below B4.out).below B5.out)) (by have := HSM.out; omega) ?_
      intro Aq0 cq0 w6 hCq hcq hB
      have B6 := Aside0.mk hB
      have T6 := Aside0.mk (T5.out.trans (hB.mono T5.out.size))
      have H_Q0 := Aside0.mk (show Nu w6 (.slice Aq0 La0 cq0) n0 from nu_copy H_N0.out hcq hCq)
      clear hB hCq hcq
      have U6 := Aside0.mk (U5.out.trans (B6.out.mono U5.out.size))
      refine hK.out _ _ (HS3.out _ U6.out) (fun hHeld => ?_)
      clear hK K
      try simp only [Act.put, List.setIfInBounds_toArray, List.set_cons_zero, List.set_cons_succ]
      refine Inv.oneL (i := 16) rfl (by kernel_rfl) (fun K hK => ?_)
      rw [if_pos (by rfl)]
      refine wp_append_cap0 w6 (.tmp 16) (.tmp 18) rfl rfl rfl (Nu_reads ((((((H_D0.out.below B1.out).below B2.out).below B3.out).below B4.out).below B5.out).below B6.out)) (by have := HSM.out; omega) ?_
      intro Aq1 cq1 w7 hCq hcq hB
      have B7 := Aside0.mk hB
      have T7 := Aside0.mk (T6.out.trans (hB.mono T6.out.size))
      have H_Q1 := Aside0.mk (show Nu w7 (.slice Aq1 Lb0 cq1) m0 from nu_copy H_D0.out hcq hCq)
      clear hB hCq hcq
      have U7 := Aside0.mk (U6.out.trans (B7.out.mono U6.out.size))
      refine hK.out _ _ (HS3.out _ U7.out) (fun hHeld => ?_)
      clear hK K
      try simp only [Act.put, List.setIfInBounds_toArray, List.set_cons_zero, List.set_cons_succ]
      refine Inv.takeL (i := 17) (v := ?vneg_16) rfl (by kernel_rfl) (by kernel_rfl) (by kernel_rfl) (fun _ _ _ h => h) (by rfl) ?hyneg_16 (by assumption) ?restneg_16
      case hyneg_16 => ((intro w hSw; (try dsimp only at hSw); go_simp) <;> with_reducible rfl)
      try simp only [Act.put, List.setIfInBounds_toArray, List.set_cons_zero, List.set_cons_succ]
      refine Inv.oneL (i := 18) rfl (by kernel_rfl) (fun K hK => ?_)
      have HD := Aside0.mk (r3_done (neg := false) TR.out (by omega) H_res.out ((((B3.out.trans (B4.out.mono B3.out.size)).trans (B5.out.mono (B3.out.trans (B4.out.mono B3.out.size)).size)).trans (B6.out.mono ((B3.out.trans (B4.out.mono B3.out.size)).trans (B5.out.mono (B3.out.trans (B4.out.mono B3.out.size)).size)).size)).trans (B7.out.mono (((B3.out.trans (B4.out.mono B3.out.size)).trans (B5.out.mono (B3.out.trans (B4.out.mono B3.out.size)).size)).trans (B6.out.mono ((B3.out.trans (B4.out.mono B3.out.size)).trans (B5.out.mono (B3.out.trans (B4.out.mono B3.out.size)).size)).size)).size)) (H_Q0.out.below B7.out) H_Q1.out)
      obtain ⟨⟨zc0, zc1, zc2⟩, zf0, zf1, zf2⟩ := H_res.out.below ((((B3.out.trans (B4.out.mono B3.out.size)).trans (B5.out.mono (B3.out.trans (B4.out.mono B3.out.size)).size)).trans (B6.out.mono ((B3.out.trans (B4.out.mono B3.out.size)).trans (B5.out.mono (B3.out.trans (B4.out.mono B3.out.size)).size)).size)).trans (B7.out.mono (((B3.out.trans (B4.out.mono B3.out.size)).trans (B5.out.mono (B3.out.trans (B4.out.mono B3.out.size)).size)).trans (B6.out.mono ((B3.out.trans (B4.out.mono B3.out.size)).trans (B5.out.mono (B3.out.trans (B4.out.mono B3.out.size)).size)).size)).size))
      have HKK := Aside0.mk (HS3.out _ U7.out)
      go_simp
      refine hK.out _ _ (by obtain ⟨k0, k1, k2⟩ := HKK.out; exact ⟨cell_far3 HNE0.out k0, cell_far3 HNE0.out k1, cell_far3 HNE0.out k2⟩) (fun hHeld => ?_)
      clear hK K
      try simp only [Act.put, List.setIfInBounds_toArray, List.set_cons_zero, List.set_cons_succ]
      refine wpAnyH_done (by kernel_rfl) ?_ _
      go_wp2_with fail
      exact bodyPost_ret (v := .agg #[.bool false, .slice Aq0 La0 cq0, .slice Aq1 Lb0 cq1]) (by simp [results, Tryz.results16, go_sem, *]) rfl (done_ra HBQ.out (by rw [HNN.out, HDD.out]; exact HD.out))
  | false =>
    by_cases hn0 : n0 = 0
    ·
      have hbq : decide ((-x).num < 0) = false := by rw [HNG.out]; rw [decide_eq_false (fun h => h hn0)]; rfl
      have HBQ := Aside0.mk hbq.symm
      clear hbq
      have hL0 : La0 = 0 := hl.2 hn0
      have hLi : decide ((0 : Int) < (La0 : Int)) = false := decide_eq_false (by omega)
      have hLn : decide (0 < La0) = false := decide_eq_false (by omega)
      clear hn0 hL0
      clear hl
      go_enter Tryz.func16, Tryz.ntmps16
      have B1 := Aside0.mk (below_alloc (Below.refl w.heap.size w) (.cells #[.bool false, .slice Aa0 La0 ca0, .slice Ab0 Lb0 cb0] 24))
      have T1 := Aside0.mk (B1.out.mono (Nat.le_refl _))
      have H_bx0 := Aside0.mk (bx w (w.heap.size) (.bool false) (.slice Aa0 La0 ca0) (.slice Ab0 Lb0 cb0) 24 (by simp))
      have B2 := Aside0.mk (below_alloc (Below.refl (w.alloc (.cells #[.bool false, .slice Aa0 La0 ca0, .slice Ab0 Lb0 cb0] 24)).heap.size (w.alloc (.cells #[.bool false, .slice Aa0 La0 ca0, .slice Ab0 Lb0 cb0] 24))) (.cells #[.bool false, .slice none 0 0, .slice none 0 0] 24))
      have T2 := Aside0.mk (T1.out.trans (B2.out.mono T1.out.size))
      have H_res := Aside0.mk (bx (w.alloc (.cells #[.bool false, .slice Aa0 La0 ca0, .slice Ab0 Lb0 cb0] 24)) (w.heap.size + 1) (.bool false) (.slice none 0 0) (.slice none 0 0) 24 (by simp))
      have TR := Aside0.mk T2.out
      have HNE0 := Aside0.mk (show w.heap.size + 1 ≠ w.heap.size by omega)
      go_wp2_with fail
      have B3 := Aside0.mk (Below.drew (Below.refl ((w.alloc (.cells #[.bool false, .slice Aa0 La0 ca0, .slice Ab0 Lb0 cb0] 24)).alloc (.cells #[.bool false, .slice none 0 0, .slice none 0 0] 24)).heap.size ((w.alloc (.cells #[.bool false, .slice Aa0 La0 ca0, .slice Ab0 Lb0 cb0] 24)).alloc (.cells #[.bool false, .slice none 0 0, .slice none 0 0] 24))))
      have T3 := Aside0.mk (T2.out.trans (B3.out.mono T2.out.size))
      have HS3 := Aside0.mk (fun (W : World) (hW : Below (((w.alloc (.cells #[.bool false, .slice Aa0 La0 ca0, .slice Ab0 Lb0 cb0] 24)).alloc (.cells #[.bool false, .slice none 0 0, .slice none 0 0] 24)).drew).heap.size (((w.alloc (.cells #[.bool false, .slice Aa0 La0 ca0, .slice Ab0 Lb0 cb0] 24)).alloc (.cells #[.bool false, .slice none 0 0, .slice none 0 0] 24)).drew) W) => show W.cell? ⟨w.heap.size, 0, none⟩ = some (.bool false) ∧ W.cell? ⟨w.heap.size, 1, none⟩ = some (.slice Aa0 La0 ca0) ∧ W.cell? ⟨w.heap.size, 2, none⟩ = some (.slice Ab0 Lb0 cb0) from ⟨(((H_bx0.out.below B2.out).below B3.out).below hW).1.1, (((H_bx0.out.below B2.out).below B3.out).below hW).1.2.1, (((H_bx0.out.below B2.out).below B3.out).below hW).1.2.2⟩)
      have U3 := Aside0.mk (Below.refl (((w.alloc (.cells #[.bool false, .slice Aa0 La0 ca0, .slice Ab0 Lb0 cb0] 24)).alloc (.cells #[.bool false, .slice none 0 0, .slice none 0 0] 24)).drew).heap.size (((w.alloc (.cells #[.bool false, .slice Aa0 La0 ca0, .slice Ab0 Lb0 cb0] 24)).alloc (.cells #[.bool false, .slice none 0 0, .slice none 0 0] 24)).drew))
      refine wp_region_held_drew (S := fun W => W.cell? ⟨w.heap.size, 0, none⟩ = some (.bool false) ∧ W.cell? ⟨w.heap.size, 1, none⟩ = some (.slice Aa0 La0 ca0) ∧ W.cell? ⟨w.heap.size, 2, none⟩ = some (.slice Ab0 Lb0 cb0)) (by kernel_rfl) (HS3.out _ (Below.refl _ _)) (fun hHeld => ?_)
      refine Inv.takeL (i := 0) (v := ?vneg_17) rfl (by kernel_rfl) (by kernel_rfl) (by kernel_rfl) (fun _ _ _ h => h) (by rfl) ?hyneg_17 (by assumption) ?restneg_17
      case hyneg_17 => ((intro w hSw; (try dsimp only at hSw); go_simp) <;> with_reducible rfl)
      try simp only [Act.put, List.setIfInBounds_toArray, List.set_cons_zero, List.set_cons_succ]
      refine Inv.takeL (i := 1) (v := ?vneg_18) rfl (by kernel_rfl) (by kernel_rfl) (by kernel_rfl) (fun _ _ _ h => h) (by rfl) ?hyneg_18 (by assumption) ?restneg_18
      case hyneg_18 => ((intro w hSw; (try dsimp only at hSw); go_simp) <;> with_reducible rfl)
      try simp only [Act.put, List.setIfInBounds_toArray, List.set_cons_zero, List.set_cons_succ]
      refine Inv.takeL (i := 2) (v := ?vneg_19) rfl (by kernel_rfl) (by kernel_rfl) (by kernel_rfl) (fun _ _ _ h => h) (by rfl) ?hyneg_19 (by assumption) ?restneg_19
      case hyneg_19 => ((intro w hSw; (try dsimp only at hSw); go_simp) <;> with_reducible rfl)
      try simp only [Act.put, List.setIfInBounds_toArray, List.set_cons_zero, List.set_cons_succ]
      refine Inv.takeL (i := 3) (v := ?vneg_20) rfl (by kernel_rfl) (by kernel_rfl) (by kernel_rfl) (fun _ _ _ h => h) (by rfl) ?hyneg_20 (by assumption) ?restneg_20
      case hyneg_20 => ((intro w hSw; (try dsimp only at hSw); go_simp) <;> with_reducible rfl)
      try simp only [Act.put, List.setIfInBounds_toArray, List.set_cons_zero, List.set_cons_succ]
      refine Inv.takeL (i := 4) (v := ?vneg_21) rfl (by kernel_rfl) (by kernel_rfl) (by kernel_rfl) (fun _ _ _ h => h) (by rfl) ?hyneg_21 (by assumption) ?restneg_21
      case hyneg_21 => ((intro w hSw; (try dsimp only at hSw); go_simp) <;> with_reducible rfl)
      try simp only [Act.put, List.setIfInBounds_toArray, List.set_cons_zero, List.set_cons_succ]
      refine Inv.takeL (i := 5) (v := ?vneg_22) rfl (by kernel_rfl) (by kernel_rfl) (by kernel_rfl) (fun _ _ _ h => h) (by rfl) ?hyneg_22 (by assumption) ?restneg_22
      case hyneg_22 => ((intro w hSw; (try dsimp only at hSw); go_simp) <;> with_reducible rfl)
      try simp only [Act.put, List.setIfInBounds_toArray, List.set_cons_zero, List.set_cons_succ]
      refine Inv.takeL (i := 6) (v := ?vneg_23) rfl (by kernel_rfl) (by kernel_rfl) (by kernel_rfl) (fun _ _ _ h => h) (by rfl) ?hyneg_23 (by assumption) ?restneg_23
      case hyneg_23 => ((intro w hSw; (try dsimp only at hSw); go_simp) <;> with_reducible rfl)
      try simp only [Act.put, List.setIfInBounds_toArray, List.set_cons_zero, List.set_cons_succ]
      refine Inv.takeL (i := 7) (v := ?vneg_24) rfl (by kernel_rfl) (by kernel_rfl) (by kernel_rfl) (fun _ _ _ h => h) (by rfl) ?hyneg_24 (by assumption) ?restneg_24
      case hyneg_24 => ((intro w hSw; (try dsimp only at hSw); go_simp) <;> with_reducible rfl)
      try simp only [Act.put, List.setIfInBounds_toArray, List.set_cons_zero, List.set_cons_succ]
      refine Inv.takeL (i := 8) (v := ?vneg_25) rfl (by kernel_rfl) (by kernel_rfl) (by kernel_rfl) (fun _ _ _ h => h) (by rfl) ?hyneg_25 (by assumption) ?restneg_25
      case hyneg_25 => ((intro w hSw; (try dsimp only at hSw); go_simp) <;> with_reducible rfl)
      try simp only [Act.put, List.setIfInBounds_toArray, List.set_cons_zero, List.set_cons_succ]
      refine Inv.takeL (i := 10) (v := ?vneg_26) rfl (by kernel_rfl) (by kernel_rfl) (by kernel_rfl) (fun _ _ _ h => h) (by rfl) ?hyneg_26 (by assumption) ?restneg_26
      case hyneg_26 => ((intro w hSw; (try dsimp only at hSw); go_simp) <;> with_reducible rfl)
      try simp only [Act.put, List.setIfInBounds_toArray, List.set_cons_zero, List.set_cons_succ]
      refine Inv.takeL (i := 11) (v := ?vneg_27) rfl (by kernel_rfl) (by kernel_rfl) (by kernel_rfl) (fun _ _ _ h => h) (by rfl) ?hyneg_27 (by assumption) ?restneg_27
      case hyneg_27 => ((intro w hSw; (try dsimp only at hSw); go_simp) <;> with_reducible rfl)
      try simp only [Act.put, List.setIfInBounds_toArray, List.set_cons_zero, List.set_cons_succ]
      refine Inv.takeL (i := 14) (v := ?vneg_28) rfl (by kernel_rfl) (by kernel_rfl) (by kernel_rfl) (fun _ _ _ h => h) (by rfl) ?hyneg_28 (by assumption) ?restneg_28
      case hyneg_28 => ((intro w hSw; (try dsimp only at hSw); go_simp) <;> with_reducible rfl)
      try simp only [Act.put, List.setIfInBounds_toArray, List.set_cons_zero, List.set_cons_succ]
      refine Inv.takeL (i := 15) (v := ?vneg_29) rfl (by kernel_rfl) (by kernel_rfl) (by kernel_rfl) (fun _ _ _ h => h) (by rfl) ?hyneg_29 (by assumption) ?restneg_29
      case hyneg_29 => ((intro w hSw; (try dsimp only at hSw); go_simp) <;> with_reducible rfl)
      try simp only [Act.put, List.setIfInBounds_toArray, List.set_cons_zero, List.set_cons_succ]
      refine wpAnyH_ready (rs := [9, 13]) (by kernel_rfl) (by simp) (AllReadyH.cons (Inv.at_list rfl) (fun K hK => ?_) (AllReadyH.cons (Inv.at_list rfl) (fun K hK => ?_) AllReadyH.nil))
      ·
        go_simp
        have B4 := Aside0.mk (below_alloc (Below.refl (((w.alloc (.cells #[.bool false, .slice Aa0 La0 ca0, .slice Ab0 Lb0 cb0] 24)).alloc (.cells #[.bool false, .slice none 0 0, .slice none 0 0] 24)).drew).heap.size (((w.alloc (.cells #[.bool false, .slice Aa0 La0 ca0, .slice Ab0 Lb0 cb0] 24)).alloc (.cells #[.bool false, .slice none 0 0, .slice none 0 0] 24)).drew)) (.cells #[] 49))
        have T4 := Aside0.mk (T3.out.trans (B4.out.mono T3.out.size))
        have U4 := Aside0.mk (U3.out.trans (B4.out.mono U3.out.size))
        refine hK.out _ _ (HS3.out _ U4.out) (fun hHeld => ?_)
        clear hK K
        try simp only [Act.put, List.setIfInBounds_toArray, List.set_cons_zero, List.set_cons_succ]
        refine wpAnyH_ready (rs := [12, 13]) (by kernel_rfl) (by simp) (AllReadyH.cons (Inv.at_list rfl) (fun K hK => ?_) (AllReadyH.cons (Inv.at_list rfl) (fun K hK => ?_) AllReadyH.nil))
        ·
          rw [if_pos (by rfl)]
          refine wp_append_cap0 ((((w.alloc (.cells #[.bool false, .slice Aa0 La0 ca0, .slice Ab0 Lb0 cb0] 24)).alloc (.cells #[.bool false, .slice none 0 0, .slice none 0 0] 24)).drew).alloc (.cells #[] 49)) (.tmp 12) (.tmp 14) rfl rfl rfl (Nu_reads ((((H_N0.out.below B1.out).below B2.out).below B3.out).below B4.out)) (by have := HSM.out; omega) ?_
          intro Aq0 cq0 w5 hCq hcq hB
          have B5 := Aside0.mk hB
          have T5 := Aside0.mk (T4.out.trans (hB.mono T4.out.size))
          have H_Q0 := Aside0.mk (show Nu w5 (.slice Aq0 La0 cq0) n0 from nu_copy H_N0.out hcq hCq)
          clear hB hCq hcq
          have U5 := Aside0.mk (U4.out.trans (B5.out.mono U4.out.size))
          refine hK.out _ _ (HS3.out _ U5.out) (fun hHeld => ?_)
          clear hK K
          try simp only [Act.put, List.setIfInBounds_toArray, List.set_cons_zero, List.set_cons_succ]
          refine Inv.oneL (i := 13) rfl (by kernel_rfl) (fun K hK => ?_)
          go_simp
          have B6 := Aside0.mk (below_alloc (Below.refl w5.heap.size w5) (.cells #[] 49))
          have T6 := Aside0.mk (T5.out.trans (B6.out.mono T5.out.size))
          have U6 := Aside0.mk (U5.out.trans (B6.out.mono U5.out.size))
          refine hK.out _ _ (HS3.out _ U6.out) (fun hHeld => ?_)
          clear hK K
          try simp only [Act.put, List.setIfInBounds_toArray, List.set_cons_zero, List.set_cons_succ]
          refine Inv.oneL (i := 16) rfl (by kernel_rfl) (fun K hK => ?_)
          rw [if_pos (by rfl)]
          refine wp_append_cap0 (w5.alloc (.cells #[] 49)) (.tmp 16) (.tmp 18) rfl rfl rfl (Nu_reads ((((((H_D0.out.below B1.out).below B2.out).below B3.out).below B4.out).below B5.out).below B6.out)) (by have := HSM.out; omega) ?_
          intro Aq1 cq1 w7 hCq hcq hB
          have B7 := Aside0.mk hB
          have T7 := Aside0.mk (T6.out.trans (hB.mono T6.out.size))
          have H_Q1 := Aside0.mk (show Nu w7 (.slice Aq1 Lb0 cq1) m0 from nu_copy H_D0.out hcq hCq)
          clear hB hCq hcq
          have U7 := Aside0.mk (U6.out.trans (B7.out.mono U6.out.size))
          refine hK.out _ _ (HS3.out _ U7.out) (fun hHeld => ?_)
          clear hK K
          try simp only [Act.put, List.setIfInBounds_toArray, List.set_cons_zero, List.set_cons_succ]
          refine Inv.takeL (i := 17) (v := ?vneg_30) rfl (by kernel_rfl) (by kernel_rfl) (by kernel_rfl) (fun _ _ _ h => h) (by rfl) ?hyneg_30 (by assumption) ?restneg_30
          case hyneg_30 => ((intro w hSw; (try dsimp only at hSw); go_simp) <;> with_reducible rfl)
          try simp only [Act.put, List.setIfInBounds_toArray, List.set_cons_zero, List.set_cons_succ]
          refine Inv.oneL (i := 18) rfl (by kernel_rfl) (fun K hK => ?_)
          have HD := Aside0.mk (r3_done (neg := false) TR.out (by omega) H_res.out ((((B3.out.trans (B4.out.mono B3.out.size)).trans (B5.out.mono (B3.out.trans (B4.out.mono B3.out.size)).size)).trans (B6.out.mono ((B3.out.trans (B4.out.mono B3.out.size)).trans (B5.out.mono (B3.out.trans (B4.out.mono B3.out.size)).size)).size)).trans (B7.out.mono (((B3.out.trans (B4.out.mono B3.out.size)).trans (B5.out.mono (B3.out.trans (B4.out.mono B3.out.size)).size)).trans (B6.out.mono ((B3.out.trans (B4.out.mono B3.out.size)).trans (B5.out.mono (B3.out.trans (B4.out.mono B3.out.size)).size)).size)).size)) ((H_Q0.out.below B6.out).below B7.out) H_Q1.out)
          obtain ⟨⟨zc0, zc1, zc2⟩, zf0, zf1, zf2⟩ := H_res.out.below ((((B3.out.trans (B4.out.mono B3.out.size)).trans (B5.out.mono (B3.out.trans (B4.out.mono B3.out.size)).size)).trans (B6.out.mono ((B3.out.trans (B4.out.mono B3.out.size)).trans (B5.out.mono (B3.out.trans (B4.out.mono B3.out.size)).size)).size)).trans (B7.out.mono (((B3.out.trans (B4.out.mono B3.out.size)).trans (B5.out.mono (B3.out.trans (B4.out.mono B3.out.size)).size)).trans (B6.out.mono ((B3.out.trans (B4.out.mono B3.out.size)).trans (B5.out.mono (B3.out.trans (B4.out.mono B3.out.size)).size)).size)).size))
          have HKK := Aside0.mk (HS3.out _ U7.out)
          go_simp
          refine hK.out _ _ (by obtain ⟨k0, k1, k2⟩ := HKK.out; exact ⟨cell_far3 HNE0.out k0, cell_far3 HNE0.out k1, cell_far3 HNE0.out k2⟩) (fun hHeld => ?_)
          clear hK K
          try simp only [Act.put, List.setIfInBounds_toArray, List.set_cons_zero, List.set_cons_succ]
          refine wpAnyH_done (by kernel_rfl) ?_ _
          go_wp2_with fail
          exact bodyPost_ret (v := .agg #[.bool false, .slice Aq0 La0 cq0, .slice Aq1 Lb0 cq1]) (by simp [results, Tryz.results16, go_sem, *]) rfl (done_ra HBQ.out (by rw [HNN.out, HDD.out]; exact HD.out))
        ·
          go_simp
          have B5 := Aside0.mk (below_alloc (Below.refl ((((w.alloc (.cells #[.bool false, .slice Aa0 La0 ca0, .slice Ab0 Lb0 cb0] 24)).alloc (.cells #[.bool false, .slice none 0 0, .slice none 0 0] 24)).drew).alloc (.cells #[] 49)).heap.size ((((w.alloc (.cells #[.bool false, .slice Aa0 La0 ca0, .slice Ab0 Lb0 cb0] 24)).alloc (.cells #[.bool false, .slice none 0 0, .slice none 0 0] 24)).drew).alloc (.cells #[] 49))) (.cells #[] 49))
          have T5 := Aside0.mk (T4.out.trans (B5.out.mono T4.out.size))
          have U5 := Aside0.mk (U4.out.trans (B5.out.mono U4.out.size))
          refine hK.out _ _ (HS3.out _ U5.out) (fun hHeld => ?_)
          clear hK K
          try simp only [Act.put, List.setIfInBounds_toArray, List.set_cons_zero, List.set_cons_succ]
          refine Inv.oneL (i := 12) rfl (by kernel_rfl) (fun K hK => ?_)
          rw [if_pos (by rfl)]
          refine wp_append_cap0 (((((w.alloc (.cells #[.bool false, .slice Aa0 La0 ca0, .slice Ab0 Lb0 cb0] 24)).alloc (.cells #[.bool false, .slice none 0 0, .slice none 0 0] 24)).drew).alloc (.cells #[] 49)).alloc (.cells #[] 49)) (.tmp 12) (.tmp 14) rfl rfl rfl (Nu_reads (((((H_N0.out.below B1.out).below B2.out).below B3.out).below B4.out).below B5.out)) (by have := HSM.out; omega) ?_
          intro Aq0 cq0 w6 hCq hcq hB
          have B6 := Aside0.mk hB
          have T6 := Aside0.mk (T5.out.trans (hB.mono T5.out.size))
          have H_Q0 := Aside0.mk (show Nu w6 (.slice Aq0 La0 cq0) n0 from nu_copy H_N0.out hcq hCq)
          clear hB hCq hcq
          have U6 := Aside0.mk (U5.out.trans (B6.out.mono U5.out.size))
          refine hK.out _ _ (HS3.out _ U6.out) (fun hHeld => ?_)
          clear hK K
          try simp only [Act.put, List.setIfInBounds_toArray, List.set_cons_zero, List.set_cons_succ]
          refine Inv.oneL (i := 16) rfl (by kernel_rfl) (fun K hK => ?_)
          rw [if_pos (by rfl)]
          refine wp_append_cap0 w6 (.tmp 16) (.tmp 18) rfl rfl rfl (Nu_reads ((((((H_D0.out.below B1.out).below B2.out).below B3.out).below B4.out).below B5.out).below B6.out)) (by have := HSM.out; omega) ?_
          intro Aq1 cq1 w7 hCq hcq hB
          have B7 := Aside0.mk hB
          have T7 := Aside0.mk (T6.out.trans (hB.mono T6.out.size))
          have H_Q1 := Aside0.mk (show Nu w7 (.slice Aq1 Lb0 cq1) m0 from nu_copy H_D0.out hcq hCq)
          clear hB hCq hcq
          have U7 := Aside0.mk (U6.out.trans (B7.out.mono U6.out.size))
          refine hK.out _ _ (HS3.out _ U7.out) (fun hHeld => ?_)
          clear hK K
          try simp only [Act.put, List.setIfInBounds_toArray, List.set_cons_zero, List.set_cons_succ]
          refine Inv.takeL (i := 17) (v := ?vneg_31) rfl (by kernel_rfl) (by kernel_rfl) (by kernel_rfl) (fun _ _ _ h => h) (by rfl) ?hyneg_31 (by assumption) ?restneg_31
          case hyneg_31 => ((intro w hSw; (try dsimp only at hSw); go_simp) <;> with_reducible rfl)
          try simp only [Act.put, List.setIfInBounds_toArray, List.set_cons_zero, List.set_cons_succ]
          refine Inv.oneL (i := 18) rfl (by kernel_rfl) (fun K hK => ?_)
          have HD := Aside0.mk (r3_done (neg := false) TR.out (by omega) H_res.out ((((B3.out.trans (B4.out.mono B3.out.size)).trans (B5.out.mono (B3.out.trans (B4.out.mono B3.out.size)).size)).trans (B6.out.mono ((B3.out.trans (B4.out.mono B3.out.size)).trans (B5.out.mono (B3.out.trans (B4.out.mono B3.out.size)).size)).size)).trans (B7.out.mono (((B3.out.trans (B4.out.mono B3.out.size)).trans (B5.out.mono (B3.out.trans (B4.out.mono B3.out.size)).size)).trans (B6.out.mono ((B3.out.trans (B4.out.mono B3.out.size)).trans (B5.out.mono (B3.out.trans (B4.out.mono B3.out.size)).size)).size)).size)) (H_Q0.out.below B7.out) H_Q1.out)
          obtain ⟨⟨zc0, zc1, zc2⟩, zf0, zf1, zf2⟩ := H_res.out.below ((((B3.out.trans (B4.out.mono B3.out.size)).trans (B5.out.mono (B3.out.trans (B4.out.mono B3.out.size)).size)).trans (B6.out.mono ((B3.out.trans (B4.out.mono B3.out.size)).trans (B5.out.mono (B3.out.trans (B4.out.mono B3.out.size)).size)).size)).trans (B7.out.mono (((B3.out.trans (B4.out.mono B3.out.size)).trans (B5.out.mono (B3.out.trans (B4.out.mono B3.out.size)).size)).trans (B6.out.mono ((B3.out.trans (B4.out.mono B3.out.size)).trans (B5.out.mono (B3.out.trans (B4.out.mono B3.out.size)).size)).size)).size))
          have HKK := Aside0.mk (HS3.out _ U7.out)
          go_simp
          refine hK.out _ _ (by obtain ⟨k0, k1, k2⟩ := HKK.out; exact ⟨cell_far3 HNE0.out k0, cell_far3 HNE0.out k1, cell_far3 HNE0.out k2⟩) (fun hHeld => ?_)
          clear hK K
          try simp only [Act.put, List.setIfInBounds_toArray, List.set_cons_zero, List.set_cons_succ]
          refine wpAnyH_done (by kernel_rfl) ?_ _
          go_wp2_with fail
          exact bodyPost_ret (v := .agg #[.bool false, .slice Aq0 La0 cq0, .slice Aq1 Lb0 cq1]) (by simp [results, Tryz.results16, go_sem, *]) rfl (done_ra HBQ.out (by rw [HNN.out, HDD.out]; exact HD.out))
      ·
        go_simp
        have B4 := Aside0.mk (below_alloc (Below.refl (((w.alloc (.cells #[.bool false, .slice Aa0 La0 ca0, .slice Ab0 Lb0 cb0] 24)).alloc (.cells #[.bool false, .slice none 0 0, .slice none 0 0] 24)).drew).heap.size (((w.alloc (.cells #[.bool false, .slice Aa0 La0 ca0, .slice Ab0 Lb0 cb0] 24)).alloc (.cells #[.bool false, .slice none 0 0, .slice none 0 0] 24)).drew)) (.cells #[] 49))
        have T4 := Aside0.mk (T3.out.trans (B4.out.mono T3.out.size))
        have U4 := Aside0.mk (U3.out.trans (B4.out.mono U3.out.size))
        refine hK.out _ _ (HS3.out _ U4.out) (fun hHeld => ?_)
        clear hK K
        try simp only [Act.put, List.setIfInBounds_toArray, List.set_cons_zero, List.set_cons_succ]
        refine Inv.oneL (i := 9) rfl (by kernel_rfl) (fun K hK => ?_)
        go_simp
        have B5 := Aside0.mk (below_alloc (Below.refl ((((w.alloc (.cells #[.bool false, .slice Aa0 La0 ca0, .slice Ab0 Lb0 cb0] 24)).alloc (.cells #[.bool false, .slice none 0 0, .slice none 0 0] 24)).drew).alloc (.cells #[] 49)).heap.size ((((w.alloc (.cells #[.bool false, .slice Aa0 La0 ca0, .slice Ab0 Lb0 cb0] 24)).alloc (.cells #[.bool false, .slice none 0 0, .slice none 0 0] 24)).drew).alloc (.cells #[] 49))) (.cells #[] 49))
        have T5 := Aside0.mk (T4.out.trans (B5.out.mono T4.out.size))
        have U5 := Aside0.mk (U4.out.trans (B5.out.mono U4.out.size))
        refine hK.out _ _ (HS3.out _ U5.out) (fun hHeld => ?_)
        clear hK K
        try simp only [Act.put, List.setIfInBounds_toArray, List.set_cons_zero, List.set_cons_succ]
        refine Inv.oneL (i := 12) rfl (by kernel_rfl) (fun K hK => ?_)
        rw [if_pos (by rfl)]
        refine wp_append_cap0 (((((w.alloc (.cells #[.bool false, .slice Aa0 La0 ca0, .slice Ab0 Lb0 cb0] 24)).alloc (.cells #[.bool false, .slice none 0 0, .slice none 0 0] 24)).drew).alloc (.cells #[] 49)).alloc (.cells #[] 49)) (.tmp 12) (.tmp 14) rfl rfl rfl (Nu_reads (((((H_N0.out.below B1.out).below B2.out).below B3.out).below B4.out).below B5.out)) (by have := HSM.out; omega) ?_
        intro Aq0 cq0 w6 hCq hcq hB
        have B6 := Aside0.mk hB
        have T6 := Aside0.mk (T5.out.trans (hB.mono T5.out.size))
        have H_Q0 := Aside0.mk (show Nu w6 (.slice Aq0 La0 cq0) n0 from nu_copy H_N0.out hcq hCq)
        clear hB hCq hcq
        have U6 := Aside0.mk (U5.out.trans (B6.out.mono U5.out.size))
        refine hK.out _ _ (HS3.out _ U6.out) (fun hHeld => ?_)
        clear hK K
        try simp only [Act.put, List.setIfInBounds_toArray, List.set_cons_zero, List.set_cons_succ]
        refine Inv.oneL (i := 16) rfl (by kernel_rfl) (fun K hK => ?_)
        rw [if_pos (by rfl)]
        refine wp_append_cap0 w6 (.tmp 16) (.tmp 18) rfl rfl rfl (Nu_reads ((((((H_D0.out.below B1.out).below B2.out).below B3.out).below B4.out).below B5.out).below B6.out)) (by have := HSM.out; omega) ?_
        intro Aq1 cq1 w7 hCq hcq hB
        have B7 := Aside0.mk hB
        have T7 := Aside0.mk (T6.out.trans (hB.mono T6.out.size))
        have H_Q1 := Aside0.mk (show Nu w7 (.slice Aq1 Lb0 cq1) m0 from nu_copy H_D0.out hcq hCq)
        clear hB hCq hcq
        have U7 := Aside0.mk (U6.out.trans (B7.out.mono U6.out.size))
        refine hK.out _ _ (HS3.out _ U7.out) (fun hHeld => ?_)
        clear hK K
        try simp only [Act.put, List.setIfInBounds_toArray, List.set_cons_zero, List.set_cons_succ]
        refine Inv.takeL (i := 17) (v := ?vneg_32) rfl (by kernel_rfl) (by kernel_rfl) (by kernel_rfl) (fun _ _ _ h => h) (by rfl) ?hyneg_32 (by assumption) ?restneg_32
        case hyneg_32 => ((intro w hSw; (try dsimp only at hSw); go_simp) <;> with_reducible rfl)
        try simp only [Act.put, List.setIfInBounds_toArray, List.set_cons_zero, List.set_cons_succ]
        refine Inv.oneL (i := 18) rfl (by kernel_rfl) (fun K hK => ?_)
        have HD := Aside0.mk (r3_done (neg := false) TR.out (by omega) H_res.out ((((B3.out.trans (B4.out.mono B3.out.size)).trans (B5.out.mono (B3.out.trans (B4.out.mono B3.out.size)).size)).trans (B6.out.mono ((B3.out.trans (B4.out.mono B3.out.size)).trans (B5.out.mono (B3.out.trans (B4.out.mono B3.out.size)).size)).size)).trans (B7.out.mono (((B3.out.trans (B4.out.mono B3.out.size)).trans (B5.out.mono (B3.out.trans (B4.out.mono B3.out.size)).size)).trans (B6.out.mono ((B3.out.trans (B4.out.mono B3.out.size)).trans (B5.out.mono (B3.out.trans (B4.out.mono B3.out.size)).size)).size)).size)) (H_Q0.out.below B7.out) H_Q1.out)
        obtain ⟨⟨zc0, zc1, zc2⟩, zf0, zf1, zf2⟩ := H_res.out.below ((((B3.out.trans (B4.out.mono B3.out.size)).trans (B5.out.mono (B3.out.trans (B4.out.mono B3.out.size)).size)).trans (B6.out.mono ((B3.out.trans (B4.out.mono B3.out.size)).trans (B5.out.mono (B3.out.trans (B4.out.mono B3.out.size)).size)).size)).trans (B7.out.mono (((B3.out.trans (B4.out.mono B3.out.size)).trans (B5.out.mono (B3.out.trans (B4.out.mono B3.out.size)).size)).trans (B6.out.mono ((B3.out.trans (B4.out.mono B3.out.size)).trans (B5.out.mono (B3.out.trans (B4.out.mono B3.out.size)).size)).size)).size))
        have HKK := Aside0.mk (HS3.out _ U7.out)
        go_simp
        refine hK.out _ _ (by obtain ⟨k0, k1, k2⟩ := HKK.out; exact ⟨cell_far3 HNE0.out k0, cell_far3 HNE0.out k1, cell_far3 HNE0.out k2⟩) (fun hHeld => ?_)
        clear hK K
        try simp only [Act.put, List.setIfInBounds_toArray, List.set_cons_zero, List.set_cons_succ]
        refine wpAnyH_done (by kernel_rfl) ?_ _
        go_wp2_with fail
        exact bodyPost_ret (v := .agg #[.bool false, .slice Aq0 La0 cq0, .slice Aq1 Lb0 cq1]) (by simp [results, Tryz.results16, go_sem, *]) rfl (done_ra HBQ.out (by rw [HNN.out, HDD.out]; exact HD.out))
    ·
      have hbq : decide ((-x).num < 0) = true := by rw [HNG.out]; rw [decide_eq_true (hn0)]; rfl
      have HBQ := Aside0.mk hbq.symm
      clear hbq
      have hLp : 0 < La0 := Nat.pos_of_ne_zero fun h => hn0 (hl.1 h)
      have hLi : (0 : Int) < (La0 : Int) := by omega
      clear hn0
      clear hl
      go_enter Tryz.func16, Tryz.ntmps16
      have B1 := Aside0.mk (below_alloc (Below.refl w.heap.size w) (.cells #[.bool false, .slice Aa0 La0 ca0, .slice Ab0 Lb0 cb0] 24))
      have T1 := Aside0.mk (B1.out.mono (Nat.le_refl _))
      have H_bx0 := Aside0.mk (bx w (w.heap.size) (.bool false) (.slice Aa0 La0 ca0) (.slice Ab0 Lb0 cb0) 24 (by simp))
      have B2 := Aside0.mk (below_alloc (Below.refl (w.alloc (.cells #[.bool false, .slice Aa0 La0 ca0, .slice Ab0 Lb0 cb0] 24)).heap.size (w.alloc (.cells #[.bool false, .slice Aa0 La0 ca0, .slice Ab0 Lb0 cb0] 24))) (.cells #[.bool false, .slice none 0 0, .slice none 0 0] 24))
      have T2 := Aside0.mk (T1.out.trans (B2.out.mono T1.out.size))
      have H_res := Aside0.mk (bx (w.alloc (.cells #[.bool false, .slice Aa0 La0 ca0, .slice Ab0 Lb0 cb0] 24)) (w.heap.size + 1) (.bool false) (.slice none 0 0) (.slice none 0 0) 24 (by simp))
      have TR := Aside0.mk T2.out
      have HNE0 := Aside0.mk (show w.heap.size + 1 ≠ w.heap.size by omega)
      go_wp2_with fail
      have B3 := Aside0.mk (Below.drew (Below.refl ((w.alloc (.cells #[.bool false, .slice Aa0 La0 ca0, .slice Ab0 Lb0 cb0] 24)).alloc (.cells #[.bool false, .slice none 0 0, .slice none 0 0] 24)).heap.size ((w.alloc (.cells #[.bool false, .slice Aa0 La0 ca0, .slice Ab0 Lb0 cb0] 24)).alloc (.cells #[.bool false, .slice none 0 0, .slice none 0 0] 24))))
      have T3 := Aside0.mk (T2.out.trans (B3.out.mono T2.out.size))
      have HS3 := Aside0.mk (fun (W : World) (hW : Below (((w.alloc (.cells #[.bool false, .slice Aa0 La0 ca0, .slice Ab0 Lb0 cb0] 24)).alloc (.cells #[.bool false, .slice none 0 0, .slice none 0 0] 24)).drew).heap.size (((w.alloc (.cells #[.bool false, .slice Aa0 La0 ca0, .slice Ab0 Lb0 cb0] 24)).alloc (.cells #[.bool false, .slice none 0 0, .slice none 0 0] 24)).drew) W) => show W.cell? ⟨w.heap.size, 0, none⟩ = some (.bool false) ∧ W.cell? ⟨w.heap.size, 1, none⟩ = some (.slice Aa0 La0 ca0) ∧ W.cell? ⟨w.heap.size, 2, none⟩ = some (.slice Ab0 Lb0 cb0) from ⟨(((H_bx0.out.below B2.out).below B3.out).below hW).1.1, (((H_bx0.out.below B2.out).below B3.out).below hW).1.2.1, (((H_bx0.out.below B2.out).below B3.out).below hW).1.2.2⟩)
      have U3 := Aside0.mk (Below.refl (((w.alloc (.cells #[.bool false, .slice Aa0 La0 ca0, .slice Ab0 Lb0 cb0] 24)).alloc (.cells #[.bool false, .slice none 0 0, .slice none 0 0] 24)).drew).heap.size (((w.alloc (.cells #[.bool false, .slice Aa0 La0 ca0, .slice Ab0 Lb0 cb0] 24)).alloc (.cells #[.bool false, .slice none 0 0, .slice none 0 0] 24)).drew))
      refine wp_region_held_drew (S := fun W => W.cell? ⟨w.heap.size, 0, none⟩ = some (.bool false) ∧ W.cell? ⟨w.heap.size, 1, none⟩ = some (.slice Aa0 La0 ca0) ∧ W.cell? ⟨w.heap.size, 2, none⟩ = some (.slice Ab0 Lb0 cb0)) (by kernel_rfl) (HS3.out _ (Below.refl _ _)) (fun hHeld => ?_)
      refine Inv.takeL (i := 0) (v := ?vneg_33) rfl (by kernel_rfl) (by kernel_rfl) (by kernel_rfl) (fun _ _ _ h => h) (by rfl) ?hyneg_33 (by assumption) ?restneg_33
      case hyneg_33 => ((intro w hSw; (try dsimp only at hSw); go_simp) <;> with_reducible rfl)
      try simp only [Act.put, List.setIfInBounds_toArray, List.set_cons_zero, List.set_cons_succ]
      refine Inv.takeL (i := 1) (v := ?vneg_34) rfl (by kernel_rfl) (by kernel_rfl) (by kernel_rfl) (fun _ _ _ h => h) (by rfl) ?hyneg_34 (by assumption) ?restneg_34
      case hyneg_34 => ((intro w hSw; (try dsimp only at hSw); go_simp) <;> with_reducible rfl)
      try simp only [Act.put, List.setIfInBounds_toArray, List.set_cons_zero, List.set_cons_succ]
      refine Inv.takeL (i := 2) (v := ?vneg_35) rfl (by kernel_rfl) (by kernel_rfl) (by kernel_rfl) (fun _ _ _ h => h) (by rfl) ?hyneg_35 (by assumption) ?restneg_35
      case hyneg_35 => ((intro w hSw; (try dsimp only at hSw); go_simp) <;> with_reducible rfl)
      try simp only [Act.put, List.setIfInBounds_toArray, List.set_cons_zero, List.set_cons_succ]
      refine Inv.takeL (i := 3) (v := ?vneg_36) rfl (by kernel_rfl) (by kernel_rfl) (by kernel_rfl) (fun _ _ _ h => h) (by rfl) ?hyneg_36 (by assumption) ?restneg_36
      case hyneg_36 => ((intro w hSw; (try dsimp only at hSw); go_simp) <;> with_reducible rfl)
      try simp only [Act.put, List.setIfInBounds_toArray, List.set_cons_zero, List.set_cons_succ]
      refine Inv.takeL (i := 4) (v := ?vneg_37) rfl (by kernel_rfl) (by kernel_rfl) (by kernel_rfl) (fun _ _ _ h => h) (by rfl) ?hyneg_37 (by assumption) ?restneg_37
      case hyneg_37 => ((intro w hSw; (try dsimp only at hSw); go_simp) <;> with_reducible rfl)
      try simp only [Act.put, List.setIfInBounds_toArray, List.set_cons_zero, List.set_cons_succ]
      refine Inv.takeL (i := 5) (v := ?vneg_38) rfl (by kernel_rfl) (by kernel_rfl) (by kernel_rfl) (fun _ _ _ h => h) (by rfl) ?hyneg_38 (by assumption) ?restneg_38
      case hyneg_38 => ((intro w hSw; (try dsimp only at hSw); go_simp) <;> with_reducible rfl)
      try simp only [Act.put, List.setIfInBounds_toArray, List.set_cons_zero, List.set_cons_succ]
      refine Inv.takeL (i := 6) (v := ?vneg_39) rfl (by kernel_rfl) (by kernel_rfl) (by kernel_rfl) (fun _ _ _ h => h) (by rfl) ?hyneg_39 (by assumption) ?restneg_39
      case hyneg_39 => ((intro w hSw; (try dsimp only at hSw); go_simp) <;> with_reducible rfl)
      try simp only [Act.put, List.setIfInBounds_toArray, List.set_cons_zero, List.set_cons_succ]
      refine Inv.takeL (i := 7) (v := ?vneg_40) rfl (by kernel_rfl) (by kernel_rfl) (by kernel_rfl) (fun _ _ _ h => h) (by rfl) ?hyneg_40 (by assumption) ?restneg_40
      case hyneg_40 => ((intro w hSw; (try dsimp only at hSw); go_simp) <;> with_reducible rfl)
      try simp only [Act.put, List.setIfInBounds_toArray, List.set_cons_zero, List.set_cons_succ]
      refine Inv.takeL (i := 8) (v := ?vneg_41) rfl (by kernel_rfl) (by kernel_rfl) (by kernel_rfl) (fun _ _ _ h => h) (by rfl) ?hyneg_41 (by assumption) ?restneg_41
      case hyneg_41 => ((intro w hSw; (try dsimp only at hSw); go_simp) <;> with_reducible rfl)
      try simp only [Act.put, List.setIfInBounds_toArray, List.set_cons_zero, List.set_cons_succ]
      refine Inv.takeL (i := 10) (v := ?vneg_42) rfl (by kernel_rfl) (by kernel_rfl) (by kernel_rfl) (fun _ _ _ h => h) (by rfl) ?hyneg_42 (by assumption) ?restneg_42
      case hyneg_42 => ((intro w hSw; (try dsimp only at hSw); go_simp) <;> with_reducible rfl)
      try simp only [Act.put, List.setIfInBounds_toArray, List.set_cons_zero, List.set_cons_succ]
      refine Inv.takeL (i := 11) (v := ?vneg_43) rfl (by kernel_rfl) (by kernel_rfl) (by kernel_rfl) (fun _ _ _ h => h) (by rfl) ?hyneg_43 (by assumption) ?restneg_43
      case hyneg_43 => ((intro w hSw; (try dsimp only at hSw); go_simp) <;> with_reducible rfl)
      try simp only [Act.put, List.setIfInBounds_toArray, List.set_cons_zero, List.set_cons_succ]
      refine Inv.takeL (i := 14) (v := ?vneg_44) rfl (by kernel_rfl) (by kernel_rfl) (by kernel_rfl) (fun _ _ _ h => h) (by rfl) ?hyneg_44 (by assumption) ?restneg_44
      case hyneg_44 => ((intro w hSw; (try dsimp only at hSw); go_simp) <;> with_reducible rfl)
      try simp only [Act.put, List.setIfInBounds_toArray, List.set_cons_zero, List.set_cons_succ]
      refine Inv.takeL (i := 15) (v := ?vneg_45) rfl (by kernel_rfl) (by kernel_rfl) (by kernel_rfl) (fun _ _ _ h => h) (by rfl) ?hyneg_45 (by assumption) ?restneg_45
      case hyneg_45 => ((intro w hSw; (try dsimp only at hSw); go_simp) <;> with_reducible rfl)
      try simp only [Act.put, List.setIfInBounds_toArray, List.set_cons_zero, List.set_cons_succ]
      refine wpAnyH_ready (rs := [9, 13]) (by kernel_rfl) (by simp) (AllReadyH.cons (Inv.at_list rfl) (fun K hK => ?_) (AllReadyH.cons (Inv.at_list rfl) (fun K hK => ?_) AllReadyH.nil))
      ·
        go_simp
        have B4 := Aside0.mk (below_alloc (Below.refl (((w.alloc (.cells #[.bool false, .slice Aa0 La0 ca0, .slice Ab0 Lb0 cb0] 24)).alloc (.cells #[.bool false, .slice none 0 0, .slice none 0 0] 24)).drew).heap.size (((w.alloc (.cells #[.bool false, .slice Aa0 La0 ca0, .slice Ab0 Lb0 cb0] 24)).alloc (.cells #[.bool false, .slice none 0 0, .slice none 0 0] 24)).drew)) (.cells #[] 49))
        have T4 := Aside0.mk (T3.out.trans (B4.out.mono T3.out.size))
        have U4 := Aside0.mk (U3.out.trans (B4.out.mono U3.out.size))
        refine hK.out _ _ (HS3.out _ U4.out) (fun hHeld => ?_)
        clear hK K
        try simp only [Act.put, List.setIfInBounds_toArray, List.set_cons_zero, List.set_cons_succ]
        refine wpAnyH_ready (rs := [12, 13]) (by kernel_rfl) (by simp) (AllReadyH.cons (Inv.at_list rfl) (fun K hK => ?_) (AllReadyH.cons (Inv.at_list rfl) (fun K hK => ?_) AllReadyH.nil))
        ·
          rw [if_pos (by rfl)]
          refine wp_append_cap0 ((((w.alloc (.cells #[.bool false, .slice Aa0 La0 ca0, .slice Ab0 Lb0 cb0] 24)).alloc (.cells #[.bool false, .slice none 0 0, .slice none 0 0] 24)).drew).alloc (.cells #[] 49)) (.tmp 12) (.tmp 14) rfl rfl rfl (Nu_reads ((((H_N0.out.below B1.out).below B2.out).below B3.out).below B4.out)) (by have := HSM.out; omega) ?_
          intro Aq0 cq0 w5 hCq hcq hB
          have B5 := Aside0.mk hB
          have T5 := Aside0.mk (T4.out.trans (hB.mono T4.out.size))
          have H_Q0 := Aside0.mk (show Nu w5 (.slice Aq0 La0 cq0) n0 from nu_copy H_N0.out hcq hCq)
          clear hB hCq hcq
          have U5 := Aside0.mk (U4.out.trans (B5.out.mono U4.out.size))
          refine hK.out _ _ (HS3.out _ U5.out) (fun hHeld => ?_)
          clear hK K
          try simp only [Act.put, List.setIfInBounds_toArray, List.set_cons_zero, List.set_cons_succ]
          refine Inv.oneL (i := 13) rfl (by kernel_rfl) (fun K hK => ?_)
          go_simp
          have B6 := Aside0.mk (below_alloc (Below.refl w5.heap.size w5) (.cells #[] 49))
          have T6 := Aside0.mk (T5.out.trans (B6.out.mono T5.out.size))
          have U6 := Aside0.mk (U5.out.trans (B6.out.mono U5.out.size))
          refine hK.out _ _ (HS3.out _ U6.out) (fun hHeld => ?_)
          clear hK K
          try simp only [Act.put, List.setIfInBounds_toArray, List.set_cons_zero, List.set_cons_succ]
          refine Inv.oneL (i := 16) rfl (by kernel_rfl) (fun K hK => ?_)
          rw [if_pos (by rfl)]
          refine wp_append_cap0 (w5.alloc (.cells #[] 49)) (.tmp 16) (.tmp 18) rfl rfl rfl (Nu_reads ((((((H_D0.out.below B1.out).below B2.out).below B3.out).below B4.out).below B5.out).below B6.out)) (by have := HSM.out; omega) ?_
          intro Aq1 cq1 w7 hCq hcq hB
          have B7 := Aside0.mk hB
          have T7 := Aside0.mk (T6.out.trans (hB.mono T6.out.size))
          have H_Q1 := Aside0.mk (show Nu w7 (.slice Aq1 Lb0 cq1) m0 from nu_copy H_D0.out hcq hCq)
          clear hB hCq hcq
          have U7 := Aside0.mk (U6.out.trans (B7.out.mono U6.out.size))
          refine hK.out _ _ (HS3.out _ U7.out) (fun hHeld => ?_)
          clear hK K
          try simp only [Act.put, List.setIfInBounds_toArray, List.set_cons_zero, List.set_cons_succ]
          refine Inv.takeL (i := 17) (v := ?vneg_46) rfl (by kernel_rfl) (by kernel_rfl) (by kernel_rfl) (fun _ _ _ h => h) (by rfl) ?hyneg_46 (by assumption) ?restneg_46
          case hyneg_46 => ((intro w hSw; (try dsimp only at hSw); go_simp) <;> with_reducible rfl)
          try simp only [Act.put, List.setIfInBounds_toArray, List.set_cons_zero, List.set_cons_succ]
          refine Inv.oneL (i := 18) rfl (by kernel_rfl) (fun K hK => ?_)
          have HD := Aside0.mk (r3_done (neg := true) TR.out (by omega) H_res.out ((((B3.out.trans (B4.out.mono B3.out.size)).trans (B5.out.mono (B3.out.trans (B4.out.mono B3.out.size)).size)).trans (B6.out.mono ((B3.out.trans (B4.out.mono B3.out.size)).trans (B5.out.mono (B3.out.trans (B4.out.mono B3.out.size)).size)).size)).trans (B7.out.mono (((B3.out.trans (B4.out.mono B3.out.size)).trans (B5.out.mono (B3.out.trans (B4.out.mono B3.out.size)).size)).trans (B6.out.mono ((B3.out.trans (B4.out.mono B3.out.size)).trans (B5.out.mono (B3.out.trans (B4.out.mono B3.out.size)).size)).size)).size)) ((H_Q0.out.below B6.out).below B7.out) H_Q1.out)
          obtain ⟨⟨zc0, zc1, zc2⟩, zf0, zf1, zf2⟩ := H_res.out.below ((((B3.out.trans (B4.out.mono B3.out.size)).trans (B5.out.mono (B3.out.trans (B4.out.mono B3.out.size)).size)).trans (B6.out.mono ((B3.out.trans (B4.out.mono B3.out.size)).trans (B5.out.mono (B3.out.trans (B4.out.mono B3.out.size)).size)).size)).trans (B7.out.mono (((B3.out.trans (B4.out.mono B3.out.size)).trans (B5.out.mono (B3.out.trans (B4.out.mono B3.out.size)).size)).trans (B6.out.mono ((B3.out.trans (B4.out.mono B3.out.size)).trans (B5.out.mono (B3.out.trans (B4.out.mono B3.out.size)).size)).size)).size))
          have HKK := Aside0.mk (HS3.out _ U7.out)
          go_simp
          refine hK.out _ _ (by obtain ⟨k0, k1, k2⟩ := HKK.out; exact ⟨cell_far3 HNE0.out k0, cell_far3 HNE0.out k1, cell_far3 HNE0.out k2⟩) (fun hHeld => ?_)
          clear hK K
          try simp only [Act.put, List.setIfInBounds_toArray, List.set_cons_zero, List.set_cons_succ]
          refine wpAnyH_done (by kernel_rfl) ?_ _
          go_wp2_with fail
          exact bodyPost_ret (v := .agg #[.bool true, .slice Aq0 La0 cq0, .slice Aq1 Lb0 cq1]) (by simp [results, Tryz.results16, go_sem, *]) rfl (done_ra HBQ.out (by rw [HNN.out, HDD.out]; exact HD.out))
        ·
          go_simp
          have B5 := Aside0.mk (below_alloc (Below.refl ((((w.alloc (.cells #[.bool false, .slice Aa0 La0 ca0, .slice Ab0 Lb0 cb0] 24)).alloc (.cells #[.bool false, .slice none 0 0, .slice none 0 0] 24)).drew).alloc (.cells #[] 49)).heap.size ((((w.alloc (.cells #[.bool false, .slice Aa0 La0 ca0, .slice Ab0 Lb0 cb0] 24)).alloc (.cells #[.bool false, .slice none 0 0, .slice none 0 0] 24)).drew).alloc (.cells #[] 49))) (.cells #[] 49))
          have T5 := Aside0.mk (T4.out.trans (B5.out.mono T4.out.size))
          have U5 := Aside0.mk (U4.out.trans (B5.out.mono U4.out.size))
          refine hK.out _ _ (HS3.out _ U5.out) (fun hHeld => ?_)
          clear hK K
          try simp only [Act.put, List.setIfInBounds_toArray, List.set_cons_zero, List.set_cons_succ]
          refine Inv.oneL (i := 12) rfl (by kernel_rfl) (fun K hK => ?_)
          rw [if_pos (by rfl)]
          refine wp_append_cap0 (((((w.alloc (.cells #[.bool false, .slice Aa0 La0 ca0, .slice Ab0 Lb0 cb0] 24)).alloc (.cells #[.bool false, .slice none 0 0, .slice none 0 0] 24)).drew).alloc (.cells #[] 49)).alloc (.cells #[] 49)) (.tmp 12) (.tmp 14) rfl rfl rfl (Nu_reads (((((H_N0.out.below B1.out).below B2.out).below B3.out).below B4.out).below B5.out)) (by have := HSM.out; omega) ?_
          intro Aq0 cq0 w6 hCq hcq hB
          have B6 := Aside0.mk hB
          have T6 := Aside0.mk (T5.out.trans (hB.mono T5.out.size))
          have H_Q0 := Aside0.mk (show Nu w6 (.slice Aq0 La0 cq0) n0 from nu_copy H_N0.out hcq hCq)
          clear hB hCq hcq
          have U6 := Aside0.mk (U5.out.trans (B6.out.mono U5.out.size))
          refine hK.out _ _ (HS3.out _ U6.out) (fun hHeld => ?_)
          clear hK K
          try simp only [Act.put, List.setIfInBounds_toArray, List.set_cons_zero, List.set_cons_succ]
          refine Inv.oneL (i := 16) rfl (by kernel_rfl) (fun K hK => ?_)
          rw [if_pos (by rfl)]
          refine wp_append_cap0 w6 (.tmp 16) (.tmp 18) rfl rfl rfl (Nu_reads ((((((H_D0.out.below B1.out).below B2.out).below B3.out).below B4.out).below B5.out).below B6.out)) (by have := HSM.out; omega) ?_
          intro Aq1 cq1 w7 hCq hcq hB
          have B7 := Aside0.mk hB
          have T7 := Aside0.mk (T6.out.trans (hB.mono T6.out.size))
          have H_Q1 := Aside0.mk (show Nu w7 (.slice Aq1 Lb0 cq1) m0 from nu_copy H_D0.out hcq hCq)
          clear hB hCq hcq
          have U7 := Aside0.mk (U6.out.trans (B7.out.mono U6.out.size))
          refine hK.out _ _ (HS3.out _ U7.out) (fun hHeld => ?_)
          clear hK K
          try simp only [Act.put, List.setIfInBounds_toArray, List.set_cons_zero, List.set_cons_succ]
          refine Inv.takeL (i := 17) (v := ?vneg_47) rfl (by kernel_rfl) (by kernel_rfl) (by kernel_rfl) (fun _ _ _ h => h) (by rfl) ?hyneg_47 (by assumption) ?restneg_47
          case hyneg_47 => ((intro w hSw; (try dsimp only at hSw); go_simp) <;> with_reducible rfl)
          try simp only [Act.put, List.setIfInBounds_toArray, List.set_cons_zero, List.set_cons_succ]
          refine Inv.oneL (i := 18) rfl (by kernel_rfl) (fun K hK => ?_)
          have HD := Aside0.mk (r3_done (neg := true) TR.out (by omega) H_res.out ((((B3.out.trans (B4.out.mono B3.out.size)).trans (B5.out.mono (B3.out.trans (B4.out.mono B3.out.size)).size)).trans (B6.out.mono ((B3.out.trans (B4.out.mono B3.out.size)).trans (B5.out.mono (B3.out.trans (B4.out.mono B3.out.size)).size)).size)).trans (B7.out.mono (((B3.out.trans (B4.out.mono B3.out.size)).trans (B5.out.mono (B3.out.trans (B4.out.mono B3.out.size)).size)).trans (B6.out.mono ((B3.out.trans (B4.out.mono B3.out.size)).trans (B5.out.mono (B3.out.trans (B4.out.mono B3.out.size)).size)).size)).size)) (H_Q0.out.below B7.out) H_Q1.out)
          obtain ⟨⟨zc0, zc1, zc2⟩, zf0, zf1, zf2⟩ := H_res.out.below ((((B3.out.trans (B4.out.mono B3.out.size)).trans (B5.out.mono (B3.out.trans (B4.out.mono B3.out.size)).size)).trans (B6.out.mono ((B3.out.trans (B4.out.mono B3.out.size)).trans (B5.out.mono (B3.out.trans (B4.out.mono B3.out.size)).size)).size)).trans (B7.out.mono (((B3.out.trans (B4.out.mono B3.out.size)).trans (B5.out.mono (B3.out.trans (B4.out.mono B3.out.size)).size)).trans (B6.out.mono ((B3.out.trans (B4.out.mono B3.out.size)).trans (B5.out.mono (B3.out.trans (B4.out.mono B3.out.size)).size)).size)).size))
          have HKK := Aside0.mk (HS3.out _ U7.out)
          go_simp
          refine hK.out _ _ (by obtain ⟨k0, k1, k2⟩ := HKK.out; exact ⟨cell_far3 HNE0.out k0, cell_far3 HNE0.out k1, cell_far3 HNE0.out k2⟩) (fun hHeld => ?_)
          clear hK K
          try simp only [Act.put, List.setIfInBounds_toArray, List.set_cons_zero, List.set_cons_succ]
          refine wpAnyH_done (by kernel_rfl) ?_ _
          go_wp2_with fail
          exact bodyPost_ret (v := .agg #[.bool true, .slice Aq0 La0 cq0, .slice Aq1 Lb0 cq1]) (by simp [results, Tryz.results16, go_sem, *]) rfl (done_ra HBQ.out (by rw [HNN.out, HDD.out]; exact HD.out))
      ·
        go_simp
        have B4 := Aside0.mk (below_alloc (Below.refl (((w.alloc (.cells #[.bool false, .slice Aa0 La0 ca0, .slice Ab0 Lb0 cb0] 24)).alloc (.cells #[.bool false, .slice none 0 0, .slice none 0 0] 24)).drew).heap.size (((w.alloc (.cells #[.bool false, .slice Aa0 La0 ca0, .slice Ab0 Lb0 cb0] 24)).alloc (.cells #[.bool false, .slice none 0 0, .slice none 0 0] 24)).drew)) (.cells #[] 49))
        have T4 := Aside0.mk (T3.out.trans (B4.out.mono T3.out.size))
        have U4 := Aside0.mk (U3.out.trans (B4.out.mono U3.out.size))
        refine hK.out _ _ (HS3.out _ U4.out) (fun hHeld => ?_)
        clear hK K
        try simp only [Act.put, List.setIfInBounds_toArray, List.set_cons_zero, List.set_cons_succ]
        refine Inv.oneL (i := 9) rfl (by kernel_rfl) (fun K hK => ?_)
        go_simp
        have B5 := Aside0.mk (below_alloc (Below.refl ((((w.alloc (.cells #[.bool false, .slice Aa0 La0 ca0, .slice Ab0 Lb0 cb0] 24)).alloc (.cells #[.bool false, .slice none 0 0, .slice none 0 0] 24)).drew).alloc (.cells #[] 49)).heap.size ((((w.alloc (.cells #[.bool false, .slice Aa0 La0 ca0, .slice Ab0 Lb0 cb0] 24)).alloc (.cells #[.bool false, .slice none 0 0, .slice none 0 0] 24)).drew).alloc (.cells #[] 49))) (.cells #[] 49))
        have T5 := Aside0.mk (T4.out.trans (B5.out.mono T4.out.size))
        have U5 := Aside0.mk (U4.out.trans (B5.out.mono U4.out.size))
        refine hK.out _ _ (HS3.out _ U5.out) (fun hHeld => ?_)
        clear hK K
        try simp only [Act.put, List.setIfInBounds_toArray, List.set_cons_zero, List.set_cons_succ]
        refine Inv.oneL (i := 12) rfl (by kernel_rfl) (fun K hK => ?_)
        rw [if_pos (by rfl)]
        refine wp_append_cap0 (((((w.alloc (.cells #[.bool false, .slice Aa0 La0 ca0, .slice Ab0 Lb0 cb0] 24)).alloc (.cells #[.bool false, .slice none 0 0, .slice none 0 0] 24)).drew).alloc (.cells #[] 49)).alloc (.cells #[] 49)) (.tmp 12) (.tmp 14) rfl rfl rfl (Nu_reads (((((H_N0.out.below B1.out).below B2.out).below B3.out).below B4.out).below B5.out)) (by have := HSM.out; omega) ?_
        intro Aq0 cq0 w6 hCq hcq hB
        have B6 := Aside0.mk hB
        have T6 := Aside0.mk (T5.out.trans (hB.mono T5.out.size))
        have H_Q0 := Aside0.mk (show Nu w6 (.slice Aq0 La0 cq0) n0 from nu_copy H_N0.out hcq hCq)
        clear hB hCq hcq
        have U6 := Aside0.mk (U5.out.trans (B6.out.mono U5.out.size))
        refine hK.out _ _ (HS3.out _ U6.out) (fun hHeld => ?_)
        clear hK K
        try simp only [Act.put, List.setIfInBounds_toArray, List.set_cons_zero, List.set_cons_succ]
        refine Inv.oneL (i := 16) rfl (by kernel_rfl) (fun K hK => ?_)
        rw [if_pos (by rfl)]
        refine wp_append_cap0 w6 (.tmp 16) (.tmp 18) rfl rfl rfl (Nu_reads ((((((H_D0.out.below B1.out).below B2.out).below B3.out).below B4.out).below B5.out).below B6.out)) (by have := HSM.out; omega) ?_
        intro Aq1 cq1 w7 hCq hcq hB
        have B7 := Aside0.mk hB
        have T7 := Aside0.mk (T6.out.trans (hB.mono T6.out.size))
        have H_Q1 := Aside0.mk (show Nu w7 (.slice Aq1 Lb0 cq1) m0 from nu_copy H_D0.out hcq hCq)
        clear hB hCq hcq
        have U7 := Aside0.mk (U6.out.trans (B7.out.mono U6.out.size))
        refine hK.out _ _ (HS3.out _ U7.out) (fun hHeld => ?_)
        clear hK K
        try simp only [Act.put, List.setIfInBounds_toArray, List.set_cons_zero, List.set_cons_succ]
        refine Inv.takeL (i := 17) (v := ?vneg_48) rfl (by kernel_rfl) (by kernel_rfl) (by kernel_rfl) (fun _ _ _ h => h) (by rfl) ?hyneg_48 (by assumption) ?restneg_48
        case hyneg_48 => ((intro w hSw; (try dsimp only at hSw); go_simp) <;> with_reducible rfl)
        try simp only [Act.put, List.setIfInBounds_toArray, List.set_cons_zero, List.set_cons_succ]
        refine Inv.oneL (i := 18) rfl (by kernel_rfl) (fun K hK => ?_)
        have HD := Aside0.mk (r3_done (neg := true) TR.out (by omega) H_res.out ((((B3.out.trans (B4.out.mono B3.out.size)).trans (B5.out.mono (B3.out.trans (B4.out.mono B3.out.size)).size)).trans (B6.out.mono ((B3.out.trans (B4.out.mono B3.out.size)).trans (B5.out.mono (B3.out.trans (B4.out.mono B3.out.size)).size)).size)).trans (B7.out.mono (((B3.out.trans (B4.out.mono B3.out.size)).trans (B5.out.mono (B3.out.trans (B4.out.mono B3.out.size)).size)).trans (B6.out.mono ((B3.out.trans (B4.out.mono B3.out.size)).trans (B5.out.mono (B3.out.trans (B4.out.mono B3.out.size)).size)).size)).size)) (H_Q0.out.below B7.out) H_Q1.out)
        obtain ⟨⟨zc0, zc1, zc2⟩, zf0, zf1, zf2⟩ := H_res.out.below ((((B3.out.trans (B4.out.mono B3.out.size)).trans (B5.out.mono (B3.out.trans (B4.out.mono B3.out.size)).size)).trans (B6.out.mono ((B3.out.trans (B4.out.mono B3.out.size)).trans (B5.out.mono (B3.out.trans (B4.out.mono B3.out.size)).size)).size)).trans (B7.out.mono (((B3.out.trans (B4.out.mono B3.out.size)).trans (B5.out.mono (B3.out.trans (B4.out.mono B3.out.size)).size)).trans (B6.out.mono ((B3.out.trans (B4.out.mono B3.out.size)).trans (B5.out.mono (B3.out.trans (B4.out.mono B3.out.size)).size)).size)).size))
        have HKK := Aside0.mk (HS3.out _ U7.out)
        go_simp
        refine hK.out _ _ (by obtain ⟨k0, k1, k2⟩ := HKK.out; exact ⟨cell_far3 HNE0.out k0, cell_far3 HNE0.out k1, cell_far3 HNE0.out k2⟩) (fun hHeld => ?_)
        clear hK K
        try simp only [Act.put, List.setIfInBounds_toArray, List.set_cons_zero, List.set_cons_succ]
        refine wpAnyH_done (by kernel_rfl) ?_ _
        go_wp2_with fail
        exact bodyPost_ret (v := .agg #[.bool true, .slice Aq0 La0 cq0, .slice Aq1 Lb0 cq1]) (by simp [results, Tryz.results16, go_sem, *]) rfl (done_ra HBQ.out (by rw [HNN.out, HDD.out]; exact HD.out))
end Go.Proofs.YtklhpobphloehaaGreatDoor.G
/- The reference's functions of rational numbers: Sub, Abs. -/
set_option linter.unusedVariables false
namespace Go.Proofs.YtklhpobphloehaaGreatDoor.G
open Go.RowKit Go.Proofs.YtklhpobphloehaaGreatDoorW.PrintWords Go.Proofs.YtklhpobphloehaaGreatDoorW.PrintLast Go.Proofs.YtklhpobphloehaaGreatDoor.Nn

theorem abs_negS {x : Rat} (h : decide (x.num < 0) = true) : Rat.abs x = -x := by
  unfold Rat.abs
  rw [if_neg]
  rw [← Rat.num_nonneg]
  have := of_decide_eq_true h
  omega
theorem abs_posS {x : Rat} (h : decide (x.num < 0) = false) : Rat.abs x = x := by
  unfold Rat.abs
  rw [if_pos]
  rw [← Rat.num_nonneg]
  have := of_decide_eq_false h
  omega
set_option maxHeartbeats 2000000 in
set_option maxRecDepth 100000 in
theorem ssubR0 {w : World} {v0 v1 : Value} {x y : Rat} (hx : Ra w v0 x) (hy : Ra w v1 y) (hbx : Rb 200 x) (hby : Rb 200 y) (HADD : ∀ (W : World) (u0 u1 : Value) (a b : Rat), Ra W u0 a → Ra W u1 b → Rb 200 a → Rb 200 b → Calls Tryz.prog 20 #[u0, u1] W (RaPost W (a + b))) : Calls Tryz.prog 22 #[v0, v1] w (RaPost w (x - y)) := by
  obtain ⟨Aa0, La0, ca0, Ab0, Lb0, cb0, rfl, hn0, hd0⟩ := hx
  obtain ⟨g0, hg0⟩ : ∃ b, b = decide (x.num < 0) := ⟨_, rfl⟩
  have EG0 := Aside0.mk hg0
  rw [← hg0]
  obtain ⟨n0, hnn0⟩ : ∃ n, n = x.num.natAbs := ⟨_, rfl⟩
  obtain ⟨m0, hmm0⟩ : ∃ n, n = x.den := ⟨_, rfl⟩
  rw [← hnn0] at hn0
  rw [← hmm0] at hd0
  have EN0 := Aside0.mk hnn0
  have EM0 := Aside0.mk hmm0
  have H_N0 := Aside0.mk hn0
  have H_D0 := Aside0.mk hd0
  have BB0 := Aside0.mk hbx
  have X_N0 := Aside0.mk (show n0 < pw 200 by rw [hnn0]; exact BB0.out.1)
  have X_D0 := Aside0.mk (show m0 < pw 200 by rw [hmm0]; exact BB0.out.2)
  have M00 := Aside0.mk (show m0 ≠ 0 by rw [hmm0]; exact x.den_nz)
  clear hg0 hnn0 hmm0 hn0 hd0
  obtain ⟨Aa1, La1, ca1, Ab1, Lb1, cb1, rfl, hn1, hd1⟩ := hy
  obtain ⟨g1, hg1⟩ : ∃ b, b = decide (y.num < 0) := ⟨_, rfl⟩
  have EG1 := Aside0.mk hg1
  rw [← hg1]
  obtain ⟨n1, hnn1⟩ : ∃ n, n = y.num.natAbs := ⟨_, rfl⟩
  obtain ⟨m1, hmm1⟩ : ∃ n, n = y.den := ⟨_, rfl⟩
  rw [← hnn1] at hn1
  rw [← hmm1] at hd1
  have EN1 := Aside0.mk hnn1
  have EM1 := Aside0.mk hmm1
  have H_N1 := Aside0.mk hn1
  have H_D1 := Aside0.mk hd1
  have BB1 := Aside0.mk hby
  have X_N1 := Aside0.mk (show n1 < pw 200 by rw [hnn1]; exact BB1.out.1)
  have X_D1 := Aside0.mk (show m1 < pw 200 by rw [hmm1]; exact BB1.out.2)
  have M01 := Aside0.mk (show m1 ≠ 0 by rw [hmm1]; exact y.den_nz)
  clear hg1 hnn1 hmm1 hn1 hd1
  have HAD := Aside0.mk HADD
  clear HADD
  obtain ⟨ny, hny⟩ : ∃ q : Rat, q = -y := ⟨_, rfl⟩
  obtain ⟨X, hX⟩ : ∃ q : Rat, q = x - y := ⟨_, rfl⟩
  rw [← hX]
  have HXE := Aside0.mk (show X = x + ny by rw [hX, hny, Rat.sub_eq_add_neg])
  have HNY := Aside0.mk hny
  have BBN := Aside0.mk (show Rb 200 ny by rw [hny]; exact neg_bnd BB1.out)
  clear hX hny
  go_enter Tryz.func22, Tryz.ntmps22
  have B1 := Aside0.mk (below_alloc (Below.refl w.heap.size w) (.cells #[.bool g0, .slice Aa0 La0 ca0, .slice Ab0 Lb0 cb0] 24))
  have T1 := Aside0.mk (B1.out.mono (Nat.le_refl _))
  have H_bx0 := Aside0.mk (bx w (w.heap.size) (.bool g0) (.slice Aa0 La0 ca0) (.slice Ab0 Lb0 cb0) 24 (by simp))
  have B2 := Aside0.mk (below_alloc (Below.refl (w.alloc (.cells #[.bool g0, .slice Aa0 La0 ca0, .slice Ab0 Lb0 cb0] 24)).heap.size (w.alloc (.cells #[.bool g0, .slice Aa0 La0 ca0, .slice Ab0 Lb0 cb0] 24))) (.cells #[.bool g1, .slice Aa1 La1 ca1, .slice Ab1 Lb1 cb1] 24))
  have T2 := Aside0.mk (T1.out.trans (B2.out.mono T1.out.size))
  have H_bx1 := Aside0.mk (bx (w.alloc (.cells #[.bool g0, .slice Aa0 La0 ca0, .slice Ab0 Lb0 cb0] 24)) (w.heap.size + 1) (.bool g1) (.slice Aa1 La1 ca1) (.slice Ab1 Lb1 cb1) 24 (by simp))
  have B3 := Aside0.mk (below_alloc (Below.refl ((w.alloc (.cells #[.bool g0, .slice Aa0 La0 ca0, .slice Ab0 Lb0 cb0] 24)).alloc (.cells #[.bool g1, .slice Aa1 La1 ca1, .slice Ab1 Lb1 cb1] 24)).heap.size ((w.alloc (.cells #[.bool g0, .slice Aa0 La0 ca0, .slice Ab0 Lb0 cb0] 24)).alloc (.cells #[.bool g1, .slice Aa1 La1 ca1, .slice Ab1 Lb1 cb1] 24))) (.cells #[.bool false, .slice none 0 0, .slice none 0 0] 24))
  have T3 := Aside0.mk (T2.out.trans (B3.out.mono T2.out.size))
  have H_res := Aside0.mk (bx ((w.alloc (.cells #[.bool g0, .slice Aa0 La0 ca0, .slice Ab0 Lb0 cb0] 24)).alloc (.cells #[.bool g1, .slice Aa1 La1 ca1, .slice Ab1 Lb1 cb1] 24)) (w.heap.size + 2) (.bool false) (.slice none 0 0) (.slice none 0 0) 24 (by simp))
  have TR := Aside0.mk T3.out
  have HNE0 := Aside0.mk (show w.heap.size + 2 ≠ w.heap.size by omega)
  have HNE1 := Aside0.mk (show w.heap.size + 2 ≠ w.heap.size + 1 by omega)
  go_wp2_with fail
  have B4 := Aside0.mk (Below.drew (Below.refl (((w.alloc (.cells #[.bool g0, .slice Aa0 La0 ca0, .slice Ab0 Lb0 cb0] 24)).alloc (.cells #[.bool g1, .slice Aa1 La1 ca1, .slice Ab1 Lb1 cb1] 24)).alloc (.cells #[.bool false, .slice none 0 0, .slice none 0 0] 24)).heap.size (((w.alloc (.cells #[.bool g0, .slice Aa0 La0 ca0, .slice Ab0 Lb0 cb0] 24)).alloc (.cells #[.bool g1, .slice Aa1 La1 ca1, .slice Ab1 Lb1 cb1] 24)).alloc (.cells #[.bool false, .slice none 0 0, .slice none 0 0] 24))))
  have T4 := Aside0.mk (T3.out.trans (B4.out.mono T3.out.size))
  have HS4 := Aside0.mk (fun (W : World) (hW : Below ((((w.alloc (.cells #[.bool g0, .slice Aa0 La0 ca0, .slice Ab0 Lb0 cb0] 24)).alloc (.cells #[.bool g1, .slice Aa1 La1 ca1, .slice Ab1 Lb1 cb1] 24)).alloc (.cells #[.bool false, .slice none 0 0, .slice none 0 0] 24)).drew).heap.size ((((w.alloc (.cells #[.bool g0, .slice Aa0 La0 ca0, .slice Ab0 Lb0 cb0] 24)).alloc (.cells #[.bool g1, .slice Aa1 La1 ca1, .slice Ab1 Lb1 cb1] 24)).alloc (.cells #[.bool false, .slice none 0 0, .slice none 0 0] 24)).drew) W) => show W.cell? ⟨w.heap.size, 0, none⟩ = some (.bool g0) ∧ W.cell? ⟨w.heap.size, 1, none⟩ = some (.slice Aa0 La0 ca0) ∧ W.cell? ⟨w.heap.size, 2, none⟩ = some (.slice Ab0 Lb0 cb0) ∧ W.cell? ⟨w.heap.size + 1, 0, none⟩ = some (.bool g1) ∧ W.cell? ⟨w.heap.size + 1, 1, none⟩ = some (.slice Aa1 La1 ca1) ∧ W.cell? ⟨w.heap.size + 1, 2, none⟩ = some (.slice Ab1 Lb1 cb1) from ⟨((((H_bx0.out.below B2.out).below B3.out).below B4.out).below hW).1.1, ((((H_bx0.out.below B2.out).below B3.out).below B4.out).below hW).1.2.1, ((((H_bx0.out.below B2.out).below B3.out).below B4.out).below hW).1.2.2, (((H_bx1.out.below B3.out).below B4.out).below hW).1.1, (((H_bx1.out.below B3.out).below B4.out).below hW).1.2.1, (((H_bx1.out.below B3.out).below B4.out).below hW).1.2.2⟩)
  have U4 := Aside0.mk (Below.refl ((((w.alloc (.cells #[.bool g0, .slice Aa0 La0 ca0, .slice Ab0 Lb0 cb0] 24)).alloc (.cells #[.bool g1, .slice Aa1 La1 ca1, .slice Ab1 Lb1 cb1] 24)).alloc (.cells #[.bool false, .slice none 0 0, .slice none 0 0] 24)).drew).heap.size ((((w.alloc (.cells #[.bool g0, .slice Aa0 La0 ca0, .slice Ab0 Lb0 cb0] 24)).alloc (.cells #[.bool g1, .slice Aa1 La1 ca1, .slice Ab1 Lb1 cb1] 24)).alloc (.cells #[.bool false, .slice none 0 0, .slice none 0 0] 24)).drew))
  refine wp_region_held_drew (S := fun W => W.cell? ⟨w.heap.size, 0, none⟩ = some (.bool g0) ∧ W.cell? ⟨w.heap.size, 1, none⟩ = some (.slice Aa0 La0 ca0) ∧ W.cell? ⟨w.heap.size, 2, none⟩ = some (.slice Ab0 Lb0 cb0) ∧ W.cell? ⟨w.heap.size + 1, 0, none⟩ = some (.bool g1) ∧ W.cell? ⟨w.heap.size + 1, 1, none⟩ = some (.slice Aa1 La1 ca1) ∧ W.cell? ⟨w.heap.size + 1, 2, none⟩ = some (.slice Ab1 Lb1 cb1)) (by kernel_rfl) (HS4.out _ (Below.refl _ _)) (fun hHeld => ?_)
  refine Inv.takeL (i := 0) (v := ?vsub_1) rfl (by kernel_rfl) (by kernel_rfl) (by kernel_rfl) (fun _ _ _ h => h) (by rfl) ?hysub_1 (by assumption) ?restsub_1
  case hysub_1 => ((intro w hSw; (try dsimp only at hSw); go_simp) <;> with_reducible rfl)
  try simp only [Act.put, List.setIfInBounds_toArray, List.set_cons_zero, List.set_cons_succ]
  refine Inv.takeL (i := 1) (v := ?vsub_2) rfl (by kernel_rfl) (by kernel_rfl) (by kernel_rfl) (fun _ _ _ h => h) (by rfl) ?hysub_2 (by assumption) ?restsub_2
  case hysub_2 => ((intro w hSw; (try dsimp only at hSw); go_simp) <;> with_reducible rfl)
  try simp only [Act.put, List.setIfInBounds_toArray, List.set_cons_zero, List.set_cons_succ]
  refine Inv.oneL (i := 2) rfl (by kernel_rfl) (fun K hK => ?_)
  have HC : Aside0 (Calls Tryz.prog 16 #[(.agg #[.bool g1, .slice Aa1 La1 ca1, .slice Ab1 Lb1 cb1])] ((((w.alloc (.cells #[.bool g0, .slice Aa0 La0 ca0, .slice Ab0 Lb0 cb0] 24)).alloc (.cells #[.bool g1, .slice Aa1 La1 ca1, .slice Ab1 Lb1 cb1] 24)).alloc (.cells #[.bool false, .slice none 0 0, .slice none 0 0] 24)).drew) (RaPost ((((w.alloc (.cells #[.bool g0, .slice Aa0 La0 ca0, .slice Ab0 Lb0 cb0] 24)).alloc (.cells #[.bool g1, .slice Aa1 La1 ca1, .slice Ab1 Lb1 cb1] 24)).alloc (.cells #[.bool false, .slice none 0 0, .slice none 0 0] 24)).drew) (ny))) := ⟨by rw [HNY.out]; exact snegR (R3.below (show Ra w (.agg #[.bool g1, .slice Aa1 La1 ca1, .slice Ab1 Lb1 cb1]) y from by unfold Ra; rw [← EG1.out, ← EN1.out, ← EM1.out]; exact ⟨_, _, _, _, _, _, rfl, H_N1.out, H_D1.out⟩) T4.out) BB1.out⟩
  go_simp
  refine HC.out.mono ?_
  clear HC
  rintro e w5 ⟨v_ny_, rfl, ⟨A_ny_, M_ny_, c_ny_, B_ny_, K_ny_, d_ny_, rfl, hNA, hNB⟩, hB⟩
  try go_wp2_with fail
  have B5 := Aside0.mk hB
  have T5 := Aside0.mk (T4.out.trans (hB.mono T4.out.size))
  obtain ⟨b_ny_, hb_ny_⟩ : ∃ b, b = decide (Rat.num (ny) < 0) := ⟨_, rfl⟩
  try rw [← hb_ny_]
  have E_ny_ := Aside0.mk hb_ny_
  clear hb_ny_
  have NA_ny_ := Aside0.mk hNA
  have NB_ny_ := Aside0.mk hNB
  clear hNA hNB hB
  have H_ny_ := Aside0.mk (show Ra w5 (.agg #[.bool b_ny_, .slice A_ny_ M_ny_ c_ny_, .slice B_ny_ K_ny_ d_ny_]) (ny) from by unfold Ra; rw [← E_ny_.out]; exact ⟨_, _, _, _, _, _, rfl, NA_ny_.out, NB_ny_.out⟩)
  have U5 := Aside0.mk (U4.out.trans (B5.out.mono U4.out.size))
  refine hK.out _ _ (HS4.out _ U5.out) (fun hHeld => ?_)
  clear hK K
  try simp only [Act.put, List.setIfInBounds_toArray, List.set_cons_zero, List.set_cons_succ]
  refine Inv.oneL (i := 3) rfl (by kernel_rfl) (fun K hK => ?_)
  have HC : Aside0 (Calls Tryz.prog 20 #[(.agg #[.bool g0, .slice Aa0 La0 ca0, .slice Ab0 Lb0 cb0]), (.agg #[.bool b_ny_, .slice A_ny_ M_ny_ c_ny_, .slice B_ny_ K_ny_ d_ny_])] w5 (RaPost w5 (X))) := ⟨by rw [HXE.out]; exact HAD.out _ _ _ x ny (R3.below (show Ra w (.agg #[.bool g0, .slice Aa0 La0 ca0, .slice Ab0 Lb0 cb0]) x from by unfold Ra; rw [← EG0.out, ← EN0.out, ← EM0.out]; exact ⟨_, _, _, _, _, _, rfl, H_N0.out, H_D0.out⟩) T5.out) H_ny_.out BB0.out BBN.out⟩
  go_simp
  refine HC.out.mono ?_
  clear HC
  rintro e w6 ⟨v_q, rfl, ⟨A_q, M_q, c_q, B_q, K_q, d_q, rfl, hNA, hNB⟩, hB⟩
  try go_wp2_with fail
  have B6 := Aside0.mk hB
  have T6 := Aside0.mk (T5.out.trans (hB.mono T5.out.size))
  obtain ⟨b_q, hb_q⟩ : ∃ b, b = decide (Rat.num (X) < 0) := ⟨_, rfl⟩
  try rw [← hb_q]
  have E_q := Aside0.mk hb_q
  clear hb_q
  have NA_q := Aside0.mk hNA
  have NB_q := Aside0.mk hNB
  clear hNA hNB hB
  have H_q := Aside0.mk (show Ra w6 (.agg #[.bool b_q, .slice A_q M_q c_q, .slice B_q K_q d_q]) (X) from by unfold Ra; rw [← E_q.out]; exact ⟨_, _, _, _, _, _, rfl, NA_q.out, NB_q.out⟩)
  have U6 := Aside0.mk (U5.out.trans (B6.out.mono U5.out.size))
  refine hK.out _ _ (HS4.out _ U6.out) (fun hHeld => ?_)
  clear hK K
  try simp only [Act.put, List.setIfInBounds_toArray, List.set_cons_zero, List.set_cons_succ]
  refine Inv.oneL (i := 4) rfl (by kernel_rfl) (fun K hK => ?_)
  have HD := Aside0.mk (r3_done (neg := b_q) TR.out (by omega) H_res.out ((B4.out.trans (B5.out.mono B4.out.size)).trans (B6.out.mono (B4.out.trans (B5.out.mono B4.out.size)).size)) NA_q.out NB_q.out)
  obtain ⟨⟨zc0, zc1, zc2⟩, zf0, zf1, zf2⟩ := (((H_res.out.below B4.out).below B5.out).below B6.out)
  have HKK := Aside0.mk (HS4.out _ U6.out)
  go_simp
  refine hK.out _ _ (by obtain ⟨k0, k1, k2, k3, k4, k5⟩ := HKK.out; exact ⟨cell_far3 HNE0.out k0, cell_far3 HNE0.out k1, cell_far3 HNE0.out k2, cell_far3 HNE1.out k3, cell_far3 HNE1.out k4, cell_far3 HNE1.out k5⟩) (fun hHeld => ?_)
  clear hK K
  try simp only [Act.put, List.setIfInBounds_toArray, List.set_cons_zero, List.set_cons_succ]
  refine wpAnyH_done (by kernel_rfl) ?_ _
  go_wp2_with fail
  exact bodyPost_ret (v := .agg #[.bool b_q, .slice A_q M_q c_q, .slice B_q K_q d_q]) (by simp [results, Tryz.results22, go_sem, *]) rfl (done_ra E_q.out HD.out)
set_option maxHeartbeats 2000000 in
set_option maxRecDepth 100000 in
theorem sabsN {w : World} {v0 : Value} {x : Rat} (hx : Ra w v0 x) (hbx : Rb 200 x) (hs : decide (x.num < 0) = true) : Calls Tryz.prog 18 #[v0] w (RaPost w (Rat.abs x)) := by
  obtain ⟨Aa0, La0, ca0, Ab0, Lb0, cb0, rfl, hn0, hd0⟩ := hx
  obtain ⟨g0, hg0⟩ : ∃ b, b = decide (x.num < 0) := ⟨_, rfl⟩
  have EG0 := Aside0.mk hg0
  rw [← hg0]
  obtain ⟨n0, hnn0⟩ : ∃ n, n = x.num.natAbs := ⟨_, rfl⟩
  obtain ⟨m0, hmm0⟩ : ∃ n, n = x.den := ⟨_, rfl⟩
  rw [← hnn0] at hn0
  rw [← hmm0] at hd0
  have EN0 := Aside0.mk hnn0
  have EM0 := Aside0.mk hmm0
  have H_N0 := Aside0.mk hn0
  have H_D0 := Aside0.mk hd0
  have BB0 := Aside0.mk hbx
  have X_N0 := Aside0.mk (show n0 < pw 200 by rw [hnn0]; exact BB0.out.1)
  have X_D0 := Aside0.mk (show m0 < pw 200 by rw [hmm0]; exact BB0.out.2)
  have M00 := Aside0.mk (show m0 ≠ 0 by rw [hmm0]; exact x.den_nz)
  clear hg0 hnn0 hmm0 hn0 hd0
  obtain rfl : g0 = true := EG0.out.trans hs
  rw [abs_negS hs]
  clear hs
  obtain ⟨nx, hnx⟩ : ∃ q : Rat, q = -x := ⟨_, rfl⟩
  have HNX := Aside0.mk hnx
  have HXX := Aside0.mk (show x = -nx by rw [hnx, Rat.neg_neg])
  have BBN := Aside0.mk (show Rb 200 nx by rw [hnx]; exact neg_bnd BB0.out)
  try rw [← hnx]
  clear hnx
  go_enter Tryz.func18, Tryz.ntmps18
  have B1 := Aside0.mk (below_alloc (Below.refl w.heap.size w) (.cells #[.bool true, .slice Aa0 La0 ca0, .slice Ab0 Lb0 cb0] 24))
  have T1 := Aside0.mk (B1.out.mono (Nat.le_refl _))
  have H_bx0 := Aside0.mk (bx w (w.heap.size) (.bool true) (.slice Aa0 La0 ca0) (.slice Ab0 Lb0 cb0) 24 (by simp))
  have B2 := Aside0.mk (below_alloc (Below.refl (w.alloc (.cells #[.bool true, .slice Aa0 La0 ca0, .slice Ab0 Lb0 cb0] 24)).heap.size (w.alloc (.cells #[.bool true, .slice Aa0 La0 ca0, .slice Ab0 Lb0 cb0] 24))) (.cells #[.bool false, .slice none 0 0, .slice none 0 0] 24))
  have T2 := Aside0.mk (T1.out.trans (B2.out.mono T1.out.size))
  have H_res := Aside0.mk (bx (w.alloc (.cells #[.bool true, .slice Aa0 La0 ca0, .slice Ab0 Lb0 cb0] 24)) (w.heap.size + 1) (.bool false) (.slice none 0 0) (.slice none 0 0) 24 (by simp))
  have TR := Aside0.mk T2.out
  have HNE0 := Aside0.mk (show w.heap.size + 1 ≠ w.heap.size by omega)
  obtain ⟨⟨hu0, hu1, hu2⟩, _⟩ := (H_bx0.out.below B2.out)
  have HC : Aside0 (Calls Tryz.prog 16 #[(.agg #[.bool true, .slice Aa0 La0 ca0, .slice Ab0 Lb0 cb0])] ((w.alloc (.cells #[.bool true, .slice Aa0 La0 ca0, .slice Ab0 Lb0 cb0] 24)).alloc (.cells #[.bool false, .slice none 0 0, .slice none 0 0] 24)) (RaPost ((w.alloc (.cells #[.bool true, .slice Aa0 La0 ca0, .slice Ab0 Lb0 cb0] 24)).alloc (.cells #[.bool false, .slice none 0 0, .slice none 0 0] 24)) (nx))) := ⟨by rw [HNX.out]; exact snegR (R3.below (show Ra w (.agg #[.bool true, .slice Aa0 La0 ca0, .slice Ab0 Lb0 cb0]) x from by unfold Ra; rw [← EG0.out, ← EN0.out, ← EM0.out]; exact ⟨_, _, _, _, _, _, rfl, H_N0.out, H_D0.out⟩) T2.out) BB0.out⟩
  go_wp2_with fail
  refine HC.out.mono ?_
  clear HC
  rintro e w3 ⟨v_q1, rfl, ⟨A_q1, M_q1, c_q1, B_q1, K_q1, d_q1, rfl, hNA, hNB⟩, hB⟩
  have B3 := Aside0.mk hB
  have T3 := Aside0.mk (T2.out.trans (hB.mono T2.out.size))
  obtain ⟨b_q1, hb_q1⟩ : ∃ b, b = decide (Rat.num (nx) < 0) := ⟨_, rfl⟩
  try rw [← hb_q1]
  have E_q1 := Aside0.mk hb_q1
  clear hb_q1
  have NA_q1 := Aside0.mk hNA
  have NB_q1 := Aside0.mk hNB
  clear hNA hNB hB
  have H_q1 := Aside0.mk (show Ra w3 (.agg #[.bool b_q1, .slice A_q1 M_q1 c_q1, .slice B_q1 K_q1 d_q1]) (nx) from by unfold Ra; rw [← E_q1.out]; exact ⟨_, _, _, _, _, _, rfl, NA_q1.out, NB_q1.out⟩)
  have HD := Aside0.mk (r3_done (neg := b_q1) TR.out (by omega) H_res.out B3.out NA_q1.out NB_q1.out)
  obtain ⟨⟨zc0, zc1, zc2⟩, zf0, zf1, zf2⟩ := (H_res.out.below B3.out)
  go_wp2_with fail
  exact bodyPost_ret (v := .agg #[.bool b_q1, .slice A_q1 M_q1 c_q1, .slice B_q1 K_q1 d_q1]) (by simp [results, Tryz.results18, go_sem, *]) rfl (done_ra E_q1.out HD.out)
set_option maxHeartbeats 2000000 in
set_option maxRecDepth 100000 in
theorem sabsP {w : World} {v0 : Value} {x : Rat} (hx : Ra w v0 x) (hbx : Rb 200 x) (hs : decide (x.num < 0) = false) : Calls Tryz.prog 18 #[v0] w (RaPost w (Rat.abs x)) := by
  obtain ⟨Aa0, La0, ca0, Ab0, Lb0, cb0, rfl, hn0, hd0⟩ := hx
  obtain ⟨g0, hg0⟩ : ∃ b, b = decide (x.num < 0) := ⟨_, rfl⟩
  have EG0 := Aside0.mk hg0
  rw [← hg0]
  obtain ⟨n0, hnn0⟩ : ∃ n, n = x.num.natAbs := ⟨_, rfl⟩
  obtain ⟨m0, hmm0⟩ : ∃ n, n = x.den := ⟨_, rfl⟩
  rw [← hnn0] at hn0
  rw [← hmm0] at hd0
  have EN0 := Aside0.mk hnn0
  have EM0 := Aside0.mk hmm0
  have H_N0 := Aside0.mk hn0
  have H_D0 := Aside0.mk hd0
  have BB0 := Aside0.mk hbx
  have X_N0 := Aside0.mk (show n0 < pw 200 by rw [hnn0]; exact BB0.out.1)
  have X_D0 := Aside0.mk (show m0 < pw 200 by rw [hmm0]; exact BB0.out.2)
  have M00 := Aside0.mk (show m0 ≠ 0 by rw [hmm0]; exact x.den_nz)
  clear hg0 hnn0 hmm0 hn0 hd0
  obtain rfl : g0 = false := EG0.out.trans hs
  rw [abs_posS hs]
  clear hs
  obtain ⟨nx, hnx⟩ : ∃ q : Rat, q = -x := ⟨_, rfl⟩
  have HNX := Aside0.mk hnx
  have HXX := Aside0.mk (show x = -nx by rw [hnx, Rat.neg_neg])
  have BBN := Aside0.mk (show Rb 200 nx by rw [hnx]; exact neg_bnd BB0.out)
  try rw [← hnx]
  clear hnx
  go_enter Tryz.func18, Tryz.ntmps18
  have B1 := Aside0.mk (below_alloc (Below.refl w.heap.size w) (.cells #[.bool false, .slice Aa0 La0 ca0, .slice Ab0 Lb0 cb0] 24))
  have T1 := Aside0.mk (B1.out.mono (Nat.le_refl _))
  have H_bx0 := Aside0.mk (bx w (w.heap.size) (.bool false) (.slice Aa0 La0 ca0) (.slice Ab0 Lb0 cb0) 24 (by simp))
  have B2 := Aside0.mk (below_alloc (Below.refl (w.alloc (.cells #[.bool false, .slice Aa0 La0 ca0, .slice Ab0 Lb0 cb0] 24)).heap.size (w.alloc (.cells #[.bool false, .slice Aa0 La0 ca0, .slice Ab0 Lb0 cb0] 24))) (.cells #[.bool false, .slice none 0 0, .slice none 0 0] 24))
  have T2 := Aside0.mk (T1.out.trans (B2.out.mono T1.out.size))
  have H_res := Aside0.mk (bx (w.alloc (.cells #[.bool false, .slice Aa0 La0 ca0, .slice Ab0 Lb0 cb0] 24)) (w.heap.size + 1) (.bool false) (.slice none 0 0) (.slice none 0 0) 24 (by simp))
  have TR := Aside0.mk T2.out
  have HNE0 := Aside0.mk (show w.heap.size + 1 ≠ w.heap.size by omega)
  obtain ⟨⟨hu0, hu1, hu2⟩, _⟩ := (H_bx0.out.below B2.out)
  have HC : Aside0 (Calls Tryz.prog 16 #[(.agg #[.bool false, .slice Aa0 La0 ca0, .slice Ab0 Lb0 cb0])] ((w.alloc (.cells #[.bool false, .slice Aa0 La0 ca0, .slice Ab0 Lb0 cb0] 24)).alloc (.cells #[.bool false, .slice none 0 0, .slice none 0 0] 24)) (RaPost ((w.alloc (.cells #[.bool false, .slice Aa0 La0 ca0, .slice Ab0 Lb0 cb0] 24)).alloc (.cells #[.bool false, .slice none 0 0, .slice none 0 0] 24)) (nx))) := ⟨by rw [HNX.out]; exact snegR (R3.below (show Ra w (.agg #[.bool false, .slice Aa0 La0 ca0, .slice Ab0 Lb0 cb0]) x from by unfold Ra; rw [← EG0.out, ← EN0.out, ← EM0.out]; exact ⟨_, _, _, _, _, _, rfl, H_N0.out, H_D0.out⟩) T2.out) BB0.out⟩
  go_wp2_with fail
  refine HC.out.mono ?_
  clear HC
  rintro e w3 ⟨v_q1, rfl, ⟨A_q1, M_q1, c_q1, B_q1, K_q1, d_q1, rfl, hNA, hNB⟩, hB⟩
  have B3 := Aside0.mk hB
  have T3 := Aside0.mk (T2.out.trans (hB.mono T2.out.size))
  obtain ⟨b_q1, hb_q1⟩ : ∃ b, b = decide (Rat.num (nx) < 0) := ⟨_, rfl⟩
  try rw [← hb_q1]
  have E_q1 := Aside0.mk hb_q1
  clear hb_q1
  have NA_q1 := Aside0.mk hNA
  have NB_q1 := Aside0.mk hNB
  clear hNA hNB hB
  have H_q1 := Aside0.mk (show Ra w3 (.agg #[.bool b_q1, .slice A_q1 M_q1 c_q1, .slice B_q1 K_q1 d_q1]) (nx) from by unfold Ra; rw [← E_q1.out]; exact ⟨_, _, _, _, _, _, rfl, NA_q1.out, NB_q1.out⟩)
  have HC : Aside0 (Calls Tryz.prog 16 #[(.agg #[.bool b_q1, .slice A_q1 M_q1 c_q1, .slice B_q1 K_q1 d_q1])] w3 (RaPost w3 (x))) := ⟨by have h := snegR H_q1.out BBN.out; rwa [← HXX.out] at h⟩
  go_wp2_with fail
  refine HC.out.mono ?_
  clear HC
  rintro e w4 ⟨v_q, rfl, ⟨A_q, M_q, c_q, B_q, K_q, d_q, rfl, hNA, hNB⟩, hB⟩
  have B4 := Aside0.mk hB
  have T4 := Aside0.mk (T3.out.trans (hB.mono T3.out.size))
  obtain ⟨b_q, hb_q⟩ : ∃ b, b = decide (Rat.num (x) < 0) := ⟨_, rfl⟩
  try rw [← hb_q]
  have E_q := Aside0.mk hb_q
  clear hb_q
  have NA_q := Aside0.mk hNA
  have NB_q := Aside0.mk hNB
  clear hNA hNB hB
  have H_q := Aside0.mk (show Ra w4 (.agg #[.bool b_q, .slice A_q M_q c_q, .slice B_q K_q d_q]) (x) from by unfold Ra; rw [← E_q.out]; exact ⟨_, _, _, _, _, _, rfl, NA_q.out, NB_q.out⟩)
  have HD := Aside0.mk (r3_done (neg := b_q) TR.out (by omega) H_res.out (B3.out.trans (B4.out.mono B3.out.size)) NA_q.out NB_q.out)
  obtain ⟨⟨zc0, zc1, zc2⟩, zf0, zf1, zf2⟩ := ((H_res.out.below B3.out).below B4.out)
  go_wp2_with fail
  exact bodyPost_ret (v := .agg #[.bool b_q, .slice A_q M_q c_q, .slice B_q K_q d_q]) (by simp [results, Tryz.results18, go_sem, *]) rfl (done_ra E_q.out HD.out)
theorem sabsR {w : World} {v0 : Value} {x : Rat} (hx : Ra w v0 x) (hbx : Rb 200 x) : Calls Tryz.prog 18 #[v0] w (RaPost w (Rat.abs x)) := by
  cases h : decide (x.num < 0) with
  | true => exact sabsN hx hbx h
  | false => exact sabsP hx hbx h
end Go.Proofs.YtklhpobphloehaaGreatDoor.G
/- The reference's functions of rational numbers: Add, Cmp, Same. -/
set_option linter.unusedVariables false
namespace Go.Proofs.YtklhpobphloehaaGreatDoor.G
open Go.RowKit Go.Proofs.YtklhpobphloehaaGreatDoorW.PrintWords Go.Proofs.YtklhpobphloehaaGreatDoorW.PrintLast Go.Proofs.YtklhpobphloehaaGreatDoor.Nn

theorem sum_form (x y : Rat) {g0 g1 : Bool} {n0 m0 n1 m1 : Nat} (h0 : g0 = decide (x.num < 0)) (h1 : g1 = decide (y.num < 0)) (e0 : n0 = x.num.natAbs) (e1 : n1 = y.num.natAbs) (f0 : m0 = x.den) (f1 : m1 = y.den) : x + y = mkRat (sg (addNeg g0 g1 (n0 * m1) (n1 * m0)) (addNum g0 g1 (n0 * m1) (n1 * m0))) (m0 * m1) := by
  subst h0 h1 e0 e1 f0 f1
  rw [sg_addz, Rat.add_def']
theorem eq_form (x y : Rat) {g0 g1 : Bool} {n0 m0 n1 m1 : Nat} (h0 : g0 = decide (x.num < 0)) (h1 : g1 = decide (y.num < 0)) (e0 : n0 = x.num.natAbs) (e1 : n1 = y.num.natAbs) (f0 : m0 = x.den) (f1 : m1 = y.den) : x = y ↔ g0 = g1 ∧ n0 = n1 ∧ m0 = m1 := by
  subst h0 h1 e0 e1 f0 f1
  constructor
  · rintro rfl; exact ⟨rfl, rfl, rfl⟩
  · rintro ⟨h1, h2, h3⟩
    refine Rat.ext ?_ h3
    have h4 : (x.num < 0) = (y.num < 0) := by simpa using h1
    have h5 : x.num < 0 ↔ y.num < 0 := by rw [h4]
    omega
theorem cmp_form (x y : Rat) {g0 g1 : Bool} {n0 m0 n1 m1 : Nat} (h0 : g0 = decide (x.num < 0)) (h1 : g1 = decide (y.num < 0)) (e0 : n0 = x.num.natAbs) (e1 : n1 = y.num.natAbs) (f0 : m0 = x.den) (f1 : m1 = y.den) :
    cmpQ x y = if g0 = g1 then (if g0 then -(cmpZ (n0 * m1) (n1 * m0)) else cmpZ (n0 * m1) (n1 * m0)) else (if g0 then -1 else 1) := by
  subst h0 h1 e0 e1 f0 f1
  have h1 := abs_mulN x.num y.den
  have h2 := abs_mulN y.num x.den
  have hx0 : x.num.natAbs * y.den = 0 ↔ x.num = 0 := by rw [Nat.mul_eq_zero]; have := y.den_nz; omega
  have hy0 : y.num.natAbs * x.den = 0 ↔ y.num = 0 := by rw [Nat.mul_eq_zero]; have := x.den_nz; omega
  have hlt := Rat.lt_iff x y
  have heq := @Rat.eq_iff_mul_eq_mul x y
  obtain ⟨P, hP⟩ : ∃ P, P = x.num.natAbs * y.den := ⟨_, rfl⟩
  obtain ⟨Q, hQ⟩ : ∃ Q, Q = y.num.natAbs * x.den := ⟨_, rfl⟩
  obtain ⟨p, hp⟩ : ∃ p, p = x.num * (y.den : Int) := ⟨_, rfl⟩
  obtain ⟨q, hq⟩ : ∃ q, q = y.num * (x.den : Int) := ⟨_, rfl⟩
  rw [← hP] at h1 hx0 ⊢
  rw [← hQ] at h2 hy0 ⊢
  rw [← hp] at h1 hlt heq
  rw [← hq] at h2 hlt heq
  have ha : x.num.natAbs = 0 ↔ x.num = 0 := by omega
  have hb : y.num.natAbs = 0 ↔ y.num = 0 := by omega
  unfold cmpQ cmpZ
  by_cases c1 : x.num < 0 <;> by_cases c2 : y.num < 0 <;> by_cases c3 : x.num = 0 <;> by_cases c4 : y.num = 0 <;> by_cases c5 : P < Q <;> by_cases c6 : P = Q <;> by_cases c7 : p < q <;> by_cases c8 : p = q <;>
    simp [ha, hb, hlt, heq, c1, c2, c3, c4, c5, c6, c7, c8] at h1 h2 hx0 hy0 ⊢ <;> omega
theorem cmpZ3 (a b : Nat) : cmpZ a b = -1 ∨ cmpZ a b = 0 ∨ cmpZ a b = 1 := by
  unfold cmpZ
  split
  · exact .inl rfl
  · split
    · exact .inr (.inl rfl)
    · exact .inr (.inr rfl)
theorem cmpZ_neS {a b : Nat} (h : a ≠ b) : cmpZ a b ≠ 0 := by
  unfold cmpZ
  by_cases h1 : a < b
  · simp [h1]
  · simp [h1, h]
theorem cmpZ_ge {x y : Nat} (h : ¬ x < y) : ∃ z, z = cmpZ x y ∧ decide (z < 0) = false := by
  refine ⟨_, rfl, ?_⟩
  unfold cmpZ
  rw [if_neg h]
  by_cases e : x = y
  · rw [if_pos e]; decide
  · rw [if_neg e]; decide
set_option maxHeartbeats 8000000 in
set_option maxRecDepth 100000 in
theorem saddR {w : World} {v0 v1 : Value} {x y : Rat} (hx : Ra w v0 x) (hy : Ra w v1 y) (hbx : Rb 200 x) (hby : Rb 200 y) : Calls Tryz.prog 20 #[v0, v1] w (RaPost w (x + y)) := by
  obtain ⟨Aa0, La0, ca0, Ab0, Lb0, cb0, rfl, hn0, hd0⟩ := hx
  obtain ⟨g0, hg0⟩ : ∃ b, b = decide (x.num < 0) := ⟨_, rfl⟩
  have EG0 := Aside0.mk hg0
  rw [← hg0]
  obtain ⟨n0, hnn0⟩ : ∃ n, n = x.num.natAbs := ⟨_, rfl⟩
  obtain ⟨m0, hmm0⟩ : ∃ n, n = x.den := ⟨_, rfl⟩
  rw [← hnn0] at hn0
  rw [← hmm0] at hd0
  have EN0 := Aside0.mk hnn0
  have EM0 := Aside0.mk hmm0
  have H_N0 := Aside0.mk hn0
  have H_D0 := Aside0.mk hd0
  have BB0 := Aside0.mk hbx
  have X_N0 := Aside0.mk (show n0 < pw 200 by rw [hnn0]; exact BB0.out.1)
  have X_D0 := Aside0.mk (show m0 < pw 200 by rw [hmm0]; exact BB0.out.2)
  have M00 := Aside0.mk (show m0 ≠ 0 by rw [hmm0]; exact x.den_nz)
  clear hg0 hnn0 hmm0 hn0 hd0
  obtain ⟨Aa1, La1, ca1, Ab1, Lb1, cb1, rfl, hn1, hd1⟩ := hy
  obtain ⟨g1, hg1⟩ : ∃ b, b = decide (y.num < 0) := ⟨_, rfl⟩
  have EG1 := Aside0.mk hg1
  rw [← hg1]
  obtain ⟨n1, hnn1⟩ : ∃ n, n = y.num.natAbs := ⟨_, rfl⟩
  obtain ⟨m1, hmm1⟩ : ∃ n, n = y.den := ⟨_, rfl⟩
  rw [← hnn1] at hn1
  rw [← hmm1] at hd1
  have EN1 := Aside0.mk hnn1
  have EM1 := Aside0.mk hmm1
  have H_N1 := Aside0.mk hn1
  have H_D1 := Aside0.mk hd1
  have BB1 := Aside0.mk hby
  have X_N1 := Aside0.mk (show n1 < pw 200 by rw [hnn1]; exact BB1.out.1)
  have X_D1 := Aside0.mk (show m1 < pw 200 by rw [hmm1]; exact BB1.out.2)
  have M01 := Aside0.mk (show m1 ≠ 0 by rw [hmm1]; exact y.den_nz)
  clear hg1 hnn1 hmm1 hn1 hd1
  obtain ⟨S, hS⟩ : ∃ q : Rat, q = x + y := ⟨_, rfl⟩
  rw [← hS]
  have HSU := Aside0.mk (hS.trans (sum_form x y EG0.out EG1.out EN0.out EN1.out EM0.out EM1.out))
  clear hS
  go_enter Tryz.func20, Tryz.ntmps20
  have B1 := Aside0.mk (below_alloc (Below.refl w.heap.size w) (.cells #[.bool g0, .slice Aa0 La0 ca0, .slice Ab0 Lb0 cb0] 24))
  have T1 := Aside0.mk (B1.out.mono (Nat.le_refl _))
  have H_bx0 := Aside0.mk (bx w (w.heap.size) (.bool g0) (.slice Aa0 La0 ca0) (.slice Ab0 Lb0 cb0) 24 (by simp))
  have B2 := Aside0.mk (below_alloc (Below.refl (w.alloc (.cells #[.bool g0, .slice Aa0 La0 ca0, .slice Ab0 Lb0 cb0] 24)).heap.size (w.alloc (.cells #[.bool g0, .slice Aa0 La0 ca0, .slice Ab0 Lb0 cb0] 24))) (.cells #[.bool g1, .slice Aa1 La1 ca1, .slice Ab1 Lb1 cb1] 24))
  have T2 := Aside0.mk (T1.out.trans (B2.out.mono T1.out.size))
  have H_bx1 := Aside0.mk (bx (w.alloc (.cells #[.bool g0, .slice Aa0 La0 ca0, .slice Ab0 Lb0 cb0] 24)) (w.heap.size + 1) (.bool g1) (.slice Aa1 La1 ca1) (.slice Ab1 Lb1 cb1) 24 (by simp))
  have B3 := Aside0.mk (below_alloc (Below.refl ((w.alloc (.cells #[.bool g0, .slice Aa0 La0 ca0, .slice Ab0 Lb0 cb0] 24)).alloc (.cells #[.bool g1, .slice Aa1 La1 ca1, .slice Ab1 Lb1 cb1] 24)).heap.size ((w.alloc (.cells #[.bool g0, .slice Aa0 La0 ca0, .slice Ab0 Lb0 cb0] 24)).alloc (.cells #[.bool g1, .slice Aa1 La1 ca1, .slice Ab1 Lb1 cb1] 24))) (.cells #[.bool false, .slice none 0 0, .slice none 0 0] 24))
  have T3 := Aside0.mk (T2.out.trans (B3.out.mono T2.out.size))
  have H_res := Aside0.mk (bx ((w.alloc (.cells #[.bool g0, .slice Aa0 La0 ca0, .slice Ab0 Lb0 cb0] 24)).alloc (.cells #[.bool g1, .slice Aa1 La1 ca1, .slice Ab1 Lb1 cb1] 24)) (w.heap.size + 2) (.bool false) (.slice none 0 0) (.slice none 0 0) 24 (by simp))
  have TR := Aside0.mk T3.out
  have HNE0 := Aside0.mk (show w.heap.size + 2 ≠ w.heap.size by omega)
  have HNE1 := Aside0.mk (show w.heap.size + 2 ≠ w.heap.size + 1 by omega)
  go_wp2_with fail
  have B4 := Aside0.mk (Below.drew (Below.refl (((w.alloc (.cells #[.bool g0, .slice Aa0 La0 ca0, .slice Ab0 Lb0 cb0] 24)).alloc (.cells #[.bool g1, .slice Aa1 La1 ca1, .slice Ab1 Lb1 cb1] 24)).alloc (.cells #[.bool false, .slice none 0 0, .slice none 0 0] 24)).heap.size (((w.alloc (.cells #[.bool g0, .slice Aa0 La0 ca0, .slice Ab0 Lb0 cb0] 24)).alloc (.cells #[.bool g1, .slice Aa1 La1 ca1, .slice Ab1 Lb1 cb1] 24)).alloc (.cells #[.bool false, .slice none 0 0, .slice none 0 0] 24))))
  have T4 := Aside0.mk (T3.out.trans (B4.out.mono T3.out.size))
  have HS4 := Aside0.mk (fun (W : World) (hW : Below ((((w.alloc (.cells #[.bool g0, .slice Aa0 La0 ca0, .slice Ab0 Lb0 cb0] 24)).alloc (.cells #[.bool g1, .slice Aa1 La1 ca1, .slice Ab1 Lb1 cb1] 24)).alloc (.cells #[.bool false, .slice none 0 0, .slice none 0 0] 24)).drew).heap.size ((((w.alloc (.cells #[.bool g0, .slice Aa0 La0 ca0, .slice Ab0 Lb0 cb0] 24)).alloc (.cells #[.bool g1, .slice Aa1 La1 ca1, .slice Ab1 Lb1 cb1] 24)).alloc (.cells #[.bool false, .slice none 0 0, .slice none 0 0] 24)).drew) W) => show W.cell? ⟨w.heap.size, 0, none⟩ = some (.bool g0) ∧ W.cell? ⟨w.heap.size, 1, none⟩ = some (.slice Aa0 La0 ca0) ∧ W.cell? ⟨w.heap.size, 2, none⟩ = some (.slice Ab0 Lb0 cb0) ∧ W.cell? ⟨w.heap.size + 1, 0, none⟩ = some (.bool g1) ∧ W.cell? ⟨w.heap.size + 1, 1, none⟩ = some (.slice Aa1 La1 ca1) ∧ W.cell? ⟨w.heap.size + 1, 2, none⟩ = some (.slice Ab1 Lb1 cb1) from ⟨((((H_bx0.out.below B2.out).below B3.out).below B4.out).below hW).1.1, ((((H_bx0.out.below B2.out).below B3.out).below B4.out).below hW).1.2.1, ((((H_bx0.out.below B2.out).below B3.out).below B4.out).below hW).1.2.2, (((H_bx1.out.below B3.out).below B4.out).below hW).1.1, (((H_bx1.out.below B3.out).below B4.out).below hW).1.2.1, (((H_bx1.out.below B3.out).below B4.out).below hW).1.2.2⟩)
  have U4 := Aside0.mk (Below.refl ((((w.alloc (.cells #[.bool g0, .slice Aa0 La0 ca0, .slice Ab0 Lb0 cb0] 24)).alloc (.cells #[.bool g1, .slice Aa1 La1 ca1, .slice Ab1 Lb1 cb1] 24)).alloc (.cells #[.bool false, .slice none 0 0, .slice none 0 0] 24)).drew).heap.size ((((w.alloc (.cells #[.bool g0, .slice Aa0 La0 ca0, .slice Ab0 Lb0 cb0] 24)).alloc (.cells #[.bool g1, .slice Aa1 La1 ca1, .slice Ab1 Lb1 cb1] 24)).alloc (.cells #[.bool false, .slice none 0 0, .slice none 0 0] 24)).drew))
  refine wp_region_held_drew (S := fun W => W.cell? ⟨w.heap.size, 0, none⟩ = some (.bool g0) ∧ W.cell? ⟨w.heap.size, 1, none⟩ = some (.slice Aa0 La0 ca0) ∧ W.cell? ⟨w.heap.size, 2, none⟩ = some (.slice Ab0 Lb0 cb0) ∧ W.cell? ⟨w.heap.size + 1, 0, none⟩ = some (.bool g1) ∧ W.cell? ⟨w.heap.size + 1, 1, none⟩ = some (.slice Aa1 La1 ca1) ∧ W.cell? ⟨w.heap.size + 1, 2, none⟩ = some (.slice Ab1 Lb1 cb1)) (by kernel_rfl) (HS4.out _ (Below.refl _ _)) (fun hHeld => ?_)
  refine Inv.takeL (i := 0) (v := ?vadd_1) rfl (by kernel_rfl) (by kernel_rfl) (by kernel_rfl) (fun _ _ _ h => h) (by rfl) ?hyadd_1 (by assumption) ?restadd_1
  case hyadd_1 => ((intro w hSw; (try dsimp only at hSw); go_simp) <;> with_reducible rfl)
  try simp only [Act.put, List.setIfInBounds_toArray, List.set_cons_zero, List.set_cons_succ]
  refine Inv.takeL (i := 1) (v := ?vadd_2) rfl (by kernel_rfl) (by kernel_rfl) (by kernel_rfl) (fun _ _ _ h => h) (by rfl) ?hyadd_2 (by assumption) ?restadd_2
  case hyadd_2 => ((intro w hSw; (try dsimp only at hSw); go_simp) <;> with_reducible rfl)
  try simp only [Act.put, List.setIfInBounds_toArray, List.set_cons_zero, List.set_cons_succ]
  refine Inv.takeL (i := 2) (v := ?vadd_3) rfl (by kernel_rfl) (by kernel_rfl) (by kernel_rfl) (fun _ _ _ h => h) (by rfl) ?hyadd_3 (by assumption) ?restadd_3
  case hyadd_3 => ((intro w hSw; (try dsimp only at hSw); go_simp) <;> with_reducible rfl)
  try simp only [Act.put, List.setIfInBounds_toArray, List.set_cons_zero, List.set_cons_succ]
  refine Inv.takeL (i := 3) (v := ?vadd_4) rfl (by kernel_rfl) (by kernel_rfl) (by kernel_rfl) (fun _ _ _ h => h) (by rfl) ?hyadd_4 (by assumption) ?restadd_4
  case hyadd_4 => ((intro w hSw; (try dsimp only at hSw); go_simp) <;> with_reducible rfl)
  try simp only [Act.put, List.setIfInBounds_toArray, List.set_cons_zero, List.set_cons_succ]
  refine Inv.takeL (i := 5) (v := ?vadd_5) rfl (by kernel_rfl) (by kernel_rfl) (by kernel_rfl) (fun _ _ _ h => h) (by rfl) ?hyadd_5 (by assumption) ?restadd_5
  case hyadd_5 => ((intro w hSw; (try dsimp only at hSw); go_simp) <;> with_reducible rfl)
  try simp only [Act.put, List.setIfInBounds_toArray, List.set_cons_zero, List.set_cons_succ]
  refine Inv.takeL (i := 6) (v := ?vadd_6) rfl (by kernel_rfl) (by kernel_rfl) (by kernel_rfl) (fun _ _ _ h => h) (by rfl) ?hyadd_6 (by assumption) ?restadd_6
  case hyadd_6 => ((intro w hSw; (try dsimp only at hSw); go_simp) <;> with_reducible rfl)
  try simp only [Act.put, List.setIfInBounds_toArray, List.set_cons_zero, List.set_cons_succ]
  refine Inv.takeL (i := 7) (v := ?vadd_7) rfl (by kernel_rfl) (by kernel_rfl) (by kernel_rfl) (fun _ _ _ h => h) (by rfl) ?hyadd_7 (by assumption) ?restadd_7
  case hyadd_7 => ((intro w hSw; (try dsimp only at hSw); go_simp) <;> with_reducible rfl)
  try simp only [Act.put, List.setIfInBounds_toArray, List.set_cons_zero, List.set_cons_succ]
  refine Inv.takeL (i := 8) (v := ?vadd_8) rfl (by kernel_rfl) (by kernel_rfl) (by kernel_rfl) (fun _ _ _ h => h) (by rfl) ?hyadd_8 (by assumption) ?restadd_8
  case hyadd_8 => ((intro w hSw; (try dsimp only at hSw); go_simp) <;> with_reducible rfl)
  try simp only [Act.put, List.setIfInBounds_toArray, List.set_cons_zero, List.set_cons_succ]
  refine Inv.oneL (i := 4) rfl (by kernel_rfl) (fun K hK => ?_)
  have HC : Aside0 (Calls Tryz.prog 38 #[(.slice Aa0 La0 ca0), (.slice Ab1 Lb1 cb1)] ((((w.alloc (.cells #[.bool g0, .slice Aa0 La0 ca0, .slice Ab0 Lb0 cb0] 24)).alloc (.cells #[.bool g1, .slice Aa1 La1 ca1, .slice Ab1 Lb1 cb1] 24)).alloc (.cells #[.bool false, .slice none 0 0, .slice none 0 0] 24)).drew) (NuPost ((((w.alloc (.cells #[.bool g0, .slice Aa0 La0 ca0, .slice Ab0 Lb0 cb0] 24)).alloc (.cells #[.bool g1, .slice Aa1 La1 ca1, .slice Ab1 Lb1 cb1] 24)).alloc (.cells #[.bool false, .slice none 0 0, .slice none 0 0] 24)).drew) (n0 * m1))) := ⟨rmulN ((((H_N0.out.below B1.out).below B2.out).below B3.out).below B4.out) ((((H_D1.out.below B1.out).below B2.out).below B3.out).below B4.out) (pw_lt1000 X_N0.out (by omega)) (pw_lt1000 X_D1.out (by omega))⟩
  go_simp
  refine HC.out.mono ?_
  clear HC
  rintro e w5 ⟨v_p, rfl, hN, hB⟩
  try go_wp2_with fail
  have B5 := Aside0.mk hB
  have T5 := Aside0.mk (T4.out.trans (hB.mono T4.out.size))
  have H_p := Aside0.mk hN
  have X_p := Aside0.mk (show n0 * m1 < pw 400 from pw_mulb X_N0.out X_D1.out)
  clear hN hB
  have U5 := Aside0.mk (U4.out.trans (B5.out.mono U4.out.size))
  refine hK.out _ _ (HS4.out _ U5.out) (fun hHeld => ?_)
  clear hK K
  try simp only [Act.put, List.setIfInBounds_toArray, List.set_cons_zero, List.set_cons_succ]
  refine Inv.oneL (i := 9) rfl (by kernel_rfl) (fun K hK => ?_)
  have HC : Aside0 (Calls Tryz.prog 38 #[(.slice Aa1 La1 ca1), (.slice Ab0 Lb0 cb0)] w5 (NuPost w5 (n1 * m0))) := ⟨rmulN (((((H_N1.out.below B1.out).below B2.out).below B3.out).below B4.out).below B5.out) (((((H_D0.out.below B1.out).below B2.out).below B3.out).below B4.out).below B5.out) (pw_lt1000 X_N1.out (by omega)) (pw_lt1000 X_D0.out (by omega))⟩
  go_simp
  refine HC.out.mono ?_
  clear HC
  rintro e w6 ⟨v_q_, rfl, hN, hB⟩
  try go_wp2_with fail
  have B6 := Aside0.mk hB
  have T6 := Aside0.mk (T5.out.trans (hB.mono T5.out.size))
  have H_q_ := Aside0.mk hN
  have X_q_ := Aside0.mk (show n1 * m0 < pw 400 from pw_mulb X_N1.out X_D0.out)
  clear hN hB
  have U6 := Aside0.mk (U5.out.trans (B6.out.mono U5.out.size))
  refine hK.out _ _ (HS4.out _ U6.out) (fun hHeld => ?_)
  clear hK K
  try simp only [Act.put, List.setIfInBounds_toArray, List.set_cons_zero, List.set_cons_succ]
  refine Inv.takeL (i := 10) (v := ?vadd_9) rfl (by kernel_rfl) (by kernel_rfl) (by kernel_rfl) (fun _ _ _ h => h) (by rfl) ?hyadd_9 (by assumption) ?restadd_9
  case hyadd_9 => ((intro w hSw; (try dsimp only at hSw); go_simp) <;> with_reducible rfl)
  try simp only [Act.put, List.setIfInBounds_toArray, List.set_cons_zero, List.set_cons_succ]
  refine Inv.takeL (i := 11) (v := ?vadd_10) rfl (by kernel_rfl) (by kernel_rfl) (by kernel_rfl) (fun _ _ _ h => h) (by rfl) ?hyadd_10 (by assumption) ?restadd_10
  case hyadd_10 => ((intro w hSw; (try dsimp only at hSw); go_simp) <;> with_reducible rfl)
  try simp only [Act.put, List.setIfInBounds_toArray, List.set_cons_zero, List.set_cons_succ]
  refine wpAnyH_done (by kernel_rfl) ?_ _
  obtain ⟨⟨hu00, hu01, hu02⟩, _⟩ := (((((H_bx0.out.below B2.out).below B3.out).below B4.out).below B5.out).below B6.out)
  obtain ⟨⟨hu10, hu11, hu12⟩, _⟩ := ((((H_bx1.out.below B3.out).below B4.out).below B5.out).below B6.out)
  have HC : Aside0 (Calls Tryz.prog 38 #[(.slice Ab0 Lb0 cb0), (.slice Ab1 Lb1 cb1)] w6 (NuPost w6 (m0 * m1))) := ⟨rmulN ((((((H_D0.out.below B1.out).below B2.out).below B3.out).below B4.out).below B5.out).below B6.out) ((((((H_D1.out.below B1.out).below B2.out).below B3.out).below B4.out).below B5.out).below B6.out) (pw_lt1000 X_D0.out (by omega)) (pw_lt1000 X_D1.out (by omega))⟩
  go_wp2_with fail
  refine HC.out.mono ?_
  clear HC
  rintro e w7 ⟨v_dd, rfl, hN, hB⟩
  have B7 := Aside0.mk hB
  have T7 := Aside0.mk (T6.out.trans (hB.mono T6.out.size))
  have H_dd := Aside0.mk hN
  have X_dd := Aside0.mk (show m0 * m1 < pw 400 from pw_mulb X_D0.out X_D1.out)
  clear hN hB
  clear hu00 hu01 hu02 hu10 hu11 hu12
  have DNZ := Aside0.mk (show (m0 * m1) ≠ 0 from Nat.mul_ne_zero M00.out M01.out)
  cases g0 with
  | false =>
    cases g1 with
    | false =>
      have HSE := Aside0.mk (show S = mkRat (sg false ((n0 * m1) + (n1 * m0))) (m0 * m1) by rw [HSU.out]; unfold addNeg addNum; rfl)
      obtain ⟨⟨hu00, hu01, hu02⟩, _⟩ := ((((((H_bx0.out.below B2.out).below B3.out).below B4.out).below B5.out).below B6.out).below B7.out)
      obtain ⟨⟨hu10, hu11, hu12⟩, _⟩ := (((((H_bx1.out.below B3.out).below B4.out).below B5.out).below B6.out).below B7.out)
      go_wp2_with fail
      have B8 := Aside0.mk (Below.drew (Below.refl w7.heap.size w7))
      have T8 := Aside0.mk (T7.out.trans (B8.out.mono T7.out.size))
      have HS8 := Aside0.mk (fun (W : World) (hW : Below (w7.drew).heap.size (w7.drew) W) => show W.cell? ⟨w.heap.size, 0, none⟩ = some (.bool false) ∧ W.cell? ⟨w.heap.size, 1, none⟩ = some (.slice Aa0 La0 ca0) ∧ W.cell? ⟨w.heap.size, 2, none⟩ = some (.slice Ab0 Lb0 cb0) from ⟨((((((((H_bx0.out.below B2.out).below B3.out).below B4.out).below B5.out).below B6.out).below B7.out).below B8.out).below hW).1.1, ((((((((H_bx0.out.below B2.out).below B3.out).below B4.out).below B5.out).below B6.out).below B7.out).below B8.out).below hW).1.2.1, ((((((((H_bx0.out.below B2.out).below B3.out).below B4.out).below B5.out).below B6.out).below B7.out).below B8.out).below hW).1.2.2⟩)
      have U8 := Aside0.mk (Below.refl (w7.drew).heap.size (w7.drew))
      refine wp_region_held_drew (S := fun W => W.cell? ⟨w.heap.size, 0, none⟩ = some (.bool false) ∧ W.cell? ⟨w.heap.size, 1, none⟩ = some (.slice Aa0 La0 ca0) ∧ W.cell? ⟨w.heap.size, 2, none⟩ = some (.slice Ab0 Lb0 cb0)) (by kernel_rfl) (HS8.out _ (Below.refl _ _)) (fun hHeld => ?_)
      refine Inv.takeL (i := 0) (v := ?vadd_11) rfl (by kernel_rfl) (by kernel_rfl) (by kernel_rfl) (fun _ _ _ h => h) (by rfl) ?hyadd_11 (by assumption) ?restadd_11
      case hyadd_11 => ((intro w hSw; (try dsimp only at hSw); go_simp) <;> with_reducible rfl)
      try simp only [Act.put, List.setIfInBounds_toArray, List.set_cons_zero, List.set_cons_succ]
      refine Inv.takeL (i := 1) (v := ?vadd_12) rfl (by kernel_rfl) (by kernel_rfl) (by kernel_rfl) (fun _ _ _ h => h) (by rfl) ?hyadd_12 (by assumption) ?restadd_12
      case hyadd_12 => ((intro w hSw; (try dsimp only at hSw); go_simp) <;> with_reducible rfl)
      try simp only [Act.put, List.setIfInBounds_toArray, List.set_cons_zero, List.set_cons_succ]
      refine Inv.takeL (i := 2) (v := ?vadd_13) rfl (by kernel_rfl) (by kernel_rfl) (by kernel_rfl) (fun _ _ _ h => h) (by rfl) ?hyadd_13 (by assumption) ?restadd_13
      case hyadd_13 => ((intro w hSw; (try dsimp only at hSw); go_simp) <;> with_reducible rfl)
      try simp only [Act.put, List.setIfInBounds_toArray, List.set_cons_zero, List.set_cons_succ]
      refine Inv.takeL (i := 3) (v := ?vadd_14) rfl (by kernel_rfl) (by kernel_rfl) (by kernel_rfl) (fun _ _ _ h => h) (by rfl) ?hyadd_14 (by assumption) ?restadd_14
      case hyadd_14 => ((intro w hSw; (try dsimp only at hSw); go_simp) <;> with_reducible rfl)
      try simp only [Act.put, List.setIfInBounds_toArray, List.set_cons_zero, List.set_cons_succ]
      refine Inv.takeL (i := 5) (v := ?vadd_15) rfl (by kernel_rfl) (by kernel_rfl) (by kernel_rfl) (fun _ _ _ h => h) (by rfl) ?hyadd_15 (by assumption) ?restadd_15
      case hyadd_15 => ((intro w hSw; (try dsimp only at hSw); go_simp) <;> with_reducible rfl)
      try simp only [Act.put, List.setIfInBounds_toArray, List.set_cons_zero, List.set_cons_succ]
      refine Inv.oneL (i := 4) rfl (by kernel_rfl) (fun K hK => ?_)
      have HC : Aside0 (Calls Tryz.prog 46 #[v_p, v_q_] (w7.drew) (NuPost (w7.drew) ((n0 * m1) + (n1 * m0)))) := ⟨raddN (((H_p.out.below B6.out).below B7.out).below B8.out) ((H_q_.out.below B7.out).below B8.out) (pw_lt1000 X_p.out (by omega)) (pw_lt1000 X_q_.out (by omega))⟩
      go_simp
      refine HC.out.mono ?_
      clear HC
      rintro e w9 ⟨v_s, rfl, hN, hB⟩
      try go_wp2_with fail
      have B9 := Aside0.mk hB
      have T9 := Aside0.mk (T8.out.trans (hB.mono T8.out.size))
      have H_s := Aside0.mk hN
      have X_s := Aside0.mk (show (n0 * m1) + (n1 * m0) < pw 401 from pw_addb X_p.out X_q_.out (by omega) (by omega))
      clear hN hB
      have U9 := Aside0.mk (U8.out.trans (B9.out.mono U8.out.size))
      refine hK.out _ _ (HS8.out _ U9.out) (fun hHeld => ?_)
      clear hK K
      try simp only [Act.put, List.setIfInBounds_toArray, List.set_cons_zero, List.set_cons_succ]
      refine Inv.oneL (i := 6) rfl (by kernel_rfl) (fun K hK => ?_)
      have HC : Aside0 (Calls Tryz.prog 37 #[.bool (false), v_s, v_dd] w9 (RaPost w9 (S))) := ⟨smadeX (false) H_s.out ((H_dd.out.below B8.out).below B9.out) (Nat.lt_of_lt_of_le X_s.out (pw_le (by decide))) (Nat.lt_of_lt_of_le X_dd.out (pw_le (by decide))) (DNZ.out) (HSE.out)⟩
      go_simp
      refine HC.out.mono ?_
      clear HC
      rintro e w10 ⟨v_q, rfl, ⟨A_q, M_q, c_q, B_q, K_q, d_q, rfl, hNA, hNB⟩, hB⟩
      try go_wp2_with fail
      have B10 := Aside0.mk hB
      have T10 := Aside0.mk (T9.out.trans (hB.mono T9.out.size))
      obtain ⟨b_q, hb_q⟩ : ∃ b, b = decide (Rat.num (S) < 0) := ⟨_, rfl⟩
      try rw [← hb_q]
      have E_q := Aside0.mk hb_q
      clear hb_q
      have NA_q := Aside0.mk hNA
      have NB_q := Aside0.mk hNB
      clear hNA hNB hB
      have H_q := Aside0.mk (show Ra w10 (.agg #[.bool b_q, .slice A_q M_q c_q, .slice B_q K_q d_q]) (S) from by unfold Ra; rw [← E_q.out]; exact ⟨_, _, _, _, _, _, rfl, NA_q.out, NB_q.out⟩)
      have U10 := Aside0.mk (U9.out.trans (B10.out.mono U9.out.size))
      refine hK.out _ _ (HS8.out _ U10.out) (fun hHeld => ?_)
      clear hK K
      try simp only [Act.put, List.setIfInBounds_toArray, List.set_cons_zero, List.set_cons_succ]
      refine Inv.oneL (i := 7) rfl (by kernel_rfl) (fun K hK => ?_)
      have HD := Aside0.mk (r3_done (neg := b_q) TR.out (by omega) H_res.out ((((((B4.out.trans (B5.out.mono B4.out.size)).trans (B6.out.mono (B4.out.trans (B5.out.mono B4.out.size)).size)).trans (B7.out.mono ((B4.out.trans (B5.out.mono B4.out.size)).trans (B6.out.mono (B4.out.trans (B5.out.mono B4.out.size)).size)).size)).trans (B8.out.mono (((B4.out.trans (B5.out.mono B4.out.size)).trans (B6.out.mono (B4.out.trans (B5.out.mono B4.out.size)).size)).trans (B7.out.mono ((B4.out.trans (B5.out.mono B4.out.size)).trans (B6.out.mono (B4.out.trans (B5.out.mono B4.out.size)).size)).size)).size)).trans (B9.out.mono ((((B4.out.trans (B5.out.mono B4.out.size)).trans (B6.out.mono (B4.out.trans (B5.out.mono B4.out.size)).size)).trans (B7.out.mono ((B4.out.trans (B5.out.mono B4.out.size)).trans (B6.out.mono (B4.out.trans (B5.out.mono B4.out.size)).size)).size)).trans (B8.out.mono (((B4.out.trans (B5.out.mono B4.out.size)).trans (B6.out.mono (B4.out.trans (B5.out.mono B4.out.size)).size)).trans (B7.out.mono ((B4.out.trans (B5.out.mono B4.out.size)).trans (B6.out.mono (B4.out.trans (B5.out.mono B4.out.size)).size)).size)).size)).size)).trans (B10.out.mono (((((B4.out.trans (B5.out.mono B4.out.size)).trans (B6.out.mono (B4.out.trans (B5.out.mono B4.out.size)).size)).trans (B7.out.mono ((B4.out.trans (B5.out.mono B4.out.size)).trans (B6.out.mono (B4.out.trans (B5.out.mono B4.out.size)).size)).size)).trans (B8.out.mono (((B4.out.trans (B5.out.mono B4.out.size)).trans (B6.out.mono (B4.out.trans (B5.out.mono B4.out.size)).size)).trans (B7.out.mono ((B4.out.trans (B5.out.mono B4.out.size)).trans (B6.out.mono (B4.out.trans (B5.out.mono B4.out.size)).size)).size)).size)).trans (B9.out.mono ((((B4.out.trans (B5.out.mono B4.out.size)).trans (B6.out.mono (B4.out.trans (B5.out.mono B4.out.size)).size)).trans (B7.out.mono ((B4.out.trans (B5.out.mono B4.out.size)).trans (B6.out.mono (B4.out.trans (B5.out.mono B4.out.size)).size)).size)).trans (B8.out.mono (((B4.out.trans (B5.out.mono B4.out.size)).trans (B6.out.mono (B4.out.trans (B5.out.mono B4.out.size)).size)).trans (B7.out.mono ((B4.out.trans (B5.out.mono B4.out.size)).trans (B6.out.mono (B4.out.trans (B5.out.mono B4.out.size)).size)).size)).size)).size)).size)) NA_q.out NB_q.out)
      obtain ⟨⟨zc0, zc1, zc2⟩, zf0, zf1, zf2⟩ := (((((((H_res.out.below B4.out).below B5.out).below B6.out).below B7.out).below B8.out).below B9.out).below B10.out)
      have HKK := Aside0.mk (HS8.out _ U10.out)
      go_simp
      refine hK.out _ _ (by obtain ⟨k0, k1, k2⟩ := HKK.out; exact ⟨cell_far3 HNE0.out k0, cell_far3 HNE0.out k1, cell_far3 HNE0.out k2⟩) (fun hHeld => ?_)
      clear hK K
      try simp only [Act.put, List.setIfInBounds_toArray, List.set_cons_zero, List.set_cons_succ]
      refine wpAnyH_done (by kernel_rfl) ?_ _
      go_wp2_with fail
      exact bodyPost_ret (v := .agg #[.bool b_q, .slice A_q M_q c_q, .slice B_q K_q d_q]) (by simp [results, Tryz.results20, go_sem, *]) rfl (done_ra E_q.out HD.out)
    | true =>
      by_cases hlt : (n0 * m1) < (n1 * m0)
      ·
        have HSE := Aside0.mk (show S = mkRat (sg true ((n1 * m0) - (n0 * m1))) (m0 * m1) by rw [HSU.out]; simp [addNeg, addNum, hlt])
        have HLT := Aside0.mk hlt
        clear hlt
        obtain ⟨⟨hu00, hu01, hu02⟩, _⟩ := ((((((H_bx0.out.below B2.out).below B3.out).below B4.out).below B5.out).below B6.out).below B7.out)
        obtain ⟨⟨hu10, hu11, hu12⟩, _⟩ := (((((H_bx1.out.below B3.out).below B4.out).below B5.out).below B6.out).below B7.out)
        have HC : Aside0 (Calls Tryz.prog 39 #[v_p, v_q_] w7 (IntPost w7 (-1))) := ⟨by have h := rcmpN ((H_p.out.below B6.out).below B7.out) (H_q_.out.below B7.out) (pw_lt1000 X_p.out (by omega)) (pw_lt1000 X_q_.out (by omega)); rw [cmpZ_lt HLT.out] at h; exact h⟩
        go_wp2_with fail
        refine HC.out.mono ?_
        clear HC
        rintro e w8 ⟨rfl, hB⟩
        have B8 := Aside0.mk hB
        have T8 := Aside0.mk (T7.out.trans (hB.mono T7.out.size))
        clear hB
        clear hu00 hu01 hu02 hu10 hu11 hu12
        have HC : Aside0 (Calls Tryz.prog 47 #[v_q_, v_p] w8 (NuPost2 w8 ((n1 * m0) - (n0 * m1)) 0)) := ⟨by have h := rsubN ((H_q_.out.below B7.out).below B8.out) (((H_p.out.below B6.out).below B7.out).below B8.out) (pw_lt1000 X_q_.out (by omega)) (pw_lt1000 X_p.out (by omega)); rwa [if_neg (Nat.not_lt.2 (Nat.le_of_lt HLT.out))] at h⟩
        go_wp2_with fail
        refine HC.out.mono ?_
        clear HC
        rintro e w9 ⟨v_t, rfl, hN, hB⟩
        have B9 := Aside0.mk hB
        have T9 := Aside0.mk (T8.out.trans (hB.mono T8.out.size))
        have H_t := Aside0.mk hN
        have X_t := Aside0.mk (show (n1 * m0) - (n0 * m1) < pw 400 from Nat.lt_of_le_of_lt (Nat.sub_le _ _) X_q_.out)
        clear hN hB
        obtain ⟨⟨hu00, hu01, hu02⟩, _⟩ := ((((((((H_bx0.out.below B2.out).below B3.out).below B4.out).below B5.out).below B6.out).below B7.out).below B8.out).below B9.out)
        obtain ⟨⟨hu10, hu11, hu12⟩, _⟩ := (((((((H_bx1.out.below B3.out).below B4.out).below B5.out).below B6.out).below B7.out).below B8.out).below B9.out)
        have HC : Aside0 (Calls Tryz.prog 37 #[.bool (true), v_t, v_dd] w9 (RaPost w9 (S))) := ⟨smadeX (true) H_t.out ((H_dd.out.below B8.out).below B9.out) (Nat.lt_of_lt_of_le X_t.out (pw_le (by decide))) (Nat.lt_of_lt_of_le X_dd.out (pw_le (by decide))) (DNZ.out) (HSE.out)⟩
        go_wp2_with fail
        refine HC.out.mono ?_
        clear HC
        rintro e w10 ⟨v_q, rfl, ⟨A_q, M_q, c_q, B_q, K_q, d_q, rfl, hNA, hNB⟩, hB⟩
        have B10 := Aside0.mk hB
        have T10 := Aside0.mk (T9.out.trans (hB.mono T9.out.size))
        obtain ⟨b_q, hb_q⟩ : ∃ b, b = decide (Rat.num (S) < 0) := ⟨_, rfl⟩
        try rw [← hb_q]
        have E_q := Aside0.mk hb_q
        clear hb_q
        have NA_q := Aside0.mk hNA
        have NB_q := Aside0.mk hNB
        clear hNA hNB hB
        have H_q := Aside0.mk (show Ra w10 (.agg #[.bool b_q, .slice A_q M_q c_q, .slice B_q K_q d_q]) (S) from by unfold Ra; rw [← E_q.out]; exact ⟨_, _, _, _, _, _, rfl, NA_q.out, NB_q.out⟩)
        clear hu00 hu01 hu02 hu10 hu11 hu12
        have HD := Aside0.mk (r3_done (neg := b_q) TR.out (by omega) H_res.out ((((((B4.out.trans (B5.out.mono B4.out.size)).trans (B6.out.mono (B4.out.trans (B5.out.mono B4.out.size)).size)).trans (B7.out.mono ((B4.out.trans (B5.out.mono B4.out.size)).trans (B6.out.mono (B4.out.trans (B5.out.mono B4.out.size)).size)).size)).trans (B8.out.mono (((B4.out.trans (B5.out.mono B4.out.size)).trans (B6.out.mono (B4.out.trans (B5.out.mono B4.out.size)).size)).trans (B7.out.mono ((B4.out.trans (B5.out.mono B4.out.size)).trans (B6.out.mono (B4.out.trans (B5.out.mono B4.out.size)).size)).size)).size)).trans (B9.out.mono ((((B4.out.trans (B5.out.mono B4.out.size)).trans (B6.out.mono (B4.out.trans (B5.out.mono B4.out.size)).size)).trans (B7.out.mono ((B4.out.trans (B5.out.mono B4.out.size)).trans (B6.out.mono (B4.out.trans (B5.out.mono B4.out.size)).size)).size)).trans (B8.out.mono (((B4.out.trans (B5.out.mono B4.out.size)).trans (B6.out.mono (B4.out.trans (B5.out.mono B4.out.size)).size)).trans (B7.out.mono ((B4.out.trans (B5.out.mono B4.out.size)).trans (B6.out.mono (B4.out.trans (B5.out.mono B4.out.size)).size)).size)).size)).size)).trans (B10.out.mono (((((B4.out.trans (B5.out.mono B4.out.size)).trans (B6.out.mono (B4.out.trans (B5.out.mono B4.out.size)).size)).trans (B7.out.mono ((B4.out.trans (B5.out.mono B4.out.size)).trans (B6.out.mono (B4.out.trans (B5.out.mono B4.out.size)).size)).size)).trans (B8.out.mono (((B4.out.trans (B5.out.mono B4.out.size)).trans (B6.out.mono (B4.out.trans (B5.out.mono B4.out.size)).size)).trans (B7.out.mono ((B4.out.trans (B5.out.mono B4.out.size)).trans (B6.out.mono (B4.out.trans (B5.out.mono B4.out.size)).size)).size)).size)).trans (B9.out.mono ((((B4.out.trans (B5.out.mono B4.out.size)).trans (B6.out.mono (B4.out.trans (B5.out.mono B4.out.size)).size)).trans (B7.out.mono ((B4.out.trans (B5.out.mono B4.out.size)).trans (B6.out.mono (B4.out.trans (B5.out.mono B4.out.size)).size)).size)).trans (B8.out.mono (((B4.out.trans (B5.out.mono B4.out.size)).trans (B6.out.mono (B4.out.trans (B5.out.mono B4.out.size)).size)).trans (B7.out.mono ((B4.out.trans (B5.out.mono B4.out.size)).trans (B6.out.mono (B4.out.trans (B5.out.mono B4.out.size)).size)).size)).size)).size)).size)) NA_q.out NB_q.out)
        obtain ⟨⟨zc0, zc1, zc2⟩, zf0, zf1, zf2⟩ := (((((((H_res.out.below B4.out).below B5.out).below B6.out).below B7.out).below B8.out).below B9.out).below B10.out)
        go_wp2_with fail
        exact bodyPost_ret (v := .agg #[.bool b_q, .slice A_q M_q c_q, .slice B_q K_q d_q]) (by simp [results, Tryz.results20, go_sem, *]) rfl (done_ra E_q.out HD.out)
      ·
        have HSE := Aside0.mk (show S = mkRat (sg false ((n0 * m1) - (n1 * m0))) (m0 * m1) by rw [HSU.out]; simp [addNeg, addNum, hlt])
        have HLT := Aside0.mk hlt
        obtain ⟨zc, hzc, hz0⟩ := cmpZ_ge hlt
        have HZC := Aside0.mk hzc
        clear hlt hzc
        obtain ⟨⟨hu00, hu01, hu02⟩, _⟩ := ((((((H_bx0.out.below B2.out).below B3.out).below B4.out).below B5.out).below B6.out).below B7.out)
        obtain ⟨⟨hu10, hu11, hu12⟩, _⟩ := (((((H_bx1.out.below B3.out).below B4.out).below B5.out).below B6.out).below B7.out)
        have HC : Aside0 (Calls Tryz.prog 39 #[v_p, v_q_] w7 (IntPost w7 zc)) := ⟨by have h := rcmpN ((H_p.out.below B6.out).below B7.out) (H_q_.out.below B7.out) (pw_lt1000 X_p.out (by omega)) (pw_lt1000 X_q_.out (by omega)); rw [← HZC.out] at h; exact h⟩
        go_wp2_with fail
        refine HC.out.mono ?_
        clear HC
        rintro e w8 ⟨rfl, hB⟩
        have B8 := Aside0.mk hB
        have T8 := Aside0.mk (T7.out.trans (hB.mono T7.out.size))
        clear hB
        clear hu00 hu01 hu02 hu10 hu11 hu12
        have HC : Aside0 (Calls Tryz.prog 47 #[v_p, v_q_] w8 (NuPost2 w8 ((n0 * m1) - (n1 * m0)) 0)) := ⟨by have h := rsubN (((H_p.out.below B6.out).below B7.out).below B8.out) ((H_q_.out.below B7.out).below B8.out) (pw_lt1000 X_p.out (by omega)) (pw_lt1000 X_q_.out (by omega)); rwa [if_neg (Nat.not_lt.2 (Nat.le_of_not_lt HLT.out))] at h⟩
        go_wp2_with fail
        refine HC.out.mono ?_
        clear HC
        rintro e w9 ⟨v_t, rfl, hN, hB⟩
        have B9 := Aside0.mk hB
        have T9 := Aside0.mk (T8.out.trans (hB.mono T8.out.size))
        have H_t := Aside0.mk hN
        have X_t := Aside0.mk (show (n0 * m1) - (n1 * m0) < pw 400 from Nat.lt_of_le_of_lt (Nat.sub_le _ _) X_p.out)
        clear hN hB
        obtain ⟨⟨hu00, hu01, hu02⟩, _⟩ := ((((((((H_bx0.out.below B2.out).below B3.out).below B4.out).below B5.out).below B6.out).below B7.out).below B8.out).below B9.out)
        obtain ⟨⟨hu10, hu11, hu12⟩, _⟩ := (((((((H_bx1.out.below B3.out).below B4.out).below B5.out).below B6.out).below B7.out).below B8.out).below B9.out)
        have HC : Aside0 (Calls Tryz.prog 37 #[.bool (false), v_t, v_dd] w9 (RaPost w9 (S))) := ⟨smadeX (false) H_t.out ((H_dd.out.below B8.out).below B9.out) (Nat.lt_of_lt_of_le X_t.out (pw_le (by decide))) (Nat.lt_of_lt_of_le X_dd.out (pw_le (by decide))) (DNZ.out) (HSE.out)⟩
        go_wp2_with fail
        refine HC.out.mono ?_
        clear HC
        rintro e w10 ⟨v_q, rfl, ⟨A_q, M_q, c_q, B_q, K_q, d_q, rfl, hNA, hNB⟩, hB⟩
        have B10 := Aside0.mk hB
        have T10 := Aside0.mk (T9.out.trans (hB.mono T9.out.size))
        obtain ⟨b_q, hb_q⟩ : ∃ b, b = decide (Rat.num (S) < 0) := ⟨_, rfl⟩
        try rw [← hb_q]
        have E_q := Aside0.mk hb_q
        clear hb_q
        have NA_q := Aside0.mk hNA
        have NB_q := Aside0.mk hNB
        clear hNA hNB hB
        have H_q := Aside0.mk (show Ra w10 (.agg #[.bool b_q, .slice A_q M_q c_q, .slice B_q K_q d_q]) (S) from by unfold Ra; rw [← E_q.out]; exact ⟨_, _, _, _, _, _, rfl, NA_q.out, NB_q.out⟩)
        clear hu00 hu01 hu02 hu10 hu11 hu12
        have HD := Aside0.mk (r3_done (neg := b_q) TR.out (by omega) H_res.out ((((((B4.out.trans (B5.out.mono B4.out.size)).trans (B6.out.mono (B4.out.trans (B5.out.mono B4.out.size)).size)).trans (B7.out.mono ((B4.out.trans (B5.out.mono B4.out.size)).trans (B6.out.mono (B4.out.trans (B5.out.mono B4.out.size)).size)).size)).trans (B8.out.mono (((B4.out.trans (B5.out.mono B4.out.size)).trans (B6.out.mono (B4.out.trans (B5.out.mono B4.out.size)).size)).trans (B7.out.mono ((B4.out.trans (B5.out.mono B4.out.size)).trans (B6.out.mono (B4.out.trans (B5.out.mono B4.out.size)).size)).size)).size)).trans (B9.out.mono ((((B4.out.trans (B5.out.mono B4.out.size)).trans (B6.out.mono (B4.out.trans (B5.out.mono B4.out.size)).size)).trans (B7.out.mono ((B4.out.trans (B5.out.mono B4.out.size)).trans (B6.out.mono (B4.out.trans (B5.out.mono B4.out.size)).size)).size)).trans (B8.out.mono (((B4.out.trans (B5.out.mono B4.out.size)).trans (B6.out.mono (B4.out.trans (B5.out.mono B4.out.size)).size)).trans (B7.out.mono ((B4.out.trans (B5.out.mono B4.out.size)).trans (B6.out.mono (B4.out.trans (B5.out.mono B4.out.size)).size)).size)).size)).size)).trans (B10.out.mono (((((B4.out.trans (B5.out.mono B4.out.size)).trans (B6.out.mono (B4.out.trans (B5.out.mono B4.out.size)).size)).trans (B7.out.mono ((B4.out.trans (B5.out.mono B4.out.size)).trans (B6.out.mono (B4.out.trans (B5.out.mono B4.out.size)).size)).size)).trans (B8.out.mono (((B4.out.trans (B5.out.mono B4.out.size)).trans (B6.out.mono (B4.out.trans (B5.out.mono B4.out.size)).size)).trans (B7.out.mono ((B4.out.trans (B5.out.mono B4.out.size)).trans (B6.out.mono (B4.out.trans (B5.out.mono B4.out.size)).size)).size)).size)).trans (B9.out.mono ((((B4.out.trans (B5.out.mono B4.out.size)).trans (B6.out.mono (B4.out.trans (B5.out.mono B4.out.size)).size)).trans (B7.out.mono ((B4.out.trans (B5.out.mono B4.out.size)).trans (B6.out.mono (B4.out.trans (B5.out.mono B4.out.size)).size)).size)).trans (B8.out.mono (((B4.out.trans (B5.out.mono B4.out.size)).trans (B6.out.mono (B4.out.trans (B5.out.mono B4.out.size)).size)).trans (B7.out.mono ((B4.out.trans (B5.out.mono B4.out.size)).trans (B6.out.mono (B4.out.trans (B5.out.mono B4.out.size)).size)).size)).size)).size)).size)) NA_q.out NB_q.out)
        obtain ⟨⟨zc0, zc1, zc2⟩, zf0, zf1, zf2⟩ := (((((((H_res.out.below B4.out).below B5.out).below B6.out).below B7.out).below B8.out).below B9.out).below B10.out)
        go_wp2_with fail
        exact bodyPost_ret (v := .agg #[.bool b_q, .slice A_q M_q c_q, .slice B_q K_q d_q]) (by simp [results, Tryz.results20, go_sem, *]) rfl (done_ra E_q.out HD.out)
  | true =>
    cases g1 with
    | false =>
      by_cases hlt : (n0 * m1) < (n1 * m0)
      ·
        have HSE := Aside0.mk (show S = mkRat (sg false ((n1 * m0) - (n0 * m1))) (m0 * m1) by rw [HSU.out]; simp [addNeg, addNum, hlt])
        have HLT := Aside0.mk hlt
        clear hlt
        obtain ⟨⟨hu00, hu01, hu02⟩, _⟩ := ((((((H_bx0.out.below B2.out).below B3.out).below B4.out).below B5.out).below B6.out).below B7.out)
        obtain ⟨⟨hu10, hu11, hu12⟩, _⟩ := (((((H_bx1.out.below B3.out).below B4.out).below B5.out).below B6.out).below B7.out)
        have HC : Aside0 (Calls Tryz.prog 39 #[v_p, v_q_] w7 (IntPost w7 (-1))) := ⟨by have h := rcmpN ((H_p.out.below B6.out).below B7.out) (H_q_.out.below B7.out) (pw_lt1000 X_p.out (by omega)) (pw_lt1000 X_q_.out (by omega)); rw [cmpZ_lt HLT.out] at h; exact h⟩
        go_wp2_with fail
        refine HC.out.mono ?_
        clear HC
        rintro e w8 ⟨rfl, hB⟩
        have B8 := Aside0.mk hB
        have T8 := Aside0.mk (T7.out.trans (hB.mono T7.out.size))
        clear hB
        clear hu00 hu01 hu02 hu10 hu11 hu12
        have HC : Aside0 (Calls Tryz.prog 47 #[v_q_, v_p] w8 (NuPost2 w8 ((n1 * m0) - (n0 * m1)) 0)) := ⟨by have h := rsubN ((H_q_.out.below B7.out).below B8.out) (((H_p.out.below B6.out).below B7.out).below B8.out) (pw_lt1000 X_q_.out (by omega)) (pw_lt1000 X_p.out (by omega)); rwa [if_neg (Nat.not_lt.2 (Nat.le_of_lt HLT.out))] at h⟩
        go_wp2_with fail
        refine HC.out.mono ?_
        clear HC
        rintro e w9 ⟨v_t, rfl, hN, hB⟩
        have B9 := Aside0.mk hB
        have T9 := Aside0.mk (T8.out.trans (hB.mono T8.out.size))
        have H_t := Aside0.mk hN
        have X_t := Aside0.mk (show (n1 * m0) - (n0 * m1) < pw 400 from Nat.lt_of_le_of_lt (Nat.sub_le _ _) X_q_.out)
        clear hN hB
        obtain ⟨⟨hu00, hu01, hu02⟩, _⟩ := ((((((((H_bx0.out.below B2.out).below B3.out).below B4.out).below B5.out).below B6.out).below B7.out).below B8.out).below B9.out)
        obtain ⟨⟨hu10, hu11, hu12⟩, _⟩ := (((((((H_bx1.out.below B3.out).below B4.out).below B5.out).below B6.out).below B7.out).below B8.out).below B9.out)
        have HC : Aside0 (Calls Tryz.prog 37 #[.bool (false), v_t, v_dd] w9 (RaPost w9 (S))) := ⟨smadeX (false) H_t.out ((H_dd.out.below B8.out).below B9.out) (Nat.lt_of_lt_of_le X_t.out (pw_le (by decide))) (Nat.lt_of_lt_of_le X_dd.out (pw_le (by decide))) (DNZ.out) (HSE.out)⟩
        go_wp2_with fail
        refine HC.out.mono ?_
        clear HC
        rintro e w10 ⟨v_q, rfl, ⟨A_q, M_q, c_q, B_q, K_q, d_q, rfl, hNA, hNB⟩, hB⟩
        have B10 := Aside0.mk hB
        have T10 := Aside0.mk (T9.out.trans (hB.mono T9.out.size))
        obtain ⟨b_q, hb_q⟩ : ∃ b, b = decide (Rat.num (S) < 0) := ⟨_, rfl⟩
        try rw [← hb_q]
        have E_q := Aside0.mk hb_q
        clear hb_q
        have NA_q := Aside0.mk hNA
        have NB_q := Aside0.mk hNB
        clear hNA hNB hB
        have H_q := Aside0.mk (show Ra w10 (.agg #[.bool b_q, .slice A_q M_q c_q, .slice B_q K_q d_q]) (S) from by unfold Ra; rw [← E_q.out]; exact ⟨_, _, _, _, _, _, rfl, NA_q.out, NB_q.out⟩)
        clear hu00 hu01 hu02 hu10 hu11 hu12
        have HD := Aside0.mk (r3_done (neg := b_q) TR.out (by omega) H_res.out ((((((B4.out.trans (B5.out.mono B4.out.size)).trans (B6.out.mono (B4.out.trans (B5.out.mono B4.out.size)).size)).trans (B7.out.mono ((B4.out.trans (B5.out.mono B4.out.size)).trans (B6.out.mono (B4.out.trans (B5.out.mono B4.out.size)).size)).size)).trans (B8.out.mono (((B4.out.trans (B5.out.mono B4.out.size)).trans (B6.out.mono (B4.out.trans (B5.out.mono B4.out.size)).size)).trans (B7.out.mono ((B4.out.trans (B5.out.mono B4.out.size)).trans (B6.out.mono (B4.out.trans (B5.out.mono B4.out.size)).size)).size)).size)).trans (B9.out.mono ((((B4.out.trans (B5.out.mono B4.out.size)).trans (B6.out.mono (B4.out.trans (B5.out.mono B4.out.size)).size)).trans (B7.out.mono ((B4.out.trans (B5.out.mono B4.out.size)).trans (B6.out.mono (B4.out.trans (B5.out.mono B4.out.size)).size)).size)).trans (B8.out.mono (((B4.out.trans (B5.out.mono B4.out.size)).trans (B6.out.mono (B4.out.trans (B5.out.mono B4.out.size)).size)).trans (B7.out.mono ((B4.out.trans (B5.out.mono B4.out.size)).trans (B6.out.mono (B4.out.trans (B5.out.mono B4.out.size)).size)).size)).size)).size)).trans (B10.out.mono (((((B4.out.trans (B5.out.mono B4.out.size)).trans (B6.out.mono (B4.out.trans (B5.out.mono B4.out.size)).size)).trans (B7.out.mono ((B4.out.trans (B5.out.mono B4.out.size)).trans (B6.out.mono (B4.out.trans (B5.out.mono B4.out.size)).size)).size)).trans (B8.out.mono (((B4.out.trans (B5.out.mono B4.out.size)).trans (B6.out.mono (B4.out.trans (B5.out.mono B4.out.size)).size)).trans (B7.out.mono ((B4.out.trans (B5.out.mono B4.out.size)).trans (B6.out.mono (B4.out.trans (B5.out.mono B4.out.size)).size)).size)).size)).trans (B9.out.mono ((((B4.out.trans (B5.out.mono B4.out.size)).trans (B6.out.mono (B4.out.trans (B5.out.mono B4.out.size)).size)).trans (B7.out.mono ((B4.out.trans (B5.out.mono B4.out.size)).trans (B6.out.mono (B4.out.trans (B5.out.mono B4.out.size)).size)).size)).trans (B8.out.mono (((B4.out.trans (B5.out.mono B4.out.size)).trans (B6.out.mono (B4.out.trans (B5.out.mono B4.out.size)).size)).trans (B7.out.mono ((B4.out.trans (B5.out.mono B4.out.size)).trans (B6.out.mono (B4.out.trans (B5.out.mono B4.out.size)).size)).size)).size)).size)).size)) NA_q.out NB_q.out)
        obtain ⟨⟨zc0, zc1, zc2⟩, zf0, zf1, zf2⟩ := (((((((H_res.out.below B4.out).below B5.out).below B6.out).below B7.out).below B8.out).below B9.out).below B10.out)
        go_wp2_with fail
        exact bodyPost_ret (v := .agg #[.bool b_q, .slice A_q M_q c_q, .slice B_q K_q d_q]) (by simp [results, Tryz.results20, go_sem, *]) rfl (done_ra E_q.out HD.out)
      ·
        have HSE := Aside0.mk (show S = mkRat (sg true ((n0 * m1) - (n1 * m0))) (m0 * m1) by rw [HSU.out]; simp [addNeg, addNum, hlt])
        have HLT := Aside0.mk hlt
        obtain ⟨zc, hzc, hz0⟩ := cmpZ_ge hlt
        have HZC := Aside0.mk hzc
        clear hlt hzc
        obtain ⟨⟨hu00, hu01, hu02⟩, _⟩ := ((((((H_bx0.out.below B2.out).below B3.out).below B4.out).below B5.out).below B6.out).below B7.out)
        obtain ⟨⟨hu10, hu11, hu12⟩, _⟩ := (((((H_bx1.out.below B3.out).below B4.out).below B5.out).below B6.out).below B7.out)
        have HC : Aside0 (Calls Tryz.prog 39 #[v_p, v_q_] w7 (IntPost w7 zc)) := ⟨by have h := rcmpN ((H_p.out.below B6.out).below B7.out) (H_q_.out.below B7.out) (pw_lt1000 X_p.out (by omega)) (pw_lt1000 X_q_.out (by omega)); rw [← HZC.out] at h; exact h⟩
        go_wp2_with fail
        refine HC.out.mono ?_
        clear HC
        rintro e w8 ⟨rfl, hB⟩
        have B8 := Aside0.mk hB
        have T8 := Aside0.mk (T7.out.trans (hB.mono T7.out.size))
        clear hB
        clear hu00 hu01 hu02 hu10 hu11 hu12
        have HC : Aside0 (Calls Tryz.prog 47 #[v_p, v_q_] w8 (NuPost2 w8 ((n0 * m1) - (n1 * m0)) 0)) := ⟨by have h := rsubN (((H_p.out.below B6.out).below B7.out).below B8.out) ((H_q_.out.below B7.out).below B8.out) (pw_lt1000 X_p.out (by omega)) (pw_lt1000 X_q_.out (by omega)); rwa [if_neg (Nat.not_lt.2 (Nat.le_of_not_lt HLT.out))] at h⟩
        go_wp2_with fail
        refine HC.out.mono ?_
        clear HC
        rintro e w9 ⟨v_t, rfl, hN, hB⟩
        have B9 := Aside0.mk hB
        have T9 := Aside0.mk (T8.out.trans (hB.mono T8.out.size))
        have H_t := Aside0.mk hN
        have X_t := Aside0.mk (show (n0 * m1) - (n1 * m0) < pw 400 from Nat.lt_of_le_of_lt (Nat.sub_le _ _) X_p.out)
        clear hN hB
        obtain ⟨⟨hu00, hu01, hu02⟩, _⟩ := ((((((((H_bx0.out.below B2.out).below B3.out).below B4.out).below B5.out).below B6.out).below B7.out).below B8.out).below B9.out)
        obtain ⟨⟨hu10, hu11, hu12⟩, _⟩ := (((((((H_bx1.out.below B3.out).below B4.out).below B5.out).below B6.out).below B7.out).below B8.out).below B9.out)
        have HC : Aside0 (Calls Tryz.prog 37 #[.bool (true), v_t, v_dd] w9 (RaPost w9 (S))) := ⟨smadeX (true) H_t.out ((H_dd.out.below B8.out).below B9.out) (Nat.lt_of_lt_of_le X_t.out (pw_le (by decide))) (Nat.lt_of_lt_of_le X_dd.out (pw_le (by decide))) (DNZ.out) (HSE.out)⟩
        go_wp2_with fail
        refine HC.out.mono ?_
        clear HC
        rintro e w10 ⟨v_q, rfl, ⟨A_q, M_q, c_q, B_q, K_q, d_q, rfl, hNA, hNB⟩, hB⟩
        have B10 := Aside0.mk hB
        have T10 := Aside0.mk (T9.out.trans (hB.mono T9.out.size))
        obtain ⟨b_q, hb_q⟩ : ∃ b, b = decide (Rat.num (S) < 0) := ⟨_, rfl⟩
        try rw [← hb_q]
        have E_q := Aside0.mk hb_q
        clear hb_q
        have NA_q := Aside0.mk hNA
        have NB_q := Aside0.mk hNB
        clear hNA hNB hB
        have H_q := Aside0.mk (show Ra w10 (.agg #[.bool b_q, .slice A_q M_q c_q, .slice B_q K_q d_q]) (S) from by unfold Ra; rw [← E_q.out]; exact ⟨_, _, _, _, _, _, rfl, NA_q.out, NB_q.out⟩)
        clear hu00 hu01 hu02 hu10 hu11 hu12
        have HD := Aside0.mk (r3_done (neg := b_q) TR.out (by omega) H_res.out ((((((B4.out.trans (B5.out.mono B4.out.size)).trans (B6.out.mono (B4.out.trans (B5.out.mono B4.out.size)).size)).trans (B7.out.mono ((B4.out.trans (B5.out.mono B4.out.size)).trans (B6.out.mono (B4.out.trans (B5.out.mono B4.out.size)).size)).size)).trans (B8.out.mono (((B4.out.trans (B5.out.mono B4.out.size)).trans (B6.out.mono (B4.out.trans (B5.out.mono B4.out.size)).size)).trans (B7.out.mono ((B4.out.trans (B5.out.mono B4.out.size)).trans (B6.out.mono (B4.out.trans (B5.out.mono B4.out.size)).size)).size)).size)).trans (B9.out.mono ((((B4.out.trans (B5.out.mono B4.out.size)).trans (B6.out.mono (B4.out.trans (B5.out.mono B4.out.size)).size)).trans (B7.out.mono ((B4.out.trans (B5.out.mono B4.out.size)).trans (B6.out.mono (B4.out.trans (B5.out.mono B4.out.size)).size)).size)).trans (B8.out.mono (((B4.out.trans (B5.out.mono B4.out.size)).trans (B6.out.mono (B4.out.trans (B5.out.mono B4.out.size)).size)).trans (B7.out.mono ((B4.out.trans (B5.out.mono B4.out.size)).trans (B6.out.mono (B4.out.trans (B5.out.mono B4.out.size)).size)).size)).size)).size)).trans (B10.out.mono (((((B4.out.trans (B5.out.mono B4.out.size)).trans (B6.out.mono (B4.out.trans (B5.out.mono B4.out.size)).size)).trans (B7.out.mono ((B4.out.trans (B5.out.mono B4.out.size)).trans (B6.out.mono (B4.out.trans (B5.out.mono B4.out.size)).size)).size)).trans (B8.out.mono (((B4.out.trans (B5.out.mono B4.out.size)).trans (B6.out.mono (B4.out.trans (B5.out.mono B4.out.size)).size)).trans (B7.out.mono ((B4.out.trans (B5.out.mono B4.out.size)).trans (B6.out.mono (B4.out.trans (B5.out.mono B4.out.size)).size)).size)).size)).trans (B9.out.mono ((((B4.out.trans (B5.out.mono B4.out.size)).trans (B6.out.mono (B4.out.trans (B5.out.mono B4.out.size)).size)).trans (B7.out.mono ((B4.out.trans (B5.out.mono B4.out.size)).trans (B6.out.mono (B4.out.trans (B5.out.mono B4.out.size)).size)).size)).trans (B8.out.mono (((B4.out.trans (B5.out.mono B4.out.size)).trans (B6.out.mono (B4.out.trans (B5.out.mono B4.out.size)).size)).trans (B7.out.mono ((B4.out.trans (B5.out.mono B4.out.size)).trans (B6.out.mono (B4.out.trans (B5.out.mono B4.out.size)).size)).size)).size)).size)).size)) NA_q.out NB_q.out)
        obtain ⟨⟨zc0, zc1, zc2⟩, zf0, zf1, zf2⟩ := (((((((H_res.out.below B4.out).below B5.out).below B6.out).below B7.out).below B8.out).below B9.out).below B10.out)
        go_wp2_with fail
        exact bodyPost_ret (v := .agg #[.bool b_q, .slice A_q M_q c_q, .slice B_q K_q d_q]) (by simp [results, Tryz.results20, go_sem, *]) rfl (done_ra E_q.out HD.out)
    | true =>
      have HSE := Aside0.mk (show S = mkRat (sg true ((n0 * m1) + (n1 * m0))) (m0 * m1) by rw [HSU.out]; unfold addNeg addNum; rfl)
      obtain ⟨⟨hu00, hu01, hu02⟩, _⟩ := ((((((H_bx0.out.below B2.out).below B3.out).below B4.out).below B5.out).below B6.out).below B7.out)
      obtain ⟨⟨hu10, hu11, hu12⟩, _⟩ := (((((H_bx1.out.below B3.out).below B4.out).below B5.out).below B6.out).below B7.out)
      go_wp2_with fail
      have B8 := Aside0.mk (Below.drew (Below.refl w7.heap.size w7))
      have T8 := Aside0.mk (T7.out.trans (B8.out.mono T7.out.size))
      have HS8 := Aside0.mk (fun (W : World) (hW : Below (w7.drew).heap.size (w7.drew) W) => show W.cell? ⟨w.heap.size, 0, none⟩ = some (.bool true) ∧ W.cell? ⟨w.heap.size, 1, none⟩ = some (.slice Aa0 La0 ca0) ∧ W.cell? ⟨w.heap.size, 2, none⟩ = some (.slice Ab0 Lb0 cb0) from ⟨((((((((H_bx0.out.below B2.out).below B3.out).below B4.out).below B5.out).below B6.out).below B7.out).below B8.out).below hW).1.1, ((((((((H_bx0.out.below B2.out).below B3.out).below B4.out).below B5.out).below B6.out).below B7.out).below B8.out).below hW).1.2.1, ((((((((H_bx0.out.below B2.out).below B3.out).below B4.out).below B5.out).below B6.out).below B7.out).below B8.out).below hW).1.2.2⟩)
      have U8 := Aside0.mk (Below.refl (w7.drew).heap.size (w7.drew))
      refine wp_region_held_drew (S := fun W => W.cell? ⟨w.heap.size, 0, none⟩ = some (.bool true) ∧ W.cell? ⟨w.heap.size, 1, none⟩ = some (.slice Aa0 La0 ca0) ∧ W.cell? ⟨w.heap.size, 2, none⟩ = some (.slice Ab0 Lb0 cb0)) (by kernel_rfl) (HS8.out _ (Below.refl _ _)) (fun hHeld => ?_)
      refine Inv.takeL (i := 0) (v := ?vadd_16) rfl (by kernel_rfl) (by kernel_rfl) (by kernel_rfl) (fun _ _ _ h => h) (by rfl) ?hyadd_16 (by assumption) ?restadd_16
      case hyadd_16 => ((intro w hSw; (try dsimp only at hSw); go_simp) <;> with_reducible rfl)
      try simp only [Act.put, List.setIfInBounds_toArray, List.set_cons_zero, List.set_cons_succ]
      refine Inv.takeL (i := 1) (v := ?vadd_17) rfl (by kernel_rfl) (by kernel_rfl) (by kernel_rfl) (fun _ _ _ h => h) (by rfl) ?hyadd_17 (by assumption) ?restadd_17
      case hyadd_17 => ((intro w hSw; (try dsimp only at hSw); go_simp) <;> with_reducible rfl)
      try simp only [Act.put, List.setIfInBounds_toArray, List.set_cons_zero, List.set_cons_succ]
      refine Inv.takeL (i := 2) (v := ?vadd_18) rfl (by kernel_rfl) (by kernel_rfl) (by kernel_rfl) (fun _ _ _ h => h) (by rfl) ?hyadd_18 (by assumption) ?restadd_18
      case hyadd_18 => ((intro w hSw; (try dsimp only at hSw); go_simp) <;> with_reducible rfl)
      try simp only [Act.put, List.setIfInBounds_toArray, List.set_cons_zero, List.set_cons_succ]
      refine Inv.takeL (i := 3) (v := ?vadd_19) rfl (by kernel_rfl) (by kernel_rfl) (by kernel_rfl) (fun _ _ _ h => h) (by rfl) ?hyadd_19 (by assumption) ?restadd_19
      case hyadd_19 => ((intro w hSw; (try dsimp only at hSw); go_simp) <;> with_reducible rfl)
      try simp only [Act.put, List.setIfInBounds_toArray, List.set_cons_zero, List.set_cons_succ]
      refine Inv.takeL (i := 5) (v := ?vadd_20) rfl (by kernel_rfl) (by kernel_rfl) (by kernel_rfl) (fun _ _ _ h => h) (by rfl) ?hyadd_20 (by assumption) ?restadd_20
      case hyadd_20 => ((intro w hSw; (try dsimp only at hSw); go_simp) <;> with_reducible rfl)
      try simp only [Act.put, List.setIfInBounds_toArray, List.set_cons_zero, List.set_cons_succ]
      refine Inv.oneL (i := 4) rfl (by kernel_rfl) (fun K hK => ?_)
      have HC : Aside0 (Calls Tryz.prog 46 #[v_p, v_q_] (w7.drew) (NuPost (w7.drew) ((n0 * m1) + (n1 * m0)))) := ⟨raddN (((H_p.out.below B6.out).below B7.out).below B8.out) ((H_q_.out.below B7.out).below B8.out) (pw_lt1000 X_p.out (by omega)) (pw_lt1000 X_q_.out (by omega))⟩
      go_simp
      refine HC.out.mono ?_
      clear HC
      rintro e w9 ⟨v_s, rfl, hN, hB⟩
      try go_wp2_with fail
      have B9 := Aside0.mk hB
      have T9 := Aside0.mk (T8.out.trans (hB.mono T8.out.size))
      have H_s := Aside0.mk hN
      have X_s := Aside0.mk (show (n0 * m1) + (n1 * m0) < pw 401 from pw_addb X_p.out X_q_.out (by omega) (by omega))
      clear hN hB
      have U9 := Aside0.mk (U8.out.trans (B9.out.mono U8.out.size))
      refine hK.out _ _ (HS8.out _ U9.out) (fun hHeld => ?_)
      clear hK K
      try simp only [Act.put, List.setIfInBounds_toArray, List.set_cons_zero, List.set_cons_succ]
      refine Inv.oneL (i := 6) rfl (by kernel_rfl) (fun K hK => ?_)
      have HC : Aside0 (Calls Tryz.prog 37 #[.bool (true), v_s, v_dd] w9 (RaPost w9 (S))) := ⟨smadeX (true) H_s.out ((H_dd.out.below B8.out).below B9.out) (Nat.lt_of_lt_of_le X_s.out (pw_le (by decide))) (Nat.lt_of_lt_of_le X_dd.out (pw_le (by decide))) (DNZ.out) (HSE.out)⟩
      go_simp
      refine HC.out.mono ?_
      clear HC
      rintro e w10 ⟨v_q, rfl, ⟨A_q, M_q, c_q, B_q, K_q, d_q, rfl, hNA, hNB⟩, hB⟩
      try go_wp2_with fail
      have B10 := Aside0.mk hB
      have T10 := Aside0.mk (T9.out.trans (hB.mono T9.out.size))
      obtain ⟨b_q, hb_q⟩ : ∃ b, b = decide (Rat.num (S) < 0) := ⟨_, rfl⟩
      try rw [← hb_q]
      have E_q := Aside0.mk hb_q
      clear hb_q
      have NA_q := Aside0.mk hNA
      have NB_q := Aside0.mk hNB
      clear hNA hNB hB
      have H_q := Aside0.mk (show Ra w10 (.agg #[.bool b_q, .slice A_q M_q c_q, .slice B_q K_q d_q]) (S) from by unfold Ra; rw [← E_q.out]; exact ⟨_, _, _, _, _, _, rfl, NA_q.out, NB_q.out⟩)
      have U10 := Aside0.mk (U9.out.trans (B10.out.mono U9.out.size))
      refine hK.out _ _ (HS8.out _ U10.out) (fun hHeld => ?_)
      clear hK K
      try simp only [Act.put, List.setIfInBounds_toArray, List.set_cons_zero, List.set_cons_succ]
      refine Inv.oneL (i := 7) rfl (by kernel_rfl) (fun K hK => ?_)
      have HD := Aside0.mk (r3_done (neg := b_q) TR.out (by omega) H_res.out ((((((B4.out.trans (B5.out.mono B4.out.size)).trans (B6.out.mono (B4.out.trans (B5.out.mono B4.out.size)).size)).trans (B7.out.mono ((B4.out.trans (B5.out.mono B4.out.size)).trans (B6.out.mono (B4.out.trans (B5.out.mono B4.out.size)).size)).size)).trans (B8.out.mono (((B4.out.trans (B5.out.mono B4.out.size)).trans (B6.out.mono (B4.out.trans (B5.out.mono B4.out.size)).size)).trans (B7.out.mono ((B4.out.trans (B5.out.mono B4.out.size)).trans (B6.out.mono (B4.out.trans (B5.out.mono B4.out.size)).size)).size)).size)).trans (B9.out.mono ((((B4.out.trans (B5.out.mono B4.out.size)).trans (B6.out.mono (B4.out.trans (B5.out.mono B4.out.size)).size)).trans (B7.out.mono ((B4.out.trans (B5.out.mono B4.out.size)).trans (B6.out.mono (B4.out.trans (B5.out.mono B4.out.size)).size)).size)).trans (B8.out.mono (((B4.out.trans (B5.out.mono B4.out.size)).trans (B6.out.mono (B4.out.trans (B5.out.mono B4.out.size)).size)).trans (B7.out.mono ((B4.out.trans (B5.out.mono B4.out.size)).trans (B6.out.mono (B4.out.trans (B5.out.mono B4.out.size)).size)).size)).size)).size)).trans (B10.out.mono (((((B4.out.trans (B5.out.mono B4.out.size)).trans (B6.out.mono (B4.out.trans (B5.out.mono B4.out.size)).size)).trans (B7.out.mono ((B4.out.trans (B5.out.mono B4.out.size)).trans (B6.out.mono (B4.out.trans (B5.out.mono B4.out.size)).size)).size)).trans (B8.out.mono (((B4.out.trans (B5.out.mono B4.out.size)).trans (B6.out.mono (B4.out.trans (B5.out.mono B4.out.size)).size)).trans (B7.out.mono ((B4.out.trans (B5.out.mono B4.out.size)).trans (B6.out.mono (B4.out.trans (B5.out.mono B4.out.size)).size)).size)).size)).trans (B9.out.mono ((((B4.out.trans (B5.out.mono B4.out.size)).trans (B6.out.mono (B4.out.trans (B5.out.mono B4.out.size)).size)).trans (B7.out.mono ((B4.out.trans (B5.out.mono B4.out.size)).trans (B6.out.mono (B4.out.trans (B5.out.mono B4.out.size)).size)).size)).trans (B8.out.mono (((B4.out.trans (B5.out.mono B4.out.size)).trans (B6.out.mono (B4.out.trans (B5.out.mono B4.out.size)).size)).trans (B7.out.mono ((B4.out.trans (B5.out.mono B4.out.size)).trans (B6.out.mono (B4.out.trans (B5.out.mono B4.out.size)).size)).size)).size)).size)).size)) NA_q.out NB_q.out)
      obtain ⟨⟨zc0, zc1, zc2⟩, zf0, zf1, zf2⟩ := (((((((H_res.out.below B4.out).below B5.out).below B6.out).below B7.out).below B8.out).below B9.out).below B10.out)
      have HKK := Aside0.mk (HS8.out _ U10.out)
      go_simp
      refine hK.out _ _ (by obtain ⟨k0, k1, k2⟩ := HKK.out; exact ⟨cell_far3 HNE0.out k0, cell_far3 HNE0.out k1, cell_far3 HNE0.out k2⟩) (fun hHeld => ?_)
      clear hK K
      try simp only [Act.put, List.setIfInBounds_toArray, List.set_cons_zero, List.set_cons_succ]
      refine wpAnyH_done (by kernel_rfl) ?_ _
      go_wp2_with fail
      exact bodyPost_ret (v := .agg #[.bool b_q, .slice A_q M_q c_q, .slice B_q K_q d_q]) (by simp [results, Tryz.results20, go_sem, *]) rfl (done_ra E_q.out HD.out)
set_option maxHeartbeats 8000000 in
set_option maxRecDepth 100000 in
theorem scmpR {w : World} {v0 v1 : Value} {x y : Rat} (hx : Ra w v0 x) (hy : Ra w v1 y) (hbx : Rb 200 x) (hby : Rb 200 y) : Calls Tryz.prog 14 #[v0, v1] w (IntPost w (cmpQ x y)) := by
  obtain ⟨Aa0, La0, ca0, Ab0, Lb0, cb0, rfl, hn0, hd0⟩ := hx
  obtain ⟨g0, hg0⟩ : ∃ b, b = decide (x.num < 0) := ⟨_, rfl⟩
  have EG0 := Aside0.mk hg0
  rw [← hg0]
  obtain ⟨n0, hnn0⟩ : ∃ n, n = x.num.natAbs := ⟨_, rfl⟩
  obtain ⟨m0, hmm0⟩ : ∃ n, n = x.den := ⟨_, rfl⟩
  rw [← hnn0] at hn0
  rw [← hmm0] at hd0
  have EN0 := Aside0.mk hnn0
  have EM0 := Aside0.mk hmm0
  have H_N0 := Aside0.mk hn0
  have H_D0 := Aside0.mk hd0
  have BB0 := Aside0.mk hbx
  have X_N0 := Aside0.mk (show n0 < pw 200 by rw [hnn0]; exact BB0.out.1)
  have X_D0 := Aside0.mk (show m0 < pw 200 by rw [hmm0]; exact BB0.out.2)
  have M00 := Aside0.mk (show m0 ≠ 0 by rw [hmm0]; exact x.den_nz)
  clear hg0 hnn0 hmm0 hn0 hd0
  obtain ⟨Aa1, La1, ca1, Ab1, Lb1, cb1, rfl, hn1, hd1⟩ := hy
  obtain ⟨g1, hg1⟩ : ∃ b, b = decide (y.num < 0) := ⟨_, rfl⟩
  have EG1 := Aside0.mk hg1
  rw [← hg1]
  obtain ⟨n1, hnn1⟩ : ∃ n, n = y.num.natAbs := ⟨_, rfl⟩
  obtain ⟨m1, hmm1⟩ : ∃ n, n = y.den := ⟨_, rfl⟩
  rw [← hnn1] at hn1
  rw [← hmm1] at hd1
  have EN1 := Aside0.mk hnn1
  have EM1 := Aside0.mk hmm1
  have H_N1 := Aside0.mk hn1
  have H_D1 := Aside0.mk hd1
  have BB1 := Aside0.mk hby
  have X_N1 := Aside0.mk (show n1 < pw 200 by rw [hnn1]; exact BB1.out.1)
  have X_D1 := Aside0.mk (show m1 < pw 200 by rw [hmm1]; exact BB1.out.2)
  have M01 := Aside0.mk (show m1 ≠ 0 by rw [hmm1]; exact y.den_nz)
  clear hg1 hnn1 hmm1 hn1 hd1
  rw [cmp_form x y EG0.out EG1.out EN0.out EN1.out EM0.out EM1.out]
  go_enter Tryz.func14, Tryz.ntmps14
  have B1 := Aside0.mk (below_alloc (Below.refl w.heap.size w) (.cells #[.bool g0, .slice Aa0 La0 ca0, .slice Ab0 Lb0 cb0] 24))
  have T1 := Aside0.mk (B1.out.mono (Nat.le_refl _))
  have H_bx0 := Aside0.mk (bx w (w.heap.size) (.bool g0) (.slice Aa0 La0 ca0) (.slice Ab0 Lb0 cb0) 24 (by simp))
  have B2 := Aside0.mk (below_alloc (Below.refl (w.alloc (.cells #[.bool g0, .slice Aa0 La0 ca0, .slice Ab0 Lb0 cb0] 24)).heap.size (w.alloc (.cells #[.bool g0, .slice Aa0 La0 ca0, .slice Ab0 Lb0 cb0] 24))) (.cells #[.bool g1, .slice Aa1 La1 ca1, .slice Ab1 Lb1 cb1] 24))
  have T2 := Aside0.mk (T1.out.trans (B2.out.mono T1.out.size))
  have H_bx1 := Aside0.mk (bx (w.alloc (.cells #[.bool g0, .slice Aa0 La0 ca0, .slice Ab0 Lb0 cb0] 24)) (w.heap.size + 1) (.bool g1) (.slice Aa1 La1 ca1) (.slice Ab1 Lb1 cb1) 24 (by simp))
  cases g0 with
  | false =>
    cases g1 with
    | false =>
      obtain ⟨⟨hu00, hu01, hu02⟩, _⟩ := (H_bx0.out.below B2.out)
      obtain ⟨⟨hu10, hu11, hu12⟩, _⟩ := H_bx1.out
      rcases cmpZ3 (n0 * m1) (n1 * m0) with hz | hz | hz
      ·
        rw [hz]
        have HZ := Aside0.mk hz
        clear hz
        go_wp2_with fail
        have B3 := Aside0.mk (Below.drew (Below.refl ((w.alloc (.cells #[.bool false, .slice Aa0 La0 ca0, .slice Ab0 Lb0 cb0] 24)).alloc (.cells #[.bool false, .slice Aa1 La1 ca1, .slice Ab1 Lb1 cb1] 24)).heap.size ((w.alloc (.cells #[.bool false, .slice Aa0 La0 ca0, .slice Ab0 Lb0 cb0] 24)).alloc (.cells #[.bool false, .slice Aa1 La1 ca1, .slice Ab1 Lb1 cb1] 24))))
        have T3 := Aside0.mk (T2.out.trans (B3.out.mono T2.out.size))
        have HS3 := Aside0.mk (fun (W : World) (hW : Below (((w.alloc (.cells #[.bool false, .slice Aa0 La0 ca0, .slice Ab0 Lb0 cb0] 24)).alloc (.cells #[.bool false, .slice Aa1 La1 ca1, .slice Ab1 Lb1 cb1] 24)).drew).heap.size (((w.alloc (.cells #[.bool false, .slice Aa0 La0 ca0, .slice Ab0 Lb0 cb0] 24)).alloc (.cells #[.bool false, .slice Aa1 La1 ca1, .slice Ab1 Lb1 cb1] 24)).drew) W) => show W.cell? ⟨w.heap.size, 0, none⟩ = some (.bool false) ∧ W.cell? ⟨w.heap.size, 1, none⟩ = some (.slice Aa0 La0 ca0) ∧ W.cell? ⟨w.heap.size, 2, none⟩ = some (.slice Ab0 Lb0 cb0) ∧ W.cell? ⟨w.heap.size + 1, 0, none⟩ = some (.bool false) ∧ W.cell? ⟨w.heap.size + 1, 1, none⟩ = some (.slice Aa1 La1 ca1) ∧ W.cell? ⟨w.heap.size + 1, 2, none⟩ = some (.slice Ab1 Lb1 cb1) from ⟨(((H_bx0.out.below B2.out).below B3.out).below hW).1.1, (((H_bx0.out.below B2.out).below B3.out).below hW).1.2.1, (((H_bx0.out.below B2.out).below B3.out).below hW).1.2.2, ((H_bx1.out.below B3.out).below hW).1.1, ((H_bx1.out.below B3.out).below hW).1.2.1, ((H_bx1.out.below B3.out).below hW).1.2.2⟩)
        have U3 := Aside0.mk (Below.refl (((w.alloc (.cells #[.bool false, .slice Aa0 La0 ca0, .slice Ab0 Lb0 cb0] 24)).alloc (.cells #[.bool false, .slice Aa1 La1 ca1, .slice Ab1 Lb1 cb1] 24)).drew).heap.size (((w.alloc (.cells #[.bool false, .slice Aa0 La0 ca0, .slice Ab0 Lb0 cb0] 24)).alloc (.cells #[.bool false, .slice Aa1 La1 ca1, .slice Ab1 Lb1 cb1] 24)).drew))
        refine wp_region_held_drew (S := fun W => W.cell? ⟨w.heap.size, 0, none⟩ = some (.bool false) ∧ W.cell? ⟨w.heap.size, 1, none⟩ = some (.slice Aa0 La0 ca0) ∧ W.cell? ⟨w.heap.size, 2, none⟩ = some (.slice Ab0 Lb0 cb0) ∧ W.cell? ⟨w.heap.size + 1, 0, none⟩ = some (.bool false) ∧ W.cell? ⟨w.heap.size + 1, 1, none⟩ = some (.slice Aa1 La1 ca1) ∧ W.cell? ⟨w.heap.size + 1, 2, none⟩ = some (.slice Ab1 Lb1 cb1)) (by kernel_rfl) (HS3.out _ (Below.refl _ _)) (fun hHeld => ?_)
        refine Inv.takeL (i := 0) (v := ?vcmp_1) rfl (by kernel_rfl) (by kernel_rfl) (by kernel_rfl) (fun _ _ _ h => h) (by rfl) ?hycmp_1 (by assumption) ?restcmp_1
        case hycmp_1 => ((intro w hSw; (try dsimp only at hSw); go_simp) <;> with_reducible rfl)
        try simp only [Act.put, List.setIfInBounds_toArray, List.set_cons_zero, List.set_cons_succ]
        refine Inv.takeL (i := 1) (v := ?vcmp_2) rfl (by kernel_rfl) (by kernel_rfl) (by kernel_rfl) (fun _ _ _ h => h) (by rfl) ?hycmp_2 (by assumption) ?restcmp_2
        case hycmp_2 => ((intro w hSw; (try dsimp only at hSw); go_simp) <;> with_reducible rfl)
        try simp only [Act.put, List.setIfInBounds_toArray, List.set_cons_zero, List.set_cons_succ]
        refine Inv.takeL (i := 2) (v := ?vcmp_3) rfl (by kernel_rfl) (by kernel_rfl) (by kernel_rfl) (fun _ _ _ h => h) (by rfl) ?hycmp_3 (by assumption) ?restcmp_3
        case hycmp_3 => ((intro w hSw; (try dsimp only at hSw); go_simp) <;> with_reducible rfl)
        try simp only [Act.put, List.setIfInBounds_toArray, List.set_cons_zero, List.set_cons_succ]
        refine Inv.takeL (i := 3) (v := ?vcmp_4) rfl (by kernel_rfl) (by kernel_rfl) (by kernel_rfl) (fun _ _ _ h => h) (by rfl) ?hycmp_4 (by assumption) ?restcmp_4
        case hycmp_4 => ((intro w hSw; (try dsimp only at hSw); go_simp) <;> with_reducible rfl)
        try simp only [Act.put, List.setIfInBounds_toArray, List.set_cons_zero, List.set_cons_succ]
        refine Inv.takeL (i := 5) (v := ?vcmp_5) rfl (by kernel_rfl) (by kernel_rfl) (by kernel_rfl) (fun _ _ _ h => h) (by rfl) ?hycmp_5 (by assumption) ?restcmp_5
        case hycmp_5 => ((intro w hSw; (try dsimp only at hSw); go_simp) <;> with_reducible rfl)
        try simp only [Act.put, List.setIfInBounds_toArray, List.set_cons_zero, List.set_cons_succ]
        refine Inv.takeL (i := 6) (v := ?vcmp_6) rfl (by kernel_rfl) (by kernel_rfl) (by kernel_rfl) (fun _ _ _ h => h) (by rfl) ?hycmp_6 (by assumption) ?restcmp_6
        case hycmp_6 => ((intro w hSw; (try dsimp only at hSw); go_simp) <;> with_reducible rfl)
        try simp only [Act.put, List.setIfInBounds_toArray, List.set_cons_zero, List.set_cons_succ]
        refine Inv.takeL (i := 7) (v := ?vcmp_7) rfl (by kernel_rfl) (by kernel_rfl) (by kernel_rfl) (fun _ _ _ h => h) (by rfl) ?hycmp_7 (by assumption) ?restcmp_7
        case hycmp_7 => ((intro w hSw; (try dsimp only at hSw); go_simp) <;> with_reducible rfl)
        try simp only [Act.put, List.setIfInBounds_toArray, List.set_cons_zero, List.set_cons_succ]
        refine Inv.takeL (i := 8) (v := ?vcmp_8) rfl (by kernel_rfl) (by kernel_rfl) (by kernel_rfl) (fun _ _ _ h => h) (by rfl) ?hycmp_8 (by assumption) ?restcmp_8
        case hycmp_8 => ((intro w hSw; (try dsimp only at hSw); go_simp) <;> with_reducible rfl)
        try simp only [Act.put, List.setIfInBounds_toArray, List.set_cons_zero, List.set_cons_succ]
        refine Inv.oneL (i := 4) rfl (by kernel_rfl) (fun K hK => ?_)
        have HC : Aside0 (Calls Tryz.prog 38 #[(.slice Aa0 La0 ca0), (.slice Ab1 Lb1 cb1)] (((w.alloc (.cells #[.bool false, .slice Aa0 La0 ca0, .slice Ab0 Lb0 cb0] 24)).alloc (.cells #[.bool false, .slice Aa1 La1 ca1, .slice Ab1 Lb1 cb1] 24)).drew) (NuPost (((w.alloc (.cells #[.bool false, .slice Aa0 La0 ca0, .slice Ab0 Lb0 cb0] 24)).alloc (.cells #[.bool false, .slice Aa1 La1 ca1, .slice Ab1 Lb1 cb1] 24)).drew) (n0 * m1))) := ⟨rmulN (((H_N0.out.below B1.out).below B2.out).below B3.out) (((H_D1.out.below B1.out).below B2.out).below B3.out) (pw_lt1000 X_N0.out (by omega)) (pw_lt1000 X_D1.out (by omega))⟩
        go_simp
        refine HC.out.mono ?_
        clear HC
        rintro e w4 ⟨v_p, rfl, hN, hB⟩
        try go_wp2_with fail
        have B4 := Aside0.mk hB
        have T4 := Aside0.mk (T3.out.trans (hB.mono T3.out.size))
        have H_p := Aside0.mk hN
        have X_p := Aside0.mk (show n0 * m1 < pw 400 from pw_mulb X_N0.out X_D1.out)
        clear hN hB
        have U4 := Aside0.mk (U3.out.trans (B4.out.mono U3.out.size))
        refine hK.out _ _ (HS3.out _ U4.out) (fun hHeld => ?_)
        clear hK K
        try simp only [Act.put, List.setIfInBounds_toArray, List.set_cons_zero, List.set_cons_succ]
        refine Inv.oneL (i := 9) rfl (by kernel_rfl) (fun K hK => ?_)
        have HC : Aside0 (Calls Tryz.prog 38 #[(.slice Aa1 La1 ca1), (.slice Ab0 Lb0 cb0)] w4 (NuPost w4 (n1 * m0))) := ⟨rmulN ((((H_N1.out.below B1.out).below B2.out).below B3.out).below B4.out) ((((H_D0.out.below B1.out).below B2.out).below B3.out).below B4.out) (pw_lt1000 X_N1.out (by omega)) (pw_lt1000 X_D0.out (by omega))⟩
        go_simp
        refine HC.out.mono ?_
        clear HC
        rintro e w5 ⟨v_q_, rfl, hN, hB⟩
        try go_wp2_with fail
        have B5 := Aside0.mk hB
        have T5 := Aside0.mk (T4.out.trans (hB.mono T4.out.size))
        have H_q_ := Aside0.mk hN
        have X_q_ := Aside0.mk (show n1 * m0 < pw 400 from pw_mulb X_N1.out X_D0.out)
        clear hN hB
        have U5 := Aside0.mk (U4.out.trans (B5.out.mono U4.out.size))
        refine hK.out _ _ (HS3.out _ U5.out) (fun hHeld => ?_)
        clear hK K
        try simp only [Act.put, List.setIfInBounds_toArray, List.set_cons_zero, List.set_cons_succ]
        refine Inv.oneL (i := 10) rfl (by kernel_rfl) (fun K hK => ?_)
        have HC : Aside0 (Calls Tryz.prog 39 #[v_p, v_q_] w5 (IntPost w5 (-1))) := ⟨by have h := rcmpN (H_p.out.below B5.out) H_q_.out (pw_lt1000 X_p.out (by omega)) (pw_lt1000 X_q_.out (by omega)); rw [HZ.out] at h; exact h⟩
        go_simp
        refine HC.out.mono ?_
        clear HC
        rintro e w6 ⟨rfl, hB⟩
        try go_wp2_with fail
        have B6 := Aside0.mk hB
        have T6 := Aside0.mk (T5.out.trans (hB.mono T5.out.size))
        clear hB
        have U6 := Aside0.mk (U5.out.trans (B6.out.mono U5.out.size))
        refine hK.out _ _ (HS3.out _ U6.out) (fun hHeld => ?_)
        clear hK K
        try simp only [Act.put, List.setIfInBounds_toArray, List.set_cons_zero, List.set_cons_succ]
        refine Inv.takeL (i := 11) (v := ?vcmp_9) rfl (by kernel_rfl) (by kernel_rfl) (by kernel_rfl) (fun _ _ _ h => h) (by rfl) ?hycmp_9 (by assumption) ?restcmp_9
        case hycmp_9 => ((intro w hSw; (try dsimp only at hSw); go_simp) <;> with_reducible rfl)
        try simp only [Act.put, List.setIfInBounds_toArray, List.set_cons_zero, List.set_cons_succ]
        refine wpAnyH_done (by kernel_rfl) ?_ _
        obtain ⟨⟨hu00, hu01, hu02⟩, _⟩ := (((((H_bx0.out.below B2.out).below B3.out).below B4.out).below B5.out).below B6.out)
        obtain ⟨⟨hu10, hu11, hu12⟩, _⟩ := ((((H_bx1.out.below B3.out).below B4.out).below B5.out).below B6.out)
        go_wp2_with fail
        go_ret
        exact ⟨rfl, T6.out⟩
      ·
        rw [hz]
        have HZ := Aside0.mk hz
        clear hz
        go_wp2_with fail
        have B3 := Aside0.mk (Below.drew (Below.refl ((w.alloc (.cells #[.bool false, .slice Aa0 La0 ca0, .slice Ab0 Lb0 cb0] 24)).alloc (.cells #[.bool false, .slice Aa1 La1 ca1, .slice Ab1 Lb1 cb1] 24)).heap.size ((w.alloc (.cells #[.bool false, .slice Aa0 La0 ca0, .slice Ab0 Lb0 cb0] 24)).alloc (.cells #[.bool false, .slice Aa1 La1 ca1, .slice Ab1 Lb1 cb1] 24))))
        have T3 := Aside0.mk (T2.out.trans (B3.out.mono T2.out.size))
        have HS3 := Aside0.mk (fun (W : World) (hW : Below (((w.alloc (.cells #[.bool false, .slice Aa0 La0 ca0, .slice Ab0 Lb0 cb0] 24)).alloc (.cells #[.bool false, .slice Aa1 La1 ca1, .slice Ab1 Lb1 cb1] 24)).drew).heap.size (((w.alloc (.cells #[.bool false, .slice Aa0 La0 ca0, .slice Ab0 Lb0 cb0] 24)).alloc (.cells #[.bool false, .slice Aa1 La1 ca1, .slice Ab1 Lb1 cb1] 24)).drew) W) => show W.cell? ⟨w.heap.size, 0, none⟩ = some (.bool false) ∧ W.cell? ⟨w.heap.size, 1, none⟩ = some (.slice Aa0 La0 ca0) ∧ W.cell? ⟨w.heap.size, 2, none⟩ = some (.slice Ab0 Lb0 cb0) ∧ W.cell? ⟨w.heap.size + 1, 0, none⟩ = some (.bool false) ∧ W.cell? ⟨w.heap.size + 1, 1, none⟩ = some (.slice Aa1 La1 ca1) ∧ W.cell? ⟨w.heap.size + 1, 2, none⟩ = some (.slice Ab1 Lb1 cb1) from ⟨(((H_bx0.out.below B2.out).below B3.out).below hW).1.1, (((H_bx0.out.below B2.out).below B3.out).below hW).1.2.1, (((H_bx0.out.below B2.out).below B3.out).below hW).1.2.2, ((H_bx1.out.below B3.out).below hW).1.1, ((H_bx1.out.below B3.out).below hW).1.2.1, ((H_bx1.out.below B3.out).below hW).1.2.2⟩)
        have U3 := Aside0.mk (Below.refl (((w.alloc (.cells #[.bool false, .slice Aa0 La0 ca0, .slice Ab0 Lb0 cb0] 24)).alloc (.cells #[.bool false, .slice Aa1 La1 ca1, .slice Ab1 Lb1 cb1] 24)).drew).heap.size (((w.alloc (.cells #[.bool false, .slice Aa0 La0 ca0, .slice Ab0 Lb0 cb0] 24)).alloc (.cells #[.bool false, .slice Aa1 La1 ca1, .slice Ab1 Lb1 cb1] 24)).drew))
        refine wp_region_held_drew (S := fun W => W.cell? ⟨w.heap.size, 0, none⟩ = some (.bool false) ∧ W.cell? ⟨w.heap.size, 1, none⟩ = some (.slice Aa0 La0 ca0) ∧ W.cell? ⟨w.heap.size, 2, none⟩ = some (.slice Ab0 Lb0 cb0) ∧ W.cell? ⟨w.heap.size + 1, 0, none⟩ = some (.bool false) ∧ W.cell? ⟨w.heap.size + 1, 1, none⟩ = some (.slice Aa1 La1 ca1) ∧ W.cell? ⟨w.heap.size + 1, 2, none⟩ = some (.slice Ab1 Lb1 cb1)) (by kernel_rfl) (HS3.out _ (Below.refl _ _)) (fun hHeld => ?_)
        refine Inv.takeL (i := 0) (v := ?vcmp_10) rfl (by kernel_rfl) (by kernel_rfl) (by kernel_rfl) (fun _ _ _ h => h) (by rfl) ?hycmp_10 (by assumption) ?restcmp_10
        case hycmp_10 => ((intro w hSw; (try dsimp only at hSw); go_simp) <;> with_reducible rfl)
        try simp only [Act.put, List.setIfInBounds_toArray, List.set_cons_zero, List.set_cons_succ]
        refine Inv.takeL (i := 1) (v := ?vcmp_11) rfl (by kernel_rfl) (by kernel_rfl) (by kernel_rfl) (fun _ _ _ h => h) (by rfl) ?hycmp_11 (by assumption) ?restcmp_11
        case hycmp_11 => ((intro w hSw; (try dsimp only at hSw); go_simp) <;> with_reducible rfl)
        try simp only [Act.put, List.setIfInBounds_toArray, List.set_cons_zero, List.set_cons_succ]
        refine Inv.takeL (i := 2) (v := ?vcmp_12) rfl (by kernel_rfl) (by kernel_rfl) (by kernel_rfl) (fun _ _ _ h => h) (by rfl) ?hycmp_12 (by assumption) ?restcmp_12
        case hycmp_12 => ((intro w hSw; (try dsimp only at hSw); go_simp) <;> with_reducible rfl)
        try simp only [Act.put, List.setIfInBounds_toArray, List.set_cons_zero, List.set_cons_succ]
        refine Inv.takeL (i := 3) (v := ?vcmp_13) rfl (by kernel_rfl) (by kernel_rfl) (by kernel_rfl) (fun _ _ _ h => h) (by rfl) ?hycmp_13 (by assumption) ?restcmp_13
        case hycmp_13 => ((intro w hSw; (try dsimp only at hSw); go_simp) <;> with_reducible rfl)
        try simp only [Act.put, List.setIfInBounds_toArray, List.set_cons_zero, List.set_cons_succ]
        refine Inv.takeL (i := 5) (v := ?vcmp_14) rfl (by kernel_rfl) (by kernel_rfl) (by kernel_rfl) (fun _ _ _ h => h) (by rfl) ?hycmp_14 (by assumption) ?restcmp_14
        case hycmp_14 => ((intro w hSw; (try dsimp only at hSw); go_simp) <;> with_reducible rfl)
        try simp only [Act.put, List.setIfInBounds_toArray, List.set_cons_zero, List.set_cons_succ]
        refine Inv.takeL (i := 6) (v := ?vcmp_15) rfl (by kernel_rfl) (by kernel_rfl) (by kernel_rfl) (fun _ _ _ h => h) (by rfl) ?hycmp_15 (by assumption) ?restcmp_15
        case hycmp_15 => ((intro w hSw; (try dsimp only at hSw); go_simp) <;> with_reducible rfl)
        try simp only [Act.put, List.setIfInBounds_toArray, List.set_cons_zero, List.set_cons_succ]
        refine Inv.takeL (i := 7) (v := ?vcmp_16) rfl (by kernel_rfl) (by kernel_rfl) (by kernel_rfl) (fun _ _ _ h => h) (by rfl) ?hycmp_16 (by assumption) ?restcmp_16
        case hycmp_16 => ((intro w hSw; (try dsimp only at hSw); go_simp) <;> with_reducible rfl)
        try simp only [Act.put, List.setIfInBounds_toArray, List.set_cons_zero, List.set_cons_succ]
        refine Inv.takeL (i := 8) (v := ?vcmp_17) rfl (by kernel_rfl) (by kernel_rfl) (by kernel_rfl) (fun _ _ _ h => h) (by rfl) ?hycmp_17 (by assumption) ?restcmp_17
        case hycmp_17 => ((intro w hSw; (try dsimp only at hSw); go_simp) <;> with_reducible rfl)
        try simp only [Act.put, List.setIfInBounds_toArray, List.set_cons_zero, List.set_cons_succ]
        refine Inv.oneL (i := 4) rfl (by kernel_rfl) (fun K hK => ?_)
        have HC : Aside0 (Calls Tryz.prog 38 #[(.slice Aa0 La0 ca0), (.slice Ab1 Lb1 cb1)] (((w.alloc (.cells #[.bool false, .slice Aa0 La0 ca0, .slice Ab0 Lb0 cb0] 24)).alloc (.cells #[.bool false, .slice Aa1 La1 ca1, .slice Ab1 Lb1 cb1] 24)).drew) (NuPost (((w.alloc (.cells #[.bool false, .slice Aa0 La0 ca0, .slice Ab0 Lb0 cb0] 24)).alloc (.cells #[.bool false, .slice Aa1 La1 ca1, .slice Ab1 Lb1 cb1] 24)).drew) (n0 * m1))) := ⟨rmulN (((H_N0.out.below B1.out).below B2.out).below B3.out) (((H_D1.out.below B1.out).below B2.out).below B3.out) (pw_lt1000 X_N0.out (by omega)) (pw_lt1000 X_D1.out (by omega))⟩
        go_simp
        refine HC.out.mono ?_
        clear HC
        rintro e w4 ⟨v_p, rfl, hN, hB⟩
        try go_wp2_with fail
        have B4 := Aside0.mk hB
        have T4 := Aside0.mk (T3.out.trans (hB.mono T3.out.size))
        have H_p := Aside0.mk hN
        have X_p := Aside0.mk (show n0 * m1 < pw 400 from pw_mulb X_N0.out X_D1.out)
        clear hN hB
        have U4 := Aside0.mk (U3.out.trans (B4.out.mono U3.out.size))
        refine hK.out _ _ (HS3.out _ U4.out) (fun hHeld => ?_)
        clear hK K
        try simp only [Act.put, List.setIfInBounds_toArray, List.set_cons_zero, List.set_cons_succ]
        refine Inv.oneL (i := 9) rfl (by kernel_rfl) (fun K hK => ?_)
        have HC : Aside0 (Calls Tryz.prog 38 #[(.slice Aa1 La1 ca1), (.slice Ab0 Lb0 cb0)] w4 (NuPost w4 (n1 * m0))) := ⟨rmulN ((((H_N1.out.below B1.out).below B2.out).below B3.out).below B4.out) ((((H_D0.out.below B1.out).below B2.out).below B3.out).below B4.out) (pw_lt1000 X_N1.out (by omega)) (pw_lt1000 X_D0.out (by omega))⟩
        go_simp
        refine HC.out.mono ?_
        clear HC
        rintro e w5 ⟨v_q_, rfl, hN, hB⟩
        try go_wp2_with fail
        have B5 := Aside0.mk hB
        have T5 := Aside0.mk (T4.out.trans (hB.mono T4.out.size))
        have H_q_ := Aside0.mk hN
        have X_q_ := Aside0.mk (show n1 * m0 < pw 400 from pw_mulb X_N1.out X_D0.out)
        clear hN hB
        have U5 := Aside0.mk (U4.out.trans (B5.out.mono U4.out.size))
        refine hK.out _ _ (HS3.out _ U5.out) (fun hHeld => ?_)
        clear hK K
        try simp only [Act.put, List.setIfInBounds_toArray, List.set_cons_zero, List.set_cons_succ]
        refine Inv.oneL (i := 10) rfl (by kernel_rfl) (fun K hK => ?_)
        have HC : Aside0 (Calls Tryz.prog 39 #[v_p, v_q_] w5 (IntPost w5 0)) := ⟨by have h := rcmpN (H_p.out.below B5.out) H_q_.out (pw_lt1000 X_p.out (by omega)) (pw_lt1000 X_q_.out (by omega)); rw [HZ.out] at h; exact h⟩
        go_simp
        refine HC.out.mono ?_
        clear HC
        rintro e w6 ⟨rfl, hB⟩
        try go_wp2_with fail
        have B6 := Aside0.mk hB
        have T6 := Aside0.mk (T5.out.trans (hB.mono T5.out.size))
        clear hB
        have U6 := Aside0.mk (U5.out.trans (B6.out.mono U5.out.size))
        refine hK.out _ _ (HS3.out _ U6.out) (fun hHeld => ?_)
        clear hK K
        try simp only [Act.put, List.setIfInBounds_toArray, List.set_cons_zero, List.set_cons_succ]
        refine Inv.takeL (i := 11) (v := ?vcmp_18) rfl (by kernel_rfl) (by kernel_rfl) (by kernel_rfl) (fun _ _ _ h => h) (by rfl) ?hycmp_18 (by assumption) ?restcmp_18
        case hycmp_18 => ((intro w hSw; (try dsimp only at hSw); go_simp) <;> with_reducible rfl)
        try simp only [Act.put, List.setIfInBounds_toArray, List.set_cons_zero, List.set_cons_succ]
        refine wpAnyH_done (by kernel_rfl) ?_ _
        obtain ⟨⟨hu00, hu01, hu02⟩, _⟩ := (((((H_bx0.out.below B2.out).below B3.out).below B4.out).below B5.out).below B6.out)
        obtain ⟨⟨hu10, hu11, hu12⟩, _⟩ := ((((H_bx1.out.below B3.out).below B4.out).below B5.out).below B6.out)
        go_wp2_with fail
        go_ret
        exact ⟨rfl, T6.out⟩
      ·
        rw [hz]
        have HZ := Aside0.mk hz
        clear hz
        go_wp2_with fail
        have B3 := Aside0.mk (Below.drew (Below.refl ((w.alloc (.cells #[.bool false, .slice Aa0 La0 ca0, .slice Ab0 Lb0 cb0] 24)).alloc (.cells #[.bool false, .slice Aa1 La1 ca1, .slice Ab1 Lb1 cb1] 24)).heap.size ((w.alloc (.cells #[.bool false, .slice Aa0 La0 ca0, .slice Ab0 Lb0 cb0] 24)).alloc (.cells #[.bool false, .slice Aa1 La1 ca1, .slice Ab1 Lb1 cb1] 24))))
        have T3 := Aside0.mk (T2.out.trans (B3.out.mono T2.out.size))
        have HS3 := Aside0.mk (fun (W : World) (hW : Below (((w.alloc (.cells #[.bool false, .slice Aa0 La0 ca0, .slice Ab0 Lb0 cb0] 24)).alloc (.cells #[.bool false, .slice Aa1 La1 ca1, .slice Ab1 Lb1 cb1] 24)).drew).heap.size (((w.alloc (.cells #[.bool false, .slice Aa0 La0 ca0, .slice Ab0 Lb0 cb0] 24)).alloc (.cells #[.bool false, .slice Aa1 La1 ca1, .slice Ab1 Lb1 cb1] 24)).drew) W) => show W.cell? ⟨w.heap.size, 0, none⟩ = some (.bool false) ∧ W.cell? ⟨w.heap.size, 1, none⟩ = some (.slice Aa0 La0 ca0) ∧ W.cell? ⟨w.heap.size, 2, none⟩ = some (.slice Ab0 Lb0 cb0) ∧ W.cell? ⟨w.heap.size + 1, 0, none⟩ = some (.bool false) ∧ W.cell? ⟨w.heap.size + 1, 1, none⟩ = some (.slice Aa1 La1 ca1) ∧ W.cell? ⟨w.heap.size + 1, 2, none⟩ = some (.slice Ab1 Lb1 cb1) from ⟨(((H_bx0.out.below B2.out).below B3.out).below hW).1.1, (((H_bx0.out.below B2.out).below B3.out).below hW).1.2.1, (((H_bx0.out.below B2.out).below B3.out).below hW).1.2.2, ((H_bx1.out.below B3.out).below hW).1.1, ((H_bx1.out.below B3.out).below hW).1.2.1, ((H_bx1.out.below B3.out).below hW).1.2.2⟩)
        have U3 := Aside0.mk (Below.refl (((w.alloc (.cells #[.bool false, .slice Aa0 La0 ca0, .slice Ab0 Lb0 cb0] 24)).alloc (.cells #[.bool false, .slice Aa1 La1 ca1, .slice Ab1 Lb1 cb1] 24)).drew).heap.size (((w.alloc (.cells #[.bool false, .slice Aa0 La0 ca0, .slice Ab0 Lb0 cb0] 24)).alloc (.cells #[.bool false, .slice Aa1 La1 ca1, .slice Ab1 Lb1 cb1] 24)).drew))
        refine wp_region_held_drew (S := fun W => W.cell? ⟨w.heap.size, 0, none⟩ = some (.bool false) ∧ W.cell? ⟨w.heap.size, 1, none⟩ = some (.slice Aa0 La0 ca0) ∧ W.cell? ⟨w.heap.size, 2, none⟩ = some (.slice Ab0 Lb0 cb0) ∧ W.cell? ⟨w.heap.size + 1, 0, none⟩ = some (.bool false) ∧ W.cell? ⟨w.heap.size + 1, 1, none⟩ = some (.slice Aa1 La1 ca1) ∧ W.cell? ⟨w.heap.size + 1, 2, none⟩ = some (.slice Ab1 Lb1 cb1)) (by kernel_rfl) (HS3.out _ (Below.refl _ _)) (fun hHeld => ?_)
        refine Inv.takeL (i := 0) (v := ?vcmp_19) rfl (by kernel_rfl) (by kernel_rfl) (by kernel_rfl) (fun _ _ _ h => h) (by rfl) ?hycmp_19 (by assumption) ?restcmp_19
        case hycmp_19 => ((intro w hSw; (try dsimp only at hSw); go_simp) <;> with_reducible rfl)
        try simp only [Act.put, List.setIfInBounds_toArray, List.set_cons_zero, List.set_cons_succ]
        refine Inv.takeL (i := 1) (v := ?vcmp_20) rfl (by kernel_rfl) (by kernel_rfl) (by kernel_rfl) (fun _ _ _ h => h) (by rfl) ?hycmp_20 (by assumption) ?restcmp_20
        case hycmp_20 => ((intro w hSw; (try dsimp only at hSw); go_simp) <;> with_reducible rfl)
        try simp only [Act.put, List.setIfInBounds_toArray, List.set_cons_zero, List.set_cons_succ]
        refine Inv.takeL (i := 2) (v := ?vcmp_21) rfl (by kernel_rfl) (by kernel_rfl) (by kernel_rfl) (fun _ _ _ h => h) (by rfl) ?hycmp_21 (by assumption) ?restcmp_21
        case hycmp_21 => ((intro w hSw; (try dsimp only at hSw); go_simp) <;> with_reducible rfl)
        try simp only [Act.put, List.setIfInBounds_toArray, List.set_cons_zero, List.set_cons_succ]
        refine Inv.takeL (i := 3) (v := ?vcmp_22) rfl (by kernel_rfl) (by kernel_rfl) (by kernel_rfl) (fun _ _ _ h => h) (by rfl) ?hycmp_22 (by assumption) ?restcmp_22
        case hycmp_22 => ((intro w hSw; (try dsimp only at hSw); go_simp) <;> with_reducible rfl)
        try simp only [Act.put, List.setIfInBounds_toArray, List.set_cons_zero, List.set_cons_succ]
        refine Inv.takeL (i := 5) (v := ?vcmp_23) rfl (by kernel_rfl) (by kernel_rfl) (by kernel_rfl) (fun _ _ _ h => h) (by rfl) ?hycmp_23 (by assumption) ?restcmp_23
        case hycmp_23 => ((intro w hSw; (try dsimp only at hSw); go_simp) <;> with_reducible rfl)
        try simp only [Act.put, List.setIfInBounds_toArray, List.set_cons_zero, List.set_cons_succ]
        refine Inv.takeL (i := 6) (v := ?vcmp_24) rfl (by kernel_rfl) (by kernel_rfl) (by kernel_rfl) (fun _ _ _ h => h) (by rfl) ?hycmp_24 (by assumption) ?restcmp_24
        case hycmp_24 => ((intro w hSw; (try dsimp only at hSw); go_simp) <;> with_reducible rfl)
        try simp only [Act.put, List.setIfInBounds_toArray, List.set_cons_zero, List.set_cons_succ]
        refine Inv.takeL (i := 7) (v := ?vcmp_25) rfl (by kernel_rfl) (by kernel_rfl) (by kernel_rfl) (fun _ _ _ h => h) (by rfl) ?hycmp_25 (by assumption) ?restcmp_25
        case hycmp_25 => ((intro w hSw; (try dsimp only at hSw); go_simp) <;> with_reducible rfl)
        try simp only [Act.put, List.setIfInBounds_toArray, List.set_cons_zero, List.set_cons_succ]
        refine Inv.takeL (i := 8) (v := ?vcmp_26) rfl (by kernel_rfl) (by kernel_rfl) (by kernel_rfl) (fun _ _ _ h => h) (by rfl) ?hycmp_26 (by assumption) ?restcmp_26
        case hycmp_26 => ((intro w hSw; (try dsimp only at hSw); go_simp) <;> with_reducible rfl)
        try simp only [Act.put, List.setIfInBounds_toArray, List.set_cons_zero, List.set_cons_succ]
        refine Inv.oneL (i := 4) rfl (by kernel_rfl) (fun K hK => ?_)
        have HC : Aside0 (Calls Tryz.prog 38 #[(.slice Aa0 La0 ca0), (.slice Ab1 Lb1 cb1)] (((w.alloc (.cells #[.bool false, .slice Aa0 La0 ca0, .slice Ab0 Lb0 cb0] 24)).alloc (.cells #[.bool false, .slice Aa1 La1 ca1, .slice Ab1 Lb1 cb1] 24)).drew) (NuPost (((w.alloc (.cells #[.bool false, .slice Aa0 La0 ca0, .slice Ab0 Lb0 cb0] 24)).alloc (.cells #[.bool false, .slice Aa1 La1 ca1, .slice Ab1 Lb1 cb1] 24)).drew) (n0 * m1))) := ⟨rmulN (((H_N0.out.below B1.out).below B2.out).below B3.out) (((H_D1.out.below B1.out).below B2.out).below B3.out) (pw_lt1000 X_N0.out (by omega)) (pw_lt1000 X_D1.out (by omega))⟩
        go_simp
        refine HC.out.mono ?_
        clear HC
        rintro e w4 ⟨v_p, rfl, hN, hB⟩
        try go_wp2_with fail
        have B4 := Aside0.mk hB
        have T4 := Aside0.mk (T3.out.trans (hB.mono T3.out.size))
        have H_p := Aside0.mk hN
        have X_p := Aside0.mk (show n0 * m1 < pw 400 from pw_mulb X_N0.out X_D1.out)
        clear hN hB
        have U4 := Aside0.mk (U3.out.trans (B4.out.mono U3.out.size))
        refine hK.out _ _ (HS3.out _ U4.out) (fun hHeld => ?_)
        clear hK K
        try simp only [Act.put, List.setIfInBounds_toArray, List.set_cons_zero, List.set_cons_succ]
        refine Inv.oneL (i := 9) rfl (by kernel_rfl) (fun K hK => ?_)
        have HC : Aside0 (Calls Tryz.prog 38 #[(.slice Aa1 La1 ca1), (.slice Ab0 Lb0 cb0)] w4 (NuPost w4 (n1 * m0))) := ⟨rmulN ((((H_N1.out.below B1.out).below B2.out).below B3.out).below B4.out) ((((H_D0.out.below B1.out).below B2.out).below B3.out).below B4.out) (pw_lt1000 X_N1.out (by omega)) (pw_lt1000 X_D0.out (by omega))⟩
        go_simp
        refine HC.out.mono ?_
        clear HC
        rintro e w5 ⟨v_q_, rfl, hN, hB⟩
        try go_wp2_with fail
        have B5 := Aside0.mk hB
        have T5 := Aside0.mk (T4.out.trans (hB.mono T4.out.size))
        have H_q_ := Aside0.mk hN
        have X_q_ := Aside0.mk (show n1 * m0 < pw 400 from pw_mulb X_N1.out X_D0.out)
        clear hN hB
        have U5 := Aside0.mk (U4.out.trans (B5.out.mono U4.out.size))
        refine hK.out _ _ (HS3.out _ U5.out) (fun hHeld => ?_)
        clear hK K
        try simp only [Act.put, List.setIfInBounds_toArray, List.set_cons_zero, List.set_cons_succ]
        refine Inv.oneL (i := 10) rfl (by kernel_rfl) (fun K hK => ?_)
        have HC : Aside0 (Calls Tryz.prog 39 #[v_p, v_q_] w5 (IntPost w5 1)) := ⟨by have h := rcmpN (H_p.out.below B5.out) H_q_.out (pw_lt1000 X_p.out (by omega)) (pw_lt1000 X_q_.out (by omega)); rw [HZ.out] at h; exact h⟩
        go_simp
        refine HC.out.mono ?_
        clear HC
        rintro e w6 ⟨rfl, hB⟩
        try go_wp2_with fail
        have B6 := Aside0.mk hB
        have T6 := Aside0.mk (T5.out.trans (hB.mono T5.out.size))
        clear hB
        have U6 := Aside0.mk (U5.out.trans (B6.out.mono U5.out.size))
        refine hK.out _ _ (HS3.out _ U6.out) (fun hHeld => ?_)
        clear hK K
        try simp only [Act.put, List.setIfInBounds_toArray, List.set_cons_zero, List.set_cons_succ]
        refine Inv.takeL (i := 11) (v := ?vcmp_27) rfl (by kernel_rfl) (by kernel_rfl) (by kernel_rfl) (fun _ _ _ h => h) (by rfl) ?hycmp_27 (by assumption) ?restcmp_27
        case hycmp_27 => ((intro w hSw; (try dsimp only at hSw); go_simp) <;> with_reducible rfl)
        try simp only [Act.put, List.setIfInBounds_toArray, List.set_cons_zero, List.set_cons_succ]
        refine wpAnyH_done (by kernel_rfl) ?_ _
        obtain ⟨⟨hu00, hu01, hu02⟩, _⟩ := (((((H_bx0.out.below B2.out).below B3.out).below B4.out).below B5.out).below B6.out)
        obtain ⟨⟨hu10, hu11, hu12⟩, _⟩ := ((((H_bx1.out.below B3.out).below B4.out).below B5.out).below B6.out)
        go_wp2_with fail
        go_ret
        exact ⟨rfl, T6.out⟩
    | true =>
      obtain ⟨⟨hu00, hu01, hu02⟩, _⟩ := (H_bx0.out.below B2.out)
      obtain ⟨⟨hu10, hu11, hu12⟩, _⟩ := H_bx1.out
      go_wp2_with fail
      go_ret
      exact ⟨rfl, T2.out⟩
  | true =>
    cases g1 with
    | false =>
      obtain ⟨⟨hu00, hu01, hu02⟩, _⟩ := (H_bx0.out.below B2.out)
      obtain ⟨⟨hu10, hu11, hu12⟩, _⟩ := H_bx1.out
      go_wp2_with fail
      go_ret
      exact ⟨rfl, T2.out⟩
    | true =>
      obtain ⟨⟨hu00, hu01, hu02⟩, _⟩ := (H_bx0.out.below B2.out)
      obtain ⟨⟨hu10, hu11, hu12⟩, _⟩ := H_bx1.out
      rcases cmpZ3 (n0 * m1) (n1 * m0) with hz | hz | hz
      ·
        rw [hz]
        have HZ := Aside0.mk hz
        clear hz
        go_wp2_with fail
        have B3 := Aside0.mk (Below.drew (Below.refl ((w.alloc (.cells #[.bool true, .slice Aa0 La0 ca0, .slice Ab0 Lb0 cb0] 24)).alloc (.cells #[.bool true, .slice Aa1 La1 ca1, .slice Ab1 Lb1 cb1] 24)).heap.size ((w.alloc (.cells #[.bool true, .slice Aa0 La0 ca0, .slice Ab0 Lb0 cb0] 24)).alloc (.cells #[.bool true, .slice Aa1 La1 ca1, .slice Ab1 Lb1 cb1] 24))))
        have T3 := Aside0.mk (T2.out.trans (B3.out.mono T2.out.size))
        have HS3 := Aside0.mk (fun (W : World) (hW : Below (((w.alloc (.cells #[.bool true, .slice Aa0 La0 ca0, .slice Ab0 Lb0 cb0] 24)).alloc (.cells #[.bool true, .slice Aa1 La1 ca1, .slice Ab1 Lb1 cb1] 24)).drew).heap.size (((w.alloc (.cells #[.bool true, .slice Aa0 La0 ca0, .slice Ab0 Lb0 cb0] 24)).alloc (.cells #[.bool true, .slice Aa1 La1 ca1, .slice Ab1 Lb1 cb1] 24)).drew) W) => show W.cell? ⟨w.heap.size, 0, none⟩ = some (.bool true) ∧ W.cell? ⟨w.heap.size, 1, none⟩ = some (.slice Aa0 La0 ca0) ∧ W.cell? ⟨w.heap.size, 2, none⟩ = some (.slice Ab0 Lb0 cb0) ∧ W.cell? ⟨w.heap.size + 1, 0, none⟩ = some (.bool true) ∧ W.cell? ⟨w.heap.size + 1, 1, none⟩ = some (.slice Aa1 La1 ca1) ∧ W.cell? ⟨w.heap.size + 1, 2, none⟩ = some (.slice Ab1 Lb1 cb1) from ⟨(((H_bx0.out.below B2.out).below B3.out).below hW).1.1, (((H_bx0.out.below B2.out).below B3.out).below hW).1.2.1, (((H_bx0.out.below B2.out).below B3.out).below hW).1.2.2, ((H_bx1.out.below B3.out).below hW).1.1, ((H_bx1.out.below B3.out).below hW).1.2.1, ((H_bx1.out.below B3.out).below hW).1.2.2⟩)
        have U3 := Aside0.mk (Below.refl (((w.alloc (.cells #[.bool true, .slice Aa0 La0 ca0, .slice Ab0 Lb0 cb0] 24)).alloc (.cells #[.bool true, .slice Aa1 La1 ca1, .slice Ab1 Lb1 cb1] 24)).drew).heap.size (((w.alloc (.cells #[.bool true, .slice Aa0 La0 ca0, .slice Ab0 Lb0 cb0] 24)).alloc (.cells #[.bool true, .slice Aa1 La1 ca1, .slice Ab1 Lb1 cb1] 24)).drew))
        refine wp_region_held_drew (S := fun W => W.cell? ⟨w.heap.size, 0, none⟩ = some (.bool true) ∧ W.cell? ⟨w.heap.size, 1, none⟩ = some (.slice Aa0 La0 ca0) ∧ W.cell? ⟨w.heap.size, 2, none⟩ = some (.slice Ab0 Lb0 cb0) ∧ W.cell? ⟨w.heap.size + 1, 0, none⟩ = some (.bool true) ∧ W.cell? ⟨w.heap.size + 1, 1, none⟩ = some (.slice Aa1 La1 ca1) ∧ W.cell? ⟨w.heap.size + 1, 2, none⟩ = some (.slice Ab1 Lb1 cb1)) (by kernel_rfl) (HS3.out _ (Below.refl _ _)) (fun hHeld => ?_)
        refine Inv.takeL (i := 0) (v := ?vcmp_28) rfl (by kernel_rfl) (by kernel_rfl) (by kernel_rfl) (fun _ _ _ h => h) (by rfl) ?hycmp_28 (by assumption) ?restcmp_28
        case hycmp_28 => ((intro w hSw; (try dsimp only at hSw); go_simp) <;> with_reducible rfl)
        try simp only [Act.put, List.setIfInBounds_toArray, List.set_cons_zero, List.set_cons_succ]
        refine Inv.takeL (i := 1) (v := ?vcmp_29) rfl (by kernel_rfl) (by kernel_rfl) (by kernel_rfl) (fun _ _ _ h => h) (by rfl) ?hycmp_29 (by assumption) ?restcmp_29
        case hycmp_29 => ((intro w hSw; (try dsimp only at hSw); go_simp) <;> with_reducible rfl)
        try simp only [Act.put, List.setIfInBounds_toArray, List.set_cons_zero, List.set_cons_succ]
        refine Inv.takeL (i := 2) (v := ?vcmp_30) rfl (by kernel_rfl) (by kernel_rfl) (by kernel_rfl) (fun _ _ _ h => h) (by rfl) ?hycmp_30 (by assumption) ?restcmp_30
        case hycmp_30 => ((intro w hSw; (try dsimp only at hSw); go_simp) <;> with_reducible rfl)
        try simp only [Act.put, List.setIfInBounds_toArray, List.set_cons_zero, List.set_cons_succ]
        refine Inv.takeL (i := 3) (v := ?vcmp_31) rfl (by kernel_rfl) (by kernel_rfl) (by kernel_rfl) (fun _ _ _ h => h) (by rfl) ?hycmp_31 (by assumption) ?restcmp_31
        case hycmp_31 => ((intro w hSw; (try dsimp only at hSw); go_simp) <;> with_reducible rfl)
        try simp only [Act.put, List.setIfInBounds_toArray, List.set_cons_zero, List.set_cons_succ]
        refine Inv.takeL (i := 5) (v := ?vcmp_32) rfl (by kernel_rfl) (by kernel_rfl) (by kernel_rfl) (fun _ _ _ h => h) (by rfl) ?hycmp_32 (by assumption) ?restcmp_32
        case hycmp_32 => ((intro w hSw; (try dsimp only at hSw); go_simp) <;> with_reducible rfl)
        try simp only [Act.put, List.setIfInBounds_toArray, List.set_cons_zero, List.set_cons_succ]
        refine Inv.takeL (i := 6) (v := ?vcmp_33) rfl (by kernel_rfl) (by kernel_rfl) (by kernel_rfl) (fun _ _ _ h => h) (by rfl) ?hycmp_33 (by assumption) ?restcmp_33
        case hycmp_33 => ((intro w hSw; (try dsimp only at hSw); go_simp) <;> with_reducible rfl)
        try simp only [Act.put, List.setIfInBounds_toArray, List.set_cons_zero, List.set_cons_succ]
        refine Inv.takeL (i := 7) (v := ?vcmp_34) rfl (by kernel_rfl) (by kernel_rfl) (by kernel_rfl) (fun _ _ _ h => h) (by rfl) ?hycmp_34 (by assumption) ?restcmp_34
        case hycmp_34 => ((intro w hSw; (try dsimp only at hSw); go_simp) <;> with_reducible rfl)
        try simp only [Act.put, List.setIfInBounds_toArray, List.set_cons_zero, List.set_cons_succ]
        refine Inv.takeL (i := 8) (v := ?vcmp_35) rfl (by kernel_rfl) (by kernel_rfl) (by kernel_rfl) (fun _ _ _ h => h) (by rfl) ?hycmp_35 (by assumption) ?restcmp_35
        case hycmp_35 => ((intro w hSw; (try dsimp only at hSw); go_simp) <;> with_reducible rfl)
        try simp only [Act.put, List.setIfInBounds_toArray, List.set_cons_zero, List.set_cons_succ]
        refine Inv.oneL (i := 4) rfl (by kernel_rfl) (fun K hK => ?_)
        have HC : Aside0 (Calls Tryz.prog 38 #[(.slice Aa0 La0 ca0), (.slice Ab1 Lb1 cb1)] (((w.alloc (.cells #[.bool true, .slice Aa0 La0 ca0, .slice Ab0 Lb0 cb0] 24)).alloc (.cells #[.bool true, .slice Aa1 La1 ca1, .slice Ab1 Lb1 cb1] 24)).drew) (NuPost (((w.alloc (.cells #[.bool true, .slice Aa0 La0 ca0, .slice Ab0 Lb0 cb0] 24)).alloc (.cells #[.bool true, .slice Aa1 La1 ca1, .slice Ab1 Lb1 cb1] 24)).drew) (n0 * m1))) := ⟨rmulN (((H_N0.out.below B1.out).below B2.out).below B3.out) (((H_D1.out.below B1.out).below B2.out).below B3.out) (pw_lt1000 X_N0.out (by omega)) (pw_lt1000 X_D1.out (by omega))⟩
        go_simp
        refine HC.out.mono ?_
        clear HC
        rintro e w4 ⟨v_p, rfl, hN, hB⟩
        try go_wp2_with fail
        have B4 := Aside0.mk hB
        have T4 := Aside0.mk (T3.out.trans (hB.mono T3.out.size))
        have H_p := Aside0.mk hN
        have X_p := Aside0.mk (show n0 * m1 < pw 400 from pw_mulb X_N0.out X_D1.out)
        clear hN hB
        have U4 := Aside0.mk (U3.out.trans (B4.out.mono U3.out.size))
        refine hK.out _ _ (HS3.out _ U4.out) (fun hHeld => ?_)
        clear hK K
        try simp only [Act.put, List.setIfInBounds_toArray, List.set_cons_zero, List.set_cons_succ]
        refine Inv.oneL (i := 9) rfl (by kernel_rfl) (fun K hK => ?_)
        have HC : Aside0 (Calls Tryz.prog 38 #[(.slice Aa1 La1 ca1), (.slice Ab0 Lb0 cb0)] w4 (NuPost w4 (n1 * m0))) := ⟨rmulN ((((H_N1.out.below B1.out).below B2.out).below B3.out).below B4.out) ((((H_D0.out.below B1.out).below B2.out).below B3.out).below B4.out) (pw_lt1000 X_N1.out (by omega)) (pw_lt1000 X_D0.out (by omega))⟩
        go_simp
        refine HC.out.mono ?_
        clear HC
        rintro e w5 ⟨v_q_, rfl, hN, hB⟩
        try go_wp2_with fail
        have B5 := Aside0.mk hB
        have T5 := Aside0.mk (T4.out.trans (hB.mono T4.out.size))
        have H_q_ := Aside0.mk hN
        have X_q_ := Aside0.mk (show n1 * m0 < pw 400 from pw_mulb X_N1.out X_D0.out)
        clear hN hB
        have U5 := Aside0.mk (U4.out.trans (B5.out.mono U4.out.size))
        refine hK.out _ _ (HS3.out _ U5.out) (fun hHeld => ?_)
        clear hK K
        try simp only [Act.put, List.setIfInBounds_toArray, List.set_cons_zero, List.set_cons_succ]
        refine Inv.oneL (i := 10) rfl (by kernel_rfl) (fun K hK => ?_)
        have HC : Aside0 (Calls Tryz.prog 39 #[v_p, v_q_] w5 (IntPost w5 (-1))) := ⟨by have h := rcmpN (H_p.out.below B5.out) H_q_.out (pw_lt1000 X_p.out (by omega)) (pw_lt1000 X_q_.out (by omega)); rw [HZ.out] at h; exact h⟩
        go_simp
        refine HC.out.mono ?_
        clear HC
        rintro e w6 ⟨rfl, hB⟩
        try go_wp2_with fail
        have B6 := Aside0.mk hB
        have T6 := Aside0.mk (T5.out.trans (hB.mono T5.out.size))
        clear hB
        have U6 := Aside0.mk (U5.out.trans (B6.out.mono U5.out.size))
        refine hK.out _ _ (HS3.out _ U6.out) (fun hHeld => ?_)
        clear hK K
        try simp only [Act.put, List.setIfInBounds_toArray, List.set_cons_zero, List.set_cons_succ]
        refine Inv.takeL (i := 11) (v := ?vcmp_36) rfl (by kernel_rfl) (by kernel_rfl) (by kernel_rfl) (fun _ _ _ h => h) (by rfl) ?hycmp_36 (by assumption) ?restcmp_36
        case hycmp_36 => ((intro w hSw; (try dsimp only at hSw); go_simp) <;> with_reducible rfl)
        try simp only [Act.put, List.setIfInBounds_toArray, List.set_cons_zero, List.set_cons_succ]
        refine wpAnyH_done (by kernel_rfl) ?_ _
        obtain ⟨⟨hu00, hu01, hu02⟩, _⟩ := (((((H_bx0.out.below B2.out).below B3.out).below B4.out).below B5.out).below B6.out)
        obtain ⟨⟨hu10, hu11, hu12⟩, _⟩ := ((((H_bx1.out.below B3.out).below B4.out).below B5.out).below B6.out)
        go_wp2_with fail
        go_ret
        exact ⟨rfl, T6.out⟩
      ·
        rw [hz]
        have HZ := Aside0.mk hz
        clear hz
        go_wp2_with fail
        have B3 := Aside0.mk (Below.drew (Below.refl ((w.alloc (.cells #[.bool true, .slice Aa0 La0 ca0, .slice Ab0 Lb0 cb0] 24)).alloc (.cells #[.bool true, .slice Aa1 La1 ca1, .slice Ab1 Lb1 cb1] 24)).heap.size ((w.alloc (.cells #[.bool true, .slice Aa0 La0 ca0, .slice Ab0 Lb0 cb0] 24)).alloc (.cells #[.bool true, .slice Aa1 La1 ca1, .slice Ab1 Lb1 cb1] 24))))
        have T3 := Aside0.mk (T2.out.trans (B3.out.mono T2.out.size))
        have HS3 := Aside0.mk (fun (W : World) (hW : Below (((w.alloc (.cells #[.bool true, .slice Aa0 La0 ca0, .slice Ab0 Lb0 cb0] 24)).alloc (.cells #[.bool true, .slice Aa1 La1 ca1, .slice Ab1 Lb1 cb1] 24)).drew).heap.size (((w.alloc (.cells #[.bool true, .slice Aa0 La0 ca0, .slice Ab0 Lb0 cb0] 24)).alloc (.cells #[.bool true, .slice Aa1 La1 ca1, .slice Ab1 Lb1 cb1] 24)).drew) W) => show W.cell? ⟨w.heap.size, 0, none⟩ = some (.bool true) ∧ W.cell? ⟨w.heap.size, 1, none⟩ = some (.slice Aa0 La0 ca0) ∧ W.cell? ⟨w.heap.size, 2, none⟩ = some (.slice Ab0 Lb0 cb0) ∧ W.cell? ⟨w.heap.size + 1, 0, none⟩ = some (.bool true) ∧ W.cell? ⟨w.heap.size + 1, 1, none⟩ = some (.slice Aa1 La1 ca1) ∧ W.cell? ⟨w.heap.size + 1, 2, none⟩ = some (.slice Ab1 Lb1 cb1) from ⟨(((H_bx0.out.below B2.out).below B3.out).below hW).1.1, (((H_bx0.out.below B2.out).below B3.out).below hW).1.2.1, (((H_bx0.out.below B2.out).below B3.out).below hW).1.2.2, ((H_bx1.out.below B3.out).below hW).1.1, ((H_bx1.out.below B3.out).below hW).1.2.1, ((H_bx1.out.below B3.out).below hW).1.2.2⟩)
        have U3 := Aside0.mk (Below.refl (((w.alloc (.cells #[.bool true, .slice Aa0 La0 ca0, .slice Ab0 Lb0 cb0] 24)).alloc (.cells #[.bool true, .slice Aa1 La1 ca1, .slice Ab1 Lb1 cb1] 24)).drew).heap.size (((w.alloc (.cells #[.bool true, .slice Aa0 La0 ca0, .slice Ab0 Lb0 cb0] 24)).alloc (.cells #[.bool true, .slice Aa1 La1 ca1, .slice Ab1 Lb1 cb1] 24)).drew))
        refine wp_region_held_drew (S := fun W => W.cell? ⟨w.heap.size, 0, none⟩ = some (.bool true) ∧ W.cell? ⟨w.heap.size, 1, none⟩ = some (.slice Aa0 La0 ca0) ∧ W.cell? ⟨w.heap.size, 2, none⟩ = some (.slice Ab0 Lb0 cb0) ∧ W.cell? ⟨w.heap.size + 1, 0, none⟩ = some (.bool true) ∧ W.cell? ⟨w.heap.size + 1, 1, none⟩ = some (.slice Aa1 La1 ca1) ∧ W.cell? ⟨w.heap.size + 1, 2, none⟩ = some (.slice Ab1 Lb1 cb1)) (by kernel_rfl) (HS3.out _ (Below.refl _ _)) (fun hHeld => ?_)
        refine Inv.takeL (i := 0) (v := ?vcmp_37) rfl (by kernel_rfl) (by kernel_rfl) (by kernel_rfl) (fun _ _ _ h => h) (by rfl) ?hycmp_37 (by assumption) ?restcmp_37
        case hycmp_37 => ((intro w hSw; (try dsimp only at hSw); go_simp) <;> with_reducible rfl)
        try simp only [Act.put, List.setIfInBounds_toArray, List.set_cons_zero, List.set_cons_succ]
        refine Inv.takeL (i := 1) (v := ?vcmp_38) rfl (by kernel_rfl) (by kernel_rfl) (by kernel_rfl) (fun _ _ _ h => h) (by rfl) ?hycmp_38 (by assumption) ?restcmp_38
        case hycmp_38 => ((intro w hSw; (try dsimp only at hSw); go_simp) <;> with_reducible rfl)
        try simp only [Act.put, List.setIfInBounds_toArray, List.set_cons_zero, List.set_cons_succ]
        refine Inv.takeL (i := 2) (v := ?vcmp_39) rfl (by kernel_rfl) (by kernel_rfl) (by kernel_rfl) (fun _ _ _ h => h) (by rfl) ?hycmp_39 (by assumption) ?restcmp_39
        case hycmp_39 => ((intro w hSw; (try dsimp only at hSw); go_simp) <;> with_reducible rfl)
        try simp only [Act.put, List.setIfInBounds_toArray, List.set_cons_zero, List.set_cons_succ]
        refine Inv.takeL (i := 3) (v := ?vcmp_40) rfl (by kernel_rfl) (by kernel_rfl) (by kernel_rfl) (fun _ _ _ h => h) (by rfl) ?hycmp_40 (by assumption) ?restcmp_40
        case hycmp_40 => ((intro w hSw; (try dsimp only at hSw); go_simp) <;> with_reducible rfl)
        try simp only [Act.put, List.setIfInBounds_toArray, List.set_cons_zero, List.set_cons_succ]
        refine Inv.takeL (i := 5) (v := ?vcmp_41) rfl (by kernel_rfl) (by kernel_rfl) (by kernel_rfl) (fun _ _ _ h => h) (by rfl) ?hycmp_41 (by assumption) ?restcmp_41
        case hycmp_41 => ((intro w hSw; (try dsimp only at hSw); go_simp) <;> with_reducible rfl)
        try simp only [Act.put, List.setIfInBounds_toArray, List.set_cons_zero, List.set_cons_succ]
        refine Inv.takeL (i := 6) (v := ?vcmp_42) rfl (by kernel_rfl) (by kernel_rfl) (by kernel_rfl) (fun _ _ _ h => h) (by rfl) ?hycmp_42 (by assumption) ?restcmp_42
        case hycmp_42 => ((intro w hSw; (try dsimp only at hSw); go_simp) <;> with_reducible rfl)
        try simp only [Act.put, List.setIfInBounds_toArray, List.set_cons_zero, List.set_cons_succ]
        refine Inv.takeL (i := 7) (v := ?vcmp_43) rfl (by kernel_rfl) (by kernel_rfl) (by kernel_rfl) (fun _ _ _ h => h) (by rfl) ?hycmp_43 (by assumption) ?restcmp_43
        case hycmp_43 => ((intro w hSw; (try dsimp only at hSw); go_simp) <;> with_reducible rfl)
        try simp only [Act.put, List.setIfInBounds_toArray, List.set_cons_zero, List.set_cons_succ]
        refine Inv.takeL (i := 8) (v := ?vcmp_44) rfl (by kernel_rfl) (by kernel_rfl) (by kernel_rfl) (fun _ _ _ h => h) (by rfl) ?hycmp_44 (by assumption) ?restcmp_44
        case hycmp_44 => ((intro w hSw; (try dsimp only at hSw); go_simp) <;> with_reducible rfl)
        try simp only [Act.put, List.setIfInBounds_toArray, List.set_cons_zero, List.set_cons_succ]
        refine Inv.oneL (i := 4) rfl (by kernel_rfl) (fun K hK => ?_)
        have HC : Aside0 (Calls Tryz.prog 38 #[(.slice Aa0 La0 ca0), (.slice Ab1 Lb1 cb1)] (((w.alloc (.cells #[.bool true, .slice Aa0 La0 ca0, .slice Ab0 Lb0 cb0] 24)).alloc (.cells #[.bool true, .slice Aa1 La1 ca1, .slice Ab1 Lb1 cb1] 24)).drew) (NuPost (((w.alloc (.cells #[.bool true, .slice Aa0 La0 ca0, .slice Ab0 Lb0 cb0] 24)).alloc (.cells #[.bool true, .slice Aa1 La1 ca1, .slice Ab1 Lb1 cb1] 24)).drew) (n0 * m1))) := ⟨rmulN (((H_N0.out.below B1.out).below B2.out).below B3.out) (((H_D1.out.below B1.out).below B2.out).below B3.out) (pw_lt1000 X_N0.out (by omega)) (pw_lt1000 X_D1.out (by omega))⟩
        go_simp
        refine HC.out.mono ?_
        clear HC
        rintro e w4 ⟨v_p, rfl, hN, hB⟩
        try go_wp2_with fail
        have B4 := Aside0.mk hB
        have T4 := Aside0.mk (T3.out.trans (hB.mono T3.out.size))
        have H_p := Aside0.mk hN
        have X_p := Aside0.mk (show n0 * m1 < pw 400 from pw_mulb X_N0.out X_D1.out)
        clear hN hB
        have U4 := Aside0.mk (U3.out.trans (B4.out.mono U3.out.size))
        refine hK.out _ _ (HS3.out _ U4.out) (fun hHeld => ?_)
        clear hK K
        try simp only [Act.put, List.setIfInBounds_toArray, List.set_cons_zero, List.set_cons_succ]
        refine Inv.oneL (i := 9) rfl (by kernel_rfl) (fun K hK => ?_)
        have HC : Aside0 (Calls Tryz.prog 38 #[(.slice Aa1 La1 ca1), (.slice Ab0 Lb0 cb0)] w4 (NuPost w4 (n1 * m0))) := ⟨rmulN ((((H_N1.out.below B1.out).below B2.out).below B3.out).below B4.out) ((((H_D0.out.below B1.out).below B2.out).below B3.out).below B4.out) (pw_lt1000 X_N1.out (by omega)) (pw_lt1000 X_D0.out (by omega))⟩
        go_simp
        refine HC.out.mono ?_
        clear HC
        rintro e w5 ⟨v_q_, rfl, hN, hB⟩
        try go_wp2_with fail
        have B5 := Aside0.mk hB
        have T5 := Aside0.mk (T4.out.trans (hB.mono T4.out.size))
        have H_q_ := Aside0.mk hN
        have X_q_ := Aside0.mk (show n1 * m0 < pw 400 from pw_mulb X_N1.out X_D0.out)
        clear hN hB
        have U5 := Aside0.mk (U4.out.trans (B5.out.mono U4.out.size))
        refine hK.out _ _ (HS3.out _ U5.out) (fun hHeld => ?_)
        clear hK K
        try simp only [Act.put, List.setIfInBounds_toArray, List.set_cons_zero, List.set_cons_succ]
        refine Inv.oneL (i := 10) rfl (by kernel_rfl) (fun K hK => ?_)
        have HC : Aside0 (Calls Tryz.prog 39 #[v_p, v_q_] w5 (IntPost w5 0)) := ⟨by have h := rcmpN (H_p.out.below B5.out) H_q_.out (pw_lt1000 X_p.out (by omega)) (pw_lt1000 X_q_.out (by omega)); rw [HZ.out] at h; exact h⟩
        go_simp
        refine HC.out.mono ?_
        clear HC
        rintro e w6 ⟨rfl, hB⟩
        try go_wp2_with fail
        have B6 := Aside0.mk hB
        have T6 := Aside0.mk (T5.out.trans (hB.mono T5.out.size))
        clear hB
        have U6 := Aside0.mk (U5.out.trans (B6.out.mono U5.out.size))
        refine hK.out _ _ (HS3.out _ U6.out) (fun hHeld => ?_)
        clear hK K
        try simp only [Act.put, List.setIfInBounds_toArray, List.set_cons_zero, List.set_cons_succ]
        refine Inv.takeL (i := 11) (v := ?vcmp_45) rfl (by kernel_rfl) (by kernel_rfl) (by kernel_rfl) (fun _ _ _ h => h) (by rfl) ?hycmp_45 (by assumption) ?restcmp_45
        case hycmp_45 => ((intro w hSw; (try dsimp only at hSw); go_simp) <;> with_reducible rfl)
        try simp only [Act.put, List.setIfInBounds_toArray, List.set_cons_zero, List.set_cons_succ]
        refine wpAnyH_done (by kernel_rfl) ?_ _
        obtain ⟨⟨hu00, hu01, hu02⟩, _⟩ := (((((H_bx0.out.below B2.out).below B3.out).below B4.out).below B5.out).below B6.out)
        obtain ⟨⟨hu10, hu11, hu12⟩, _⟩ := ((((H_bx1.out.below B3.out).below B4.out).below B5.out).below B6.out)
        go_wp2_with fail
        go_ret
        exact ⟨rfl, T6.out⟩
      ·
        rw [hz]
        have HZ := Aside0.mk hz
        clear hz
        go_wp2_with fail
        have B3 := Aside0.mk (Below.drew (Below.refl ((w.alloc (.cells #[.bool true, .slice Aa0 La0 ca0, .slice Ab0 Lb0 cb0] 24)).alloc (.cells #[.bool true, .slice Aa1 La1 ca1, .slice Ab1 Lb1 cb1] 24)).heap.size ((w.alloc (.cells #[.bool true, .slice Aa0 La0 ca0, .slice Ab0 Lb0 cb0] 24)).alloc (.cells #[.bool true, .slice Aa1 La1 ca1, .slice Ab1 Lb1 cb1] 24))))
        have T3 := Aside0.mk (T2.out.trans (B3.out.mono T2.out.size))
        have HS3 := Aside0.mk (fun (W : World) (hW : Below (((w.alloc (.cells #[.bool true, .slice Aa0 La0 ca0, .slice Ab0 Lb0 cb0] 24)).alloc (.cells #[.bool true, .slice Aa1 La1 ca1, .slice Ab1 Lb1 cb1] 24)).drew).heap.size (((w.alloc (.cells #[.bool true, .slice Aa0 La0 ca0, .slice Ab0 Lb0 cb0] 24)).alloc (.cells #[.bool true, .slice Aa1 La1 ca1, .slice Ab1 Lb1 cb1] 24)).drew) W) => show W.cell? ⟨w.heap.size, 0, none⟩ = some (.bool true) ∧ W.cell? ⟨w.heap.size, 1, none⟩ = some (.slice Aa0 La0 ca0) ∧ W.cell? ⟨w.heap.size, 2, none⟩ = some (.slice Ab0 Lb0 cb0) ∧ W.cell? ⟨w.heap.size + 1, 0, none⟩ = some (.bool true) ∧ W.cell? ⟨w.heap.size + 1, 1, none⟩ = some (.slice Aa1 La1 ca1) ∧ W.cell? ⟨w.heap.size + 1, 2, none⟩ = some (.slice Ab1 Lb1 cb1) from ⟨(((H_bx0.out.below B2.out).below B3.out).below hW).1.1, (((H_bx0.out.below B2.out).below B3.out).below hW).1.2.1, (((H_bx0.out.below B2.out).below B3.out).below hW).1.2.2, ((H_bx1.out.below B3.out).below hW).1.1, ((H_bx1.out.below B3.out).below hW).1.2.1, ((H_bx1.out.below B3.out).below hW).1.2.2⟩)
        have U3 := Aside0.mk (Below.refl (((w.alloc (.cells #[.bool true, .slice Aa0 La0 ca0, .slice Ab0 Lb0 cb0] 24)).alloc (.cells #[.bool true, .slice Aa1 La1 ca1, .slice Ab1 Lb1 cb1] 24)).drew).heap.size (((w.alloc (.cells #[.bool true, .slice Aa0 La0 ca0, .slice Ab0 Lb0 cb0] 24)).alloc (.cells #[.bool true, .slice Aa1 La1 ca1, .slice Ab1 Lb1 cb1] 24)).drew))
        refine wp_region_held_drew (S := fun W => W.cell? ⟨w.heap.size, 0, none⟩ = some (.bool true) ∧ W.cell? ⟨w.heap.size, 1, none⟩ = some (.slice Aa0 La0 ca0) ∧ W.cell? ⟨w.heap.size, 2, none⟩ = some (.slice Ab0 Lb0 cb0) ∧ W.cell? ⟨w.heap.size + 1, 0, none⟩ = some (.bool true) ∧ W.cell? ⟨w.heap.size + 1, 1, none⟩ = some (.slice Aa1 La1 ca1) ∧ W.cell? ⟨w.heap.size + 1, 2, none⟩ = some (.slice Ab1 Lb1 cb1)) (by kernel_rfl) (HS3.out _ (Below.refl _ _)) (fun hHeld => ?_)
        refine Inv.takeL (i := 0) (v := ?vcmp_46) rfl (by kernel_rfl) (by kernel_rfl) (by kernel_rfl) (fun _ _ _ h => h) (by rfl) ?hycmp_46 (by assumption) ?restcmp_46
        case hycmp_46 => ((intro w hSw; (try dsimp only at hSw); go_simp) <;> with_reducible rfl)
        try simp only [Act.put, List.setIfInBounds_toArray, List.set_cons_zero, List.set_cons_succ]
        refine Inv.takeL (i := 1) (v := ?vcmp_47) rfl (by kernel_rfl) (by kernel_rfl) (by kernel_rfl) (fun _ _ _ h => h) (by rfl) ?hycmp_47 (by assumption) ?restcmp_47
        case hycmp_47 => ((intro w hSw; (try dsimp only at hSw); go_simp) <;> with_reducible rfl)
        try simp only [Act.put, List.setIfInBounds_toArray, List.set_cons_zero, List.set_cons_succ]
        refine Inv.takeL (i := 2) (v := ?vcmp_48) rfl (by kernel_rfl) (by kernel_rfl) (by kernel_rfl) (fun _ _ _ h => h) (by rfl) ?hycmp_48 (by assumption) ?restcmp_48
        case hycmp_48 => ((intro w hSw; (try dsimp only at hSw); go_simp) <;> with_reducible rfl)
        try simp only [Act.put, List.setIfInBounds_toArray, List.set_cons_zero, List.set_cons_succ]
        refine Inv.takeL (i := 3) (v := ?vcmp_49) rfl (by kernel_rfl) (by kernel_rfl) (by kernel_rfl) (fun _ _ _ h => h) (by rfl) ?hycmp_49 (by assumption) ?restcmp_49
        case hycmp_49 => ((intro w hSw; (try dsimp only at hSw); go_simp) <;> with_reducible rfl)
        try simp only [Act.put, List.setIfInBounds_toArray, List.set_cons_zero, List.set_cons_succ]
        refine Inv.takeL (i := 5) (v := ?vcmp_50) rfl (by kernel_rfl) (by kernel_rfl) (by kernel_rfl) (fun _ _ _ h => h) (by rfl) ?hycmp_50 (by assumption) ?restcmp_50
        case hycmp_50 => ((intro w hSw; (try dsimp only at hSw); go_simp) <;> with_reducible rfl)
        try simp only [Act.put, List.setIfInBounds_toArray, List.set_cons_zero, List.set_cons_succ]
        refine Inv.takeL (i := 6) (v := ?vcmp_51) rfl (by kernel_rfl) (by kernel_rfl) (by kernel_rfl) (fun _ _ _ h => h) (by rfl) ?hycmp_51 (by assumption) ?restcmp_51
        case hycmp_51 => ((intro w hSw; (try dsimp only at hSw); go_simp) <;> with_reducible rfl)
        try simp only [Act.put, List.setIfInBounds_toArray, List.set_cons_zero, List.set_cons_succ]
        refine Inv.takeL (i := 7) (v := ?vcmp_52) rfl (by kernel_rfl) (by kernel_rfl) (by kernel_rfl) (fun _ _ _ h => h) (by rfl) ?hycmp_52 (by assumption) ?restcmp_52
        case hycmp_52 => ((intro w hSw; (try dsimp only at hSw); go_simp) <;> with_reducible rfl)
        try simp only [Act.put, List.setIfInBounds_toArray, List.set_cons_zero, List.set_cons_succ]
        refine Inv.takeL (i := 8) (v := ?vcmp_53) rfl (by kernel_rfl) (by kernel_rfl) (by kernel_rfl) (fun _ _ _ h => h) (by rfl) ?hycmp_53 (by assumption) ?restcmp_53
        case hycmp_53 => ((intro w hSw; (try dsimp only at hSw); go_simp) <;> with_reducible rfl)
        try simp only [Act.put, List.setIfInBounds_toArray, List.set_cons_zero, List.set_cons_succ]
        refine Inv.oneL (i := 4) rfl (by kernel_rfl) (fun K hK => ?_)
        have HC : Aside0 (Calls Tryz.prog 38 #[(.slice Aa0 La0 ca0), (.slice Ab1 Lb1 cb1)] (((w.alloc (.cells #[.bool true, .slice Aa0 La0 ca0, .slice Ab0 Lb0 cb0] 24)).alloc (.cells #[.bool true, .slice Aa1 La1 ca1, .slice Ab1 Lb1 cb1] 24)).drew) (NuPost (((w.alloc (.cells #[.bool true, .slice Aa0 La0 ca0, .slice Ab0 Lb0 cb0] 24)).alloc (.cells #[.bool true, .slice Aa1 La1 ca1, .slice Ab1 Lb1 cb1] 24)).drew) (n0 * m1))) := ⟨rmulN (((H_N0.out.below B1.out).below B2.out).below B3.out) (((H_D1.out.below B1.out).below B2.out).below B3.out) (pw_lt1000 X_N0.out (by omega)) (pw_lt1000 X_D1.out (by omega))⟩
        go_simp
        refine HC.out.mono ?_
        clear HC
        rintro e w4 ⟨v_p, rfl, hN, hB⟩
        try go_wp2_with fail
        have B4 := Aside0.mk hB
        have T4 := Aside0.mk (T3.out.trans (hB.mono T3.out.size))
        have H_p := Aside0.mk hN
        have X_p := Aside0.mk (show n0 * m1 < pw 400 from pw_mulb X_N0.out X_D1.out)
        clear hN hB
        have U4 := Aside0.mk (U3.out.trans (B4.out.mono U3.out.size))
        refine hK.out _ _ (HS3.out _ U4.out) (fun hHeld => ?_)
        clear hK K
        try simp only [Act.put, List.setIfInBounds_toArray, List.set_cons_zero, List.set_cons_succ]
        refine Inv.oneL (i := 9) rfl (by kernel_rfl) (fun K hK => ?_)
        have HC : Aside0 (Calls Tryz.prog 38 #[(.slice Aa1 La1 ca1), (.slice Ab0 Lb0 cb0)] w4 (NuPost w4 (n1 * m0))) := ⟨rmulN ((((H_N1.out.below B1.out).below B2.out).below B3.out).below B4.out) ((((H_D0.out.below B1.out).below B2.out).below B3.out).below B4.out) (pw_lt1000 X_N1.out (by omega)) (pw_lt1000 X_D0.out (by omega))⟩
        go_simp
        refine HC.out.mono ?_
        clear HC
        rintro e w5 ⟨v_q_, rfl, hN, hB⟩
        try go_wp2_with fail
        have B5 := Aside0.mk hB
        have T5 := Aside0.mk (T4.out.trans (hB.mono T4.out.size))
        have H_q_ := Aside0.mk hN
        have X_q_ := Aside0.mk (show n1 * m0 < pw 400 from pw_mulb X_N1.out X_D0.out)
        clear hN hB
        have U5 := Aside0.mk (U4.out.trans (B5.out.mono U4.out.size))
        refine hK.out _ _ (HS3.out _ U5.out) (fun hHeld => ?_)
        clear hK K
        try simp only [Act.put, List.setIfInBounds_toArray, List.set_cons_zero, List.set_cons_succ]
        refine Inv.oneL (i := 10) rfl (by kernel_rfl) (fun K hK => ?_)
        have HC : Aside0 (Calls Tryz.prog 39 #[v_p, v_q_] w5 (IntPost w5 1)) := ⟨by have h := rcmpN (H_p.out.below B5.out) H_q_.out (pw_lt1000 X_p.out (by omega)) (pw_lt1000 X_q_.out (by omega)); rw [HZ.out] at h; exact h⟩
        go_simp
        refine HC.out.mono ?_
        clear HC
        rintro e w6 ⟨rfl, hB⟩
        try go_wp2_with fail
        have B6 := Aside0.mk hB
        have T6 := Aside0.mk (T5.out.trans (hB.mono T5.out.size))
        clear hB
        have U6 := Aside0.mk (U5.out.trans (B6.out.mono U5.out.size))
        refine hK.out _ _ (HS3.out _ U6.out) (fun hHeld => ?_)
        clear hK K
        try simp only [Act.put, List.setIfInBounds_toArray, List.set_cons_zero, List.set_cons_succ]
        refine Inv.takeL (i := 11) (v := ?vcmp_54) rfl (by kernel_rfl) (by kernel_rfl) (by kernel_rfl) (fun _ _ _ h => h) (by rfl) ?hycmp_54 (by assumption) ?restcmp_54
        case hycmp_54 => ((intro w hSw; (try dsimp only at hSw); go_simp) <;> with_reducible rfl)
        try simp only [Act.put, List.setIfInBounds_toArray, List.set_cons_zero, List.set_cons_succ]
        refine wpAnyH_done (by kernel_rfl) ?_ _
        obtain ⟨⟨hu00, hu01, hu02⟩, _⟩ := (((((H_bx0.out.below B2.out).below B3.out).below B4.out).below B5.out).below B6.out)
        obtain ⟨⟨hu10, hu11, hu12⟩, _⟩ := ((((H_bx1.out.below B3.out).below B4.out).below B5.out).below B6.out)
        go_wp2_with fail
        go_ret
        exact ⟨rfl, T6.out⟩
set_option maxHeartbeats 8000000 in
set_option maxRecDepth 100000 in
theorem ssameB {w : World} {v0 v1 : Value} {x y : Rat} (hx : Ra w v0 x) (hy : Ra w v1 y) (hbx : Rb 200 x) (hby : Rb 200 y) (hne : ¬ x = y) : Calls Tryz.prog 12 #[v0, v1] w (BoolPost w false) := by
  obtain ⟨Aa0, La0, ca0, Ab0, Lb0, cb0, rfl, hn0, hd0⟩ := hx
  obtain ⟨g0, hg0⟩ : ∃ b, b = decide (x.num < 0) := ⟨_, rfl⟩
  have EG0 := Aside0.mk hg0
  rw [← hg0]
  obtain ⟨n0, hnn0⟩ : ∃ n, n = x.num.natAbs := ⟨_, rfl⟩
  obtain ⟨m0, hmm0⟩ : ∃ n, n = x.den := ⟨_, rfl⟩
  rw [← hnn0] at hn0
  rw [← hmm0] at hd0
  have EN0 := Aside0.mk hnn0
  have EM0 := Aside0.mk hmm0
  have H_N0 := Aside0.mk hn0
  have H_D0 := Aside0.mk hd0
  have BB0 := Aside0.mk hbx
  have X_N0 := Aside0.mk (show n0 < pw 200 by rw [hnn0]; exact BB0.out.1)
  have X_D0 := Aside0.mk (show m0 < pw 200 by rw [hmm0]; exact BB0.out.2)
  have M00 := Aside0.mk (show m0 ≠ 0 by rw [hmm0]; exact x.den_nz)
  clear hg0 hnn0 hmm0 hn0 hd0
  obtain ⟨Aa1, La1, ca1, Ab1, Lb1, cb1, rfl, hn1, hd1⟩ := hy
  obtain ⟨g1, hg1⟩ : ∃ b, b = decide (y.num < 0) := ⟨_, rfl⟩
  have EG1 := Aside0.mk hg1
  rw [← hg1]
  obtain ⟨n1, hnn1⟩ : ∃ n, n = y.num.natAbs := ⟨_, rfl⟩
  obtain ⟨m1, hmm1⟩ : ∃ n, n = y.den := ⟨_, rfl⟩
  rw [← hnn1] at hn1
  rw [← hmm1] at hd1
  have EN1 := Aside0.mk hnn1
  have EM1 := Aside0.mk hmm1
  have H_N1 := Aside0.mk hn1
  have H_D1 := Aside0.mk hd1
  have BB1 := Aside0.mk hby
  have X_N1 := Aside0.mk (show n1 < pw 200 by rw [hnn1]; exact BB1.out.1)
  have X_D1 := Aside0.mk (show m1 < pw 200 by rw [hmm1]; exact BB1.out.2)
  have M01 := Aside0.mk (show m1 ≠ 0 by rw [hmm1]; exact y.den_nz)
  clear hg1 hnn1 hmm1 hn1 hd1
  rw [eq_form x y EG0.out EG1.out EN0.out EN1.out EM0.out EM1.out] at hne
  go_enter Tryz.func12, Tryz.ntmps12
  have B1 := Aside0.mk (below_alloc (Below.refl w.heap.size w) (.cells #[.bool g0, .slice Aa0 La0 ca0, .slice Ab0 Lb0 cb0] 24))
  have T1 := Aside0.mk (B1.out.mono (Nat.le_refl _))
  have H_bx0 := Aside0.mk (bx w (w.heap.size) (.bool g0) (.slice Aa0 La0 ca0) (.slice Ab0 Lb0 cb0) 24 (by simp))
  have B2 := Aside0.mk (below_alloc (Below.refl (w.alloc (.cells #[.bool g0, .slice Aa0 La0 ca0, .slice Ab0 Lb0 cb0] 24)).heap.size (w.alloc (.cells #[.bool g0, .slice Aa0 La0 ca0, .slice Ab0 Lb0 cb0] 24))) (.cells #[.bool g1, .slice Aa1 La1 ca1, .slice Ab1 Lb1 cb1] 24))
  have T2 := Aside0.mk (T1.out.trans (B2.out.mono T1.out.size))
  have H_bx1 := Aside0.mk (bx (w.alloc (.cells #[.bool g0, .slice Aa0 La0 ca0, .slice Ab0 Lb0 cb0] 24)) (w.heap.size + 1) (.bool g1) (.slice Aa1 La1 ca1) (.slice Ab1 Lb1 cb1) 24 (by simp))
  cases g0 with
  | false =>
    cases g1 with
    | false =>
      obtain ⟨⟨hu00, hu01, hu02⟩, _⟩ := (H_bx0.out.below B2.out)
      obtain ⟨⟨hu10, hu11, hu12⟩, _⟩ := H_bx1.out
      by_cases hn : n0 = n1
      ·
        have HM := Aside0.mk (show m0 ≠ m1 from fun h => hne ⟨rfl, hn, h⟩)
        have HN := Aside0.mk hn
        clear hne hn
        obtain ⟨zc, hzc⟩ : ∃ z, z = cmpZ m0 m1 := ⟨_, rfl⟩
        have hzb : (zc == 0) = false := by rw [beq_eq_false_iff_ne, hzc]; exact cmpZ_neS HM.out
        have HZC := Aside0.mk hzc
        clear hzc
        have HC : Aside0 (Calls Tryz.prog 39 #[(.slice Aa0 La0 ca0), (.slice Aa1 La1 ca1)] ((w.alloc (.cells #[.bool false, .slice Aa0 La0 ca0, .slice Ab0 Lb0 cb0] 24)).alloc (.cells #[.bool false, .slice Aa1 La1 ca1, .slice Ab1 Lb1 cb1] 24)) (IntPost ((w.alloc (.cells #[.bool false, .slice Aa0 La0 ca0, .slice Ab0 Lb0 cb0] 24)).alloc (.cells #[.bool false, .slice Aa1 La1 ca1, .slice Ab1 Lb1 cb1] 24)) 0)) := ⟨by have h := rcmpN ((H_N0.out.below B1.out).below B2.out) ((H_N1.out.below B1.out).below B2.out) (pw_lt1000 X_N0.out (by omega)) (pw_lt1000 X_N1.out (by omega)); rw [cmpZ_eq HN.out] at h; exact h⟩
        go_wp2_with fail
        refine HC.out.mono ?_
        clear HC
        rintro e w3 ⟨rfl, hB⟩
        have B3 := Aside0.mk hB
        have T3 := Aside0.mk (T2.out.trans (hB.mono T2.out.size))
        clear hB
        clear hu00 hu01 hu02 hu10 hu11 hu12
        obtain ⟨⟨hu00, hu01, hu02⟩, _⟩ := ((H_bx0.out.below B2.out).below B3.out)
        obtain ⟨⟨hu10, hu11, hu12⟩, _⟩ := (H_bx1.out.below B3.out)
        have HC : Aside0 (Calls Tryz.prog 39 #[(.slice Ab0 Lb0 cb0), (.slice Ab1 Lb1 cb1)] w3 (IntPost w3 zc)) := ⟨by have h := rcmpN (((H_D0.out.below B1.out).below B2.out).below B3.out) (((H_D1.out.below B1.out).below B2.out).below B3.out) (pw_lt1000 X_D0.out (by omega)) (pw_lt1000 X_D1.out (by omega)); rw [← HZC.out] at h; exact h⟩
        go_wp2_with fail
        refine HC.out.mono ?_
        clear HC
        rintro e w4 ⟨rfl, hB⟩
        have B4 := Aside0.mk hB
        have T4 := Aside0.mk (T3.out.trans (hB.mono T3.out.size))
        clear hB
        go_wp2_with fail
        go_ret
        exact ⟨rfl, T4.out⟩
      ·
        have HN := Aside0.mk hn
        clear hne hn
        obtain ⟨zc, hzc⟩ : ∃ z, z = cmpZ n0 n1 := ⟨_, rfl⟩
        have hzb : (zc == 0) = false := by rw [beq_eq_false_iff_ne, hzc]; exact cmpZ_neS HN.out
        have HZC := Aside0.mk hzc
        clear hzc
        have HC : Aside0 (Calls Tryz.prog 39 #[(.slice Aa0 La0 ca0), (.slice Aa1 La1 ca1)] ((w.alloc (.cells #[.bool false, .slice Aa0 La0 ca0, .slice Ab0 Lb0 cb0] 24)).alloc (.cells #[.bool false, .slice Aa1 La1 ca1, .slice Ab1 Lb1 cb1] 24)) (IntPost ((w.alloc (.cells #[.bool false, .slice Aa0 La0 ca0, .slice Ab0 Lb0 cb0] 24)).alloc (.cells #[.bool false, .slice Aa1 La1 ca1, .slice Ab1 Lb1 cb1] 24)) zc)) := ⟨by have h := rcmpN ((H_N0.out.below B1.out).below B2.out) ((H_N1.out.below B1.out).below B2.out) (pw_lt1000 X_N0.out (by omega)) (pw_lt1000 X_N1.out (by omega)); rw [← HZC.out] at h; exact h⟩
        go_wp2_with fail
        refine HC.out.mono ?_
        clear HC
        rintro e w3 ⟨rfl, hB⟩
        have B3 := Aside0.mk hB
        have T3 := Aside0.mk (T2.out.trans (hB.mono T2.out.size))
        clear hB
        go_wp2_with fail
        go_ret
        exact ⟨rfl, T3.out⟩
    | true =>
      obtain ⟨⟨hu00, hu01, hu02⟩, _⟩ := (H_bx0.out.below B2.out)
      obtain ⟨⟨hu10, hu11, hu12⟩, _⟩ := H_bx1.out
      clear hne
      go_wp2_with fail
      go_ret
      exact ⟨rfl, T2.out⟩
  | true =>
    cases g1 with
    | false =>
      obtain ⟨⟨hu00, hu01, hu02⟩, _⟩ := (H_bx0.out.below B2.out)
      obtain ⟨⟨hu10, hu11, hu12⟩, _⟩ := H_bx1.out
      clear hne
      go_wp2_with fail
      go_ret
      exact ⟨rfl, T2.out⟩
    | true =>
      obtain ⟨⟨hu00, hu01, hu02⟩, _⟩ := (H_bx0.out.below B2.out)
      obtain ⟨⟨hu10, hu11, hu12⟩, _⟩ := H_bx1.out
      by_cases hn : n0 = n1
      ·
        have HM := Aside0.mk (show m0 ≠ m1 from fun h => hne ⟨rfl, hn, h⟩)
        have HN := Aside0.mk hn
        clear hne hn
        obtain ⟨zc, hzc⟩ : ∃ z, z = cmpZ m0 m1 := ⟨_, rfl⟩
        have hzb : (zc == 0) = false := by rw [beq_eq_false_iff_ne, hzc]; exact cmpZ_neS HM.out
        have HZC := Aside0.mk hzc
        clear hzc
        have HC : Aside0 (Calls Tryz.prog 39 #[(.slice Aa0 La0 ca0), (.slice Aa1 La1 ca1)] ((w.alloc (.cells #[.bool true, .slice Aa0 La0 ca0, .slice Ab0 Lb0 cb0] 24)).alloc (.cells #[.bool true, .slice Aa1 La1 ca1, .slice Ab1 Lb1 cb1] 24)) (IntPost ((w.alloc (.cells #[.bool true, .slice Aa0 La0 ca0, .slice Ab0 Lb0 cb0] 24)).alloc (.cells #[.bool true, .slice Aa1 La1 ca1, .slice Ab1 Lb1 cb1] 24)) 0)) := ⟨by have h := rcmpN ((H_N0.out.below B1.out).below B2.out) ((H_N1.out.below B1.out).below B2.out) (pw_lt1000 X_N0.out (by omega)) (pw_lt1000 X_N1.out (by omega)); rw [cmpZ_eq HN.out] at h; exact h⟩
        go_wp2_with fail
        refine HC.out.mono ?_
        clear HC
        rintro e w3 ⟨rfl, hB⟩
        have B3 := Aside0.mk hB
        have T3 := Aside0.mk (T2.out.trans (hB.mono T2.out.size))
        clear hB
        clear hu00 hu01 hu02 hu10 hu11 hu12
        obtain ⟨⟨hu00, hu01, hu02⟩, _⟩ := ((H_bx0.out.below B2.out).below B3.out)
        obtain ⟨⟨hu10, hu11, hu12⟩, _⟩ := (H_bx1.out.below B3.out)
        have HC : Aside0 (Calls Tryz.prog 39 #[(.slice Ab0 Lb0 cb0), (.slice Ab1 Lb1 cb1)] w3 (IntPost w3 zc)) := ⟨by have h := rcmpN (((H_D0.out.below B1.out).below B2.out).below B3.out) (((H_D1.out.below B1.out).below B2.out).below B3.out) (pw_lt1000 X_D0.out (by omega)) (pw_lt1000 X_D1.out (by omega)); rw [← HZC.out] at h; exact h⟩
        go_wp2_with fail
        refine HC.out.mono ?_
        clear HC
        rintro e w4 ⟨rfl, hB⟩
        have B4 := Aside0.mk hB
        have T4 := Aside0.mk (T3.out.trans (hB.mono T3.out.size))
        clear hB
        go_wp2_with fail
        go_ret
        exact ⟨rfl, T4.out⟩
      ·
        have HN := Aside0.mk hn
        clear hne hn
        obtain ⟨zc, hzc⟩ : ∃ z, z = cmpZ n0 n1 := ⟨_, rfl⟩
        have hzb : (zc == 0) = false := by rw [beq_eq_false_iff_ne, hzc]; exact cmpZ_neS HN.out
        have HZC := Aside0.mk hzc
        clear hzc
        have HC : Aside0 (Calls Tryz.prog 39 #[(.slice Aa0 La0 ca0), (.slice Aa1 La1 ca1)] ((w.alloc (.cells #[.bool true, .slice Aa0 La0 ca0, .slice Ab0 Lb0 cb0] 24)).alloc (.cells #[.bool true, .slice Aa1 La1 ca1, .slice Ab1 Lb1 cb1] 24)) (IntPost ((w.alloc (.cells #[.bool true, .slice Aa0 La0 ca0, .slice Ab0 Lb0 cb0] 24)).alloc (.cells #[.bool true, .slice Aa1 La1 ca1, .slice Ab1 Lb1 cb1] 24)) zc)) := ⟨by have h := rcmpN ((H_N0.out.below B1.out).below B2.out) ((H_N1.out.below B1.out).below B2.out) (pw_lt1000 X_N0.out (by omega)) (pw_lt1000 X_N1.out (by omega)); rw [← HZC.out] at h; exact h⟩
        go_wp2_with fail
        refine HC.out.mono ?_
        clear HC
        rintro e w3 ⟨rfl, hB⟩
        have B3 := Aside0.mk hB
        have T3 := Aside0.mk (T2.out.trans (hB.mono T2.out.size))
        clear hB
        go_wp2_with fail
        go_ret
        exact ⟨rfl, T3.out⟩
theorem ssubR {w : World} {v0 v1 : Value} {x y : Rat} (hx : Ra w v0 x) (hy : Ra w v1 y) (hbx : Rb 200 x) (hby : Rb 200 y) : Calls Tryz.prog 22 #[v0, v1] w (RaPost w (x - y)) :=
  ssubR0 hx hy hbx hby (fun W u0 u1 a b h0 h1 h2 h3 => saddR h0 h1 h2 h3)
theorem ssameX {w : World} {v0 v1 : Value} {x y : Rat} (hx : Ra w v0 x) (hy : Ra w v1 y) (hbx : Rb 200 x) (hby : Rb 200 y) : Calls Tryz.prog 12 #[v0, v1] w (BoolPost w (decide (x = y))) := by
  by_cases h : x = y
  · rw [decide_eq_true h]
    subst h
    exact ssame_w hx hy (pw_lt1000 hbx.1 (by omega)) (pw_lt1000 hbx.2 (by omega))
  · rw [decide_eq_false h]
    exact ssameB hx hy hbx hby h
end Go.Proofs.YtklhpobphloehaaGreatDoor.G
/- The law's small numbers; a quotient by its parts; two blocks made in either order. -/
set_option linter.unusedVariables false
namespace Go.Proofs.YtklhpobphloehaaGreatDoor.G
open Go.RowKit Go.Proofs.YtklhpobphloehaaGreatDoorW.PrintWords Go.Proofs.YtklhpobphloehaaGreatDoorW.PrintLast Go.Proofs.YtklhpobphloehaaGreatDoor.Nn

theorem of_over {n d : Int} (hd : d ≠ 0) : mkRat (sg (decide (n < 0) != decide (d < 0)) n.natAbs) d.natAbs = (n : Rat) / (d : Rat) := by
  have hd' : (d : Rat) ≠ 0 := by intro h; exact hd (by exact_mod_cast h)
  have h := quo_eq (x := (n : Rat)) hd'
  rw [h]
  show _ = mkRat (sg (decide (n < 0) != decide (d < 0)) (n.natAbs * 1)) (1 * d.natAbs)
  rw [Nat.mul_one, Nat.one_mul]
theorem of_rat {w : World} {n d : Int} {x : Rat} (hd : d ≠ 0) (hx : x = (n : Rat) / (d : Rat)) {e : Ending} {w' : World} (h : OfPost w n d e w') : RaPostE w x 0 e w' := by
  unfold OfPost at h
  rw [if_neg hd] at h
  exact low_ratE (by omega) (hx.trans (of_over hd).symm) h
/-- What the law's Small makes of a number. -/
def smallQ (n : Int) : Rat := mkRat (sg (decide (n % 41 - 20 < 0) != decide (1 + wrap64 (n.tdiv 41) % 5 < 0)) (n % 41 - 20).natAbs) (1 + wrap64 (n.tdiv 41) % 5).natAbs
theorem smallQ_bnd (n : Int) : Rb 3 (smallQ n) := by
  have h1 := Int.emod_nonneg n (show (41 : Int) ≠ 0 by decide)
  have h2 := Int.emod_lt_of_pos n (show (0 : Int) < 41 by decide)
  have h3 := Int.emod_nonneg (wrap64 (n.tdiv 41)) (show (5 : Int) ≠ 0 by decide)
  have h4 := Int.emod_lt_of_pos (wrap64 (n.tdiv 41)) (show (0 : Int) < 5 by decide)
  have hp : pw 3 = 79228162514264337593543950336 := rfl
  unfold smallQ
  refine mk_bnd (by rw [sg_abs]; omega) (by omega) (by omega)
set_option maxHeartbeats 4000000 in
set_option maxRecDepth 100000 in
theorem lsmall_w (n : Int) (w : World) (h0 : -9223372036854775808 ≤ n) (h9 : n ≤ 9223372036854775807) : Calls Tryz.prog 7 #[.int .i64 n] w (RaPost w (smallQ n)) := by
  have e1 := Int.emod_nonneg n (show (41 : Int) ≠ 0 by decide)
  have e2 := Int.emod_lt_of_pos n (show (0 : Int) < 41 by decide)
  have e3 := Int.emod_nonneg (wrap64 (n.tdiv 41)) (show (5 : Int) ≠ 0 by decide)
  have e4 := Int.emod_lt_of_pos (wrap64 (n.tdiv 41)) (show (0 : Int) < 5 by decide)
  obtain ⟨a, ha⟩ : ∃ a, a = n % 41 := ⟨_, rfl⟩
  obtain ⟨b, hb⟩ : ∃ b, b = wrap64 (n.tdiv 41) % 5 := ⟨_, rfl⟩
  have HE := Aside0.mk (show smallQ n = mkRat (sg (decide (a - 20 < 0) != decide (1 + b < 0)) (a - 20).natAbs) (1 + b).natAbs by unfold smallQ; rw [ha, hb])
  have HQ1 : Aside0 (∀ W : World, Calls Tryz.prog 26 #[.int .i64 n, .int .i64 41] W (fun e w' => e = .returned (.int .i64 a) ∧ W = w')) := ⟨fun W => by rw [ha]; exact within2_w n 41 W (by decide) (by decide)⟩
  have HQ2 : Aside0 (∀ W : World, Calls Tryz.prog 26 #[.int .i64 (wrap64 (n.tdiv 41)), .int .i64 5] W (fun e w' => e = .returned (.int .i64 b) ∧ W = w')) := ⟨fun W => by rw [hb]; exact within2_w (wrap64 (n.tdiv 41)) 5 W (by decide) (by decide)⟩
  rw [← ha] at e1 e2
  rw [← hb] at e3 e4
  obtain ⟨q, hq⟩ : ∃ q, q = smallQ n := ⟨_, rfl⟩
  have HOF : Aside0 (∀ W : World, Calls Tryz.prog 33 #[.int .i64 (a - 20), .int .i64 (1 + b)] W (RaPostE W q 0)) := ⟨fun W => (sof_w (a - 20) (1 + b) W (by omega) (by omega) (by omega) (by omega)).mono fun e w' h => by
    unfold OfPost at h
    rw [if_neg (by omega)] at h
    exact low_ratE (by omega) (hq.trans HE.out) h⟩
  rw [← hq]
  have hw1 : IntKind.i64.wrap (a - 20) = a - 20 := by rw [IntKind.wrap_i64]; omega
  have hw2 : IntKind.i64.wrap (1 + b) = 1 + b := by rw [IntKind.wrap_i64]; omega
  have HK := Aside0.mk (Blk_alloc w (.bool false) (.slice none 0 0) (.slice none 0 0) 24)
  have HW := Aside0.mk (below_alloc (Below.refl w.heap.size w) (.cells #[.bool false, .slice none 0 0, .slice none 0 0] 24))
  clear ha hb e1 e2 e3 e4 hq HE h0 h9
  go_enter Tryz.func7, Tryz.ntmps7
  go_wp2_with fail
  refine (HQ1.out _).mono ?_
  rintro e wx ⟨rfl, hw⟩
  subst hw
  go_wp2_with fail
  refine (HQ2.out _).mono ?_
  rintro e wx ⟨rfl, hw⟩
  subst hw
  go_wp2_with fail
  refine (HOF.out _).mono ?_
  rintro e w1 ⟨v, rfl, ⟨A2, L2, c2, A3, L3, c3, rfl, h1, h2⟩, hB⟩
  obtain ⟨g, hg⟩ : ∃ g, g = decide (q.num < 0) := ⟨_, rfl⟩
  obtain ⟨⟨hc0, hc1, hc2⟩, hf0, hf1, hf2⟩ := (HK.out.below hB).below (below_alloc (Below.refl _ _) (.cells #[.bool g, .slice A2 L2 c2, .slice A3 L3 c3] 24))
  have HWB := Aside0.mk (below_alloc (Below.refl w1.heap.size w1) (.cells #[.bool g, .slice A2 L2 c2, .slice A3 L3 c3] 24))
  have HD := Aside0.mk (r3_done (neg := g) HW.out (Nat.le_refl _) HK.out (hB.trans (HWB.out.mono hB.size)) (h1.below HWB.out) (h2.below HWB.out))
  have HG := Aside0.mk hg
  rw [← hg]
  clear hg h1 h2 hB
  go_wp2_with fail
  exact bodyPost_ret (v := .agg #[.bool g, .slice A2 L2 c2, .slice A3 L3 c3]) (by simp [results, Tryz.results7, go_sem, *]) rfl ⟨_, rfl, by unfold Ra; rw [← HG.out]; exact HD.out.1, HD.out.2⟩
/-- A quotient by its parts, the program's and the reference's alike. -/
theorem quo_parts (x y : Rat) (hx : Rb 3 x) (hy : Rb 3 y) : ∃ (B : Bool) (N D : Nat) (k : Int), N < pw 1000 ∧ D < pw 1000 ∧ (∀ W v0 v1, Ra W v0 x → Ra W v1 y → Calls Tryz.prog 9 #[v0, v1] W (R3PostE W B N D k)) ∧ (∀ W v0 v1, Ra W v0 x → Ra W v1 y → Calls Tryz.prog 10 #[v0, v1] W (R3PostE W B N D k)) := by
  by_cases h : y = 0
  · exact ⟨false, 0, 0, 5, pw_pos _, pw_pos _, fun W v0 v1 h0 h1 => qquoR0 h0 h1 (hx.le (by decide)) (hy.le (by decide)) h, fun W v0 v1 h0 h1 => squo0R h0 h1 (hx.le (by decide)) (hy.le (by decide)) h⟩
  · have hb := quo_bnd (c := 6) hx hy h (by decide)
    exact ⟨_, _, _, 0, pw_lt1000 hb.1 (by omega), pw_lt1000 hb.2 (by omega), fun W v0 v1 h0 h1 => qquoR h0 h1 (hx.le (by decide)) (hy.le (by decide)) h, fun W v0 v1 h0 h1 => squoR h0 h1 (hx.le (by decide)) (hy.le (by decide)) h⟩
/-- Two ways through a region that end alike. -/
theorem two_ends {P : Program} {md : Region.Mode} {ops : Array Oper} {Q : Exit → Act → World → Prop} {S : World → Prop} {fuel : Nat} {listed : Array Bool} {a : Act} {w : World} (dp dq : Nat) (R : Nat → Nat → World → Prop)
    (hrest : ∀ p q W, R p q W → Q .normal ((a.put (some dp) (.pointer (some ⟨p, 0, none⟩))).put (some dq) (.pointer (some ⟨q, 0, none⟩))) W)
    (hwalk : Shut (∀ p q W, R p q W → Q .normal ((a.put (some dp) (.pointer (some ⟨p, 0, none⟩))).put (some dq) (.pointer (some ⟨q, 0, none⟩))) W) → wpAnyH P md ops Q S fuel listed a w) : wpAnyH P md ops Q S fuel listed a w := hwalk hrest
end Go.Proofs.YtklhpobphloehaaGreatDoor.G
