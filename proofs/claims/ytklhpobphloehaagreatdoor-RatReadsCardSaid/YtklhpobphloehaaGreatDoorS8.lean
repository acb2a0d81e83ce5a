/- Rational numbers: the reference's functions, the first: the small texts of this part, one behind another. -/
import Derived.Test.YtklhpobphloehaaGreatDoorS6
/- The reference's functions of rational numbers. -/
set_option linter.unusedVariables false
namespace Go.Proofs.YtklhpobphloehaaGreatDoor.G
open Go.RowKit Go.Proofs.YtklhpobphloehaaGreatDoorW.PrintWords Go.Proofs.YtklhpobphloehaaGreatDoorW.PrintLast Go.Proofs.YtklhpobphloehaaGreatDoor.Nn

theorem bx (W : World) (g : Nat) (a b c : Value) (t : TypeId) (hg : W.heap.size = g) : Blk (W.alloc (.cells #[a, b, c] t)) g a b c := by
  subst hg
  exact Blk_alloc W a b c t
theorem done_ra {w w' : World} {v : Value} {b : Bool} {X : Rat} (hb : b = decide (X.num < 0)) (h : R3 w' v b X.num.natAbs X.den ∧ Below w.heap.size w w') : RaPost w X (.returned v) w' := ⟨v, rfl, by unfold Ra; rw [← hb]; exact h.1, h.2⟩
theorem done_raE {w w' : World} {v : Value} {b : Bool} {X : Rat} {k : Int} (hb : b = decide (X.num < 0)) (h : R3 w' v b X.num.natAbs X.den ∧ Below w.heap.size w w') : RaPostE w X k (.returned (.tuple #[v, .int .i64 k])) w' := ⟨v, rfl, by unfold Ra; rw [← hb]; exact h.1, h.2⟩
theorem smakeX {w : World} (neg : Bool) {vn vd : Value} {n d : Nat} {X : Rat} (hn : Nu w vn n) (hd : Nu w vd d) (bn : n < pw 500) (bd : d < pw 500) (hd0 : d ≠ 0) (hX : X = mkRat (sg neg n) d) : Calls Tryz.prog 32 #[.bool neg, vn, vd] w (RaPostE w X 0) :=
  (smake_w neg hn hd bn bd hd0).mono fun _ _ h => low_ratE hd0 hX h
set_option maxHeartbeats 8000000 in
set_option maxRecDepth 100000 in
theorem smadeX {w : World} (neg : Bool) {vn vd : Value} {n d : Nat} {X : Rat} (hn : Nu w vn n) (hd : Nu w vd d) (bn : n < pw 500) (bd : d < pw 500) (hd0 : d ≠ 0) (hX : X = mkRat (sg neg n) d) : Calls Tryz.prog 37 #[.bool neg, vn, vd] w (RaPost w X) := by
  have H_n := Aside0.mk hn
  have H_d := Aside0.mk hd
  have HQ := Aside0.mk (And.intro bn (And.intro bd (And.intro hd0 hX)))
  clear hn hd bn bd hd0 hX
  go_enter Tryz.func37, Tryz.ntmps37
  have B1 := Aside0.mk (below_alloc (Below.refl w.heap.size w) (.cells #[.bool false, .slice none 0 0, .slice none 0 0] 24))
  have T1 := Aside0.mk (B1.out.mono (Nat.le_refl _))
  have H_res := Aside0.mk (bx w (w.heap.size) (.bool false) (.slice none 0 0) (.slice none 0 0) 24 (by simp))
  have TR := Aside0.mk T1.out
  have HC : Aside0 (Calls Tryz.prog 32 #[.bool (neg), vn, vd] (w.alloc (.cells #[.bool false, .slice none 0 0, .slice none 0 0] 24)) (RaPostE (w.alloc (.cells #[.bool false, .slice none 0 0, .slice none 0 0] 24)) (X) 0)) := ⟨smakeX (neg) (H_n.out.below B1.out) (H_d.out.below B1.out) (HQ.out.1) (HQ.out.2.1) (HQ.out.2.2.1) (HQ.out.2.2.2)⟩
  go_wp2_with fail
  refine HC.out.mono ?_
  clear HC
  rintro e w2 ⟨v_q, rfl, ⟨A_q, M_q, c_q, B_q, K_q, d_q, rfl, hNA, hNB⟩, hB⟩
  have B2 := Aside0.mk hB
  have T2 := Aside0.mk (T1.out.trans (hB.mono T1.out.size))
  obtain ⟨b_q, hb_q⟩ : ∃ b, b = decide (Rat.num (X) < 0) := ⟨_, rfl⟩
  try rw [← hb_q]
  have E_q := Aside0.mk hb_q
  clear hb_q
  have NA_q := Aside0.mk hNA
  have NB_q := Aside0.mk hNB
  clear hNA hNB hB
  have H_q := Aside0.mk (show Ra w2 (.agg #[.bool b_q, .slice A_q M_q c_q, .slice B_q K_q d_q]) (X) from by unfold Ra; rw [← E_q.out]; exact ⟨_, _, _, _, _, _, rfl, NA_q.out, NB_q.out⟩)
  have B3 := Aside0.mk (below_alloc (Below.refl w2.heap.size w2) (.cells #[.bool b_q, .slice A_q M_q c_q, .slice B_q K_q d_q] 24))
  have T3 := Aside0.mk (T2.out.trans (B3.out.mono T2.out.size))
  have H_loc := Aside0.mk (bx w2 (w2.heap.size) (.bool b_q) (.slice A_q M_q c_q) (.slice B_q K_q d_q) 24 (by simp))
  have NA_q := Aside0.mk (NA_q.out.below B3.out)
  have NB_q := Aside0.mk (NB_q.out.below B3.out)
  have HD := Aside0.mk (r3_done (neg := b_q) TR.out (by omega) H_res.out (B2.out.trans (B3.out.mono B2.out.size)) NA_q.out NB_q.out)
  obtain ⟨⟨zc0, zc1, zc2⟩, zf0, zf1, zf2⟩ := ((H_res.out.below B2.out).below B3.out)
  obtain ⟨⟨lc0, lc1, lc2⟩, _⟩ := H_loc.out
  go_wp2_with fail
  exact bodyPost_ret (v := .agg #[.bool b_q, .slice A_q M_q c_q, .slice B_q K_q d_q]) (by simp [results, Tryz.results37, go_sem, *]) rfl (done_ra E_q.out HD.out)
set_option maxHeartbeats 8000000 in
set_option maxRecDepth 100000 in
theorem smulR {w : World} {v0 v1 : Value} {x y : Rat} (hx : Ra w v0 x) (hy : Ra w v1 y) (hbx : Rb 200 x) (hby : Rb 200 y) : Calls Tryz.prog 24 #[v0, v1] w (RaPost w (x * y)) := by
  obtain ⟨Aa0, La0, ca0, Ab0, Lb0, cb0, rfl, hn0, hd0⟩ := hx
  obtain ⟨g0, hg0⟩ : ∃ b, b = decide (x.num < 0) := ⟨_, rfl⟩
  have EG0 := Aside0.mk hg0
  rw [← hg0]
  obtain ⟨n0, hnn0⟩ : ∃ n, n = x.num.natAbs := ⟨_, rfl⟩
  obtain ⟨m0, hmm0⟩ : ∃ n, n = x.den := ⟨_, rfl⟩
  rw [← hnn0] at hn0
  rw [← hmm0] at hd0
  have EN0 := Aside0.mk hnn0
  have EM0 := Aside0.mk hmm0
  have H_N0 := Aside0.mk hn0
  have H_D0 := Aside0.mk hd0
  have BB0 := Aside0.mk hbx
  have X_N0 := Aside0.mk (show n0 < pw 200 by rw [hnn0]; exact BB0.out.1)
  have X_D0 := Aside0.mk (show m0 < pw 200 by rw [hmm0]; exact BB0.out.2)
  have M00 := Aside0.mk (show m0 ≠ 0 by rw [hmm0]; exact x.den_nz)
  clear hg0 hnn0 hmm0 hn0 hd0
  obtain ⟨Aa1, La1, ca1, Ab1, Lb1, cb1, rfl, hn1, hd1⟩ := hy
  obtain ⟨g1, hg1⟩ : ∃ b, b = decide (y.num < 0) := ⟨_, rfl⟩
  have EG1 := Aside0.mk hg1
  rw [← hg1]
  obtain ⟨n1, hnn1⟩ : ∃ n, n = y.num.natAbs := ⟨_, rfl⟩
  obtain ⟨m1, hmm1⟩ : ∃ n, n = y.den := ⟨_, rfl⟩
  rw [← hnn1] at hn1
  rw [← hmm1] at hd1
  have EN1 := Aside0.mk hnn1
  have EM1 := Aside0.mk hmm1
  have H_N1 := Aside0.mk hn1
  have H_D1 := Aside0.mk hd1
  have BB1 := Aside0.mk hby
  have X_N1 := Aside0.mk (show n1 < pw 200 by rw [hnn1]; exact BB1.out.1)
  have X_D1 := Aside0.mk (show m1 < pw 200 by rw [hmm1]; exact BB1.out.2)
  have M01 := Aside0.mk (show m1 ≠ 0 by rw [hmm1]; exact y.den_nz)
  clear hg1 hnn1 hmm1 hn1 hd1
  go_enter Tryz.func24, Tryz.ntmps24
  have B1 := Aside0.mk (below_alloc (Below.refl w.heap.size w) (.cells #[.bool g0, .slice Aa0 La0 ca0, .slice Ab0 Lb0 cb0] 24))
  have T1 := Aside0.mk (B1.out.mono (Nat.le_refl _))
  have H_bx0 := Aside0.mk (bx w (w.heap.size) (.bool g0) (.slice Aa0 La0 ca0) (.slice Ab0 Lb0 cb0) 24 (by simp))
  have B2 := Aside0.mk (below_alloc (Below.refl (w.alloc (.cells #[.bool g0, .slice Aa0 La0 ca0, .slice Ab0 Lb0 cb0] 24)).heap.size (w.alloc (.cells #[.bool g0, .slice Aa0 La0 ca0, .slice Ab0 Lb0 cb0] 24))) (.cells #[.bool g1, .slice Aa1 La1 ca1, .slice Ab1 Lb1 cb1] 24))
  have T2 := Aside0.mk (T1.out.trans (B2.out.mono T1.out.size))
  have H_bx1 := Aside0.mk (bx (w.alloc (.cells #[.bool g0, .slice Aa0 La0 ca0, .slice Ab0 Lb0 cb0] 24)) (w.heap.size + 1) (.bool g1) (.slice Aa1 La1 ca1) (.slice Ab1 Lb1 cb1) 24 (by simp))
  have B3 := Aside0.mk (below_alloc (Below.refl ((w.alloc (.cells #[.bool g0, .slice Aa0 La0 ca0, .slice Ab0 Lb0 cb0] 24)).alloc (.cells #[.bool g1, .slice Aa1 La1 ca1, .slice Ab1 Lb1 cb1] 24)).heap.size ((w.alloc (.cells #[.bool g0, .slice Aa0 La0 ca0, .slice Ab0 Lb0 cb0] 24)).alloc (.cells #[.bool g1, .slice Aa1 La1 ca1, .slice Ab1 Lb1 cb1] 24))) (.cells #[.bool false, .slice none 0 0, .slice none 0 0] 24))
  have T3 := Aside0.mk (T2.out.trans (B3.out.mono T2.out.size))
  have H_res := Aside0.mk (bx ((w.alloc (.cells #[.bool g0, .slice Aa0 La0 ca0, .slice Ab0 Lb0 cb0] 24)).alloc (.cells #[.bool g1, .slice Aa1 La1 ca1, .slice Ab1 Lb1 cb1] 24)) (w.heap.size + 2) (.bool false) (.slice none 0 0) (.slice none 0 0) 24 (by simp))
  have TR := Aside0.mk T3.out
  have HNE0 := Aside0.mk (show w.heap.size + 2 ≠ w.heap.size by omega)
  have HNE1 := Aside0.mk (show w.heap.size + 2 ≠ w.heap.size + 1 by omega)
  go_wp2_with fail
  have B4 := Aside0.mk (Below.drew (Below.refl (((w.alloc (.cells #[.bool g0, .slice Aa0 La0 ca0, .slice Ab0 Lb0 cb0] 24)).alloc (.cells #[.bool g1, .slice Aa1 La1 ca1, .slice Ab1 Lb1 cb1] 24)).alloc (.cells #[.bool false, .slice none 0 0, .slice none 0 0] 24)).heap.size (((w.alloc (.cells #[.bool g0, .slice Aa0 La0 ca0, .slice Ab0 Lb0 cb0] 24)).alloc (.cells #[.bool g1, .slice Aa1 La1 ca1, .slice Ab1 Lb1 cb1] 24)).alloc (.cells #[.bool false, .slice none 0 0, .slice none 0 0] 24))))
  have T4 := Aside0.mk (T3.out.trans (B4.out.mono T3.out.size))
  have HS4 := Aside0.mk (fun (W : World) (hW : Below ((((w.alloc (.cells #[.bool g0, .slice Aa0 La0 ca0, .slice Ab0 Lb0 cb0] 24)).alloc (.cells #[.bool g1, .slice Aa1 La1 ca1, .slice Ab1 Lb1 cb1] 24)).alloc (.cells #[.bool false, .slice none 0 0, .slice none 0 0] 24)).drew).heap.size ((((w.alloc (.cells #[.bool g0, .slice Aa0 La0 ca0, .slice Ab0 Lb0 cb0] 24)).alloc (.cells #[.bool g1, .slice Aa1 La1 ca1, .slice Ab1 Lb1 cb1] 24)).alloc (.cells #[.bool false, .slice none 0 0, .slice none 0 0] 24)).drew) W) => show W.cell? ⟨w.heap.size, 0, none⟩ = some (.bool g0) ∧ W.cell? ⟨w.heap.size, 1, none⟩ = some (.slice Aa0 La0 ca0) ∧ W.cell? ⟨w.heap.size, 2, none⟩ = some (.slice Ab0 Lb0 cb0) ∧ W.cell? ⟨w.heap.size + 1, 0, none⟩ = some (.bool g1) ∧ W.cell? ⟨w.heap.size + 1, 1, none⟩ = some (.slice Aa1 La1 ca1) ∧ W.cell? ⟨w.heap.size + 1, 2, none⟩ = some (.slice Ab1 Lb1 cb1) from ⟨((((H_bx0.out.below B2.out).below B3.out).below B4.out).below hW).1.1, ((((H_bx0.out.below B2.out).below B3.out).below B4.out).below hW).1.2.1, ((((H_bx0.out.below B2.out).below B3.out).below B4.out).below hW).1.2.2, (((H_bx1.out.below B3.out).below B4.out).below hW).1.1, (((H_bx1.out.below B3.out).below B4.out).below hW).1.2.1, (((H_bx1.out.below B3.out).below B4.out).below hW).1.2.2⟩)
  have U4 := Aside0.mk (Below.refl ((((w.alloc (.cells #[.bool g0, .slice Aa0 La0 ca0, .slice Ab0 Lb0 cb0] 24)).alloc (.cells #[.bool g1, .slice Aa1 La1 ca1, .slice Ab1 Lb1 cb1] 24)).alloc (.cells #[.bool false, .slice none 0 0, .slice none 0 0] 24)).drew).heap.size ((((w.alloc (.cells #[.bool g0, .slice Aa0 La0 ca0, .slice Ab0 Lb0 cb0] 24)).alloc (.cells #[.bool g1, .slice Aa1 La1 ca1, .slice Ab1 Lb1 cb1] 24)).alloc (.cells #[.bool false, .slice none 0 0, .slice none 0 0] 24)).drew))
  refine wp_region_held_drew (S := fun W => W.cell? ⟨w.heap.size, 0, none⟩ = some (.bool g0) ∧ W.cell? ⟨w.heap.size, 1, none⟩ = some (.slice Aa0 La0 ca0) ∧ W.cell? ⟨w.heap.size, 2, none⟩ = some (.slice Ab0 Lb0 cb0) ∧ W.cell? ⟨w.heap.size + 1, 0, none⟩ = some (.bool g1) ∧ W.cell? ⟨w.heap.size + 1, 1, none⟩ = some (.slice Aa1 La1 ca1) ∧ W.cell? ⟨w.heap.size + 1, 2, none⟩ = some (.slice Ab1 Lb1 cb1)) (by kernel_rfl) (HS4.out _ (Below.refl _ _)) (fun hHeld => ?_)
  refine Inv.takeL (i := 0) (v := ?v4_0) rfl (by kernel_rfl) (by kernel_rfl) (by kernel_rfl) (fun _ _ _ h => h) (by rfl) ?hy4_0 (by assumption) ?rest4_0
  case hy4_0 => ((intro w hSw; (try dsimp only at hSw); go_simp) <;> with_reducible rfl)
  try simp only [Act.put, List.setIfInBounds_toArray, List.set_cons_zero, List.set_cons_succ]
  refine Inv.takeL (i := 1) (v := ?v4_1) rfl (by kernel_rfl) (by kernel_rfl) (by kernel_rfl) (fun _ _ _ h => h) (by rfl) ?hy4_1 (by assumption) ?rest4_1
  case hy4_1 => ((intro w hSw; (try dsimp only at hSw); go_simp) <;> with_reducible rfl)
  try simp only [Act.put, List.setIfInBounds_toArray, List.set_cons_zero, List.set_cons_succ]
  refine Inv.takeL (i := 2) (v := ?v4_2) rfl (by kernel_rfl) (by kernel_rfl) (by kernel_rfl) (fun _ _ _ h => h) (by rfl) ?hy4_2 (by assumption) ?rest4_2
  case hy4_2 => ((intro w hSw; (try dsimp only at hSw); go_simp) <;> with_reducible rfl)
  try simp only [Act.put, List.setIfInBounds_toArray, List.set_cons_zero, List.set_cons_succ]
  refine Inv.takeL (i := 3) (v := ?v4_3) rfl (by kernel_rfl) (by kernel_rfl) (by kernel_rfl) (fun _ _ _ h => h) (by rfl) ?hy4_3 (by assumption) ?rest4_3
  case hy4_3 => ((intro w hSw; (try dsimp only at hSw); go_simp) <;> with_reducible rfl)
  try simp only [Act.put, List.setIfInBounds_toArray, List.set_cons_zero, List.set_cons_succ]
  refine Inv.takeL (i := 4) (v := ?v4_4) rfl (by kernel_rfl) (by kernel_rfl) (by kernel_rfl) (fun _ _ _ h => h) (by rfl) ?hy4_4 (by assumption) ?rest4_4
  case hy4_4 => ((intro w hSw; (try dsimp only at hSw); go_simp) <;> with_reducible rfl)
  try simp only [Act.put, List.setIfInBounds_toArray, List.set_cons_zero, List.set_cons_succ]
  refine Inv.takeL (i := 5) (v := ?v4_5) rfl (by kernel_rfl) (by kernel_rfl) (by kernel_rfl) (fun _ _ _ h => h) (by rfl) ?hy4_5 (by assumption) ?rest4_5
  case hy4_5 => ((intro w hSw; (try dsimp only at hSw); go_simp) <;> with_reducible rfl)
  try simp only [Act.put, List.setIfInBounds_toArray, List.set_cons_zero, List.set_cons_succ]
  refine Inv.takeL (i := 6) (v := ?v4_6) rfl (by kernel_rfl) (by kernel_rfl) (by kernel_rfl) (fun _ _ _ h => h) (by rfl) ?hy4_6 (by assumption) ?rest4_6
  case hy4_6 => ((intro w hSw; (try dsimp only at hSw); go_simp) <;> with_reducible rfl)
  try simp only [Act.put, List.setIfInBounds_toArray, List.set_cons_zero, List.set_cons_succ]
  refine Inv.takeL (i := 7) (v := ?v4_7) rfl (by kernel_rfl) (by kernel_rfl) (by kernel_rfl) (fun _ _ _ h => h) (by rfl) ?hy4_7 (by assumption) ?rest4_7
  case hy4_7 => ((intro w hSw; (try dsimp only at hSw); go_simp) <;> with_reducible rfl)
  try simp only [Act.put, List.setIfInBounds_toArray, List.set_cons_zero, List.set_cons_succ]
  refine Inv.takeL (i := 8) (v := ?v4_8) rfl (by kernel_rfl) (by kernel_rfl) (by kernel_rfl) (fun _ _ _ h => h) (by rfl) ?hy4_8 (by assumption) ?rest4_8
  case hy4_8 => ((intro w hSw; (try dsimp only at hSw); go_simp) <;> with_reducible rfl)
  try simp only [Act.put, List.setIfInBounds_toArray, List.set_cons_zero, List.set_cons_succ]
  refine Inv.takeL (i := 10) (v := ?v4_10) rfl (by kernel_rfl) (by kernel_rfl) (by kernel_rfl) (fun _ _ _ h => h) (by rfl) ?hy4_10 (by assumption) ?rest4_10
  case hy4_10 => ((intro w hSw; (try dsimp only at hSw); go_simp) <;> with_reducible rfl)
  try simp only [Act.put, List.setIfInBounds_toArray, List.set_cons_zero, List.set_cons_succ]
  refine Inv.takeL (i := 11) (v := ?v4_11) rfl (by kernel_rfl) (by kernel_rfl) (by kernel_rfl) (fun _ _ _ h => h) (by rfl) ?hy4_11 (by assumption) ?rest4_11
  case hy4_11 => ((intro w hSw; (try dsimp only at hSw); go_simp) <;> with_reducible rfl)
  try simp only [Act.put, List.setIfInBounds_toArray, List.set_cons_zero, List.set_cons_succ]
  refine Inv.takeL (i := 12) (v := ?v4_12) rfl (by kernel_rfl) (by kernel_rfl) (by kernel_rfl) (fun _ _ _ h => h) (by rfl) ?hy4_12 (by assumption) ?rest4_12
  case hy4_12 => ((intro w hSw; (try dsimp only at hSw); go_simp) <;> with_reducible rfl)
  try simp only [Act.put, List.setIfInBounds_toArray, List.set_cons_zero, List.set_cons_succ]
  refine Inv.takeL (i := 13) (v := ?v4_13) rfl (by kernel_rfl) (by kernel_rfl) (by kernel_rfl) (fun _ _ _ h => h) (by rfl) ?hy4_13 (by assumption) ?rest4_13
  case hy4_13 => ((intro w hSw; (try dsimp only at hSw); go_simp) <;> with_reducible rfl)
  try simp only [Act.put, List.setIfInBounds_toArray, List.set_cons_zero, List.set_cons_succ]
  have HC : Aside0 (Calls Tryz.prog 38 #[(.slice Aa0 La0 ca0), (.slice Aa1 La1 ca1)] ((((w.alloc (.cells #[.bool g0, .slice Aa0 La0 ca0, .slice Ab0 Lb0 cb0] 24)).alloc (.cells #[.bool g1, .slice Aa1 La1 ca1, .slice Ab1 Lb1 cb1] 24)).alloc (.cells #[.bool false, .slice none 0 0, .slice none 0 0] 24)).drew) (NuPost ((((w.alloc (.cells #[.bool g0, .slice Aa0 La0 ca0, .slice Ab0 Lb0 cb0] 24)).alloc (.cells #[.bool g1, .slice Aa1 La1 ca1, .slice Ab1 Lb1 cb1] 24)).alloc (.cells #[.bool false, .slice none 0 0, .slice none 0 0] 24)).drew) (n0 * n1))) := ⟨rmulN ((((H_N0.out.below B1.out).below B2.out).below B3.out).below B4.out) ((((H_N1.out.below B1.out).below B2.out).below B3.out).below B4.out) (pw_lt1000 X_N0.out (by omega)) (pw_lt1000 X_N1.out (by omega))⟩
  refine Inv.oneL (i := 9) rfl (by kernel_rfl) (fun K hK => ?_)
  go_simp
  refine HC.out.mono ?_
  clear HC
  rintro e w5 ⟨v_nn, rfl, hN, hB⟩
  try go_wp2_with fail
  have B5 := Aside0.mk hB
  have T5 := Aside0.mk (T4.out.trans (hB.mono T4.out.size))
  have H_nn := Aside0.mk hN
  have X_nn := Aside0.mk (show n0 * n1 < pw 400 from pw_mulb X_N0.out X_N1.out)
  clear hN hB
  have U5 := Aside0.mk (U4.out.trans (B5.out.mono U4.out.size))
  refine hK.out _ _ (HS4.out _ U5.out) (fun hHeld => ?_)
  clear hK K
  try simp only [Act.put, List.setIfInBounds_toArray, List.set_cons_zero, List.set_cons_succ]
  have HC : Aside0 (Calls Tryz.prog 38 #[(.slice Ab0 Lb0 cb0), (.slice Ab1 Lb1 cb1)] w5 (NuPost w5 (m0 * m1))) := ⟨rmulN (((((H_D0.out.below B1.out).below B2.out).below B3.out).below B4.out).below B5.out) (((((H_D1.out.below B1.out).below B2.out).below B3.out).below B4.out).below B5.out) (pw_lt1000 X_D0.out (by omega)) (pw_lt1000 X_D1.out (by omega))⟩
  refine Inv.oneL (i := 14) rfl (by kernel_rfl) (fun K hK => ?_)
  go_simp
  refine HC.out.mono ?_
  clear HC
  rintro e w6 ⟨v_dd, rfl, hN, hB⟩
  try go_wp2_with fail
  have B6 := Aside0.mk hB
  have T6 := Aside0.mk (T5.out.trans (hB.mono T5.out.size))
  have H_dd := Aside0.mk hN
  have X_dd := Aside0.mk (show m0 * m1 < pw 400 from pw_mulb X_D0.out X_D1.out)
  clear hN hB
  have U6 := Aside0.mk (U5.out.trans (B6.out.mono U5.out.size))
  refine hK.out _ _ (HS4.out _ U6.out) (fun hHeld => ?_)
  clear hK K
  try simp only [Act.put, List.setIfInBounds_toArray, List.set_cons_zero, List.set_cons_succ]
  have HC : Aside0 (Calls Tryz.prog 37 #[.bool (g0 != g1), v_nn, v_dd] w6 (RaPost w6 (x * y))) := ⟨smadeX (g0 != g1) (H_nn.out.below B6.out) H_dd.out (Nat.lt_of_lt_of_le X_nn.out (pw_le (by decide))) (Nat.lt_of_lt_of_le X_dd.out (pw_le (by decide))) (Nat.mul_ne_zero M00.out M01.out) (by rw [Rat.mul_def', EG0.out, EG1.out, EN0.out, EN1.out, EM0.out, EM1.out, sg_mul])⟩
  refine Inv.oneL (i := 15) rfl (by kernel_rfl) (fun K hK => ?_)
  go_simp
  refine HC.out.mono ?_
  clear HC
  rintro e w7 ⟨v_q, rfl, ⟨A_q, M_q, c_q, B_q, K_q, d_q, rfl, hNA, hNB⟩, hB⟩
  try go_wp2_with fail
  have B7 := Aside0.mk hB
  have T7 := Aside0.mk (T6.out.trans (hB.mono T6.out.size))
  obtain ⟨b_q, hb_q⟩ : ∃ b, b = decide (Rat.num (x * y) < 0) := ⟨_, rfl⟩
  try rw [← hb_q]
  have E_q := Aside0.mk hb_q
  clear hb_q
  have NA_q := Aside0.mk hNA
  have NB_q := Aside0.mk hNB
  clear hNA hNB hB
  have H_q := Aside0.mk (show Ra w7 (.agg #[.bool b_q, .slice A_q M_q c_q, .slice B_q K_q d_q]) (x * y) from by unfold Ra; rw [← E_q.out]; exact ⟨_, _, _, _, _, _, rfl, NA_q.out, NB_q.out⟩)
  have U7 := Aside0.mk (U6.out.trans (B7.out.mono U6.out.size))
  refine hK.out _ _ (HS4.out _ U7.out) (fun hHeld => ?_)
  clear hK K
  try simp only [Act.put, List.setIfInBounds_toArray, List.set_cons_zero, List.set_cons_succ]
  have HD := Aside0.mk (r3_done (neg := b_q) TR.out (by omega) H_res.out (((B4.out.trans (B5.out.mono B4.out.size)).trans (B6.out.mono (B4.out.trans (B5.out.mono B4.out.size)).size)).trans (B7.out.mono ((B4.out.trans (B5.out.mono B4.out.size)).trans (B6.out.mono (B4.out.trans (B5.out.mono B4.out.size)).size)).size)) NA_q.out NB_q.out)
  obtain ⟨⟨zc0, zc1, zc2⟩, zf0, zf1, zf2⟩ := ((((H_res.out.below B4.out).below B5.out).below B6.out).below B7.out)
  have HKK := Aside0.mk (HS4.out _ U7.out)
  refine Inv.oneL (i := 16) rfl (by kernel_rfl) (fun K hK => ?_)
  go_simp
  refine hK.out _ _ (by obtain ⟨k0, k1, k2, k3, k4, k5⟩ := HKK.out; exact ⟨cell_far3 HNE0.out k0, cell_far3 HNE0.out k1, cell_far3 HNE0.out k2, cell_far3 HNE1.out k3, cell_far3 HNE1.out k4, cell_far3 HNE1.out k5⟩) (fun hHeld => ?_)
  clear hK K
  try simp only [Act.put, List.setIfInBounds_toArray, List.set_cons_zero, List.set_cons_succ]
  refine wpAnyH_done (by kernel_rfl) ?_ _
  go_wp2_with fail
  exact bodyPost_ret (v := .agg #[.bool b_q, .slice A_q M_q c_q, .slice B_q K_q d_q]) (by simp [results, Tryz.results24, go_sem, *]) rfl (done_ra E_q.out HD.out)
set_option maxHeartbeats 8000000 in
set_option maxRecDepth 100000 in
theorem squoR {w : World} {v0 v1 : Value} {x y : Rat} (hx : Ra w v0 x) (hy : Ra w v1 y) (hbx : Rb 200 x) (hby : Rb 200 y) (h0 : y ≠ 0) : Calls Tryz.prog 10 #[v0, v1] w (RaPostE w (x / y) 0) := by
  obtain ⟨Aa0, La0, ca0, Ab0, Lb0, cb0, rfl, hn0, hd0⟩ := hx
  obtain ⟨g0, hg0⟩ : ∃ b, b = decide (x.num < 0) := ⟨_, rfl⟩
  have EG0 := Aside0.mk hg0
  rw [← hg0]
  obtain ⟨n0, hnn0⟩ : ∃ n, n = x.num.natAbs := ⟨_, rfl⟩
  obtain ⟨m0, hmm0⟩ : ∃ n, n = x.den := ⟨_, rfl⟩
  rw [← hnn0] at hn0
  rw [← hmm0] at hd0
  have EN0 := Aside0.mk hnn0
  have EM0 := Aside0.mk hmm0
  have H_N0 := Aside0.mk hn0
  have H_D0 := Aside0.mk hd0
  have BB0 := Aside0.mk hbx
  have X_N0 := Aside0.mk (show n0 < pw 200 by rw [hnn0]; exact BB0.out.1)
  have X_D0 := Aside0.mk (show m0 < pw 200 by rw [hmm0]; exact BB0.out.2)
  have M00 := Aside0.mk (show m0 ≠ 0 by rw [hmm0]; exact x.den_nz)
  clear hg0 hnn0 hmm0 hn0 hd0
  obtain ⟨Aa1, La1, ca1, Ab1, Lb1, cb1, rfl, hn1, hd1⟩ := hy
  obtain ⟨g1, hg1⟩ : ∃ b, b = decide (y.num < 0) := ⟨_, rfl⟩
  have EG1 := Aside0.mk hg1
  rw [← hg1]
  obtain ⟨n1, hnn1⟩ : ∃ n, n = y.num.natAbs := ⟨_, rfl⟩
  obtain ⟨m1, hmm1⟩ : ∃ n, n = y.den := ⟨_, rfl⟩
  rw [← hnn1] at hn1
  rw [← hmm1] at hd1
  have EN1 := Aside0.mk hnn1
  have EM1 := Aside0.mk hmm1
  have H_N1 := Aside0.mk hn1
  have H_D1 := Aside0.mk hd1
  have BB1 := Aside0.mk hby
  have X_N1 := Aside0.mk (show n1 < pw 200 by rw [hnn1]; exact BB1.out.1)
  have X_D1 := Aside0.mk (show m1 < pw 200 by rw [hmm1]; exact BB1.out.2)
  have M01 := Aside0.mk (show m1 ≠ 0 by rw [hmm1]; exact y.den_nz)
  clear hg1 hnn1 hmm1 hn1 hd1
  have HY0 := Aside0.mk h0
  have N01 := Aside0.mk (show n1 ≠ 0 by rw [EN1.out]; exact fun h => h0 (Rat.num_eq_zero.1 (by omega)))
  have hl := Nu_len0 H_N1.out
  have hLp : 0 < La1 := Nat.pos_of_ne_zero fun h => N01.out (hl.1 h)
  have hb1 : ((La1 : Int) == 0) = false := by rw [beq_eq_false_iff_ne]; omega
  have hb2 : (La1 == 0) = false := by rw [beq_eq_false_iff_ne]; omega
  clear h0 hl
  go_enter Tryz.func10, Tryz.ntmps10
  have B1 := Aside0.mk (below_alloc (Below.refl w.heap.size w) (.cells #[.bool g0, .slice Aa0 La0 ca0, .slice Ab0 Lb0 cb0] 24))
  have T1 := Aside0.mk (B1.out.mono (Nat.le_refl _))
  have H_bx0 := Aside0.mk (bx w (w.heap.size) (.bool g0) (.slice Aa0 La0 ca0) (.slice Ab0 Lb0 cb0) 24 (by simp))
  have B2 := Aside0.mk (below_alloc (Below.refl (w.alloc (.cells #[.bool g0, .slice Aa0 La0 ca0, .slice Ab0 Lb0 cb0] 24)).heap.size (w.alloc (.cells #[.bool g0, .slice Aa0 La0 ca0, .slice Ab0 Lb0 cb0] 24))) (.cells #[.bool g1, .slice Aa1 La1 ca1, .slice Ab1 Lb1 cb1] 24))
  have T2 := Aside0.mk (T1.out.trans (B2.out.mono T1.out.size))
  have H_bx1 := Aside0.mk (bx (w.alloc (.cells #[.bool g0, .slice Aa0 La0 ca0, .slice Ab0 Lb0 cb0] 24)) (w.heap.size + 1) (.bool g1) (.slice Aa1 La1 ca1) (.slice Ab1 Lb1 cb1) 24 (by simp))
  have B3 := Aside0.mk (below_alloc (Below.refl ((w.alloc (.cells #[.bool g0, .slice Aa0 La0 ca0, .slice Ab0 Lb0 cb0] 24)).alloc (.cells #[.bool g1, .slice Aa1 La1 ca1, .slice Ab1 Lb1 cb1] 24)).heap.size ((w.alloc (.cells #[.bool g0, .slice Aa0 La0 ca0, .slice Ab0 Lb0 cb0] 24)).alloc (.cells #[.bool g1, .slice Aa1 La1 ca1, .slice Ab1 Lb1 cb1] 24))) (.cells #[.bool false, .slice none 0 0, .slice none 0 0] 24))
  have T3 := Aside0.mk (T2.out.trans (B3.out.mono T2.out.size))
  have H_res := Aside0.mk (bx ((w.alloc (.cells #[.bool g0, .slice Aa0 La0 ca0, .slice Ab0 Lb0 cb0] 24)).alloc (.cells #[.bool g1, .slice Aa1 La1 ca1, .slice Ab1 Lb1 cb1] 24)) (w.heap.size + 2) (.bool false) (.slice none 0 0) (.slice none 0 0) 24 (by simp))
  have TR := Aside0.mk T3.out
  have HNE0 := Aside0.mk (show w.heap.size + 2 ≠ w.heap.size by omega)
  have HNE1 := Aside0.mk (show w.heap.size + 2 ≠ w.heap.size + 1 by omega)
  obtain ⟨⟨hu0, hu1, hu2⟩, _⟩ := (H_bx1.out.below B3.out)
  go_wp2_with fail
  have B4 := Aside0.mk (Below.drew (Below.refl (((w.alloc (.cells #[.bool g0, .slice Aa0 La0 ca0, .slice Ab0 Lb0 cb0] 24)).alloc (.cells #[.bool g1, .slice Aa1 La1 ca1, .slice Ab1 Lb1 cb1] 24)).alloc (.cells #[.bool false, .slice none 0 0, .slice none 0 0] 24)).heap.size (((w.alloc (.cells #[.bool g0, .slice Aa0 La0 ca0, .slice Ab0 Lb0 cb0] 24)).alloc (.cells #[.bool g1, .slice Aa1 La1 ca1, .slice Ab1 Lb1 cb1] 24)).alloc (.cells #[.bool false, .slice none 0 0, .slice none 0 0] 24))))
  have T4 := Aside0.mk (T3.out.trans (B4.out.mono T3.out.size))
  have HS4 := Aside0.mk (fun (W : World) (hW : Below ((((w.alloc (.cells #[.bool g0, .slice Aa0 La0 ca0, .slice Ab0 Lb0 cb0] 24)).alloc (.cells #[.bool g1, .slice Aa1 La1 ca1, .slice Ab1 Lb1 cb1] 24)).alloc (.cells #[.bool false, .slice none 0 0, .slice none 0 0] 24)).drew).heap.size ((((w.alloc (.cells #[.bool g0, .slice Aa0 La0 ca0, .slice Ab0 Lb0 cb0] 24)).alloc (.cells #[.bool g1, .slice Aa1 La1 ca1, .slice Ab1 Lb1 cb1] 24)).alloc (.cells #[.bool false, .slice none 0 0, .slice none 0 0] 24)).drew) W) => show W.cell? ⟨w.heap.size, 0, none⟩ = some (.bool g0) ∧ W.cell? ⟨w.heap.size, 1, none⟩ = some (.slice Aa0 La0 ca0) ∧ W.cell? ⟨w.heap.size, 2, none⟩ = some (.slice Ab0 Lb0 cb0) ∧ W.cell? ⟨w.heap.size + 1, 0, none⟩ = some (.bool g1) ∧ W.cell? ⟨w.heap.size + 1, 1, none⟩ = some (.slice Aa1 La1 ca1) ∧ W.cell? ⟨w.heap.size + 1, 2, none⟩ = some (.slice Ab1 Lb1 cb1) from ⟨((((H_bx0.out.below B2.out).below B3.out).below B4.out).below hW).1.1, ((((H_bx0.out.below B2.out).below B3.out).below B4.out).below hW).1.2.1, ((((H_bx0.out.below B2.out).below B3.out).below B4.out).below hW).1.2.2, (((H_bx1.out.below B3.out).below B4.out).below hW).1.1, (((H_bx1.out.below B3.out).below B4.out).below hW).1.2.1, (((H_bx1.out.below B3.out).below B4.out).below hW).1.2.2⟩)
  have U4 := Aside0.mk (Below.refl ((((w.alloc (.cells #[.bool g0, .slice Aa0 La0 ca0, .slice Ab0 Lb0 cb0] 24)).alloc (.cells #[.bool g1, .slice Aa1 La1 ca1, .slice Ab1 Lb1 cb1] 24)).alloc (.cells #[.bool false, .slice none 0 0, .slice none 0 0] 24)).drew).heap.size ((((w.alloc (.cells #[.bool g0, .slice Aa0 La0 ca0, .slice Ab0 Lb0 cb0] 24)).alloc (.cells #[.bool g1, .slice Aa1 La1 ca1, .slice Ab1 Lb1 cb1] 24)).alloc (.cells #[.bool false, .slice none 0 0, .slice none 0 0] 24)).drew))
  refine wp_region_held_drew (S := fun W => W.cell? ⟨w.heap.size, 0, none⟩ = some (.bool g0) ∧ W.cell? ⟨w.heap.size, 1, none⟩ = some (.slice Aa0 La0 ca0) ∧ W.cell? ⟨w.heap.size, 2, none⟩ = some (.slice Ab0 Lb0 cb0) ∧ W.cell? ⟨w.heap.size + 1, 0, none⟩ = some (.bool g1) ∧ W.cell? ⟨w.heap.size + 1, 1, none⟩ = some (.slice Aa1 La1 ca1) ∧ W.cell? ⟨w.heap.size + 1, 2, none⟩ = some (.slice Ab1 Lb1 cb1)) (by kernel_rfl) (HS4.out _ (Below.refl _ _)) (fun hHeld => ?_)
  refine Inv.takeL (i := 0) (v := ?v4_0) rfl (by kernel_rfl) (by kernel_rfl) (by kernel_rfl) (fun _ _ _ h => h) (by rfl) ?hy4_0 (by assumption) ?rest4_0
  case hy4_0 => ((intro w hSw; (try dsimp only at hSw); go_simp) <;> with_reducible rfl)
  try simp only [Act.put, List.setIfInBounds_toArray, List.set_cons_zero, List.set_cons_succ]
  refine Inv.takeL (i := 1) (v := ?v4_1) rfl (by kernel_rfl) (by kernel_rfl) (by kernel_rfl) (fun _ _ _ h => h) (by rfl) ?hy4_1 (by assumption) ?rest4_1
  case hy4_1 => ((intro w hSw; (try dsimp only at hSw); go_simp) <;> with_reducible rfl)
  try simp only [Act.put, List.setIfInBounds_toArray, List.set_cons_zero, List.set_cons_succ]
  refine Inv.takeL (i := 2) (v := ?v4_2) rfl (by kernel_rfl) (by kernel_rfl) (by kernel_rfl) (fun _ _ _ h => h) (by rfl) ?hy4_2 (by assumption) ?rest4_2
  case hy4_2 => ((intro w hSw; (try dsimp only at hSw); go_simp) <;> with_reducible rfl)
  try simp only [Act.put, List.setIfInBounds_toArray, List.set_cons_zero, List.set_cons_succ]
  refine Inv.takeL (i := 3) (v := ?v4_3) rfl (by kernel_rfl) (by kernel_rfl) (by kernel_rfl) (fun _ _ _ h => h) (by rfl) ?hy4_3 (by assumption) ?rest4_3
  case hy4_3 => ((intro w hSw; (try dsimp only at hSw); go_simp) <;> with_reducible rfl)
  try simp only [Act.put, List.setIfInBounds_toArray, List.set_cons_zero, List.set_cons_succ]
  refine Inv.takeL (i := 4) (v := ?v4_4) rfl (by kernel_rfl) (by kernel_rfl) (by kernel_rfl) (fun _ _ _ h => h) (by rfl) ?hy4_4 (by assumption) ?rest4_4
  case hy4_4 => ((intro w hSw; (try dsimp only at hSw); go_simp) <;> with_reducible rfl)
  try simp only [Act.put, List.setIfInBounds_toArray, List.set_cons_zero, List.set_cons_succ]
  refine Inv.takeL (i := 5) (v := ?v4_5) rfl (by kernel_rfl) (by kernel_rfl) (by kernel_rfl) (fun _ _ _ h => h) (by rfl) ?hy4_5 (by assumption) ?rest4_5
  case hy4_5 => ((intro w hSw; (try dsimp only at hSw); go_simp) <;> with_reducible rfl)
  try simp only [Act.put, List.setIfInBounds_toArray, List.set_cons_zero, List.set_cons_succ]
  refine Inv.takeL (i := 6) (v := ?v4_6) rfl (by kernel_rfl) (by kernel_rfl) (by kernel_rfl) (fun _ _ _ h => h) (by rfl) ?hy4_6 (by assumption) ?rest4_6
  case hy4_6 => ((intro w hSw; (try dsimp only at hSw); go_simp) <;> with_reducible rfl)
  try simp only [Act.put, List.setIfInBounds_toArray, List.set_cons_zero, List.set_cons_succ]
  refine Inv.takeL (i := 7) (v := ?v4_7) rfl (by kernel_rfl) (by kernel_rfl) (by kernel_rfl) (fun _ _ _ h => h) (by rfl) ?hy4_7 (by assumption) ?rest4_7
  case hy4_7 => ((intro w hSw; (try dsimp only at hSw); go_simp) <;> with_reducible rfl)
  try simp only [Act.put, List.setIfInBounds_toArray, List.set_cons_zero, List.set_cons_succ]
  refine Inv.takeL (i := 8) (v := ?v4_8) rfl (by kernel_rfl) (by kernel_rfl) (by kernel_rfl) (fun _ _ _ h => h) (by rfl) ?hy4_8 (by assumption) ?rest4_8
  case hy4_8 => ((intro w hSw; (try dsimp only at hSw); go_simp) <;> with_reducible rfl)
  try simp only [Act.put, List.setIfInBounds_toArray, List.set_cons_zero, List.set_cons_succ]
  refine Inv.takeL (i := 10) (v := ?v4_10) rfl (by kernel_rfl) (by kernel_rfl) (by kernel_rfl) (fun _ _ _ h => h) (by rfl) ?hy4_10 (by assumption) ?rest4_10
  case hy4_10 => ((intro w hSw; (try dsimp only at hSw); go_simp) <;> with_reducible rfl)
  try simp only [Act.put, List.setIfInBounds_toArray, List.set_cons_zero, List.set_cons_succ]
  refine Inv.takeL (i := 11) (v := ?v4_11) rfl (by kernel_rfl) (by kernel_rfl) (by kernel_rfl) (fun _ _ _ h => h) (by rfl) ?hy4_11 (by assumption) ?rest4_11
  case hy4_11 => ((intro w hSw; (try dsimp only at hSw); go_simp) <;> with_reducible rfl)
  try simp only [Act.put, List.setIfInBounds_toArray, List.set_cons_zero, List.set_cons_succ]
  refine Inv.takeL (i := 12) (v := ?v4_12) rfl (by kernel_rfl) (by kernel_rfl) (by kernel_rfl) (fun _ _ _ h => h) (by rfl) ?hy4_12 (by assumption) ?rest4_12
  case hy4_12 => ((intro w hSw; (try dsimp only at hSw); go_simp) <;> with_reducible rfl)
  try simp only [Act.put, List.setIfInBounds_toArray, List.set_cons_zero, List.set_cons_succ]
  refine Inv.takeL (i := 13) (v := ?v4_13) rfl (by kernel_rfl) (by kernel_rfl) (by kernel_rfl) (fun _ _ _ h => h) (by rfl) ?hy4_13 (by assumption) ?rest4_13
  case hy4_13 => ((intro w hSw; (try dsimp only at hSw); go_simp) <;> with_reducible rfl)
  try simp only [Act.put, List.setIfInBounds_toArray, List.set_cons_zero, List.set_cons_succ]
  have HC : Aside0 (Calls Tryz.prog 38 #[(.slice Aa0 La0 ca0), (.slice Ab1 Lb1 cb1)] ((((w.alloc (.cells #[.bool g0, .slice Aa0 La0 ca0, .slice Ab0 Lb0 cb0] 24)).alloc (.cells #[.bool g1, .slice Aa1 La1 ca1, .slice Ab1 Lb1 cb1] 24)).alloc (.cells #[.bool false, .slice none 0 0, .slice none 0 0] 24)).drew) (NuPost ((((w.alloc (.cells #[.bool g0, .slice Aa0 La0 ca0, .slice Ab0 Lb0 cb0] 24)).alloc (.cells #[.bool g1, .slice Aa1 La1 ca1, .slice Ab1 Lb1 cb1] 24)).alloc (.cells #[.bool false, .slice none 0 0, .slice none 0 0] 24)).drew) (n0 * m1))) := ⟨rmulN ((((H_N0.out.below B1.out).below B2.out).below B3.out).below B4.out) ((((H_D1.out.below B1.out).below B2.out).below B3.out).below B4.out) (pw_lt1000 X_N0.out (by omega)) (pw_lt1000 X_D1.out (by omega))⟩
  refine Inv.oneL (i := 9) rfl (by kernel_rfl) (fun K hK => ?_)
  go_simp
  refine HC.out.mono ?_
  clear HC
  rintro e w5 ⟨v_nn, rfl, hN, hB⟩
  try go_wp2_with fail
  have B5 := Aside0.mk hB
  have T5 := Aside0.mk (T4.out.trans (hB.mono T4.out.size))
  have H_nn := Aside0.mk hN
  have X_nn := Aside0.mk (show n0 * m1 < pw 400 from pw_mulb X_N0.out X_D1.out)
  clear hN hB
  have U5 := Aside0.mk (U4.out.trans (B5.out.mono U4.out.size))
  refine hK.out _ _ (HS4.out _ U5.out) (fun hHeld => ?_)
  clear hK K
  try simp only [Act.put, List.setIfInBounds_toArray, List.set_cons_zero, List.set_cons_succ]
  have HC : Aside0 (Calls Tryz.prog 38 #[(.slice Ab0 Lb0 cb0), (.slice Aa1 La1 ca1)] w5 (NuPost w5 (m0 * n1))) := ⟨rmulN (((((H_D0.out.below B1.out).below B2.out).below B3.out).below B4.out).below B5.out) (((((H_N1.out.below B1.out).below B2.out).below B3.out).below B4.out).below B5.out) (pw_lt1000 X_D0.out (by omega)) (pw_lt1000 X_N1.out (by omega))⟩
  refine Inv.oneL (i := 14) rfl (by kernel_rfl) (fun K hK => ?_)
  go_simp
  refine HC.out.mono ?_
  clear HC
  rintro e w6 ⟨v_dd, rfl, hN, hB⟩
  try go_wp2_with fail
  have B6 := Aside0.mk hB
  have T6 := Aside0.mk (T5.out.trans (hB.mono T5.out.size))
  have H_dd := Aside0.mk hN
  have X_dd := Aside0.mk (show m0 * n1 < pw 400 from pw_mulb X_D0.out X_N1.out)
  clear hN hB
  have U6 := Aside0.mk (U5.out.trans (B6.out.mono U5.out.size))
  refine hK.out _ _ (HS4.out _ U6.out) (fun hHeld => ?_)
  clear hK K
  try simp only [Act.put, List.setIfInBounds_toArray, List.set_cons_zero, List.set_cons_succ]
  have HC : Aside0 (Calls Tryz.prog 37 #[.bool (g0 != g1), v_nn, v_dd] w6 (RaPost w6 (x / y))) := ⟨smadeX (g0 != g1) (H_nn.out.below B6.out) H_dd.out (Nat.lt_of_lt_of_le X_nn.out (pw_le (by decide))) (Nat.lt_of_lt_of_le X_dd.out (pw_le (by decide))) (Nat.mul_ne_zero M00.out N01.out) (by rw [quo_eq HY0.out, EG0.out, EG1.out, EN0.out, EN1.out, EM0.out, EM1.out])⟩
  refine Inv.oneL (i := 15) rfl (by kernel_rfl) (fun K hK => ?_)
  go_simp
  refine HC.out.mono ?_
  clear HC
  rintro e w7 ⟨v_q, rfl, ⟨A_q, M_q, c_q, B_q, K_q, d_q, rfl, hNA, hNB⟩, hB⟩
  try go_wp2_with fail
  have B7 := Aside0.mk hB
  have T7 := Aside0.mk (T6.out.trans (hB.mono T6.out.size))
  obtain ⟨b_q, hb_q⟩ : ∃ b, b = decide (Rat.num (x / y) < 0) := ⟨_, rfl⟩
  try rw [← hb_q]
  have E_q := Aside0.mk hb_q
  clear hb_q
  have NA_q := Aside0.mk hNA
  have NB_q := Aside0.mk hNB
  clear hNA hNB hB
  have H_q := Aside0.mk (show Ra w7 (.agg #[.bool b_q, .slice A_q M_q c_q, .slice B_q K_q d_q]) (x / y) from by unfold Ra; rw [← E_q.out]; exact ⟨_, _, _, _, _, _, rfl, NA_q.out, NB_q.out⟩)
  have U7 := Aside0.mk (U6.out.trans (B7.out.mono U6.out.size))
  refine hK.out _ _ (HS4.out _ U7.out) (fun hHeld => ?_)
  clear hK K
  try simp only [Act.put, List.setIfInBounds_toArray, List.set_cons_zero, List.set_cons_succ]
  have HD := Aside0.mk (r3_done (neg := b_q) TR.out (by omega) H_res.out (((B4.out.trans (B5.out.mono B4.out.size)).trans (B6.out.mono (B4.out.trans (B5.out.mono B4.out.size)).size)).trans (B7.out.mono ((B4.out.trans (B5.out.mono B4.out.size)).trans (B6.out.mono (B4.out.trans (B5.out.mono B4.out.size)).size)).size)) NA_q.out NB_q.out)
  obtain ⟨⟨zc0, zc1, zc2⟩, zf0, zf1, zf2⟩ := ((((H_res.out.below B4.out).below B5.out).below B6.out).below B7.out)
  have HKK := Aside0.mk (HS4.out _ U7.out)
  refine Inv.oneL (i := 16) rfl (by kernel_rfl) (fun K hK => ?_)
  go_simp
  refine hK.out _ _ (by obtain ⟨k0, k1, k2, k3, k4, k5⟩ := HKK.out; exact ⟨cell_far3 HNE0.out k0, cell_far3 HNE0.out k1, cell_far3 HNE0.out k2, cell_far3 HNE1.out k3, cell_far3 HNE1.out k4, cell_far3 HNE1.out k5⟩) (fun hHeld => ?_)
  clear hK K
  try simp only [Act.put, List.setIfInBounds_toArray, List.set_cons_zero, List.set_cons_succ]
  refine Inv.takeL (i := 17) (v := ?v4_17) rfl (by kernel_rfl) (by kernel_rfl) (by kernel_rfl) (fun _ _ _ h => h) (by rfl) ?hy4_17 (by assumption) ?rest4_17
  case hy4_17 => ((intro w hSw; (try dsimp only at hSw); go_simp) <;> with_reducible rfl)
  try simp only [Act.put, List.setIfInBounds_toArray, List.set_cons_zero, List.set_cons_succ]
  refine wpAnyH_done (by kernel_rfl) ?_ _
  go_wp2_with fail
  exact bodyPost_ret (v := .tuple #[.agg #[.bool b_q, .slice A_q M_q c_q, .slice B_q K_q d_q], .int .i64 0]) (by simp [results, Tryz.results10, go_sem, *]) rfl (done_raE E_q.out HD.out)
set_option maxHeartbeats 8000000 in
set_option maxRecDepth 100000 in
theorem squo0R {w : World} {v0 v1 : Value} {x y : Rat} (hx : Ra w v0 x) (hy : Ra w v1 y) (hbx : Rb 200 x) (hby : Rb 200 y) (h0 : y = 0) : Calls Tryz.prog 10 #[v0, v1] w (R3PostE w false 0 0 5) := by
  obtain ⟨Aa0, La0, ca0, Ab0, Lb0, cb0, rfl, hn0, hd0⟩ := hx
  obtain ⟨g0, hg0⟩ : ∃ b, b = decide (x.num < 0) := ⟨_, rfl⟩
  have EG0 := Aside0.mk hg0
  rw [← hg0]
  obtain ⟨n0, hnn0⟩ : ∃ n, n = x.num.natAbs := ⟨_, rfl⟩
  obtain ⟨m0, hmm0⟩ : ∃ n, n = x.den := ⟨_, rfl⟩
  rw [← hnn0] at hn0
  rw [← hmm0] at hd0
  have EN0 := Aside0.mk hnn0
  have EM0 := Aside0.mk hmm0
  have H_N0 := Aside0.mk hn0
  have H_D0 := Aside0.mk hd0
  have BB0 := Aside0.mk hbx
  have X_N0 := Aside0.mk (show n0 < pw 200 by rw [hnn0]; exact BB0.out.1)
  have X_D0 := Aside0.mk (show m0 < pw 200 by rw [hmm0]; exact BB0.out.2)
  have M00 := Aside0.mk (show m0 ≠ 0 by rw [hmm0]; exact x.den_nz)
  clear hg0 hnn0 hmm0 hn0 hd0
  obtain ⟨Aa1, La1, ca1, Ab1, Lb1, cb1, rfl, hn1, hd1⟩ := hy
  obtain ⟨g1, hg1⟩ : ∃ b, b = decide (y.num < 0) := ⟨_, rfl⟩
  have EG1 := Aside0.mk hg1
  rw [← hg1]
  obtain ⟨n1, hnn1⟩ : ∃ n, n = y.num.natAbs := ⟨_, rfl⟩
  obtain ⟨m1, hmm1⟩ : ∃ n, n = y.den := ⟨_, rfl⟩
  rw [← hnn1] at hn1
  rw [← hmm1] at hd1
  have EN1 := Aside0.mk hnn1
  have EM1 := Aside0.mk hmm1
  have H_N1 := Aside0.mk hn1
  have H_D1 := Aside0.mk hd1
  have BB1 := Aside0.mk hby
  have X_N1 := Aside0.mk (show n1 < pw 200 by rw [hnn1]; exact BB1.out.1)
  have X_D1 := Aside0.mk (show m1 < pw 200 by rw [hmm1]; exact BB1.out.2)
  have M01 := Aside0.mk (show m1 ≠ 0 by rw [hmm1]; exact y.den_nz)
  clear hg1 hnn1 hmm1 hn1 hd1
  have hL : La1 = 0 := (Nu_len0 H_N1.out).2 (by rw [EN1.out, h0]; rfl)
  clear h0
  have hb1 : ((La1 : Int) == 0) = true := by rw [hL]; rfl
  clear hL
  go_enter Tryz.func10, Tryz.ntmps10
  have B1 := Aside0.mk (below_alloc (Below.refl w.heap.size w) (.cells #[.bool g0, .slice Aa0 La0 ca0, .slice Ab0 Lb0 cb0] 24))
  have T1 := Aside0.mk (B1.out.mono (Nat.le_refl _))
  have H_bx0 := Aside0.mk (bx w (w.heap.size) (.bool g0) (.slice Aa0 La0 ca0) (.slice Ab0 Lb0 cb0) 24 (by simp))
  have B2 := Aside0.mk (below_alloc (Below.refl (w.alloc (.cells #[.bool g0, .slice Aa0 La0 ca0, .slice Ab0 Lb0 cb0] 24)).heap.size (w.alloc (.cells #[.bool g0, .slice Aa0 La0 ca0, .slice Ab0 Lb0 cb0] 24))) (.cells #[.bool g1, .slice Aa1 La1 ca1, .slice Ab1 Lb1 cb1] 24))
  have T2 := Aside0.mk (T1.out.trans (B2.out.mono T1.out.size))
  have H_bx1 := Aside0.mk (bx (w.alloc (.cells #[.bool g0, .slice Aa0 La0 ca0, .slice Ab0 Lb0 cb0] 24)) (w.heap.size + 1) (.bool g1) (.slice Aa1 La1 ca1) (.slice Ab1 Lb1 cb1) 24 (by simp))
  have B3 := Aside0.mk (below_alloc (Below.refl ((w.alloc (.cells #[.bool g0, .slice Aa0 La0 ca0, .slice Ab0 Lb0 cb0] 24)).alloc (.cells #[.bool g1, .slice Aa1 La1 ca1, .slice Ab1 Lb1 cb1] 24)).heap.size ((w.alloc (.cells #[.bool g0, .slice Aa0 La0 ca0, .slice Ab0 Lb0 cb0] 24)).alloc (.cells #[.bool g1, .slice Aa1 La1 ca1, .slice Ab1 Lb1 cb1] 24))) (.cells #[.bool false, .slice none 0 0, .slice none 0 0] 24))
  have T3 := Aside0.mk (T2.out.trans (B3.out.mono T2.out.size))
  have H_res := Aside0.mk (bx ((w.alloc (.cells #[.bool g0, .slice Aa0 La0 ca0, .slice Ab0 Lb0 cb0] 24)).alloc (.cells #[.bool g1, .slice Aa1 La1 ca1, .slice Ab1 Lb1 cb1] 24)) (w.heap.size + 2) (.bool false) (.slice none 0 0) (.slice none 0 0) 24 (by simp))
  have TR := Aside0.mk T3.out
  have HNE0 := Aside0.mk (show w.heap.size + 2 ≠ w.heap.size by omega)
  have HNE1 := Aside0.mk (show w.heap.size + 2 ≠ w.heap.size + 1 by omega)
  obtain ⟨⟨hu0, hu1, hu2⟩, _⟩ := (H_bx1.out.below B3.out)
  have HD := Aside0.mk (r3_done (neg := false) TR.out (by omega) H_res.out (Below.refl _ _) (Nu_nil _) (Nu_nil _))
  obtain ⟨⟨zc0, zc1, zc2⟩, zf0, zf1, zf2⟩ := H_res.out
  go_wp2_with fail
  exact bodyPost_ret (v := .tuple #[.agg #[.bool false, .slice none 0 0, .slice none 0 0], .int .i64 5]) (by simp [results, Tryz.results10, go_sem, *]) rfl (by first | exact r3_postE HD.out | exact ⟨_, rfl, ⟨none, 0, 0, none, 0, 0, rfl, Nu_nil _, Nu_nil _⟩, TR.out⟩)
end Go.Proofs.YtklhpobphloehaaGreatDoor.G
