/- sfloat.Rat at a finite float, by hand. -/
import Derived.Test.YtpegcppeobndcaaGreatDoorAb
import Derived.Test.YtpegcppeobndcaaGreatDoorTp
import Derived.Test.YtpegcppeobndcaaGreatDoorTm
import Derived.Test.YtpegcppeobndcaaGreatDoorS6
set_option linter.unusedVariables false
namespace Go.Proofs.YtpegcppeobndcaaGreatDoor.Fl
open Go.RowKit YtpegcppeobndcaaGreatDoorW.PrintWords YtpegcppeobndcaaGreatDoorW.PrintLast YtpegcppeobndcaaGreatDoorW.PrintMore Go.Proofs.YtpegcppeobndcaaGreatDoor.Nn Go.Proofs.YtpegcppeobndcaaGreatDoor.G Go.Proofs.YtpegcppeobndcaaGreatDoor.Giv Go.Proofs.YtpegcppeobndcaaGreatDoor.PFl
attribute [local go_sem] max_two
def fval (f : Nat) : Rat := mkRat (sg (decide (9223372036854775808 ≤ f)) (fman f * 2 ^ (fexp f).toNat)) (1 * 2 ^ (-fexp f).toNat)
theorem bx3 (W : World) (g : Nat) (a b c : Value) (t : TypeId) (hg : W.heap.size = g) : Blk (W.alloc (.cells #[a, b, c] t)) g a b c := by
 subst hg
 exact Blk_alloc W a b c t
theorem blk_far3 {w : World} {g p : Nat} {a b c x y z : Value} (hne : p ≠ g) (h : Blk w g x y z) : Blk (((w.setCell ⟨p, 0, none⟩ a).setCell ⟨p, 1, none⟩ b).setCell ⟨p, 2, none⟩ c) g x y z := by
 obtain ⟨⟨h0, h1, h2⟩, f0, f1, f2⟩ := h
 exact ⟨⟨cell_far3 hne h0, cell_far3 hne h1, cell_far3 hne h2⟩, by simp [f0], by simp [f1], by simp [f2]⟩
set_option maxHeartbeats 2000000 in
set_option maxRecDepth 100000 in
theorem sRat_w {w : World} {f : Nat} (hf : ffin f) : Calls Tryz.prog 6 #[.int .u64 (f : Int)] w (RaPostE w (fval f) 0) := by
 have h5 := fexp_in hf
 have hb1 : fman f * 2 ^ (fexp f).toNat < pw 900 := Nat.lt_trans (shifted_lt (by omega)) (pw_lt Z5)
 have hb2 : 1 * 2 ^ (-fexp f).toNat < pw 900 := by rw [Nat.one_mul]; exact pw_of_two (k := (-fexp f).toNat + 1) (Nat.pow_lt_pow_right Z5 (Nat.lt_succ_self _)) (by omega)
 have hd0 : 1 * 2 ^ (-fexp f).toNat ≠ 0 := by rw [Nat.one_mul]; exact Nat.ne_of_gt (Nat.two_pow_pos _)
 have hm9 : fman f < pw 900 := Nat.lt_of_le_of_lt (Nat.le_mul_of_pos_right _ (Nat.two_pow_pos (fexp f).toNat)) hb1
 obtain ⟨b, hb⟩ : ∃ b, b = decide (9223372036854775808 ≤ f) := ⟨_, rfl⟩
 obtain ⟨X, hX⟩ : ∃ q : Rat, q = fval f := ⟨_, rfl⟩
 rw [← hX]
 have HXE := Aside0.mk (show X = mkRat (sg b (fman f * 2 ^ (fexp f).toNat)) (1 * 2 ^ (-fexp f).toNat) by rw [hX, hb]; rfl)
 have HOF := Aside0.mk (fun (W : World) => show Calls Tryz.prog 22 #[.int .u64 (f : Int)] W (fun e w' => ∃ A L c, e = .returned (.agg #[.bool b, .slice A L c, .int .i64 (fexp f), .bool false]) ∧ Nu w' (.slice A L c) (fman f) ∧ Below W.heap.size W w') from by rw [hb]; exact of_nu hf)
 obtain ⟨ex, hex⟩ : ∃ q, q = fexp f := ⟨_, rfl⟩
 obtain ⟨mm, hmm⟩ : ∃ q, q = fman f := ⟨_, rfl⟩
 rw [← hex, ← hmm] at HOF HXE hb1
 rw [← hex] at h5 hd0 hb2
 rw [← hmm] at hm9
 have hwr : IntKind.i64.wrap (-ex) = -ex := Go.IntWalk.i64_in (-ex) (by omega)
 have hmx : Builtin.max2 (.int .i64 ex) (.int .i64 0) = pure (.int .i64 (ex.toNat : Int)) := by rw [max2_int, show (if ex < 0 then 0 else ex) = (ex.toNat : Int) by split <;> omega]
 have hmy : Builtin.max2 (.int .i64 (-ex)) (.int .i64 0) = pure (.int .i64 ((-ex).toNat : Int)) := by rw [max2_int, show (if -ex < 0 then 0 else -ex) = ((-ex).toNat : Int) by split <;> omega]
 have HFO := Aside0.mk (ffin.ok hf)
 have HFF := Aside0.mk hf
 clear hX hb hex hmm hf
 go_enter Tryz.func6, Tryz.ntmps6
 have B1 := Aside0.mk (below_alloc (Below.refl w.heap.size w) (.cells #[.bool false, .slice none 0 0, .slice none 0 0] 27))
 have T1 := Aside0.mk (B1.out.mono (Nat.le_refl _))
 have H_res := Aside0.mk (bx3 w (w.heap.size) (.bool false) (.slice none 0 0) (.slice none 0 0) 27 Z33)
 have TR := Aside0.mk T1.out
 have HC : Aside0 (Calls Tryz.prog 20 #[.int .u64 (f : Int)] (w.alloc (.cells #[.bool false, .slice none 0 0, .slice none 0 0] 27)) (fun e w' => e = .returned (.bool false) ∧ Drawn0 (w.alloc (.cells #[.bool false, .slice none 0 0, .slice none 0 0] 27)) w')) := ⟨nan_nu HFO.out⟩
 go_wp2_with fail
 refine HC.out.mono ?_
 clear HC
 rintro e w2 ⟨rfl, hd⟩
 have B2 := Aside0.mk (drawn_below (B := (w.alloc (.cells #[.bool false, .slice none 0 0, .slice none 0 0] 27)).heap.size) hd)
 have T2 := Aside0.mk (T1.out.trans ((drawn_below (B := (w.alloc (.cells #[.bool false, .slice none 0 0, .slice none 0 0] 27)).heap.size) hd).mono T1.out.size))
 clear hd
 have HC : Aside0 (Calls Tryz.prog 21 #[.int .u64 (f : Int)] w2 (fun e w' => e = .returned (.bool false) ∧ Drawn0 w2 w')) := ⟨inf_nu HFF.out⟩
 go_wp2_with fail
 refine HC.out.mono ?_
 clear HC
 rintro e w3 ⟨rfl, hd⟩
 have B3 := Aside0.mk (drawn_below (B := w2.heap.size) hd)
 have T3 := Aside0.mk (T2.out.trans ((drawn_below (B := w2.heap.size) hd).mono T2.out.size))
 clear hd
 have HC : Aside0 (Calls Tryz.prog 22 #[.int .u64 (f : Int)] w3 (fun e w' => ∃ A L c, e = .returned (.agg #[.bool b, .slice A L c, .int .i64 ex, .bool false]) ∧ Nu w' (.slice A L c) mm ∧ Below w3.heap.size w3 w')) := ⟨HOF.out _⟩
 go_wp2_with fail
 refine HC.out.mono ?_
 clear HC
 rintro e w4 ⟨A, L, c, rfl, hN, hB⟩
 have B4 := Aside0.mk hB
 have T4 := tT T3 hB
 have H_m := Aside0.mk hN
 clear hN hB
 have B5 := Aside0.mk (below_alloc (Below.refl w4.heap.size w4) (.cells #[.bool b, .slice A L c, .int .i64 ex, .bool false] 56))
 have T5 := tT T4 B5.out
 have H_n0 := Aside0.mk (show CellAt (w4.alloc (.cells #[.bool b, .slice A L c, .int .i64 ex, .bool false] 56)) (w4.heap.size) 0 (.bool b) by unfold CellAt; simp)
 have H_n1 := Aside0.mk (show CellAt (w4.alloc (.cells #[.bool b, .slice A L c, .int .i64 ex, .bool false] 56)) (w4.heap.size) 1 (.slice A L c) by unfold CellAt; simp)
 have H_n2 := Aside0.mk (show CellAt (w4.alloc (.cells #[.bool b, .slice A L c, .int .i64 ex, .bool false] 56)) (w4.heap.size) 2 (.int .i64 ex) by unfold CellAt; simp)
 have H_n3 := Aside0.mk (show CellAt (w4.alloc (.cells #[.bool b, .slice A L c, .int .i64 ex, .bool false] 56)) (w4.heap.size) 3 (.bool false) by unfold CellAt; simp)
 go_wp2_with fail
 have B6 := Aside0.mk (Below.drew (Below.refl (w4.alloc (.cells #[.bool b, .slice A L c, .int .i64 ex, .bool false] 56)).heap.size (w4.alloc (.cells #[.bool b, .slice A L c, .int .i64 ex, .bool false] 56))))
 have T6 := tT T5 B6.out
 have HS6 := Aside0.mk (fun (W : World) (hW : Below ((w4.alloc (.cells #[.bool b, .slice A L c, .int .i64 ex, .bool false] 56)).drew).heap.size ((w4.alloc (.cells #[.bool b, .slice A L c, .int .i64 ex, .bool false] 56)).drew) W) => show W.cell? ⟨w4.heap.size, 0, none⟩ = some (.bool b) ∧ W.cell? ⟨w4.heap.size, 1, none⟩ = some (.slice A L c) ∧ W.cell? ⟨w4.heap.size, 2, none⟩ = some (.int .i64 ex) ∧ W.cell? ⟨w4.heap.size, 3, none⟩ = some (.bool false) from ⟨((H_n0.out.below B6.out).below hW), ((H_n1.out.below B6.out).below hW), ((H_n2.out.below B6.out).below hW), ((H_n3.out.below B6.out).below hW)⟩)
 have U6 := Aside0.mk (Below.refl ((w4.alloc (.cells #[.bool b, .slice A L c, .int .i64 ex, .bool false] 56)).drew).heap.size ((w4.alloc (.cells #[.bool b, .slice A L c, .int .i64 ex, .bool false] 56)).drew))
 refine wp_region_held_drew (S := fun W => W.cell? ⟨w4.heap.size, 0, none⟩ = some (.bool b) ∧ W.cell? ⟨w4.heap.size, 1, none⟩ = some (.slice A L c) ∧ W.cell? ⟨w4.heap.size, 2, none⟩ = some (.int .i64 ex) ∧ W.cell? ⟨w4.heap.size, 3, none⟩ = some (.bool false)) Z4 (HS6.out _ (Below.refl _ _)) (fun hHeld => ?_)
 refine Inv.tk 0 (h := ?_)
 try simp only [PU]
 refine Inv.tk 1 (h := ?_)
 try simp only [PU]
 refine Inv.tk 2 (h := ?_)
 try simp only [PU]
 refine Inv.tk 3 (h := ?_)
 try simp only [PU]
 refine Inv.tk 4 (h := ?_)
 try simp only [PU]
 refine Inv.tk 5 (h := ?_)
 try simp only [PU]
 refine Inv.tk 6 (h := ?_)
 try simp only [PU]
 refine Inv.tk 9 (h := ?_)
 try simp only [PU]
 refine Inv.tk 10 (h := ?_)
 try simp only [PU]
 refine Inv.tk 11 (h := ?_)
 try simp only [PU]
 refine Inv.tk 12 (h := ?_)
 try simp only [PU]
 refine wpAnyH_ready (rs := [7, 18]) Z4 Z33 (AllReadyH.cons (Inv.at_list rfl) (fun K hK => ?_) (AllReadyH.cons (Inv.at_list rfl) (fun K hK => ?_) AllReadyH.nil))
 ·
  go_simp
  refine (shl_nuI ex.toNat Z31 ((H_m.out.below B5.out).below B6.out) hm9 (by omega)).mono ?_
  rintro e w7 ⟨v_s1, rfl, hN, hB⟩
  try go_wp2_with fail
  have B7 := Aside0.mk hB
  have T7 := tT T6 hB
  have H_s1 := Aside0.mk hN
  clear hN hB
  have U7 := tT U6 B7.out
  refine hK.out _ _ (HS6.out _ U7.out) (fun hHeld => ?_)
  clear hK K
  try simp only [PU]
  refine wpAnyH_ready (rs := [8, 18]) Z4 Z33 (AllReadyH.cons (Inv.at_list rfl) (fun K hK => ?_) (AllReadyH.cons (Inv.at_list rfl) (fun K hK => ?_) AllReadyH.nil))
  ·
   go_simp
   refine (ofN 1 Z5).mono ?_
   rintro e w8 ⟨v_o, rfl, hN, hB⟩
   try go_wp2_with fail
   have B8 := Aside0.mk hB
   have T8 := tT T7 hB
   have H_o := Aside0.mk hN
   clear hN hB
   have U8 := tT U7 B8.out
   refine hK.out _ _ (HS6.out _ U8.out) (fun hHeld => ?_)
   clear hK K
   try simp only [PU]
   refine wpAnyH_ready (rs := [13, 18]) Z4 Z33 (AllReadyH.cons (Inv.at_list rfl) (fun K hK => ?_) (AllReadyH.cons (Inv.at_list rfl) (fun K hK => ?_) AllReadyH.nil))
   ·
    go_simp
    refine (shl_nuI (-ex).toNat Z31 H_o.out (pw_of_two (k := 1) Z5 Z5) (by omega)).mono ?_
    rintro e w9 ⟨v_s2, rfl, hN, hB⟩
    try go_wp2_with fail
    have B9 := Aside0.mk hB
    have T9 := tT T8 hB
    have H_s2 := Aside0.mk hN
    clear hN hB
    have U9 := tT U8 B9.out
    refine hK.out _ _ (HS6.out _ U9.out) (fun hHeld => ?_)
    clear hK K
    try simp only [PU]
    refine wpAnyH_ready (rs := [14, 18]) Z4 Z33 (AllReadyH.cons (Inv.at_list rfl) (fun K hK => ?_) (AllReadyH.cons (Inv.at_list rfl) (fun K hK => ?_) AllReadyH.nil))
    ·
     go_simp
     refine ((qmake_w b ((H_s1.out.below B8.out).below B9.out) H_s2.out (Nat.lt_trans hb1 (pw_lt Z5)) (Nat.lt_trans hb2 (pw_lt Z5)) hd0).mono fun _ _ h => low_ratE (x := X) hd0 HXE.out h).mono ?_
     rintro e w10 ⟨v_q, rfl, ⟨A_q, M_q, c_q, B_q, K_q, d_q, rfl, hNA, hNB⟩, hB⟩
     try go_wp2_with fail
     have B10 := Aside0.mk hB
     have T10 := tT T9 hB
     obtain ⟨b_q, hb_q⟩ : ∃ b, b = decide (Rat.num (X) < 0) := ⟨_, rfl⟩
     try rw [← hb_q]
     have E_q := Aside0.mk hb_q
     clear hb_q
     have NA_q := Aside0.mk hNA
     have NB_q := Aside0.mk hNB
     clear hNA hNB hB
     have H_q := Aside0.mk (show Ra w10 (.agg #[.bool b_q, .slice A_q M_q c_q, .slice B_q K_q d_q]) (X) from by unfold Ra; rw [← E_q.out]; exact ⟨_, _, _, _, _, _, rfl, NA_q.out, NB_q.out⟩)
     have H_NAq := Aside0.mk NA_q.out
     have H_NBq := Aside0.mk NB_q.out
     have U10 := tT U9 B10.out
     refine hK.out _ _ (HS6.out _ U10.out) (fun hHeld => ?_)
     clear hK K
     try simp only [PU]
     refine Inv.tk 15 (h := ?_)
     try simp only [PU]
     refine Inv.tk 16 (h := ?_)
     try simp only [PU]
     refine Inv.tk 17 (h := ?_)
     try simp only [PU]
     refine Inv.oneL (i := 18) rfl Z4 (fun K hK => ?_)
     go_simp
     have HN5 := Aside0.mk (Nat.ne_of_gt (cell_lt (((((H_n0.out.below B6.out).below B7.out).below B8.out).below B9.out).below B10.out)))
     have HR5 := Aside0.mk (Nat.ne_of_gt (cell_lt (((((((((H_res.out.below B2.out).below B3.out).below B4.out).below B5.out).below B6.out).below B7.out).below B8.out).below B9.out).below B10.out).1.1))
     have HL5 := Aside0.mk (show w.heap.size ≤ w10.heap.size by have h1 := T10.out.size; first | exact h1 | (simp at h1; omega))
     obtain ⟨w11, hwa⟩ : ∃ x, x = w10.alloc (.cells #[.bool false, .slice none 0 0, .slice none 0 0] 27) := ⟨_, rfl⟩
     rw [← hwa]
     replace hwa : w11 = w10.alloc (.cells #[.bool false, .slice none 0 0, .slice none 0 0] 27) := hwa
     have H_l5 := Aside0.mk (show Blk w11 (w10.heap.size) (.bool false) (.slice none 0 0) (.slice none 0 0) by rw [hwa]; exact bx3 _ _ _ _ _ _ Z33)
     have hB : Below w10.heap.size w10 w11 := by rw [hwa]; exact below_alloc (Below.refl _ _) _
     have B11 := Aside0.mk hB
     have T11 := tT T10 hB
     clear hB hwa
     have U11 := tT U10 B11.out
     refine hK.out _ _ (HS6.out _ U11.out) (fun hHeld => ?_)
     clear hK K
     try simp only [PU]
     refine Inv.oneL (i := 19) rfl Z4 (fun K hK => ?_)
     obtain ⟨⟨zc0, zc1, zc2⟩, zf0, zf1, zf2⟩ := H_l5.out
     have HNE := Aside0.mk (show (w10.heap.size) ≠ w4.heap.size by have h := HN5.out; first | exact h | omega | (simp at h; omega))
     have HRE := Aside0.mk (show (w10.heap.size) ≠ w.heap.size by have h := HR5.out; first | exact h | (simp at h; omega))
     have HRB := Aside0.mk (blk_far3 HRE.out (a := .bool b_q) (b := .slice A_q M_q c_q) (c := .slice B_q K_q d_q) ((((((((((H_res.out.below B2.out).below B3.out).below B4.out).below B5.out).below B6.out).below B7.out).below B8.out).below B9.out).below B10.out).below B11.out))
     have HNN := Aside0.mk (Nu_set3 H_l5.out (.bool b_q) (.slice A_q M_q c_q) (.slice B_q K_q d_q) (H_NAq.out.below B11.out))
     have HND := Aside0.mk (Nu_set3 H_l5.out (.bool b_q) (.slice A_q M_q c_q) (.slice B_q K_q d_q) (H_NBq.out.below B11.out))
     have HBB := Aside0.mk (below_set3 T11.out HL5.out (.bool b_q) (.slice A_q M_q c_q) (.slice B_q K_q d_q))
     have HKK := Aside0.mk (HS6.out _ U11.out)
     go_simp
     refine hK.out _ _ Z26 (fun hHeld => ?_)
     clear hK K
     try simp only [PU]
     refine Inv.tk 20 (h := ?_)
     try simp only [PU]
     refine wpAnyH_done Z4 ?_ _
     obtain ⟨⟨yc0, yc1, yc2⟩, yf0, yf1, yf2⟩ := HRB.out
     have HD := Aside0.mk (Nu_set3 HRB.out (.bool b_q) (.slice A_q M_q c_q) (.slice B_q K_q d_q) HNN.out)
     have HE := Aside0.mk (Nu_set3 HRB.out (.bool b_q) (.slice A_q M_q c_q) (.slice B_q K_q d_q) HND.out)
     have HF := Aside0.mk (below_set3 HBB.out (show w.heap.size ≤ w.heap.size by omega) (.bool b_q) (.slice A_q M_q c_q) (.slice B_q K_q d_q))
     go_wp2_with fail
     exact Z53
    ·
     go_simp
     have HN5 := Aside0.mk (Nat.ne_of_gt (cell_lt ((((H_n0.out.below B6.out).below B7.out).below B8.out).below B9.out)))
     have HR5 := Aside0.mk (Nat.ne_of_gt (cell_lt ((((((((H_res.out.below B2.out).below B3.out).below B4.out).below B5.out).below B6.out).below B7.out).below B8.out).below B9.out).1.1))
     have HL5 := Aside0.mk (show w.heap.size ≤ w9.heap.size by have h1 := T9.out.size; first | exact h1 | (simp at h1; omega))
     obtain ⟨w10, hwa⟩ : ∃ x, x = w9.alloc (.cells #[.bool false, .slice none 0 0, .slice none 0 0] 27) := ⟨_, rfl⟩
     rw [← hwa]
     replace hwa : w10 = w9.alloc (.cells #[.bool false, .slice none 0 0, .slice none 0 0] 27) := hwa
     have H_l5 := Aside0.mk (show Blk w10 (w9.heap.size) (.bool false) (.slice none 0 0) (.slice none 0 0) by rw [hwa]; exact bx3 _ _ _ _ _ _ Z33)
     have hB : Below w9.heap.size w9 w10 := by rw [hwa]; exact below_alloc (Below.refl _ _) _
     have B10 := Aside0.mk hB
     have T10 := tT T9 hB
     clear hB hwa
     have U10 := tT U9 B10.out
     refine hK.out _ _ (HS6.out _ U10.out) (fun hHeld => ?_)
     clear hK K
     try simp only [PU]
     refine Inv.oneL (i := 14) rfl Z4 (fun K hK => ?_)
     go_simp
     refine ((qmake_w b (((H_s1.out.below B8.out).below B9.out).below B10.out) (H_s2.out.below B10.out) (Nat.lt_trans hb1 (pw_lt Z5)) (Nat.lt_trans hb2 (pw_lt Z5)) hd0).mono fun _ _ h => low_ratE (x := X) hd0 HXE.out h).mono ?_
     rintro e w11 ⟨v_q, rfl, ⟨A_q, M_q, c_q, B_q, K_q, d_q, rfl, hNA, hNB⟩, hB⟩
     try go_wp2_with fail
     have B11 := Aside0.mk hB
     have T11 := tT T10 hB
     obtain ⟨b_q, hb_q⟩ : ∃ b, b = decide (Rat.num (X) < 0) := ⟨_, rfl⟩
     try rw [← hb_q]
     have E_q := Aside0.mk hb_q
     clear hb_q
     have NA_q := Aside0.mk hNA
     have NB_q := Aside0.mk hNB
     clear hNA hNB hB
     have H_q := Aside0.mk (show Ra w11 (.agg #[.bool b_q, .slice A_q M_q c_q, .slice B_q K_q d_q]) (X) from by unfold Ra; rw [← E_q.out]; exact ⟨_, _, _, _, _, _, rfl, NA_q.out, NB_q.out⟩)
     have H_NAq := Aside0.mk NA_q.out
     have H_NBq := Aside0.mk NB_q.out
     have U11 := tT U10 B11.out
     refine hK.out _ _ (HS6.out _ U11.out) (fun hHeld => ?_)
     clear hK K
     try simp only [PU]
     refine Inv.tk 15 (h := ?_)
     try simp only [PU]
     refine Inv.tk 16 (h := ?_)
     try simp only [PU]
     refine Inv.tk 17 (h := ?_)
     try simp only [PU]
     refine Inv.oneL (i := 19) rfl Z4 (fun K hK => ?_)
     obtain ⟨⟨zc0, zc1, zc2⟩, zf0, zf1, zf2⟩ := (H_l5.out.below B11.out)
     have HNE := Aside0.mk (show (w9.heap.size) ≠ w4.heap.size by have h := HN5.out; first | exact h | omega | (simp at h; omega))
     have HRE := Aside0.mk (show (w9.heap.size) ≠ w.heap.size by have h := HR5.out; first | exact h | (simp at h; omega))
     have HRB := Aside0.mk (blk_far3 HRE.out (a := .bool b_q) (b := .slice A_q M_q c_q) (c := .slice B_q K_q d_q) ((((((((((H_res.out.below B2.out).below B3.out).below B4.out).below B5.out).below B6.out).below B7.out).below B8.out).below B9.out).below B10.out).below B11.out))
     have HNN := Aside0.mk (Nu_set3 (H_l5.out.below B11.out) (.bool b_q) (.slice A_q M_q c_q) (.slice B_q K_q d_q) H_NAq.out)
     have HND := Aside0.mk (Nu_set3 (H_l5.out.below B11.out) (.bool b_q) (.slice A_q M_q c_q) (.slice B_q K_q d_q) H_NBq.out)
     have HBB := Aside0.mk (below_set3 T11.out HL5.out (.bool b_q) (.slice A_q M_q c_q) (.slice B_q K_q d_q))
     have HKK := Aside0.mk (HS6.out _ U11.out)
     go_simp
     refine hK.out _ _ Z26 (fun hHeld => ?_)
     clear hK K
     try simp only [PU]
     refine Inv.tk 20 (h := ?_)
     try simp only [PU]
     refine wpAnyH_done Z4 ?_ _
     obtain ⟨⟨yc0, yc1, yc2⟩, yf0, yf1, yf2⟩ := HRB.out
     have HD := Aside0.mk (Nu_set3 HRB.out (.bool b_q) (.slice A_q M_q c_q) (.slice B_q K_q d_q) HNN.out)
     have HE := Aside0.mk (Nu_set3 HRB.out (.bool b_q) (.slice A_q M_q c_q) (.slice B_q K_q d_q) HND.out)
     have HF := Aside0.mk (below_set3 HBB.out (show w.heap.size ≤ w.heap.size by omega) (.bool b_q) (.slice A_q M_q c_q) (.slice B_q K_q d_q))
     go_wp2_with fail
     exact Z53
   ·
    go_simp
    have HN5 := Aside0.mk (Nat.ne_of_gt (cell_lt (((H_n0.out.below B6.out).below B7.out).below B8.out)))
    have HR5 := Aside0.mk (Nat.ne_of_gt (cell_lt (((((((H_res.out.below B2.out).below B3.out).below B4.out).below B5.out).below B6.out).below B7.out).below B8.out).1.1))
    have HL5 := Aside0.mk (show w.heap.size ≤ w8.heap.size by have h1 := T8.out.size; first | exact h1 | (simp at h1; omega))
    obtain ⟨w9, hwa⟩ : ∃ x, x = w8.alloc (.cells #[.bool false, .slice none 0 0, .slice none 0 0] 27) := ⟨_, rfl⟩
    rw [← hwa]
    replace hwa : w9 = w8.alloc (.cells #[.bool false, .slice none 0 0, .slice none 0 0] 27) := hwa
    have H_l5 := Aside0.mk (show Blk w9 (w8.heap.size) (.bool false) (.slice none 0 0) (.slice none 0 0) by rw [hwa]; exact bx3 _ _ _ _ _ _ Z33)
    have hB : Below w8.heap.size w8 w9 := by rw [hwa]; exact below_alloc (Below.refl _ _) _
    have B9 := Aside0.mk hB
    have T9 := tT T8 hB
    clear hB hwa
    have U9 := tT U8 B9.out
    refine hK.out _ _ (HS6.out _ U9.out) (fun hHeld => ?_)
    clear hK K
    try simp only [PU]
    refine Inv.oneL (i := 13) rfl Z4 (fun K hK => ?_)
    go_simp
    refine (shl_nuI (-ex).toNat Z31 (H_o.out.below B9.out) (pw_of_two (k := 1) Z5 Z5) (by omega)).mono ?_
    rintro e w10 ⟨v_s2, rfl, hN, hB⟩
    try go_wp2_with fail
    have B10 := Aside0.mk hB
    have T10 := tT T9 hB
    have H_s2 := Aside0.mk hN
    clear hN hB
    have U10 := tT U9 B10.out
    refine hK.out _ _ (HS6.out _ U10.out) (fun hHeld => ?_)
    clear hK K
    try simp only [PU]
    refine Inv.oneL (i := 14) rfl Z4 (fun K hK => ?_)
    go_simp
    refine ((qmake_w b (((H_s1.out.below B8.out).below B9.out).below B10.out) H_s2.out (Nat.lt_trans hb1 (pw_lt Z5)) (Nat.lt_trans hb2 (pw_lt Z5)) hd0).mono fun _ _ h => low_ratE (x := X) hd0 HXE.out h).mono ?_
    rintro e w11 ⟨v_q, rfl, ⟨A_q, M_q, c_q, B_q, K_q, d_q, rfl, hNA, hNB⟩, hB⟩
    try go_wp2_with fail
    have B11 := Aside0.mk hB
    have T11 := tT T10 hB
    obtain ⟨b_q, hb_q⟩ : ∃ b, b = decide (Rat.num (X) < 0) := ⟨_, rfl⟩
    try rw [← hb_q]
    have E_q := Aside0.mk hb_q
    clear hb_q
    have NA_q := Aside0.mk hNA
    have NB_q := Aside0.mk hNB
    clear hNA hNB hB
    have H_q := Aside0.mk (show Ra w11 (.agg #[.bool b_q, .slice A_q M_q c_q, .slice B_q K_q d_q]) (X) from by unfold Ra; rw [← E_q.out]; exact ⟨_, _, _, _, _, _, rfl, NA_q.out, NB_q.out⟩)
    have H_NAq := Aside0.mk NA_q.out
    have H_NBq := Aside0.mk NB_q.out
    have U11 := tT U10 B11.out
    refine hK.out _ _ (HS6.out _ U11.out) (fun hHeld => ?_)
    clear hK K
    try simp only [PU]
    refine Inv.tk 15 (h := ?_)
    try simp only [PU]
    refine Inv.tk 16 (h := ?_)
    try simp only [PU]
    refine Inv.tk 17 (h := ?_)
    try simp only [PU]
    refine Inv.oneL (i := 19) rfl Z4 (fun K hK => ?_)
    obtain ⟨⟨zc0, zc1, zc2⟩, zf0, zf1, zf2⟩ := ((H_l5.out.below B10.out).below B11.out)
    have HNE := Aside0.mk (show (w8.heap.size) ≠ w4.heap.size by have h := HN5.out; first | exact h | omega | (simp at h; omega))
    have HRE := Aside0.mk (show (w8.heap.size) ≠ w.heap.size by have h := HR5.out; first | exact h | (simp at h; omega))
    have HRB := Aside0.mk (blk_far3 HRE.out (a := .bool b_q) (b := .slice A_q M_q c_q) (c := .slice B_q K_q d_q) ((((((((((H_res.out.below B2.out).below B3.out).below B4.out).below B5.out).below B6.out).below B7.out).below B8.out).below B9.out).below B10.out).below B11.out))
    have HNN := Aside0.mk (Nu_set3 ((H_l5.out.below B10.out).below B11.out) (.bool b_q) (.slice A_q M_q c_q) (.slice B_q K_q d_q) H_NAq.out)
    have HND := Aside0.mk (Nu_set3 ((H_l5.out.below B10.out).below B11.out) (.bool b_q) (.slice A_q M_q c_q) (.slice B_q K_q d_q) H_NBq.out)
    have HBB := Aside0.mk (below_set3 T11.out HL5.out (.bool b_q) (.slice A_q M_q c_q) (.slice B_q K_q d_q))
    have HKK := Aside0.mk (HS6.out _ U11.out)
    go_simp
    refine hK.out _ _ Z26 (fun hHeld => ?_)
    clear hK K
    try simp only [PU]
    refine Inv.tk 20 (h := ?_)
    try simp only [PU]
    refine wpAnyH_done Z4 ?_ _
    obtain ⟨⟨yc0, yc1, yc2⟩, yf0, yf1, yf2⟩ := HRB.out
    have HD := Aside0.mk (Nu_set3 HRB.out (.bool b_q) (.slice A_q M_q c_q) (.slice B_q K_q d_q) HNN.out)
    have HE := Aside0.mk (Nu_set3 HRB.out (.bool b_q) (.slice A_q M_q c_q) (.slice B_q K_q d_q) HND.out)
    have HF := Aside0.mk (below_set3 HBB.out (show w.heap.size ≤ w.heap.size by omega) (.bool b_q) (.slice A_q M_q c_q) (.slice B_q K_q d_q))
    go_wp2_with fail
    exact Z53
  ·
   go_simp
   have HN5 := Aside0.mk (Nat.ne_of_gt (cell_lt ((H_n0.out.below B6.out).below B7.out)))
   have HR5 := Aside0.mk (Nat.ne_of_gt (cell_lt ((((((H_res.out.below B2.out).below B3.out).below B4.out).below B5.out).below B6.out).below B7.out).1.1))
   have HL5 := Aside0.mk (show w.heap.size ≤ w7.heap.size by have h1 := T7.out.size; first | exact h1 | (simp at h1; omega))
   obtain ⟨w8, hwa⟩ : ∃ x, x = w7.alloc (.cells #[.bool false, .slice none 0 0, .slice none 0 0] 27) := ⟨_, rfl⟩
   rw [← hwa]
   replace hwa : w8 = w7.alloc (.cells #[.bool false, .slice none 0 0, .slice none 0 0] 27) := hwa
   have H_l5 := Aside0.mk (show Blk w8 (w7.heap.size) (.bool false) (.slice none 0 0) (.slice none 0 0) by rw [hwa]; exact bx3 _ _ _ _ _ _ Z33)
   have hB : Below w7.heap.size w7 w8 := by rw [hwa]; exact below_alloc (Below.refl _ _) _
   have B8 := Aside0.mk hB
   have T8 := tT T7 hB
   clear hB hwa
   have U8 := tT U7 B8.out
   refine hK.out _ _ (HS6.out _ U8.out) (fun hHeld => ?_)
   clear hK K
   try simp only [PU]
   refine Inv.oneL (i := 8) rfl Z4 (fun K hK => ?_)
   go_simp
   refine (ofN 1 Z5).mono ?_
   rintro e w9 ⟨v_o, rfl, hN, hB⟩
   try go_wp2_with fail
   have B9 := Aside0.mk hB
   have T9 := tT T8 hB
   have H_o := Aside0.mk hN
   clear hN hB
   have U9 := tT U8 B9.out
   refine hK.out _ _ (HS6.out _ U9.out) (fun hHeld => ?_)
   clear hK K
   try simp only [PU]
   refine Inv.oneL (i := 13) rfl Z4 (fun K hK => ?_)
   go_simp
   refine (shl_nuI (-ex).toNat Z31 H_o.out (pw_of_two (k := 1) Z5 Z5) (by omega)).mono ?_
   rintro e w10 ⟨v_s2, rfl, hN, hB⟩
   try go_wp2_with fail
   have B10 := Aside0.mk hB
   have T10 := tT T9 hB
   have H_s2 := Aside0.mk hN
   clear hN hB
   have U10 := tT U9 B10.out
   refine hK.out _ _ (HS6.out _ U10.out) (fun hHeld => ?_)
   clear hK K
   try simp only [PU]
   refine Inv.oneL (i := 14) rfl Z4 (fun K hK => ?_)
   go_simp
   refine ((qmake_w b (((H_s1.out.below B8.out).below B9.out).below B10.out) H_s2.out (Nat.lt_trans hb1 (pw_lt Z5)) (Nat.lt_trans hb2 (pw_lt Z5)) hd0).mono fun _ _ h => low_ratE (x := X) hd0 HXE.out h).mono ?_
   rintro e w11 ⟨v_q, rfl, ⟨A_q, M_q, c_q, B_q, K_q, d_q, rfl, hNA, hNB⟩, hB⟩
   try go_wp2_with fail
   have B11 := Aside0.mk hB
   have T11 := tT T10 hB
   obtain ⟨b_q, hb_q⟩ : ∃ b, b = decide (Rat.num (X) < 0) := ⟨_, rfl⟩
   try rw [← hb_q]
   have E_q := Aside0.mk hb_q
   clear hb_q
   have NA_q := Aside0.mk hNA
   have NB_q := Aside0.mk hNB
   clear hNA hNB hB
   have H_q := Aside0.mk (show Ra w11 (.agg #[.bool b_q, .slice A_q M_q c_q, .slice B_q K_q d_q]) (X) from by unfold Ra; rw [← E_q.out]; exact ⟨_, _, _, _, _, _, rfl, NA_q.out, NB_q.out⟩)
   have H_NAq := Aside0.mk NA_q.out
   have H_NBq := Aside0.mk NB_q.out
   have U11 := tT U10 B11.out
   refine hK.out _ _ (HS6.out _ U11.out) (fun hHeld => ?_)
   clear hK K
   try simp only [PU]
   refine Inv.tk 15 (h := ?_)
   try simp only [PU]
   refine Inv.tk 16 (h := ?_)
   try simp only [PU]
   refine Inv.tk 17 (h := ?_)
   try simp only [PU]
   refine Inv.oneL (i := 19) rfl Z4 (fun K hK => ?_)
   obtain ⟨⟨zc0, zc1, zc2⟩, zf0, zf1, zf2⟩ := (((H_l5.out.below B9.out).below B10.out).below B11.out)
   have HNE := Aside0.mk (show (w7.heap.size) ≠ w4.heap.size by have h := HN5.out; first | exact h | omega | (simp at h; omega))
   have HRE := Aside0.mk (show (w7.heap.size) ≠ w.heap.size by have h := HR5.out; first | exact h | (simp at h; omega))
   have HRB := Aside0.mk (blk_far3 HRE.out (a := .bool b_q) (b := .slice A_q M_q c_q) (c := .slice B_q K_q d_q) ((((((((((H_res.out.below B2.out).below B3.out).below B4.out).below B5.out).below B6.out).below B7.out).below B8.out).below B9.out).below B10.out).below B11.out))
   have HNN := Aside0.mk (Nu_set3 (((H_l5.out.below B9.out).below B10.out).below B11.out) (.bool b_q) (.slice A_q M_q c_q) (.slice B_q K_q d_q) H_NAq.out)
   have HND := Aside0.mk (Nu_set3 (((H_l5.out.below B9.out).below B10.out).below B11.out) (.bool b_q) (.slice A_q M_q c_q) (.slice B_q K_q d_q) H_NBq.out)
   have HBB := Aside0.mk (below_set3 T11.out HL5.out (.bool b_q) (.slice A_q M_q c_q) (.slice B_q K_q d_q))
   have HKK := Aside0.mk (HS6.out _ U11.out)
   go_simp
   refine hK.out _ _ Z26 (fun hHeld => ?_)
   clear hK K
   try simp only [PU]
   refine Inv.tk 20 (h := ?_)
   try simp only [PU]
   refine wpAnyH_done Z4 ?_ _
   obtain ⟨⟨yc0, yc1, yc2⟩, yf0, yf1, yf2⟩ := HRB.out
   have HD := Aside0.mk (Nu_set3 HRB.out (.bool b_q) (.slice A_q M_q c_q) (.slice B_q K_q d_q) HNN.out)
   have HE := Aside0.mk (Nu_set3 HRB.out (.bool b_q) (.slice A_q M_q c_q) (.slice B_q K_q d_q) HND.out)
   have HF := Aside0.mk (below_set3 HBB.out (show w.heap.size ≤ w.heap.size by omega) (.bool b_q) (.slice A_q M_q c_q) (.slice B_q K_q d_q))
   go_wp2_with fail
   exact Z53
 ·
  go_simp
  have HN5 := Aside0.mk (Nat.ne_of_gt (cell_lt (H_n0.out.below B6.out)))
  have HR5 := Aside0.mk (Nat.ne_of_gt (cell_lt (((((H_res.out.below B2.out).below B3.out).below B4.out).below B5.out).below B6.out).1.1))
  have HL5 := Aside0.mk (show w.heap.size ≤ w4.heap.size + 1 by have h1 := T6.out.size; first | exact h1 | (simp at h1; omega))
  obtain ⟨w7, hwa⟩ : ∃ x, x = ((w4.alloc (.cells #[.bool b, .slice A L c, .int .i64 ex, .bool false] 56)).alloc (.cells #[.bool false, .slice none 0 0, .slice none 0 0] 27)).drew := ⟨_, rfl⟩
  rw [← hwa]
  replace hwa : w7 = ((w4.alloc (.cells #[.bool b, .slice A L c, .int .i64 ex, .bool false] 56)).drew).alloc (.cells #[.bool false, .slice none 0 0, .slice none 0 0] 27) := hwa
  have H_l5 := Aside0.mk (show Blk w7 (w4.heap.size + 1) (.bool false) (.slice none 0 0) (.slice none 0 0) by rw [hwa]; exact bx3 _ _ _ _ _ _ Z33)
  have hB : Below ((w4.alloc (.cells #[.bool b, .slice A L c, .int .i64 ex, .bool false] 56)).drew).heap.size ((w4.alloc (.cells #[.bool b, .slice A L c, .int .i64 ex, .bool false] 56)).drew) w7 := by rw [hwa]; exact below_alloc (Below.refl _ _) _
  have B7 := Aside0.mk hB
  have T7 := tT T6 hB
  clear hB hwa
  have U7 := tT U6 B7.out
  refine hK.out _ _ (HS6.out _ U7.out) (fun hHeld => ?_)
  clear hK K
  try simp only [PU]
  refine Inv.oneL (i := 7) rfl Z4 (fun K hK => ?_)
  go_simp
  refine (shl_nuI ex.toNat Z31 (((H_m.out.below B5.out).below B6.out).below B7.out) hm9 (by omega)).mono ?_
  rintro e w8 ⟨v_s1, rfl, hN, hB⟩
  try go_wp2_with fail
  have B8 := Aside0.mk hB
  have T8 := tT T7 hB
  have H_s1 := Aside0.mk hN
  clear hN hB
  have U8 := tT U7 B8.out
  refine hK.out _ _ (HS6.out _ U8.out) (fun hHeld => ?_)
  clear hK K
  try simp only [PU]
  refine Inv.oneL (i := 8) rfl Z4 (fun K hK => ?_)
  go_simp
  refine (ofN 1 Z5).mono ?_
  rintro e w9 ⟨v_o, rfl, hN, hB⟩
  try go_wp2_with fail
  have B9 := Aside0.mk hB
  have T9 := tT T8 hB
  have H_o := Aside0.mk hN
  clear hN hB
  have U9 := tT U8 B9.out
  refine hK.out _ _ (HS6.out _ U9.out) (fun hHeld => ?_)
  clear hK K
  try simp only [PU]
  refine Inv.oneL (i := 13) rfl Z4 (fun K hK => ?_)
  go_simp
  refine (shl_nuI (-ex).toNat Z31 H_o.out (pw_of_two (k := 1) Z5 Z5) (by omega)).mono ?_
  rintro e w10 ⟨v_s2, rfl, hN, hB⟩
  try go_wp2_with fail
  have B10 := Aside0.mk hB
  have T10 := tT T9 hB
  have H_s2 := Aside0.mk hN
  clear hN hB
  have U10 := tT U9 B10.out
  refine hK.out _ _ (HS6.out _ U10.out) (fun hHeld => ?_)
  clear hK K
  try simp only [PU]
  refine Inv.oneL (i := 14) rfl Z4 (fun K hK => ?_)
  go_simp
  refine ((qmake_w b ((H_s1.out.below B9.out).below B10.out) H_s2.out (Nat.lt_trans hb1 (pw_lt Z5)) (Nat.lt_trans hb2 (pw_lt Z5)) hd0).mono fun _ _ h => low_ratE (x := X) hd0 HXE.out h).mono ?_
  rintro e w11 ⟨v_q, rfl, ⟨A_q, M_q, c_q, B_q, K_q, d_q, rfl, hNA, hNB⟩, hB⟩
  try go_wp2_with fail
  have B11 := Aside0.mk hB
  have T11 := tT T10 hB
  obtain ⟨b_q, hb_q⟩ : ∃ b, b = decide (Rat.num (X) < 0) := ⟨_, rfl⟩
  try rw [← hb_q]
  have E_q := Aside0.mk hb_q
  clear hb_q
  have NA_q := Aside0.mk hNA
  have NB_q := Aside0.mk hNB
  clear hNA hNB hB
  have H_q := Aside0.mk (show Ra w11 (.agg #[.bool b_q, .slice A_q M_q c_q, .slice B_q K_q d_q]) (X) from by unfold Ra; rw [← E_q.out]; exact ⟨_, _, _, _, _, _, rfl, NA_q.out, NB_q.out⟩)
  have H_NAq := Aside0.mk NA_q.out
  have H_NBq := Aside0.mk NB_q.out
  have U11 := tT U10 B11.out
  refine hK.out _ _ (HS6.out _ U11.out) (fun hHeld => ?_)
  clear hK K
  try simp only [PU]
  refine Inv.tk 15 (h := ?_)
  try simp only [PU]
  refine Inv.tk 16 (h := ?_)
  try simp only [PU]
  refine Inv.tk 17 (h := ?_)
  try simp only [PU]
  refine Inv.oneL (i := 19) rfl Z4 (fun K hK => ?_)
  obtain ⟨⟨zc0, zc1, zc2⟩, zf0, zf1, zf2⟩ := ((((H_l5.out.below B8.out).below B9.out).below B10.out).below B11.out)
  have HNE := Aside0.mk (show (w4.heap.size + 1) ≠ w4.heap.size by have h := HN5.out; first | exact h | omega | (simp at h; omega))
  have HRE := Aside0.mk (show (w4.heap.size + 1) ≠ w.heap.size by have h := HR5.out; first | exact h | (simp at h; omega))
  have HRB := Aside0.mk (blk_far3 HRE.out (a := .bool b_q) (b := .slice A_q M_q c_q) (c := .slice B_q K_q d_q) ((((((((((H_res.out.below B2.out).below B3.out).below B4.out).below B5.out).below B6.out).below B7.out).below B8.out).below B9.out).below B10.out).below B11.out))
  have HNN := Aside0.mk (Nu_set3 ((((H_l5.out.below B8.out).below B9.out).below B10.out).below B11.out) (.bool b_q) (.slice A_q M_q c_q) (.slice B_q K_q d_q) H_NAq.out)
  have HND := Aside0.mk (Nu_set3 ((((H_l5.out.below B8.out).below B9.out).below B10.out).below B11.out) (.bool b_q) (.slice A_q M_q c_q) (.slice B_q K_q d_q) H_NBq.out)
  have HBB := Aside0.mk (below_set3 T11.out HL5.out (.bool b_q) (.slice A_q M_q c_q) (.slice B_q K_q d_q))
  have HKK := Aside0.mk (HS6.out _ U11.out)
  go_simp
  refine hK.out _ _ Z26 (fun hHeld => ?_)
  clear hK K
  try simp only [PU]
  refine Inv.tk 20 (h := ?_)
  try simp only [PU]
  refine wpAnyH_done Z4 ?_ _
  obtain ⟨⟨yc0, yc1, yc2⟩, yf0, yf1, yf2⟩ := HRB.out
  have HD := Aside0.mk (Nu_set3 HRB.out (.bool b_q) (.slice A_q M_q c_q) (.slice B_q K_q d_q) HNN.out)
  have HE := Aside0.mk (Nu_set3 HRB.out (.bool b_q) (.slice A_q M_q c_q) (.slice B_q K_q d_q) HND.out)
  have HF := Aside0.mk (below_set3 HBB.out (show w.heap.size ≤ w.heap.size by omega) (.bool b_q) (.slice A_q M_q c_q) (.slice B_q K_q d_q))
  go_wp2_with fail
  exact Z53
end Go.Proofs.YtpegcppeobndcaaGreatDoor.Fl
