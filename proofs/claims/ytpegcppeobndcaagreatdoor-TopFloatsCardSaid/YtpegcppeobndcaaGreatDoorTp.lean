/- ival.Add at two finite floats, by hand. -/
import Derived.Test.YtpegcppeobndcaaGreatDoorAb
import Derived.Test.YtpegcppeobndcaaGreatDoorTo
import Derived.Test.YtpegcppeobndcaaGreatDoorS6
set_option linter.unusedVariables false
namespace Go.Proofs.YtpegcppeobndcaaGreatDoor.Fl
open Go.RowKit YtpegcppeobndcaaGreatDoorW.PrintWords YtpegcppeobndcaaGreatDoorW.PrintLast YtpegcppeobndcaaGreatDoorW.PrintMore Go.Proofs.YtpegcppeobndcaaGreatDoor.Nn Go.Proofs.YtpegcppeobndcaaGreatDoor.G Go.Proofs.YtpegcppeobndcaaGreatDoor.Giv Go.Proofs.YtpegcppeobndcaaGreatDoor.PFl
def CellAt (w : World) (g i : Nat) (v : Value) : Prop := w.cell? ⟨g, i, none⟩ = some v
theorem CellAt.below {w w1 : World} {g i : Nat} {v : Value} (h : CellAt w g i v) (hb : Below w.heap.size w w1) : CellAt w1 g i v := by
 unfold CellAt at h ⊢
 rw [hb.cell (p := ⟨g, i, none⟩) (cell_lt h)]
 exact h
def Blk2 (w : World) (g : Nat) (a b : Value) : Prop := (w.cell? ⟨g, 0, none⟩ = some a ∧ w.cell? ⟨g, 1, none⟩ = some b) ∧ w.frozen? ⟨g, 0, none⟩ = false ∧ w.frozen? ⟨g, 1, none⟩ = false
theorem Blk2.below {w w1 : World} {g : Nat} {a b : Value} (h : Blk2 w g a b) (hb : Below w.heap.size w w1) : Blk2 w1 g a b := by
 obtain ⟨⟨h0, h1⟩, f0, f1⟩ := h
 have hg := cell_lt h0
 exact Z57
theorem Blk2_alloc {W : World} {g : Nat} (a b : Value) (t : TypeId) (hg : W.heap.size = g) : Blk2 (W.alloc (.cells #[a, b] t)) g a b := by
 subst hg
 exact ⟨⟨by simp, by simp⟩, by simp, by simp⟩
theorem cell_far2 {w : World} {g p i : Nat} {a b v : Value} (hne : g ≠ p) (h : w.cell? ⟨g, i, none⟩ = some v) : ((w.setCell ⟨p, 0, none⟩ a).setCell ⟨p, 1, none⟩ b).cell? ⟨g, i, none⟩ = some v := by
 rw [World.cell?_setCell_other (h := by intro h; cases h; exact hne rfl), World.cell?_setCell_other (h := by intro h; cases h; exact hne rfl)]
 exact h
set_option maxHeartbeats 4000000 in
theorem does_w {w : World} {x y : Nat} {mode : Int} (hx : ffin x) (hy : ffin y) (h0 : 0 ≤ mode) (h5 : mode < 5) : Calls Tryz.prog 34 #[.func (.func 12) #[] #[], .int .u64 (x : Int), .int .u64 (y : Int), .int .i64 mode] w (fun e w' => e = .returned (.int .u64 ((addV x y mode : Nat) : Int)) ∧ Below w.heap.size w w') := by
 have HA := Aside0.mk (Add_w (w := w) hx hy h0 h5)
 go_enter Tryz.func34, Tryz.ntmps34
 go_wp2_with fail
 refine HA.out.mono ?_
 rintro e1 w1 ⟨rfl, hB⟩
 have HB := Aside0.mk hB
 clear hB
 go_wp2_with fail
 go_ret
 exact ⟨rfl, HB.out⟩
set_option maxHeartbeats 2000000 in
set_option maxRecDepth 100000 in
theorem ivalAdd_w {w : World} {x y : Nat} (hx : ffin x) (hy : ffin y) : Calls Tryz.prog 11 #[.agg #[.int .u64 (x : Int), .int .u64 (x : Int)], .agg #[.int .u64 (y : Int), .int .u64 (y : Int)]] w (fun e w' => e = .returned (.agg #[.int .u64 ((addV x y 2 : Nat) : Int), .int .u64 ((addV x y 3 : Nat) : Int)]) ∧ Below w.heap.size w w') := by
 have HX := Aside0.mk hx
 have HY := Aside0.mk hy
 clear hx hy
 go_enter Tryz.func11, Tryz.ntmps11
 have B1 := Aside0.mk (below_alloc (Below.refl w.heap.size w) (.cells #[.int .u64 (x : Int), .int .u64 (x : Int)] 37))
 have T1 := Aside0.mk (B1.out.mono (Nat.le_refl _))
 have H_a0 := Aside0.mk (show CellAt (w.alloc (.cells #[.int .u64 (x : Int), .int .u64 (x : Int)] 37)) (w.heap.size) 0 (.int .u64 (x : Int)) by unfold CellAt; simp)
 have H_a1 := Aside0.mk (show CellAt (w.alloc (.cells #[.int .u64 (x : Int), .int .u64 (x : Int)] 37)) (w.heap.size) 1 (.int .u64 (x : Int)) by unfold CellAt; simp)
 have B2 := Aside0.mk (below_alloc (Below.refl (w.alloc (.cells #[.int .u64 (x : Int), .int .u64 (x : Int)] 37)).heap.size (w.alloc (.cells #[.int .u64 (x : Int), .int .u64 (x : Int)] 37))) (.cells #[.int .u64 (y : Int), .int .u64 (y : Int)] 37))
 have T2 := tT T1 B2.out
 have H_b0 := Aside0.mk (show CellAt ((w.alloc (.cells #[.int .u64 (x : Int), .int .u64 (x : Int)] 37)).alloc (.cells #[.int .u64 (y : Int), .int .u64 (y : Int)] 37)) (w.heap.size + 1) 0 (.int .u64 (y : Int)) by unfold CellAt; simp)
 have H_b1 := Aside0.mk (show CellAt ((w.alloc (.cells #[.int .u64 (x : Int), .int .u64 (x : Int)] 37)).alloc (.cells #[.int .u64 (y : Int), .int .u64 (y : Int)] 37)) (w.heap.size + 1) 1 (.int .u64 (y : Int)) by unfold CellAt; simp)
 have B3 := Aside0.mk (below_alloc (Below.refl ((w.alloc (.cells #[.int .u64 (x : Int), .int .u64 (x : Int)] 37)).alloc (.cells #[.int .u64 (y : Int), .int .u64 (y : Int)] 37)).heap.size ((w.alloc (.cells #[.int .u64 (x : Int), .int .u64 (x : Int)] 37)).alloc (.cells #[.int .u64 (y : Int), .int .u64 (y : Int)] 37))) (.cells #[.int .u64 0, .int .u64 0] 37))
 have T3 := tT T2 B3.out
 have H_res := Aside0.mk (show Blk2 (((w.alloc (.cells #[.int .u64 (x : Int), .int .u64 (x : Int)] 37)).alloc (.cells #[.int .u64 (y : Int), .int .u64 (y : Int)] 37)).alloc (.cells #[.int .u64 0, .int .u64 0] 37)) (w.heap.size + 2) (.int .u64 0) (.int .u64 0) from Blk2_alloc _ _ _ Z33)
 have HNA := Aside0.mk (show w.heap.size ≠ w.heap.size + 2 by omega)
 have HNB := Aside0.mk (show w.heap.size + 1 ≠ w.heap.size + 2 by omega)
 go_wp2_with fail
 have B4 := Aside0.mk (Below.drew (Below.refl (((w.alloc (.cells #[.int .u64 (x : Int), .int .u64 (x : Int)] 37)).alloc (.cells #[.int .u64 (y : Int), .int .u64 (y : Int)] 37)).alloc (.cells #[.int .u64 0, .int .u64 0] 37)).heap.size (((w.alloc (.cells #[.int .u64 (x : Int), .int .u64 (x : Int)] 37)).alloc (.cells #[.int .u64 (y : Int), .int .u64 (y : Int)] 37)).alloc (.cells #[.int .u64 0, .int .u64 0] 37))))
 have T4 := tT T3 B4.out
 have HS4 := Aside0.mk (fun (W : World) (hW : Below ((((w.alloc (.cells #[.int .u64 (x : Int), .int .u64 (x : Int)] 37)).alloc (.cells #[.int .u64 (y : Int), .int .u64 (y : Int)] 37)).alloc (.cells #[.int .u64 0, .int .u64 0] 37)).drew).heap.size ((((w.alloc (.cells #[.int .u64 (x : Int), .int .u64 (x : Int)] 37)).alloc (.cells #[.int .u64 (y : Int), .int .u64 (y : Int)] 37)).alloc (.cells #[.int .u64 0, .int .u64 0] 37)).drew) W) => show W.cell? ⟨w.heap.size, 0, none⟩ = some (.int .u64 (x : Int)) ∧ W.cell? ⟨w.heap.size, 1, none⟩ = some (.int .u64 (x : Int)) ∧ W.cell? ⟨w.heap.size + 1, 0, none⟩ = some (.int .u64 (y : Int)) ∧ W.cell? ⟨w.heap.size + 1, 1, none⟩ = some (.int .u64 (y : Int)) from ⟨((((H_a0.out.below B2.out).below B3.out).below B4.out).below hW), ((((H_a1.out.below B2.out).below B3.out).below B4.out).below hW), (((H_b0.out.below B3.out).below B4.out).below hW), (((H_b1.out.below B3.out).below B4.out).below hW)⟩)
 have U4 := Aside0.mk (Below.refl ((((w.alloc (.cells #[.int .u64 (x : Int), .int .u64 (x : Int)] 37)).alloc (.cells #[.int .u64 (y : Int), .int .u64 (y : Int)] 37)).alloc (.cells #[.int .u64 0, .int .u64 0] 37)).drew).heap.size ((((w.alloc (.cells #[.int .u64 (x : Int), .int .u64 (x : Int)] 37)).alloc (.cells #[.int .u64 (y : Int), .int .u64 (y : Int)] 37)).alloc (.cells #[.int .u64 0, .int .u64 0] 37)).drew))
 refine wp_region_held_drew (S := fun W => W.cell? ⟨w.heap.size, 0, none⟩ = some (.int .u64 (x : Int)) ∧ W.cell? ⟨w.heap.size, 1, none⟩ = some (.int .u64 (x : Int)) ∧ W.cell? ⟨w.heap.size + 1, 0, none⟩ = some (.int .u64 (y : Int)) ∧ W.cell? ⟨w.heap.size + 1, 1, none⟩ = some (.int .u64 (y : Int))) Z4 (HS4.out _ (Below.refl _ _)) (fun hHeld => ?_)
 refine Inv.tk 0 (h := ?_)
 try simp only [PU]
 refine Inv.tk 1 (h := ?_)
 try simp only [PU]
 refine Inv.tk 2 (h := ?_)
 try simp only [PU]
 refine Inv.tk 3 (h := ?_)
 try simp only [PU]
 refine Inv.tk 4 (h := ?_)
 try simp only [PU]
 refine Inv.tk 6 (h := ?_)
 try simp only [PU]
 refine Inv.tk 7 (h := ?_)
 try simp only [PU]
 refine Inv.tk 8 (h := ?_)
 try simp only [PU]
 refine Inv.tk 9 (h := ?_)
 try simp only [PU]
 refine Inv.tk 10 (h := ?_)
 try simp only [PU]
 refine Inv.oneL (i := 5) rfl Z4 (fun K hK => ?_)
 have HC : Aside0 (Calls Tryz.prog 34 #[.func (.func 12) #[] #[], .int .u64 (x : Int), .int .u64 (y : Int), .int .i64 2] ((((w.alloc (.cells #[.int .u64 (x : Int), .int .u64 (x : Int)] 37)).alloc (.cells #[.int .u64 (y : Int), .int .u64 (y : Int)] 37)).alloc (.cells #[.int .u64 0, .int .u64 0] 37)).drew) (fun e w' => e = .returned (.int .u64 ((addV x y 2 : Nat) : Int)) ∧ Below ((((w.alloc (.cells #[.int .u64 (x : Int), .int .u64 (x : Int)] 37)).alloc (.cells #[.int .u64 (y : Int), .int .u64 (y : Int)] 37)).alloc (.cells #[.int .u64 0, .int .u64 0] 37)).drew).heap.size ((((w.alloc (.cells #[.int .u64 (x : Int), .int .u64 (x : Int)] 37)).alloc (.cells #[.int .u64 (y : Int), .int .u64 (y : Int)] 37)).alloc (.cells #[.int .u64 0, .int .u64 0] 37)).drew) w')) := ⟨does_w HX.out HY.out Z5 Z5⟩
 go_simp
 refine HC.out.mono ?_
 clear HC
 rintro e w5 ⟨rfl, hB⟩
 try go_wp2_with fail
 have B5 := Aside0.mk hB
 have T5 := tT T4 hB
 clear hB
 have U5 := tT U4 B5.out
 refine hK.out _ _ (HS4.out _ U5.out) (fun hHeld => ?_)
 clear hK K
 try simp only [PU]
 refine Inv.oneL (i := 11) rfl Z4 (fun K hK => ?_)
 have HC : Aside0 (Calls Tryz.prog 34 #[.func (.func 12) #[] #[], .int .u64 (x : Int), .int .u64 (y : Int), .int .i64 3] w5 (fun e w' => e = .returned (.int .u64 ((addV x y 3 : Nat) : Int)) ∧ Below w5.heap.size w5 w')) := ⟨does_w HX.out HY.out Z5 Z5⟩
 go_simp
 refine HC.out.mono ?_
 clear HC
 rintro e w6 ⟨rfl, hB⟩
 try go_wp2_with fail
 have B6 := Aside0.mk hB
 have T6 := tT T5 hB
 clear hB
 have U6 := tT U5 B6.out
 refine hK.out _ _ (HS4.out _ U6.out) (fun hHeld => ?_)
 clear hK K
 try simp only [PU]
 refine Inv.tk 12 (h := ?_)
 try simp only [PU]
 refine Inv.oneL (i := 13) rfl Z4 (fun K hK => ?_)
 obtain ⟨⟨zc0, zc1⟩, zf0, zf1⟩ := (((H_res.out.below B4.out).below B5.out).below B6.out)
 have HDONE := Aside0.mk (G.below_set (G.below_set T6.out (show w.heap.size ≤ w.heap.size + 2 by omega) 0 (.int .u64 ((addV x y 2 : Nat) : Int))) (show w.heap.size ≤ w.heap.size + 2 by omega) 1 (.int .u64 ((addV x y 3 : Nat) : Int)))
 have HKK := Aside0.mk (HS4.out _ U6.out)
 go_simp
 refine hK.out _ _ (by obtain ⟨k0, k1, k2, k3⟩ := HKK.out; exact ⟨cell_far2 HNA.out k0, cell_far2 HNA.out k1, cell_far2 HNB.out k2, cell_far2 HNB.out k3⟩) (fun hHeld => ?_)
 clear hK K
 try simp only [PU]
 refine wpAnyH_done Z4 ?_ _
 go_wp2_with fail
 exact bodyPost_ret (v := .agg #[.int .u64 ((addV x y 2 : Nat) : Int), .int .u64 ((addV x y 3 : Nat) : Int)]) (by simp [results, Tryz.results11, go_sem, *]) rfl ⟨rfl, HDONE.out⟩
end Go.Proofs.YtpegcppeobndcaaGreatDoor.Fl
