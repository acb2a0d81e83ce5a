/- The law RatTexts: the walk through its calls, by their contracts; the row and its card. -/
import Derived.Test.YtklhpobphloehaaDoorS4
import Derived.Test.YtklhpobphloehaaDoorS6
import Derived.Test.YtklhpobphloehaaDoorS7
set_option linter.unusedVariables false
namespace Go.Proofs.YtklhpobphloehaaDoor.ratTexts
open Go.RowKit
open Go.Proofs.YtklhpobphloehaaDoor.G Go.Proofs.YtklhpobphloehaaDoor.Nn Go.Proofs.YtklhpobphloehaaDoorW.PrintWords Go.Proofs.YtklhpobphloehaaDoorW.PrintLast

open Go.Lib (decDigits)
theorem bx (W : World) (g : Nat) (a b c : Value) (t : TypeId) (hg : W.heap.size = g) : Blk (W.alloc (.cells #[a, b, c] t)) g a b c := by
  subst hg
  exact Blk_alloc W a b c t
theorem szeroR (w : World) : Calls Tryd.prog 71 #[] w (RaPost w (0 : Rat)) := (szero_w w).mono fun e w' ⟨v, he, hR, hB⟩ => ⟨v, he, hR, hB⟩
theorem rb_zero : Rb 1 (0 : Rat) := ⟨by decide, by decide⟩
theorem rb_int {n : Int} (h : n.natAbs < 4294967296) : Rb 1 ((n : Int) : Rat) := ⟨by show n.natAbs < pw 1; exact h, by show 1 < pw 1; decide⟩
theorem ssameR {w : World} {v0 v1 : Value} {x y : Rat} (hx : Ra w v0 x) (hy : Ra w v1 y) (bx : Rb 400 x) (h : x = y) : Calls Tryd.prog 58 #[v0, v1] w (TruePost w) := by
  subst h
  exact ssame_w hx hy (pw_lt1000 bx.1 (by omega)) (pw_lt1000 bx.2 (by omega))
theorem litC (W : World) (n : Nat) (l : List Int) (cs : Array Value) (g : Nat) (hn : l.length = n) (hc : cs = (nums .u32 l).toArray) (hp : n < 10 ∧ 0 < n) (hg : W.heap.size = g) : RU (W.alloc (.cells cs 54)) W.heap.size (.slice (some ⟨g, 0, none⟩) n n) l := by
  subst hn hc hg
  exact RU_own (own_lit W W.heap.size 54 .u32 l (Nat.le_refl _) (by omega))
theorem litN (W : World) (N n : Nat) (l : List Int) (cs : Array Value) (g : Nat) (hn : l.length = n) (hc : cs = (nums .u32 l).toArray) (hp : n < 10 ∧ 0 < n) (hv : val l = N ∧ l.getD (l.length - 1) 1 ≠ 0) (hL : ∀ x ∈ l, 0 ≤ x ∧ x < 4294967296) (hg : W.heap.size = g) : Nu (W.alloc (.cells cs 54)) (.slice (some ⟨g, 0, none⟩) n n) N := by
  have h := litC W n l cs g hn hc hp hg
  have e : digs N = l := by rw [← hv.1]; exact digs_val hL hv.2
  rw [← e] at h
  exact Nu_of_RU h
theorem nu_zero {w : World} {v : Value} (h : Nu w v 0) : ∃ A c, v = .slice A 0 c := by
  obtain ⟨A, c, e, _, _⟩ := h
  rw [digs_zero, List.length_nil] at e
  exact ⟨A, c, e⟩
theorem txt_len (b : Bool) {n d : Nat} (hn : n < pw 30) (hd : d < pw 30) : (ratT b n d).length ≤ 802 := by
  have h1 := dec_short hn
  have h2 := dec_short hd
  unfold ratT
  split <;> split <;> simp <;> omega
theorem rat_r3 {W : World} {b : Bool} {A A' : Option Addr} {L c L' c' n d : Nat} (h1 : Nu W (.slice A L c) n) (h2 : Nu W (.slice A' L' c') d) : R3 W (.agg #[.bool b, .slice A L c, .slice A' L' c']) b n d := ⟨_, _, _, _, _, _, rfl, h1, h2⟩
set_option maxHeartbeats 8000000 in
set_option maxRecDepth 100000 in
theorem walk (g0 : Bool) (a0b : Option Addr) (c0b : Nat) (l0b : List Int) (a0c : Option Addr) (c0c : Nat) (l0c : List Int) (a1 : Option Addr) (c1 : Nat) (l1 : List Int) (w : World) (hr0b : CU w a0b l0b.length l0b) (hc0b : l0b.length ≤ c0b) (hL0b : Lim l0b) (hr0c : CU w a0c l0c.length l0c) (hc0c : l0c.length ≤ c0c) (hL0c : Lim l0c) (hr1 : CU w a1 l1.length l1) (hc1 : l1.length ≤ c1) (hL1 : Lim l1) (HT : TabOk w) (HM : MaxOk w) :
    Calls Tryd.prog 21 #[.agg #[.bool g0, .slice a0b l0b.length c0b, .slice a0c l0c.length c0c], .slice a1 l1.length c1] w (TruePost w) := by
  have C0b := Aside0.mk hr0b
  have S0b := Aside0.mk hc0b
  have L0b := Aside0.mk hL0b
  clear hr0b hc0b hL0b
  have C0c := Aside0.mk hr0c
  have S0c := Aside0.mk hc0c
  have L0c := Aside0.mk hL0c
  clear hr0c hc0c hL0c
  have C1 := Aside0.mk hr1
  have S1 := Aside0.mk hc1
  have L1 := Aside0.mk hL1
  clear hr1 hc1 hL1
  have TAB := Aside0.mk HT
  clear HT
  have MXL := Aside0.mk HM
  clear HM
  go_enter Tryd.func21, Tryd.ntmps21
  have B1 := Aside0.mk (below_alloc (Below.refl w.heap.size w) (.cells #[.bool g0, .slice a0b l0b.length c0b, .slice a0c l0c.length c0c] 56))
  have T1 := Aside0.mk (B1.out.mono (Nat.le_refl _))
  have H_bx0 := Aside0.mk (bx w (w.heap.size) (.bool g0) (.slice a0b l0b.length c0b) (.slice a0c l0c.length c0c) 56 (by simp))
  have HC : Aside0 (Calls Tryd.prog 55 #[] (w.alloc (.cells #[.bool g0, .slice a0b l0b.length c0b, .slice a0c l0c.length c0c] 56)) (TruePost (w.alloc (.cells #[.bool g0, .slice a0b l0b.length c0b, .slice a0c l0c.length c0c] 56)))) := ⟨known2_w (w.alloc (.cells #[.bool g0, .slice a0b l0b.length c0b, .slice a0c l0c.length c0c] 56)) (TAB.out.below B1.out)⟩
  go_wp2_with fail
  refine HC.out.mono ?_
  clear HC
  rintro e w2 ⟨rfl, hB⟩
  have B2 := Aside0.mk hB
  have T2 := Aside0.mk (T1.out.trans (hB.mono T1.out.size))
  clear hB
  obtain ⟨⟨hu00, hu01, hu02⟩, _⟩ := (H_bx0.out.below B2.out)
  have HC : Aside0 (Calls Tryd.prog 67 #[.agg #[.bool g0, .slice a0b l0b.length c0b, .slice a0c l0c.length c0c]] w2 (RaPost w2 (mkR g0 l0b l0c))) := ⟨lmake_w g0 (CU_below C0b.out T2.out) S0b.out L0b.out (CU_below C0c.out T2.out) S0c.out L0c.out⟩
  go_wp2_with fail
  refine HC.out.mono ?_
  clear HC
  rintro e w3 ⟨v_x, rfl, ⟨A_x, M_x, c_x, B_x, K_x, d_x, rfl, hNA, hNB⟩, hB⟩
  have B3 := Aside0.mk hB
  have T3 := Aside0.mk (T2.out.trans (hB.mono T2.out.size))
  obtain ⟨b_x, hb_x⟩ : ∃ b, b = decide (Rat.num (mkR g0 l0b l0c) < 0) := ⟨_, rfl⟩
  rw [← hb_x]
  have E_x := Aside0.mk hb_x
  clear hb_x
  have NA_x := Aside0.mk hNA
  have NB_x := Aside0.mk hNB
  clear hNA hNB hB
  clear hu00 hu01 hu02
  have H_bx_x := Aside0.mk (Blk_alloc w3 (.bool b_x) (.slice A_x M_x c_x) (.slice B_x K_x d_x) 56)
  have B4 := Aside0.mk (below_alloc (Below.refl w3.heap.size w3) (.cells #[.bool b_x, .slice A_x M_x c_x, .slice B_x K_x d_x] 56))
  have T4 := Aside0.mk (T3.out.trans (B4.out.mono T3.out.size))
  have H_x0 := Aside0.mk (show Ra w3 (.agg #[(.bool b_x), (.slice A_x M_x c_x), (.slice B_x K_x d_x)]) (mkR g0 l0b l0c) from by unfold Ra; rw [← E_x.out]; exact ⟨_, _, _, _, _, _, rfl, NA_x.out, NB_x.out⟩)
  have X_x := Aside0.mk (show Rb 3 (mkR g0 l0b l0c) from mkR_bnd g0 L0b.out L0c.out)
  have H_x := Aside0.mk (show Ra (w3.alloc (.cells #[.bool b_x, .slice A_x M_x c_x, .slice B_x K_x d_x] 56)) (.agg #[(.bool b_x), (.slice A_x M_x c_x), (.slice B_x K_x d_x)]) (mkR g0 l0b l0c) from R3.below H_x0.out (below_alloc (Below.refl _ _) _))
  have H_xN := Aside0.mk (Nu.below NA_x.out (below_alloc (Below.refl _ _) (.cells #[.bool b_x, .slice A_x M_x c_x, .slice B_x K_x d_x] 56)))
  have X_xN := Aside0.mk X_x.out.1
  have H_xD := Aside0.mk (Nu.below NB_x.out (below_alloc (Below.refl _ _) (.cells #[.bool b_x, .slice A_x M_x c_x, .slice B_x K_x d_x] 56)))
  have X_xD := Aside0.mk X_x.out.2
  obtain ⟨sx, hsx⟩ : ∃ l, l = ratT b_x (Rat.num (mkR g0 l0b l0c)).natAbs (Rat.den (mkR g0 l0b l0c)) := ⟨_, rfl⟩
  have HSX := Aside0.mk hsx
  clear hsx
  obtain ⟨⟨hu00, hu01, hu02⟩, _⟩ := H_bx_x.out
  have HC : Aside0 (Calls Tryd.prog 66 #[(.agg #[(.bool b_x), (.slice A_x M_x c_x), (.slice B_x K_x d_x)])] (w3.alloc (.cells #[.bool b_x, .slice A_x M_x c_x, .slice B_x K_x d_x] 56)) (TextPost (w3.alloc (.cells #[.bool b_x, .slice A_x M_x c_x, .slice B_x K_x d_x] 56)) sx)) := ⟨by rw [HSX.out]; exact qtext_w (rat_r3 H_xN.out H_xD.out) (pw_lt1000 X_xN.out (by omega)) (pw_lt1000 X_xD.out (by omega)) ((((TAB.out.below B1.out).below B2.out).below B3.out).below B4.out)⟩
  go_wp2_with fail
  refine HC.out.mono ?_
  clear HC
  rintro e w5 ⟨s, rfl, hS, hB⟩
  have B5 := Aside0.mk hB
  have T5 := Aside0.mk (T4.out.trans (hB.mono T4.out.size))
  have HS := Aside0.mk hS
  clear hS hB
  clear hu00 hu01 hu02
  have HPS := Aside0.mk (show s.data.toList = ratT (decide (Rat.num (mkR g0 l0b l0c) < 0)) (Rat.num (mkR g0 l0b l0c)).natAbs (Rat.den (mkR g0 l0b l0c)) by rw [HS.out, HSX.out, E_x.out])
  have HC : Aside0 (Calls Tryd.prog 77 #[.string s] w5 (RaPostE w5 (mkR g0 l0b l0c) 0)) := ⟨parse_ratT (X_x.out.le (by decide)) HPS.out (((((MXL.out.below B1.out).below B2.out).below B3.out).below B4.out).below B5.out)⟩
  go_wp2_with fail
  refine HC.out.mono ?_
  clear HC
  rintro e w6 ⟨v_y, rfl, ⟨A_y, M_y, c_y, B_y, K_y, d_y, rfl, hNA, hNB⟩, hB⟩
  have B6 := Aside0.mk hB
  have T6 := Aside0.mk (T5.out.trans (hB.mono T5.out.size))
  obtain ⟨b_y, hb_y⟩ : ∃ b, b = decide (Rat.num (mkR g0 l0b l0c) < 0) := ⟨_, rfl⟩
  rw [← hb_y]
  have E_y := Aside0.mk hb_y
  clear hb_y
  have NA_y := Aside0.mk hNA
  have NB_y := Aside0.mk hNB
  clear hNA hNB hB
  have H_bx_y := Aside0.mk (Blk_alloc w6 (.bool b_y) (.slice A_y M_y c_y) (.slice B_y K_y d_y) 56)
  have B7 := Aside0.mk (below_alloc (Below.refl w6.heap.size w6) (.cells #[.bool b_y, .slice A_y M_y c_y, .slice B_y K_y d_y] 56))
  have T7 := Aside0.mk (T6.out.trans (B7.out.mono T6.out.size))
  have H_y0 := Aside0.mk (show Ra w6 (.agg #[(.bool b_y), (.slice A_y M_y c_y), (.slice B_y K_y d_y)]) (mkR g0 l0b l0c) from by unfold Ra; rw [← E_y.out]; exact ⟨_, _, _, _, _, _, rfl, NA_y.out, NB_y.out⟩)
  have X_y := Aside0.mk (show Rb 3 (mkR g0 l0b l0c) from X_x.out)
  have H_y := Aside0.mk (show Ra (w6.alloc (.cells #[.bool b_y, .slice A_y M_y c_y, .slice B_y K_y d_y] 56)) (.agg #[(.bool b_y), (.slice A_y M_y c_y), (.slice B_y K_y d_y)]) (mkR g0 l0b l0c) from R3.below H_y0.out (below_alloc (Below.refl _ _) _))
  have HC : Aside0 (Calls Tryd.prog 24 #[.slice a1 l1.length c1, .int .i64 3] (w6.alloc (.cells #[.bool b_y, .slice A_y M_y c_y, .slice B_y K_y d_y] 56)) (NuPost (w6.alloc (.cells #[.bool b_y, .slice A_y M_y c_y, .slice B_y K_y d_y] 56)) (mk l1 3))) := ⟨makeN 3 (CU_below C1.out T7.out) S1.out L1.out (by decide)⟩
  go_wp2_with fail
  refine HC.out.mono ?_
  clear HC
  rintro e w8 ⟨v_k, rfl, hN, hB⟩
  have B8 := Aside0.mk hB
  have T8 := Aside0.mk (T7.out.trans (hB.mono T7.out.size))
  have H_k := Aside0.mk hN
  have X_k := Aside0.mk (show mk l1 3 < pw 3 from mk_lt L1.out 3)
  clear hN hB
  obtain ⟨A_k, c_k, rfl, _, _⟩ := H_k.out
  by_cases hk : (mk l1 3) = 0
  ·
    have hl0 : (digs (mk l1 3)).length = 0 := digs_length_zero.2 hk
    clear hk
    go_wp2_with fail
    have B9 := Aside0.mk (below_alloc (Below.refl w8.heap.size w8) (.cells #[.int .u32 2] 54))
    have T9 := Aside0.mk (T8.out.trans (B9.out.mono T8.out.size))
    have H_two := Aside0.mk (litN w8 2 1 [2] #[.int .u32 2] (w8.heap.size) rfl rfl (by decide) (by decide) (by decide) (by simp))
    have X_two := Aside0.mk (show 2 < pw 2 by decide)
    have KP := Aside0.mk (show (2 : Nat) ≠ 0 by decide)
    go_wp2_with fail
    have B10 := Aside0.mk (Below.drew (Below.refl (w8.alloc (.cells #[.int .u32 2] 54)).heap.size (w8.alloc (.cells #[.int .u32 2] 54))))
    have T10 := Aside0.mk (T9.out.trans (B10.out.mono T9.out.size))
    have HS10 := Aside0.mk (fun (W : World) (hW : Below ((w8.alloc (.cells #[.int .u32 2] 54)).drew).heap.size ((w8.alloc (.cells #[.int .u32 2] 54)).drew) W) => show W.cell? ⟨w3.heap.size, 0, none⟩ = some (.bool b_x) ∧ W.cell? ⟨w3.heap.size, 1, none⟩ = some (.slice A_x M_x c_x) ∧ W.cell? ⟨w3.heap.size, 2, none⟩ = some (.slice B_x K_x d_x) from ⟨(((((((H_bx_x.out.below B5.out).below B6.out).below B7.out).below B8.out).below B9.out).below B10.out).below hW).1.1, (((((((H_bx_x.out.below B5.out).below B6.out).below B7.out).below B8.out).below B9.out).below B10.out).below hW).1.2.1, (((((((H_bx_x.out.below B5.out).below B6.out).below B7.out).below B8.out).below B9.out).below B10.out).below hW).1.2.2⟩)
    have U10 := Aside0.mk (Below.refl ((w8.alloc (.cells #[.int .u32 2] 54)).drew).heap.size ((w8.alloc (.cells #[.int .u32 2] 54)).drew))
    refine wp_region_held_drew (S := fun W => W.cell? ⟨w3.heap.size, 0, none⟩ = some (.bool b_x) ∧ W.cell? ⟨w3.heap.size, 1, none⟩ = some (.slice A_x M_x c_x) ∧ W.cell? ⟨w3.heap.size, 2, none⟩ = some (.slice B_x K_x d_x)) (by kernel_rfl) (HS10.out _ (Below.refl _ _)) (fun hHeld => ?_)
    refine Inv.takeL (i := 0) (v := ?v10_0) rfl (by kernel_rfl) (by kernel_rfl) (by kernel_rfl) (fun _ _ _ h => h) (by rfl) ?hy10_0 (by assumption) ?rest10_0
    case hy10_0 => ((intro w hSw; (try dsimp only at hSw); go_simp) <;> with_reducible rfl)
    try simp only [Act.put, List.setIfInBounds_toArray, List.set_cons_zero, List.set_cons_succ]
    refine Inv.takeL (i := 1) (v := ?v10_1) rfl (by kernel_rfl) (by kernel_rfl) (by kernel_rfl) (fun _ _ _ h => h) (by rfl) ?hy10_1 (by assumption) ?rest10_1
    case hy10_1 => ((intro w hSw; (try dsimp only at hSw); go_simp) <;> with_reducible rfl)
    try simp only [Act.put, List.setIfInBounds_toArray, List.set_cons_zero, List.set_cons_succ]
    refine Inv.takeL (i := 2) (v := ?v10_2) rfl (by kernel_rfl) (by kernel_rfl) (by kernel_rfl) (fun _ _ _ h => h) (by rfl) ?hy10_2 (by assumption) ?rest10_2
    case hy10_2 => ((intro w hSw; (try dsimp only at hSw); go_simp) <;> with_reducible rfl)
    try simp only [Act.put, List.setIfInBounds_toArray, List.set_cons_zero, List.set_cons_succ]
    refine Inv.takeL (i := 6) (v := ?v10_6) rfl (by kernel_rfl) (by kernel_rfl) (by kernel_rfl) (fun _ _ _ h => h) (by rfl) ?hy10_6 (by assumption) ?rest10_6
    case hy10_6 => ((intro w hSw; (try dsimp only at hSw); go_simp) <;> with_reducible rfl)
    try simp only [Act.put, List.setIfInBounds_toArray, List.set_cons_zero, List.set_cons_succ]
    refine Inv.takeL (i := 7) (v := ?v10_7) rfl (by kernel_rfl) (by kernel_rfl) (by kernel_rfl) (fun _ _ _ h => h) (by rfl) ?hy10_7 (by assumption) ?rest10_7
    case hy10_7 => ((intro w hSw; (try dsimp only at hSw); go_simp) <;> with_reducible rfl)
    try simp only [Act.put, List.setIfInBounds_toArray, List.set_cons_zero, List.set_cons_succ]
    refine Inv.takeL (i := 8) (v := ?v10_8) rfl (by kernel_rfl) (by kernel_rfl) (by kernel_rfl) (fun _ _ _ h => h) (by rfl) ?hy10_8 (by assumption) ?rest10_8
    case hy10_8 => ((intro w hSw; (try dsimp only at hSw); go_simp) <;> with_reducible rfl)
    try simp only [Act.put, List.setIfInBounds_toArray, List.set_cons_zero, List.set_cons_succ]
    have HC : Aside0 (Calls Tryd.prog 50 #[(.slice A_x M_x c_x), (.slice (some ⟨w8.heap.size, 0, none⟩) 1 1)] ((w8.alloc (.cells #[.int .u32 2] 54)).drew) (NuPost ((w8.alloc (.cells #[.int .u32 2] 54)).drew) ((Rat.num (mkR g0 l0b l0c)).natAbs * 2))) := ⟨rmulN ((((((H_xN.out.below B5.out).below B6.out).below B7.out).below B8.out).below B9.out).below B10.out) (H_two.out.below B10.out) (pw_lt1000 X_xN.out (by omega)) (pw_lt1000 X_two.out (by omega))⟩
    refine Inv.oneL (i := 3) rfl (by kernel_rfl) (fun K hK => ?_)
    go_simp
    refine HC.out.mono ?_
    clear HC
    rintro e w11 ⟨v_nk, rfl, hN, hB⟩
    try go_wp2_with fail
    have B11 := Aside0.mk hB
    have T11 := Aside0.mk (T10.out.trans (hB.mono T10.out.size))
    have H_nk := Aside0.mk hN
    have X_nk := Aside0.mk (show (Rat.num (mkR g0 l0b l0c)).natAbs * 2 < pw 5 from pw_mulb X_xN.out X_two.out)
    clear hN hB
    have U11 := Aside0.mk (U10.out.trans (B11.out.mono U10.out.size))
    refine hK.out _ _ (HS10.out _ U11.out) (fun hHeld => ?_)
    clear hK K
    try simp only [Act.put, List.setIfInBounds_toArray, List.set_cons_zero, List.set_cons_succ]
    have HC : Aside0 (Calls Tryd.prog 27 #[v_nk] w11 (TextPost w11 (Go.Lib.decDigits ((Rat.num (mkR g0 l0b l0c)).natAbs * 2)))) := ⟨rtext_w H_nk.out (pw_lt1000 X_nk.out (by omega))⟩
    refine Inv.oneL (i := 4) rfl (by kernel_rfl) (fun K hK => ?_)
    go_simp
    refine HC.out.mono ?_
    clear HC
    rintro e w12 ⟨t1, rfl, hS, hB⟩; have HS_t1 := Aside0.mk hS; have hz_t1 : t1.size ≤ 400 := (by rw [bytes_size hS]; exact dec_short (Nat.lt_of_lt_of_le X_nk.out (pw_le (by decide)))); clear hS; have h47 : (⟨#[47]⟩ : ByteArray).size ≤ 1 := (by decide); obtain ⟨t2, ht2, zt2⟩ := cat_twoE t1 ⟨#[47]⟩ 401 (by omega) (by decide); have HT2 := Aside0.mk ht2.2; have hcat2 := ht2.1; clear ht2
    try go_wp2_with fail
    have B12 := Aside0.mk hB
    have T12 := Aside0.mk (T11.out.trans (hB.mono T11.out.size))
    clear hB
    have U12 := Aside0.mk (U11.out.trans (B12.out.mono U11.out.size))
    refine hK.out _ _ (HS10.out _ U12.out) (fun hHeld => ?_)
    clear hK K
    try simp only [Act.put, List.setIfInBounds_toArray, List.set_cons_zero, List.set_cons_succ]
    refine Inv.takeL (i := 5) (v := ?v10_5) rfl (by kernel_rfl) (by kernel_rfl) (by kernel_rfl) (fun _ _ _ h => h) (by rfl) ?hy10_5 (by assumption) ?rest10_5
    case hy10_5 => ((intro w hSw; (try dsimp only at hSw); go_simp) <;> with_reducible rfl)
    try simp only [Act.put, List.setIfInBounds_toArray, List.set_cons_zero, List.set_cons_succ]
    have HC : Aside0 (Calls Tryd.prog 50 #[(.slice B_x K_x d_x), (.slice (some ⟨w8.heap.size, 0, none⟩) 1 1)] w12 (NuPost w12 ((Rat.den (mkR g0 l0b l0c)) * 2))) := ⟨rmulN ((((((((H_xD.out.below B5.out).below B6.out).below B7.out).below B8.out).below B9.out).below B10.out).below B11.out).below B12.out) (((H_two.out.below B10.out).below B11.out).below B12.out) (pw_lt1000 X_xD.out (by omega)) (pw_lt1000 X_two.out (by omega))⟩
    refine Inv.oneL (i := 9) rfl (by kernel_rfl) (fun K hK => ?_)
    go_simp
    refine HC.out.mono ?_
    clear HC
    rintro e w13 ⟨v_dk, rfl, hN, hB⟩
    try go_wp2_with fail
    have B13 := Aside0.mk hB
    have T13 := Aside0.mk (T12.out.trans (hB.mono T12.out.size))
    have H_dk := Aside0.mk hN
    have X_dk := Aside0.mk (show (Rat.den (mkR g0 l0b l0c)) * 2 < pw 5 from pw_mulb X_xD.out X_two.out)
    clear hN hB
    have U13 := Aside0.mk (U12.out.trans (B13.out.mono U12.out.size))
    refine hK.out _ _ (HS10.out _ U13.out) (fun hHeld => ?_)
    clear hK K
    try simp only [Act.put, List.setIfInBounds_toArray, List.set_cons_zero, List.set_cons_succ]
    have HC : Aside0 (Calls Tryd.prog 27 #[v_dk] w13 (TextPost w13 (Go.Lib.decDigits ((Rat.den (mkR g0 l0b l0c)) * 2)))) := ⟨rtext_w H_dk.out (pw_lt1000 X_dk.out (by omega))⟩
    refine Inv.oneL (i := 10) rfl (by kernel_rfl) (fun K hK => ?_)
    go_simp
    refine HC.out.mono ?_
    clear HC
    rintro e w14 ⟨t3, rfl, hS, hB⟩; have HS_t3 := Aside0.mk hS; have hz_t3 : t3.size ≤ 400 := (by rw [bytes_size hS]; exact dec_short (Nat.lt_of_lt_of_le X_dk.out (pw_le (by decide)))); clear hS; obtain ⟨t4, ht4, zt4⟩ := cat_twoE t2 t3 801 (by omega) (by decide); have HT4 := Aside0.mk ht4.2; have hcat4 := ht4.1; clear ht4
    try go_wp2_with fail
    have B14 := Aside0.mk hB
    have T14 := Aside0.mk (T13.out.trans (hB.mono T13.out.size))
    clear hB
    have U14 := Aside0.mk (U13.out.trans (B14.out.mono U13.out.size))
    refine hK.out _ _ (HS10.out _ U14.out) (fun hHeld => ?_)
    clear hK K
    try simp only [Act.put, List.setIfInBounds_toArray, List.set_cons_zero, List.set_cons_succ]
    refine Inv.takeL (i := 11) (v := ?v10_11) rfl (by kernel_rfl) (by kernel_rfl) (by kernel_rfl) (fun _ _ _ h => h) (by rfl) ?hy10_11 (by assumption) ?rest10_11
    case hy10_11 => ((intro w hSw; (try dsimp only at hSw); go_simp) <;> with_reducible rfl)
    try simp only [Act.put, List.setIfInBounds_toArray, List.set_cons_zero, List.set_cons_succ]
    refine Inv.takeL (i := 12) (v := ?v10_12) rfl (by kernel_rfl) (by kernel_rfl) (by kernel_rfl) (fun _ _ _ h => h) (by rfl) ?hy10_12 (by assumption) ?rest10_12
    case hy10_12 => ((intro w hSw; (try dsimp only at hSw); go_simp) <;> with_reducible rfl)
    try simp only [Act.put, List.setIfInBounds_toArray, List.set_cons_zero, List.set_cons_succ]
    refine wpAnyH_done (by kernel_rfl) ?_ _
    have HTL := Aside0.mk (show t4.data.toList = decDigits ((Rat.num (mkR g0 l0b l0c)).natAbs * 2) ++ 47 :: decDigits ((Rat.den (mkR g0 l0b l0c)) * 2) by rw [HT4.out, HT2.out, str_app, str_app, HS_t1.out, HS_t3.out]; simp)
    cases hbx : b_x with
    | true =>
      subst hbx
      obtain ⟨⟨hu00, hu01, hu02⟩, _⟩ := ((((((((((H_bx_x.out.below B5.out).below B6.out).below B7.out).below B8.out).below B9.out).below B10.out).below B11.out).below B12.out).below B13.out).below B14.out)
      obtain ⟨t5, ht5, zt5⟩ := cat_twoE ⟨#[45]⟩ t4 900 (by have : (⟨#[45]⟩ : ByteArray).size ≤ 1 := (by decide); omega) (by decide)
      have HT5 := Aside0.mk ht5.2
      have hcat5 := ht5.1
      clear ht5
      have HPT := Aside0.mk (show t5.data.toList = (if decide (Rat.num (mkR g0 l0b l0c) < 0) then [45] else []) ++ (decDigits ((Rat.num (mkR g0 l0b l0c)).natAbs * 2) ++ 47 :: decDigits ((Rat.den (mkR g0 l0b l0c)) * 2)) by rw [← E_x.out]; rw [HT5.out, str_app, HTL.out]; rfl)
      have HC : Aside0 (Calls Tryd.prog 77 #[.string t5] w14 (RaPostE w14 (mkR g0 l0b l0c) 0)) := ⟨parse_terms (k := 2) KP.out (Nat.lt_of_lt_of_le X_nk.out (pw_le (by decide))) (Nat.lt_of_lt_of_le X_dk.out (pw_le (by decide))) HPT.out ((((((((((((((MXL.out.below B1.out).below B2.out).below B3.out).below B4.out).below B5.out).below B6.out).below B7.out).below B8.out).below B9.out).below B10.out).below B11.out).below B12.out).below B13.out).below B14.out)⟩
      go_wp2_with fail
      refine HC.out.mono ?_
      clear HC
      rintro e w15 ⟨v_z, rfl, ⟨A_z, M_z, c_z, B_z, K_z, d_z, rfl, hNA, hNB⟩, hB⟩
      have B15 := Aside0.mk hB
      have T15 := Aside0.mk (T14.out.trans (hB.mono T14.out.size))
      obtain ⟨b_z, hb_z⟩ : ∃ b, b = decide (Rat.num (mkR g0 l0b l0c) < 0) := ⟨_, rfl⟩
      rw [← hb_z]
      have E_z := Aside0.mk hb_z
      clear hb_z
      have NA_z := Aside0.mk hNA
      have NB_z := Aside0.mk hNB
      clear hNA hNB hB
      have H_bx_z := Aside0.mk (Blk_alloc w15 (.bool b_z) (.slice A_z M_z c_z) (.slice B_z K_z d_z) 56)
      have B16 := Aside0.mk (below_alloc (Below.refl w15.heap.size w15) (.cells #[.bool b_z, .slice A_z M_z c_z, .slice B_z K_z d_z] 56))
      have T16 := Aside0.mk (T15.out.trans (B16.out.mono T15.out.size))
      have H_z0 := Aside0.mk (show Ra w15 (.agg #[(.bool b_z), (.slice A_z M_z c_z), (.slice B_z K_z d_z)]) (mkR g0 l0b l0c) from by unfold Ra; rw [← E_z.out]; exact ⟨_, _, _, _, _, _, rfl, NA_z.out, NB_z.out⟩)
      have X_z := Aside0.mk (show Rb 3 (mkR g0 l0b l0c) from X_x.out)
      have H_z := Aside0.mk (show Ra (w15.alloc (.cells #[.bool b_z, .slice A_z M_z c_z, .slice B_z K_z d_z] 56)) (.agg #[(.bool b_z), (.slice A_z M_z c_z), (.slice B_z K_z d_z)]) (mkR g0 l0b l0c) from R3.below H_z0.out (below_alloc (Below.refl _ _) _))
      clear hu00 hu01 hu02
      obtain ⟨⟨hu00, hu01, hu02⟩, _⟩ := ((((((((((((H_bx_x.out.below B5.out).below B6.out).below B7.out).below B8.out).below B9.out).below B10.out).below B11.out).below B12.out).below B13.out).below B14.out).below B15.out).below B16.out)
      have HC : Aside0 (Calls Tryd.prog 78 #[(.agg #[(.bool true), (.slice A_x M_x c_x), (.slice B_x K_x d_x)])] (w15.alloc (.cells #[.bool b_z, .slice A_z M_z c_z, .slice B_z K_z d_z] 56)) (TextPost (w15.alloc (.cells #[.bool b_z, .slice A_z M_z c_z, .slice B_z K_z d_z] 56)) sx)) := ⟨by rw [HSX.out]; exact stext_w (rat_r3 ((((((((((((H_xN.out.below B5.out).below B6.out).below B7.out).below B8.out).below B9.out).below B10.out).below B11.out).below B12.out).below B13.out).below B14.out).below B15.out).below B16.out) ((((((((((((H_xD.out.below B5.out).below B6.out).below B7.out).below B8.out).below B9.out).below B10.out).below B11.out).below B12.out).below B13.out).below B14.out).below B15.out).below B16.out)) (pw_lt1000 X_xN.out (by omega)) (pw_lt1000 X_xD.out (by omega))⟩
      go_wp2_with fail
      refine HC.out.mono ?_
      clear HC
      rintro e w17 ⟨s2, rfl, hS, hB⟩; obtain rfl : s2 = s := (by rw [bytes_eq hS, bytes_eq HS.out]); clear hS
      have B17 := Aside0.mk hB
      have T17 := Aside0.mk (T16.out.trans (hB.mono T16.out.size))
      clear hB
      clear hu00 hu01 hu02
      obtain ⟨⟨hu00, hu01, hu02⟩, _⟩ := ((((((((((H_bx_y.out.below B8.out).below B9.out).below B10.out).below B11.out).below B12.out).below B13.out).below B14.out).below B15.out).below B16.out).below B17.out)
      obtain ⟨⟨hu10, hu11, hu12⟩, _⟩ := (((((((((((((H_bx_x.out.below B5.out).below B6.out).below B7.out).below B8.out).below B9.out).below B10.out).below B11.out).below B12.out).below B13.out).below B14.out).below B15.out).below B16.out).below B17.out)
      have HC : Aside0 (Calls Tryd.prog 58 #[(.agg #[(.bool b_y), (.slice A_y M_y c_y), (.slice B_y K_y d_y)]), (.agg #[(.bool true), (.slice A_x M_x c_x), (.slice B_x K_x d_x)])] w17 (TruePost w17)) := ⟨ssameR ((((((((((H_y.out.below B8.out).below B9.out).below B10.out).below B11.out).below B12.out).below B13.out).below B14.out).below B15.out).below B16.out).below B17.out) (((((((((((((H_x.out.below B5.out).below B6.out).below B7.out).below B8.out).below B9.out).below B10.out).below B11.out).below B12.out).below B13.out).below B14.out).below B15.out).below B16.out).below B17.out) (X_y.out.le (by decide)) (rfl)⟩
      go_wp2_with fail
      refine HC.out.mono ?_
      clear HC
      rintro e w18 ⟨rfl, hB⟩
      have B18 := Aside0.mk hB
      have T18 := Aside0.mk (T17.out.trans (hB.mono T17.out.size))
      clear hB
      clear hu00 hu01 hu02 hu10 hu11 hu12
      obtain ⟨⟨hu00, hu01, hu02⟩, _⟩ := ((H_bx_z.out.below B17.out).below B18.out)
      obtain ⟨⟨hu10, hu11, hu12⟩, _⟩ := ((((((((((((((H_bx_x.out.below B5.out).below B6.out).below B7.out).below B8.out).below B9.out).below B10.out).below B11.out).below B12.out).below B13.out).below B14.out).below B15.out).below B16.out).below B17.out).below B18.out)
      have HC : Aside0 (Calls Tryd.prog 58 #[(.agg #[(.bool b_z), (.slice A_z M_z c_z), (.slice B_z K_z d_z)]), (.agg #[(.bool true), (.slice A_x M_x c_x), (.slice B_x K_x d_x)])] w18 (TruePost w18)) := ⟨ssameR ((H_z.out.below B17.out).below B18.out) ((((((((((((((H_x.out.below B5.out).below B6.out).below B7.out).below B8.out).below B9.out).below B10.out).below B11.out).below B12.out).below B13.out).below B14.out).below B15.out).below B16.out).below B17.out).below B18.out) (X_z.out.le (by decide)) (rfl)⟩
      go_wp2_with fail
      refine HC.out.mono ?_
      clear HC
      rintro e w19 ⟨rfl, hB⟩
      have B19 := Aside0.mk hB
      have T19 := Aside0.mk (T18.out.trans (hB.mono T18.out.size))
      clear hB
      clear hu00 hu01 hu02 hu10 hu11 hu12
      go_wp2_with fail
      go_ret
      exact ⟨rfl, T19.out⟩
    | false =>
      subst hbx
      obtain ⟨⟨hu00, hu01, hu02⟩, _⟩ := ((((((((((H_bx_x.out.below B5.out).below B6.out).below B7.out).below B8.out).below B9.out).below B10.out).below B11.out).below B12.out).below B13.out).below B14.out)
      have HPT := Aside0.mk (show t4.data.toList = (if decide (Rat.num (mkR g0 l0b l0c) < 0) then [45] else []) ++ (decDigits ((Rat.num (mkR g0 l0b l0c)).natAbs * 2) ++ 47 :: decDigits ((Rat.den (mkR g0 l0b l0c)) * 2)) by rw [← E_x.out]; rw [HTL.out]; rfl)
      have HC : Aside0 (Calls Tryd.prog 77 #[.string t4] w14 (RaPostE w14 (mkR g0 l0b l0c) 0)) := ⟨parse_terms (k := 2) KP.out (Nat.lt_of_lt_of_le X_nk.out (pw_le (by decide))) (Nat.lt_of_lt_of_le X_dk.out (pw_le (by decide))) HPT.out ((((((((((((((MXL.out.below B1.out).below B2.out).below B3.out).below B4.out).below B5.out).below B6.out).below B7.out).below B8.out).below B9.out).below B10.out).below B11.out).below B12.out).below B13.out).below B14.out)⟩
      go_wp2_with fail
      refine HC.out.mono ?_
      clear HC
      rintro e w15 ⟨v_z, rfl, ⟨A_z, M_z, c_z, B_z, K_z, d_z, rfl, hNA, hNB⟩, hB⟩
      have B15 := Aside0.mk hB
      have T15 := Aside0.mk (T14.out.trans (hB.mono T14.out.size))
      obtain ⟨b_z, hb_z⟩ : ∃ b, b = decide (Rat.num (mkR g0 l0b l0c) < 0) := ⟨_, rfl⟩
      rw [← hb_z]
      have E_z := Aside0.mk hb_z
      clear hb_z
      have NA_z := Aside0.mk hNA
      have NB_z := Aside0.mk hNB
      clear hNA hNB hB
      have H_bx_z := Aside0.mk (Blk_alloc w15 (.bool b_z) (.slice A_z M_z c_z) (.slice B_z K_z d_z) 56)
      have B16 := Aside0.mk (below_alloc (Below.refl w15.heap.size w15) (.cells #[.bool b_z, .slice A_z M_z c_z, .slice B_z K_z d_z] 56))
      have T16 := Aside0.mk (T15.out.trans (B16.out.mono T15.out.size))
      have H_z0 := Aside0.mk (show Ra w15 (.agg #[(.bool b_z), (.slice A_z M_z c_z), (.slice B_z K_z d_z)]) (mkR g0 l0b l0c) from by unfold Ra; rw [← E_z.out]; exact ⟨_, _, _, _, _, _, rfl, NA_z.out, NB_z.out⟩)
      have X_z := Aside0.mk (show Rb 3 (mkR g0 l0b l0c) from X_x.out)
      have H_z := Aside0.mk (show Ra (w15.alloc (.cells #[.bool b_z, .slice A_z M_z c_z, .slice B_z K_z d_z] 56)) (.agg #[(.bool b_z), (.slice A_z M_z c_z), (.slice B_z K_z d_z)]) (mkR g0 l0b l0c) from R3.below H_z0.out (below_alloc (Below.refl _ _) _))
      clear hu00 hu01 hu02
      obtain ⟨⟨hu00, hu01, hu02⟩, _⟩ := ((((((((((((H_bx_x.out.below B5.out).below B6.out).below B7.out).below B8.out).below B9.out).below B10.out).below B11.out).below B12.out).below B13.out).below B14.out).below B15.out).below B16.out)
      have HC : Aside0 (Calls Tryd.prog 78 #[(.agg #[(.bool false), (.slice A_x M_x c_x), (.slice B_x K_x d_x)])] (w15.alloc (.cells #[.bool b_z, .slice A_z M_z c_z, .slice B_z K_z d_z] 56)) (TextPost (w15.alloc (.cells #[.bool b_z, .slice A_z M_z c_z, .slice B_z K_z d_z] 56)) sx)) := ⟨by rw [HSX.out]; exact stext_w (rat_r3 ((((((((((((H_xN.out.below B5.out).below B6.out).below B7.out).below B8.out).below B9.out).below B10.out).below B11.out).below B12.out).below B13.out).below B14.out).below B15.out).below B16.out) ((((((((((((H_xD.out.below B5.out).below B6.out).below B7.out).below B8.out).below B9.out).below B10.out).below B11.out).below B12.out).below B13.out).below B14.out).below B15.out).below B16.out)) (pw_lt1000 X_xN.out (by omega)) (pw_lt1000 X_xD.out (by omega))⟩
      go_wp2_with fail
      refine HC.out.mono ?_
      clear HC
      rintro e w17 ⟨s2, rfl, hS, hB⟩; obtain rfl : s2 = s := (by rw [bytes_eq hS, bytes_eq HS.out]); clear hS
      have B17 := Aside0.mk hB
      have T17 := Aside0.mk (T16.out.trans (hB.mono T16.out.size))
      clear hB
      clear hu00 hu01 hu02
      obtain ⟨⟨hu00, hu01, hu02⟩, _⟩ := ((((((((((H_bx_y.out.below B8.out).below B9.out).below B10.out).below B11.out).below B12.out).below B13.out).below B14.out).below B15.out).below B16.out).below B17.out)
      obtain ⟨⟨hu10, hu11, hu12⟩, _⟩ := (((((((((((((H_bx_x.out.below B5.out).below B6.out).below B7.out).below B8.out).below B9.out).below B10.out).below B11.out).below B12.out).below B13.out).below B14.out).below B15.out).below B16.out).below B17.out)
      have HC : Aside0 (Calls Tryd.prog 58 #[(.agg #[(.bool b_y), (.slice A_y M_y c_y), (.slice B_y K_y d_y)]), (.agg #[(.bool false), (.slice A_x M_x c_x), (.slice B_x K_x d_x)])] w17 (TruePost w17)) := ⟨ssameR ((((((((((H_y.out.below B8.out).below B9.out).below B10.out).below B11.out).below B12.out).below B13.out).below B14.out).below B15.out).below B16.out).below B17.out) (((((((((((((H_x.out.below B5.out).below B6.out).below B7.out).below B8.out).below B9.out).below B10.out).below B11.out).below B12.out).below B13.out).below B14.out).below B15.out).below B16.out).below B17.out) (X_y.out.le (by decide)) (rfl)⟩
      go_wp2_with fail
      refine HC.out.mono ?_
      clear HC
      rintro e w18 ⟨rfl, hB⟩
      have B18 := Aside0.mk hB
      have T18 := Aside0.mk (T17.out.trans (hB.mono T17.out.size))
      clear hB
      clear hu00 hu01 hu02 hu10 hu11 hu12
      obtain ⟨⟨hu00, hu01, hu02⟩, _⟩ := ((H_bx_z.out.below B17.out).below B18.out)
      obtain ⟨⟨hu10, hu11, hu12⟩, _⟩ := ((((((((((((((H_bx_x.out.below B5.out).below B6.out).below B7.out).below B8.out).below B9.out).below B10.out).below B11.out).below B12.out).below B13.out).below B14.out).below B15.out).below B16.out).below B17.out).below B18.out)
      have HC : Aside0 (Calls Tryd.prog 58 #[(.agg #[(.bool b_z), (.slice A_z M_z c_z), (.slice B_z K_z d_z)]), (.agg #[(.bool false), (.slice A_x M_x c_x), (.slice B_x K_x d_x)])] w18 (TruePost w18)) := ⟨ssameR ((H_z.out.below B17.out).below B18.out) ((((((((((((((H_x.out.below B5.out).below B6.out).below B7.out).below B8.out).below B9.out).below B10.out).below B11.out).below B12.out).below B13.out).below B14.out).below B15.out).below B16.out).below B17.out).below B18.out) (X_z.out.le (by decide)) (rfl)⟩
      go_wp2_with fail
      refine HC.out.mono ?_
      clear HC
      rintro e w19 ⟨rfl, hB⟩
      have B19 := Aside0.mk hB
      have T19 := Aside0.mk (T18.out.trans (hB.mono T18.out.size))
      clear hB
      clear hu00 hu01 hu02 hu10 hu11 hu12
      go_wp2_with fail
      go_ret
      exact ⟨rfl, T19.out⟩
  ·
    have hlk : 0 < (digs (mk l1 3)).length := Nat.pos_of_ne_zero (fun h => hk (digs_length_zero.1 h))
    have hb3 : (((digs (mk l1 3)).length : Int) == 0) = false := by rw [beq_eq_false_iff_ne]; omega
    have hb4 : ((digs (mk l1 3)).length == 0) = false := by rw [beq_eq_false_iff_ne]; omega
    have KP := Aside0.mk hk
    clear hk
    go_wp2_with fail
    have B9 := Aside0.mk (Below.drew (Below.refl w8.heap.size w8))
    have T9 := Aside0.mk (T8.out.trans (B9.out.mono T8.out.size))
    have HS9 := Aside0.mk (fun (W : World) (hW : Below (w8.drew).heap.size (w8.drew) W) => show W.cell? ⟨w3.heap.size, 0, none⟩ = some (.bool b_x) ∧ W.cell? ⟨w3.heap.size, 1, none⟩ = some (.slice A_x M_x c_x) ∧ W.cell? ⟨w3.heap.size, 2, none⟩ = some (.slice B_x K_x d_x) from ⟨((((((H_bx_x.out.below B5.out).below B6.out).below B7.out).below B8.out).below B9.out).below hW).1.1, ((((((H_bx_x.out.below B5.out).below B6.out).below B7.out).below B8.out).below B9.out).below hW).1.2.1, ((((((H_bx_x.out.below B5.out).below B6.out).below B7.out).below B8.out).below B9.out).below hW).1.2.2⟩)
    have U9 := Aside0.mk (Below.refl (w8.drew).heap.size (w8.drew))
    refine wp_region_held_drew (S := fun W => W.cell? ⟨w3.heap.size, 0, none⟩ = some (.bool b_x) ∧ W.cell? ⟨w3.heap.size, 1, none⟩ = some (.slice A_x M_x c_x) ∧ W.cell? ⟨w3.heap.size, 2, none⟩ = some (.slice B_x K_x d_x)) (by kernel_rfl) (HS9.out _ (Below.refl _ _)) (fun hHeld => ?_)
    refine Inv.takeL (i := 0) (v := ?v11_0) rfl (by kernel_rfl) (by kernel_rfl) (by kernel_rfl) (fun _ _ _ h => h) (by rfl) ?hy11_0 (by assumption) ?rest11_0
    case hy11_0 => ((intro w hSw; (try dsimp only at hSw); go_simp) <;> with_reducible rfl)
    try simp only [Act.put, List.setIfInBounds_toArray, List.set_cons_zero, List.set_cons_succ]
    refine Inv.takeL (i := 1) (v := ?v11_1) rfl (by kernel_rfl) (by kernel_rfl) (by kernel_rfl) (fun _ _ _ h => h) (by rfl) ?hy11_1 (by assumption) ?rest11_1
    case hy11_1 => ((intro w hSw; (try dsimp only at hSw); go_simp) <;> with_reducible rfl)
    try simp only [Act.put, List.setIfInBounds_toArray, List.set_cons_zero, List.set_cons_succ]
    refine Inv.takeL (i := 2) (v := ?v11_2) rfl (by kernel_rfl) (by kernel_rfl) (by kernel_rfl) (fun _ _ _ h => h) (by rfl) ?hy11_2 (by assumption) ?rest11_2
    case hy11_2 => ((intro w hSw; (try dsimp only at hSw); go_simp) <;> with_reducible rfl)
    try simp only [Act.put, List.setIfInBounds_toArray, List.set_cons_zero, List.set_cons_succ]
    refine Inv.takeL (i := 6) (v := ?v11_6) rfl (by kernel_rfl) (by kernel_rfl) (by kernel_rfl) (fun _ _ _ h => h) (by rfl) ?hy11_6 (by assumption) ?rest11_6
    case hy11_6 => ((intro w hSw; (try dsimp only at hSw); go_simp) <;> with_reducible rfl)
    try simp only [Act.put, List.setIfInBounds_toArray, List.set_cons_zero, List.set_cons_succ]
    refine Inv.takeL (i := 7) (v := ?v11_7) rfl (by kernel_rfl) (by kernel_rfl) (by kernel_rfl) (fun _ _ _ h => h) (by rfl) ?hy11_7 (by assumption) ?rest11_7
    case hy11_7 => ((intro w hSw; (try dsimp only at hSw); go_simp) <;> with_reducible rfl)
    try simp only [Act.put, List.setIfInBounds_toArray, List.set_cons_zero, List.set_cons_succ]
    refine Inv.takeL (i := 8) (v := ?v11_8) rfl (by kernel_rfl) (by kernel_rfl) (by kernel_rfl) (fun _ _ _ h => h) (by rfl) ?hy11_8 (by assumption) ?rest11_8
    case hy11_8 => ((intro w hSw; (try dsimp only at hSw); go_simp) <;> with_reducible rfl)
    try simp only [Act.put, List.setIfInBounds_toArray, List.set_cons_zero, List.set_cons_succ]
    have HC : Aside0 (Calls Tryd.prog 50 #[(.slice A_x M_x c_x), (.slice A_k (digs (mk l1 3)).length c_k)] (w8.drew) (NuPost (w8.drew) ((Rat.num (mkR g0 l0b l0c)).natAbs * (mk l1 3)))) := ⟨rmulN (((((H_xN.out.below B5.out).below B6.out).below B7.out).below B8.out).below B9.out) (H_k.out.below B9.out) (pw_lt1000 X_xN.out (by omega)) (pw_lt1000 X_k.out (by omega))⟩
    refine Inv.oneL (i := 3) rfl (by kernel_rfl) (fun K hK => ?_)
    go_simp
    refine HC.out.mono ?_
    clear HC
    rintro e w10 ⟨v_nk, rfl, hN, hB⟩
    try go_wp2_with fail
    have B10 := Aside0.mk hB
    have T10 := Aside0.mk (T9.out.trans (hB.mono T9.out.size))
    have H_nk := Aside0.mk hN
    have X_nk := Aside0.mk (show (Rat.num (mkR g0 l0b l0c)).natAbs * (mk l1 3) < pw 6 from pw_mulb X_xN.out X_k.out)
    clear hN hB
    have U10 := Aside0.mk (U9.out.trans (B10.out.mono U9.out.size))
    refine hK.out _ _ (HS9.out _ U10.out) (fun hHeld => ?_)
    clear hK K
    try simp only [Act.put, List.setIfInBounds_toArray, List.set_cons_zero, List.set_cons_succ]
    have HC : Aside0 (Calls Tryd.prog 27 #[v_nk] w10 (TextPost w10 (Go.Lib.decDigits ((Rat.num (mkR g0 l0b l0c)).natAbs * (mk l1 3))))) := ⟨rtext_w H_nk.out (pw_lt1000 X_nk.out (by omega))⟩
    refine Inv.oneL (i := 4) rfl (by kernel_rfl) (fun K hK => ?_)
    go_simp
    refine HC.out.mono ?_
    clear HC
    rintro e w11 ⟨t1, rfl, hS, hB⟩; have HS_t1 := Aside0.mk hS; have hz_t1 : t1.size ≤ 400 := (by rw [bytes_size hS]; exact dec_short (Nat.lt_of_lt_of_le X_nk.out (pw_le (by decide)))); clear hS; have h47 : (⟨#[47]⟩ : ByteArray).size ≤ 1 := (by decide); obtain ⟨t2, ht2, zt2⟩ := cat_twoE t1 ⟨#[47]⟩ 401 (by omega) (by decide); have HT2 := Aside0.mk ht2.2; have hcat2 := ht2.1; clear ht2
    try go_wp2_with fail
    have B11 := Aside0.mk hB
    have T11 := Aside0.mk (T10.out.trans (hB.mono T10.out.size))
    clear hB
    have U11 := Aside0.mk (U10.out.trans (B11.out.mono U10.out.size))
    refine hK.out _ _ (HS9.out _ U11.out) (fun hHeld => ?_)
    clear hK K
    try simp only [Act.put, List.setIfInBounds_toArray, List.set_cons_zero, List.set_cons_succ]
    refine Inv.takeL (i := 5) (v := ?v11_5) rfl (by kernel_rfl) (by kernel_rfl) (by kernel_rfl) (fun _ _ _ h => h) (by rfl) ?hy11_5 (by assumption) ?rest11_5
    case hy11_5 => ((intro w hSw; (try dsimp only at hSw); go_simp) <;> with_reducible rfl)
    try simp only [Act.put, List.setIfInBounds_toArray, List.set_cons_zero, List.set_cons_succ]
    have HC : Aside0 (Calls Tryd.prog 50 #[(.slice B_x K_x d_x), (.slice A_k (digs (mk l1 3)).length c_k)] w11 (NuPost w11 ((Rat.den (mkR g0 l0b l0c)) * (mk l1 3)))) := ⟨rmulN (((((((H_xD.out.below B5.out).below B6.out).below B7.out).below B8.out).below B9.out).below B10.out).below B11.out) (((H_k.out.below B9.out).below B10.out).below B11.out) (pw_lt1000 X_xD.out (by omega)) (pw_lt1000 X_k.out (by omega))⟩
    refine Inv.oneL (i := 9) rfl (by kernel_rfl) (fun K hK => ?_)
    go_simp
    refine HC.out.mono ?_
    clear HC
    rintro e w12 ⟨v_dk, rfl, hN, hB⟩
    try go_wp2_with fail
    have B12 := Aside0.mk hB
    have T12 := Aside0.mk (T11.out.trans (hB.mono T11.out.size))
    have H_dk := Aside0.mk hN
    have X_dk := Aside0.mk (show (Rat.den (mkR g0 l0b l0c)) * (mk l1 3) < pw 6 from pw_mulb X_xD.out X_k.out)
    clear hN hB
    have U12 := Aside0.mk (U11.out.trans (B12.out.mono U11.out.size))
    refine hK.out _ _ (HS9.out _ U12.out) (fun hHeld => ?_)
    clear hK K
    try simp only [Act.put, List.setIfInBounds_toArray, List.set_cons_zero, List.set_cons_succ]
    have HC : Aside0 (Calls Tryd.prog 27 #[v_dk] w12 (TextPost w12 (Go.Lib.decDigits ((Rat.den (mkR g0 l0b l0c)) * (mk l1 3))))) := ⟨rtext_w H_dk.out (pw_lt1000 X_dk.out (by omega))⟩
    refine Inv.oneL (i := 10) rfl (by kernel_rfl) (fun K hK => ?_)
    go_simp
    refine HC.out.mono ?_
    clear HC
    rintro e w13 ⟨t3, rfl, hS, hB⟩; have HS_t3 := Aside0.mk hS; have hz_t3 : t3.size ≤ 400 := (by rw [bytes_size hS]; exact dec_short (Nat.lt_of_lt_of_le X_dk.out (pw_le (by decide)))); clear hS; obtain ⟨t4, ht4, zt4⟩ := cat_twoE t2 t3 801 (by omega) (by decide); have HT4 := Aside0.mk ht4.2; have hcat4 := ht4.1; clear ht4
    try go_wp2_with fail
    have B13 := Aside0.mk hB
    have T13 := Aside0.mk (T12.out.trans (hB.mono T12.out.size))
    clear hB
    have U13 := Aside0.mk (U12.out.trans (B13.out.mono U12.out.size))
    refine hK.out _ _ (HS9.out _ U13.out) (fun hHeld => ?_)
    clear hK K
    try simp only [Act.put, List.setIfInBounds_toArray, List.set_cons_zero, List.set_cons_succ]
    refine Inv.takeL (i := 11) (v := ?v11_11) rfl (by kernel_rfl) (by kernel_rfl) (by kernel_rfl) (fun _ _ _ h => h) (by rfl) ?hy11_11 (by assumption) ?rest11_11
    case hy11_11 => ((intro w hSw; (try dsimp only at hSw); go_simp) <;> with_reducible rfl)
    try simp only [Act.put, List.setIfInBounds_toArray, List.set_cons_zero, List.set_cons_succ]
    refine Inv.takeL (i := 12) (v := ?v11_12) rfl (by kernel_rfl) (by kernel_rfl) (by kernel_rfl) (fun _ _ _ h => h) (by rfl) ?hy11_12 (by assumption) ?rest11_12
    case hy11_12 => ((intro w hSw; (try dsimp only at hSw); go_simp) <;> with_reducible rfl)
    try simp only [Act.put, List.setIfInBounds_toArray, List.set_cons_zero, List.set_cons_succ]
    refine wpAnyH_done (by kernel_rfl) ?_ _
    have HTL := Aside0.mk (show t4.data.toList = decDigits ((Rat.num (mkR g0 l0b l0c)).natAbs * (mk l1 3)) ++ 47 :: decDigits ((Rat.den (mkR g0 l0b l0c)) * (mk l1 3)) by rw [HT4.out, HT2.out, str_app, str_app, HS_t1.out, HS_t3.out]; simp)
    cases hbx : b_x with
    | true =>
      subst hbx
      obtain ⟨⟨hu00, hu01, hu02⟩, _⟩ := (((((((((H_bx_x.out.below B5.out).below B6.out).below B7.out).below B8.out).below B9.out).below B10.out).below B11.out).below B12.out).below B13.out)
      obtain ⟨t5, ht5, zt5⟩ := cat_twoE ⟨#[45]⟩ t4 900 (by have : (⟨#[45]⟩ : ByteArray).size ≤ 1 := (by decide); omega) (by decide)
      have HT5 := Aside0.mk ht5.2
      have hcat5 := ht5.1
      clear ht5
      have HPT := Aside0.mk (show t5.data.toList = (if decide (Rat.num (mkR g0 l0b l0c) < 0) then [45] else []) ++ (decDigits ((Rat.num (mkR g0 l0b l0c)).natAbs * (mk l1 3)) ++ 47 :: decDigits ((Rat.den (mkR g0 l0b l0c)) * (mk l1 3))) by rw [← E_x.out]; rw [HT5.out, str_app, HTL.out]; rfl)
      have HC : Aside0 (Calls Tryd.prog 77 #[.string t5] w13 (RaPostE w13 (mkR g0 l0b l0c) 0)) := ⟨parse_terms (k := (mk l1 3)) KP.out (Nat.lt_of_lt_of_le X_nk.out (pw_le (by decide))) (Nat.lt_of_lt_of_le X_dk.out (pw_le (by decide))) HPT.out (((((((((((((MXL.out.below B1.out).below B2.out).below B3.out).below B4.out).below B5.out).below B6.out).below B7.out).below B8.out).below B9.out).below B10.out).below B11.out).below B12.out).below B13.out)⟩
      go_wp2_with fail
      refine HC.out.mono ?_
      clear HC
      rintro e w14 ⟨v_z, rfl, ⟨A_z, M_z, c_z, B_z, K_z, d_z, rfl, hNA, hNB⟩, hB⟩
      have B14 := Aside0.mk hB
      have T14 := Aside0.mk (T13.out.trans (hB.mono T13.out.size))
      obtain ⟨b_z, hb_z⟩ : ∃ b, b = decide (Rat.num (mkR g0 l0b l0c) < 0) := ⟨_, rfl⟩
      rw [← hb_z]
      have E_z := Aside0.mk hb_z
      clear hb_z
      have NA_z := Aside0.mk hNA
      have NB_z := Aside0.mk hNB
      clear hNA hNB hB
      have H_bx_z := Aside0.mk (Blk_alloc w14 (.bool b_z) (.slice A_z M_z c_z) (.slice B_z K_z d_z) 56)
      have B15 := Aside0.mk (below_alloc (Below.refl w14.heap.size w14) (.cells #[.bool b_z, .slice A_z M_z c_z, .slice B_z K_z d_z] 56))
      have T15 := Aside0.mk (T14.out.trans (B15.out.mono T14.out.size))
      have H_z0 := Aside0.mk (show Ra w14 (.agg #[(.bool b_z), (.slice A_z M_z c_z), (.slice B_z K_z d_z)]) (mkR g0 l0b l0c) from by unfold Ra; rw [← E_z.out]; exact ⟨_, _, _, _, _, _, rfl, NA_z.out, NB_z.out⟩)
      have X_z := Aside0.mk (show Rb 3 (mkR g0 l0b l0c) from X_x.out)
      have H_z := Aside0.mk (show Ra (w14.alloc (.cells #[.bool b_z, .slice A_z M_z c_z, .slice B_z K_z d_z] 56)) (.agg #[(.bool b_z), (.slice A_z M_z c_z), (.slice B_z K_z d_z)]) (mkR g0 l0b l0c) from R3.below H_z0.out (below_alloc (Below.refl _ _) _))
      clear hu00 hu01 hu02
      obtain ⟨⟨hu00, hu01, hu02⟩, _⟩ := (((((((((((H_bx_x.out.below B5.out).below B6.out).below B7.out).below B8.out).below B9.out).below B10.out).below B11.out).below B12.out).below B13.out).below B14.out).below B15.out)
      have HC : Aside0 (Calls Tryd.prog 78 #[(.agg #[(.bool true), (.slice A_x M_x c_x), (.slice B_x K_x d_x)])] (w14.alloc (.cells #[.bool b_z, .slice A_z M_z c_z, .slice B_z K_z d_z] 56)) (TextPost (w14.alloc (.cells #[.bool b_z, .slice A_z M_z c_z, .slice B_z K_z d_z] 56)) sx)) := ⟨by rw [HSX.out]; exact stext_w (rat_r3 (((((((((((H_xN.out.below B5.out).below B6.out).below B7.out).below B8.out).below B9.out).below B10.out).below B11.out).below B12.out).below B13.out).below B14.out).below B15.out) (((((((((((H_xD.out.below B5.out).below B6.out).below B7.out).below B8.out).below B9.out).below B10.out).below B11.out).below B12.out).below B13.out).below B14.out).below B15.out)) (pw_lt1000 X_xN.out (by omega)) (pw_lt1000 X_xD.out (by omega))⟩
      go_wp2_with fail
      refine HC.out.mono ?_
      clear HC
      rintro e w16 ⟨s2, rfl, hS, hB⟩; obtain rfl : s2 = s := (by rw [bytes_eq hS, bytes_eq HS.out]); clear hS
      have B16 := Aside0.mk hB
      have T16 := Aside0.mk (T15.out.trans (hB.mono T15.out.size))
      clear hB
      clear hu00 hu01 hu02
      obtain ⟨⟨hu00, hu01, hu02⟩, _⟩ := (((((((((H_bx_y.out.below B8.out).below B9.out).below B10.out).below B11.out).below B12.out).below B13.out).below B14.out).below B15.out).below B16.out)
      obtain ⟨⟨hu10, hu11, hu12⟩, _⟩ := ((((((((((((H_bx_x.out.below B5.out).below B6.out).below B7.out).below B8.out).below B9.out).below B10.out).below B11.out).below B12.out).below B13.out).below B14.out).below B15.out).below B16.out)
      have HC : Aside0 (Calls Tryd.prog 58 #[(.agg #[(.bool b_y), (.slice A_y M_y c_y), (.slice B_y K_y d_y)]), (.agg #[(.bool true), (.slice A_x M_x c_x), (.slice B_x K_x d_x)])] w16 (TruePost w16)) := ⟨ssameR (((((((((H_y.out.below B8.out).below B9.out).below B10.out).below B11.out).below B12.out).below B13.out).below B14.out).below B15.out).below B16.out) ((((((((((((H_x.out.below B5.out).below B6.out).below B7.out).below B8.out).below B9.out).below B10.out).below B11.out).below B12.out).below B13.out).below B14.out).below B15.out).below B16.out) (X_y.out.le (by decide)) (rfl)⟩
      go_wp2_with fail
      refine HC.out.mono ?_
      clear HC
      rintro e w17 ⟨rfl, hB⟩
      have B17 := Aside0.mk hB
      have T17 := Aside0.mk (T16.out.trans (hB.mono T16.out.size))
      clear hB
      clear hu00 hu01 hu02 hu10 hu11 hu12
      obtain ⟨⟨hu00, hu01, hu02⟩, _⟩ := ((H_bx_z.out.below B16.out).below B17.out)
      obtain ⟨⟨hu10, hu11, hu12⟩, _⟩ := (((((((((((((H_bx_x.out.below B5.out).below B6.out).below B7.out).below B8.out).below B9.out).below B10.out).below B11.out).below B12.out).below B13.out).below B14.out).below B15.out).below B16.out).below B17.out)
      have HC : Aside0 (Calls Tryd.prog 58 #[(.agg #[(.bool b_z), (.slice A_z M_z c_z), (.slice B_z K_z d_z)]), (.agg #[(.bool true), (.slice A_x M_x c_x), (.slice B_x K_x d_x)])] w17 (TruePost w17)) := ⟨ssameR ((H_z.out.below B16.out).below B17.out) (((((((((((((H_x.out.below B5.out).below B6.out).below B7.out).below B8.out).below B9.out).below B10.out).below B11.out).below B12.out).below B13.out).below B14.out).below B15.out).below B16.out).below B17.out) (X_z.out.le (by decide)) (rfl)⟩
      go_wp2_with fail
      refine HC.out.mono ?_
      clear HC
      rintro e w18 ⟨rfl, hB⟩
      have B18 := Aside0.mk hB
      have T18 := Aside0.mk (T17.out.trans (hB.mono T17.out.size))
      clear hB
      clear hu00 hu01 hu02 hu10 hu11 hu12
      go_wp2_with fail
      go_ret
      exact ⟨rfl, T18.out⟩
    | false =>
      subst hbx
      obtain ⟨⟨hu00, hu01, hu02⟩, _⟩ := (((((((((H_bx_x.out.below B5.out).below B6.out).below B7.out).below B8.out).below B9.out).below B10.out).below B11.out).below B12.out).below B13.out)
      have HPT := Aside0.mk (show t4.data.toList = (if decide (Rat.num (mkR g0 l0b l0c) < 0) then [45] else []) ++ (decDigits ((Rat.num (mkR g0 l0b l0c)).natAbs * (mk l1 3)) ++ 47 :: decDigits ((Rat.den (mkR g0 l0b l0c)) * (mk l1 3))) by rw [← E_x.out]; rw [HTL.out]; rfl)
      have HC : Aside0 (Calls Tryd.prog 77 #[.string t4] w13 (RaPostE w13 (mkR g0 l0b l0c) 0)) := ⟨parse_terms (k := (mk l1 3)) KP.out (Nat.lt_of_lt_of_le X_nk.out (pw_le (by decide))) (Nat.lt_of_lt_of_le X_dk.out (pw_le (by decide))) HPT.out (((((((((((((MXL.out.below B1.out).below B2.out).below B3.out).below B4.out).below B5.out).below B6.out).below B7.out).below B8.out).below B9.out).below B10.out).below B11.out).below B12.out).below B13.out)⟩
      go_wp2_with fail
      refine HC.out.mono ?_
      clear HC
      rintro e w14 ⟨v_z, rfl, ⟨A_z, M_z, c_z, B_z, K_z, d_z, rfl, hNA, hNB⟩, hB⟩
      have B14 := Aside0.mk hB
      have T14 := Aside0.mk (T13.out.trans (hB.mono T13.out.size))
      obtain ⟨b_z, hb_z⟩ : ∃ b, b = decide (Rat.num (mkR g0 l0b l0c) < 0) := ⟨_, rfl⟩
      rw [← hb_z]
      have E_z := Aside0.mk hb_z
      clear hb_z
      have NA_z := Aside0.mk hNA
      have NB_z := Aside0.mk hNB
      clear hNA hNB hB
      have H_bx_z := Aside0.mk (Blk_alloc w14 (.bool b_z) (.slice A_z M_z c_z) (.slice B_z K_z d_z) 56)
      have B15 := Aside0.mk (below_alloc (Below.refl w14.heap.size w14) (.cells #[.bool b_z, .slice A_z M_z c_z, .slice B_z K_z d_z] 56))
      have T15 := Aside0.mk (T14.out.trans (B15.out.mono T14.out.size))
      have H_z0 := Aside0.mk (show Ra w14 (.agg #[(.bool b_z), (.slice A_z M_z c_z), (.slice B_z K_z d_z)]) (mkR g0 l0b l0c) from by unfold Ra; rw [← E_z.out]; exact ⟨_, _, _, _, _, _, rfl, NA_z.out, NB_z.out⟩)
      have X_z := Aside0.mk (show Rb 3 (mkR g0 l0b l0c) from X_x.out)
      have H_z := Aside0.mk (show Ra (w14.alloc (.cells #[.bool b_z, .slice A_z M_z c_z, .slice B_z K_z d_z] 56)) (.agg #[(.bool b_z), (.slice A_z M_z c_z), (.slice B_z K_z d_z)]) (mkR g0 l0b l0c) from R3.below H_z0.out (below_alloc (Below.refl _ _) _))
      clear hu00 hu01 hu02
      obtain ⟨⟨hu00, hu01, hu02⟩, _⟩ := (((((((((((H_bx_x.out.below B5.out).below B6.out).below B7.out).below B8.out).below B9.out).below B10.out).below B11.out).below B12.out).below B13.out).below B14.out).below B15.out)
      have HC : Aside0 (Calls Tryd.prog 78 #[(.agg #[(.bool false), (.slice A_x M_x c_x), (.slice B_x K_x d_x)])] (w14.alloc (.cells #[.bool b_z, .slice A_z M_z c_z, .slice B_z K_z d_z] 56)) (TextPost (w14.alloc (.cells #[.bool b_z, .slice A_z M_z c_z, .slice B_z K_z d_z] 56)) sx)) := ⟨by rw [HSX.out]; exact stext_w (rat_r3 (((((((((((H_xN.out.below B5.out).below B6.out).below B7.out).below B8.out).below B9.out).below B10.out).below B11.out).below B12.out).below B13.out).below B14.out).below B15.out) (((((((((((H_xD.out.below B5.out).below B6.out).below B7.out).below B8.out).below B9.out).below B10.out).below B11.out).below B12.out).below B13.out).below B14.out).below B15.out)) (pw_lt1000 X_xN.out (by omega)) (pw_lt1000 X_xD.out (by omega))⟩
      go_wp2_with fail
      refine HC.out.mono ?_
      clear HC
      rintro e w16 ⟨s2, rfl, hS, hB⟩; obtain rfl : s2 = s := (by rw [bytes_eq hS, bytes_eq HS.out]); clear hS
      have B16 := Aside0.mk hB
      have T16 := Aside0.mk (T15.out.trans (hB.mono T15.out.size))
      clear hB
      clear hu00 hu01 hu02
      obtain ⟨⟨hu00, hu01, hu02⟩, _⟩ := (((((((((H_bx_y.out.below B8.out).below B9.out).below B10.out).below B11.out).below B12.out).below B13.out).below B14.out).below B15.out).below B16.out)
      obtain ⟨⟨hu10, hu11, hu12⟩, _⟩ := ((((((((((((H_bx_x.out.below B5.out).below B6.out).below B7.out).below B8.out).below B9.out).below B10.out).below B11.out).below B12.out).below B13.out).below B14.out).below B15.out).below B16.out)
      have HC : Aside0 (Calls Tryd.prog 58 #[(.agg #[(.bool b_y), (.slice A_y M_y c_y), (.slice B_y K_y d_y)]), (.agg #[(.bool false), (.slice A_x M_x c_x), (.slice B_x K_x d_x)])] w16 (TruePost w16)) := ⟨ssameR (((((((((H_y.out.below B8.out).below B9.out).below B10.out).below B11.out).below B12.out).below B13.out).below B14.out).below B15.out).below B16.out) ((((((((((((H_x.out.below B5.out).below B6.out).below B7.out).below B8.out).below B9.out).below B10.out).below B11.out).below B12.out).below B13.out).below B14.out).below B15.out).below B16.out) (X_y.out.le (by decide)) (rfl)⟩
      go_wp2_with fail
      refine HC.out.mono ?_
      clear HC
      rintro e w17 ⟨rfl, hB⟩
      have B17 := Aside0.mk hB
      have T17 := Aside0.mk (T16.out.trans (hB.mono T16.out.size))
      clear hB
      clear hu00 hu01 hu02 hu10 hu11 hu12
      obtain ⟨⟨hu00, hu01, hu02⟩, _⟩ := ((H_bx_z.out.below B16.out).below B17.out)
      obtain ⟨⟨hu10, hu11, hu12⟩, _⟩ := (((((((((((((H_bx_x.out.below B5.out).below B6.out).below B7.out).below B8.out).below B9.out).below B10.out).below B11.out).below B12.out).below B13.out).below B14.out).below B15.out).below B16.out).below B17.out)
      have HC : Aside0 (Calls Tryd.prog 58 #[(.agg #[(.bool b_z), (.slice A_z M_z c_z), (.slice B_z K_z d_z)]), (.agg #[(.bool false), (.slice A_x M_x c_x), (.slice B_x K_x d_x)])] w17 (TruePost w17)) := ⟨ssameR ((H_z.out.below B16.out).below B17.out) (((((((((((((H_x.out.below B5.out).below B6.out).below B7.out).below B8.out).below B9.out).below B10.out).below B11.out).below B12.out).below B13.out).below B14.out).below B15.out).below B16.out).below B17.out) (X_z.out.le (by decide)) (rfl)⟩
      go_wp2_with fail
      refine HC.out.mono ?_
      clear HC
      rintro e w18 ⟨rfl, hB⟩
      have B18 := Aside0.mk hB
      have T18 := Aside0.mk (T17.out.trans (hB.mono T17.out.size))
      clear hB
      clear hu00 hu01 hu02 hu10 hu11 hu12
      go_wp2_with fail
      go_ret
      exact ⟨rfl, T18.out⟩
end Go.Proofs.YtklhpobphloehaaDoor.ratTexts
