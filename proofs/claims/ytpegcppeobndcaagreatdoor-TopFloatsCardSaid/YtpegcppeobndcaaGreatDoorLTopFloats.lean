/- The law TopFloats: its walk. -/
import Derived.Test.YtpegcppeobndcaaGreatDoorAb
import Derived.Test.YtpegcppeobndcaaGreatDoorTu
import Derived.Test.YtpegcppeobndcaaGreatDoorTk
set_option linter.unusedVariables false
namespace Go.Proofs.YtpegcppeobndcaaGreatDoor.topFloats
open Go.RowKit YtpegcppeobndcaaGreatDoorW.PrintWords YtpegcppeobndcaaGreatDoorW.PrintLast YtpegcppeobndcaaGreatDoorW.PrintMore Go.Proofs.YtpegcppeobndcaaGreatDoor.Nn Go.Proofs.YtpegcppeobndcaaGreatDoor.G Go.Proofs.YtpegcppeobndcaaGreatDoor.Giv Go.Proofs.YtpegcppeobndcaaGreatDoor.PFl Go.Proofs.YtpegcppeobndcaaGreatDoor.Fl
set_option maxHeartbeats 2000000 in
set_option maxRecDepth 100000 in
theorem w_same {w : World} {a0 a1 x y : Nat} {a2 a3 a4 m : Int} (hT : TabOk w) (hM : MaxOk w) (hx : ffin x) (hy : ffin y) (HEX : ∀ w : World, Calls Tryz.prog 5 #[.int .u64 (a0 : Int), .int .i64 a2] w (EndPost w x)) (HEY : ∀ w : World, Calls Tryz.prog 5 #[.int .u64 (a1 : Int), .int .i64 a3] w (EndPost w y)) (h0 : 0 ≤ m) (h5 : m < 5) (hmw : anticlinetop_within.f a4 5 = some m) (hlen : (ratT (decide ((fval x).num < 0)) (fval x).num.natAbs (fval x).den).length ≤ 400) (o : Nat) (ho : o = x) (hO : ∀ (W : World) (A : Option Addr) (L c : Nat) (B : Option Addr) (M d : Nat), Nu W (.slice A L c) (fval x).num.natAbs → Nu W (.slice B M d) (fval x).den → Calls Tryz.prog 9 #[.agg #[.bool (decide ((fval x).num < 0)), .slice A L c, .slice B M d], .int .i64 m] W (IntsPost W (o : Int) 0)) : Calls Tryz.prog 3 #[.int .u64 (a0 : Int), .int .u64 (a1 : Int), .int .i64 a2, .int .i64 a3, .int .i64 a4] w (TruePost w) := by
 obtain ⟨lo, hlo⟩ : ∃ q, q = addV x y 2 := ⟨_, rfl⟩
 obtain ⟨hi, hhi⟩ : ∃ q, q = addV x y 3 := ⟨_, rfl⟩
 obtain ⟨z, hz⟩ : ∃ q, q = addV x y m := ⟨_, rfl⟩
 obtain ⟨s1, hs1⟩ : ∃ q, q = fsign lo z := ⟨_, rfl⟩
 obtain ⟨s2, hs2⟩ : ∃ q, q = fsign z hi := ⟨_, rfl⟩
 have L1 := Aside0.mk (show s1 ≤ 0 by rw [hs1, hlo, hz]; exact fsign_le (add_order x y h0 h5).1)
 have L2 := Aside0.mk (show s2 ≤ 0 by rw [hs2, hhi, hz]; exact fsign_le (add_order x y h0 h5).2)
 have OLO := Aside0.mk (show fok lo by rw [hlo]; exact add_ok x y 2)
 have OHI := Aside0.mk (show fok hi by rw [hhi]; exact add_ok x y 3)
 have OZ := Aside0.mk (show fok z by rw [hz]; exact add_ok x y m)
 have HLO := Aside0.mk hlo
 have HHI := Aside0.mk hhi
 have HZ := Aside0.mk hz
 have HS1 := Aside0.mk hs1
 have HS2 := Aside0.mk hs2
 have HX := Aside0.mk hx
 have HY := Aside0.mk hy
 have H0 := Aside0.mk h0
 have H5 := Aside0.mk h5
 have H_T := Aside0.mk hT
 have H_M := Aside0.mk hM
 have HLEN := Aside0.mk hlen
 have HEX_ := Aside0.mk HEX
 have HEY_ := Aside0.mk HEY
 have HMW := Aside0.mk (fun (W : World) => anticlinetop_within.calls a4 5 m W hmw)
 obtain ⟨X, hX⟩ : ∃ q : Rat, q = fval x := ⟨_, rfl⟩
 have HSR := Aside0.mk (fun (W : World) => show Calls Tryz.prog 6 #[.int .u64 (x : Int)] W (RaPostE W X 0) from by rw [hX]; exact sRat_w hx)
 have BN := Aside0.mk (show X.num.natAbs < pw 1000 by rw [hX]; exact Nat.lt_trans (fval_facts hx).2.2.2.1 (pw_lt Z5))
 have BD := Aside0.mk (show X.den < pw 1000 by rw [hX]; exact Nat.lt_trans (fval_facts hx).2.2.2.2 (pw_lt Z5))
 rw [← hX] at hO
 rw [ho] at hO
 have HO := Aside0.mk hO
 clear hO
 rw [← hX] at HLEN
 clear hX hlo hhi hz hs1 hs2 hx hy h0 h5 hT hM hlen HEX HEY hmw
 go_enter Tryz.func3, Tryz.ntmps3
 have HC : Aside0 (Calls Tryz.prog 4 #[] w (TruePost w)) := ⟨Abs.known_w w⟩
 go_wp2_with fail
 refine HC.out.mono ?_
 clear HC
 rintro e w1 ⟨rfl, hB⟩
 have B1 := Aside0.mk hB
 have T1 := Aside0.mk (hB.mono (Nat.le_refl _))
 clear hB
 have HC : Aside0 (Calls Tryz.prog 5 #[.int .u64 (a0 : Int), .int .i64 a2] w1 (EndPost w1 x)) := ⟨HEX_.out _⟩
 go_wp2_with fail
 refine HC.out.mono ?_
 clear HC
 rintro e w2 ⟨rfl, hB⟩
 have B2 := Aside0.mk hB
 have T2 := tT T1 hB
 clear hB
 have HC : Aside0 (Calls Tryz.prog 5 #[.int .u64 (a1 : Int), .int .i64 a3] w2 (EndPost w2 y)) := ⟨HEY_.out _⟩
 go_wp2_with fail
 refine HC.out.mono ?_
 clear HC
 rintro e w3 ⟨rfl, hB⟩
 have B3 := Aside0.mk hB
 have T3 := tT T2 hB
 clear hB
 have HC : Aside0 (Calls Tryz.prog 6 #[.int .u64 (x : Int)] w3 (RaPostE w3 X 0)) := ⟨HSR.out _⟩
 go_wp2_with fail
 refine HC.out.mono ?_
 clear HC
 rintro e w4 ⟨v_a, rfl, ⟨A_a, M_a, c_a, B_a, K_a, d_a, rfl, hNA, hNB⟩, hB⟩
 have B4 := Aside0.mk hB
 have T4 := tT T3 hB
 obtain ⟨b_a, hb_a⟩ : ∃ b, b = decide (Rat.num (X) < 0) := ⟨_, rfl⟩
 try rw [← hb_a]
 have E_a := Aside0.mk hb_a
 clear hb_a
 have NA_a := Aside0.mk hNA
 have NB_a := Aside0.mk hNB
 clear hNA hNB hB
 have H_a := Aside0.mk (show Ra w4 (.agg #[.bool b_a, .slice A_a M_a c_a, .slice B_a K_a d_a]) (X) from by unfold Ra; rw [← E_a.out]; exact ⟨_, _, _, _, _, _, rfl, NA_a.out, NB_a.out⟩)
 have H_NAa := Aside0.mk NA_a.out
 have H_NBa := Aside0.mk NB_a.out
 have B5 := Aside0.mk (below_alloc (Below.refl w4.heap.size w4) (.cells #[.bool b_a, .slice A_a M_a c_a, .slice B_a K_a d_a] 27))
 have T5 := tT T4 B5.out
 have H_a_0 := Aside0.mk (show CellAt (w4.alloc (.cells #[.bool b_a, .slice A_a M_a c_a, .slice B_a K_a d_a] 27)) (w4.heap.size) 0 (.bool b_a) by unfold CellAt; simp)
 have H_a_1 := Aside0.mk (show CellAt (w4.alloc (.cells #[.bool b_a, .slice A_a M_a c_a, .slice B_a K_a d_a] 27)) (w4.heap.size) 1 (.slice A_a M_a c_a) by unfold CellAt; simp)
 have H_a_2 := Aside0.mk (show CellAt (w4.alloc (.cells #[.bool b_a, .slice A_a M_a c_a, .slice B_a K_a d_a] 27)) (w4.heap.size) 2 (.slice B_a K_a d_a) by unfold CellAt; simp)
 obtain ⟨sx, hsx⟩ : ∃ l, l = ratT b_a X.num.natAbs X.den := ⟨_, rfl⟩
 have HSX := Aside0.mk hsx
 have HLS := Aside0.mk (show  sx.length ≤ 400 by rw [hsx, E_a.out]; exact HLEN.out)
 clear hsx
 have hu0 : (w4.alloc (.cells #[.bool b_a, .slice A_a M_a c_a, .slice B_a K_a d_a] 27)).cell? ⟨w4.heap.size, 0, none⟩ = some (.bool b_a) := H_a_0.out
 have hu1 : (w4.alloc (.cells #[.bool b_a, .slice A_a M_a c_a, .slice B_a K_a d_a] 27)).cell? ⟨w4.heap.size, 1, none⟩ = some (.slice A_a M_a c_a) := H_a_1.out
 have hu2 : (w4.alloc (.cells #[.bool b_a, .slice A_a M_a c_a, .slice B_a K_a d_a] 27)).cell? ⟨w4.heap.size, 2, none⟩ = some (.slice B_a K_a d_a) := H_a_2.out
 have HC : Aside0 (Calls Tryz.prog 7 #[(.agg #[.bool b_a, .slice A_a M_a c_a, .slice B_a K_a d_a])] (w4.alloc (.cells #[.bool b_a, .slice A_a M_a c_a, .slice B_a K_a d_a] 27)) (TextPost (w4.alloc (.cells #[.bool b_a, .slice A_a M_a c_a, .slice B_a K_a d_a] 27)) sx)) := ⟨by rw [HSX.out]; exact qtext_w ⟨_, _, _, _, _, _, rfl, (H_NAa.out.below B5.out), (H_NBa.out.below B5.out)⟩ BN.out BD.out (((((H_T.out.below B1.out).below B2.out).below B3.out).below B4.out).below B5.out)⟩
 go_wp2_with fail
 refine HC.out.mono ?_
 clear HC
 rintro e w6 ⟨s, rfl, hS, hB⟩
 have B6 := Aside0.mk hB
 have T6 := tT T5 hB
 have HTS := Aside0.mk hS
 have hsz :  (s.size : Int) ≤ 400 := by have h1 := congrArg List.length hS; rw [data_length] at h1; have h2 := HLS.out; omega
 clear hS hB hu0 hu1 hu2
 have HSZ := Aside0.mk (show s.size ≤ 400 by omega)
 have HPS := Aside0.mk (show s.data.toList = ratT (decide (X.num < 0)) X.num.natAbs X.den by rw [HTS.out, HSX.out, E_a.out])
 have HC : Aside0 (Calls Tryz.prog 8 #[.string s] w6 (RaPostE w6 X 0)) := ⟨parse_ratL HSZ.out HPS.out ((((((H_M.out.below B1.out).below B2.out).below B3.out).below B4.out).below B5.out).below B6.out)⟩
 go_wp2_with fail
 refine HC.out.mono ?_
 clear HC
 rintro e w7 ⟨v_r, rfl, ⟨A_r, M_r, c_r, B_r, K_r, d_r, rfl, hNA, hNB⟩, hB⟩
 have B7 := Aside0.mk hB
 have T7 := tT T6 hB
 obtain ⟨b_r, hb_r⟩ : ∃ b, b = decide (Rat.num (X) < 0) := ⟨_, rfl⟩
 try rw [← hb_r]
 have E_r := Aside0.mk hb_r
 clear hb_r
 have NA_r := Aside0.mk hNA
 have NB_r := Aside0.mk hNB
 clear hNA hNB hB
 have H_r := Aside0.mk (show Ra w7 (.agg #[.bool b_r, .slice A_r M_r c_r, .slice B_r K_r d_r]) (X) from by unfold Ra; rw [← E_r.out]; exact ⟨_, _, _, _, _, _, rfl, NA_r.out, NB_r.out⟩)
 have H_NAr := Aside0.mk NA_r.out
 have H_NBr := Aside0.mk NB_r.out
 have B8 := Aside0.mk (below_alloc (Below.refl w7.heap.size w7) (.cells #[.bool b_r, .slice A_r M_r c_r, .slice B_r K_r d_r] 27))
 have T8 := tT T7 B8.out
 have H_r_0 := Aside0.mk (show CellAt (w7.alloc (.cells #[.bool b_r, .slice A_r M_r c_r, .slice B_r K_r d_r] 27)) (w7.heap.size) 0 (.bool b_r) by unfold CellAt; simp)
 have H_r_1 := Aside0.mk (show CellAt (w7.alloc (.cells #[.bool b_r, .slice A_r M_r c_r, .slice B_r K_r d_r] 27)) (w7.heap.size) 1 (.slice A_r M_r c_r) by unfold CellAt; simp)
 have H_r_2 := Aside0.mk (show CellAt (w7.alloc (.cells #[.bool b_r, .slice A_r M_r c_r, .slice B_r K_r d_r] 27)) (w7.heap.size) 2 (.slice B_r K_r d_r) by unfold CellAt; simp)
 go_wp2_with fail
 have B9 := Aside0.mk (Below.drew (Below.refl (w7.alloc (.cells #[.bool b_r, .slice A_r M_r c_r, .slice B_r K_r d_r] 27)).heap.size (w7.alloc (.cells #[.bool b_r, .slice A_r M_r c_r, .slice B_r K_r d_r] 27))))
 have T9 := tT T8 B9.out
 have HS9 := Aside0.mk (fun (W : World) (hW : Below ((w7.alloc (.cells #[.bool b_r, .slice A_r M_r c_r, .slice B_r K_r d_r] 27)).drew).heap.size ((w7.alloc (.cells #[.bool b_r, .slice A_r M_r c_r, .slice B_r K_r d_r] 27)).drew) W) => show W.cell? ⟨w7.heap.size, 0, none⟩ = some (.bool b_r) ∧ W.cell? ⟨w7.heap.size, 1, none⟩ = some (.slice A_r M_r c_r) ∧ W.cell? ⟨w7.heap.size, 2, none⟩ = some (.slice B_r K_r d_r) from ⟨((H_r_0.out.below B9.out).below hW), ((H_r_1.out.below B9.out).below hW), ((H_r_2.out.below B9.out).below hW)⟩)
 have U9 := Aside0.mk (Below.refl ((w7.alloc (.cells #[.bool b_r, .slice A_r M_r c_r, .slice B_r K_r d_r] 27)).drew).heap.size ((w7.alloc (.cells #[.bool b_r, .slice A_r M_r c_r, .slice B_r K_r d_r] 27)).drew))
 refine wp_region_held_drew (S := fun W => W.cell? ⟨w7.heap.size, 0, none⟩ = some (.bool b_r) ∧ W.cell? ⟨w7.heap.size, 1, none⟩ = some (.slice A_r M_r c_r) ∧ W.cell? ⟨w7.heap.size, 2, none⟩ = some (.slice B_r K_r d_r)) Z4 (HS9.out _ (Below.refl _ _)) (fun hHeld => ?_)
 refine Inv.tk 0 (h := ?_)
 try simp only [PU]
 refine Inv.tk 1 (h := ?_)
 try simp only [PU]
 refine Inv.oneL (i := 2) rfl Z4 (fun K hK => ?_)
 go_simp
 refine (HMW.out _).mono ?_
 rintro e w10 ⟨rfl, hd⟩
 try go_wp2_with fail
 have B10 := Aside0.mk (drawn_below (B := ((w7.alloc (.cells #[.bool b_r, .slice A_r M_r c_r, .slice B_r K_r d_r] 27)).drew).heap.size) hd)
 have T10 := Aside0.mk (T9.out.trans ((drawn_below (B := ((w7.alloc (.cells #[.bool b_r, .slice A_r M_r c_r, .slice B_r K_r d_r] 27)).drew).heap.size) hd).mono T9.out.size))
 clear hd
 have U10 := tT U9 B10.out
 refine hK.out _ _ (HS9.out _ U10.out) (fun hHeld => ?_)
 clear hK K
 try simp only [PU]
 refine Inv.oneL (i := 3) rfl Z4 (fun K hK => ?_)
 have HC := Aside0.mk (HO.out _ _ _ _ _ _ _ (((H_NAr.out.below B8.out).below B9.out).below B10.out) (((H_NBr.out.below B8.out).below B9.out).below B10.out))
 rw [← E_r.out] at HC
 go_simp
 refine HC.out.mono ?_
 clear HC
 rintro e w11 ⟨rfl, hB⟩
 try go_wp2_with fail
 have B11 := Aside0.mk hB
 have T11 := tT T10 hB
 clear hB
 have U11 := tT U10 B11.out
 refine hK.out _ _ (HS9.out _ U11.out) (fun hHeld => ?_)
 clear hK K
 try simp only [PU]
 refine Inv.tk 4 (h := ?_)
 try simp only [PU]
 refine Inv.tk 5 (h := ?_)
 try simp only [PU]
 refine Inv.tk 6 (h := ?_)
 try simp only [PU]
 refine Inv.tk 7 (h := ?_)
 try simp only [PU]
 refine Inv.tk 8 (h := ?_)
 try simp only [PU]
 refine wpAnyH_done Z4 ?_ _
 have HC : Aside0 (Calls Tryz.prog 11 #[.agg #[.int .u64 (x : Int), .int .u64 (x : Int)], .agg #[.int .u64 (y : Int), .int .u64 (y : Int)]] w11 (fun e w' => e = .returned (.agg #[.int .u64 ((lo : Nat) : Int), .int .u64 ((hi : Nat) : Int)]) ∧ Below w11.heap.size w11 w')) := ⟨by rw [HLO.out, HHI.out]; exact ivalAdd_w HX.out HY.out⟩
 go_wp2_with fail
 refine HC.out.mono ?_
 clear HC
 rintro e w12 ⟨rfl, hB⟩
 have B12 := Aside0.mk hB
 have T12 := tT T11 hB
 clear hB
 have B13 := Aside0.mk (below_alloc (Below.refl w12.heap.size w12) (.cells #[.int .u64 ((lo : Nat) : Int), .int .u64 ((hi : Nat) : Int)] 37))
 have T13 := tT T12 B13.out
 have H_i0 := Aside0.mk (show CellAt (w12.alloc (.cells #[.int .u64 ((lo : Nat) : Int), .int .u64 ((hi : Nat) : Int)] 37)) (w12.heap.size) 0 (.int .u64 ((lo : Nat) : Int)) by unfold CellAt; simp)
 have H_i1 := Aside0.mk (show CellAt (w12.alloc (.cells #[.int .u64 ((lo : Nat) : Int), .int .u64 ((hi : Nat) : Int)] 37)) (w12.heap.size) 1 (.int .u64 ((hi : Nat) : Int)) by unfold CellAt; simp)
 have HC : Aside0 (Calls Tryz.prog 10 #[.int .i64 a4, .int .i64 5] (w12.alloc (.cells #[.int .u64 ((lo : Nat) : Int), .int .u64 ((hi : Nat) : Int)] 37)) (fun e w' => e = .returned (.int .i64 m) ∧ Drawn0 (w12.alloc (.cells #[.int .u64 ((lo : Nat) : Int), .int .u64 ((hi : Nat) : Int)] 37)) w')) := ⟨HMW.out _⟩
 go_wp2_with fail
 refine HC.out.mono ?_
 clear HC
 rintro e w14 ⟨rfl, hd⟩
 have B14 := Aside0.mk (drawn_below (B := (w12.alloc (.cells #[.int .u64 ((lo : Nat) : Int), .int .u64 ((hi : Nat) : Int)] 37)).heap.size) hd)
 have T14 := Aside0.mk (T13.out.trans ((drawn_below (B := (w12.alloc (.cells #[.int .u64 ((lo : Nat) : Int), .int .u64 ((hi : Nat) : Int)] 37)).heap.size) hd).mono T13.out.size))
 clear hd
 have HC : Aside0 (Calls Tryz.prog 12 #[.int .u64 (x : Int), .int .u64 (y : Int), .int .i64 m] w14 (IntsPost w14 (((z : Nat) : Int)) (addF x y m))) := ⟨by rw [HZ.out]; exact Add_w HX.out HY.out H0.out H5.out⟩
 go_wp2_with fail
 refine HC.out.mono ?_
 clear HC
 rintro e w15 ⟨rfl, hB⟩
 have B15 := Aside0.mk hB
 have T15 := tT T14 hB
 clear hB
 have hc0 : w15.cell? ⟨w12.heap.size, 0, none⟩ = some (.int .u64 ((lo : Nat) : Int)) := ((H_i0.out.below B14.out).below B15.out)
 have hc1 : w15.cell? ⟨w12.heap.size, 1, none⟩ = some (.int .u64 ((hi : Nat) : Int)) := ((H_i1.out.below B14.out).below B15.out)
 have HC : Aside0 (Calls Tryz.prog 13 #[.int .u64 ((lo : Nat) : Int), .int .u64 ((z : Nat) : Int)] w15 (fun e w' => e = .returned (.tuple #[.int .i64 s1, .bool true]) ∧ Drawn0 w15 w')) := ⟨by rw [HS1.out]; exact cmp_nu OLO.out OZ.out⟩
 go_wp2_with fail
 refine HC.out.mono ?_
 clear HC
 rintro e w16 ⟨rfl, hd⟩
 have B16 := Aside0.mk (drawn_below (B := w15.heap.size) hd)
 have T16 := Aside0.mk (T15.out.trans ((drawn_below (B := w15.heap.size) hd).mono T15.out.size))
 clear hd hc0 hc1
 have hc0 : w16.cell? ⟨w12.heap.size, 0, none⟩ = some (.int .u64 ((lo : Nat) : Int)) := (((H_i0.out.below B14.out).below B15.out).below B16.out)
 have hc1 : w16.cell? ⟨w12.heap.size, 1, none⟩ = some (.int .u64 ((hi : Nat) : Int)) := (((H_i1.out.below B14.out).below B15.out).below B16.out)
 have HC : Aside0 (Calls Tryz.prog 13 #[.int .u64 ((z : Nat) : Int), .int .u64 ((hi : Nat) : Int)] w16 (fun e w' => e = .returned (.tuple #[.int .i64 s2, .bool true]) ∧ Drawn0 w16 w')) := ⟨by rw [HS2.out]; exact cmp_nu OZ.out OHI.out⟩
 go_wp2_with fail
 refine HC.out.mono ?_
 clear HC
 rintro e w17 ⟨rfl, hd⟩
 have B17 := Aside0.mk (drawn_below (B := w16.heap.size) hd)
 have T17 := Aside0.mk (T16.out.trans ((drawn_below (B := w16.heap.size) hd).mono T16.out.size))
 clear hd hc0 hc1
 have l1 := L1.out
 have l2 := L2.out
 go_wp2_with fail
 go_ret
 exact ⟨rfl, T17.out⟩
set_option maxHeartbeats 2000000 in
set_option maxRecDepth 100000 in
theorem w_zero {w : World} {a0 a1 x y : Nat} {a2 a3 a4 m : Int} (hT : TabOk w) (hM : MaxOk w) (hx : ffin x) (hy : ffin y) (HEX : ∀ w : World, Calls Tryz.prog 5 #[.int .u64 (a0 : Int), .int .i64 a2] w (EndPost w x)) (HEY : ∀ w : World, Calls Tryz.prog 5 #[.int .u64 (a1 : Int), .int .i64 a3] w (EndPost w y)) (h0 : 0 ≤ m) (h5 : m < 5) (hmw : anticlinetop_within.f a4 5 = some m) (hlen : (ratT (decide ((fval x).num < 0)) (fval x).num.natAbs (fval x).den).length ≤ 400) (o : Nat) (ho : o = 0 ∧ x = 9223372036854775808) (hO : ∀ (W : World) (A : Option Addr) (L c : Nat) (B : Option Addr) (M d : Nat), Nu W (.slice A L c) (fval x).num.natAbs → Nu W (.slice B M d) (fval x).den → Calls Tryz.prog 9 #[.agg #[.bool (decide ((fval x).num < 0)), .slice A L c, .slice B M d], .int .i64 m] W (IntsPost W (o : Int) 0)) : Calls Tryz.prog 3 #[.int .u64 (a0 : Int), .int .u64 (a1 : Int), .int .i64 a2, .int .i64 a3, .int .i64 a4] w (TruePost w) := by
 obtain ⟨lo, hlo⟩ : ∃ q, q = addV x y 2 := ⟨_, rfl⟩
 obtain ⟨hi, hhi⟩ : ∃ q, q = addV x y 3 := ⟨_, rfl⟩
 obtain ⟨z, hz⟩ : ∃ q, q = addV x y m := ⟨_, rfl⟩
 obtain ⟨s1, hs1⟩ : ∃ q, q = fsign lo z := ⟨_, rfl⟩
 obtain ⟨s2, hs2⟩ : ∃ q, q = fsign z hi := ⟨_, rfl⟩
 have L1 := Aside0.mk (show s1 ≤ 0 by rw [hs1, hlo, hz]; exact fsign_le (add_order x y h0 h5).1)
 have L2 := Aside0.mk (show s2 ≤ 0 by rw [hs2, hhi, hz]; exact fsign_le (add_order x y h0 h5).2)
 have OLO := Aside0.mk (show fok lo by rw [hlo]; exact add_ok x y 2)
 have OHI := Aside0.mk (show fok hi by rw [hhi]; exact add_ok x y 3)
 have OZ := Aside0.mk (show fok z by rw [hz]; exact add_ok x y m)
 have HLO := Aside0.mk hlo
 have HHI := Aside0.mk hhi
 have HZ := Aside0.mk hz
 have HS1 := Aside0.mk hs1
 have HS2 := Aside0.mk hs2
 have HX := Aside0.mk hx
 have HY := Aside0.mk hy
 have H0 := Aside0.mk h0
 have H5 := Aside0.mk h5
 have H_T := Aside0.mk hT
 have H_M := Aside0.mk hM
 have HLEN := Aside0.mk hlen
 have HEX_ := Aside0.mk HEX
 have HEY_ := Aside0.mk HEY
 have HMW := Aside0.mk (fun (W : World) => anticlinetop_within.calls a4 5 m W hmw)
 obtain ⟨X, hX⟩ : ∃ q : Rat, q = fval x := ⟨_, rfl⟩
 have HSR := Aside0.mk (fun (W : World) => show Calls Tryz.prog 6 #[.int .u64 (x : Int)] W (RaPostE W X 0) from by rw [hX]; exact sRat_w hx)
 have BN := Aside0.mk (show X.num.natAbs < pw 1000 by rw [hX]; exact Nat.lt_trans (fval_facts hx).2.2.2.1 (pw_lt Z5))
 have BD := Aside0.mk (show X.den < pw 1000 by rw [hX]; exact Nat.lt_trans (fval_facts hx).2.2.2.2 (pw_lt Z5))
 rw [← hX] at hO
 have HO := Aside0.mk hO
 clear hO
 obtain ⟨ho1, ho2⟩ := ho
 subst ho1
 have hq1 : ((0 : Int) != (x : Int)) = true := by rw [ho2]; rfl
 have hq2 : ((x : Int) != 9223372036854775808) = false := by rw [ho2]; rfl
 clear ho2
 rw [← hX] at HLEN
 clear hX hlo hhi hz hs1 hs2 hx hy h0 h5 hT hM hlen HEX HEY hmw
 go_enter Tryz.func3, Tryz.ntmps3
 have HC : Aside0 (Calls Tryz.prog 4 #[] w (TruePost w)) := ⟨Abs.known_w w⟩
 go_wp2_with fail
 refine HC.out.mono ?_
 clear HC
 rintro e w1 ⟨rfl, hB⟩
 have B1 := Aside0.mk hB
 have T1 := Aside0.mk (hB.mono (Nat.le_refl _))
 clear hB
 have HC : Aside0 (Calls Tryz.prog 5 #[.int .u64 (a0 : Int), .int .i64 a2] w1 (EndPost w1 x)) := ⟨HEX_.out _⟩
 go_wp2_with fail
 refine HC.out.mono ?_
 clear HC
 rintro e w2 ⟨rfl, hB⟩
 have B2 := Aside0.mk hB
 have T2 := tT T1 hB
 clear hB
 have HC : Aside0 (Calls Tryz.prog 5 #[.int .u64 (a1 : Int), .int .i64 a3] w2 (EndPost w2 y)) := ⟨HEY_.out _⟩
 go_wp2_with fail
 refine HC.out.mono ?_
 clear HC
 rintro e w3 ⟨rfl, hB⟩
 have B3 := Aside0.mk hB
 have T3 := tT T2 hB
 clear hB
 have HC : Aside0 (Calls Tryz.prog 6 #[.int .u64 (x : Int)] w3 (RaPostE w3 X 0)) := ⟨HSR.out _⟩
 go_wp2_with fail
 refine HC.out.mono ?_
 clear HC
 rintro e w4 ⟨v_a, rfl, ⟨A_a, M_a, c_a, B_a, K_a, d_a, rfl, hNA, hNB⟩, hB⟩
 have B4 := Aside0.mk hB
 have T4 := tT T3 hB
 obtain ⟨b_a, hb_a⟩ : ∃ b, b = decide (Rat.num (X) < 0) := ⟨_, rfl⟩
 try rw [← hb_a]
 have E_a := Aside0.mk hb_a
 clear hb_a
 have NA_a := Aside0.mk hNA
 have NB_a := Aside0.mk hNB
 clear hNA hNB hB
 have H_a := Aside0.mk (show Ra w4 (.agg #[.bool b_a, .slice A_a M_a c_a, .slice B_a K_a d_a]) (X) from by unfold Ra; rw [← E_a.out]; exact ⟨_, _, _, _, _, _, rfl, NA_a.out, NB_a.out⟩)
 have H_NAa := Aside0.mk NA_a.out
 have H_NBa := Aside0.mk NB_a.out
 have B5 := Aside0.mk (below_alloc (Below.refl w4.heap.size w4) (.cells #[.bool b_a, .slice A_a M_a c_a, .slice B_a K_a d_a] 27))
 have T5 := tT T4 B5.out
 have H_a_0 := Aside0.mk (show CellAt (w4.alloc (.cells #[.bool b_a, .slice A_a M_a c_a, .slice B_a K_a d_a] 27)) (w4.heap.size) 0 (.bool b_a) by unfold CellAt; simp)
 have H_a_1 := Aside0.mk (show CellAt (w4.alloc (.cells #[.bool b_a, .slice A_a M_a c_a, .slice B_a K_a d_a] 27)) (w4.heap.size) 1 (.slice A_a M_a c_a) by unfold CellAt; simp)
 have H_a_2 := Aside0.mk (show CellAt (w4.alloc (.cells #[.bool b_a, .slice A_a M_a c_a, .slice B_a K_a d_a] 27)) (w4.heap.size) 2 (.slice B_a K_a d_a) by unfold CellAt; simp)
 obtain ⟨sx, hsx⟩ : ∃ l, l = ratT b_a X.num.natAbs X.den := ⟨_, rfl⟩
 have HSX := Aside0.mk hsx
 have HLS := Aside0.mk (show  sx.length ≤ 400 by rw [hsx, E_a.out]; exact HLEN.out)
 clear hsx
 have hu0 : (w4.alloc (.cells #[.bool b_a, .slice A_a M_a c_a, .slice B_a K_a d_a] 27)).cell? ⟨w4.heap.size, 0, none⟩ = some (.bool b_a) := H_a_0.out
 have hu1 : (w4.alloc (.cells #[.bool b_a, .slice A_a M_a c_a, .slice B_a K_a d_a] 27)).cell? ⟨w4.heap.size, 1, none⟩ = some (.slice A_a M_a c_a) := H_a_1.out
 have hu2 : (w4.alloc (.cells #[.bool b_a, .slice A_a M_a c_a, .slice B_a K_a d_a] 27)).cell? ⟨w4.heap.size, 2, none⟩ = some (.slice B_a K_a d_a) := H_a_2.out
 have HC : Aside0 (Calls Tryz.prog 7 #[(.agg #[.bool b_a, .slice A_a M_a c_a, .slice B_a K_a d_a])] (w4.alloc (.cells #[.bool b_a, .slice A_a M_a c_a, .slice B_a K_a d_a] 27)) (TextPost (w4.alloc (.cells #[.bool b_a, .slice A_a M_a c_a, .slice B_a K_a d_a] 27)) sx)) := ⟨by rw [HSX.out]; exact qtext_w ⟨_, _, _, _, _, _, rfl, (H_NAa.out.below B5.out), (H_NBa.out.below B5.out)⟩ BN.out BD.out (((((H_T.out.below B1.out).below B2.out).below B3.out).below B4.out).below B5.out)⟩
 go_wp2_with fail
 refine HC.out.mono ?_
 clear HC
 rintro e w6 ⟨s, rfl, hS, hB⟩
 have B6 := Aside0.mk hB
 have T6 := tT T5 hB
 have HTS := Aside0.mk hS
 have hsz :  (s.size : Int) ≤ 400 := by have h1 := congrArg List.length hS; rw [data_length] at h1; have h2 := HLS.out; omega
 clear hS hB hu0 hu1 hu2
 have HSZ := Aside0.mk (show s.size ≤ 400 by omega)
 have HPS := Aside0.mk (show s.data.toList = ratT (decide (X.num < 0)) X.num.natAbs X.den by rw [HTS.out, HSX.out, E_a.out])
 have HC : Aside0 (Calls Tryz.prog 8 #[.string s] w6 (RaPostE w6 X 0)) := ⟨parse_ratL HSZ.out HPS.out ((((((H_M.out.below B1.out).below B2.out).below B3.out).below B4.out).below B5.out).below B6.out)⟩
 go_wp2_with fail
 refine HC.out.mono ?_
 clear HC
 rintro e w7 ⟨v_r, rfl, ⟨A_r, M_r, c_r, B_r, K_r, d_r, rfl, hNA, hNB⟩, hB⟩
 have B7 := Aside0.mk hB
 have T7 := tT T6 hB
 obtain ⟨b_r, hb_r⟩ : ∃ b, b = decide (Rat.num (X) < 0) := ⟨_, rfl⟩
 try rw [← hb_r]
 have E_r := Aside0.mk hb_r
 clear hb_r
 have NA_r := Aside0.mk hNA
 have NB_r := Aside0.mk hNB
 clear hNA hNB hB
 have H_r := Aside0.mk (show Ra w7 (.agg #[.bool b_r, .slice A_r M_r c_r, .slice B_r K_r d_r]) (X) from by unfold Ra; rw [← E_r.out]; exact ⟨_, _, _, _, _, _, rfl, NA_r.out, NB_r.out⟩)
 have H_NAr := Aside0.mk NA_r.out
 have H_NBr := Aside0.mk NB_r.out
 have B8 := Aside0.mk (below_alloc (Below.refl w7.heap.size w7) (.cells #[.bool b_r, .slice A_r M_r c_r, .slice B_r K_r d_r] 27))
 have T8 := tT T7 B8.out
 have H_r_0 := Aside0.mk (show CellAt (w7.alloc (.cells #[.bool b_r, .slice A_r M_r c_r, .slice B_r K_r d_r] 27)) (w7.heap.size) 0 (.bool b_r) by unfold CellAt; simp)
 have H_r_1 := Aside0.mk (show CellAt (w7.alloc (.cells #[.bool b_r, .slice A_r M_r c_r, .slice B_r K_r d_r] 27)) (w7.heap.size) 1 (.slice A_r M_r c_r) by unfold CellAt; simp)
 have H_r_2 := Aside0.mk (show CellAt (w7.alloc (.cells #[.bool b_r, .slice A_r M_r c_r, .slice B_r K_r d_r] 27)) (w7.heap.size) 2 (.slice B_r K_r d_r) by unfold CellAt; simp)
 go_wp2_with fail
 have B9 := Aside0.mk (Below.drew (Below.refl (w7.alloc (.cells #[.bool b_r, .slice A_r M_r c_r, .slice B_r K_r d_r] 27)).heap.size (w7.alloc (.cells #[.bool b_r, .slice A_r M_r c_r, .slice B_r K_r d_r] 27))))
 have T9 := tT T8 B9.out
 have HS9 := Aside0.mk (fun (W : World) (hW : Below ((w7.alloc (.cells #[.bool b_r, .slice A_r M_r c_r, .slice B_r K_r d_r] 27)).drew).heap.size ((w7.alloc (.cells #[.bool b_r, .slice A_r M_r c_r, .slice B_r K_r d_r] 27)).drew) W) => show W.cell? ⟨w7.heap.size, 0, none⟩ = some (.bool b_r) ∧ W.cell? ⟨w7.heap.size, 1, none⟩ = some (.slice A_r M_r c_r) ∧ W.cell? ⟨w7.heap.size, 2, none⟩ = some (.slice B_r K_r d_r) from ⟨((H_r_0.out.below B9.out).below hW), ((H_r_1.out.below B9.out).below hW), ((H_r_2.out.below B9.out).below hW)⟩)
 have U9 := Aside0.mk (Below.refl ((w7.alloc (.cells #[.bool b_r, .slice A_r M_r c_r, .slice B_r K_r d_r] 27)).drew).heap.size ((w7.alloc (.cells #[.bool b_r, .slice A_r M_r c_r, .slice B_r K_r d_r] 27)).drew))
 refine wp_region_held_drew (S := fun W => W.cell? ⟨w7.heap.size, 0, none⟩ = some (.bool b_r) ∧ W.cell? ⟨w7.heap.size, 1, none⟩ = some (.slice A_r M_r c_r) ∧ W.cell? ⟨w7.heap.size, 2, none⟩ = some (.slice B_r K_r d_r)) Z4 (HS9.out _ (Below.refl _ _)) (fun hHeld => ?_)
 refine Inv.tk 0 (h := ?_)
 try simp only [PU]
 refine Inv.tk 1 (h := ?_)
 try simp only [PU]
 refine Inv.oneL (i := 2) rfl Z4 (fun K hK => ?_)
 go_simp
 refine (HMW.out _).mono ?_
 rintro e w10 ⟨rfl, hd⟩
 try go_wp2_with fail
 have B10 := Aside0.mk (drawn_below (B := ((w7.alloc (.cells #[.bool b_r, .slice A_r M_r c_r, .slice B_r K_r d_r] 27)).drew).heap.size) hd)
 have T10 := Aside0.mk (T9.out.trans ((drawn_below (B := ((w7.alloc (.cells #[.bool b_r, .slice A_r M_r c_r, .slice B_r K_r d_r] 27)).drew).heap.size) hd).mono T9.out.size))
 clear hd
 have U10 := tT U9 B10.out
 refine hK.out _ _ (HS9.out _ U10.out) (fun hHeld => ?_)
 clear hK K
 try simp only [PU]
 refine Inv.oneL (i := 3) rfl Z4 (fun K hK => ?_)
 have HC := Aside0.mk (HO.out _ _ _ _ _ _ _ (((H_NAr.out.below B8.out).below B9.out).below B10.out) (((H_NBr.out.below B8.out).below B9.out).below B10.out))
 rw [← E_r.out] at HC
 go_simp
 refine HC.out.mono ?_
 clear HC
 rintro e w11 ⟨rfl, hB⟩
 try go_wp2_with fail
 have B11 := Aside0.mk hB
 have T11 := tT T10 hB
 clear hB
 have U11 := tT U10 B11.out
 refine hK.out _ _ (HS9.out _ U11.out) (fun hHeld => ?_)
 clear hK K
 try simp only [PU]
 refine Inv.tk 4 (h := ?_)
 try simp only [PU]
 refine Inv.tk 5 (h := ?_)
 try simp only [PU]
 refine Inv.tk 6 (h := ?_)
 try simp only [PU]
 refine Inv.tk 7 (h := ?_)
 try simp only [PU]
 refine Inv.tk 8 (h := ?_)
 try simp only [PU]
 refine wpAnyH_done Z4 ?_ _
 have HC : Aside0 (Calls Tryz.prog 11 #[.agg #[.int .u64 (x : Int), .int .u64 (x : Int)], .agg #[.int .u64 (y : Int), .int .u64 (y : Int)]] w11 (fun e w' => e = .returned (.agg #[.int .u64 ((lo : Nat) : Int), .int .u64 ((hi : Nat) : Int)]) ∧ Below w11.heap.size w11 w')) := ⟨by rw [HLO.out, HHI.out]; exact ivalAdd_w HX.out HY.out⟩
 go_wp2_with fail
 refine HC.out.mono ?_
 clear HC
 rintro e w12 ⟨rfl, hB⟩
 have B12 := Aside0.mk hB
 have T12 := tT T11 hB
 clear hB
 have B13 := Aside0.mk (below_alloc (Below.refl w12.heap.size w12) (.cells #[.int .u64 ((lo : Nat) : Int), .int .u64 ((hi : Nat) : Int)] 37))
 have T13 := tT T12 B13.out
 have H_i0 := Aside0.mk (show CellAt (w12.alloc (.cells #[.int .u64 ((lo : Nat) : Int), .int .u64 ((hi : Nat) : Int)] 37)) (w12.heap.size) 0 (.int .u64 ((lo : Nat) : Int)) by unfold CellAt; simp)
 have H_i1 := Aside0.mk (show CellAt (w12.alloc (.cells #[.int .u64 ((lo : Nat) : Int), .int .u64 ((hi : Nat) : Int)] 37)) (w12.heap.size) 1 (.int .u64 ((hi : Nat) : Int)) by unfold CellAt; simp)
 have HC : Aside0 (Calls Tryz.prog 10 #[.int .i64 a4, .int .i64 5] (w12.alloc (.cells #[.int .u64 ((lo : Nat) : Int), .int .u64 ((hi : Nat) : Int)] 37)) (fun e w' => e = .returned (.int .i64 m) ∧ Drawn0 (w12.alloc (.cells #[.int .u64 ((lo : Nat) : Int), .int .u64 ((hi : Nat) : Int)] 37)) w')) := ⟨HMW.out _⟩
 go_wp2_with fail
 refine HC.out.mono ?_
 clear HC
 rintro e w14 ⟨rfl, hd⟩
 have B14 := Aside0.mk (drawn_below (B := (w12.alloc (.cells #[.int .u64 ((lo : Nat) : Int), .int .u64 ((hi : Nat) : Int)] 37)).heap.size) hd)
 have T14 := Aside0.mk (T13.out.trans ((drawn_below (B := (w12.alloc (.cells #[.int .u64 ((lo : Nat) : Int), .int .u64 ((hi : Nat) : Int)] 37)).heap.size) hd).mono T13.out.size))
 clear hd
 have HC : Aside0 (Calls Tryz.prog 12 #[.int .u64 (x : Int), .int .u64 (y : Int), .int .i64 m] w14 (IntsPost w14 (((z : Nat) : Int)) (addF x y m))) := ⟨by rw [HZ.out]; exact Add_w HX.out HY.out H0.out H5.out⟩
 go_wp2_with fail
 refine HC.out.mono ?_
 clear HC
 rintro e w15 ⟨rfl, hB⟩
 have B15 := Aside0.mk hB
 have T15 := tT T14 hB
 clear hB
 have hc0 : w15.cell? ⟨w12.heap.size, 0, none⟩ = some (.int .u64 ((lo : Nat) : Int)) := ((H_i0.out.below B14.out).below B15.out)
 have hc1 : w15.cell? ⟨w12.heap.size, 1, none⟩ = some (.int .u64 ((hi : Nat) : Int)) := ((H_i1.out.below B14.out).below B15.out)
 have HC : Aside0 (Calls Tryz.prog 13 #[.int .u64 ((lo : Nat) : Int), .int .u64 ((z : Nat) : Int)] w15 (fun e w' => e = .returned (.tuple #[.int .i64 s1, .bool true]) ∧ Drawn0 w15 w')) := ⟨by rw [HS1.out]; exact cmp_nu OLO.out OZ.out⟩
 go_wp2_with fail
 refine HC.out.mono ?_
 clear HC
 rintro e w16 ⟨rfl, hd⟩
 have B16 := Aside0.mk (drawn_below (B := w15.heap.size) hd)
 have T16 := Aside0.mk (T15.out.trans ((drawn_below (B := w15.heap.size) hd).mono T15.out.size))
 clear hd hc0 hc1
 have hc0 : w16.cell? ⟨w12.heap.size, 0, none⟩ = some (.int .u64 ((lo : Nat) : Int)) := (((H_i0.out.below B14.out).below B15.out).below B16.out)
 have hc1 : w16.cell? ⟨w12.heap.size, 1, none⟩ = some (.int .u64 ((hi : Nat) : Int)) := (((H_i1.out.below B14.out).below B15.out).below B16.out)
 have HC : Aside0 (Calls Tryz.prog 13 #[.int .u64 ((z : Nat) : Int), .int .u64 ((hi : Nat) : Int)] w16 (fun e w' => e = .returned (.tuple #[.int .i64 s2, .bool true]) ∧ Drawn0 w16 w')) := ⟨by rw [HS2.out]; exact cmp_nu OZ.out OHI.out⟩
 go_wp2_with fail
 refine HC.out.mono ?_
 clear HC
 rintro e w17 ⟨rfl, hd⟩
 have B17 := Aside0.mk (drawn_below (B := w16.heap.size) hd)
 have T17 := Aside0.mk (T16.out.trans ((drawn_below (B := w16.heap.size) hd).mono T16.out.size))
 clear hd hc0 hc1
 have l1 := L1.out
 have l2 := L2.out
 go_wp2_with fail
 go_ret
 exact ⟨rfl, T17.out⟩
set_option maxHeartbeats 2000000 in
set_option maxRecDepth 100000 in
theorem w_long {w : World} {a0 a1 x y : Nat} {a2 a3 a4 m : Int} (hT : TabOk w) (hM : MaxOk w) (hx : ffin x) (hy : ffin y) (HEX : ∀ w : World, Calls Tryz.prog 5 #[.int .u64 (a0 : Int), .int .i64 a2] w (EndPost w x)) (HEY : ∀ w : World, Calls Tryz.prog 5 #[.int .u64 (a1 : Int), .int .i64 a3] w (EndPost w y)) (h0 : 0 ≤ m) (h5 : m < 5) (hmw : anticlinetop_within.f a4 5 = some m) (hlen : ¬ (ratT (decide ((fval x).num < 0)) (fval x).num.natAbs (fval x).den).length ≤ 400) : Calls Tryz.prog 3 #[.int .u64 (a0 : Int), .int .u64 (a1 : Int), .int .i64 a2, .int .i64 a3, .int .i64 a4] w (TruePost w) := by
 obtain ⟨lo, hlo⟩ : ∃ q, q = addV x y 2 := ⟨_, rfl⟩
 obtain ⟨hi, hhi⟩ : ∃ q, q = addV x y 3 := ⟨_, rfl⟩
 obtain ⟨z, hz⟩ : ∃ q, q = addV x y m := ⟨_, rfl⟩
 obtain ⟨s1, hs1⟩ : ∃ q, q = fsign lo z := ⟨_, rfl⟩
 obtain ⟨s2, hs2⟩ : ∃ q, q = fsign z hi := ⟨_, rfl⟩
 have L1 := Aside0.mk (show s1 ≤ 0 by rw [hs1, hlo, hz]; exact fsign_le (add_order x y h0 h5).1)
 have L2 := Aside0.mk (show s2 ≤ 0 by rw [hs2, hhi, hz]; exact fsign_le (add_order x y h0 h5).2)
 have OLO := Aside0.mk (show fok lo by rw [hlo]; exact add_ok x y 2)
 have OHI := Aside0.mk (show fok hi by rw [hhi]; exact add_ok x y 3)
 have OZ := Aside0.mk (show fok z by rw [hz]; exact add_ok x y m)
 have HLO := Aside0.mk hlo
 have HHI := Aside0.mk hhi
 have HZ := Aside0.mk hz
 have HS1 := Aside0.mk hs1
 have HS2 := Aside0.mk hs2
 have HX := Aside0.mk hx
 have HY := Aside0.mk hy
 have H0 := Aside0.mk h0
 have H5 := Aside0.mk h5
 have H_T := Aside0.mk hT
 have H_M := Aside0.mk hM
 have HLEN := Aside0.mk hlen
 have HEX_ := Aside0.mk HEX
 have HEY_ := Aside0.mk HEY
 have HMW := Aside0.mk (fun (W : World) => anticlinetop_within.calls a4 5 m W hmw)
 obtain ⟨X, hX⟩ : ∃ q : Rat, q = fval x := ⟨_, rfl⟩
 have HSR := Aside0.mk (fun (W : World) => show Calls Tryz.prog 6 #[.int .u64 (x : Int)] W (RaPostE W X 0) from by rw [hX]; exact sRat_w hx)
 have BN := Aside0.mk (show X.num.natAbs < pw 1000 by rw [hX]; exact Nat.lt_trans (fval_facts hx).2.2.2.1 (pw_lt Z5))
 have BD := Aside0.mk (show X.den < pw 1000 by rw [hX]; exact Nat.lt_trans (fval_facts hx).2.2.2.2 (pw_lt Z5))
 rw [← hX] at HLEN
 clear hX hlo hhi hz hs1 hs2 hx hy h0 h5 hT hM hlen HEX HEY hmw
 go_enter Tryz.func3, Tryz.ntmps3
 have HC : Aside0 (Calls Tryz.prog 4 #[] w (TruePost w)) := ⟨Abs.known_w w⟩
 go_wp2_with fail
 refine HC.out.mono ?_
 clear HC
 rintro e w1 ⟨rfl, hB⟩
 have B1 := Aside0.mk hB
 have T1 := Aside0.mk (hB.mono (Nat.le_refl _))
 clear hB
 have HC : Aside0 (Calls Tryz.prog 5 #[.int .u64 (a0 : Int), .int .i64 a2] w1 (EndPost w1 x)) := ⟨HEX_.out _⟩
 go_wp2_with fail
 refine HC.out.mono ?_
 clear HC
 rintro e w2 ⟨rfl, hB⟩
 have B2 := Aside0.mk hB
 have T2 := tT T1 hB
 clear hB
 have HC : Aside0 (Calls Tryz.prog 5 #[.int .u64 (a1 : Int), .int .i64 a3] w2 (EndPost w2 y)) := ⟨HEY_.out _⟩
 go_wp2_with fail
 refine HC.out.mono ?_
 clear HC
 rintro e w3 ⟨rfl, hB⟩
 have B3 := Aside0.mk hB
 have T3 := tT T2 hB
 clear hB
 have HC : Aside0 (Calls Tryz.prog 6 #[.int .u64 (x : Int)] w3 (RaPostE w3 X 0)) := ⟨HSR.out _⟩
 go_wp2_with fail
 refine HC.out.mono ?_
 clear HC
 rintro e w4 ⟨v_a, rfl, ⟨A_a, M_a, c_a, B_a, K_a, d_a, rfl, hNA, hNB⟩, hB⟩
 have B4 := Aside0.mk hB
 have T4 := tT T3 hB
 obtain ⟨b_a, hb_a⟩ : ∃ b, b = decide (Rat.num (X) < 0) := ⟨_, rfl⟩
 try rw [← hb_a]
 have E_a := Aside0.mk hb_a
 clear hb_a
 have NA_a := Aside0.mk hNA
 have NB_a := Aside0.mk hNB
 clear hNA hNB hB
 have H_a := Aside0.mk (show Ra w4 (.agg #[.bool b_a, .slice A_a M_a c_a, .slice B_a K_a d_a]) (X) from by unfold Ra; rw [← E_a.out]; exact ⟨_, _, _, _, _, _, rfl, NA_a.out, NB_a.out⟩)
 have H_NAa := Aside0.mk NA_a.out
 have H_NBa := Aside0.mk NB_a.out
 have B5 := Aside0.mk (below_alloc (Below.refl w4.heap.size w4) (.cells #[.bool b_a, .slice A_a M_a c_a, .slice B_a K_a d_a] 27))
 have T5 := tT T4 B5.out
 have H_a_0 := Aside0.mk (show CellAt (w4.alloc (.cells #[.bool b_a, .slice A_a M_a c_a, .slice B_a K_a d_a] 27)) (w4.heap.size) 0 (.bool b_a) by unfold CellAt; simp)
 have H_a_1 := Aside0.mk (show CellAt (w4.alloc (.cells #[.bool b_a, .slice A_a M_a c_a, .slice B_a K_a d_a] 27)) (w4.heap.size) 1 (.slice A_a M_a c_a) by unfold CellAt; simp)
 have H_a_2 := Aside0.mk (show CellAt (w4.alloc (.cells #[.bool b_a, .slice A_a M_a c_a, .slice B_a K_a d_a] 27)) (w4.heap.size) 2 (.slice B_a K_a d_a) by unfold CellAt; simp)
 obtain ⟨sx, hsx⟩ : ∃ l, l = ratT b_a X.num.natAbs X.den := ⟨_, rfl⟩
 have HSX := Aside0.mk hsx
 have HLS := Aside0.mk (show ¬ sx.length ≤ 400 by rw [hsx, E_a.out]; exact HLEN.out)
 clear hsx
 have hu0 : (w4.alloc (.cells #[.bool b_a, .slice A_a M_a c_a, .slice B_a K_a d_a] 27)).cell? ⟨w4.heap.size, 0, none⟩ = some (.bool b_a) := H_a_0.out
 have hu1 : (w4.alloc (.cells #[.bool b_a, .slice A_a M_a c_a, .slice B_a K_a d_a] 27)).cell? ⟨w4.heap.size, 1, none⟩ = some (.slice A_a M_a c_a) := H_a_1.out
 have hu2 : (w4.alloc (.cells #[.bool b_a, .slice A_a M_a c_a, .slice B_a K_a d_a] 27)).cell? ⟨w4.heap.size, 2, none⟩ = some (.slice B_a K_a d_a) := H_a_2.out
 have HC : Aside0 (Calls Tryz.prog 7 #[(.agg #[.bool b_a, .slice A_a M_a c_a, .slice B_a K_a d_a])] (w4.alloc (.cells #[.bool b_a, .slice A_a M_a c_a, .slice B_a K_a d_a] 27)) (TextPost (w4.alloc (.cells #[.bool b_a, .slice A_a M_a c_a, .slice B_a K_a d_a] 27)) sx)) := ⟨by rw [HSX.out]; exact qtext_w ⟨_, _, _, _, _, _, rfl, (H_NAa.out.below B5.out), (H_NBa.out.below B5.out)⟩ BN.out BD.out (((((H_T.out.below B1.out).below B2.out).below B3.out).below B4.out).below B5.out)⟩
 go_wp2_with fail
 refine HC.out.mono ?_
 clear HC
 rintro e w6 ⟨s, rfl, hS, hB⟩
 have B6 := Aside0.mk hB
 have T6 := tT T5 hB
 have HTS := Aside0.mk hS
 have hsz : ¬ (s.size : Int) ≤ 400 := by have h1 := congrArg List.length hS; rw [data_length] at h1; have h2 := HLS.out; omega
 clear hS hB hu0 hu1 hu2
 have HC : Aside0 (Calls Tryz.prog 11 #[.agg #[.int .u64 (x : Int), .int .u64 (x : Int)], .agg #[.int .u64 (y : Int), .int .u64 (y : Int)]] w6 (fun e w' => e = .returned (.agg #[.int .u64 ((lo : Nat) : Int), .int .u64 ((hi : Nat) : Int)]) ∧ Below w6.heap.size w6 w')) := ⟨by rw [HLO.out, HHI.out]; exact ivalAdd_w HX.out HY.out⟩
 go_wp2_with fail
 refine HC.out.mono ?_
 clear HC
 rintro e w7 ⟨rfl, hB⟩
 have B7 := Aside0.mk hB
 have T7 := tT T6 hB
 clear hB
 have B8 := Aside0.mk (below_alloc (Below.refl w7.heap.size w7) (.cells #[.int .u64 ((lo : Nat) : Int), .int .u64 ((hi : Nat) : Int)] 37))
 have T8 := tT T7 B8.out
 have H_i0 := Aside0.mk (show CellAt (w7.alloc (.cells #[.int .u64 ((lo : Nat) : Int), .int .u64 ((hi : Nat) : Int)] 37)) (w7.heap.size) 0 (.int .u64 ((lo : Nat) : Int)) by unfold CellAt; simp)
 have H_i1 := Aside0.mk (show CellAt (w7.alloc (.cells #[.int .u64 ((lo : Nat) : Int), .int .u64 ((hi : Nat) : Int)] 37)) (w7.heap.size) 1 (.int .u64 ((hi : Nat) : Int)) by unfold CellAt; simp)
 have HC : Aside0 (Calls Tryz.prog 10 #[.int .i64 a4, .int .i64 5] (w7.alloc (.cells #[.int .u64 ((lo : Nat) : Int), .int .u64 ((hi : Nat) : Int)] 37)) (fun e w' => e = .returned (.int .i64 m) ∧ Drawn0 (w7.alloc (.cells #[.int .u64 ((lo : Nat) : Int), .int .u64 ((hi : Nat) : Int)] 37)) w')) := ⟨HMW.out _⟩
 go_wp2_with fail
 refine HC.out.mono ?_
 clear HC
 rintro e w9 ⟨rfl, hd⟩
 have B9 := Aside0.mk (drawn_below (B := (w7.alloc (.cells #[.int .u64 ((lo : Nat) : Int), .int .u64 ((hi : Nat) : Int)] 37)).heap.size) hd)
 have T9 := Aside0.mk (T8.out.trans ((drawn_below (B := (w7.alloc (.cells #[.int .u64 ((lo : Nat) : Int), .int .u64 ((hi : Nat) : Int)] 37)).heap.size) hd).mono T8.out.size))
 clear hd
 have HC : Aside0 (Calls Tryz.prog 12 #[.int .u64 (x : Int), .int .u64 (y : Int), .int .i64 m] w9 (IntsPost w9 (((z : Nat) : Int)) (addF x y m))) := ⟨by rw [HZ.out]; exact Add_w HX.out HY.out H0.out H5.out⟩
 go_wp2_with fail
 refine HC.out.mono ?_
 clear HC
 rintro e w10 ⟨rfl, hB⟩
 have B10 := Aside0.mk hB
 have T10 := tT T9 hB
 clear hB
 have hc0 : w10.cell? ⟨w7.heap.size, 0, none⟩ = some (.int .u64 ((lo : Nat) : Int)) := ((H_i0.out.below B9.out).below B10.out)
 have hc1 : w10.cell? ⟨w7.heap.size, 1, none⟩ = some (.int .u64 ((hi : Nat) : Int)) := ((H_i1.out.below B9.out).below B10.out)
 have HC : Aside0 (Calls Tryz.prog 13 #[.int .u64 ((lo : Nat) : Int), .int .u64 ((z : Nat) : Int)] w10 (fun e w' => e = .returned (.tuple #[.int .i64 s1, .bool true]) ∧ Drawn0 w10 w')) := ⟨by rw [HS1.out]; exact cmp_nu OLO.out OZ.out⟩
 go_wp2_with fail
 refine HC.out.mono ?_
 clear HC
 rintro e w11 ⟨rfl, hd⟩
 have B11 := Aside0.mk (drawn_below (B := w10.heap.size) hd)
 have T11 := Aside0.mk (T10.out.trans ((drawn_below (B := w10.heap.size) hd).mono T10.out.size))
 clear hd hc0 hc1
 have hc0 : w11.cell? ⟨w7.heap.size, 0, none⟩ = some (.int .u64 ((lo : Nat) : Int)) := (((H_i0.out.below B9.out).below B10.out).below B11.out)
 have hc1 : w11.cell? ⟨w7.heap.size, 1, none⟩ = some (.int .u64 ((hi : Nat) : Int)) := (((H_i1.out.below B9.out).below B10.out).below B11.out)
 have HC : Aside0 (Calls Tryz.prog 13 #[.int .u64 ((z : Nat) : Int), .int .u64 ((hi : Nat) : Int)] w11 (fun e w' => e = .returned (.tuple #[.int .i64 s2, .bool true]) ∧ Drawn0 w11 w')) := ⟨by rw [HS2.out]; exact cmp_nu OZ.out OHI.out⟩
 go_wp2_with fail
 refine HC.out.mono ?_
 clear HC
 rintro e w12 ⟨rfl, hd⟩
 have B12 := Aside0.mk (drawn_below (B := w11.heap.size) hd)
 have T12 := Aside0.mk (T11.out.trans ((drawn_below (B := w11.heap.size) hd).mono T11.out.size))
 clear hd hc0 hc1
 have l1 := L1.out
 have l2 := L2.out
 go_wp2_with fail
 go_ret
 exact ⟨rfl, T12.out⟩
theorem walk (a0 a1 : Nat) (a2 a3 a4 : Int) (w : World) (h0 : a0 < 18446744073709551616) (h1 : a1 < 18446744073709551616) (hT : TabOk w) (hM : MaxOk w) : Calls Tryz.prog 3 #[.int .u64 (a0 : Int), .int .u64 (a1 : Int), .int .i64 a2, .int .i64 a3, .int .i64 a4] w (TruePost w) := by
 obtain ⟨x, hx, HEX⟩ := End_w h0 a2
 obtain ⟨y, hy, HEY⟩ := End_w h1 a3
 obtain ⟨m, m0, m5, hmw⟩ := within5 a4
 obtain ⟨o, ho, hO⟩ := back_w hx m0 m5
 by_cases c : (ratT (decide ((fval x).num < 0)) (fval x).num.natAbs (fval x).den).length ≤ 400
 ·rcases ho with ho | ho
  ·exact w_same hT hM hx hy HEX HEY m0 m5 hmw c o ho hO
  ·exact w_zero hT hM hx hy HEX HEY m0 m5 hmw c o ho hO
 ·exact w_long hT hM hx hy HEX HEY m0 m5 hmw c
end Go.Proofs.YtpegcppeobndcaaGreatDoor.topFloats
