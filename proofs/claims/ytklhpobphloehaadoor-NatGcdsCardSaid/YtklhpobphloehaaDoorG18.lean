/- The contract of Div. -/
import Derived.Test.YtklhpobphloehaaDoorG17
import Derived.Test.YtklhpobphloehaaDoorDivQ
set_option linter.unusedVariables false
namespace Go.Proofs.YtklhpobphloehaaDoor.G
open Go.RowKit Go.Proofs.YtklhpobphloehaaDoorW.PrintWords Go.Proofs.YtklhpobphloehaaDoorW.PrintLast Go.Proofs.YtklhpobphloehaaDoor.Nn

def DivPost (w : World) (x y : Nat) (e : Ending) (w' : World) : Prop := ∃ vq vr, e = .returned (.tuple #[vq, vr, .int .i64 (if y = 0 then 5 else 0)]) ∧ Nu w' vq (x / y) ∧ Nu w' vr (if y = 0 then 0 else x % y) ∧ Below w.heap.size w w'
theorem div_zero {w w' : World} {x y : Nat} (h : y = 0) (hB : Below w.heap.size w w') : DivPost w x y (.returned (.tuple #[.slice none 0 0, .slice none 0 0, .int .i64 5])) w' :=
  ⟨_, _, by rw [if_pos h], by rw [h, Nat.div_zero]; exact Nu_nil _, by rw [if_pos h]; exact Nu_nil _, hB⟩
theorem div_less {w w' : World} {x y : Nat} {v : Value} (h : x < y) (hv : Nu w' v x) (hB : Below w.heap.size w w') : DivPost w x y (.returned (.tuple #[.slice none 0 0, v, .int .i64 0])) w' :=
  ⟨_, _, by rw [if_neg (by omega)], by rw [Nat.div_eq_of_lt h]; exact Nu_nil _, by rw [if_neg (by omega), Nat.mod_eq_of_lt h]; exact hv, hB⟩
theorem div_done {w w' : World} {x y : Nat} {vq vr : Value} (h : y ≠ 0) (hq : Nu w' vq (x / y)) (hr : Nu w' vr (x % y)) (hB : Below w.heap.size w w') : DivPost w x y (.returned (.tuple #[vq, vr, .int .i64 0])) w' :=
  ⟨_, _, by rw [if_neg h], hq, by rw [if_neg h]; exact hr, hB⟩
theorem digs_one {y : Nat} (h : (digs y).length = 1) : lm (digs y) 0 = y := by
  have e := val_digs y
  cases hd : digs y with
  | nil => rw [hd] at h; cases h
  | cons a t =>
    rw [hd] at h e
    cases t with
    | nil => simpa [val, lm] using e
    | cons b t => simp at h
set_option maxHeartbeats 8000000 in
set_option maxRecDepth 100000 in
theorem divN {w : World} {vx vy : Value} {x y : Nat} (hx : Nu w vx x) (hy : Nu w vy y) (bx : x < pw 1000) (by_ : y < pw 1000) : Calls Tryd.prog 51 #[vx, vy] w (DivPost w x y) := by
  obtain ⟨A0, c0, rfl, h0, C0⟩ := hx
  obtain ⟨A1, c1, rfl, h1, C1⟩ := hy
  have hlx := small_len bx
  have hlx0 : (digs x).length ≤ 1000 := digs_length_le bx
  have hly := small_len by_
  have HCA := cut_w A0 c0 (digs x) w C0 h0 (by omega)
  have HCB := fun (W : World) (hB : Below w.heap.size w W) => cut_w A1 c1 (digs y) W (CU_below C1 hB) h1 (by omega)
  have HCA := Aside0.mk HCA
  have HCB := Aside0.mk HCB
  have h0 := Aside0.mk h0
  have h1 := Aside0.mk h1
  clear C0 C1 bx by_
  go_enter Tryd.func51, Tryd.ntmps51
  go_wp2_with fail
  refine HCA.out.mono ?_
  rintro e w1 ⟨va, rfl, hRa, hBa⟩
  have HB1 := Aside0.mk hBa
  rw [strip_eq (lim_digs x), val_digs] at hRa
  obtain ⟨Aa, ca, rfl, hca, hCa⟩ := RU_slice hRa
  have HA1 := Aside0.mk hCa
  have HCA2 := Aside0.mk hca
  clear hRa hBa hCa hca
  go_wp2_with fail
  refine (HCB.out w1 HB1.out).mono ?_
  rintro e w2 ⟨vb, rfl, hRb, hBb⟩
  have HB2 := Aside0.mk (HB1.out.trans (hBb.mono HB1.out.size))
  have HA2 := Aside0.mk (CU_below HA1.out hBb)
  rw [strip_eq (lim_digs y), val_digs] at hRb
  obtain ⟨Ab, cb, rfl, hcb, hCb⟩ := RU_slice hRb
  have HBB2 := Aside0.mk hCb
  clear hRb hBb hCb hcb
  by_cases hy0 : y = 0
  · have HY := Aside0.mk hy0
    have hl0 : (digs y).length = 0 := digs_length_zero.2 hy0
    clear hy0
    go_wp2_with fail
    go_ret3
    exact div_zero HY.out HB2.out
  · have hlp : 0 < (digs y).length := by
      rcases Nat.eq_zero_or_pos (digs y).length with h | h
      · exact absurd (digs_length_zero.1 h) hy0
      · exact h
    have HY := Aside0.mk hy0
    have hb1 : (((digs y).length : Int) == 0) = false := by rw [beq_eq_false_iff_ne]; omega
    have hb2 : ((digs y).length == 0) = false := by rw [beq_eq_false_iff_ne]; omega
    have HCM := cmp_w Aa Ab ca cb (digs x) (digs y) w2 HA2.out HBB2.out (lim_digs x) (lim_digs y) (norm_digs x) (norm_digs y) hlx hly
    rw [val_digs, val_digs] at HCM
    clear hy0
    by_cases hxy : x < y
    · rw [cmpZ_lt hxy] at HCM
      have HCM := Aside0.mk HCM
      have HXY := Aside0.mk hxy
      clear hxy
      go_wp2_with fail
      refine HCM.out.mono ?_
      rintro e w3 ⟨rfl, hB3⟩
      have HB3 := Aside0.mk (HB2.out.trans (hB3.mono HB2.out.size))
      have HA3 := Aside0.mk (CU_below HA2.out hB3)
      clear hB3
      go_wp2_with fail
      go_ret3
      exact div_less HXY.out ⟨_, _, rfl, HCA2.out, HA3.out⟩ HB3.out
    · obtain ⟨z, hz⟩ : ∃ z, z = cmpZ x y := ⟨_, rfl⟩
      rw [← hz] at HCM
      have hz0 : decide (z < 0) = false := by
        rw [decide_eq_false_iff_not, hz]
        rcases Nat.lt_or_ge y x with h | h
        · rw [cmpZ_gt h]; omega
        · rw [cmpZ_eq (by omega)]; omega
      have HCM := Aside0.mk HCM
      have HXY := Aside0.mk (show y ≤ x by omega)
      clear hxy hz
      go_wp2_with fail
      refine HCM.out.mono ?_
      rintro e w3 ⟨rfl, hB3⟩
      have HB3 := Aside0.mk (HB2.out.trans (hB3.mono HB2.out.size))
      have HA3 := Aside0.mk (CU_below HA2.out hB3)
      have HBB3 := Aside0.mk (CU_below HBB2.out hB3)
      clear hB3
      by_cases hl1 : (digs y).length = 1
      · have hyv := digs_one hl1
        have hyl := lm_lt (lim_digs y) 0
        rw [hyv] at hyl
        obtain ⟨ad, e, hcell⟩ := CU_at HBB3.out 0 (by omega)
        subst e
        rw [lm_cast (lim_digs y), hyv] at hcell
        have hcell0 : w3.cell? ad = some (.int .u32 (y : Int)) := hcell
        have HSM := small_w Aa ca (digs x) y w3 HA3.out (lim_digs x) hlx (by have := HY.out; omega) hyl
        rw [val_digs] at HSM
        have HSM := Aside0.mk HSM
        obtain ⟨r, hr⟩ : ∃ r, r = x % y := ⟨_, rfl⟩
        have hrl : r < 4294967296 := by have := Nat.mod_lt x (show 0 < y from Nat.pos_of_ne_zero HY.out); omega
        have HRR := Aside0.mk hr
        have hl2 : (((digs y).length : Int) == 1) = true := by rw [beq_iff_eq]; omega
        clear hr hyv
        go_wp2_with fail
        refine HSM.out.mono ?_
        rintro e w4 ⟨v4, rfl, hR4, hB4⟩
        have HB4 := Aside0.mk (HB3.out.trans (hB4.mono HB3.out.size))
        have HQ4 := Aside0.mk (Nu_of_RU hR4)
        rw [← HRR.out]
        have HOF := Aside0.mk (ofN (w := w4) r (by omega))
        clear hR4 hB4
        go_wp2_with fail
        refine HOF.out.mono ?_
        rintro e w5 ⟨v5, rfl, hR5, hB5⟩
        have HB5 := Aside0.mk (HB4.out.trans (hB5.mono HB4.out.size))
        have HQ5 := Aside0.mk (HQ4.out.below hB5)
        have HR5 := Aside0.mk hR5
        clear hR5 hB5
        go_wp2_with fail
        go_ret3
        exact div_done HY.out HQ5.out (by rw [← HRR.out]; exact HR5.out) HB5.out
      · have hl2 : 2 ≤ (digs y).length := by omega
        have hb3 : (((digs y).length : Int) == 1) = false := by rw [beq_eq_false_iff_ne]; omega
        have hle : (digs y).length ≤ (digs x).length := by
          refine Nat.le_of_not_lt fun h => ?_
          have := digs_length_lt h
          have := HXY.out
          omega
        obtain ⟨ad, e, hcell⟩ := CU_at HBB3.out ((digs y).length - 1) (by omega)
        subst e
        have hx1 := lm_lt (lim_digs y) ((digs y).length - 1)
        rw [lm_cast (lim_digs y)] at hcell
        have hDN := div_norm HY.out
        generalize lm (digs y) ((digs y).length - 1) = t at hcell hx1 hDN
        have hi : (((digs y).length : Int) - 1).toNat = (digs y).length - 1 := by omega
        have HLZ : Calls Tryd.prog 92 #[.int .u32 (t : Int)] w3 fun e w' => e = .returned (.int .i64 ((32 - nbits t : Nat) : Int)) ∧ w' = w3 := by
          have h := Tryd.bits_LeadingZeros32 (t : Int) w3 (by omega) (by omega)
          rw [show ((t : Int)).toNat = t from by omega, bitLen_nbits 32 t hx1 (by omega), show (32 : Int) - ((nbits t : Nat) : Int) = ((32 - nbits t : Nat) : Int) from by have := nbits_limb hx1; omega] at h
          exact h
        obtain ⟨s, hs⟩ : ∃ s, s = 32 - nbits t := ⟨_, rfl⟩
        rw [← hs] at HLZ hDN
        obtain ⟨hvl, hvlow, hvtop, hn1, hn32⟩ := hDN
        have hs31 : s ≤ 31 := by omega
        clear hs hn1 hn32
        have HLZ := Aside0.mk HLZ
        obtain ⟨V, hV⟩ : ∃ V, V = y * 2 ^ s := ⟨_, rfl⟩
        obtain ⟨XS, hXS⟩ : ∃ XS, XS = x * 2 ^ s := ⟨_, rfl⟩
        have HSV : Calls Tryd.prog 31 #[.slice (some ad) (digs y).length cb, .int .i64 (s : Int)] w3 (NumPost w3 V) := by
          have h := shl_w (some ad) cb (digs y) 0 s w3 HBB3.out (lim_digs y) hly (by omega) (by omega)
          rw [val_digs, show 32 * 0 + s = s from by omega, ← hV] at h
          exact h
        have HSV := Aside0.mk HSV
        have hst := div_start hs31 hle hvlow hlp
        rw [← hV] at hvl hvlow hvtop hst
        rw [← hXS] at hst
        have HST := Aside0.mk hst
        have HVL := Aside0.mk hvl
        have HVT := Aside0.mk hvtop
        have HV := Aside0.mk hV
        have HXS := Aside0.mk hXS
        clear hvlow hvtop hst hV hXS hvl
        have hmk : ∀ W : World, (Instr.makeSlice 22 (.int .i64 (((digs x).length : Int) + 1)) (.int .i64 (((digs x).length : Int) + 1))).run Tryd.prog W = .ok (.slice (some ⟨W.heap.size, 0, none⟩) ((digs x).length + 1) ((digs x).length + 1)) (W.alloc (.cells (madeCells #[.int .u32 0] ((digs x).length + 1)) 54)) := fun W => make_u ((digs x).length + 1) (by omega) W
        go_wp2_with fail
        refine HLZ.out.mono ?_
        rintro e wx ⟨rfl, rfl⟩
        go_wp2_with fail
        refine HSV.out.mono ?_
        rintro e w4 ⟨vv, rfl, hRv, hB4⟩
        obtain ⟨gv, cv, rfl, hgv1, hgv2⟩ := RU_block hRv (by rw [HVL.out]; exact hlp)
        have HRV4 := Aside0.mk hRv
        rw [HVL.out]
        obtain ⟨w6, hclr, hU6, hT6⟩ := clear_ex (RU_made w4 ((digs x).length + 1) (by omega)) (by simp) (by omega)
        have hB36 : Below wx.heap.size wx w6 := (below_alloc hB4 _).trans (tch_below hT6 hB4.size (by have := hB4.size; simp; omega))
        have HA6 := Aside0.mk (CU_below HA3.out hB36)
        have HB6 := Aside0.mk (HB3.out.trans (hB36.mono HB3.out.size))
        have hHV6 : RU w6 wx.heap.size (.slice (some ⟨gv, 0, none⟩) (digs V).length cv) (digs V) := RU_tch (RU_below hRv (below_alloc (Below.refl _ _) _)) hT6 (by omega)
        have HV6 := Aside0.mk hHV6
        have hB4s := hB4.size
        have HU6 := Aside0.mk hU6
        have h6s : w4.heap.size < w6.heap.size := by have := hT6.size; simp at this; omega
        have HSA : Calls Tryd.prog 31 #[.slice Aa (digs x).length ca, .int .i64 (s : Int)] w6 (NumPost w6 XS) := by
          have h := shl_w Aa ca (digs x) 0 s w6 HA6.out (lim_digs x) hlx (by omega) (by omega)
          rw [val_digs, show 32 * 0 + s = s from by omega, ← HXS.out] at h
          exact h
        have HSA := Aside0.mk HSA
        clear hRv hB4 hT6 hB36 hHV6 hU6
        go_wp2_with fail
        refine HSA.out.mono ?_
        rintro e w7 ⟨va2, rfl, hRa2, hB7⟩
        have hxs1 : (digs XS).length ≤ (digs x).length + 1 := digs_length_le (by
          rw [HXS.out, pw_succ, Nat.mul_comm 4294967296]
          exact Nat.mul_lt_mul_of_lt_of_le (lt_pw_digs x) (Nat.pow_le_pow_right (by decide) (show s ≤ 32 by omega)) (by decide))
        have hxs0 : 0 < (digs XS).length := by
          rcases Nat.eq_zero_or_pos (digs XS).length with h | h
          · exfalso
            have h2 := digs_length_zero.1 h
            rw [HXS.out] at h2
            have h3 : 0 < x := by have := HXY.out; have := Nat.pos_of_ne_zero HY.out; omega
            have := Nat.mul_pos h3 (Nat.pow_pos (by decide : 0 < 2) (n := s))
            omega
          · exact h
        obtain ⟨A7, c7, rfl, _, hC7⟩ := RU_slice hRa2
        have hU7 := RU_below HU6.out hB7
        have hV7 := RU_below HV6.out hB7
        obtain ⟨w8, hcpy, hU8, hT8⟩ := copy_ex (c := c7) hU7 (by simp) hC7 rfl hxs0 hxs1
        have HU8 := Aside0.mk hU8
        have HV8 := Aside0.mk (RU_tch hV7 hT8 (by omega))
        have hwx : w.heap.size ≤ w4.heap.size := by have := HB3.out.size; omega
        have HB8 := Aside0.mk ((HB6.out.trans (hB7.mono HB6.out.size)).trans (tch_below hT8 hwx (by have := hB7.size; have := HB6.out.size; omega)))
        have h8s : w4.heap.size < w8.heap.size := by have := hT8.size; have := hB7.size; omega
        obtain ⟨N, hN⟩ : ∃ N, N = (digs x).length - (digs y).length + 1 := ⟨_, rfl⟩
        have hmk2 : ∀ W : World, (Instr.makeSlice 22 (.int .i64 (((digs x).length : Int) - ((digs y).length : Int) + 1)) (.int .i64 (((digs x).length : Int) - ((digs y).length : Int) + 1))).run Tryd.prog W = .ok (.slice (some ⟨W.heap.size, 0, none⟩) N N) (W.alloc (.cells (madeCells #[.int .u32 0] N) 54)) := fun W => by
          have h := make_u N (by omega) W
          rw [show ((N : Nat) : Int) = ((digs x).length : Int) - ((digs y).length : Int) + 1 from by omega] at h
          exact h
        have HO9 := Aside0.mk (RU_made w8 N (by omega))
        have HU9 := Aside0.mk (RU_below HU8.out (below_alloc (Below.refl _ _) (.cells (madeCells #[.int .u32 0] N) 54)))
        have HV9 := Aside0.mk (RU_below HV8.out (below_alloc (Below.refl _ _) (.cells (madeCells #[.int .u32 0] N) 54)))
        have HB9 := Aside0.mk (HB8.out.alloc HB8.out.size (.cells (madeCells #[.int .u32 0] N) 54))
        clear hRa2 hB7 hC7 hU7 hV7 hU8 hT8
        have hgv3 : w.heap.size ≤ gv := by have := HB3.out.size; omega
        have HNN := Aside0.mk hN
        have hN1 : N + (digs y).length ≤ (digs x).length + 1 := by omega
        have hN2 : (digs x).length + 1 ≤ N + (digs y).length := by omega
        clear hN
        have hw8 : w.heap.size ≤ w8.heap.size := HB8.out.size
        go_wp2_with fail
        go_loopw [13] (fun ii wr => ∃ (j : Nat) (u o : List Int), j ≤ N ∧ ii = .int .i64 ((j : Int) - 1) ∧ Aside0 (u.length = (digs x).length + 1 ∧ Lim u ∧ o.length = N ∧ Lim o ∧ val u + V * (pw j * val (o.drop j)) = XS ∧ val u < V * pw j ∧ RU wr w.heap.size (.slice (some ⟨w4.heap.size, 0, none⟩) ((digs x).length + 1) ((digs x).length + 1)) u ∧ RU wr w.heap.size (.slice (some ⟨w8.heap.size, 0, none⟩) N N) o ∧ RU wr w.heap.size (.slice (some ⟨gv, 0, none⟩) (digs V).length cv) (digs V)) ∧ Aside0 (Below w.heap.size w wr)) (fun ii _ => (intOf ii + 1).toNat)
        case atStart => exact ⟨N, ov (List.replicate ((digs x).length + 1) 0) 0 (digs XS), List.replicate N 0, Nat.le_refl _, by go_num, ⟨by rw [ov_length, List.length_replicate], lim_ov hxs1 (lim_digs XS), List.length_replicate, Lim.replicate N, by rw [val_ov hxs1, val_digs, List.drop_of_length_le (by simp)]; simp [val], by rw [val_ov hxs1, val_digs, HNN.out]; exact HST.out, RU_lower HU9.out hwx, RU_lower HO9.out hw8, RU_lower HV9.out HB3.out.size⟩, ⟨HB9.out⟩⟩
        case round =>
          obtain ⟨j, u, o, hj, rfl, HO, HB⟩ := hrel
          rcases Nat.eq_zero_or_pos j with rfl | hj0
          · obtain ⟨hul, hLu, hol, hLo, hA, hlt, hRu, hRo, hRv⟩ := HO.out
            rw [pw_zero, Nat.one_mul, List.drop_zero] at hA
            rw [pw_zero, Nat.mul_one] at hlt
            have HE := Aside0.mk (div_end (x := x) (y := y) (s := s) (u := val u) (q := val o) (by rw [← HV.out, ← HXS.out]; exact hA) (by rw [← HV.out]; exact hlt))
            have HCO := cut_w (some ⟨w8.heap.size, 0, none⟩) N o wr (CU_tch hRo hol (tch_refl w4.heap.size wr) (by omega)) (by omega) (by omega)
            rw [hol] at HCO
            have HCU := fun (W : World) (h : Below wr.heap.size wr W) => cut_w (some ⟨w4.heap.size, 0, none⟩) ((digs x).length + 1) u W (CU_below (CU_tch hRu hul (tch_refl w8.heap.size wr) (by omega)) h) (by omega) (by omega)
            rw [hul] at HCU
            have HCO := Aside0.mk HCO
            have HCU := Aside0.mk HCU
            have HLO := Aside0.mk hLo
            have HLU := Aside0.mk hLu
            have hvu : val u < pw 1000000 := by
              have := val_lt hLu
              exact Nat.lt_of_lt_of_le this (pw_le (by omega))
            have HVU := Aside0.mk hvu
            clear hul hLu hol hLo hA hlt hRu hRo hRv hvu
            go_wp2_with fail
            refine HCO.out.mono ?_
            rintro e w10 ⟨vq, rfl, hR10, hB10⟩
            rw [strip_eq HLO.out] at hR10
            have HQ10 := Aside0.mk (Nu_of_RU hR10)
            have HB10 := Aside0.mk (HB.out.trans (hB10.mono HB.out.size))
            have HC10 := Aside0.mk (HCU.out w10 hB10)
            clear hR10 hB10
            go_wp2_with fail
            refine HC10.out.mono ?_
            rintro e w11 ⟨vu, rfl, hR11, hB11⟩
            rw [strip_eq HLU.out] at hR11
            obtain ⟨A11, c11, rfl, _, hC11⟩ := RU_slice hR11
            have HQ11 := Aside0.mk (HQ10.out.below hB11)
            have HB11 := Aside0.mk (HB10.out.trans (hB11.mono HB10.out.size))
            have HSR : Calls Tryd.prog 32 #[.slice A11 (digs (val u)).length c11, .int .i64 (s : Int)] w11 (NumPost w11 (val u / 2 ^ s)) := by
              have h := shr_w A11 c11 (digs (val u)) 0 s w11 hC11 (lim_digs _) (Nat.lt_of_le_of_lt (digs_length_le (k := (digs x).length + 1) (by have := HO.out.1; have h2 := val_lt HLU.out; rw [this] at h2; exact h2)) (by omega)) (by omega) (by omega)
              rw [val_digs, show 32 * 0 + s = s from by omega] at h
              exact h
            have HSR := Aside0.mk HSR
            clear hR11 hB11 hC11
            go_wp2_with fail
            refine HSR.out.mono ?_
            rintro e w12 ⟨vr, rfl, hR12, hB12⟩
            have HQ12 := Aside0.mk (HQ11.out.below hB12)
            have HB12 := Aside0.mk (HB11.out.trans (hB12.mono HB11.out.size))
            have HR12 := Aside0.mk (Nu_of_RU hR12)
            clear hR12 hB12
            go_wp2_with fail
            go_ret3
            exact div_done HY.out (by rw [← HE.out.1]; exact HQ12.out) (by rw [← HE.out.2]; exact HR12.out) HB12.out
          · obtain ⟨k, rfl⟩ : ∃ k, j = k + 1 := ⟨j - 1, by omega⟩
            rw [show ((k + 1 : Nat) : Int) - 1 = (k : Int) from by omega]
            obtain ⟨hul, hLu, hol, hLo, hA, hlt, hRu, hRo, hRv⟩ := HO.out
            have hlt' : val u < val (digs V) * pw (k + 1) := by rw [val_digs]; exact hlt
            have hgs := gs_of hLu (lim_digs V) HVL.out hl2 (show k + (digs y).length + 1 ≤ u.length by omega) HVT.out hlt'
            have HG := guess_w w4.heap.size w.heap.size u (digs V) (some ⟨gv, 0, none⟩) cv k (digs y).length _ wr (by rw [hul]; exact hRu) (by have := CU_tch hRv rfl (tch_refl w8.heap.size wr) (by omega); rwa [HVL.out] at this) HVL.out hLu (lim_digs V) (by omega) (by omega) hl2 hgs
            rw [hul] at HG
            have HG := Aside0.mk HG
            have HLT := Aside0.mk hlt'
            have HVP := Aside0.mk (show 0 < val (digs V) from Nat.pos_of_ne_zero (fun h => by rw [h, Nat.zero_mul] at hlt'; omega))
            clear hul hLu hol hLo hA hlt hRu hRo hRv hgs hlt'
            go_wp2_with fail
            refine HG.out.mono ?_
            rintro e w10 ⟨q, rfl, hq1, hq2, hq, hQt⟩
            obtain ⟨hul, hLu, hol, hLo, hA, hlt, hRu, hRo, hRv⟩ := HO.out
            have hRu10 := RU_below hRu (qt_below hQt)
            have hRo10 := RU_below hRo (qt_below hQt)
            have hRv10 := RU_below hRv (qt_below hQt)
            have HT := take_w w4.heap.size w.heap.size u (digs V) (some ⟨gv, 0, none⟩) cv k q w10 (by rw [hul]; exact hRu10) (fun w' h => CU_tch hRv10 rfl h (by omega)) hLu (lim_digs V) (by rw [HVL.out]; omega) (by omega) hq
            rw [hul, HVL.out] at HT
            have HT := Aside0.mk HT
            have HB10 := Aside0.mk (HB.out.trans ((qt_below hQt).mono HB.out.size))
            have HRo10 := Aside0.mk hRo10
            have HRv10 := Aside0.mk hRv10
            have HQ1 := Aside0.mk hq1
            have HQ2 := Aside0.mk hq2
            clear hul hLu hol hLo hA hlt hRu hRo hRv hRu10 hRo10 hRv10 hq1 hq2 hQt
            go_wp2_with fail
            refine HT.out.mono ?_
            rintro e w11 ⟨o1, y1, rfl, hy1, ho1l, ho1L, ho1v, ho1t, hR1, hT1⟩
            have hfst := div_fst HO.out.2.1 ho1L (lim_digs V) HVL.out HLT.out HQ1.out HQ2.out hy1 (by rw [HVL.out] at ho1v; exact ho1v) (by rw [HVL.out] at ho1t; exact ho1t)
            rw [HVL.out] at ho1v ho1t
            have hQle : val u / pw k / val (digs V) * val (digs V) * pw k ≤ val u := by
              have h1 := Nat.div_mul_le_self (val u / pw k) (val (digs V))
              exact Nat.le_trans (Nat.mul_le_mul_right _ h1) (Nat.div_mul_le_self _ _)
            obtain ⟨Q, hQ⟩ : ∃ Q, Q = val u / pw k / val (digs V) := ⟨_, rfl⟩
            rw [← hQ] at hfst hQle
            have HQE := Aside0.mk hQ
            have HQ3 := Aside0.mk hQle
            have HFT := Aside0.mk hfst
            have HB11 := Aside0.mk (HB10.out.trans (tch_below hT1 hwx (by have := HB10.out.size; have := hT1.size; omega)))
            have hRo11 := RU_tch HRo10.out hT1 (by omega)
            have HRo11 := Aside0.mk hRo11
            have HRv11 := Aside0.mk (RU_tch HRv10.out hT1 (by omega))
            have HR1 := Aside0.mk hR1
            have HO1 := Aside0.mk (show o1.length = u.length ∧ Lim o1 ∧ (∀ m, k + (digs y).length + 1 ≤ m → lm o1 m = lm u m) ∧ val o1 + q * val (digs V) * pw k = val u + y1 * pw (k + (digs y).length + 1) from ⟨ho1l, ho1L, ho1t, ho1v⟩)
            have hs11 : w8.heap.size < w11.heap.size := by
              have h1 := (own_RU hRo11).lt w8.heap.size rfl
              exact h1.2
            clear hfst hQle hQ ho1l ho1L ho1t ho1v hR1 hT1 hRo11
            rcases (show y1 = 0 ∨ y1 = 1 by omega) with rfl | rfl
            · have hqQ := HFT.out.1 rfl
              obtain ⟨hc1, hc2⟩ := RU_at HRo11.out HO.out.2.2.1 k (by omega)
              have HFIN := Aside0.mk (div_rel (lu := u) (lv := digs V) (o2 := o1) (out := o) (j := k) (A := XS) HVP.out (by have := HO.out.2.2.1; omega) (by have := HO1.out.2.2.2; rw [hqQ, Nat.zero_mul, Nat.add_zero] at this; rw [← HQE.out]; exact this) (by rw [val_digs]; exact HO.out.2.2.2.2.1))
              have HQQ := Aside0.mk hqQ
              clear hqQ
              go_wp2_with fail
              go_roundw
              case rel =>
                have hqQ := HQQ.out
                have hF := HFIN.out
                rw [← HQE.out, ← hqQ, val_digs] at hF
                have hst := RU_set HRo11.out HO.out.2.2.1 k (q : Int)
                have htc := tch_set (tch_refl w8.heap.size w11) k (.int .u32 (q : Int))
                exact ⟨k, o1, o.set k (q : Int), by omega, by go_num, ⟨by rw [HO1.out.1]; exact HO.out.1, HO1.out.2.1, by rw [List.length_set]; exact HO.out.2.2.1, HO.out.2.2.2.1.set k (by omega) (by omega), hF.1, hF.2, RU_tch (by have := HR1.out; rwa [HO.out.1] at this) htc (by omega), hst, RU_tch HRv11.out htc (by omega)⟩, ⟨below_set HB11.out hw8 _ _⟩⟩
              case measure => simp [intOf]
            · have hqQ := HFT.out.2.1 rfl
              have HBK := back_w w4.heap.size w.heap.size o1 (digs V) (some ⟨gv, 0, none⟩) cv k w11 (by have := HR1.out; rwa [← HO1.out.1] at this) (fun w' h => CU_tch HRv11.out rfl h (by omega)) HO1.out.2.1 (lim_digs V) (by rw [HVL.out, HO1.out.1, HO.out.1]; omega) (by rw [HO1.out.1, HO.out.1]; omega)
              rw [HO1.out.1, HO.out.1, HVL.out] at HBK
              have HBK := Aside0.mk HBK
              have hqw : IntKind.u64.wrap ((q : Int) - 1) = (Q : Int) := by rw [u64_in (by omega) (by omega)]; omega
              have hQb : Q < 4294967296 := by omega
              have HQQ := Aside0.mk hqQ
              clear hqQ
              go_wp2_with fail
              refine HBK.out.mono ?_
              rintro e w12 ⟨o2, y2, rfl, hy2, ho2l, ho2L, ho2v, ho2t, hR2, hT2⟩
              rw [HVL.out] at ho2v ho2t
              have hsnd := div_snd (lu := u) (lv := digs V) (o := o1) (o2 := o2) (j := k) (n := (digs y).length) (c := y2) (Q := Q) ho2L hy2 HFT.out.2.2.1 HO1.out.2.1 HFT.out.2.2.2 HQ3.out (by have := HO1.out.2.2.2; rw [HQQ.out, Nat.one_mul] at this; exact this) ho2v ho2t
              have HFIN := Aside0.mk (div_rel (lu := u) (lv := digs V) (o2 := o2) (out := o) (j := k) (A := XS) HVP.out (by have := HO.out.2.2.1; omega) (by rw [← HQE.out]; exact hsnd) (by rw [val_digs]; exact HO.out.2.2.2.2.1))
              have hRo12 := RU_tch HRo11.out hT2 (by omega)
              have HRo12 := Aside0.mk hRo12
              have HRv12 := Aside0.mk (RU_tch HRv11.out hT2 (by omega))
              have HR2 := Aside0.mk hR2
              have HO2 := Aside0.mk (show o2.length = o1.length ∧ Lim o2 from ⟨ho2l, ho2L⟩)
              have HB12 := Aside0.mk (HB11.out.trans (tch_below hT2 hwx (by have := HB11.out.size; omega)))
              obtain ⟨hc1, hc2⟩ := RU_at hRo12 HO.out.2.2.1 k (by omega)
              clear hsnd hRo12 ho2l ho2L ho2v ho2t hR2 hT2
              go_wp2_with fail
              go_roundw
              case rel =>
                have hF := HFIN.out
                rw [← HQE.out, val_digs] at hF
                have hst := RU_set HRo12.out HO.out.2.2.1 k (Q : Int)
                have htc := tch_set (tch_refl w8.heap.size w12) k (.int .u32 (Q : Int))
                exact ⟨k, o2, o.set k (Q : Int), by omega, by go_num, ⟨by rw [HO2.out.1, HO1.out.1]; exact HO.out.1, HO2.out.2, by rw [List.length_set]; exact HO.out.2.2.1, HO.out.2.2.2.1.set k (by omega) (by omega), hF.1, hF.2, RU_tch (by have := HR2.out; rwa [HO1.out.1, HO.out.1] at this) htc (by omega), hst, RU_tch HRv12.out htc (by omega)⟩, ⟨below_set HB12.out hw8 _ _⟩⟩
              case measure => simp [intOf]

def DivPost1 (w : World) (q r : Nat) (e : Ending) (w' : World) : Prop := ∃ vq vr, e = .returned (.tuple #[vq, vr, .int .i64 0]) ∧ Nu w' vq q ∧ Nu w' vr r ∧ Below w.heap.size w w'
theorem divP {w : World} {vx vy : Value} {x y : Nat} (hx : Nu w vx x) (hy : Nu w vy y) (bx : x < pw 1000) (by_ : y < pw 1000) (h : y ≠ 0) : Calls Tryd.prog 51 #[vx, vy] w (DivPost1 w (x / y) (x % y)) :=
  (divN hx hy bx by_).mono (fun e w' hd => by
    obtain ⟨vq, vr, he, hq, hr, hB⟩ := hd
    rw [if_neg h] at he hr
    exact ⟨vq, vr, he, hq, hr, hB⟩)
def DivPost0 (w : World) (e : Ending) (w' : World) : Prop := ∃ vq vr, e = .returned (.tuple #[vq, vr, .int .i64 5]) ∧ Nu w' vq 0 ∧ Nu w' vr 0 ∧ Below w.heap.size w w'
theorem divZ {w : World} {vx vy : Value} {x y : Nat} (hx : Nu w vx x) (hy : Nu w vy y) (bx : x < pw 1000) (by_ : y < pw 1000) (h : y = 0) : Calls Tryd.prog 51 #[vx, vy] w (DivPost0 w) :=
  (divN hx hy bx by_).mono (fun e w' hd => by
    obtain ⟨vq, vr, he, hq, hr, hB⟩ := hd
    rw [if_pos h] at he hr
    rw [h, Nat.div_zero] at hq
    exact ⟨vq, vr, he, hq, hr, hB⟩)
theorem of_lt {v : Nat} (h : v < 18446744073709551616) : v < pw 2 := by rw [show pw 2 = 18446744073709551616 from by decide]; exact h
theorem one_lt : 1 < pw 2 := of_lt (by decide)
end Go.Proofs.YtklhpobphloehaaDoor.G
