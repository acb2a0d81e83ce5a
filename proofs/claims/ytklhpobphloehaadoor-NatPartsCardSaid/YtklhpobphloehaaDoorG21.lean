/- The contract of the reference's Div. -/
import Derived.Test.YtklhpobphloehaaDoorRDivP
import Derived.Test.YtklhpobphloehaaDoorG20
set_option linter.unusedVariables false
namespace Go.Proofs.YtklhpobphloehaaDoor.G
open Go.RowKit Go.Proofs.YtklhpobphloehaaDoorW.PrintWords Go.Proofs.YtklhpobphloehaaDoorW.PrintLast Go.Proofs.YtklhpobphloehaaDoor.Nn

theorem trimN {w : World} {v : Value} {n : Nat} (h : Nu w v n) (bn : n < pw 1000) : Calls Tryd.prog 87 #[v] w (NuPost w n) := by
  obtain ⟨A0, c0, rfl, h0, C0⟩ := h
  exact (trim_w A0 c0 (digs n) w C0 h0 (by have := small_len bn; omega)).mono (fun e w' ⟨v, he, hR, hB⟩ => by
    rw [strip_eq (lim_digs n), val_digs] at hR
    exact ⟨v, he, Nu_of_RU hR, hB⟩)
theorem rlessN {w : World} {vx vy : Value} {x y : Nat} (hx : Nu w vx x) (hy : Nu w vy y) (bx : x < pw 1000) (by_ : y < pw 1000) (hle : y ≤ x) : Calls Tryd.prog 91 #[vx, vy] w (NuPost w (x - y)) := by
  obtain ⟨A0, c0, rfl, h0, C0⟩ := hx
  obtain ⟨A1, c1, rfl, h1, C1⟩ := hy
  have h := less_w A0 A1 c0 c1 (digs x) (digs y) w C0 C1 (lim_digs x) (lim_digs y) (norm_digs x) (norm_digs y) (small_len bx) (small_len by_) (by rw [val_digs, val_digs]; exact hle)
  rw [val_digs, val_digs] at h
  exact h.mono NuPost_of
def Nt (g : Nat) (w : World) (v : Value) (n : Nat) : Prop := ∀ w', Tch g w w' → Nu w' v n
theorem Nt.nu {g : Nat} {w : World} {v : Value} {n : Nat} (h : Nt g w v n) : Nu w v n := h w (tch_refl g w)
theorem Nt.tch {g : Nat} {w w1 : World} {v : Value} {n : Nat} (h : Nt g w v n) (ht : Tch g w w1) : Nt g w1 v n := fun w' h2 => h w' (tch_trans ht h2)
theorem Nt.below {g : Nat} {w w1 : World} {v : Value} {n : Nat} (h : Nt g w v n) (hb : Below w.heap.size w w1) : Nt g w1 v n := h.tch (qt_tch (below_qt hb) g)
theorem Nt_of_RU {w : World} {base g : Nat} {v : Value} {n : Nat} (h : RU w base v (digs n)) (hg : g < base) : Nt g w v n := fun w' ht =>
  Nu_of_RU (RU_own ((own_RU h).kept ht (by
    cases hv : v.ownBlock with
    | none => exact .inl rfl
    | some k =>
      refine .inr (fun e => ?_)
      have h1 := (own_RU h).lt k hv
      have h2 := Option.some.inj e
      omega)))
def NtPost (g : Nat) (w : World) (n : Nat) (e : Ending) (w' : World) : Prop := ∃ v, e = .returned v ∧ Nt g w' v n ∧ Below w.heap.size w w'
theorem NtPost_of {g : Nat} {w : World} {n : Nat} (hg : g < w.heap.size) (e : Ending) (w' : World) (h : NumPost w n e w') : NtPost g w n e w' := by
  obtain ⟨v, he, hR, hB⟩ := h
  exact ⟨v, he, Nt_of_RU hR hg, hB⟩
theorem trimT {g : Nat} {w : World} {v : Value} {n : Nat} (h : Nu w v n) (bn : n < pw 1000) (hg : g < w.heap.size) : Calls Tryd.prog 87 #[v] w (NtPost g w n) := by
  obtain ⟨A0, c0, rfl, h0, C0⟩ := h
  exact (trim_w A0 c0 (digs n) w C0 h0 (by have := small_len bn; omega)).mono (fun e w' ⟨v, he, hR, hB⟩ => by
    rw [strip_eq (lim_digs n), val_digs] at hR
    exact ⟨v, he, Nt_of_RU hR hg, hB⟩)
theorem rlessT {g : Nat} {w : World} {vx vy : Value} {x y : Nat} (hx : Nu w vx x) (hy : Nu w vy y) (bx : x < pw 1000) (by_ : y < pw 1000) (hle : y ≤ x) (hg : g < w.heap.size) : Calls Tryd.prog 91 #[vx, vy] w (NtPost g w (x - y)) := by
  obtain ⟨A0, c0, rfl, h0, C0⟩ := hx
  obtain ⟨A1, c1, rfl, h1, C1⟩ := hy
  have h := less_w A0 A1 c0 c1 (digs x) (digs y) w C0 C1 (lim_digs x) (lim_digs y) (norm_digs x) (norm_digs y) (small_len bx) (small_len by_) (by rw [val_digs, val_digs]; exact hle)
  rw [val_digs, val_digs] at h
  exact h.mono (NtPost_of hg)
theorem rshrT {g : Nat} {w : World} {vx : Value} {x : Nat} (hx : Nu w vx x) (bx : x < pw 1000) (hg : g < w.heap.size) : Calls Tryd.prog 34 #[vx, .int .i64 1] w (NtPost g w (x / 2)) := by
  obtain ⟨A0, c0, rfl, h0, C0⟩ := hx
  have h := rshr_w A0 c0 (digs x) 0 1 w C0 (lim_digs x) (small_len bx) (by decide) (by decide)
  rw [val_digs] at h
  exact h.mono (NtPost_of hg)
theorem rshlT {g : Nat} {w : World} {vx : Value} {x : Nat} (hx : Nu w vx x) (bx : x < pw 1000) (k : Nat) (hk : k < 1048576) (hz : x ≠ 0) (hg : g < w.heap.size) : Calls Tryd.prog 33 #[vx, .int .i64 (k : Int)] w (NtPost g w (x * 2 ^ k)) := by
  obtain ⟨A0, c0, rfl, h0, C0⟩ := hx
  have h := rshl_w A0 c0 (digs x) (k / 32) (k % 32) w C0 (lim_digs x) (small_len bx) (by rw [digs_pos hz]; simp) (Nat.mod_lt _ (by decide)) (by omega)
  rw [val_digs, show 32 * (k / 32) + k % 32 = k from by omega] at h
  exact h.mono (NtPost_of hg)
theorem rdiv_bound {x y k t c : Nat} (hK : nbits x = nbits y + k) (hx : x < pw c) (ht : t ≤ k) : y * 2 ^ t < pw c := by
  have h1 := Nat.mul_lt_mul_of_lt_of_le (lt_nbits y) (Nat.pow_le_pow_right (show 0 < 2 by decide) ht) (Nat.pow_pos (by decide))
  rw [← Nat.pow_add, ← hK] at h1
  have h2 : 2 ^ nbits x ≤ pw c := by rw [pw_two]; exact Nat.pow_le_pow_right (by decide) (nbits_pw hx)
  exact Nat.lt_of_lt_of_le h1 h2
theorem rdiv_or {L s : Nat} (hL : L < 4294967296) (h : L ||| 2 ^ s = L + 2 ^ s ∧ L + 2 ^ s < 4294967296) : bits .or .u32 (L : Int) ((2 : Int) ^ s % 4294967296) = ((L + 2 ^ s : Nat) : Int) := by
  have e1 : (2 : Int) ^ s = ((2 ^ s : Nat) : Int) := by rw [Int.natCast_pow]; rfl
  rw [e1]
  obtain ⟨p, hp⟩ : ∃ p, p = 2 ^ s := ⟨_, rfl⟩
  rw [← hp] at h ⊢
  rw [show ((p : Nat) : Int) % 4294967296 = (p : Int) from by omega, bits_or_u32_nat _ _ hL (by omega), h.1]
set_option maxHeartbeats 8000000 in
set_option maxRecDepth 100000 in
theorem rdivN {w : World} {vx vy : Value} {x y : Nat} (hx : Nu w vx x) (hy : Nu w vy y) (bx : x < pw 500) (by_ : y < pw 500) : Calls Tryd.prog 52 #[vx, vy] w (DivPost w x y) := by
  have HX0 := Aside0.mk hx
  have HY0 := Aside0.mk hy
  have BX := Aside0.mk bx
  have BY := Aside0.mk by_
  obtain ⟨A1, c1, rfl, h1, C1⟩ := hy
  clear hx bx by_ h1 C1
  by_cases hy0 : y = 0
  · have HY := Aside0.mk hy0
    have hl0 : (digs y).length = 0 := digs_length_zero.2 hy0
    clear hy0
    go_enter Tryd.func52, Tryd.ntmps52
    go_wp2_with fail
    go_ret3
    exact div_zero HY.out (Below.refl _ _)
  · have hlp : 0 < (digs y).length := Nat.pos_of_ne_zero (fun h => hy0 (digs_length_zero.1 h))
    have HY := Aside0.mk hy0
    have hb1 : (((digs y).length : Int) == 0) = false := by rw [beq_eq_false_iff_ne]; omega
    have hb2 : ((digs y).length == 0) = false := by rw [beq_eq_false_iff_ne]; omega
    have HBX := rbitsN HX0.out (Nat.lt_of_lt_of_le BX.out (pw_le (by decide)))
    have HBY := fun (W : World) (hB : Below w.heap.size w W) => rbitsN (HY0.out.below hB) (Nat.lt_of_lt_of_le BY.out (pw_le (by decide)))
    have hn9 := nbits_pw BX.out
    have hm9 := nbits_pw BY.out
    obtain ⟨n, hn⟩ : ∃ n, n = nbits x := ⟨_, rfl⟩
    obtain ⟨m, hm⟩ := (⟨_, rfl⟩ : ∃ m, m = nbits y)
    rw [← hn] at HBX hn9
    rw [← hm] at HBY hm9
    have HNE := Aside0.mk hn
    have HME := Aside0.mk hm
    have HBX := Aside0.mk HBX
    have HBY := Aside0.mk HBY
    clear hy0 hn hm
    go_enter Tryd.func52, Tryd.ntmps52
    go_wp2_with fail
    refine HBX.out.mono ?_
    rintro e w1 ⟨rfl, hB1⟩
    have HB1 := Aside0.mk hB1
    clear hB1
    go_wp2_with fail
    refine (HBY.out w1 HB1.out).mono ?_
    rintro e w2 ⟨rfl, hB2⟩
    have HB2 := Aside0.mk (HB1.out.trans (hB2.mono HB1.out.size))
    clear hB2
    by_cases hnm : n < m
    · have HLT := Aside0.mk (show x < y from rdiv_less (by rw [← HNE.out, ← HME.out]; exact hnm))
      have HTR := Aside0.mk (trimN (HX0.out.below HB2.out) (Nat.lt_of_lt_of_le BX.out (pw_le (by decide))))
      go_wp2_with fail
      refine HTR.out.mono ?_
      rintro e w3 ⟨v3, rfl, hN3, hB3⟩
      have HB3 := Aside0.mk (HB2.out.trans (hB3.mono HB2.out.size))
      have HN3 := Aside0.mk hN3
      clear hN3 hB3
      go_wp2_with fail
      go_ret3
      exact div_less HLT.out HN3.out HB3.out
    · obtain ⟨k, hk⟩ : ∃ k, k = n - m := ⟨_, rfl⟩
      have hkw : IntKind.i64.wrap ((n : Int) - (m : Int)) = (k : Int) := by rw [i64_in' (by omega) (by omega)]; omega
      have hk9 : k ≤ 16000 := by omega
      have HK := Aside0.mk (show nbits x = nbits y + k by rw [← HNE.out, ← HME.out]; omega)
      obtain ⟨N, hN⟩ : ∃ N, N = k / 32 + 1 := ⟨_, rfl⟩
      have hmk : ∀ W : World, (Instr.makeSlice 22 (.int .i64 ((k : Int) / 32 + 1)) (.int .i64 ((k : Int) / 32 + 1))).run Tryd.prog W = .ok (.slice (some ⟨W.heap.size, 0, none⟩) N N) (W.alloc (.cells (madeCells #[.int .u32 0] N) 54)) := fun W => by
        have h := make_u N (by omega) W
        rw [show ((N : Nat) : Int) = (k : Int) / 32 + 1 from by omega] at h
        exact h
      have HM := Aside0.mk (RU_made w2 N (by omega))
      have HB3 := Aside0.mk (HB2.out.alloc HB2.out.size (.cells (madeCells #[.int .u32 0] N) 54))
      have HTR := Aside0.mk (trimT (g := w2.heap.size) (HX0.out.below HB3.out) (Nat.lt_of_lt_of_le BX.out (pw_le (by decide))) (by simp))
      have HSH := Aside0.mk (fun (W : World) (hB : Below w.heap.size w W) (hg : w2.heap.size < W.heap.size) => rshlT (g := w2.heap.size) (HY0.out.below hB) (Nat.lt_of_lt_of_le BY.out (pw_le (by decide))) k (by omega) HY.out hg)
      have HNN := Aside0.mk hN
      have hN1 : 32 * N ≤ k + 32 := by omega
      have hN2 : k + 1 ≤ 32 * N := by omega
      have hnk : (n : Int) - (m : Int) = (k : Int) := by omega
      clear hN hk
      have HDB := Aside0.mk (show ∀ t, t ≤ k → y * 2 ^ t < pw 500 from fun t ht => rdiv_bound HK.out BX.out ht)
      have HST := Aside0.mk (rdiv_start HY.out HK.out)
      go_wp2_with fail
      refine HTR.out.mono ?_
      rintro e w3 ⟨v3, rfl, hN3, hB3⟩
      have HN3 := Aside0.mk hN3
      have HM3 := Aside0.mk (RU_below HM.out hB3)
      have HB4 := Aside0.mk (HB3.out.trans (hB3.mono HB3.out.size))
      have HS4 := Aside0.mk (HSH.out w3 HB4.out (by have := hB3.size; simp at this; omega))
      clear hN3 hB3
      go_wp2_with fail
      refine HS4.out.mono ?_
      rintro e w4 ⟨v4, rfl, hN4, hB4⟩
      have HN4 := Aside0.mk hN4
      have HN3 := Aside0.mk (HN3.out.below hB4)
      have HM4 := Aside0.mk (RU_lower (RU_below HM3.out hB4) HB2.out.size)
      have HB5 := Aside0.mk (HB4.out.trans (hB4.mono HB4.out.size))
      have hw2 : w.heap.size ≤ w2.heap.size := HB2.out.size
      clear hN4 hB4
      go_wp2_with fail
      go_loopw [9, 10, 11] (fun rr dd ii wr => ∃ (j r : Nat) (q : List Int), ii = .int .i64 ((j : Int) - 1) ∧ j ≤ k + 1 ∧ Aside0 (Nt w2.heap.size wr rr r ∧ Nt w2.heap.size wr dd (y * 2 ^ j / 2) ∧ r < y * 2 ^ j ∧ x = r + y * val q ∧ val q % 2 ^ j = 0 ∧ q.length = N ∧ Lim q ∧ RU wr w.heap.size (.slice (some ⟨w2.heap.size, 0, none⟩) N N) q) ∧ Aside0 (Below w.heap.size w wr)) (fun _ _ ii _ => (intOf ii + 1).toNat)
      case atStart => exact ⟨k + 1, x, List.replicate N 0, by go_num, Nat.le_refl _, ⟨HN3.out, by rw [rdiv_half]; exact HN4.out, HST.out, by rw [val_replicate, Nat.mul_zero, Nat.add_zero], by rw [val_replicate, Nat.zero_mod], List.length_replicate, Lim.replicate N, HM4.out⟩, ⟨HB5.out⟩⟩
      case round =>
        clear HN3 HN4 HM3 HM4 HS4 HTR HBX HBY HSH
        obtain ⟨j, r, q, rfl, hj, HQ, HB⟩ := hrel
        rcases Nat.eq_zero_or_pos j with rfl | hj0
        · obtain ⟨hr, _, hlt, he, _, hql, hLq, hRq⟩ := HQ.out
          rw [Nat.pow_zero, Nat.mul_one] at hlt
          have HE := Aside0.mk (rdiv_end he hlt)
          have HC := trim_w (some ⟨w2.heap.size, 0, none⟩) N q _ (CU_tch hRq hql (tch_refl (w2.heap.size + 1) _) (by omega)) (by omega) (by omega)
          rw [hql] at HC
          have HC := Aside0.mk HC
          have HR := Aside0.mk hr
          have HL := Aside0.mk hLq
          clear hr hlt he hql hLq hRq
          go_wp2_with fail
          refine HC.out.mono ?_
          rintro e w6 ⟨vq, rfl, hR6, hB6⟩
          rw [strip_eq HL.out] at hR6
          have HQ6 := Aside0.mk (Nu_of_RU hR6)
          have HR6 := Aside0.mk (HR.out.below hB6)
          have HB6 := Aside0.mk (HB.out.trans (hB6.mono HB.out.size))
          clear hR6 hB6
          go_wp2_with fail
          go_ret3
          exact div_done HY.out (by rw [← HE.out.1]; exact HQ6.out) (by rw [← HE.out.2]; exact HR6.out.nu) HB6.out
        · obtain ⟨t, rfl⟩ : ∃ t, j = t + 1 := ⟨j - 1, by omega⟩
          rw [show ((t + 1 : Nat) : Int) - 1 = (t : Int) from by omega]
          have hd := HQ.out.2.1
          rw [rdiv_half] at hd
          have hrx : r < pw 500 := by have h1 := HQ.out.2.2.2.1; have h2 := BX.out; omega
          have hr1 : r < pw 1000 := Nat.lt_of_lt_of_le hrx (pw_le (by decide))
          have hd1 : y * 2 ^ t < pw 1000 := Nat.lt_of_lt_of_le (HDB.out t (by omega)) (pw_le (by decide))
          have HCM := rcmpN HQ.out.1.nu hd.nu hr1 hd1
          have HD := Aside0.mk hd
          have HR1 := Aside0.mk hr1
          have HD1 := Aside0.mk hd1
          clear hd hrx hr1 hd1
          obtain ⟨z, hz⟩ : ∃ z, z = cmpZ r (y * 2 ^ t) := ⟨_, rfl⟩
          rw [← hz] at HCM
          have HCM := Aside0.mk HCM
          by_cases hle : y * 2 ^ t ≤ r
          · have hz0 : decide (0 ≤ z) = true := by
              rw [decide_eq_true_iff, hz]
              rcases Nat.lt_or_ge (y * 2 ^ t) r with h | h
              · rw [cmpZ_gt h]; omega
              · rw [cmpZ_eq (by omega)]; omega
            have HLE := Aside0.mk hle
            clear hz hle
            go_wp2_with fail
            refine HCM.out.mono ?_
            rintro e w5 ⟨rfl, hB5⟩
            have HD5 := Aside0.mk (HD.out.below hB5)
            have HR5 := Aside0.mk (HQ.out.1.below hB5)
            have HQ5 := Aside0.mk (RU_below HQ.out.2.2.2.2.2.2.2 hB5)
            have HB5 := Aside0.mk (HB.out.trans (hB5.mono HB.out.size))
            clear hB5
            have HLS := Aside0.mk (rlessT (g := w2.heap.size) HR5.out.nu HD5.out.nu HR1.out HD1.out HLE.out ((own_RU HQ5.out).lt _ rfl).2)
            go_wp2_with fail
            refine HLS.out.mono ?_
            rintro e w6 ⟨v6, rfl, hN6, hB6⟩
            have HR6 := Aside0.mk hN6
            have HD6 := Aside0.mk (HD5.out.below hB6)
            have HQ6 := Aside0.mk (RU_below HQ5.out hB6)
            have HB6 := Aside0.mk (HB5.out.trans (hB6.mono HB5.out.size))
            clear hN6 hB6
            obtain ⟨hc1, hc2⟩ := RU_at HQ6.out HQ.out.2.2.2.2.2.1 (t / 32) (by omega)
            rw [lm_cast HQ.out.2.2.2.2.2.2.1] at hc1
            have hL1 := lm_lt HQ.out.2.2.2.2.2.2.1 (t / 32)
            have hLm := rdiv_limb (q := q) (i := t / 32) (s := t % 32) HQ.out.2.2.2.2.2.2.1 (by omega) (by rw [show 32 * (t / 32) + t % 32 + 1 = t + 1 from by omega]; exact HQ.out.2.2.2.2.1)
            have hsum := rdiv_sum hL1 (show t % 32 < 32 by omega) hLm
            obtain ⟨L, hLe⟩ : ∃ L, L = lm q (t / 32) := ⟨_, rfl⟩
            rw [← hLe] at hc1 hL1 hsum
            have HLE2 := Aside0.mk hLe
            have HSUM := Aside0.mk hsum
            clear hLm hLe hsum
            have hor := rdiv_or hL1 HSUM.out
            have HOR := Aside0.mk hor
            obtain ⟨P, hP⟩ : ∃ P, P = L + 2 ^ (t % 32) := ⟨_, rfl⟩
            have HP := Aside0.mk hP
            clear hor hP
            go_wp2_with fail
            rw [HOR.out, ← HP.out]
            have HST2 := Aside0.mk (RU_set HQ6.out HQ.out.2.2.2.2.2.1 (t / 32) (P : Int))
            have HT7 := Aside0.mk (tch_set (tch_refl w2.heap.size w6) (t / 32) (.int .u32 (P : Int)))
            have HB7 := Aside0.mk (below_set HB6.out hw2 (t / 32) (.int .u32 (P : Int)))
            generalize w6.setCell ⟨w2.heap.size, t / 32, none⟩ (.int .u32 (P : Int)) = w7 at HST2 HT7 HB7 ⊢
            have HD7 := Aside0.mk (HD6.out.tch HT7.out)
            have HR7 := Aside0.mk (HR6.out.tch HT7.out)
            refine (rshrT (g := w2.heap.size) HD7.out.nu HD1.out ((own_RU HST2.out).lt _ rfl).2).mono ?_
            rintro e w8 ⟨v8, rfl, hN8, hB8⟩
            have HD8 := Aside0.mk hN8
            have HR8 := Aside0.mk (HR7.out.below hB8)
            have HQ8 := Aside0.mk (RU_below HST2.out hB8)
            have HB8 := Aside0.mk (HB7.out.trans (hB8.mono HB7.out.size))
            have HONE := Aside0.mk (rdiv_one HQ.out.2.2.2.1 HQ.out.2.2.2.2.1 HQ.out.2.2.1 HLE.out)
            have HVS := Aside0.mk (show val (q.set (t / 32) (P : Int)) = val q + 2 ^ t by
              have h1 := rdiv_set (q := q) (i := t / 32) (s := t % 32) (by have := HQ.out.2.2.2.2.2.1; omega)
              rw [← HLE2.out, ← HP.out, show 32 * (t / 32) + t % 32 = t from by omega] at h1
              exact h1)
            have hPb : P < 4294967296 := by rw [HP.out]; exact HSUM.out.2
            clear hN8 hB8
            go_wp2_with fail
            go_roundw
            case rel => exact ⟨t, r - y * 2 ^ t, q.set (t / 32) (P : Int), by go_num, by omega, ⟨HR8.out, HD8.out, HONE.out.2.2, by rw [HVS.out]; exact HONE.out.1, by rw [HVS.out]; exact HONE.out.2.1, by rw [List.length_set]; exact HQ.out.2.2.2.2.2.1, HQ.out.2.2.2.2.2.2.1.set _ (by omega) (by omega), HQ8.out⟩, ⟨HB8.out⟩⟩
            case measure => simp [intOf]
          · have hz0 : decide (0 ≤ z) = false := by
              rw [decide_eq_false_iff_not, hz, cmpZ_lt (by omega)]; omega
            have HLE := Aside0.mk (show r < y * 2 ^ t by omega)
            clear hz hle
            go_wp2_with fail
            refine HCM.out.mono ?_
            rintro e w5 ⟨rfl, hB5⟩
            have HD5 := Aside0.mk (HD.out.below hB5)
            have HR5 := Aside0.mk (HQ.out.1.below hB5)
            have HQ5 := Aside0.mk (RU_below HQ.out.2.2.2.2.2.2.2 hB5)
            have HB5 := Aside0.mk (HB.out.trans (hB5.mono HB.out.size))
            clear hB5
            have HSR := Aside0.mk (rshrT (g := w2.heap.size) HD5.out.nu HD1.out ((own_RU HQ5.out).lt _ rfl).2)
            have HSR : Aside0 (Calls Tryd.prog 34 #[u10, .int .i64 1] w5 (NtPost w2.heap.size w5 (y * 2 ^ t / 2))) := ⟨HSR.out⟩
            go_wp2_with fail
            refine HSR.out.mono ?_
            rintro e w6 ⟨v6, rfl, hN6, hB6⟩
            have HD6 := Aside0.mk hN6
            have HR6 := Aside0.mk (HR5.out.below hB6)
            have HQ6 := Aside0.mk (RU_below HQ5.out hB6)
            have HB6 := Aside0.mk (HB5.out.trans (hB6.mono HB5.out.size))
            clear hN6 hB6
            go_wp2_with fail
            go_roundw
            case rel => exact ⟨t, r, q, by go_num, by omega, ⟨HR6.out, HD6.out, HLE.out, HQ.out.2.2.2.1, rdiv_none HQ.out.2.2.2.2.1, HQ.out.2.2.2.2.2.1, HQ.out.2.2.2.2.2.2.1, HQ6.out⟩, ⟨HB6.out⟩⟩
            case measure => simp [intOf]

theorem rdivP {w : World} {vx vy : Value} {x y : Nat} (hx : Nu w vx x) (hy : Nu w vy y) (bx : x < pw 500) (by_ : y < pw 500) (h : y ≠ 0) : Calls Tryd.prog 52 #[vx, vy] w (DivPost1 w (x / y) (x % y)) :=
  (rdivN hx hy bx by_).mono (fun e w' hd => by
    obtain ⟨vq, vr, he, hq, hr, hB⟩ := hd
    rw [if_neg h] at he hr
    exact ⟨vq, vr, he, hq, hr, hB⟩)
theorem rdivZ {w : World} {vx vy : Value} {x y : Nat} (hx : Nu w vx x) (hy : Nu w vy y) (bx : x < pw 500) (by_ : y < pw 500) (h : y = 0) : Calls Tryd.prog 52 #[vx, vy] w (DivPost0 w) :=
  (rdivN hx hy bx by_).mono (fun e w' hd => by
    obtain ⟨vq, vr, he, hq, hr, hB⟩ := hd
    rw [if_pos h] at he hr
    rw [h, Nat.div_zero] at hq
    exact ⟨vq, vr, he, hq, hr, hB⟩)
set_option maxHeartbeats 4000000 in
set_option maxRecDepth 100000 in
theorem rgcdN {w : World} {vx vy : Value} {x y : Nat} (hx : Nu w vx x) (hy : Nu w vy y) (bx : x < pw 500) (by_ : y < pw 500) : Calls Tryd.prog 54 #[vx, vy] w (NuPost w (Nat.gcd x y)) := by
  obtain ⟨A0, c0, rfl, h0, C0⟩ := hx
  obtain ⟨A1, c1, rfl, h1, C1⟩ := hy
  have BX := Aside0.mk bx
  have BY := Aside0.mk by_
  have HN0 := Aside0.mk (show Nu w (.slice A0 (digs x).length c0) x from ⟨A0, c0, rfl, h0, C0⟩)
  have HN1 := Aside0.mk (show Nu w (.slice A1 (digs y).length c1) y from ⟨A1, c1, rfl, h1, C1⟩)
  clear h0 h1 C0 C1 bx by_
  go_enter Tryd.func54, Tryd.ntmps54
  go_wp2_with fail
  go_loopg [0, 1] y (fun b va vb wr => ∃ (a : Nat) (A : Option Addr) (c : Nat), vb = .slice A (digs b).length c ∧ Aside0 (Nu wr va a ∧ Nu wr (.slice A (digs b).length c) b ∧ a < pw 500 ∧ b < pw 500 ∧ Nat.gcd a b = Nat.gcd x y) ∧ Aside0 (Below w.heap.size w wr))
  case atStart =>
    exact ⟨x, A1, c1, rfl, ⟨HN0.out, HN1.out, BX.out, BY.out, rfl⟩, ⟨Below.refl _ _⟩⟩
  case round =>
    obtain ⟨a, A, c, rfl, HN, HB⟩ := hrel
    by_cases hb : gk = 0
    · subst hb
      have HG := Aside0.mk (show a = Nat.gcd x y by have := HN.out.2.2.2.2; rwa [Nat.gcd_zero_right] at this)
      obtain ⟨Aa, ca, e, h1, h2⟩ := HN.out.1
      subst e
      have HC := Aside0.mk (trimN ⟨Aa, ca, rfl, h1, h2⟩ (Nat.lt_of_lt_of_le HN.out.2.2.1 (pw_le (by decide))))
      rw [digs_zero, List.length_nil]
      clear h1 h2
      go_wp2_with fail
      refine HC.out.mono ?_
      rintro e w3 ⟨v, rfl, hN3, hB3⟩
      have HN3 := Aside0.mk hN3
      have HB3 := Aside0.mk (HB.out.trans (hB3.mono HB.out.size))
      clear hN3 hB3
      go_wp2_with fail
      go_ret
      exact ⟨_, rfl, by rw [← HG.out]; exact HN3.out, HB3.out⟩
    · have hp : 0 < (digs gk).length := Nat.pos_of_ne_zero (fun h => hb (digs_length_zero.1 h))
      have HD := Aside0.mk (rdivP HN.out.1 HN.out.2.1 HN.out.2.2.1 HN.out.2.2.2.1 hb)
      have HB0 := Aside0.mk hb
      clear hb
      go_wp2_with fail
      refine HD.out.mono ?_
      rintro e w3 ⟨vq, vr, rfl, hQ, hR, hB3⟩
      have HR := Aside0.mk hR
      have HBN := Aside0.mk (HN.out.2.1.below hB3)
      have HB3 := Aside0.mk (HB.out.trans (hB3.mono HB.out.size))
      clear hQ hR hB3
      go_wp2_with fail
      go_roundg (a % gk)
      case rel =>
        obtain ⟨A', c', e', h1, h2⟩ := HR.out
        exact ⟨gk, A', c', e', ⟨HBN.out, ⟨A', c', rfl, h1, h2⟩, HN.out.2.2.2.1, Nat.lt_of_le_of_lt (Nat.mod_le _ _) HN.out.2.2.1, by rw [gcd_step]; exact HN.out.2.2.2.2⟩, ⟨HB3.out⟩⟩
      case measure => exact Nat.mod_lt _ (Nat.pos_of_ne_zero HB0.out)
end Go.Proofs.YtklhpobphloehaaDoor.G
