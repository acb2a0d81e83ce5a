/- (sfloat.num).rest, by hand. -/
import Derived.Test.YtpegcppeobndcaaGreatDoorAb
import Derived.Test.YtpegcppeobndcaaGreatDoorTh
import Derived.Test.YtpegcppeobndcaaGreatDoorS6
import Derived.LoopN
set_option linter.unusedVariables false
namespace Go.Proofs.YtpegcppeobndcaaGreatDoor.Giv
open Go.RowKit YtpegcppeobndcaaGreatDoorW.PrintWords YtpegcppeobndcaaGreatDoorW.PrintLast YtpegcppeobndcaaGreatDoorW.PrintMore Go.Proofs.YtpegcppeobndcaaGreatDoor.Nn Go.Proofs.YtpegcppeobndcaaGreatDoor.G
def sfloat_num_rest.f (a0_0 : Bool) (l0_1 : List Int) (a0_2 : Int) (a0_3 : Bool) (l1 : List Int) (a2 : Int) : Option (Bool × Int) :=
 if a2 ≤ 0 then some (a0_3, -1) else if a0_3 = true then none else (numOf l0_1).bind fun m => (numOf l1).bind fun q => if q = m / 2 ^ a2.toNat ∧ a2 < 10000 ∧ m < pw 800 then some (decide (m % 2 ^ a2.toNat ≠ 0), cmpZ (m % 2 ^ a2.toNat) (2 ^ (a2.toNat - 1))) else none
theorem two_pw {s : Nat} (hs : s < 10000) : 2 ^ (s - 1) < pw 1000 := by
 obtain ⟨k, hk⟩ : ∃ k, k = 32 * 1000 := ⟨_, rfl⟩
 rw [pw_two, ← hk]
 exact Nat.pow_lt_pow_right Z5 (by omega)
theorem cell_ltR {w : World} {g i : Nat} {v : Value} (h : w.cell? ⟨g, i, none⟩ = some v) : g < w.heap.size := by
 rcases Nat.lt_or_ge g w.heap.size with h' | h'
 ·exact h'
 ·unfold World.cell? at h
  simp [Array.getElem?_eq_none h'] at h
def RC (w : World) (g i : Nat) (v : Value) : Prop := w.cell? ⟨g, i, none⟩ = some v
theorem RC.below {w w1 : World} {g i : Nat} {v : Value} (h : RC w g i v) (hb : Below w.heap.size w w1) : RC w1 g i v := by
 unfold RC at h ⊢
 rw [hb.cell (p := ⟨g, i, none⟩) (cell_ltR h)]
 exact h
def RB (w : World) (g : Nat) (a b : Value) : Prop := (w.cell? ⟨g, 0, none⟩ = some a ∧ w.cell? ⟨g, 1, none⟩ = some b) ∧ w.frozen? ⟨g, 0, none⟩ = false ∧ w.frozen? ⟨g, 1, none⟩ = false
theorem RB.below {w w1 : World} {g : Nat} {a b : Value} (h : RB w g a b) (hb : Below w.heap.size w w1) : RB w1 g a b := by
 obtain ⟨⟨h0, h1⟩, f0, f1⟩ := h
 have hg := cell_ltR h0
 exact Z57
theorem RB_alloc {W : World} {g : Nat} (a b : Value) (t : TypeId) (hg : W.heap.size = g) : RB (W.alloc (.cells #[a, b] t)) g a b := by
 subst hg
 exact ⟨⟨by simp, by simp⟩, by simp, by simp⟩
set_option maxHeartbeats 2000000 in
set_option maxRecDepth 100000 in
theorem rshl {w : World} {v : Value} {n : Nat} (h : Nu w v n) (hn : n < pw 1000) (s : Nat) (hs : s < 1048576) : Calls Tryz.prog 24 #[v, .int .i64 (s : Int)] w (NuPost w (n * 2 ^ s)) := by
 have H := Aside0.mk (shlN h hn s hs)
 have c : ¬ (1048576 : Int) < (s : Int) := by omega
 go_enter Tryz.func24, Tryz.ntmps24
 go_wp2_with fail
 refine wp_loop_rounds 1 ?_
 rw [rounds_succ]
 go_wp2_with fail
 refine H.out.mono ?_
 rintro e w1 ⟨v1, rfl, hN, hB⟩
 have HN := Aside0.mk hN
 have HB := Aside0.mk hB
 clear hN hB
 go_wp2_with fail
 go_ret
 exact ⟨_, rfl, HN.out, HB.out⟩
def RestPost (w : World) (b : Bool) (c : Int) (e : Ending) (w' : World) : Prop := e = .returned (.agg #[.bool b, .int .i64 c]) ∧ Below w.heap.size w w'
set_option maxHeartbeats 2000000 in
set_option maxRecDepth 100000 in
theorem rest_le {w : World} {neg more : Bool} {A B : Option Addr} {L c M d : Nat} {e : Int} {s : Int} (hs : s ≤ 0) : Calls Tryz.prog 70 #[.agg #[.bool neg, .slice A L c, .int .i64 e, .bool more], .slice B M d, .int .i64 s] w (RestPost w more (-1)) := by
 go_enter Tryz.func70, Tryz.ntmps70
 have B1 := Aside0.mk (below_alloc (Below.refl w.heap.size w) (.cells #[.bool neg, .slice A L c, .int .i64 e, .bool more] 56))
 have T1 := Aside0.mk (B1.out.mono (Nat.le_refl _))
 have H_n0 := Aside0.mk (show RC (w.alloc (.cells #[.bool neg, .slice A L c, .int .i64 e, .bool more] 56)) (w.heap.size) 0 (.bool neg) by unfold RC; simp)
 have H_n1 := Aside0.mk (show RC (w.alloc (.cells #[.bool neg, .slice A L c, .int .i64 e, .bool more] 56)) (w.heap.size) 1 (.slice A L c) by unfold RC; simp)
 have H_n2 := Aside0.mk (show RC (w.alloc (.cells #[.bool neg, .slice A L c, .int .i64 e, .bool more] 56)) (w.heap.size) 2 (.int .i64 e) by unfold RC; simp)
 have H_n3 := Aside0.mk (show RC (w.alloc (.cells #[.bool neg, .slice A L c, .int .i64 e, .bool more] 56)) (w.heap.size) 3 (.bool more) by unfold RC; simp)
 have B2 := Aside0.mk (below_alloc (Below.refl (w.alloc (.cells #[.bool neg, .slice A L c, .int .i64 e, .bool more] 56)).heap.size (w.alloc (.cells #[.bool neg, .slice A L c, .int .i64 e, .bool more] 56))) (.cells #[.bool false, .int .i64 0] 111))
 have T2 := tT T1 B2.out
 have H_p := Aside0.mk (show RB ((w.alloc (.cells #[.bool neg, .slice A L c, .int .i64 e, .bool more] 56)).alloc (.cells #[.bool false, .int .i64 0] 111)) (w.heap.size + 1) (.bool false) (.int .i64 0) from RB_alloc _ _ _ Z33)
 obtain ⟨⟨zc0, zc1⟩, zf0, zf1⟩ := H_p.out
 have hu3 : ((w.alloc (.cells #[.bool neg, .slice A L c, .int .i64 e, .bool more] 56)).alloc (.cells #[.bool false, .int .i64 0] 111)).cell? ⟨w.heap.size, 3, none⟩ = some (.bool more) := (H_n3.out.below B2.out)
 go_wp2_with fail
 exact bodyPost_ret (v := .agg #[.bool more, .int .i64 (-1)]) (by simp [results, Tryz.results70, go_sem, *]) rfl ⟨rfl, below_alloc T1.out _⟩
set_option maxHeartbeats 2000000 in
set_option maxRecDepth 100000 in
theorem rest_gt {w : World} {neg : Bool} {A B : Option Addr} {L c M d : Nat} {e : Int} {s m : Nat} (hm : Nu w (.slice A L c) m) (hq : Nu w (.slice B M d) (m / 2 ^ s)) (hb : m < pw 800) (hs0 : 0 < s) (hs : s < 10000) : Calls Tryz.prog 70 #[.agg #[.bool neg, .slice A L c, .int .i64 e, .bool false], .slice B M d, .int .i64 (s : Int)] w (RestPost w (decide (m % 2 ^ s ≠ 0)) (cmpZ (m % 2 ^ s) (2 ^ (s - 1)))) := by
 have he : m - m / 2 ^ s * 2 ^ s = m % 2 ^ s := by have h1 := Nat.div_add_mod m (2 ^ s); rw [Nat.mul_comm] at h1; omega
 have hle : ¬ m < m / 2 ^ s * 2 ^ s := Nat.not_lt.2 (Nat.div_mul_le_self _ _)
 have HM := Aside0.mk hm
 have HQ := Aside0.mk hq
 have H_m_ := HM
 have H_q_ := HQ
 obtain ⟨r, hrr⟩ : ∃ r, r = m % 2 ^ s := ⟨_, rfl⟩
 obtain ⟨q, hqq⟩ : ∃ q, q = m / 2 ^ s := ⟨_, rfl⟩
 obtain ⟨t, htt⟩ : ∃ t, t = q * 2 ^ s := ⟨_, rfl⟩
 obtain ⟨h, hhh⟩ : ∃ h, h = 1 * 2 ^ (s - 1) := ⟨_, rfl⟩
 have h1s : 2 ^ (s - 1) = h := by rw [hhh, Nat.one_mul]
 rw [← hrr] at he ⊢
 rw [h1s]
 rw [← hqq] at he hle H_q_
 rw [← htt] at he hle
 have BM := Aside0.mk (show m < pw 1000 from Nat.lt_trans hb (pw_lt Z5))
 have BQ := Aside0.mk (show q < pw 1000 by rw [hqq]; exact Nat.lt_of_le_of_lt (Nat.div_le_self _ _) BM.out)
 have BT := Aside0.mk (show t < pw 1000 from Nat.lt_of_le_of_lt (Nat.not_lt.1 hle) BM.out)
 have BR := Aside0.mk (show r < pw 1000 by rw [hrr]; exact Nat.lt_of_le_of_lt (Nat.mod_le _ _) BM.out)
 have BH := Aside0.mk (show h < pw 1000 by rw [← h1s]; exact two_pw hs)
 have HT := Aside0.mk htt
 have HH := Aside0.mk hhh
 obtain ⟨z, hzz⟩ : ∃ z, z = cmpZ r h := ⟨_, rfl⟩
 have HZ := Aside0.mk hzz
 rw [← hzz]
 have HE := Aside0.mk he
 have HL := Aside0.mk hle
 have hw : wrap64 ((s : Int) - 1) = ((s - 1 : Nat) : Int) := by rw [Go.IntWalk.wrap64_in _ (by omega)]; omega
 have hw2 : (s : Int) - 1 = ((s - 1 : Nat) : Int) := by omega
 have hsp : ¬ (s : Int) ≤ 0 := by omega
 obtain ⟨rb, hrb⟩ : ∃ b, b = decide (r ≠ 0) := ⟨_, rfl⟩
 have HRB := Aside0.mk hrb
 rw [← hrb]
 clear hm hq hhh htt hqq hrr hzz he hle h1s hrb
 go_enter Tryz.func70, Tryz.ntmps70
 have B1 := Aside0.mk (below_alloc (Below.refl w.heap.size w) (.cells #[.bool neg, .slice A L c, .int .i64 e, .bool false] 56))
 have T1 := Aside0.mk (B1.out.mono (Nat.le_refl _))
 have H_n0 := Aside0.mk (show RC (w.alloc (.cells #[.bool neg, .slice A L c, .int .i64 e, .bool false] 56)) (w.heap.size) 0 (.bool neg) by unfold RC; simp)
 have H_n1 := Aside0.mk (show RC (w.alloc (.cells #[.bool neg, .slice A L c, .int .i64 e, .bool false] 56)) (w.heap.size) 1 (.slice A L c) by unfold RC; simp)
 have H_n2 := Aside0.mk (show RC (w.alloc (.cells #[.bool neg, .slice A L c, .int .i64 e, .bool false] 56)) (w.heap.size) 2 (.int .i64 e) by unfold RC; simp)
 have H_n3 := Aside0.mk (show RC (w.alloc (.cells #[.bool neg, .slice A L c, .int .i64 e, .bool false] 56)) (w.heap.size) 3 (.bool false) by unfold RC; simp)
 have B2 := Aside0.mk (below_alloc (Below.refl (w.alloc (.cells #[.bool neg, .slice A L c, .int .i64 e, .bool false] 56)).heap.size (w.alloc (.cells #[.bool neg, .slice A L c, .int .i64 e, .bool false] 56))) (.cells #[.bool false, .int .i64 0] 111))
 have T2 := tT T1 B2.out
 have H_p := Aside0.mk (show RB ((w.alloc (.cells #[.bool neg, .slice A L c, .int .i64 e, .bool false] 56)).alloc (.cells #[.bool false, .int .i64 0] 111)) (w.heap.size + 1) (.bool false) (.int .i64 0) from RB_alloc _ _ _ Z33)
 go_wp2_with fail
 have B3 := Aside0.mk (Below.drew (Below.refl ((w.alloc (.cells #[.bool neg, .slice A L c, .int .i64 e, .bool false] 56)).alloc (.cells #[.bool false, .int .i64 0] 111)).heap.size ((w.alloc (.cells #[.bool neg, .slice A L c, .int .i64 e, .bool false] 56)).alloc (.cells #[.bool false, .int .i64 0] 111))))
 have T3 := tT T2 B3.out
 have HS3 := Aside0.mk (fun (W : World) (hW : Below (((w.alloc (.cells #[.bool neg, .slice A L c, .int .i64 e, .bool false] 56)).alloc (.cells #[.bool false, .int .i64 0] 111)).drew).heap.size (((w.alloc (.cells #[.bool neg, .slice A L c, .int .i64 e, .bool false] 56)).alloc (.cells #[.bool false, .int .i64 0] 111)).drew) W) => show W.cell? ⟨w.heap.size, 0, none⟩ = some (.bool neg) ∧ W.cell? ⟨w.heap.size, 1, none⟩ = some (.slice A L c) ∧ W.cell? ⟨w.heap.size, 2, none⟩ = some (.int .i64 e) ∧ W.cell? ⟨w.heap.size, 3, none⟩ = some (.bool false) from ⟨(((H_n0.out.below B2.out).below B3.out).below hW), (((H_n1.out.below B2.out).below B3.out).below hW), (((H_n2.out.below B2.out).below B3.out).below hW), (((H_n3.out.below B2.out).below B3.out).below hW)⟩)
 have U3 := Aside0.mk (Below.refl (((w.alloc (.cells #[.bool neg, .slice A L c, .int .i64 e, .bool false] 56)).alloc (.cells #[.bool false, .int .i64 0] 111)).drew).heap.size (((w.alloc (.cells #[.bool neg, .slice A L c, .int .i64 e, .bool false] 56)).alloc (.cells #[.bool false, .int .i64 0] 111)).drew))
 refine wp_region_held_drew (S := fun W => W.cell? ⟨w.heap.size, 0, none⟩ = some (.bool neg) ∧ W.cell? ⟨w.heap.size, 1, none⟩ = some (.slice A L c) ∧ W.cell? ⟨w.heap.size, 2, none⟩ = some (.int .i64 e) ∧ W.cell? ⟨w.heap.size, 3, none⟩ = some (.bool false)) Z4 (HS3.out _ (Below.refl _ _)) (fun hHeld => ?_)
 refine Inv.tk 0 (h := ?_)
 try simp only [PU]
 refine Inv.tk 1 (h := ?_)
 try simp only [PU]
 refine Inv.tk 2 (h := ?_)
 try simp only [PU]
 refine Inv.tk 3 (h := ?_)
 try simp only [PU]
 refine Inv.oneL (i := 4) rfl Z4 (fun K hK => ?_)
 go_simp
 refine (rshl (((H_q_.out.below B1.out).below B2.out).below B3.out) BQ.out s (by omega)).mono ?_
 rintro e w4 ⟨v_t, rfl, hN, hB⟩
 try go_wp2_with fail
 have B4 := Aside0.mk hB
 have T4 := tT T3 hB
 have H_t := Aside0.mk hN
 rw [← HT.out] at H_t
 clear hN hB
 have U4 := tT U3 B4.out
 refine hK.out _ _ (HS3.out _ U4.out) (fun hHeld => ?_)
 clear hK K
 try simp only [PU]
 refine Inv.oneL (i := 5) rfl Z4 (fun K hK => ?_)
 have HC := Aside0.mk (subN ((((H_m_.out.below B1.out).below B2.out).below B3.out).below B4.out) H_t.out BM.out BT.out)
 rw [HE.out, if_neg HL.out] at HC
 go_simp
 refine HC.out.mono ?_
 clear HC
 rintro e w5 ⟨v_r, rfl, hN, hB⟩
 try go_wp2_with fail
 have B5 := Aside0.mk hB
 have T5 := tT T4 hB
 obtain ⟨Ar, cr, rfl, hlr, hCr⟩ := hN
 have H_r := Aside0.mk (show Nu w5 (.slice Ar (digs r).length cr) r from ⟨Ar, cr, rfl, hlr, hCr⟩)
 clear hlr hCr hB
 have U5 := tT U4 B5.out
 refine hK.out _ _ (HS3.out _ U5.out) (fun hHeld => ?_)
 clear hK K
 try simp only [PU]
 refine Inv.tk 6 (h := ?_)
 try simp only [PU]
 refine Inv.tk 7 (h := ?_)
 try simp only [PU]
 refine Inv.tk 8 (h := ?_)
 try simp only [PU]
 refine Inv.tk 9 (h := ?_)
 try simp only [PU]
 refine Inv.tk 10 (h := ?_)
 try simp only [PU]
 refine wpAnyH_done Z4 ?_ _
 go_wp2_with fail
 refine (ofN 1 Z5).mono ?_
 rintro e w6 ⟨v_o, rfl, hN, hB⟩
 have B6 := Aside0.mk hB
 have T6 := tT T5 hB
 have H_o := Aside0.mk hN
 clear hN hB
 go_wp2_with fail
 refine (rshl H_o.out (Nat.lt_of_lt_of_le (show 1 < pw 1 by decide) (pw_le Z5)) (s - 1) (by omega)).mono ?_
 rintro e w7 ⟨v_h, rfl, hN, hB⟩
 have B7 := Aside0.mk hB
 have T7 := tT T6 hB
 have H_h := Aside0.mk hN
 rw [← HH.out] at H_h
 clear hN hB
 go_wp2_with fail
 have HC := Aside0.mk (cmpN ((H_r.out.below B6.out).below B7.out) H_h.out BR.out BH.out)
 rw [← HZ.out] at HC
 refine HC.out.mono ?_
 clear HC
 rintro e w8 ⟨rfl, hB⟩
 have B8 := Aside0.mk hB
 have T8 := tT T7 hB
 clear hB
 obtain ⟨⟨zc0, zc1⟩, zf0, zf1⟩ := ((((((H_p.out.below B3.out).below B4.out).below B5.out).below B6.out).below B7.out).below B8.out)
 have hu3 : w8.cell? ⟨w.heap.size, 3, none⟩ = some (.bool false) := (((((((H_n3.out.below B2.out).below B3.out).below B4.out).below B5.out).below B6.out).below B7.out).below B8.out)
 have hrb := HRB.out
 have hz2 : (z == (0 : Int)) = true ∨ (z == (0 : Int)) = false := by cases z == (0 : Int) <;> simp
 by_cases hr : r = 0
 ·obtain rfl : rb = false := by rw [hrb, hr]; rfl
  have hlen : ((0 : Int) < ((digs r).length : Int)) = False := by rw [hr, digs_zero]; simp
  have hlen2 : decide (0 < (digs r).length) = false := by rw [hr, digs_zero]; rfl
  clear hr hrb HRB
  rcases hz2 with hz2 | hz2
  all_goals
   go_wp2_with fail
   exact bodyPost_ret (v := .agg #[.bool false, .int .i64 z]) (by simp [results, Tryz.results70, go_sem, *]) rfl ⟨rfl, G.below_set (G.below_set T8.out (show w.heap.size ≤ w.heap.size + 1 by omega) 0 (.bool false)) (show w.heap.size ≤ w.heap.size + 1 by omega) 1 (.int .i64 z)⟩
 ·obtain rfl : rb = true := by rw [hrb]; exact decide_eq_true hr
  have hlen : ((0 : Int) < ((digs r).length : Int)) = True := by rw [digs_pos hr, List.length_cons]; simp <;> omega
  have hlen2 : decide (0 < (digs r).length) = true := by rw [digs_pos hr, List.length_cons]; simp
  clear hr hrb HRB
  rcases hz2 with hz2 | hz2
  all_goals
   go_wp2_with fail
   exact bodyPost_ret (v := .agg #[.bool true, .int .i64 z]) (by simp [results, Tryz.results70, go_sem, *]) rfl ⟨rfl, G.below_set (G.below_set T8.out (show w.heap.size ≤ w.heap.size + 1 by omega) 0 (.bool true)) (show w.heap.size ≤ w.heap.size + 1 by omega) 1 (.int .i64 z)⟩
theorem sfloat_num_rest.calls (a0_0 : Bool) (A0_1 : Option Addr) (c0_1 : Nat) (l0_1 : List Int) (a0_2 : Int) (a0_3 : Bool) (A1 : Option Addr) (c1 : Nat) (l1 : List Int) (a2 : Int) (r1 : Bool) (r2 : Int) (w : World) (hr0_1 : Kd.C (Kd.int .u32) w A0_1 l0_1.length l0_1) (hc0_1 : l0_1.length ≤ c0_1) (hr1 : Kd.C (Kd.int .u32) w A1 l1.length l1) (hc1 : l1.length ≤ c1) (h : sfloat_num_rest.f a0_0 l0_1 a0_2 a0_3 l1 a2 = some (r1, r2)) :
  Calls Tryz.prog 70 #[.agg #[.bool a0_0, .slice A0_1 l0_1.length c0_1, .int .i64 a0_2, .bool a0_3], .slice A1 l1.length c1, .int .i64 a2] w fun e w' => e = .returned (.agg #[.bool r1, .int .i64 r2]) ∧ Below w.heap.size w w' := by
 unfold sfloat_num_rest.f at h
 split at h
 ·rename_i hs
  cases h
  exact rest_le hs
 ·rename_i hs
  split at h
  ·cases h
  ·rename_i hm
   obtain rfl : a0_3 = false := by simpa using hm
   cases hn : numOf l0_1 with
   | none => rw [hn] at h; cases h
   | some m =>
    cases hq : numOf l1 with
    | none => rw [hn, hq] at h; cases h
    | some q =>
     rw [hn, hq] at h
     simp only [Option.bind_some] at h
     split at h
     ·rename_i hc
      obtain ⟨hqe, hs2, hb⟩ := hc
      obtain ⟨s, rfl⟩ : ∃ s : Nat, a2 = (s : Int) := ⟨a2.toNat, by omega⟩
      rw [Int.toNat_natCast] at h hqe
      subst hqe
      have h1 := (numOf_nu hn hr0_1 hc0_1).1
      have h2 := (numOf_nu hq hr1 hc1).1
      cases h
      exact rest_gt h1 h2 hb (by omega) (by omega)
     ·cases h
end Go.Proofs.YtpegcppeobndcaaGreatDoor.Giv
