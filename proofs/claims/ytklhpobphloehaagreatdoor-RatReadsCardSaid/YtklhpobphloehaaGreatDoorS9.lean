/- Rational numbers: what the reference reads: the small texts of this part, one behind another. -/
import Derived.Test.YtklhpobphloehaaGreatDoorS7
import Derived.Test.YtklhpobphloehaaGreatDoorS4
import Derived.Test.YtklhpobphloehaaGreatDoorS8
/- What the reference's Parse of a rational number reads. -/
set_option linter.unusedVariables false
namespace Go.Proofs.YtklhpobphloehaaGreatDoor.G
open Go.RowKit Go.Proofs.YtklhpobphloehaaGreatDoorW.PrintWords Go.Proofs.YtklhpobphloehaaGreatDoorW.PrintLast Go.Proofs.YtklhpobphloehaaGreatDoor.Nn

/-- Of what is behind a place: where the first stroke is, how many there are. -/
def kIdx (Q : List UInt8) (a : Nat) : Nat := a + (hdS (Q.drop a)).length
def cntB (Q : List UInt8) (a : Nat) : Nat := (Q.drop a).count 47
theorem drop_cons {Q : List UInt8} {a : Nat} (h : a < Q.length) : Q.drop a = Q.getD a 0 :: Q.drop (a + 1) := by
  rw [List.drop_eq_getElem_cons h, List.getD_eq_getElem?_getD, List.getElem?_eq_getElem h]
  rfl
theorem back_hit {Q : List UInt8} {a : Nat} (h : a < Q.length) (hc : Q.getD a 0 = 47) : kIdx Q a = a ∧ cntB Q a = cntB Q (a + 1) + 1 := by
  have e := drop_cons h
  rw [hc] at e
  refine ⟨?_, ?_⟩
  · unfold kIdx; rw [e]; simp [hdS]
  · unfold cntB; rw [e, List.count_cons_self]
theorem back_miss {Q : List UInt8} {a : Nat} (h : a < Q.length) (hc : ¬ Q.getD a 0 = 47) : kIdx Q a = kIdx Q (a + 1) ∧ cntB Q a = cntB Q (a + 1) := by
  have e := drop_cons h
  have h2 : (Q.getD a 0 != 47) = true := by rw [bne_iff_ne]; exact hc
  refine ⟨?_, ?_⟩
  · unfold kIdx
    rw [e]
    have : hdS (Q.getD a 0 :: Q.drop (a + 1)) = Q.getD a 0 :: hdS (Q.drop (a + 1)) := by
      unfold hdS
      rw [List.takeWhile_cons, if_pos h2]
    rw [this, List.length_cons]
    omega
  · unfold cntB
    rw [e, List.count_cons_of_ne hc]
theorem back_start (Q : List UInt8) : kIdx Q Q.length = Q.length ∧ cntB Q Q.length = 0 := by
  unfold kIdx cntB
  rw [List.drop_length]
  exact ⟨rfl, rfl⟩
theorem back_end (Q : List UInt8) : kIdx Q 0 = (hdS Q).length ∧ cntB Q 0 = Q.count 47 := by
  unfold kIdx cntB
  rw [List.drop_zero]
  exact ⟨by omega, rfl⟩
theorem cntB_le (Q : List UInt8) (a : Nat) : cntB Q a ≤ Q.length := by
  unfold cntB
  exact Nat.le_trans List.count_le_length (by rw [List.length_drop]; omega)
theorem hd_le (Q : List UInt8) : (hdS Q).length ≤ Q.length := by
  induction Q with
  | nil => exact Nat.le_refl _
  | cons c Q ih =>
    unfold hdS at ih ⊢
    rw [List.takeWhile_cons]
    split
    · simp only [List.length_cons]; omega
    · simp
theorem take_hd (Q : List UInt8) : Q.take (hdS Q).length = hdS Q := by
  by_cases h : (47 : UInt8) ∈ Q
  · have e := hd_tl h
    generalize hdS Q = H at *
    generalize tlS Q = T at *
    subst e
    exact List.take_left
  · rw [hd_none h]; exact List.take_length
theorem drop_hd {Q : List UInt8} (h : (47 : UInt8) ∈ Q) : (hdS Q).length < Q.length ∧ Q.drop ((hdS Q).length + 1) = tlS Q := by
  have e := hd_tl h
  generalize hdS Q = H at *
  generalize tlS Q = T at *
  subst e
  refine ⟨by simp, ?_⟩
  rw [← List.drop_drop, List.drop_left]
  rfl
theorem one_lt50 : 1 < pw 50 := Nat.lt_of_lt_of_le (show 1 < pw 1 by decide) (pw_le (show 1 ≤ 50 by decide))
theorem sMkX {w : World} (neg : Bool) {vn vd : Value} {n d : Nat} (hn : Nu w vn n) (hd : Nu w vd d) (bn : n < pw 50) (bd : d < pw 50) : Calls Tryz.prog 32 #[.bool neg, vn, vd] w (MkPost w neg n d) := by
  by_cases h : d = 0
  · subst h
    exact (smake0_w neg hn hd).mono fun _ _ h => by unfold MkPost; rw [if_pos rfl]; exact h
  · exact (smake_w neg hn hd (Nat.lt_of_lt_of_le bn (pw_le (by decide))) (Nat.lt_of_lt_of_le bd (pw_le (by decide))) h).mono fun _ _ h2 => by unfold MkPost; rw [if_neg h]; exact h2
set_option maxHeartbeats 8000000 in
set_option maxRecDepth 100000 in
theorem sparse_neg_many {w : World} {s R : ByteArray} {g : Bool} {l Q : List UInt8} (hl : l = s.data.toList) (hQ : Q = qrest l) (hqn : qneg l = g) (hRd : R.data.toList = Q) (hz : s.size ≤ 100000) (hp : 0 < s.size) (hc : s.data.toList.getD 0 0 = 45) (hR : R = s.extract 1 s.size) (hg : g = true) (h : 1 < Q.count 47) :
    Calls Tryz.prog 28 #[.string s] w (ReadPost w l) := by
  have hQl : Q.length = R.size := by rw [← hRd, data_length]
  have hRz : R.size ≤ 100000 := by rw [hR]; first | (rw [ByteArray.size_extract]; omega) | exact hz
  have ht : s.toList = s.data.toList := Go.Lib.toList_data s
  have hne : s.data.toList ≠ [] := fun h => by have := data_length s; rw [h] at this; simp at this; omega
  have g1 : ¬ s.toList = [] := by rw [ht]; exact hne
  have g2 : s.toList.isEmpty = false := by rw [ht]; simpa using hne
  obtain ⟨c0, hc0e⟩ : ∃ c, c = s.data.toList.getD 0 0 := ⟨_, rfl⟩
  rw [← hc0e] at hc
  obtain ⟨n0, hn0⟩ : ∃ n, n = c0.toNat := ⟨_, rfl⟩
  have hidx0 : ∀ W : World, (Instr.index 9 (.string s) (.int .i64 0)).run Tryz.prog W = .ok (.int .u8 (n0 : Int)) W := fun W => by
    have h0 : (0 : Int) ≤ (0 : Int) ∧ (0 : Int) < s.size := by omega
    rw [run_index_string W _ s _ _ Tryz.underlying9, dif_pos h0, hn0, hc0e, List.getD_eq_getElem?_getD, List.getElem?_eq_getElem (by rw [data_length]; exact hp)]
    rfl
  have hb0 : ((n0 : Int) == 45) = true := by rw [beq_iff_eq, hn0, hc]; rfl
  have hsl : ∀ W : World, (Instr.slice 9 (.string s) (some (.int .i64 1)) none none).run Tryz.prog W = .ok (.string R) W := fun W => by rw [run_slice_string_l W 9 s Tryz.underlying9 .i64 1 (by omega) (by omega), hR]; simp
  clear ht hne hc0e hn0 hc hp
  obtain ⟨W0, a0, hW0, e0, HK, HW, HGE⟩ := res1 w 24
  have HQ := Aside0.mk (show qcode l = 4 by unfold qcode; rw [← hQ, if_pos h])
  have hB := back_end Q
  have HB0 := Aside0.mk (And.intro hB.1 hB.2)
  have hbs := back_start Q
  rw [hQl] at hbs
  have HBS := Aside0.mk hbs
  have HIX := Aside0.mk (fun (a : Nat) (h : a < R.size) (W : World) => show (Instr.index 9 (.string R) (.int .i64 (a : Int))).run Tryz.prog W = .ok (.int .u8 ((Q.getD a 0).toNat : Int)) W from by
    have h0 : (0 : Int) ≤ (a : Int) ∧ (a : Int) < R.size := by omega
    rw [run_index_string W _ R _ _ Tryz.underlying9, dif_pos h0, ← hRd, List.getD_eq_getElem?_getD, List.getElem?_eq_getElem (by rw [data_length]; exact h)]
    rfl)
  have HQL := Aside0.mk hQl
  have HCN := Aside0.mk (cntB_le Q)
  obtain ⟨C, hC⟩ : ∃ c, c = Q.count 47 := ⟨_, rfl⟩
  have hC2 : 1 < C := by omega
  have HCC := Aside0.mk hC.symm
  clear hC h
  have HRZ := Aside0.mk hRz
  subst hg
  try clear hl
  try clear hQ
  try clear hqn
  try clear hRd
  try clear hz
  try clear hR
  try clear hQl
  try clear hB
  try clear hbs
  go_enter Tryz.func28, Tryz.ntmps28
  go_wp2_with fail
  rw [← hW0, ← e0]
  clear hW0 e0
  clear g1 g2 hidx0 hb0 hsl
  go_loopw [5, 6, 7] (fun kk nn i wr => ∃ (a : Nat), a ≤ R.size ∧ i = .int .i64 (a : Int) ∧ kk = .int .i64 (kIdx Q a : Int) ∧ nn = .int .i64 (cntB Q a : Int) ∧ W0 = wr) (fun _ _ i _ => (intOf i).toNat)
  case atStart => exact ⟨R.size, Nat.le_refl _, rfl, by first | (rw [HBS.out.1]; done) | (rw [HBS.out.1]; rfl), by first | (rw [HBS.out.2]; done) | (rw [HBS.out.2]; rfl), rfl⟩
  case round =>
    obtain ⟨a, ha, rfl, rfl, rfl, hwr⟩ := hrel
    subst hwr
    cases a with
    | zero =>
      rw [HB0.out.2, HCC.out]
      obtain ⟨⟨zc0, zc1, zc2⟩, zf0, zf1, zf2⟩ := HK.out.below (Below.refl _ _)
      have HD := Aside0.mk (r3_done (neg := false) HW.out HGE.out HK.out (Below.refl _ _) (Nu_nil _) (Nu_nil _))
      go_wp2_with fail
      exact bodyPost_ret (v := .tuple #[.agg #[.bool false, .slice none 0 0, .slice none 0 0], .int .i64 4]) (by simp [results, Tryz.results28, go_sem, *]) rfl (read_badW (c := 4) HQ.out (by decide) HD.out)
    | succ a =>
      have hidx := HIX.out a (by omega)
      have hsub : (a : Int) + 1 - 1 = (a : Int) := by omega
      have ha5 := HRZ.out
      obtain ⟨n, hn⟩ : ∃ n, n = (Q.getD a 0).toNat := ⟨_, rfl⟩
      rw [← hn] at hidx
      obtain ⟨cn, hcn⟩ : ∃ c, c = cntB Q (a + 1) := ⟨_, rfl⟩
      have hcl : cn ≤ 100000 := by rw [hcn]; have h1 := HCN.out (a + 1); have h2 := HQL.out; omega
      obtain ⟨kn, hkn⟩ : ∃ c, c = kIdx Q (a + 1) := ⟨_, rfl⟩
      rw [← hcn, ← hkn]
      have HCNN := Aside0.mk hcn
      have HKN := Aside0.mk hkn
      have HN := Aside0.mk hn
      clear hcn hkn hn
      by_cases hh : Q.getD a 0 = 47
      · have hbh : ((n : Int) == 47) = true := by rw [beq_iff_eq, HN.out, hh]; rfl
        have HST := Aside0.mk (back_hit (by rw [HQL.out]; omega) hh)
        clear hh
        go_wp2_with fail
        go_roundw
        case rel => exact ⟨a, by omega, rfl, by rw [HST.out.1], by rw [HST.out.2, ← HCNN.out]; rfl, by first | rfl | trivial⟩
        case measure => first | (simp [intOf]; done) | (simp [intOf]; omega)
      · have hbh : ((n : Int) == 47) = false := by
          rw [beq_eq_false_iff_ne, HN.out]
          intro e
          refine hh (UInt8.toNat_inj.1 ?_)
          have e2 : (47 : UInt8).toNat = 47 := rfl
          rw [e2]; omega
        have HST := Aside0.mk (back_miss (by rw [HQL.out]; omega) hh)
        clear hh
        go_wp2_with fail
        go_roundw
        case rel => exact ⟨a, by omega, rfl, by rw [HST.out.1, ← HKN.out], by rw [HST.out.2, ← HCNN.out], by first | rfl | trivial⟩
        case measure => first | (simp [intOf]; done) | (simp [intOf]; omega)
set_option maxHeartbeats 8000000 in
set_option maxRecDepth 100000 in
theorem sparse_neg_one_bad {w : World} {s R : ByteArray} {g : Bool} {l Q : List UInt8} (hl : l = s.data.toList) (hQ : Q = qrest l) (hqn : qneg l = g) (hRd : R.data.toList = Q) (hz : s.size ≤ 100000) (hp : 0 < s.size) (hc : s.data.toList.getD 0 0 = 45) (hR : R = s.extract 1 s.size) (hg : g = true) (h : Q.count 47 = 0) (hc0 : pcode (hdS Q) ≠ 0) :
    Calls Tryz.prog 28 #[.string s] w (ReadPost w l) := by
  have hQl : Q.length = R.size := by rw [← hRd, data_length]
  have hRz : R.size ≤ 100000 := by rw [hR]; first | (rw [ByteArray.size_extract]; omega) | exact hz
  have ht : s.toList = s.data.toList := Go.Lib.toList_data s
  have hne : s.data.toList ≠ [] := fun h => by have := data_length s; rw [h] at this; simp at this; omega
  have g1 : ¬ s.toList = [] := by rw [ht]; exact hne
  have g2 : s.toList.isEmpty = false := by rw [ht]; simpa using hne
  obtain ⟨c0, hc0e⟩ : ∃ c, c = s.data.toList.getD 0 0 := ⟨_, rfl⟩
  rw [← hc0e] at hc
  obtain ⟨n0, hn0⟩ : ∃ n, n = c0.toNat := ⟨_, rfl⟩
  have hidx0 : ∀ W : World, (Instr.index 9 (.string s) (.int .i64 0)).run Tryz.prog W = .ok (.int .u8 (n0 : Int)) W := fun W => by
    have h0 : (0 : Int) ≤ (0 : Int) ∧ (0 : Int) < s.size := by omega
    rw [run_index_string W _ s _ _ Tryz.underlying9, dif_pos h0, hn0, hc0e, List.getD_eq_getElem?_getD, List.getElem?_eq_getElem (by rw [data_length]; exact hp)]
    rfl
  have hb0 : ((n0 : Int) == 45) = true := by rw [beq_iff_eq, hn0, hc]; rfl
  have hsl : ∀ W : World, (Instr.slice 9 (.string s) (some (.int .i64 1)) none none).run Tryz.prog W = .ok (.string R) W := fun W => by rw [run_slice_string_l W 9 s Tryz.underlying9 .i64 1 (by omega) (by omega), hR]; simp
  clear ht hne hc0e hn0 hc hp
  obtain ⟨W0, a0, hW0, e0, HK, HW, HGE⟩ := res1 w 24
  have hmem : ¬ (47 : UInt8) ∈ Q := by exact List.count_eq_zero.1 h
  have hnm : ¬ 1 < Q.count 47 := by omega
  have HQ := Aside0.mk (show qcode l = pcode (hdS Q) by unfold qcode; rw [← hQ, if_neg hnm, if_pos hc0])
  obtain ⟨pb, hpb⟩ : ∃ q, q = pcode (hdS Q) := ⟨_, rfl⟩
  have HP := Aside0.mk (show pb ≠ 0 by rw [hpb]; exact hc0)
  rw [← hpb] at HQ
  have hbb : ((pb : Int) != 0) = true := by rw [bne_iff_ne]; have := HP.out; omega
  have hbe : ((pb : Int) == 0) = false := by rw [beq_eq_false_iff_ne]; have := HP.out; omega
  obtain ⟨K, hK⟩ : ∃ k, k = (hdS Q).length := ⟨_, rfl⟩
  have hKl : K ≤ R.size := by rw [hK, ← hQl]; exact hd_le Q
  obtain ⟨t0, ht0⟩ : ∃ t, t = R.extract 0 K := ⟨_, rfl⟩
  have hd0 : t0.data.toList = hdS Q := by rw [ht0, Go.Lib.extract_from_zero, hRd, hK]; exact take_hd Q
  have hz0 : t0.size ≤ 100000 := by rw [ht0, ByteArray.size_extract]; omega
  have hx0 : ∀ W : World, (Instr.slice 9 (.string R) none (some (.int .i64 (K : Int))) none).run Tryz.prog W = .ok (.string t0) W := fun W => by rw [run_slice_string_h W 9 R Tryz.underlying9 .i64 (K : Int) (by omega) (by omega), ht0]; simp
  clear ht0
  obtain ⟨p0, hp_0⟩ : ∃ q, q = pnum (hdS Q) := ⟨_, rfl⟩
  have BP0 := Aside0.mk (show p0 < pw 50 by rw [hp_0]; exact pnum_lt _)
  have HA0 := Aside0.mk (fun (W : World) => show Calls Tryz.prog 53 #[.string t0] W (NuPost2 W p0 (pb : Int)) from (rparse_w t0 W (by omega)).mono fun e w' h => by
    obtain ⟨v, h1, h2, h3⟩ := h
    rw [hd0, ← hpb] at h1
    rw [hd0, ← hp_0] at h2
    exact ⟨v, h1, h2, h3⟩)
  have hB := back_end Q
  have HB0 := Aside0.mk (And.intro hB.1 hB.2)
  have hbs := back_start Q
  rw [hQl] at hbs
  have HBS := Aside0.mk hbs
  have HIX := Aside0.mk (fun (a : Nat) (h : a < R.size) (W : World) => show (Instr.index 9 (.string R) (.int .i64 (a : Int))).run Tryz.prog W = .ok (.int .u8 ((Q.getD a 0).toNat : Int)) W from by
    have h0 : (0 : Int) ≤ (a : Int) ∧ (a : Int) < R.size := by omega
    rw [run_index_string W _ R _ _ Tryz.underlying9, dif_pos h0, ← hRd, List.getD_eq_getElem?_getD, List.getElem?_eq_getElem (by rw [data_length]; exact h)]
    rfl)
  have HQL := Aside0.mk hQl
  have HCN := Aside0.mk (cntB_le Q)
  have HCC := Aside0.mk h
  have HKK := Aside0.mk hK.symm
  clear h hK
  have HRZ := Aside0.mk hRz
  subst hg
  try clear hl
  try clear hQ
  try clear hqn
  try clear hRd
  try clear hz
  try clear hR
  try clear hQl
  try clear hB
  try clear hbs
  try clear hmem
  try clear hnm
  try clear hd0
  try clear hz0
  try clear hc0
  try clear hp_0
  try clear hpb
  go_enter Tryz.func28, Tryz.ntmps28
  go_wp2_with fail
  rw [← hW0, ← e0]
  clear hW0 e0
  clear g1 g2 hidx0 hb0 hsl
  go_loopw [5, 6, 7] (fun kk nn i wr => ∃ (a : Nat), a ≤ R.size ∧ i = .int .i64 (a : Int) ∧ kk = .int .i64 (kIdx Q a : Int) ∧ nn = .int .i64 (cntB Q a : Int) ∧ W0 = wr) (fun _ _ i _ => (intOf i).toNat)
  case atStart => exact ⟨R.size, Nat.le_refl _, rfl, by first | (rw [HBS.out.1]; done) | (rw [HBS.out.1]; rfl), by first | (rw [HBS.out.2]; done) | (rw [HBS.out.2]; rfl), rfl⟩
  case round =>
    obtain ⟨a, ha, rfl, rfl, rfl, hwr⟩ := hrel
    subst hwr
    cases a with
    | zero =>
      rw [HB0.out.1, HB0.out.2, HCC.out, HKK.out]
      go_wp2_with fail
      refine (HA0.out _).mono ?_
      rintro e w1 ⟨v0, rfl, hN0, hB1⟩
      have HB1 := Aside0.mk hB1
      clear hN0 hB1
      obtain ⟨⟨zc0, zc1, zc2⟩, zf0, zf1, zf2⟩ := HK.out.below HB1.out
      have HD := Aside0.mk (r3_done (neg := false) HW.out HGE.out HK.out HB1.out (Nu_nil _) (Nu_nil _))
      go_wp2_with fail
      exact bodyPost_ret (v := .tuple #[.agg #[.bool false, .slice none 0 0, .slice none 0 0], .int .i64 pb]) (by simp [results, Tryz.results28, go_sem, *]) rfl (read_badW (c := pb) HQ.out HP.out HD.out)
    | succ a =>
      have hidx := HIX.out a (by omega)
      have hsub : (a : Int) + 1 - 1 = (a : Int) := by omega
      have ha5 := HRZ.out
      obtain ⟨n, hn⟩ : ∃ n, n = (Q.getD a 0).toNat := ⟨_, rfl⟩
      rw [← hn] at hidx
      obtain ⟨cn, hcn⟩ : ∃ c, c = cntB Q (a + 1) := ⟨_, rfl⟩
      have hcl : cn ≤ 100000 := by rw [hcn]; have h1 := HCN.out (a + 1); have h2 := HQL.out; omega
      obtain ⟨kn, hkn⟩ : ∃ c, c = kIdx Q (a + 1) := ⟨_, rfl⟩
      rw [← hcn, ← hkn]
      have HCNN := Aside0.mk hcn
      have HKN := Aside0.mk hkn
      have HN := Aside0.mk hn
      clear hcn hkn hn
      by_cases hh : Q.getD a 0 = 47
      · have hbh : ((n : Int) == 47) = true := by rw [beq_iff_eq, HN.out, hh]; rfl
        have HST := Aside0.mk (back_hit (by rw [HQL.out]; omega) hh)
        clear hh
        go_wp2_with fail
        go_roundw
        case rel => exact ⟨a, by omega, rfl, by rw [HST.out.1], by rw [HST.out.2, ← HCNN.out]; rfl, by first | rfl | trivial⟩
        case measure => first | (simp [intOf]; done) | (simp [intOf]; omega)
      · have hbh : ((n : Int) == 47) = false := by
          rw [beq_eq_false_iff_ne, HN.out]
          intro e
          refine hh (UInt8.toNat_inj.1 ?_)
          have e2 : (47 : UInt8).toNat = 47 := rfl
          rw [e2]; omega
        have HST := Aside0.mk (back_miss (by rw [HQL.out]; omega) hh)
        clear hh
        go_wp2_with fail
        go_roundw
        case rel => exact ⟨a, by omega, rfl, by rw [HST.out.1, ← HKN.out], by rw [HST.out.2, ← HCNN.out], by first | rfl | trivial⟩
        case measure => first | (simp [intOf]; done) | (simp [intOf]; omega)
set_option maxHeartbeats 8000000 in
set_option maxRecDepth 100000 in
theorem sparse_neg_one {w : World} {s R : ByteArray} {g : Bool} {l Q : List UInt8} (hl : l = s.data.toList) (hQ : Q = qrest l) (hqn : qneg l = g) (hRd : R.data.toList = Q) (hz : s.size ≤ 100000) (hp : 0 < s.size) (hc : s.data.toList.getD 0 0 = 45) (hR : R = s.extract 1 s.size) (hg : g = true) (h : Q.count 47 = 0) (hc0 : pcode (hdS Q) = 0) :
    Calls Tryz.prog 28 #[.string s] w (ReadPost w l) := by
  have hQl : Q.length = R.size := by rw [← hRd, data_length]
  have hRz : R.size ≤ 100000 := by rw [hR]; first | (rw [ByteArray.size_extract]; omega) | exact hz
  have ht : s.toList = s.data.toList := Go.Lib.toList_data s
  have hne : s.data.toList ≠ [] := fun h => by have := data_length s; rw [h] at this; simp at this; omega
  have g1 : ¬ s.toList = [] := by rw [ht]; exact hne
  have g2 : s.toList.isEmpty = false := by rw [ht]; simpa using hne
  obtain ⟨c0, hc0e⟩ : ∃ c, c = s.data.toList.getD 0 0 := ⟨_, rfl⟩
  rw [← hc0e] at hc
  obtain ⟨n0, hn0⟩ : ∃ n, n = c0.toNat := ⟨_, rfl⟩
  have hidx0 : ∀ W : World, (Instr.index 9 (.string s) (.int .i64 0)).run Tryz.prog W = .ok (.int .u8 (n0 : Int)) W := fun W => by
    have h0 : (0 : Int) ≤ (0 : Int) ∧ (0 : Int) < s.size := by omega
    rw [run_index_string W _ s _ _ Tryz.underlying9, dif_pos h0, hn0, hc0e, List.getD_eq_getElem?_getD, List.getElem?_eq_getElem (by rw [data_length]; exact hp)]
    rfl
  have hb0 : ((n0 : Int) == 45) = true := by rw [beq_iff_eq, hn0, hc]; rfl
  have hsl : ∀ W : World, (Instr.slice 9 (.string s) (some (.int .i64 1)) none none).run Tryz.prog W = .ok (.string R) W := fun W => by rw [run_slice_string_l W 9 s Tryz.underlying9 .i64 1 (by omega) (by omega), hR]; simp
  clear ht hne hc0e hn0 hc hp
  obtain ⟨W0, a0, hW0, e0, HK, HW, HGE⟩ := res1 w 24
  have hmem : ¬ (47 : UInt8) ∈ Q := by exact List.count_eq_zero.1 h
  have hnm : ¬ 1 < Q.count 47 := by omega
  have HQ := Aside0.mk (show qcode l = if qden l = 0 then 5 else 0 by unfold qcode; rw [← hQ, if_neg hnm, if_neg (fun h2 => h2 hc0), if_neg (fun h2 => hmem h2.1)])
  have HDN := Aside0.mk (show qden l = 1 by unfold qden; rw [← hQ, if_neg hmem])
  obtain ⟨K, hK⟩ : ∃ k, k = (hdS Q).length := ⟨_, rfl⟩
  have hKl : K ≤ R.size := by rw [hK, ← hQl]; exact hd_le Q
  obtain ⟨t0, ht0⟩ : ∃ t, t = R.extract 0 K := ⟨_, rfl⟩
  have hd0 : t0.data.toList = hdS Q := by rw [ht0, Go.Lib.extract_from_zero, hRd, hK]; exact take_hd Q
  have hz0 : t0.size ≤ 100000 := by rw [ht0, ByteArray.size_extract]; omega
  have hx0 : ∀ W : World, (Instr.slice 9 (.string R) none (some (.int .i64 (K : Int))) none).run Tryz.prog W = .ok (.string t0) W := fun W => by rw [run_slice_string_h W 9 R Tryz.underlying9 .i64 (K : Int) (by omega) (by omega), ht0]; simp
  clear ht0
  obtain ⟨p0, hp_0⟩ : ∃ q, q = pnum (hdS Q) := ⟨_, rfl⟩
  have BP0 := Aside0.mk (show p0 < pw 50 by rw [hp_0]; exact pnum_lt _)
  have HA0 := Aside0.mk (fun (W : World) => show Calls Tryz.prog 53 #[.string t0] W (NuPost2 W p0 0) from (rparse_w t0 W (by omega)).mono fun e w' h => by
    obtain ⟨v, h1, h2, h3⟩ := h
    rw [hd0, hc0] at h1
    rw [hd0, ← hp_0] at h2
    exact ⟨v, h1, h2, h3⟩)
  have HNN := Aside0.mk (show qnum l = p0 by rw [hp_0, hQ]; rfl)
  have HDD := HDN
  rw [read_mk HQ.out, HNN.out, HDD.out, hqn]
  obtain ⟨Bq, Nq, Dq, kq, hmk⟩ := mk_form g p0 1
  have HMK := Aside0.mk (fun (W : World) (vn vd : Value) (hn : Nu W vn p0) (hd : Nu W vd 1) => show Calls Tryz.prog 32 #[.bool g, vn, vd] W (R3PostE W Bq Nq Dq kq) from (sMkX g hn hd BP0.out one_lt50).mono fun e w' h => by rw [hmk] at h; exact h)
  rw [show MkPost w g p0 1 = R3PostE w Bq Nq Dq kq from funext fun e => funext fun w' => hmk w e w']
  have H1 : Aside0 (∀ W : World, Calls Tryz.prog 34 #[] W (NuPost W 1)) := ⟨fun W => sone_w W⟩
  clear hmk HQ HDN HNN HDD
  have hB := back_end Q
  have HB0 := Aside0.mk (And.intro hB.1 hB.2)
  have hbs := back_start Q
  rw [hQl] at hbs
  have HBS := Aside0.mk hbs
  have HIX := Aside0.mk (fun (a : Nat) (h : a < R.size) (W : World) => show (Instr.index 9 (.string R) (.int .i64 (a : Int))).run Tryz.prog W = .ok (.int .u8 ((Q.getD a 0).toNat : Int)) W from by
    have h0 : (0 : Int) ≤ (a : Int) ∧ (a : Int) < R.size := by omega
    rw [run_index_string W _ R _ _ Tryz.underlying9, dif_pos h0, ← hRd, List.getD_eq_getElem?_getD, List.getElem?_eq_getElem (by rw [data_length]; exact h)]
    rfl)
  have HQL := Aside0.mk hQl
  have HCN := Aside0.mk (cntB_le Q)
  have HCC := Aside0.mk h
  have HKK := Aside0.mk hK.symm
  clear h hK
  have HRZ := Aside0.mk hRz
  subst hg
  try clear hl
  try clear hQ
  try clear hqn
  try clear hRd
  try clear hz
  try clear hR
  try clear hQl
  try clear hB
  try clear hbs
  try clear hmem
  try clear hnm
  try clear hd0
  try clear hz0
  try clear hc0
  try clear hp_0
  go_enter Tryz.func28, Tryz.ntmps28
  go_wp2_with fail
  rw [← hW0, ← e0]
  clear hW0 e0
  clear g1 g2 hidx0 hb0 hsl
  go_loopw [5, 6, 7] (fun kk nn i wr => ∃ (a : Nat), a ≤ R.size ∧ i = .int .i64 (a : Int) ∧ kk = .int .i64 (kIdx Q a : Int) ∧ nn = .int .i64 (cntB Q a : Int) ∧ W0 = wr) (fun _ _ i _ => (intOf i).toNat)
  case atStart => exact ⟨R.size, Nat.le_refl _, rfl, by first | (rw [HBS.out.1]; done) | (rw [HBS.out.1]; rfl), by first | (rw [HBS.out.2]; done) | (rw [HBS.out.2]; rfl), rfl⟩
  case round =>
    obtain ⟨a, ha, rfl, rfl, rfl, hwr⟩ := hrel
    subst hwr
    cases a with
    | zero =>
      rw [HB0.out.1, HB0.out.2, HCC.out, HKK.out]
      go_wp2_with fail
      refine (HA0.out _).mono ?_
      rintro e w1 ⟨v0, rfl, hN0, hB1⟩
      have HB1 := Aside0.mk hB1
      have HN0 := Aside0.mk hN0
      clear hN0 hB1
      go_wp2_with fail
      refine (H1.out _).mono ?_
      rintro e w2 ⟨v1, rfl, hN1, hB2⟩
      have HB2 := Aside0.mk (HB1.out.trans (hB2.mono HB1.out.size))
      have HN02 := Aside0.mk (HN0.out.below hB2)
      have HN1 := Aside0.mk hN1
      clear hN1 hB2
      go_wp2_with fail
      refine (HMK.out _ _ _ HN02.out HN1.out).mono ?_
      rintro e w7 ⟨v7, rfl, ⟨A7, L7, c7, A8, L8, c8, rfl, h7, h8⟩, hB7⟩
      have HB7 := Aside0.mk (HB2.out.trans (hB7.mono HB2.out.size))
      have HD7 := Aside0.mk (r3_done (neg := Bq) HW.out HGE.out HK.out HB7.out h7 h8)
      obtain ⟨⟨zc0, zc1, zc2⟩, zf0, zf1, zf2⟩ := HK.out.below HB7.out
      clear h7 h8 hB7
      go_wp2_with fail
      exact bodyPost_ret (v := .tuple #[.agg #[.bool Bq, .slice A7 L7 c7, .slice A8 L8 c8], .int .i64 kq]) (by simp [results, Tryz.results28, go_sem, *]) rfl (r3_postE HD7.out)
    | succ a =>
      have hidx := HIX.out a (by omega)
      have hsub : (a : Int) + 1 - 1 = (a : Int) := by omega
      have ha5 := HRZ.out
      obtain ⟨n, hn⟩ : ∃ n, n = (Q.getD a 0).toNat := ⟨_, rfl⟩
      rw [← hn] at hidx
      obtain ⟨cn, hcn⟩ : ∃ c, c = cntB Q (a + 1) := ⟨_, rfl⟩
      have hcl : cn ≤ 100000 := by rw [hcn]; have h1 := HCN.out (a + 1); have h2 := HQL.out; omega
      obtain ⟨kn, hkn⟩ : ∃ c, c = kIdx Q (a + 1) := ⟨_, rfl⟩
      rw [← hcn, ← hkn]
      have HCNN := Aside0.mk hcn
      have HKN := Aside0.mk hkn
      have HN := Aside0.mk hn
      clear hcn hkn hn
      by_cases hh : Q.getD a 0 = 47
      · have hbh : ((n : Int) == 47) = true := by rw [beq_iff_eq, HN.out, hh]; rfl
        have HST := Aside0.mk (back_hit (by rw [HQL.out]; omega) hh)
        clear hh
        go_wp2_with fail
        go_roundw
        case rel => exact ⟨a, by omega, rfl, by rw [HST.out.1], by rw [HST.out.2, ← HCNN.out]; rfl, by first | rfl | trivial⟩
        case measure => first | (simp [intOf]; done) | (simp [intOf]; omega)
      · have hbh : ((n : Int) == 47) = false := by
          rw [beq_eq_false_iff_ne, HN.out]
          intro e
          refine hh (UInt8.toNat_inj.1 ?_)
          have e2 : (47 : UInt8).toNat = 47 := rfl
          rw [e2]; omega
        have HST := Aside0.mk (back_miss (by rw [HQL.out]; omega) hh)
        clear hh
        go_wp2_with fail
        go_roundw
        case rel => exact ⟨a, by omega, rfl, by rw [HST.out.1, ← HKN.out], by rw [HST.out.2, ← HCNN.out], by first | rfl | trivial⟩
        case measure => first | (simp [intOf]; done) | (simp [intOf]; omega)
set_option maxHeartbeats 8000000 in
set_option maxRecDepth 100000 in
theorem sparse_neg_two_bad0 {w : World} {s R : ByteArray} {g : Bool} {l Q : List UInt8} (hl : l = s.data.toList) (hQ : Q = qrest l) (hqn : qneg l = g) (hRd : R.data.toList = Q) (hz : s.size ≤ 100000) (hp : 0 < s.size) (hc : s.data.toList.getD 0 0 = 45) (hR : R = s.extract 1 s.size) (hg : g = true) (h : Q.count 47 = 1) (hc0 : pcode (hdS Q) ≠ 0) :
    Calls Tryz.prog 28 #[.string s] w (ReadPost w l) := by
  have hQl : Q.length = R.size := by rw [← hRd, data_length]
  have hRz : R.size ≤ 100000 := by rw [hR]; first | (rw [ByteArray.size_extract]; omega) | exact hz
  have ht : s.toList = s.data.toList := Go.Lib.toList_data s
  have hne : s.data.toList ≠ [] := fun h => by have := data_length s; rw [h] at this; simp at this; omega
  have g1 : ¬ s.toList = [] := by rw [ht]; exact hne
  have g2 : s.toList.isEmpty = false := by rw [ht]; simpa using hne
  obtain ⟨c0, hc0e⟩ : ∃ c, c = s.data.toList.getD 0 0 := ⟨_, rfl⟩
  rw [← hc0e] at hc
  obtain ⟨n0, hn0⟩ : ∃ n, n = c0.toNat := ⟨_, rfl⟩
  have hidx0 : ∀ W : World, (Instr.index 9 (.string s) (.int .i64 0)).run Tryz.prog W = .ok (.int .u8 (n0 : Int)) W := fun W => by
    have h0 : (0 : Int) ≤ (0 : Int) ∧ (0 : Int) < s.size := by omega
    rw [run_index_string W _ s _ _ Tryz.underlying9, dif_pos h0, hn0, hc0e, List.getD_eq_getElem?_getD, List.getElem?_eq_getElem (by rw [data_length]; exact hp)]
    rfl
  have hb0 : ((n0 : Int) == 45) = true := by rw [beq_iff_eq, hn0, hc]; rfl
  have hsl : ∀ W : World, (Instr.slice 9 (.string s) (some (.int .i64 1)) none none).run Tryz.prog W = .ok (.string R) W := fun W => by rw [run_slice_string_l W 9 s Tryz.underlying9 .i64 1 (by omega) (by omega), hR]; simp
  clear ht hne hc0e hn0 hc hp
  obtain ⟨W0, a0, hW0, e0, HK, HW, HGE⟩ := res1 w 24
  have hmem : (47 : UInt8) ∈ Q := by apply Classical.byContradiction; intro h2; rw [List.count_eq_zero.2 h2] at h; omega
  have hnm : ¬ 1 < Q.count 47 := by omega
  have HQ := Aside0.mk (show qcode l = pcode (hdS Q) by unfold qcode; rw [← hQ, if_neg hnm, if_pos hc0])
  obtain ⟨pb, hpb⟩ : ∃ q, q = pcode (hdS Q) := ⟨_, rfl⟩
  have HP := Aside0.mk (show pb ≠ 0 by rw [hpb]; exact hc0)
  rw [← hpb] at HQ
  have hbb : ((pb : Int) != 0) = true := by rw [bne_iff_ne]; have := HP.out; omega
  have hbe : ((pb : Int) == 0) = false := by rw [beq_eq_false_iff_ne]; have := HP.out; omega
  obtain ⟨K, hK⟩ : ∃ k, k = (hdS Q).length := ⟨_, rfl⟩
  have hKl : K ≤ R.size := by rw [hK, ← hQl]; exact hd_le Q
  obtain ⟨t0, ht0⟩ : ∃ t, t = R.extract 0 K := ⟨_, rfl⟩
  have hd0 : t0.data.toList = hdS Q := by rw [ht0, Go.Lib.extract_from_zero, hRd, hK]; exact take_hd Q
  have hz0 : t0.size ≤ 100000 := by rw [ht0, ByteArray.size_extract]; omega
  have hx0 : ∀ W : World, (Instr.slice 9 (.string R) none (some (.int .i64 (K : Int))) none).run Tryz.prog W = .ok (.string t0) W := fun W => by rw [run_slice_string_h W 9 R Tryz.underlying9 .i64 (K : Int) (by omega) (by omega), ht0]; simp
  have hKs : K + 1 ≤ R.size := by have h2 := (drop_hd hmem).1; omega
  obtain ⟨t1, ht1⟩ : ∃ t, t = R.extract (K + 1) R.size := ⟨_, rfl⟩
  have hd1 : t1.data.toList = tlS Q := by rw [ht1, Go.Lib.extract_to_end, hRd, hK]; exact (drop_hd hmem).2
  have hz1 : t1.size ≤ 100000 := by rw [ht1, ByteArray.size_extract]; omega
  have hx1 : ∀ W : World, (Instr.slice 9 (.string R) (some (.int .i64 ((K : Int) + 1))) none none).run Tryz.prog W = .ok (.string t1) W := fun W => by rw [run_slice_string_l W 9 R Tryz.underlying9 .i64 ((K : Int) + 1) (by omega) (by omega), ht1]; simp
  clear ht1
  clear ht0
  obtain ⟨p0, hp_0⟩ : ∃ q, q = pnum (hdS Q) := ⟨_, rfl⟩
  have BP0 := Aside0.mk (show p0 < pw 50 by rw [hp_0]; exact pnum_lt _)
  have HA0 := Aside0.mk (fun (W : World) => show Calls Tryz.prog 53 #[.string t0] W (NuPost2 W p0 (pb : Int)) from (rparse_w t0 W (by omega)).mono fun e w' h => by
    obtain ⟨v, h1, h2, h3⟩ := h
    rw [hd0, ← hpb] at h1
    rw [hd0, ← hp_0] at h2
    exact ⟨v, h1, h2, h3⟩)
  have hB := back_end Q
  have HB0 := Aside0.mk (And.intro hB.1 hB.2)
  have hbs := back_start Q
  rw [hQl] at hbs
  have HBS := Aside0.mk hbs
  have HIX := Aside0.mk (fun (a : Nat) (h : a < R.size) (W : World) => show (Instr.index 9 (.string R) (.int .i64 (a : Int))).run Tryz.prog W = .ok (.int .u8 ((Q.getD a 0).toNat : Int)) W from by
    have h0 : (0 : Int) ≤ (a : Int) ∧ (a : Int) < R.size := by omega
    rw [run_index_string W _ R _ _ Tryz.underlying9, dif_pos h0, ← hRd, List.getD_eq_getElem?_getD, List.getElem?_eq_getElem (by rw [data_length]; exact h)]
    rfl)
  have HQL := Aside0.mk hQl
  have HCN := Aside0.mk (cntB_le Q)
  have HCC := Aside0.mk h
  have HKK := Aside0.mk hK.symm
  clear h hK
  have HRZ := Aside0.mk hRz
  subst hg
  try clear hl
  try clear hQ
  try clear hqn
  try clear hRd
  try clear hz
  try clear hR
  try clear hQl
  try clear hB
  try clear hbs
  try clear hmem
  try clear hnm
  try clear hd0
  try clear hz0
  try clear hd1
  try clear hz1
  try clear hc0
  try clear hp_0
  try clear hpb
  go_enter Tryz.func28, Tryz.ntmps28
  go_wp2_with fail
  rw [← hW0, ← e0]
  clear hW0 e0
  clear g1 g2 hidx0 hb0 hsl
  go_loopw [5, 6, 7] (fun kk nn i wr => ∃ (a : Nat), a ≤ R.size ∧ i = .int .i64 (a : Int) ∧ kk = .int .i64 (kIdx Q a : Int) ∧ nn = .int .i64 (cntB Q a : Int) ∧ W0 = wr) (fun _ _ i _ => (intOf i).toNat)
  case atStart => exact ⟨R.size, Nat.le_refl _, rfl, by first | (rw [HBS.out.1]; done) | (rw [HBS.out.1]; rfl), by first | (rw [HBS.out.2]; done) | (rw [HBS.out.2]; rfl), rfl⟩
  case round =>
    obtain ⟨a, ha, rfl, rfl, rfl, hwr⟩ := hrel
    subst hwr
    cases a with
    | zero =>
      rw [HB0.out.1, HB0.out.2, HCC.out, HKK.out]
      go_wp2_with fail
      refine (HA0.out _).mono ?_
      rintro e w1 ⟨v0, rfl, hN0, hB1⟩
      have HB1 := Aside0.mk hB1
      clear hN0 hB1
      obtain ⟨⟨zc0, zc1, zc2⟩, zf0, zf1, zf2⟩ := HK.out.below HB1.out
      have HD := Aside0.mk (r3_done (neg := false) HW.out HGE.out HK.out HB1.out (Nu_nil _) (Nu_nil _))
      go_wp2_with fail
      exact bodyPost_ret (v := .tuple #[.agg #[.bool false, .slice none 0 0, .slice none 0 0], .int .i64 pb]) (by simp [results, Tryz.results28, go_sem, *]) rfl (read_badW (c := pb) HQ.out HP.out HD.out)
    | succ a =>
      have hidx := HIX.out a (by omega)
      have hsub : (a : Int) + 1 - 1 = (a : Int) := by omega
      have ha5 := HRZ.out
      obtain ⟨n, hn⟩ : ∃ n, n = (Q.getD a 0).toNat := ⟨_, rfl⟩
      rw [← hn] at hidx
      obtain ⟨cn, hcn⟩ : ∃ c, c = cntB Q (a + 1) := ⟨_, rfl⟩
      have hcl : cn ≤ 100000 := by rw [hcn]; have h1 := HCN.out (a + 1); have h2 := HQL.out; omega
      obtain ⟨kn, hkn⟩ : ∃ c, c = kIdx Q (a + 1) := ⟨_, rfl⟩
      rw [← hcn, ← hkn]
      have HCNN := Aside0.mk hcn
      have HKN := Aside0.mk hkn
      have HN := Aside0.mk hn
      clear hcn hkn hn
      by_cases hh : Q.getD a 0 = 47
      · have hbh : ((n : Int) == 47) = true := by rw [beq_iff_eq, HN.out, hh]; rfl
        have HST := Aside0.mk (back_hit (by rw [HQL.out]; omega) hh)
        clear hh
        go_wp2_with fail
        go_roundw
        case rel => exact ⟨a, by omega, rfl, by rw [HST.out.1], by rw [HST.out.2, ← HCNN.out]; rfl, by first | rfl | trivial⟩
        case measure => first | (simp [intOf]; done) | (simp [intOf]; omega)
      · have hbh : ((n : Int) == 47) = false := by
          rw [beq_eq_false_iff_ne, HN.out]
          intro e
          refine hh (UInt8.toNat_inj.1 ?_)
          have e2 : (47 : UInt8).toNat = 47 := rfl
          rw [e2]; omega
        have HST := Aside0.mk (back_miss (by rw [HQL.out]; omega) hh)
        clear hh
        go_wp2_with fail
        go_roundw
        case rel => exact ⟨a, by omega, rfl, by rw [HST.out.1, ← HKN.out], by rw [HST.out.2, ← HCNN.out], by first | rfl | trivial⟩
        case measure => first | (simp [intOf]; done) | (simp [intOf]; omega)
set_option maxHeartbeats 8000000 in
set_option maxRecDepth 100000 in
theorem sparse_neg_two_bad1 {w : World} {s R : ByteArray} {g : Bool} {l Q : List UInt8} (hl : l = s.data.toList) (hQ : Q = qrest l) (hqn : qneg l = g) (hRd : R.data.toList = Q) (hz : s.size ≤ 100000) (hp : 0 < s.size) (hc : s.data.toList.getD 0 0 = 45) (hR : R = s.extract 1 s.size) (hg : g = true) (h : Q.count 47 = 1) (hc0 : pcode (hdS Q) = 0) (hc1 : pcode (tlS Q) ≠ 0) :
    Calls Tryz.prog 28 #[.string s] w (ReadPost w l) := by
  have hQl : Q.length = R.size := by rw [← hRd, data_length]
  have hRz : R.size ≤ 100000 := by rw [hR]; first | (rw [ByteArray.size_extract]; omega) | exact hz
  have ht : s.toList = s.data.toList := Go.Lib.toList_data s
  have hne : s.data.toList ≠ [] := fun h => by have := data_length s; rw [h] at this; simp at this; omega
  have g1 : ¬ s.toList = [] := by rw [ht]; exact hne
  have g2 : s.toList.isEmpty = false := by rw [ht]; simpa using hne
  obtain ⟨c0, hc0e⟩ : ∃ c, c = s.data.toList.getD 0 0 := ⟨_, rfl⟩
  rw [← hc0e] at hc
  obtain ⟨n0, hn0⟩ : ∃ n, n = c0.toNat := ⟨_, rfl⟩
  have hidx0 : ∀ W : World, (Instr.index 9 (.string s) (.int .i64 0)).run Tryz.prog W = .ok (.int .u8 (n0 : Int)) W := fun W => by
    have h0 : (0 : Int) ≤ (0 : Int) ∧ (0 : Int) < s.size := by omega
    rw [run_index_string W _ s _ _ Tryz.underlying9, dif_pos h0, hn0, hc0e, List.getD_eq_getElem?_getD, List.getElem?_eq_getElem (by rw [data_length]; exact hp)]
    rfl
  have hb0 : ((n0 : Int) == 45) = true := by rw [beq_iff_eq, hn0, hc]; rfl
  have hsl : ∀ W : World, (Instr.slice 9 (.string s) (some (.int .i64 1)) none none).run Tryz.prog W = .ok (.string R) W := fun W => by rw [run_slice_string_l W 9 s Tryz.underlying9 .i64 1 (by omega) (by omega), hR]; simp
  clear ht hne hc0e hn0 hc hp
  obtain ⟨W0, a0, hW0, e0, HK, HW, HGE⟩ := res1 w 24
  have hmem : (47 : UInt8) ∈ Q := by apply Classical.byContradiction; intro h2; rw [List.count_eq_zero.2 h2] at h; omega
  have hnm : ¬ 1 < Q.count 47 := by omega
  have HQ := Aside0.mk (show qcode l = pcode (tlS Q) by unfold qcode; rw [← hQ, if_neg hnm, if_neg (fun h2 => h2 hc0), if_pos ⟨hmem, hc1⟩])
  obtain ⟨pb, hpb⟩ : ∃ q, q = pcode (tlS Q) := ⟨_, rfl⟩
  have HP := Aside0.mk (show pb ≠ 0 by rw [hpb]; exact hc1)
  rw [← hpb] at HQ
  have hbb : ((pb : Int) != 0) = true := by rw [bne_iff_ne]; have := HP.out; omega
  have hbe : ((pb : Int) == 0) = false := by rw [beq_eq_false_iff_ne]; have := HP.out; omega
  obtain ⟨K, hK⟩ : ∃ k, k = (hdS Q).length := ⟨_, rfl⟩
  have hKl : K ≤ R.size := by rw [hK, ← hQl]; exact hd_le Q
  obtain ⟨t0, ht0⟩ : ∃ t, t = R.extract 0 K := ⟨_, rfl⟩
  have hd0 : t0.data.toList = hdS Q := by rw [ht0, Go.Lib.extract_from_zero, hRd, hK]; exact take_hd Q
  have hz0 : t0.size ≤ 100000 := by rw [ht0, ByteArray.size_extract]; omega
  have hx0 : ∀ W : World, (Instr.slice 9 (.string R) none (some (.int .i64 (K : Int))) none).run Tryz.prog W = .ok (.string t0) W := fun W => by rw [run_slice_string_h W 9 R Tryz.underlying9 .i64 (K : Int) (by omega) (by omega), ht0]; simp
  have hKs : K + 1 ≤ R.size := by have h2 := (drop_hd hmem).1; omega
  obtain ⟨t1, ht1⟩ : ∃ t, t = R.extract (K + 1) R.size := ⟨_, rfl⟩
  have hd1 : t1.data.toList = tlS Q := by rw [ht1, Go.Lib.extract_to_end, hRd, hK]; exact (drop_hd hmem).2
  have hz1 : t1.size ≤ 100000 := by rw [ht1, ByteArray.size_extract]; omega
  have hx1 : ∀ W : World, (Instr.slice 9 (.string R) (some (.int .i64 ((K : Int) + 1))) none none).run Tryz.prog W = .ok (.string t1) W := fun W => by rw [run_slice_string_l W 9 R Tryz.underlying9 .i64 ((K : Int) + 1) (by omega) (by omega), ht1]; simp
  clear ht1
  clear ht0
  obtain ⟨p0, hp_0⟩ : ∃ q, q = pnum (hdS Q) := ⟨_, rfl⟩
  have BP0 := Aside0.mk (show p0 < pw 50 by rw [hp_0]; exact pnum_lt _)
  have HA0 := Aside0.mk (fun (W : World) => show Calls Tryz.prog 53 #[.string t0] W (NuPost2 W p0 0) from (rparse_w t0 W (by omega)).mono fun e w' h => by
    obtain ⟨v, h1, h2, h3⟩ := h
    rw [hd0, hc0] at h1
    rw [hd0, ← hp_0] at h2
    exact ⟨v, h1, h2, h3⟩)
  obtain ⟨p1, hp_1⟩ : ∃ q, q = pnum (tlS Q) := ⟨_, rfl⟩
  have BP1 := Aside0.mk (show p1 < pw 50 by rw [hp_1]; exact pnum_lt _)
  have HA1 := Aside0.mk (fun (W : World) => show Calls Tryz.prog 53 #[.string t1] W (NuPost2 W p1 (pb : Int)) from (rparse_w t1 W (by omega)).mono fun e w' h => by
    obtain ⟨v, h1, h2, h3⟩ := h
    rw [hd1, ← hpb] at h1
    rw [hd1, ← hp_1] at h2
    exact ⟨v, h1, h2, h3⟩)
  have hB := back_end Q
  have HB0 := Aside0.mk (And.intro hB.1 hB.2)
  have hbs := back_start Q
  rw [hQl] at hbs
  have HBS := Aside0.mk hbs
  have HIX := Aside0.mk (fun (a : Nat) (h : a < R.size) (W : World) => show (Instr.index 9 (.string R) (.int .i64 (a : Int))).run Tryz.prog W = .ok (.int .u8 ((Q.getD a 0).toNat : Int)) W from by
    have h0 : (0 : Int) ≤ (a : Int) ∧ (a : Int) < R.size := by omega
    rw [run_index_string W _ R _ _ Tryz.underlying9, dif_pos h0, ← hRd, List.getD_eq_getElem?_getD, List.getElem?_eq_getElem (by rw [data_length]; exact h)]
    rfl)
  have HQL := Aside0.mk hQl
  have HCN := Aside0.mk (cntB_le Q)
  have HCC := Aside0.mk h
  have HKK := Aside0.mk hK.symm
  clear h hK
  have HRZ := Aside0.mk hRz
  subst hg
  try clear hl
  try clear hQ
  try clear hqn
  try clear hRd
  try clear hz
  try clear hR
  try clear hQl
  try clear hB
  try clear hbs
  try clear hmem
  try clear hnm
  try clear hd0
  try clear hz0
  try clear hd1
  try clear hz1
  try clear hc0
  try clear hc1
  try clear hp_0
  try clear hp_1
  try clear hpb
  go_enter Tryz.func28, Tryz.ntmps28
  go_wp2_with fail
  rw [← hW0, ← e0]
  clear hW0 e0
  clear g1 g2 hidx0 hb0 hsl
  go_loopw [5, 6, 7] (fun kk nn i wr => ∃ (a : Nat), a ≤ R.size ∧ i = .int .i64 (a : Int) ∧ kk = .int .i64 (kIdx Q a : Int) ∧ nn = .int .i64 (cntB Q a : Int) ∧ W0 = wr) (fun _ _ i _ => (intOf i).toNat)
  case atStart => exact ⟨R.size, Nat.le_refl _, rfl, by first | (rw [HBS.out.1]; done) | (rw [HBS.out.1]; rfl), by first | (rw [HBS.out.2]; done) | (rw [HBS.out.2]; rfl), rfl⟩
  case round =>
    obtain ⟨a, ha, rfl, rfl, rfl, hwr⟩ := hrel
    subst hwr
    cases a with
    | zero =>
      rw [HB0.out.1, HB0.out.2, HCC.out, HKK.out]
      go_wp2_with fail
      refine (HA0.out _).mono ?_
      rintro e w1 ⟨v0, rfl, hN0, hB1⟩
      have HB1 := Aside0.mk hB1
      have HN0 := Aside0.mk hN0
      clear hN0 hB1
      go_wp2_with fail
      refine (HA1.out _).mono ?_
      rintro e w2 ⟨v1, rfl, hN1, hB2⟩
      have HB2 := Aside0.mk (HB1.out.trans (hB2.mono HB1.out.size))
      clear hN1 hB2
      obtain ⟨⟨zc0, zc1, zc2⟩, zf0, zf1, zf2⟩ := HK.out.below HB2.out
      have HD := Aside0.mk (r3_done (neg := false) HW.out HGE.out HK.out HB2.out (Nu_nil _) (Nu_nil _))
      go_wp2_with fail
      exact bodyPost_ret (v := .tuple #[.agg #[.bool false, .slice none 0 0, .slice none 0 0], .int .i64 pb]) (by simp [results, Tryz.results28, go_sem, *]) rfl (read_badW (c := pb) HQ.out HP.out HD.out)
    | succ a =>
      have hidx := HIX.out a (by omega)
      have hsub : (a : Int) + 1 - 1 = (a : Int) := by omega
      have ha5 := HRZ.out
      obtain ⟨n, hn⟩ : ∃ n, n = (Q.getD a 0).toNat := ⟨_, rfl⟩
      rw [← hn] at hidx
      obtain ⟨cn, hcn⟩ : ∃ c, c = cntB Q (a + 1) := ⟨_, rfl⟩
      have hcl : cn ≤ 100000 := by rw [hcn]; have h1 := HCN.out (a + 1); have h2 := HQL.out; omega
      obtain ⟨kn, hkn⟩ : ∃ c, c = kIdx Q (a + 1) := ⟨_, rfl⟩
      rw [← hcn, ← hkn]
      have HCNN := Aside0.mk hcn
      have HKN := Aside0.mk hkn
      have HN := Aside0.mk hn
      clear hcn hkn hn
      by_cases hh : Q.getD a 0 = 47
      · have hbh : ((n : Int) == 47) = true := by rw [beq_iff_eq, HN.out, hh]; rfl
        have HST := Aside0.mk (back_hit (by rw [HQL.out]; omega) hh)
        clear hh
        go_wp2_with fail
        go_roundw
        case rel => exact ⟨a, by omega, rfl, by rw [HST.out.1], by rw [HST.out.2, ← HCNN.out]; rfl, by first | rfl | trivial⟩
        case measure => first | (simp [intOf]; done) | (simp [intOf]; omega)
      · have hbh : ((n : Int) == 47) = false := by
          rw [beq_eq_false_iff_ne, HN.out]
          intro e
          refine hh (UInt8.toNat_inj.1 ?_)
          have e2 : (47 : UInt8).toNat = 47 := rfl
          rw [e2]; omega
        have HST := Aside0.mk (back_miss (by rw [HQL.out]; omega) hh)
        clear hh
        go_wp2_with fail
        go_roundw
        case rel => exact ⟨a, by omega, rfl, by rw [HST.out.1, ← HKN.out], by rw [HST.out.2, ← HCNN.out], by first | rfl | trivial⟩
        case measure => first | (simp [intOf]; done) | (simp [intOf]; omega)
set_option maxHeartbeats 8000000 in
set_option maxRecDepth 100000 in
theorem sparse_neg_two {w : World} {s R : ByteArray} {g : Bool} {l Q : List UInt8} (hl : l = s.data.toList) (hQ : Q = qrest l) (hqn : qneg l = g) (hRd : R.data.toList = Q) (hz : s.size ≤ 100000) (hp : 0 < s.size) (hc : s.data.toList.getD 0 0 = 45) (hR : R = s.extract 1 s.size) (hg : g = true) (h : Q.count 47 = 1) (hc0 : pcode (hdS Q) = 0) (hc1 : pcode (tlS Q) = 0) :
    Calls Tryz.prog 28 #[.string s] w (ReadPost w l) := by
  have hQl : Q.length = R.size := by rw [← hRd, data_length]
  have hRz : R.size ≤ 100000 := by rw [hR]; first | (rw [ByteArray.size_extract]; omega) | exact hz
  have ht : s.toList = s.data.toList := Go.Lib.toList_data s
  have hne : s.data.toList ≠ [] := fun h => by have := data_length s; rw [h] at this; simp at this; omega
  have g1 : ¬ s.toList = [] := by rw [ht]; exact hne
  have g2 : s.toList.isEmpty = false := by rw [ht]; simpa using hne
  obtain ⟨c0, hc0e⟩ : ∃ c, c = s.data.toList.getD 0 0 := ⟨_, rfl⟩
  rw [← hc0e] at hc
  obtain ⟨n0, hn0⟩ : ∃ n, n = c0.toNat := ⟨_, rfl⟩
  have hidx0 : ∀ W : World, (Instr.index 9 (.string s) (.int .i64 0)).run Tryz.prog W = .ok (.int .u8 (n0 : Int)) W := fun W => by
    have h0 : (0 : Int) ≤ (0 : Int) ∧ (0 : Int) < s.size := by omega
    rw [run_index_string W _ s _ _ Tryz.underlying9, dif_pos h0, hn0, hc0e, List.getD_eq_getElem?_getD, List.getElem?_eq_getElem (by rw [data_length]; exact hp)]
    rfl
  have hb0 : ((n0 : Int) == 45) = true := by rw [beq_iff_eq, hn0, hc]; rfl
  have hsl : ∀ W : World, (Instr.slice 9 (.string s) (some (.int .i64 1)) none none).run Tryz.prog W = .ok (.string R) W := fun W => by rw [run_slice_string_l W 9 s Tryz.underlying9 .i64 1 (by omega) (by omega), hR]; simp
  clear ht hne hc0e hn0 hc hp
  obtain ⟨W0, a0, hW0, e0, HK, HW, HGE⟩ := res1 w 24
  have hmem : (47 : UInt8) ∈ Q := by apply Classical.byContradiction; intro h2; rw [List.count_eq_zero.2 h2] at h; omega
  have hnm : ¬ 1 < Q.count 47 := by omega
  have HQ := Aside0.mk (show qcode l = if qden l = 0 then 5 else 0 by unfold qcode; rw [← hQ, if_neg hnm, if_neg (fun h2 => h2 hc0), if_neg (fun h2 => h2.2 hc1)])
  have HDN := Aside0.mk (show qden l = pnum (tlS Q) by unfold qden; rw [← hQ, if_pos hmem])
  obtain ⟨K, hK⟩ : ∃ k, k = (hdS Q).length := ⟨_, rfl⟩
  have hKl : K ≤ R.size := by rw [hK, ← hQl]; exact hd_le Q
  obtain ⟨t0, ht0⟩ : ∃ t, t = R.extract 0 K := ⟨_, rfl⟩
  have hd0 : t0.data.toList = hdS Q := by rw [ht0, Go.Lib.extract_from_zero, hRd, hK]; exact take_hd Q
  have hz0 : t0.size ≤ 100000 := by rw [ht0, ByteArray.size_extract]; omega
  have hx0 : ∀ W : World, (Instr.slice 9 (.string R) none (some (.int .i64 (K : Int))) none).run Tryz.prog W = .ok (.string t0) W := fun W => by rw [run_slice_string_h W 9 R Tryz.underlying9 .i64 (K : Int) (by omega) (by omega), ht0]; simp
  have hKs : K + 1 ≤ R.size := by have h2 := (drop_hd hmem).1; omega
  obtain ⟨t1, ht1⟩ : ∃ t, t = R.extract (K + 1) R.size := ⟨_, rfl⟩
  have hd1 : t1.data.toList = tlS Q := by rw [ht1, Go.Lib.extract_to_end, hRd, hK]; exact (drop_hd hmem).2
  have hz1 : t1.size ≤ 100000 := by rw [ht1, ByteArray.size_extract]; omega
  have hx1 : ∀ W : World, (Instr.slice 9 (.string R) (some (.int .i64 ((K : Int) + 1))) none none).run Tryz.prog W = .ok (.string t1) W := fun W => by rw [run_slice_string_l W 9 R Tryz.underlying9 .i64 ((K : Int) + 1) (by omega) (by omega), ht1]; simp
  clear ht1
  clear ht0
  obtain ⟨p0, hp_0⟩ : ∃ q, q = pnum (hdS Q) := ⟨_, rfl⟩
  have BP0 := Aside0.mk (show p0 < pw 50 by rw [hp_0]; exact pnum_lt _)
  have HA0 := Aside0.mk (fun (W : World) => show Calls Tryz.prog 53 #[.string t0] W (NuPost2 W p0 0) from (rparse_w t0 W (by omega)).mono fun e w' h => by
    obtain ⟨v, h1, h2, h3⟩ := h
    rw [hd0, hc0] at h1
    rw [hd0, ← hp_0] at h2
    exact ⟨v, h1, h2, h3⟩)
  obtain ⟨p1, hp_1⟩ : ∃ q, q = pnum (tlS Q) := ⟨_, rfl⟩
  have BP1 := Aside0.mk (show p1 < pw 50 by rw [hp_1]; exact pnum_lt _)
  have HA1 := Aside0.mk (fun (W : World) => show Calls Tryz.prog 53 #[.string t1] W (NuPost2 W p1 0) from (rparse_w t1 W (by omega)).mono fun e w' h => by
    obtain ⟨v, h1, h2, h3⟩ := h
    rw [hd1, hc1] at h1
    rw [hd1, ← hp_1] at h2
    exact ⟨v, h1, h2, h3⟩)
  have HNN := Aside0.mk (show qnum l = p0 by rw [hp_0, hQ]; rfl)
  have HDD := Aside0.mk (show qden l = p1 by rw [HDN.out, hp_1])
  rw [read_mk HQ.out, HNN.out, HDD.out, hqn]
  obtain ⟨Bq, Nq, Dq, kq, hmk⟩ := mk_form g p0 p1
  have HMK := Aside0.mk (fun (W : World) (vn vd : Value) (hn : Nu W vn p0) (hd : Nu W vd p1) => show Calls Tryz.prog 32 #[.bool g, vn, vd] W (R3PostE W Bq Nq Dq kq) from (sMkX g hn hd BP0.out BP1.out).mono fun e w' h => by rw [hmk] at h; exact h)
  rw [show MkPost w g p0 p1 = R3PostE w Bq Nq Dq kq from funext fun e => funext fun w' => hmk w e w']
  have H1 : Aside0 (∀ W : World, Calls Tryz.prog 34 #[] W (NuPost W 1)) := ⟨fun W => sone_w W⟩
  clear hmk HQ HDN HNN HDD
  have hB := back_end Q
  have HB0 := Aside0.mk (And.intro hB.1 hB.2)
  have hbs := back_start Q
  rw [hQl] at hbs
  have HBS := Aside0.mk hbs
  have HIX := Aside0.mk (fun (a : Nat) (h : a < R.size) (W : World) => show (Instr.index 9 (.string R) (.int .i64 (a : Int))).run Tryz.prog W = .ok (.int .u8 ((Q.getD a 0).toNat : Int)) W from by
    have h0 : (0 : Int) ≤ (a : Int) ∧ (a : Int) < R.size := by omega
    rw [run_index_string W _ R _ _ Tryz.underlying9, dif_pos h0, ← hRd, List.getD_eq_getElem?_getD, List.getElem?_eq_getElem (by rw [data_length]; exact h)]
    rfl)
  have HQL := Aside0.mk hQl
  have HCN := Aside0.mk (cntB_le Q)
  have HCC := Aside0.mk h
  have HKK := Aside0.mk hK.symm
  clear h hK
  have HRZ := Aside0.mk hRz
  subst hg
  try clear hl
  try clear hQ
  try clear hqn
  try clear hRd
  try clear hz
  try clear hR
  try clear hQl
  try clear hB
  try clear hbs
  try clear hmem
  try clear hnm
  try clear hd0
  try clear hz0
  try clear hd1
  try clear hz1
  try clear hc0
  try clear hc1
  try clear hp_0
  try clear hp_1
  go_enter Tryz.func28, Tryz.ntmps28
  go_wp2_with fail
  rw [← hW0, ← e0]
  clear hW0 e0
  clear g1 g2 hidx0 hb0 hsl
  go_loopw [5, 6, 7] (fun kk nn i wr => ∃ (a : Nat), a ≤ R.size ∧ i = .int .i64 (a : Int) ∧ kk = .int .i64 (kIdx Q a : Int) ∧ nn = .int .i64 (cntB Q a : Int) ∧ W0 = wr) (fun _ _ i _ => (intOf i).toNat)
  case atStart => exact ⟨R.size, Nat.le_refl _, rfl, by first | (rw [HBS.out.1]; done) | (rw [HBS.out.1]; rfl), by first | (rw [HBS.out.2]; done) | (rw [HBS.out.2]; rfl), rfl⟩
  case round =>
    obtain ⟨a, ha, rfl, rfl, rfl, hwr⟩ := hrel
    subst hwr
    cases a with
    | zero =>
      rw [HB0.out.1, HB0.out.2, HCC.out, HKK.out]
      go_wp2_with fail
      refine (HA0.out _).mono ?_
      rintro e w1 ⟨v0, rfl, hN0, hB1⟩
      have HB1 := Aside0.mk hB1
      have HN0 := Aside0.mk hN0
      clear hN0 hB1
      go_wp2_with fail
      refine (HA1.out _).mono ?_
      rintro e w2 ⟨v1, rfl, hN1, hB2⟩
      have HB2 := Aside0.mk (HB1.out.trans (hB2.mono HB1.out.size))
      have HN02 := Aside0.mk (HN0.out.below hB2)
      have HN1 := Aside0.mk hN1
      clear hN1 hB2
      go_wp2_with fail
      refine (HMK.out _ _ _ HN02.out HN1.out).mono ?_
      rintro e w7 ⟨v7, rfl, ⟨A7, L7, c7, A8, L8, c8, rfl, h7, h8⟩, hB7⟩
      have HB7 := Aside0.mk (HB2.out.trans (hB7.mono HB2.out.size))
      have HD7 := Aside0.mk (r3_done (neg := Bq) HW.out HGE.out HK.out HB7.out h7 h8)
      obtain ⟨⟨zc0, zc1, zc2⟩, zf0, zf1, zf2⟩ := HK.out.below HB7.out
      clear h7 h8 hB7
      go_wp2_with fail
      exact bodyPost_ret (v := .tuple #[.agg #[.bool Bq, .slice A7 L7 c7, .slice A8 L8 c8], .int .i64 kq]) (by simp [results, Tryz.results28, go_sem, *]) rfl (r3_postE HD7.out)
    | succ a =>
      have hidx := HIX.out a (by omega)
      have hsub : (a : Int) + 1 - 1 = (a : Int) := by omega
      have ha5 := HRZ.out
      obtain ⟨n, hn⟩ : ∃ n, n = (Q.getD a 0).toNat := ⟨_, rfl⟩
      rw [← hn] at hidx
      obtain ⟨cn, hcn⟩ : ∃ c, c = cntB Q (a + 1) := ⟨_, rfl⟩
      have hcl : cn ≤ 100000 := by rw [hcn]; have h1 := HCN.out (a + 1); have h2 := HQL.out; omega
      obtain ⟨kn, hkn⟩ : ∃ c, c = kIdx Q (a + 1) := ⟨_, rfl⟩
      rw [← hcn, ← hkn]
      have HCNN := Aside0.mk hcn
      have HKN := Aside0.mk hkn
      have HN := Aside0.mk hn
      clear hcn hkn hn
      by_cases hh : Q.getD a 0 = 47
      · have hbh : ((n : Int) == 47) = true := by rw [beq_iff_eq, HN.out, hh]; rfl
        have HST := Aside0.mk (back_hit (by rw [HQL.out]; omega) hh)
        clear hh
        go_wp2_with fail
        go_roundw
        case rel => exact ⟨a, by omega, rfl, by rw [HST.out.1], by rw [HST.out.2, ← HCNN.out]; rfl, by first | rfl | trivial⟩
        case measure => first | (simp [intOf]; done) | (simp [intOf]; omega)
      · have hbh : ((n : Int) == 47) = false := by
          rw [beq_eq_false_iff_ne, HN.out]
          intro e
          refine hh (UInt8.toNat_inj.1 ?_)
          have e2 : (47 : UInt8).toNat = 47 := rfl
          rw [e2]; omega
        have HST := Aside0.mk (back_miss (by rw [HQL.out]; omega) hh)
        clear hh
        go_wp2_with fail
        go_roundw
        case rel => exact ⟨a, by omega, rfl, by rw [HST.out.1, ← HKN.out], by rw [HST.out.2, ← HCNN.out], by first | rfl | trivial⟩
        case measure => first | (simp [intOf]; done) | (simp [intOf]; omega)
set_option maxHeartbeats 8000000 in
set_option maxRecDepth 100000 in
theorem sparse_pos_many {w : World} {s R : ByteArray} {g : Bool} {l Q : List UInt8} (hl : l = s.data.toList) (hQ : Q = qrest l) (hqn : qneg l = g) (hRd : R.data.toList = Q) (hz : s.size ≤ 100000) (hp : 0 < s.size) (hc : ¬ s.data.toList.getD 0 0 = 45) (hR : R = s) (hg : g = false) (h : 1 < Q.count 47) :
    Calls Tryz.prog 28 #[.string s] w (ReadPost w l) := by
  have hQl : Q.length = R.size := by rw [← hRd, data_length]
  have hRz : R.size ≤ 100000 := by rw [hR]; first | (rw [ByteArray.size_extract]; omega) | exact hz
  have ht : s.toList = s.data.toList := Go.Lib.toList_data s
  have hne : s.data.toList ≠ [] := fun h => by have := data_length s; rw [h] at this; simp at this; omega
  have g1 : ¬ s.toList = [] := by rw [ht]; exact hne
  have g2 : s.toList.isEmpty = false := by rw [ht]; simpa using hne
  obtain ⟨c0, hc0e⟩ : ∃ c, c = s.data.toList.getD 0 0 := ⟨_, rfl⟩
  rw [← hc0e] at hc
  obtain ⟨n0, hn0⟩ : ∃ n, n = c0.toNat := ⟨_, rfl⟩
  have hidx0 : ∀ W : World, (Instr.index 9 (.string s) (.int .i64 0)).run Tryz.prog W = .ok (.int .u8 (n0 : Int)) W := fun W => by
    have h0 : (0 : Int) ≤ (0 : Int) ∧ (0 : Int) < s.size := by omega
    rw [run_index_string W _ s _ _ Tryz.underlying9, dif_pos h0, hn0, hc0e, List.getD_eq_getElem?_getD, List.getElem?_eq_getElem (by rw [data_length]; exact hp)]
    rfl
  have hb0 : ((n0 : Int) == 45) = false := by
    rw [beq_eq_false_iff_ne, hn0]
    intro e
    refine hc (UInt8.toNat_inj.1 ?_)
    have e2 : (45 : UInt8).toNat = 45 := rfl
    rw [e2]; omega
  clear ht hne hc0e hn0 hc hp
  obtain ⟨W0, a0, hW0, e0, HK, HW, HGE⟩ := res1 w 24
  have HQ := Aside0.mk (show qcode l = 4 by unfold qcode; rw [← hQ, if_pos h])
  have hB := back_end Q
  have HB0 := Aside0.mk (And.intro hB.1 hB.2)
  have hbs := back_start Q
  rw [hQl] at hbs
  have HBS := Aside0.mk hbs
  have HIX := Aside0.mk (fun (a : Nat) (h : a < R.size) (W : World) => show (Instr.index 9 (.string R) (.int .i64 (a : Int))).run Tryz.prog W = .ok (.int .u8 ((Q.getD a 0).toNat : Int)) W from by
    have h0 : (0 : Int) ≤ (a : Int) ∧ (a : Int) < R.size := by omega
    rw [run_index_string W _ R _ _ Tryz.underlying9, dif_pos h0, ← hRd, List.getD_eq_getElem?_getD, List.getElem?_eq_getElem (by rw [data_length]; exact h)]
    rfl)
  have HQL := Aside0.mk hQl
  have HCN := Aside0.mk (cntB_le Q)
  obtain ⟨C, hC⟩ : ∃ c, c = Q.count 47 := ⟨_, rfl⟩
  have hC2 : 1 < C := by omega
  have HCC := Aside0.mk hC.symm
  clear hC h
  have HRZ := Aside0.mk hRz
  subst hg
  subst hR
  try clear hl
  try clear hQ
  try clear hqn
  try clear hRd
  try clear hz
  try clear hR
  try clear hQl
  try clear hB
  try clear hbs
  go_enter Tryz.func28, Tryz.ntmps28
  go_wp2_with fail
  rw [← hW0, ← e0]
  clear hW0 e0
  clear g1 g2 hidx0 hb0
  go_loopw [5, 6, 7] (fun kk nn i wr => ∃ (a : Nat), a ≤ R.size ∧ i = .int .i64 (a : Int) ∧ kk = .int .i64 (kIdx Q a : Int) ∧ nn = .int .i64 (cntB Q a : Int) ∧ W0 = wr) (fun _ _ i _ => (intOf i).toNat)
  case atStart => exact ⟨R.size, Nat.le_refl _, rfl, by first | (rw [HBS.out.1]; done) | (rw [HBS.out.1]; rfl), by first | (rw [HBS.out.2]; done) | (rw [HBS.out.2]; rfl), rfl⟩
  case round =>
    obtain ⟨a, ha, rfl, rfl, rfl, hwr⟩ := hrel
    subst hwr
    cases a with
    | zero =>
      rw [HB0.out.2, HCC.out]
      obtain ⟨⟨zc0, zc1, zc2⟩, zf0, zf1, zf2⟩ := HK.out.below (Below.refl _ _)
      have HD := Aside0.mk (r3_done (neg := false) HW.out HGE.out HK.out (Below.refl _ _) (Nu_nil _) (Nu_nil _))
      go_wp2_with fail
      exact bodyPost_ret (v := .tuple #[.agg #[.bool false, .slice none 0 0, .slice none 0 0], .int .i64 4]) (by simp [results, Tryz.results28, go_sem, *]) rfl (read_badW (c := 4) HQ.out (by decide) HD.out)
    | succ a =>
      have hidx := HIX.out a (by omega)
      have hsub : (a : Int) + 1 - 1 = (a : Int) := by omega
      have ha5 := HRZ.out
      obtain ⟨n, hn⟩ : ∃ n, n = (Q.getD a 0).toNat := ⟨_, rfl⟩
      rw [← hn] at hidx
      obtain ⟨cn, hcn⟩ : ∃ c, c = cntB Q (a + 1) := ⟨_, rfl⟩
      have hcl : cn ≤ 100000 := by rw [hcn]; have h1 := HCN.out (a + 1); have h2 := HQL.out; omega
      obtain ⟨kn, hkn⟩ : ∃ c, c = kIdx Q (a + 1) := ⟨_, rfl⟩
      rw [← hcn, ← hkn]
      have HCNN := Aside0.mk hcn
      have HKN := Aside0.mk hkn
      have HN := Aside0.mk hn
      clear hcn hkn hn
      by_cases hh : Q.getD a 0 = 47
      · have hbh : ((n : Int) == 47) = true := by rw [beq_iff_eq, HN.out, hh]; rfl
        have HST := Aside0.mk (back_hit (by rw [HQL.out]; omega) hh)
        clear hh
        go_wp2_with fail
        go_roundw
        case rel => exact ⟨a, by omega, rfl, by rw [HST.out.1], by rw [HST.out.2, ← HCNN.out]; rfl, by first | rfl | trivial⟩
        case measure => first | (simp [intOf]; done) | (simp [intOf]; omega)
      · have hbh : ((n : Int) == 47) = false := by
          rw [beq_eq_false_iff_ne, HN.out]
          intro e
          refine hh (UInt8.toNat_inj.1 ?_)
          have e2 : (47 : UInt8).toNat = 47 := rfl
          rw [e2]; omega
        have HST := Aside0.mk (back_miss (by rw [HQL.out]; omega) hh)
        clear hh
        go_wp2_with fail
        go_roundw
        case rel => exact ⟨a, by omega, rfl, by rw [HST.out.1, ← HKN.out], by rw [HST.out.2, ← HCNN.out], by first | rfl | trivial⟩
        case measure => first | (simp [intOf]; done) | (simp [intOf]; omega)
set_option maxHeartbeats 8000000 in
set_option maxRecDepth 100000 in
theorem sparse_pos_one_bad {w : World} {s R : ByteArray} {g : Bool} {l Q : List UInt8} (hl : l = s.data.toList) (hQ : Q = qrest l) (hqn : qneg l = g) (hRd : R.data.toList = Q) (hz : s.size ≤ 100000) (hp : 0 < s.size) (hc : ¬ s.data.toList.getD 0 0 = 45) (hR : R = s) (hg : g = false) (h : Q.count 47 = 0) (hc0 : pcode (hdS Q) ≠ 0) :
    Calls Tryz.prog 28 #[.string s] w (ReadPost w l) := by
  have hQl : Q.length = R.size := by rw [← hRd, data_length]
  have hRz : R.size ≤ 100000 := by rw [hR]; first | (rw [ByteArray.size_extract]; omega) | exact hz
  have ht : s.toList = s.data.toList := Go.Lib.toList_data s
  have hne : s.data.toList ≠ [] := fun h => by have := data_length s; rw [h] at this; simp at this; omega
  have g1 : ¬ s.toList = [] := by rw [ht]; exact hne
  have g2 : s.toList.isEmpty = false := by rw [ht]; simpa using hne
  obtain ⟨c0, hc0e⟩ : ∃ c, c = s.data.toList.getD 0 0 := ⟨_, rfl⟩
  rw [← hc0e] at hc
  obtain ⟨n0, hn0⟩ : ∃ n, n = c0.toNat := ⟨_, rfl⟩
  have hidx0 : ∀ W : World, (Instr.index 9 (.string s) (.int .i64 0)).run Tryz.prog W = .ok (.int .u8 (n0 : Int)) W := fun W => by
    have h0 : (0 : Int) ≤ (0 : Int) ∧ (0 : Int) < s.size := by omega
    rw [run_index_string W _ s _ _ Tryz.underlying9, dif_pos h0, hn0, hc0e, List.getD_eq_getElem?_getD, List.getElem?_eq_getElem (by rw [data_length]; exact hp)]
    rfl
  have hb0 : ((n0 : Int) == 45) = false := by
    rw [beq_eq_false_iff_ne, hn0]
    intro e
    refine hc (UInt8.toNat_inj.1 ?_)
    have e2 : (45 : UInt8).toNat = 45 := rfl
    rw [e2]; omega
  clear ht hne hc0e hn0 hc hp
  obtain ⟨W0, a0, hW0, e0, HK, HW, HGE⟩ := res1 w 24
  have hmem : ¬ (47 : UInt8) ∈ Q := by exact List.count_eq_zero.1 h
  have hnm : ¬ 1 < Q.count 47 := by omega
  have HQ := Aside0.mk (show qcode l = pcode (hdS Q) by unfold qcode; rw [← hQ, if_neg hnm, if_pos hc0])
  obtain ⟨pb, hpb⟩ : ∃ q, q = pcode (hdS Q) := ⟨_, rfl⟩
  have HP := Aside0.mk (show pb ≠ 0 by rw [hpb]; exact hc0)
  rw [← hpb] at HQ
  have hbb : ((pb : Int) != 0) = true := by rw [bne_iff_ne]; have := HP.out; omega
  have hbe : ((pb : Int) == 0) = false := by rw [beq_eq_false_iff_ne]; have := HP.out; omega
  obtain ⟨K, hK⟩ : ∃ k, k = (hdS Q).length := ⟨_, rfl⟩
  have hKl : K ≤ R.size := by rw [hK, ← hQl]; exact hd_le Q
  obtain ⟨t0, ht0⟩ : ∃ t, t = R.extract 0 K := ⟨_, rfl⟩
  have hd0 : t0.data.toList = hdS Q := by rw [ht0, Go.Lib.extract_from_zero, hRd, hK]; exact take_hd Q
  have hz0 : t0.size ≤ 100000 := by rw [ht0, ByteArray.size_extract]; omega
  have hx0 : ∀ W : World, (Instr.slice 9 (.string R) none (some (.int .i64 (K : Int))) none).run Tryz.prog W = .ok (.string t0) W := fun W => by rw [run_slice_string_h W 9 R Tryz.underlying9 .i64 (K : Int) (by omega) (by omega), ht0]; simp
  clear ht0
  obtain ⟨p0, hp_0⟩ : ∃ q, q = pnum (hdS Q) := ⟨_, rfl⟩
  have BP0 := Aside0.mk (show p0 < pw 50 by rw [hp_0]; exact pnum_lt _)
  have HA0 := Aside0.mk (fun (W : World) => show Calls Tryz.prog 53 #[.string t0] W (NuPost2 W p0 (pb : Int)) from (rparse_w t0 W (by omega)).mono fun e w' h => by
    obtain ⟨v, h1, h2, h3⟩ := h
    rw [hd0, ← hpb] at h1
    rw [hd0, ← hp_0] at h2
    exact ⟨v, h1, h2, h3⟩)
  have hB := back_end Q
  have HB0 := Aside0.mk (And.intro hB.1 hB.2)
  have hbs := back_start Q
  rw [hQl] at hbs
  have HBS := Aside0.mk hbs
  have HIX := Aside0.mk (fun (a : Nat) (h : a < R.size) (W : World) => show (Instr.index 9 (.string R) (.int .i64 (a : Int))).run Tryz.prog W = .ok (.int .u8 ((Q.getD a 0).toNat : Int)) W from by
    have h0 : (0 : Int) ≤ (a : Int) ∧ (a : Int) < R.size := by omega
    rw [run_index_string W _ R _ _ Tryz.underlying9, dif_pos h0, ← hRd, List.getD_eq_getElem?_getD, List.getElem?_eq_getElem (by rw [data_length]; exact h)]
    rfl)
  have HQL := Aside0.mk hQl
  have HCN := Aside0.mk (cntB_le Q)
  have HCC := Aside0.mk h
  have HKK := Aside0.mk hK.symm
  clear h hK
  have HRZ := Aside0.mk hRz
  subst hg
  subst hR
  try clear hl
  try clear hQ
  try clear hqn
  try clear hRd
  try clear hz
  try clear hR
  try clear hQl
  try clear hB
  try clear hbs
  try clear hmem
  try clear hnm
  try clear hd0
  try clear hz0
  try clear hc0
  try clear hp_0
  try clear hpb
  go_enter Tryz.func28, Tryz.ntmps28
  go_wp2_with fail
  rw [← hW0, ← e0]
  clear hW0 e0
  clear g1 g2 hidx0 hb0
  go_loopw [5, 6, 7] (fun kk nn i wr => ∃ (a : Nat), a ≤ R.size ∧ i = .int .i64 (a : Int) ∧ kk = .int .i64 (kIdx Q a : Int) ∧ nn = .int .i64 (cntB Q a : Int) ∧ W0 = wr) (fun _ _ i _ => (intOf i).toNat)
  case atStart => exact ⟨R.size, Nat.le_refl _, rfl, by first | (rw [HBS.out.1]; done) | (rw [HBS.out.1]; rfl), by first | (rw [HBS.out.2]; done) | (rw [HBS.out.2]; rfl), rfl⟩
  case round =>
    obtain ⟨a, ha, rfl, rfl, rfl, hwr⟩ := hrel
    subst hwr
    cases a with
    | zero =>
      rw [HB0.out.1, HB0.out.2, HCC.out, HKK.out]
      go_wp2_with fail
      refine (HA0.out _).mono ?_
      rintro e w1 ⟨v0, rfl, hN0, hB1⟩
      have HB1 := Aside0.mk hB1
      clear hN0 hB1
      obtain ⟨⟨zc0, zc1, zc2⟩, zf0, zf1, zf2⟩ := HK.out.below HB1.out
      have HD := Aside0.mk (r3_done (neg := false) HW.out HGE.out HK.out HB1.out (Nu_nil _) (Nu_nil _))
      go_wp2_with fail
      exact bodyPost_ret (v := .tuple #[.agg #[.bool false, .slice none 0 0, .slice none 0 0], .int .i64 pb]) (by simp [results, Tryz.results28, go_sem, *]) rfl (read_badW (c := pb) HQ.out HP.out HD.out)
    | succ a =>
      have hidx := HIX.out a (by omega)
      have hsub : (a : Int) + 1 - 1 = (a : Int) := by omega
      have ha5 := HRZ.out
      obtain ⟨n, hn⟩ : ∃ n, n = (Q.getD a 0).toNat := ⟨_, rfl⟩
      rw [← hn] at hidx
      obtain ⟨cn, hcn⟩ : ∃ c, c = cntB Q (a + 1) := ⟨_, rfl⟩
      have hcl : cn ≤ 100000 := by rw [hcn]; have h1 := HCN.out (a + 1); have h2 := HQL.out; omega
      obtain ⟨kn, hkn⟩ : ∃ c, c = kIdx Q (a + 1) := ⟨_, rfl⟩
      rw [← hcn, ← hkn]
      have HCNN := Aside0.mk hcn
      have HKN := Aside0.mk hkn
      have HN := Aside0.mk hn
      clear hcn hkn hn
      by_cases hh : Q.getD a 0 = 47
      · have hbh : ((n : Int) == 47) = true := by rw [beq_iff_eq, HN.out, hh]; rfl
        have HST := Aside0.mk (back_hit (by rw [HQL.out]; omega) hh)
        clear hh
        go_wp2_with fail
        go_roundw
        case rel => exact ⟨a, by omega, rfl, by rw [HST.out.1], by rw [HST.out.2, ← HCNN.out]; rfl, by first | rfl | trivial⟩
        case measure => first | (simp [intOf]; done) | (simp [intOf]; omega)
      · have hbh : ((n : Int) == 47) = false := by
          rw [beq_eq_false_iff_ne, HN.out]
          intro e
          refine hh (UInt8.toNat_inj.1 ?_)
          have e2 : (47 : UInt8).toNat = 47 := rfl
          rw [e2]; omega
        have HST := Aside0.mk (back_miss (by rw [HQL.out]; omega) hh)
        clear hh
        go_wp2_with fail
        go_roundw
        case rel => exact ⟨a, by omega, rfl, by rw [HST.out.1, ← HKN.out], by rw [HST.out.2, ← HCNN.out], by first | rfl | trivial⟩
        case measure => first | (simp [intOf]; done) | (simp [intOf]; omega)
set_option maxHeartbeats 8000000 in
set_option maxRecDepth 100000 in
theorem sparse_pos_one {w : World} {s R : ByteArray} {g : Bool} {l Q : List UInt8} (hl : l = s.data.toList) (hQ : Q = qrest l) (hqn : qneg l = g) (hRd : R.data.toList = Q) (hz : s.size ≤ 100000) (hp : 0 < s.size) (hc : ¬ s.data.toList.getD 0 0 = 45) (hR : R = s) (hg : g = false) (h : Q.count 47 = 0) (hc0 : pcode (hdS Q) = 0) :
    Calls Tryz.prog 28 #[.string s] w (ReadPost w l) := by
  have hQl : Q.length = R.size := by rw [← hRd, data_length]
  have hRz : R.size ≤ 100000 := by rw [hR]; first | (rw [ByteArray.size_extract]; omega) | exact hz
  have ht : s.toList = s.data.toList := Go.Lib.toList_data s
  have hne : s.data.toList ≠ [] := fun h => by have := data_length s; rw [h] at this; simp at this; omega
  have g1 : ¬ s.toList = [] := by rw [ht]; exact hne
  have g2 : s.toList.isEmpty = false := by rw [ht]; simpa using hne
  obtain ⟨c0, hc0e⟩ : ∃ c, c = s.data.toList.getD 0 0 := ⟨_, rfl⟩
  rw [← hc0e] at hc
  obtain ⟨n0, hn0⟩ : ∃ n, n = c0.toNat := ⟨_, rfl⟩
  have hidx0 : ∀ W : World, (Instr.index 9 (.string s) (.int .i64 0)).run Tryz.prog W = .ok (.int .u8 (n0 : Int)) W := fun W => by
    have h0 : (0 : Int) ≤ (0 : Int) ∧ (0 : Int) < s.size := by omega
    rw [run_index_string W _ s _ _ Tryz.underlying9, dif_pos h0, hn0, hc0e, List.getD_eq_getElem?_getD, List.getElem?_eq_getElem (by rw [data_length]; exact hp)]
    rfl
  have hb0 : ((n0 : Int) == 45) = false := by
    rw [beq_eq_false_iff_ne, hn0]
    intro e
    refine hc (UInt8.toNat_inj.1 ?_)
    have e2 : (45 : UInt8).toNat = 45 := rfl
    rw [e2]; omega
  clear ht hne hc0e hn0 hc hp
  obtain ⟨W0, a0, hW0, e0, HK, HW, HGE⟩ := res1 w 24
  have hmem : ¬ (47 : UInt8) ∈ Q := by exact List.count_eq_zero.1 h
  have hnm : ¬ 1 < Q.count 47 := by omega
  have HQ := Aside0.mk (show qcode l = if qden l = 0 then 5 else 0 by unfold qcode; rw [← hQ, if_neg hnm, if_neg (fun h2 => h2 hc0), if_neg (fun h2 => hmem h2.1)])
  have HDN := Aside0.mk (show qden l = 1 by unfold qden; rw [← hQ, if_neg hmem])
  obtain ⟨K, hK⟩ : ∃ k, k = (hdS Q).length := ⟨_, rfl⟩
  have hKl : K ≤ R.size := by rw [hK, ← hQl]; exact hd_le Q
  obtain ⟨t0, ht0⟩ : ∃ t, t = R.extract 0 K := ⟨_, rfl⟩
  have hd0 : t0.data.toList = hdS Q := by rw [ht0, Go.Lib.extract_from_zero, hRd, hK]; exact take_hd Q
  have hz0 : t0.size ≤ 100000 := by rw [ht0, ByteArray.size_extract]; omega
  have hx0 : ∀ W : World, (Instr.slice 9 (.string R) none (some (.int .i64 (K : Int))) none).run Tryz.prog W = .ok (.string t0) W := fun W => by rw [run_slice_string_h W 9 R Tryz.underlying9 .i64 (K : Int) (by omega) (by omega), ht0]; simp
  clear ht0
  obtain ⟨p0, hp_0⟩ : ∃ q, q = pnum (hdS Q) := ⟨_, rfl⟩
  have BP0 := Aside0.mk (show p0 < pw 50 by rw [hp_0]; exact pnum_lt _)
  have HA0 := Aside0.mk (fun (W : World) => show Calls Tryz.prog 53 #[.string t0] W (NuPost2 W p0 0) from (rparse_w t0 W (by omega)).mono fun e w' h => by
    obtain ⟨v, h1, h2, h3⟩ := h
    rw [hd0, hc0] at h1
    rw [hd0, ← hp_0] at h2
    exact ⟨v, h1, h2, h3⟩)
  have HNN := Aside0.mk (show qnum l = p0 by rw [hp_0, hQ]; rfl)
  have HDD := HDN
  rw [read_mk HQ.out, HNN.out, HDD.out, hqn]
  obtain ⟨Bq, Nq, Dq, kq, hmk⟩ := mk_form g p0 1
  have HMK := Aside0.mk (fun (W : World) (vn vd : Value) (hn : Nu W vn p0) (hd : Nu W vd 1) => show Calls Tryz.prog 32 #[.bool g, vn, vd] W (R3PostE W Bq Nq Dq kq) from (sMkX g hn hd BP0.out one_lt50).mono fun e w' h => by rw [hmk] at h; exact h)
  rw [show MkPost w g p0 1 = R3PostE w Bq Nq Dq kq from funext fun e => funext fun w' => hmk w e w']
  have H1 : Aside0 (∀ W : World, Calls Tryz.prog 34 #[] W (NuPost W 1)) := ⟨fun W => sone_w W⟩
  clear hmk HQ HDN HNN HDD
  have hB := back_end Q
  have HB0 := Aside0.mk (And.intro hB.1 hB.2)
  have hbs := back_start Q
  rw [hQl] at hbs
  have HBS := Aside0.mk hbs
  have HIX := Aside0.mk (fun (a : Nat) (h : a < R.size) (W : World) => show (Instr.index 9 (.string R) (.int .i64 (a : Int))).run Tryz.prog W = .ok (.int .u8 ((Q.getD a 0).toNat : Int)) W from by
    have h0 : (0 : Int) ≤ (a : Int) ∧ (a : Int) < R.size := by omega
    rw [run_index_string W _ R _ _ Tryz.underlying9, dif_pos h0, ← hRd, List.getD_eq_getElem?_getD, List.getElem?_eq_getElem (by rw [data_length]; exact h)]
    rfl)
  have HQL := Aside0.mk hQl
  have HCN := Aside0.mk (cntB_le Q)
  have HCC := Aside0.mk h
  have HKK := Aside0.mk hK.symm
  clear h hK
  have HRZ := Aside0.mk hRz
  subst hg
  subst hR
  try clear hl
  try clear hQ
  try clear hqn
  try clear hRd
  try clear hz
  try clear hR
  try clear hQl
  try clear hB
  try clear hbs
  try clear hmem
  try clear hnm
  try clear hd0
  try clear hz0
  try clear hc0
  try clear hp_0
  go_enter Tryz.func28, Tryz.ntmps28
  go_wp2_with fail
  rw [← hW0, ← e0]
  clear hW0 e0
  clear g1 g2 hidx0 hb0
  go_loopw [5, 6, 7] (fun kk nn i wr => ∃ (a : Nat), a ≤ R.size ∧ i = .int .i64 (a : Int) ∧ kk = .int .i64 (kIdx Q a : Int) ∧ nn = .int .i64 (cntB Q a : Int) ∧ W0 = wr) (fun _ _ i _ => (intOf i).toNat)
  case atStart => exact ⟨R.size, Nat.le_refl _, rfl, by first | (rw [HBS.out.1]; done) | (rw [HBS.out.1]; rfl), by first | (rw [HBS.out.2]; done) | (rw [HBS.out.2]; rfl), rfl⟩
  case round =>
    obtain ⟨a, ha, rfl, rfl, rfl, hwr⟩ := hrel
    subst hwr
    cases a with
    | zero =>
      rw [HB0.out.1, HB0.out.2, HCC.out, HKK.out]
      go_wp2_with fail
      refine (HA0.out _).mono ?_
      rintro e w1 ⟨v0, rfl, hN0, hB1⟩
      have HB1 := Aside0.mk hB1
      have HN0 := Aside0.mk hN0
      clear hN0 hB1
      go_wp2_with fail
      refine (H1.out _).mono ?_
      rintro e w2 ⟨v1, rfl, hN1, hB2⟩
      have HB2 := Aside0.mk (HB1.out.trans (hB2.mono HB1.out.size))
      have HN02 := Aside0.mk (HN0.out.below hB2)
      have HN1 := Aside0.mk hN1
      clear hN1 hB2
      go_wp2_with fail
      refine (HMK.out _ _ _ HN02.out HN1.out).mono ?_
      rintro e w7 ⟨v7, rfl, ⟨A7, L7, c7, A8, L8, c8, rfl, h7, h8⟩, hB7⟩
      have HB7 := Aside0.mk (HB2.out.trans (hB7.mono HB2.out.size))
      have HD7 := Aside0.mk (r3_done (neg := Bq) HW.out HGE.out HK.out HB7.out h7 h8)
      obtain ⟨⟨zc0, zc1, zc2⟩, zf0, zf1, zf2⟩ := HK.out.below HB7.out
      clear h7 h8 hB7
      go_wp2_with fail
      exact bodyPost_ret (v := .tuple #[.agg #[.bool Bq, .slice A7 L7 c7, .slice A8 L8 c8], .int .i64 kq]) (by simp [results, Tryz.results28, go_sem, *]) rfl (r3_postE HD7.out)
    | succ a =>
      have hidx := HIX.out a (by omega)
      have hsub : (a : Int) + 1 - 1 = (a : Int) := by omega
      have ha5 := HRZ.out
      obtain ⟨n, hn⟩ : ∃ n, n = (Q.getD a 0).toNat := ⟨_, rfl⟩
      rw [← hn] at hidx
      obtain ⟨cn, hcn⟩ : ∃ c, c = cntB Q (a + 1) := ⟨_, rfl⟩
      have hcl : cn ≤ 100000 := by rw [hcn]; have h1 := HCN.out (a + 1); have h2 := HQL.out; omega
      obtain ⟨kn, hkn⟩ : ∃ c, c = kIdx Q (a + 1) := ⟨_, rfl⟩
      rw [← hcn, ← hkn]
      have HCNN := Aside0.mk hcn
      have HKN := Aside0.mk hkn
      have HN := Aside0.mk hn
      clear hcn hkn hn
      by_cases hh : Q.getD a 0 = 47
      · have hbh : ((n : Int) == 47) = true := by rw [beq_iff_eq, HN.out, hh]; rfl
        have HST := Aside0.mk (back_hit (by rw [HQL.out]; omega) hh)
        clear hh
        go_wp2_with fail
        go_roundw
        case rel => exact ⟨a, by omega, rfl, by rw [HST.out.1], by rw [HST.out.2, ← HCNN.out]; rfl, by first | rfl | trivial⟩
        case measure => first | (simp [intOf]; done) | (simp [intOf]; omega)
      · have hbh : ((n : Int) == 47) = false := by
          rw [beq_eq_false_iff_ne, HN.out]
          intro e
          refine hh (UInt8.toNat_inj.1 ?_)
          have e2 : (47 : UInt8).toNat = 47 := rfl
          rw [e2]; omega
        have HST := Aside0.mk (back_miss (by rw [HQL.out]; omega) hh)
        clear hh
        go_wp2_with fail
        go_roundw
        case rel => exact ⟨a, by omega, rfl, by rw [HST.out.1, ← HKN.out], by rw [HST.out.2, ← HCNN.out], by first | rfl | trivial⟩
        case measure => first | (simp [intOf]; done) | (simp [intOf]; omega)
set_option maxHeartbeats 8000000 in
set_option maxRecDepth 100000 in
theorem sparse_pos_two_bad0 {w : World} {s R : ByteArray} {g : Bool} {l Q : List UInt8} (hl : l = s.data.toList) (hQ : Q = qrest l) (hqn : qneg l = g) (hRd : R.data.toList = Q) (hz : s.size ≤ 100000) (hp : 0 < s.size) (hc : ¬ s.data.toList.getD 0 0 = 45) (hR : R = s) (hg : g = false) (h : Q.count 47 = 1) (hc0 : pcode (hdS Q) ≠ 0) :
    Calls Tryz.prog 28 #[.string s] w (ReadPost w l) := by
  have hQl : Q.length = R.size := by rw [← hRd, data_length]
  have hRz : R.size ≤ 100000 := by rw [hR]; first | (rw [ByteArray.size_extract]; omega) | exact hz
  have ht : s.toList = s.data.toList := Go.Lib.toList_data s
  have hne : s.data.toList ≠ [] := fun h => by have := data_length s; rw [h] at this; simp at this; omega
  have g1 : ¬ s.toList = [] := by rw [ht]; exact hne
  have g2 : s.toList.isEmpty = false := by rw [ht]; simpa using hne
  obtain ⟨c0, hc0e⟩ : ∃ c, c = s.data.toList.getD 0 0 := ⟨_, rfl⟩
  rw [← hc0e] at hc
  obtain ⟨n0, hn0⟩ : ∃ n, n = c0.toNat := ⟨_, rfl⟩
  have hidx0 : ∀ W : World, (Instr.index 9 (.string s) (.int .i64 0)).run Tryz.prog W = .ok (.int .u8 (n0 : Int)) W := fun W => by
    have h0 : (0 : Int) ≤ (0 : Int) ∧ (0 : Int) < s.size := by omega
    rw [run_index_string W _ s _ _ Tryz.underlying9, dif_pos h0, hn0, hc0e, List.getD_eq_getElem?_getD, List.getElem?_eq_getElem (by rw [data_length]; exact hp)]
    rfl
  have hb0 : ((n0 : Int) == 45) = false := by
    rw [beq_eq_false_iff_ne, hn0]
    intro e
    refine hc (UInt8.toNat_inj.1 ?_)
    have e2 : (45 : UInt8).toNat = 45 := rfl
    rw [e2]; omega
  clear ht hne hc0e hn0 hc hp
  obtain ⟨W0, a0, hW0, e0, HK, HW, HGE⟩ := res1 w 24
  have hmem : (47 : UInt8) ∈ Q := by apply Classical.byContradiction; intro h2; rw [List.count_eq_zero.2 h2] at h; omega
  have hnm : ¬ 1 < Q.count 47 := by omega
  have HQ := Aside0.mk (show qcode l = pcode (hdS Q) by unfold qcode; rw [← hQ, if_neg hnm, if_pos hc0])
  obtain ⟨pb, hpb⟩ : ∃ q, q = pcode (hdS Q) := ⟨_, rfl⟩
  have HP := Aside0.mk (show pb ≠ 0 by rw [hpb]; exact hc0)
  rw [← hpb] at HQ
  have hbb : ((pb : Int) != 0) = true := by rw [bne_iff_ne]; have := HP.out; omega
  have hbe : ((pb : Int) == 0) = false := by rw [beq_eq_false_iff_ne]; have := HP.out; omega
  obtain ⟨K, hK⟩ : ∃ k, k = (hdS Q).length := ⟨_, rfl⟩
  have hKl : K ≤ R.size := by rw [hK, ← hQl]; exact hd_le Q
  obtain ⟨t0, ht0⟩ : ∃ t, t = R.extract 0 K := ⟨_, rfl⟩
  have hd0 : t0.data.toList = hdS Q := by rw [ht0, Go.Lib.extract_from_zero, hRd, hK]; exact take_hd Q
  have hz0 : t0.size ≤ 100000 := by rw [ht0, ByteArray.size_extract]; omega
  have hx0 : ∀ W : World, (Instr.slice 9 (.string R) none (some (.int .i64 (K : Int))) none).run Tryz.prog W = .ok (.string t0) W := fun W => by rw [run_slice_string_h W 9 R Tryz.underlying9 .i64 (K : Int) (by omega) (by omega), ht0]; simp
  have hKs : K + 1 ≤ R.size := by have h2 := (drop_hd hmem).1; omega
  obtain ⟨t1, ht1⟩ : ∃ t, t = R.extract (K + 1) R.size := ⟨_, rfl⟩
  have hd1 : t1.data.toList = tlS Q := by rw [ht1, Go.Lib.extract_to_end, hRd, hK]; exact (drop_hd hmem).2
  have hz1 : t1.size ≤ 100000 := by rw [ht1, ByteArray.size_extract]; omega
  have hx1 : ∀ W : World, (Instr.slice 9 (.string R) (some (.int .i64 ((K : Int) + 1))) none none).run Tryz.prog W = .ok (.string t1) W := fun W => by rw [run_slice_string_l W 9 R Tryz.underlying9 .i64 ((K : Int) + 1) (by omega) (by omega), ht1]; simp
  clear ht1
  clear ht0
  obtain ⟨p0, hp_0⟩ : ∃ q, q = pnum (hdS Q) := ⟨_, rfl⟩
  have BP0 := Aside0.mk (show p0 < pw 50 by rw [hp_0]; exact pnum_lt _)
  have HA0 := Aside0.mk (fun (W : World) => show Calls Tryz.prog 53 #[.string t0] W (NuPost2 W p0 (pb : Int)) from (rparse_w t0 W (by omega)).mono fun e w' h => by
    obtain ⟨v, h1, h2, h3⟩ := h
    rw [hd0, ← hpb] at h1
    rw [hd0, ← hp_0] at h2
    exact ⟨v, h1, h2, h3⟩)
  have hB := back_end Q
  have HB0 := Aside0.mk (And.intro hB.1 hB.2)
  have hbs := back_start Q
  rw [hQl] at hbs
  have HBS := Aside0.mk hbs
  have HIX := Aside0.mk (fun (a : Nat) (h : a < R.size) (W : World) => show (Instr.index 9 (.string R) (.int .i64 (a : Int))).run Tryz.prog W = .ok (.int .u8 ((Q.getD a 0).toNat : Int)) W from by
    have h0 : (0 : Int) ≤ (a : Int) ∧ (a : Int) < R.size := by omega
    rw [run_index_string W _ R _ _ Tryz.underlying9, dif_pos h0, ← hRd, List.getD_eq_getElem?_getD, List.getElem?_eq_getElem (by rw [data_length]; exact h)]
    rfl)
  have HQL := Aside0.mk hQl
  have HCN := Aside0.mk (cntB_le Q)
  have HCC := Aside0.mk h
  have HKK := Aside0.mk hK.symm
  clear h hK
  have HRZ := Aside0.mk hRz
  subst hg
  subst hR
  try clear hl
  try clear hQ
  try clear hqn
  try clear hRd
  try clear hz
  try clear hR
  try clear hQl
  try clear hB
  try clear hbs
  try clear hmem
  try clear hnm
  try clear hd0
  try clear hz0
  try clear hd1
  try clear hz1
  try clear hc0
  try clear hp_0
  try clear hpb
  go_enter Tryz.func28, Tryz.ntmps28
  go_wp2_with fail
  rw [← hW0, ← e0]
  clear hW0 e0
  clear g1 g2 hidx0 hb0
  go_loopw [5, 6, 7] (fun kk nn i wr => ∃ (a : Nat), a ≤ R.size ∧ i = .int .i64 (a : Int) ∧ kk = .int .i64 (kIdx Q a : Int) ∧ nn = .int .i64 (cntB Q a : Int) ∧ W0 = wr) (fun _ _ i _ => (intOf i).toNat)
  case atStart => exact ⟨R.size, Nat.le_refl _, rfl, by first | (rw [HBS.out.1]; done) | (rw [HBS.out.1]; rfl), by first | (rw [HBS.out.2]; done) | (rw [HBS.out.2]; rfl), rfl⟩
  case round =>
    obtain ⟨a, ha, rfl, rfl, rfl, hwr⟩ := hrel
    subst hwr
    cases a with
    | zero =>
      rw [HB0.out.1, HB0.out.2, HCC.out, HKK.out]
      go_wp2_with fail
      refine (HA0.out _).mono ?_
      rintro e w1 ⟨v0, rfl, hN0, hB1⟩
      have HB1 := Aside0.mk hB1
      clear hN0 hB1
      obtain ⟨⟨zc0, zc1, zc2⟩, zf0, zf1, zf2⟩ := HK.out.below HB1.out
      have HD := Aside0.mk (r3_done (neg := false) HW.out HGE.out HK.out HB1.out (Nu_nil _) (Nu_nil _))
      go_wp2_with fail
      exact bodyPost_ret (v := .tuple #[.agg #[.bool false, .slice none 0 0, .slice none 0 0], .int .i64 pb]) (by simp [results, Tryz.results28, go_sem, *]) rfl (read_badW (c := pb) HQ.out HP.out HD.out)
    | succ a =>
      have hidx := HIX.out a (by omega)
      have hsub : (a : Int) + 1 - 1 = (a : Int) := by omega
      have ha5 := HRZ.out
      obtain ⟨n, hn⟩ : ∃ n, n = (Q.getD a 0).toNat := ⟨_, rfl⟩
      rw [← hn] at hidx
      obtain ⟨cn, hcn⟩ : ∃ c, c = cntB Q (a + 1) := ⟨_, rfl⟩
      have hcl : cn ≤ 100000 := by rw [hcn]; have h1 := HCN.out (a + 1); have h2 := HQL.out; omega
      obtain ⟨kn, hkn⟩ : ∃ c, c = kIdx Q (a + 1) := ⟨_, rfl⟩
      rw [← hcn, ← hkn]
      have HCNN := Aside0.mk hcn
      have HKN := Aside0.mk hkn
      have HN := Aside0.mk hn
      clear hcn hkn hn
      by_cases hh : Q.getD a 0 = 47
      · have hbh : ((n : Int) == 47) = true := by rw [beq_iff_eq, HN.out, hh]; rfl
        have HST := Aside0.mk (back_hit (by rw [HQL.out]; omega) hh)
        clear hh
        go_wp2_with fail
        go_roundw
        case rel => exact ⟨a, by omega, rfl, by rw [HST.out.1], by rw [HST.out.2, ← HCNN.out]; rfl, by first | rfl | trivial⟩
        case measure => first | (simp [intOf]; done) | (simp [intOf]; omega)
      · have hbh : ((n : Int) == 47) = false := by
          rw [beq_eq_false_iff_ne, HN.out]
          intro e
          refine hh (UInt8.toNat_inj.1 ?_)
          have e2 : (47 : UInt8).toNat = 47 := rfl
          rw [e2]; omega
        have HST := Aside0.mk (back_miss (by rw [HQL.out]; omega) hh)
        clear hh
        go_wp2_with fail
        go_roundw
        case rel => exact ⟨a, by omega, rfl, by rw [HST.out.1, ← HKN.out], by rw [HST.out.2, ← HCNN.out], by first | rfl | trivial⟩
        case measure => first | (simp [intOf]; done) | (simp [intOf]; omega)
set_option maxHeartbeats 8000000 in
set_option maxRecDepth 100000 in
theorem sparse_pos_two_bad1 {w : World} {s R : ByteArray} {g : Bool} {l Q : List UInt8} (hl : l = s.data.toList) (hQ : Q = qrest l) (hqn : qneg l = g) (hRd : R.data.toList = Q) (hz : s.size ≤ 100000) (hp : 0 < s.size) (hc : ¬ s.data.toList.getD 0 0 = 45) (hR : R = s) (hg : g = false) (h : Q.count 47 = 1) (hc0 : pcode (hdS Q) = 0) (hc1 : pcode (tlS Q) ≠ 0) :
    Calls Tryz.prog 28 #[.string s] w (ReadPost w l) := by
  have hQl : Q.length = R.size := by rw [← hRd, data_length]
  have hRz : R.size ≤ 100000 := by rw [hR]; first | (rw [ByteArray.size_extract]; omega) | exact hz
  have ht : s.toList = s.data.toList := Go.Lib.toList_data s
  have hne : s.data.toList ≠ [] := fun h => by have := data_length s; rw [h] at this; simp at this; omega
  have g1 : ¬ s.toList = [] := by rw [ht]; exact hne
  have g2 : s.toList.isEmpty = false := by rw [ht]; simpa using hne
  obtain ⟨c0, hc0e⟩ : ∃ c, c = s.data.toList.getD 0 0 := ⟨_, rfl⟩
  rw [← hc0e] at hc
  obtain ⟨n0, hn0⟩ : ∃ n, n = c0.toNat := ⟨_, rfl⟩
  have hidx0 : ∀ W : World, (Instr.index 9 (.string s) (.int .i64 0)).run Tryz.prog W = .ok (.int .u8 (n0 : Int)) W := fun W => by
    have h0 : (0 : Int) ≤ (0 : Int) ∧ (0 : Int) < s.size := by omega
    rw [run_index_string W _ s _ _ Tryz.underlying9, dif_pos h0, hn0, hc0e, List.getD_eq_getElem?_getD, List.getElem?_eq_getElem (by rw [data_length]; exact hp)]
    rfl
  have hb0 : ((n0 : Int) == 45) = false := by
    rw [beq_eq_false_iff_ne, hn0]
    intro e
    refine hc (UInt8.toNat_inj.1 ?_)
    have e2 : (45 : UInt8).toNat = 45 := rfl
    rw [e2]; omega
  clear ht hne hc0e hn0 hc hp
  obtain ⟨W0, a0, hW0, e0, HK, HW, HGE⟩ := res1 w 24
  have hmem : (47 : UInt8) ∈ Q := by apply Classical.byContradiction; intro h2; rw [List.count_eq_zero.2 h2] at h; omega
  have hnm : ¬ 1 < Q.count 47 := by omega
  have HQ := Aside0.mk (show qcode l = pcode (tlS Q) by unfold qcode; rw [← hQ, if_neg hnm, if_neg (fun h2 => h2 hc0), if_pos ⟨hmem, hc1⟩])
  obtain ⟨pb, hpb⟩ : ∃ q, q = pcode (tlS Q) := ⟨_, rfl⟩
  have HP := Aside0.mk (show pb ≠ 0 by rw [hpb]; exact hc1)
  rw [← hpb] at HQ
  have hbb : ((pb : Int) != 0) = true := by rw [bne_iff_ne]; have := HP.out; omega
  have hbe : ((pb : Int) == 0) = false := by rw [beq_eq_false_iff_ne]; have := HP.out; omega
  obtain ⟨K, hK⟩ : ∃ k, k = (hdS Q).length := ⟨_, rfl⟩
  have hKl : K ≤ R.size := by rw [hK, ← hQl]; exact hd_le Q
  obtain ⟨t0, ht0⟩ : ∃ t, t = R.extract 0 K := ⟨_, rfl⟩
  have hd0 : t0.data.toList = hdS Q := by rw [ht0, Go.Lib.extract_from_zero, hRd, hK]; exact take_hd Q
  have hz0 : t0.size ≤ 100000 := by rw [ht0, ByteArray.size_extract]; omega
  have hx0 : ∀ W : World, (Instr.slice 9 (.string R) none (some (.int .i64 (K : Int))) none).run Tryz.prog W = .ok (.string t0) W := fun W => by rw [run_slice_string_h W 9 R Tryz.underlying9 .i64 (K : Int) (by omega) (by omega), ht0]; simp
  have hKs : K + 1 ≤ R.size := by have h2 := (drop_hd hmem).1; omega
  obtain ⟨t1, ht1⟩ : ∃ t, t = R.extract (K + 1) R.size := ⟨_, rfl⟩
  have hd1 : t1.data.toList = tlS Q := by rw [ht1, Go.Lib.extract_to_end, hRd, hK]; exact (drop_hd hmem).2
  have hz1 : t1.size ≤ 100000 := by rw [ht1, ByteArray.size_extract]; omega
  have hx1 : ∀ W : World, (Instr.slice 9 (.string R) (some (.int .i64 ((K : Int) + 1))) none none).run Tryz.prog W = .ok (.string t1) W := fun W => by rw [run_slice_string_l W 9 R Tryz.underlying9 .i64 ((K : Int) + 1) (by omega) (by omega), ht1]; simp
  clear ht1
  clear ht0
  obtain ⟨p0, hp_0⟩ : ∃ q, q = pnum (hdS Q) := ⟨_, rfl⟩
  have BP0 := Aside0.mk (show p0 < pw 50 by rw [hp_0]; exact pnum_lt _)
  have HA0 := Aside0.mk (fun (W : World) => show Calls Tryz.prog 53 #[.string t0] W (NuPost2 W p0 0) from (rparse_w t0 W (by omega)).mono fun e w' h => by
    obtain ⟨v, h1, h2, h3⟩ := h
    rw [hd0, hc0] at h1
    rw [hd0, ← hp_0] at h2
    exact ⟨v, h1, h2, h3⟩)
  obtain ⟨p1, hp_1⟩ : ∃ q, q = pnum (tlS Q) := ⟨_, rfl⟩
  have BP1 := Aside0.mk (show p1 < pw 50 by rw [hp_1]; exact pnum_lt _)
  have HA1 := Aside0.mk (fun (W : World) => show Calls Tryz.prog 53 #[.string t1] W (NuPost2 W p1 (pb : Int)) from (rparse_w t1 W (by omega)).mono fun e w' h => by
    obtain ⟨v, h1, h2, h3⟩ := h
    rw [hd1, ← hpb] at h1
    rw [hd1, ← hp_1] at h2
    exact ⟨v, h1, h2, h3⟩)
  have hB := back_end Q
  have HB0 := Aside0.mk (And.intro hB.1 hB.2)
  have hbs := back_start Q
  rw [hQl] at hbs
  have HBS := Aside0.mk hbs
  have HIX := Aside0.mk (fun (a : Nat) (h : a < R.size) (W : World) => show (Instr.index 9 (.string R) (.int .i64 (a : Int))).run Tryz.prog W = .ok (.int .u8 ((Q.getD a 0).toNat : Int)) W from by
    have h0 : (0 : Int) ≤ (a : Int) ∧ (a : Int) < R.size := by omega
    rw [run_index_string W _ R _ _ Tryz.underlying9, dif_pos h0, ← hRd, List.getD_eq_getElem?_getD, List.getElem?_eq_getElem (by rw [data_length]; exact h)]
    rfl)
  have HQL := Aside0.mk hQl
  have HCN := Aside0.mk (cntB_le Q)
  have HCC := Aside0.mk h
  have HKK := Aside0.mk hK.symm
  clear h hK
  have HRZ := Aside0.mk hRz
  subst hg
  subst hR
  try clear hl
  try clear hQ
  try clear hqn
  try clear hRd
  try clear hz
  try clear hR
  try clear hQl
  try clear hB
  try clear hbs
  try clear hmem
  try clear hnm
  try clear hd0
  try clear hz0
  try clear hd1
  try clear hz1
  try clear hc0
  try clear hc1
  try clear hp_0
  try clear hp_1
  try clear hpb
  go_enter Tryz.func28, Tryz.ntmps28
  go_wp2_with fail
  rw [← hW0, ← e0]
  clear hW0 e0
  clear g1 g2 hidx0 hb0
  go_loopw [5, 6, 7] (fun kk nn i wr => ∃ (a : Nat), a ≤ R.size ∧ i = .int .i64 (a : Int) ∧ kk = .int .i64 (kIdx Q a : Int) ∧ nn = .int .i64 (cntB Q a : Int) ∧ W0 = wr) (fun _ _ i _ => (intOf i).toNat)
  case atStart => exact ⟨R.size, Nat.le_refl _, rfl, by first | (rw [HBS.out.1]; done) | (rw [HBS.out.1]; rfl), by first | (rw [HBS.out.2]; done) | (rw [HBS.out.2]; rfl), rfl⟩
  case round =>
    obtain ⟨a, ha, rfl, rfl, rfl, hwr⟩ := hrel
    subst hwr
    cases a with
    | zero =>
      rw [HB0.out.1, HB0.out.2, HCC.out, HKK.out]
      go_wp2_with fail
      refine (HA0.out _).mono ?_
      rintro e w1 ⟨v0, rfl, hN0, hB1⟩
      have HB1 := Aside0.mk hB1
      have HN0 := Aside0.mk hN0
      clear hN0 hB1
      go_wp2_with fail
      refine (HA1.out _).mono ?_
      rintro e w2 ⟨v1, rfl, hN1, hB2⟩
      have HB2 := Aside0.mk (HB1.out.trans (hB2.mono HB1.out.size))
      clear hN1 hB2
      obtain ⟨⟨zc0, zc1, zc2⟩, zf0, zf1, zf2⟩ := HK.out.below HB2.out
      have HD := Aside0.mk (r3_done (neg := false) HW.out HGE.out HK.out HB2.out (Nu_nil _) (Nu_nil _))
      go_wp2_with fail
      exact bodyPost_ret (v := .tuple #[.agg #[.bool false, .slice none 0 0, .slice none 0 0], .int .i64 pb]) (by simp [results, Tryz.results28, go_sem, *]) rfl (read_badW (c := pb) HQ.out HP.out HD.out)
    | succ a =>
      have hidx := HIX.out a (by omega)
      have hsub : (a : Int) + 1 - 1 = (a : Int) := by omega
      have ha5 := HRZ.out
      obtain ⟨n, hn⟩ : ∃ n, n = (Q.getD a 0).toNat := ⟨_, rfl⟩
      rw [← hn] at hidx
      obtain ⟨cn, hcn⟩ : ∃ c, c = cntB Q (a + 1) := ⟨_, rfl⟩
      have hcl : cn ≤ 100000 := by rw [hcn]; have h1 := HCN.out (a + 1); have h2 := HQL.out; omega
      obtain ⟨kn, hkn⟩ : ∃ c, c = kIdx Q (a + 1) := ⟨_, rfl⟩
      rw [← hcn, ← hkn]
      have HCNN := Aside0.mk hcn
      have HKN := Aside0.mk hkn
      have HN := Aside0.mk hn
      clear hcn hkn hn
      by_cases hh : Q.getD a 0 = 47
      · have hbh : ((n : Int) == 47) = true := by rw [beq_iff_eq, HN.out, hh]; rfl
        have HST := Aside0.mk (back_hit (by rw [HQL.out]; omega) hh)
        clear hh
        go_wp2_with fail
        go_roundw
        case rel => exact ⟨a, by omega, rfl, by rw [HST.out.1], by rw [HST.out.2, ← HCNN.out]; rfl, by first | rfl | trivial⟩
        case measure => first | (simp [intOf]; done) | (simp [intOf]; omega)
      · have hbh : ((n : Int) == 47) = false := by
          rw [beq_eq_false_iff_ne, HN.out]
          intro e
          refine hh (UInt8.toNat_inj.1 ?_)
          have e2 : (47 : UInt8).toNat = 47 := rfl
          rw [e2]; omega
        have HST := Aside0.mk (back_miss (by rw [HQL.out]; omega) hh)
        clear hh
        go_wp2_with fail
        go_roundw
        case rel => exact ⟨a, by omega, rfl, by rw [HST.out.1, ← HKN.out], by rw [HST.out.2, ← HCNN.out], by first | rfl | trivial⟩
        case measure => first | (simp [intOf]; done) | (simp [intOf]; omega)
set_option maxHeartbeats 8000000 in
set_option maxRecDepth 100000 in
theorem sparse_pos_two {w : World} {s R : ByteArray} {g : Bool} {l Q : List UInt8} (hl : l = s.data.toList) (hQ : Q = qrest l) (hqn : qneg l = g) (hRd : R.data.toList = Q) (hz : s.size ≤ 100000) (hp : 0 < s.size) (hc : ¬ s.data.toList.getD 0 0 = 45) (hR : R = s) (hg : g = false) (h : Q.count 47 = 1) (hc0 : pcode (hdS Q) = 0) (hc1 : pcode (tlS Q) = 0) :
    Calls Tryz.prog 28 #[.string s] w (ReadPost w l) := by
  have hQl : Q.length = R.size := by rw [← hRd, data_length]
  have hRz : R.size ≤ 100000 := by rw [hR]; first | (rw [ByteArray.size_extract]; omega) | exact hz
  have ht : s.toList = s.data.toList := Go.Lib.toList_data s
  have hne : s.data.toList ≠ [] := fun h => by have := data_length s; rw [h] at this; simp at this; omega
  have g1 : ¬ s.toList = [] := by rw [ht]; exact hne
  have g2 : s.toList.isEmpty = false := by rw [ht]; simpa using hne
  obtain ⟨c0, hc0e⟩ : ∃ c, c = s.data.toList.getD 0 0 := ⟨_, rfl⟩
  rw [← hc0e] at hc
  obtain ⟨n0, hn0⟩ : ∃ n, n = c0.toNat := ⟨_, rfl⟩
  have hidx0 : ∀ W : World, (Instr.index 9 (.string s) (.int .i64 0)).run Tryz.prog W = .ok (.int .u8 (n0 : Int)) W := fun W => by
    have h0 : (0 : Int) ≤ (0 : Int) ∧ (0 : Int) < s.size := by omega
    rw [run_index_string W _ s _ _ Tryz.underlying9, dif_pos h0, hn0, hc0e, List.getD_eq_getElem?_getD, List.getElem?_eq_getElem (by rw [data_length]; exact hp)]
    rfl
  have hb0 : ((n0 : Int) == 45) = false := by
    rw [beq_eq_false_iff_ne, hn0]
    intro e
    refine hc (UInt8.toNat_inj.1 ?_)
    have e2 : (45 : UInt8).toNat = 45 := rfl
    rw [e2]; omega
  clear ht hne hc0e hn0 hc hp
  obtain ⟨W0, a0, hW0, e0, HK, HW, HGE⟩ := res1 w 24
  have hmem : (47 : UInt8) ∈ Q := by apply Classical.byContradiction; intro h2; rw [List.count_eq_zero.2 h2] at h; omega
  have hnm : ¬ 1 < Q.count 47 := by omega
  have HQ := Aside0.mk (show qcode l = if qden l = 0 then 5 else 0 by unfold qcode; rw [← hQ, if_neg hnm, if_neg (fun h2 => h2 hc0), if_neg (fun h2 => h2.2 hc1)])
  have HDN := Aside0.mk (show qden l = pnum (tlS Q) by unfold qden; rw [← hQ, if_pos hmem])
  obtain ⟨K, hK⟩ : ∃ k, k = (hdS Q).length := ⟨_, rfl⟩
  have hKl : K ≤ R.size := by rw [hK, ← hQl]; exact hd_le Q
  obtain ⟨t0, ht0⟩ : ∃ t, t = R.extract 0 K := ⟨_, rfl⟩
  have hd0 : t0.data.toList = hdS Q := by rw [ht0, Go.Lib.extract_from_zero, hRd, hK]; exact take_hd Q
  have hz0 : t0.size ≤ 100000 := by rw [ht0, ByteArray.size_extract]; omega
  have hx0 : ∀ W : World, (Instr.slice 9 (.string R) none (some (.int .i64 (K : Int))) none).run Tryz.prog W = .ok (.string t0) W := fun W => by rw [run_slice_string_h W 9 R Tryz.underlying9 .i64 (K : Int) (by omega) (by omega), ht0]; simp
  have hKs : K + 1 ≤ R.size := by have h2 := (drop_hd hmem).1; omega
  obtain ⟨t1, ht1⟩ : ∃ t, t = R.extract (K + 1) R.size := ⟨_, rfl⟩
  have hd1 : t1.data.toList = tlS Q := by rw [ht1, Go.Lib.extract_to_end, hRd, hK]; exact (drop_hd hmem).2
  have hz1 : t1.size ≤ 100000 := by rw [ht1, ByteArray.size_extract]; omega
  have hx1 : ∀ W : World, (Instr.slice 9 (.string R) (some (.int .i64 ((K : Int) + 1))) none none).run Tryz.prog W = .ok (.string t1) W := fun W => by rw [run_slice_string_l W 9 R Tryz.underlying9 .i64 ((K : Int) + 1) (by omega) (by omega), ht1]; simp
  clear ht1
  clear ht0
  obtain ⟨p0, hp_0⟩ : ∃ q, q = pnum (hdS Q) := ⟨_, rfl⟩
  have BP0 := Aside0.mk (show p0 < pw 50 by rw [hp_0]; exact pnum_lt _)
  have HA0 := Aside0.mk (fun (W : World) => show Calls Tryz.prog 53 #[.string t0] W (NuPost2 W p0 0) from (rparse_w t0 W (by omega)).mono fun e w' h => by
    obtain ⟨v, h1, h2, h3⟩ := h
    rw [hd0, hc0] at h1
    rw [hd0, ← hp_0] at h2
    exact ⟨v, h1, h2, h3⟩)
  obtain ⟨p1, hp_1⟩ : ∃ q, q = pnum (tlS Q) := ⟨_, rfl⟩
  have BP1 := Aside0.mk (show p1 < pw 50 by rw [hp_1]; exact pnum_lt _)
  have HA1 := Aside0.mk (fun (W : World) => show Calls Tryz.prog 53 #[.string t1] W (NuPost2 W p1 0) from (rparse_w t1 W (by omega)).mono fun e w' h => by
    obtain ⟨v, h1, h2, h3⟩ := h
    rw [hd1, hc1] at h1
    rw [hd1, ← hp_1] at h2
    exact ⟨v, h1, h2, h3⟩)
  have HNN := Aside0.mk (show qnum l = p0 by rw [hp_0, hQ]; rfl)
  have HDD := Aside0.mk (show qden l = p1 by rw [HDN.out, hp_1])
  rw [read_mk HQ.out, HNN.out, HDD.out, hqn]
  obtain ⟨Bq, Nq, Dq, kq, hmk⟩ := mk_form g p0 p1
  have HMK := Aside0.mk (fun (W : World) (vn vd : Value) (hn : Nu W vn p0) (hd : Nu W vd p1) => show Calls Tryz.prog 32 #[.bool g, vn, vd] W (R3PostE W Bq Nq Dq kq) from (sMkX g hn hd BP0.out BP1.out).mono fun e w' h => by rw [hmk] at h; exact h)
  rw [show MkPost w g p0 p1 = R3PostE w Bq Nq Dq kq from funext fun e => funext fun w' => hmk w e w']
  have H1 : Aside0 (∀ W : World, Calls Tryz.prog 34 #[] W (NuPost W 1)) := ⟨fun W => sone_w W⟩
  clear hmk HQ HDN HNN HDD
  have hB := back_end Q
  have HB0 := Aside0.mk (And.intro hB.1 hB.2)
  have hbs := back_start Q
  rw [hQl] at hbs
  have HBS := Aside0.mk hbs
  have HIX := Aside0.mk (fun (a : Nat) (h : a < R.size) (W : World) => show (Instr.index 9 (.string R) (.int .i64 (a : Int))).run Tryz.prog W = .ok (.int .u8 ((Q.getD a 0).toNat : Int)) W from by
    have h0 : (0 : Int) ≤ (a : Int) ∧ (a : Int) < R.size := by omega
    rw [run_index_string W _ R _ _ Tryz.underlying9, dif_pos h0, ← hRd, List.getD_eq_getElem?_getD, List.getElem?_eq_getElem (by rw [data_length]; exact h)]
    rfl)
  have HQL := Aside0.mk hQl
  have HCN := Aside0.mk (cntB_le Q)
  have HCC := Aside0.mk h
  have HKK := Aside0.mk hK.symm
  clear h hK
  have HRZ := Aside0.mk hRz
  subst hg
  subst hR
  try clear hl
  try clear hQ
  try clear hqn
  try clear hRd
  try clear hz
  try clear hR
  try clear hQl
  try clear hB
  try clear hbs
  try clear hmem
  try clear hnm
  try clear hd0
  try clear hz0
  try clear hd1
  try clear hz1
  try clear hc0
  try clear hc1
  try clear hp_0
  try clear hp_1
  go_enter Tryz.func28, Tryz.ntmps28
  go_wp2_with fail
  rw [← hW0, ← e0]
  clear hW0 e0
  clear g1 g2 hidx0 hb0
  go_loopw [5, 6, 7] (fun kk nn i wr => ∃ (a : Nat), a ≤ R.size ∧ i = .int .i64 (a : Int) ∧ kk = .int .i64 (kIdx Q a : Int) ∧ nn = .int .i64 (cntB Q a : Int) ∧ W0 = wr) (fun _ _ i _ => (intOf i).toNat)
  case atStart => exact ⟨R.size, Nat.le_refl _, rfl, by first | (rw [HBS.out.1]; done) | (rw [HBS.out.1]; rfl), by first | (rw [HBS.out.2]; done) | (rw [HBS.out.2]; rfl), rfl⟩
  case round =>
    obtain ⟨a, ha, rfl, rfl, rfl, hwr⟩ := hrel
    subst hwr
    cases a with
    | zero =>
      rw [HB0.out.1, HB0.out.2, HCC.out, HKK.out]
      go_wp2_with fail
      refine (HA0.out _).mono ?_
      rintro e w1 ⟨v0, rfl, hN0, hB1⟩
      have HB1 := Aside0.mk hB1
      have HN0 := Aside0.mk hN0
      clear hN0 hB1
      go_wp2_with fail
      refine (HA1.out _).mono ?_
      rintro e w2 ⟨v1, rfl, hN1, hB2⟩
      have HB2 := Aside0.mk (HB1.out.trans (hB2.mono HB1.out.size))
      have HN02 := Aside0.mk (HN0.out.below hB2)
      have HN1 := Aside0.mk hN1
      clear hN1 hB2
      go_wp2_with fail
      refine (HMK.out _ _ _ HN02.out HN1.out).mono ?_
      rintro e w7 ⟨v7, rfl, ⟨A7, L7, c7, A8, L8, c8, rfl, h7, h8⟩, hB7⟩
      have HB7 := Aside0.mk (HB2.out.trans (hB7.mono HB2.out.size))
      have HD7 := Aside0.mk (r3_done (neg := Bq) HW.out HGE.out HK.out HB7.out h7 h8)
      obtain ⟨⟨zc0, zc1, zc2⟩, zf0, zf1, zf2⟩ := HK.out.below HB7.out
      clear h7 h8 hB7
      go_wp2_with fail
      exact bodyPost_ret (v := .tuple #[.agg #[.bool Bq, .slice A7 L7 c7, .slice A8 L8 c8], .int .i64 kq]) (by simp [results, Tryz.results28, go_sem, *]) rfl (r3_postE HD7.out)
    | succ a =>
      have hidx := HIX.out a (by omega)
      have hsub : (a : Int) + 1 - 1 = (a : Int) := by omega
      have ha5 := HRZ.out
      obtain ⟨n, hn⟩ : ∃ n, n = (Q.getD a 0).toNat := ⟨_, rfl⟩
      rw [← hn] at hidx
      obtain ⟨cn, hcn⟩ : ∃ c, c = cntB Q (a + 1) := ⟨_, rfl⟩
      have hcl : cn ≤ 100000 := by rw [hcn]; have h1 := HCN.out (a + 1); have h2 := HQL.out; omega
      obtain ⟨kn, hkn⟩ : ∃ c, c = kIdx Q (a + 1) := ⟨_, rfl⟩
      rw [← hcn, ← hkn]
      have HCNN := Aside0.mk hcn
      have HKN := Aside0.mk hkn
      have HN := Aside0.mk hn
      clear hcn hkn hn
      by_cases hh : Q.getD a 0 = 47
      · have hbh : ((n : Int) == 47) = true := by rw [beq_iff_eq, HN.out, hh]; rfl
        have HST := Aside0.mk (back_hit (by rw [HQL.out]; omega) hh)
        clear hh
        go_wp2_with fail
        go_roundw
        case rel => exact ⟨a, by omega, rfl, by rw [HST.out.1], by rw [HST.out.2, ← HCNN.out]; rfl, by first | rfl | trivial⟩
        case measure => first | (simp [intOf]; done) | (simp [intOf]; omega)
      · have hbh : ((n : Int) == 47) = false := by
          rw [beq_eq_false_iff_ne, HN.out]
          intro e
          refine hh (UInt8.toNat_inj.1 ?_)
          have e2 : (47 : UInt8).toNat = 47 := rfl
          rw [e2]; omega
        have HST := Aside0.mk (back_miss (by rw [HQL.out]; omega) hh)
        clear hh
        go_wp2_with fail
        go_roundw
        case rel => exact ⟨a, by omega, rfl, by rw [HST.out.1, ← HKN.out], by rw [HST.out.2, ← HCNN.out], by first | rfl | trivial⟩
        case measure => first | (simp [intOf]; done) | (simp [intOf]; omega)
set_option maxHeartbeats 8000000 in
set_option maxRecDepth 100000 in
theorem sparse_empty {w : World} {s R : ByteArray} {g : Bool} {l Q : List UInt8} (hl : l = s.data.toList) (hQ : Q = qrest l) (hqn : qneg l = g) (hRd : R.data.toList = Q) (hz : s.size ≤ 100000) (hp : s = ⟨#[]⟩) (hR : R = s) (hg : g = false) (h : Q.count 47 = 0) (hc0 : pcode (hdS Q) ≠ 0) :
    Calls Tryz.prog 28 #[.string s] w (ReadPost w l) := by
  have hQl : Q.length = R.size := by rw [← hRd, data_length]
  have hRz : R.size ≤ 100000 := by rw [hR]; first | (rw [ByteArray.size_extract]; omega) | exact hz
  obtain ⟨W0, a0, hW0, e0, HK, HW, HGE⟩ := res1 w 24
  have hmem : ¬ (47 : UInt8) ∈ Q := by exact List.count_eq_zero.1 h
  have hnm : ¬ 1 < Q.count 47 := by omega
  have HQ := Aside0.mk (show qcode l = pcode (hdS Q) by unfold qcode; rw [← hQ, if_neg hnm, if_pos hc0])
  obtain ⟨pb, hpb⟩ : ∃ q, q = pcode (hdS Q) := ⟨_, rfl⟩
  have HP := Aside0.mk (show pb ≠ 0 by rw [hpb]; exact hc0)
  rw [← hpb] at HQ
  have hbb : ((pb : Int) != 0) = true := by rw [bne_iff_ne]; have := HP.out; omega
  have hbe : ((pb : Int) == 0) = false := by rw [beq_eq_false_iff_ne]; have := HP.out; omega
  obtain ⟨K, hK⟩ : ∃ k, k = (hdS Q).length := ⟨_, rfl⟩
  have hKl : K ≤ R.size := by rw [hK, ← hQl]; exact hd_le Q
  obtain ⟨t0, ht0⟩ : ∃ t, t = R.extract 0 K := ⟨_, rfl⟩
  have hd0 : t0.data.toList = hdS Q := by rw [ht0, Go.Lib.extract_from_zero, hRd, hK]; exact take_hd Q
  have hz0 : t0.size ≤ 100000 := by rw [ht0, ByteArray.size_extract]; omega
  have hx0 : ∀ W : World, (Instr.slice 9 (.string R) none (some (.int .i64 (K : Int))) none).run Tryz.prog W = .ok (.string t0) W := fun W => by rw [run_slice_string_h W 9 R Tryz.underlying9 .i64 (K : Int) (by omega) (by omega), ht0]; simp
  clear ht0
  obtain ⟨p0, hp_0⟩ : ∃ q, q = pnum (hdS Q) := ⟨_, rfl⟩
  have BP0 := Aside0.mk (show p0 < pw 50 by rw [hp_0]; exact pnum_lt _)
  have HA0 := Aside0.mk (fun (W : World) => show Calls Tryz.prog 53 #[.string t0] W (NuPost2 W p0 (pb : Int)) from (rparse_w t0 W (by omega)).mono fun e w' h => by
    obtain ⟨v, h1, h2, h3⟩ := h
    rw [hd0, ← hpb] at h1
    rw [hd0, ← hp_0] at h2
    exact ⟨v, h1, h2, h3⟩)
  have hB := back_end Q
  have HB0 := Aside0.mk (And.intro hB.1 hB.2)
  have hbs := back_start Q
  rw [hQl] at hbs
  have HBS := Aside0.mk hbs
  have HIX := Aside0.mk (fun (a : Nat) (h : a < R.size) (W : World) => show (Instr.index 9 (.string R) (.int .i64 (a : Int))).run Tryz.prog W = .ok (.int .u8 ((Q.getD a 0).toNat : Int)) W from by
    have h0 : (0 : Int) ≤ (a : Int) ∧ (a : Int) < R.size := by omega
    rw [run_index_string W _ R _ _ Tryz.underlying9, dif_pos h0, ← hRd, List.getD_eq_getElem?_getD, List.getElem?_eq_getElem (by rw [data_length]; exact h)]
    rfl)
  have HQL := Aside0.mk hQl
  have HCN := Aside0.mk (cntB_le Q)
  have HCC := Aside0.mk h
  have HKK := Aside0.mk hK.symm
  clear h hK
  have HRZ := Aside0.mk hRz
  have hse : R = ⟨#[]⟩ := by rw [hR, hp]
  subst hg
  subst hp
  subst hR
  clear hse
  try clear hQ
  try clear hqn
  try clear hRd
  try clear hQl
  try clear hB
  try clear hbs
  try clear hmem
  try clear hnm
  try clear hd0
  try clear hz0
  try clear hc0
  try clear hp_0
  try clear hpb
  go_enter Tryz.func28, Tryz.ntmps28
  go_wp2_with fail
  rw [← hW0, ← e0]
  clear hW0 e0
  go_loopw [5, 6, 7] (fun kk nn i wr => ∃ (a : Nat), a ≤ (⟨#[]⟩ : ByteArray).size ∧ i = .int .i64 (a : Int) ∧ kk = .int .i64 (kIdx Q a : Int) ∧ nn = .int .i64 (cntB Q a : Int) ∧ W0 = wr) (fun _ _ i _ => (intOf i).toNat)
  case atStart => exact ⟨(⟨#[]⟩ : ByteArray).size, Nat.le_refl _, rfl, by first | (rw [HBS.out.1]; done) | (rw [HBS.out.1]; rfl), by first | (rw [HBS.out.2]; done) | (rw [HBS.out.2]; rfl), rfl⟩
  case round =>
    obtain ⟨a, ha, rfl, rfl, rfl, hwr⟩ := hrel
    subst hwr
    cases a with
    | zero =>
      rw [HB0.out.1, HB0.out.2, HCC.out, HKK.out]
      go_wp2_with fail
      refine (HA0.out _).mono ?_
      rintro e w1 ⟨v0, rfl, hN0, hB1⟩
      have HB1 := Aside0.mk hB1
      clear hN0 hB1
      obtain ⟨⟨zc0, zc1, zc2⟩, zf0, zf1, zf2⟩ := HK.out.below HB1.out
      have HD := Aside0.mk (r3_done (neg := false) HW.out HGE.out HK.out HB1.out (Nu_nil _) (Nu_nil _))
      go_wp2_with fail
      exact bodyPost_ret (v := .tuple #[.agg #[.bool false, .slice none 0 0, .slice none 0 0], .int .i64 pb]) (by simp [results, Tryz.results28, go_sem, *]) rfl (read_badW (c := pb) HQ.out HP.out HD.out)
    | succ a =>
      exact absurd ha (by have h0 : (⟨#[]⟩ : ByteArray).size = 0 := rfl; omega)
theorem sparse_w (s : ByteArray) (w : World) (hs : s.size ≤ 100000) : Calls Tryz.prog 28 #[.string s] w (ReadPost w s.data.toList) := by
  have hl := data_length s
  rcases Nat.eq_zero_or_pos s.size with hz | hp
  · have he : s = ⟨#[]⟩ := by
      have h1 : s.data.toList = [] := List.eq_nil_of_length_eq_zero (by omega)
      obtain ⟨⟨d⟩⟩ := s
      simp at h1
      subst h1
      rfl
    refine sparse_empty (R := s) (g := false) (Q := []) rfl ?_ ?_ ?_ hs he rfl rfl rfl (by decide)
    · rw [he]; rfl
    · rw [he]; rfl
    · rw [he]
  · have hlist : s.data.toList = s.data.toList.getD 0 0 :: s.data.toList.drop 1 := by
      have := drop_cons (Q := s.data.toList) (a := 0) (by omega)
      simpa using this
    by_cases hc : s.data.toList.getD 0 0 = 45
    · have hq : qrest s.data.toList = s.data.toList.drop 1 ∧ qneg s.data.toList = true := by
        rw [hlist, hc]
        exact ⟨by simp [qrest, Lib.trimPrefix, Lib.hasPrefix], by simp [qneg, Lib.hasPrefix]⟩
      have hR : (s.extract 1 s.size).data.toList = qrest s.data.toList := by rw [Go.Lib.extract_to_end, hq.1]
      obtain ⟨Q, hQ⟩ : ∃ Q, Q = qrest s.data.toList := ⟨_, rfl⟩
      rw [← hQ] at hR
      by_cases h : 1 < Q.count 47
      · exact sparse_neg_many rfl hQ hq.2 hR hs hp hc rfl rfl h
      · by_cases h0 : Q.count 47 = 0
        · by_cases c0 : pcode (hdS Q) = 0
          · exact sparse_neg_one rfl hQ hq.2 hR hs hp hc rfl rfl h0 c0
          · exact sparse_neg_one_bad rfl hQ hq.2 hR hs hp hc rfl rfl h0 c0
        · have h1 : Q.count 47 = 1 := by omega
          by_cases c0 : pcode (hdS Q) = 0
          · by_cases c1 : pcode (tlS Q) = 0
            · exact sparse_neg_two rfl hQ hq.2 hR hs hp hc rfl rfl h1 c0 c1
            · exact sparse_neg_two_bad1 rfl hQ hq.2 hR hs hp hc rfl rfl h1 c0 c1
          · exact sparse_neg_two_bad0 rfl hQ hq.2 hR hs hp hc rfl rfl h1 c0
    · have hq : qrest s.data.toList = s.data.toList ∧ qneg s.data.toList = false := by
        have hne : ((45 : UInt8) == s.data.toList.getD 0 0) = false := by rw [beq_eq_false_iff_ne]; exact fun e => hc e.symm
        have hpf : Lib.hasPrefix s.data.toList [45] = false := by
          rw [hlist]
          show (((45 : UInt8) == s.data.toList.getD 0 0) && List.isPrefixOf [] _) = false
          rw [hne]
          rfl
        exact ⟨by unfold qrest Lib.trimPrefix; rw [hpf]; rfl, hpf⟩
      have hR : s.data.toList = qrest s.data.toList := hq.1.symm
      obtain ⟨Q, hQ⟩ : ∃ Q, Q = qrest s.data.toList := ⟨_, rfl⟩
      rw [← hQ] at hR
      by_cases h : 1 < Q.count 47
      · exact sparse_pos_many rfl hQ hq.2 hR hs hp hc rfl rfl h
      · by_cases h0 : Q.count 47 = 0
        · by_cases c0 : pcode (hdS Q) = 0
          · exact sparse_pos_one rfl hQ hq.2 hR hs hp hc rfl rfl h0 c0
          · exact sparse_pos_one_bad rfl hQ hq.2 hR hs hp hc rfl rfl h0 c0
        · have h1 : Q.count 47 = 1 := by omega
          by_cases c0 : pcode (hdS Q) = 0
          · by_cases c1 : pcode (tlS Q) = 0
            · exact sparse_pos_two rfl hQ hq.2 hR hs hp hc rfl rfl h1 c0 c1
            · exact sparse_pos_two_bad1 rfl hQ hq.2 hR hs hp hc rfl rfl h1 c0 c1
          · exact sparse_pos_two_bad0 rfl hQ hq.2 hR hs hp hc rfl rfl h1 c0
end Go.Proofs.YtklhpobphloehaaGreatDoor.G
