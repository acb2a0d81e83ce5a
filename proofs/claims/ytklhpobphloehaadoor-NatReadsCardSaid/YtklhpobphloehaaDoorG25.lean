/- Contracts by hand: the reference's Text: a number's decimal digits, nine at a time. -/
import Derived.Test.YtklhpobphloehaaDoorG11
import Derived.Test.YtklhpobphloehaaDoorG12
import Derived.Test.YtklhpobphloehaaDoorParseP
set_option linter.unusedVariables false
namespace Go.Proofs.YtklhpobphloehaaDoor.G
open Go.RowKit Go.Proofs.YtklhpobphloehaaDoorW.PrintWords Go.Proofs.YtklhpobphloehaaDoorW.PrintLast Go.Proofs.YtklhpobphloehaaDoor.Nn
open Go.Lib (decDigits)

theorem pad_cons (j : Nat) : ∀ r, padk (j + 1) r = UInt8.ofNat (48 + r / 10 ^ j % 10) :: padk j r := by
  induction j with
  | zero => intro r; simp [padk]
  | succ j ih =>
    intro r
    rw [padk, ih (r / 10), padk, Nat.div_div_eq_div_mul, show 10 * 10 ^ j = 10 ^ (j + 1) from by rw [Nat.pow_succ, Nat.mul_comm]]
    rfl
theorem pad_dec (j : Nat) : ∀ r, r / 10 ^ (j + 1) = 0 → r / 10 ^ j ≠ 0 → padk (j + 1) r = decDigits r := by
  induction j with
  | zero =>
    intro r h1 h2
    have h : r < 10 := by simpa [Nat.div_eq_zero_iff] using h1
    rw [decDigits_small h]
    simp [padk, Nat.mod_eq_of_lt h]
  | succ j ih =>
    intro r h1 h2
    have e1 : 10 ^ (j + 1 + 1) = 10 * 10 ^ (j + 1) := by rw [Nat.pow_succ, Nat.mul_comm]
    have e2 : 10 ^ (j + 1) = 10 * 10 ^ j := by rw [Nat.pow_succ, Nat.mul_comm]
    rw [e1, ← Nat.div_div_eq_div_mul] at h1
    have h3 := h2
    rw [e2, ← Nat.div_div_eq_div_mul] at h2
    have h : ¬ r < 10 := by
      intro h
      rw [Nat.div_eq_of_lt h, Nat.zero_div] at h2
      exact h2 rfl
    rw [padk, ih (r / 10) h1 h2, decDigits_big h]
theorem text_fin {n m q r j : Nat} {t u : List UInt8} (h : dec0 n = dec0 m ++ t) (hm : m ≠ 0) (hq : q = m / 1000000000) (hr : r = m % 1000000000) (hu : u = padk j r) (hj : j ≤ 9)
    (hend : j = 9 ∨ (q = 0 ∧ r / 10 ^ j = 0)) (hp : q = 0 → j ≠ 0 → r / 10 ^ (j - 1) ≠ 0) : dec0 n = dec0 q ++ (u ++ t) := by
  have hrl : r < 1000000000 := by omega
  rw [h, dec_chunk hm hq hr, List.append_assoc]
  congr 2
  by_cases h0 : q = 0
  · rw [if_pos h0, hu]
    have hz : r / 10 ^ j = 0 := by
      rcases hend with rfl | he
      · exact Nat.div_eq_of_lt hrl
      · exact he.2
    cases j with
    | zero =>
      exfalso
      have : r = 0 := by simpa using hz
      omega
    | succ j => exact (pad_dec j r hz (hp h0 (by omega))).symm
  · rw [if_neg h0, hu]
    have : j = 9 := by rcases hend with h | h
                       · exact h
                       · exact absurd h.1 h0
    subst this
    exact (dec9 hrl).2.symm
theorem dec0_len {n : Nat} (h : n < pw 1000) : (dec0 n).length ≤ 10668 := by
  unfold dec0
  split
  · simp
  · exact dec_len_pw (k := 10667) h (by decide)
theorem rsmall_step {l o : List Int} {j t d a z : Nat} (hj : j < o.length) (hlo : lm o j = lm l j) (ha : a = lm l j) (hz : z = a + t * 4294967296) (hd : 0 < d) (h : val (l.drop (j + 1)) = val (o.drop (j + 1)) * d + t) :
    val (l.drop j) = val ((o.set j ((z / d : Nat) : Int)).drop j) * d + z % d := small_step hj ha hz hd h
/-- What is told, and what is still to be told. -/
theorem str_cons {u : ByteArray} {y j r : Nat} (hu : u.data.toList = padk j r) (hy : y = 48 + r / 10 ^ j % 10) : (strOfNums [(y : Int)] ++ u).data.toList = padk (j + 1) r := by
  rw [ByteArray.data_append, Array.toList_append, strOfNums_data, pad_cons, hu, ← hy]
  rfl
theorem str_app (a b : ByteArray) : (a ++ b).data.toList = a.data.toList ++ b.data.toList := by rw [ByteArray.data_append, Array.toList_append]
theorem conv_one (y : Nat) (W : World) : (convert 32 9 (.slice (some ⟨W.heap.size, 0, none⟩) 1 1)).run Tryd.prog (W.alloc (.cells #[.int .u8 (y : Int)] 5)) = .ok (.string (strOfNums [(y : Int)])) (W.alloc (.cells #[.int .u8 (y : Int)] 5)) :=
  run_convert_bytes_arg (W.alloc (.cells #[.int .u8 (y : Int)] 5)) 32 5 Tryd.underlying32 Tryd.underlying5 W.heap.size 0 1 1 [(y : Int)] rfl (fun i hi => by
    obtain rfl : i = 0 := by omega
    simp) 9 Tryd.underlying9
/-- What is told by s, and by the digits of q ahead of it. -/
def TF (n q : Nat) (s : ByteArray) : Prop := dec0 n = dec0 q ++ s.data.toList
theorem rtext_post {w w' : World} {n : Nat} {t : ByteArray} (h : dec0 n = t.data.toList) (hn : n ≠ 0) (hB : Below w.heap.size w w') : TextPost w (decDigits n) (.returned (.string t)) w' :=
  ⟨t, rfl, by unfold dec0 at h; rw [if_neg hn] at h; exact h.symm, hB⟩
set_option maxHeartbeats 4000000 in
set_option maxRecDepth 100000 in
theorem rtext_w {w : World} {vx : Value} {n : Nat} (hx : Nu w vx n) (bn : n < pw 1000) :
    Calls Tryd.prog 27 #[vx] w (TextPost w (decDigits n)) := by
  obtain ⟨A0, c0, rfl, h0, C0⟩ := hx
  have HC := trim_w A0 c0 (digs n) w C0 h0 (by have := small_len bn; omega)
  have HC := Aside0.mk HC
  have BN := Aside0.mk bn
  clear C0 h0 bn
  go_enter Tryd.func27, Tryd.ntmps27
  go_wp2_with fail
  refine HC.out.mono ?_
  rintro e w1 ⟨v1, rfl, hR1, hB1⟩
  have HR1 := Aside0.mk (show RU w1 w.heap.size v1 (digs n) by rw [strip_eq (lim_digs n), val_digs] at hR1; exact hR1)
  have HB1 := Aside0.mk hB1
  clear hR1 hB1 HC
  go_wp2_with fail
  go_loopg [3, 4] n (fun m xa sa wr => ∃ (v : Value) (t : ByteArray), v = xa ∧ sa = .string t ∧ Aside0 (RU wr w.heap.size v (digs m)) ∧ Aside0 (TF n m t) ∧ Aside0 (m ≤ n) ∧ Aside0 (Below w.heap.size w wr))
  case atStart => exact ⟨v1, ⟨#[]⟩, rfl, rfl, ⟨HR1.out⟩, ⟨by unfold TF; simp⟩, ⟨Nat.le_refl _⟩, ⟨HB1.out⟩⟩
  case round =>
    clear HR1 HB1
    obtain ⟨v, t, rfl, rfl, HX, HT, HM, HB⟩ := hrel
    have hts : t.size ≤ 10668 := by have h1 := dec0_len BN.out; have h2 := congrArg List.length (show dec0 n = dec0 gk ++ t.data.toList from HT.out); rw [List.length_append, data_length] at h2; omega
    obtain ⟨wo, rfl⟩ : ∃ wo : World, wo = wr := ⟨_, rfl⟩
    by_cases hm : gk = 0
    · subst hm
      obtain ⟨A, c, e, hc, hC⟩ := RU_slice HX.out
      rw [digs_zero, List.length_nil] at e
      subst e
      have HT2 := Aside0.mk (show dec0 n = t.data.toList by have h : dec0 n = dec0 0 ++ t.data.toList := HT.out; simpa [dec0] using h)
      clear HX HT hC
      by_cases hn : n = 0
      · have ht : t = ⟨#[]⟩ := by
          have h := HT2.out
          rw [hn] at h
          have h2 : t.data.toList = [] := by simpa [dec0] using h.symm
          obtain ⟨⟨d⟩⟩ := t
          simp at h2
          subst h2
          rfl
        subst ht
        have HN := Aside0.mk hn
        clear hn
        go_wp2_with fail
        go_ret
        exact text_none HN.out HB.out
      · have ht : t.data.toList ≠ [] := by
          rw [← HT2.out]
          intro h
          exact hn (dec0_nil h)
        have g1 : ¬ t.toList = [] := by rw [Go.Lib.toList_data]; exact ht
        have g2 : t.toList.isEmpty = false := by rw [Go.Lib.toList_data]; simpa using ht
        have HN := Aside0.mk hn
        clear hn ht
        go_wp2_with fail
        go_ret
        exact rtext_post HT2.out HN.out HB.out
    · have HM0 := Aside0.mk hm
      have hlp : 0 < (digs gk).length := Nu_len hm
      have hll : (digs gk).length < 1000000 := small_len (Nat.lt_of_le_of_lt HM.out BN.out)
      obtain ⟨g, c, e, hg, hgs⟩ := RU_block HX.out hlp
      subst e
      have HG := Aside0.mk hg
      obtain ⟨L, hL⟩ : ∃ L, L = (digs gk).length := ⟨_, rfl⟩
      rw [← hL] at hlp hll HX ⊢
      have HLE := Aside0.mk hL
      clear hL hm hg hgs
      go_wp2_with fail
      go_loopw [5, 6] (fun cc ii wr => ∃ (k x : Nat) (o : List Int), k ≤ L ∧ ii = .int .i64 (k : Int) ∧ cc = .int .u64 (x : Int) ∧ x < 1000000000 ∧ Aside0 (o.length = L ∧ Lim o ∧ (∀ j, j < k → lm o j = lm (digs gk) j) ∧ val ((digs gk).drop k) = val (o.drop k) * 1000000000 + x ∧ RU wr w.heap.size (.slice (some ⟨g, 0, none⟩) L c) o) ∧ Aside0 (Below w.heap.size w wr)) (fun _ ii _ => (intOf ii).toNat)
      case atStart => exact ⟨L, 0, digs gk, Nat.le_refl _, rfl, rfl, by omega, ⟨HLE.out.symm, lim_digs gk, fun _ _ => rfl, by rw [List.drop_of_length_le (by rw [HLE.out]; exact Nat.le_refl _)]; simp [val], HX.out⟩, ⟨HB.out⟩⟩
      case round =>
        clear HX HB
        obtain ⟨k, x, o, hk, rfl, rfl, hx9, HO, HB⟩ := hrel
        rcases Nat.eq_zero_or_pos k with rfl | hk0
        · have HTR := Aside0.mk (trim_own HO.out.2.2.2.2 HO.out.1 HO.out.2.1 (by omega) HB.out)
          have he := small_end hx9 (show gk = val o * 1000000000 + x by have h := HO.out.2.2.2.1; rwa [List.drop_zero, List.drop_zero, val_digs] at h)
          obtain ⟨q, hq⟩ : ∃ q, q = val o := ⟨_, rfl⟩
          rw [← hq] at HTR he
          have HQ := Aside0.mk (show q = gk / 1000000000 from he.1.symm)
          have HR := Aside0.mk (show x = gk % 1000000000 from he.2.symm)
          have hqm : q < gk := by have h1 := HM0.out; have h2 := HQ.out; omega
          obtain ⟨r, hr⟩ : ∃ r, r = x := ⟨_, rfl⟩
          subst hr
          have hrl := hx9
          clear he hq hx9
          go_wp2_with fail
          refine HTR.out.mono ?_
          rintro e w2 ⟨v2, rfl, hX2, hB2⟩
          have HB2 := Aside0.mk hB2
          by_cases hq0 : q = 0
          · obtain ⟨A1, c1, e1, hc1, hC1⟩ := RU_slice hX2
            subst e1
            rw [hq0, digs_zero, List.length_nil] at hX2 ⊢
            have HX2 := Aside0.mk (show RU w2 w.heap.size (.slice A1 0 c1) (digs q) by rw [hq0, digs_zero]; exact hX2)
            have HQ0 := Aside0.mk hq0
            clear hX2 hB2 HTR hc1 hC1 hq0 HO HB
            go_wp2_with fail
            go_loopw [5, 7, 8] (fun c t i wr => ∃ (j : Nat) (C : Nat) (u : ByteArray), j ≤ 9 ∧ i = .int .i64 (j : Int) ∧ c = .int .u64 (C : Int) ∧ C < 1000000000 ∧ t = .string u ∧ u.size ≤ 9 ∧ Aside0 (C = r / 10 ^ j ∧ u.data.toList = padk j r ∧ (q = 0 → j ≠ 0 → r / 10 ^ (j - 1) ≠ 0)) ∧ Aside0 (RU wr w.heap.size (.slice A1 0 c1) (digs q)) ∧ Aside0 (Below w.heap.size w wr)) (fun _ _ i _ => 9 - (intOf i).toNat)
            case atStart => exact ⟨0, r, ⟨#[]⟩, by omega, rfl, rfl, hrl, rfl, by decide, ⟨by rw [Nat.pow_zero, Nat.div_one], rfl, fun _ h => absurd rfl h⟩, ⟨HX2.out⟩, ⟨HB2.out⟩⟩
            case round =>
              clear HX2 HB2
              obtain ⟨j, C, u, hj, rfl, rfl, hC, rfl, hus, HU, HX, HB⟩ := hrel
              have fin : ∀ (W : World), (j = 9 ∨ (q = 0 ∧ C = 0)) → Aside0 (TF n q (u ++ t)) := fun W h => ⟨by unfold TF; rw [str_app]; exact text_fin (show dec0 n = dec0 gk ++ t.data.toList from HT.out) HM0.out HQ.out HR.out HU.out.2.1 hj (by rw [← HU.out.1]; exact h) HU.out.2.2⟩
              have FIN := Aside0.mk fin
              clear fin
              by_cases hj9 : j = 9
              · have hjl : ¬ j < 9 := by omega
                have FE := Aside0.mk (FIN.out w (.inl hj9)).out
                clear FIN hj9
                go_wp2_with fail
                go_roundg q
                case measure => exact hqm
                case rel => exact ⟨_, u ++ t, rfl, rfl, ⟨HX.out⟩, ⟨FE.out⟩, ⟨by have := HM.out; omega⟩, ⟨HB.out⟩⟩
              · have hjl : j < 9 := by omega
                by_cases hC0 : C = 0
                · have hCp : ¬ 0 < C := by omega
                  clear hj9
                  have FE := Aside0.mk (FIN.out w (.inr ⟨HQ0.out, hC0⟩)).out
                  clear FIN hC0
                  go_wp2_with fail
                  go_roundg q
                  case measure => exact hqm
                  case rel => exact ⟨_, u ++ t, rfl, rfl, ⟨HX.out⟩, ⟨FE.out⟩, ⟨by have := HM.out; omega⟩, ⟨HB.out⟩⟩
                · have hCp : 0 < C := by omega
                  have NZ := Aside0.mk (show q = 0 → C ≠ 0 from fun _ => hC0)
                  clear hj9 hC0
                  obtain ⟨y, hy⟩ : ∃ y : Nat, y = 48 + C % 10 := ⟨_, rfl⟩
                  obtain ⟨D, hD⟩ : ∃ D : Nat, D = C / 10 := ⟨_, rfl⟩
                  have hyi : (48 : Int) + (C : Int) % 10 = (y : Int) := by omega
                  have hDi : (C : Int) / 10 = (D : Int) := by omega
                  have hy8 : y < 256 := by omega
                  have hDl : D < 1000000000 := by omega
                  have hcv := conv_one y
                  obtain ⟨cs, hcs⟩ : ∃ cs, cs = strOfNums [(y : Int)] := ⟨_, rfl⟩
                  have hcz : cs.size ≤ 1 := by rw [hcs, strOfNums_size]; exact Nat.le_refl _
                  rw [← hcs] at hcv
                  have HST := Aside0.mk (show (cs ++ u).data.toList = padk (j + 1) r from hcs ▸ str_cons HU.out.2.1 (show y = 48 + r / 10 ^ j % 10 by rw [← HU.out.1]; exact hy))
                  have HDJ := Aside0.mk (show D = r / 10 ^ (j + 1) by rw [hD, HU.out.1, Nat.div_div_eq_div_mul, Nat.pow_succ])
                  have HNZ := Aside0.mk (show q = 0 → j + 1 ≠ 0 → r / 10 ^ (j + 1 - 1) ≠ 0 from fun h _ => by rw [Nat.add_sub_cancel, ← HU.out.1]; exact NZ.out h)
                  have HSZ := Aside0.mk (show (cs ++ u).size ≤ 9 by rw [← data_length, HST.out, padk_length]; omega)
                  clear hy hD hcs
                  go_wp2_with fail
                  go_roundw
                  case rel => exact ⟨j + 1, D, cs ++ u, by omega, by go_num, rfl, hDl, rfl, HSZ.out, ⟨HDJ.out, HST.out, HNZ.out⟩, ⟨RU_below HX.out (below_alloc (Below.refl _ _) _)⟩, ⟨below_alloc HB.out _⟩⟩
                  case measure => simp [intOf]; omega
          · obtain ⟨A1, c1, e1, hc1, hC1⟩ := RU_slice hX2
            subst e1
            have HX2 := Aside0.mk hX2
            have hql : 0 < (digs q).length := Nu_len hq0
            have HQ0 := Aside0.mk hq0
            clear hX2 hB2 HTR hc1 hC1 hq0 HO HB
            go_wp2_with fail
            go_loopw [5, 7, 8] (fun c t i wr => ∃ (j : Nat) (C : Nat) (u : ByteArray), j ≤ 9 ∧ i = .int .i64 (j : Int) ∧ c = .int .u64 (C : Int) ∧ C < 1000000000 ∧ t = .string u ∧ u.size ≤ 9 ∧ Aside0 (C = r / 10 ^ j ∧ u.data.toList = padk j r ∧ (q = 0 → j ≠ 0 → r / 10 ^ (j - 1) ≠ 0)) ∧ Aside0 (RU wr w.heap.size (.slice A1 (digs q).length c1) (digs q)) ∧ Aside0 (Below w.heap.size w wr)) (fun _ _ i _ => 9 - (intOf i).toNat)
            case atStart => exact ⟨0, r, ⟨#[]⟩, by omega, rfl, rfl, hrl, rfl, by decide, ⟨by rw [Nat.pow_zero, Nat.div_one], rfl, fun _ h => absurd rfl h⟩, ⟨HX2.out⟩, ⟨HB2.out⟩⟩
            case round =>
              clear HX2 HB2
              obtain ⟨j, C, u, hj, rfl, rfl, hC, rfl, hus, HU, HX, HB⟩ := hrel
              have fin : ∀ (W : World), (j = 9 ∨ (q = 0 ∧ C = 0)) → Aside0 (TF n q (u ++ t)) := fun W h => ⟨by unfold TF; rw [str_app]; exact text_fin (show dec0 n = dec0 gk ++ t.data.toList from HT.out) HM0.out HQ.out HR.out HU.out.2.1 hj (by rw [← HU.out.1]; exact h) HU.out.2.2⟩
              have FIN := Aside0.mk fin
              clear fin
              by_cases hj9 : j = 9
              · have hjl : ¬ j < 9 := by omega
                have FE := Aside0.mk (FIN.out w (.inl hj9)).out
                clear FIN hj9
                go_wp2_with fail
                go_roundg q
                case measure => exact hqm
                case rel => exact ⟨_, u ++ t, rfl, rfl, ⟨HX.out⟩, ⟨FE.out⟩, ⟨by have := HM.out; omega⟩, ⟨HB.out⟩⟩
              · have hjl : j < 9 := by omega
                have NZ := Aside0.mk (show q = 0 → C ≠ 0 from fun h => absurd h HQ0.out)
                clear hj9
                by_cases hC0 : C = 0
                · have hCp : ¬ 0 < C := by omega
                  clear hC0
                  obtain ⟨y, hy⟩ : ∃ y : Nat, y = 48 + C % 10 := ⟨_, rfl⟩
                  obtain ⟨D, hD⟩ : ∃ D : Nat, D = C / 10 := ⟨_, rfl⟩
                  have hyi : (48 : Int) + (C : Int) % 10 = (y : Int) := by omega
                  have hDi : (C : Int) / 10 = (D : Int) := by omega
                  have hy8 : y < 256 := by omega
                  have hDl : D < 1000000000 := by omega
                  have hcv := conv_one y
                  obtain ⟨cs, hcs⟩ : ∃ cs, cs = strOfNums [(y : Int)] := ⟨_, rfl⟩
                  have hcz : cs.size ≤ 1 := by rw [hcs, strOfNums_size]; exact Nat.le_refl _
                  rw [← hcs] at hcv
                  have HST := Aside0.mk (show (cs ++ u).data.toList = padk (j + 1) r from hcs ▸ str_cons HU.out.2.1 (show y = 48 + r / 10 ^ j % 10 by rw [← HU.out.1]; exact hy))
                  have HDJ := Aside0.mk (show D = r / 10 ^ (j + 1) by rw [hD, HU.out.1, Nat.div_div_eq_div_mul, Nat.pow_succ])
                  have HNZ := Aside0.mk (show q = 0 → j + 1 ≠ 0 → r / 10 ^ (j + 1 - 1) ≠ 0 from fun h _ => by rw [Nat.add_sub_cancel, ← HU.out.1]; exact NZ.out h)
                  have HSZ := Aside0.mk (show (cs ++ u).size ≤ 9 by rw [← data_length, HST.out, padk_length]; omega)
                  clear hy hD hcs
                  go_wp2_with fail
                  go_roundw
                  case rel => exact ⟨j + 1, D, cs ++ u, by omega, by go_num, rfl, hDl, rfl, HSZ.out, ⟨HDJ.out, HST.out, HNZ.out⟩, ⟨RU_below HX.out (below_alloc (Below.refl _ _) _)⟩, ⟨below_alloc HB.out _⟩⟩
                  case measure => simp [intOf]; omega
                · have hCp : 0 < C := by omega
                  clear hC0
                  obtain ⟨y, hy⟩ : ∃ y : Nat, y = 48 + C % 10 := ⟨_, rfl⟩
                  obtain ⟨D, hD⟩ : ∃ D : Nat, D = C / 10 := ⟨_, rfl⟩
                  have hyi : (48 : Int) + (C : Int) % 10 = (y : Int) := by omega
                  have hDi : (C : Int) / 10 = (D : Int) := by omega
                  have hy8 : y < 256 := by omega
                  have hDl : D < 1000000000 := by omega
                  have hcv := conv_one y
                  obtain ⟨cs, hcs⟩ : ∃ cs, cs = strOfNums [(y : Int)] := ⟨_, rfl⟩
                  have hcz : cs.size ≤ 1 := by rw [hcs, strOfNums_size]; exact Nat.le_refl _
                  rw [← hcs] at hcv
                  have HST := Aside0.mk (show (cs ++ u).data.toList = padk (j + 1) r from hcs ▸ str_cons HU.out.2.1 (show y = 48 + r / 10 ^ j % 10 by rw [← HU.out.1]; exact hy))
                  have HDJ := Aside0.mk (show D = r / 10 ^ (j + 1) by rw [hD, HU.out.1, Nat.div_div_eq_div_mul, Nat.pow_succ])
                  have HNZ := Aside0.mk (show q = 0 → j + 1 ≠ 0 → r / 10 ^ (j + 1 - 1) ≠ 0 from fun h _ => by rw [Nat.add_sub_cancel, ← HU.out.1]; exact NZ.out h)
                  have HSZ := Aside0.mk (show (cs ++ u).size ≤ 9 by rw [← data_length, HST.out, padk_length]; omega)
                  clear hy hD hcs
                  go_wp2_with fail
                  go_roundw
                  case rel => exact ⟨j + 1, D, cs ++ u, by omega, by go_num, rfl, hDl, rfl, HSZ.out, ⟨HDJ.out, HST.out, HNZ.out⟩, ⟨RU_below HX.out (below_alloc (Below.refl _ _) _)⟩, ⟨below_alloc HB.out _⟩⟩
                  case measure => simp [intOf]; omega
        · obtain ⟨hc1, hc2⟩ := RU_at HO.out.2.2.2.2 HO.out.1 (k - 1) (by omega)
          rw [lm_cast HO.out.2.1, HO.out.2.2.1 (k - 1) (by omega)] at hc1
          have ha := lm_lt (lim_digs gk) (k - 1)
          obtain ⟨a, hae⟩ : ∃ a, a = lm (digs gk) (k - 1) := ⟨_, rfl⟩
          rw [← hae] at hc1 ha
          have hx2 : x < 4294967296 := by omega
          have hor := or_high2 ha hx2
          obtain ⟨z, hz⟩ : ∃ z, z = a + x * 4294967296 := ⟨_, rfl⟩
          rw [← hz] at hor
          have hz64 : z < 18446744073709551616 := by omega
          have hqb : z / 1000000000 < 4294967296 := by omega
          have hrb : z % 1000000000 < 1000000000 := Nat.mod_lt _ (by decide)
          obtain ⟨q, hq⟩ : ∃ q, q = z / 1000000000 := ⟨_, rfl⟩
          obtain ⟨r, hr⟩ : ∃ r, r = z % 1000000000 := ⟨_, rfl⟩
          have hqc : (z : Int) / 1000000000 = (q : Int) := by omega
          have hrc : (z : Int) % 1000000000 = (r : Int) := by omega
          rw [← hq] at hqb
          rw [← hr] at hrb
          have hdr : val ((digs gk).drop (k - 1 + 1)) = val (o.drop (k - 1 + 1)) * 1000000000 + x := by rw [Nat.sub_add_cancel hk0]; exact HO.out.2.2.2.1
          have HST := Aside0.mk (small_step (l := digs gk) (o := o) (j := k - 1) (t := x) (d := 1000000000) (a := a) (z := z) (by rw [HO.out.1]; omega) hae hz (by decide) hdr)
          rw [← hq, ← hr] at HST
          clear hae hz hq hr hdr
          go_wp2_with fail
          go_roundw
          case rel => exact ⟨k - 1, r, o.set (k - 1) (q : Int), by omega, by go_num, by go_num, hrb, ⟨by rw [List.length_set]; exact HO.out.1, HO.out.2.1.set (k - 1) (by omega) (by omega), fun j hj => by rw [lm_set_ne (by omega)]; exact HO.out.2.2.1 j (by omega), HST.out, RU_set HO.out.2.2.2.2 HO.out.1 (k - 1) _⟩, ⟨below_set HB.out HG.out _ _⟩⟩
          case measure => first | (simp [intOf]; done) | (simp [intOf]; omega)
end Go.Proofs.YtklhpobphloehaaDoor.G
