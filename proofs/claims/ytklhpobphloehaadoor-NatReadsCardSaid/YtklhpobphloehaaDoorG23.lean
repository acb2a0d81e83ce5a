/- Contracts by hand: Parse, the program's and the reference's: a text that is read. -/
import Derived.Test.YtklhpobphloehaaDoorB
import Derived.Test.YtklhpobphloehaaDoorParseP
set_option linter.unusedVariables false
namespace Go.Proofs.YtklhpobphloehaaDoor.G
open Go.RowKit Go.Proofs.YtklhpobphloehaaDoorW.PrintWords Go.Proofs.YtklhpobphloehaaDoorW.PrintLast Go.Proofs.YtklhpobphloehaaDoor.Nn

def ParsePost (w : World) (l : List UInt8) (e : Ending) (w' : World) : Prop := ∃ v, e = .returned (.tuple #[v, .int .i64 (pcode l : Int)]) ∧ Nu w' v (pnum l) ∧ Below w.heap.size w w'
theorem parse_bad {w w' : World} {l : List UInt8} {c : Nat} (h : pcode l = c ∧ pnum l = 0) (hB : Below w.heap.size w w') : ParsePost w l (.returned (.tuple #[.slice none 0 0, .int .i64 (c : Int)])) w' :=
  ⟨_, by rw [h.1], by rw [h.2]; exact Nu_nil _, hB⟩
theorem parse_ok {w w' : World} {l : List UInt8} {v : Value} (h : pcode l = 0 ∧ pnum l = decVal l) (hN : Nu w' v (decVal l)) (hB : Below w.heap.size w w') : ParsePost w l (.returned (.tuple #[v, .int .i64 0])) w' :=
  ⟨v, by rw [h.1]; rfl, by rw [h.2]; exact hN, hB⟩
theorem pcutN {w : World} {v : Value} {x : Nat} (hx : Nu w v x) (bx : x < pw 1000) : Calls Tryd.prog 86 #[v] w (NuPost w x) := by
  obtain ⟨A0, c0, rfl, h0, C0⟩ := hx
  have h := cut_w A0 c0 (digs x) w C0 h0 (by have := small_len bx; omega)
  refine h.mono ?_
  rintro e w' ⟨v, rfl, hR, hB⟩
  rw [strip_eq (lim_digs x), val_digs] at hR
  exact ⟨v, rfl, Nu_of_RU hR, hB⟩
/-- How a text may begin. -/
theorem parse_key (s : ByteArray) (h0 : ¬ 400 < s.size) (Q : Prop)
    (k1 : s = ⟨#[]⟩ → pcode s.data.toList = 4 ∧ pnum s.data.toList = 0 → Q)
    (k2 : ¬ s.toList = [] → s.toList.isEmpty = false → (h : 0 < s.size) → 1 < s.size → (((s[0]'h).toNat : Int) == 48) = true → pcode s.data.toList = 4 ∧ pnum s.data.toList = 0 → Q)
    (k3 : ¬ s.toList = [] → s.toList.isEmpty = false → 0 < s.size → (1 < s.size → ∀ h : 0 < s.size, (((s[0]'h).toNat : Int) == 48) = false) → ¬ (s.data.toList = [] ∨ (1 < s.data.toList.length ∧ s.data.toList.getD 0 0 = 48)) → Q) : Q := by
  have hl := data_length s
  have ht : s.toList = s.data.toList := Go.Lib.toList_data s
  rcases Nat.eq_zero_or_pos s.size with hz | hp
  · have he : s.data.toList = [] := List.eq_nil_of_length_eq_zero (by omega)
    refine k1 ?_ (pcode_form (by omega) (.inl he))
    obtain ⟨⟨d⟩⟩ := s
    simp at he
    subst he
    rfl
  · have he : s.data.toList ≠ [] := fun h => by rw [h] at hl; simp at hl; omega
    have g1 : ¬ s.toList = [] := by rw [ht]; exact he
    have g2 : s.toList.isEmpty = false := by rw [ht]; simpa using he
    have hd : s.data.toList.getD 0 0 = s[0]'hp := by rw [List.getD_eq_getElem?_getD, List.getElem?_eq_getElem (by omega)]; rfl
    by_cases hh : 1 < s.size ∧ s.data.toList.getD 0 0 = 48
    · refine k2 g1 g2 hp hh.1 ?_ (pcode_form (by omega) (.inr ⟨by omega, hh.2⟩))
      rw [← hd, hh.2]; rfl
    · refine k3 g1 g2 hp (fun h1 h => ?_) ?_
      · rw [beq_eq_false_iff_ne]
        intro e
        refine hh ⟨h1, ?_⟩
        rw [hd]
        apply UInt8.toNat_inj.1
        have e2 : (48 : UInt8).toNat = 48 := rfl
        rw [e2]; omega
      · rintro (h | ⟨h1, h2⟩)
        · exact he h
        · exact hh ⟨by omega, h2⟩
theorem isDig_of {b : UInt8} (h1 : 48 ≤ b.toNat) (h2 : b.toNat ≤ 57) : isDig b = true := by unfold isDig; exact decide_eq_true ⟨h1, h2⟩
theorem isDig_not {b : UInt8} (h : b.toNat < 48 ∨ 57 < b.toNat) : isDig b = false := by unfold isDig; exact decide_eq_false (by omega)
theorem parse_step {l : List UInt8} {k : Nat} (hk : k < l.length) {b : UInt8} (hb : b = l.getD k 0) (h1 : 48 ≤ b.toNat) (h2 : b.toNat ≤ 57) (ha : (l.take k).all isDig = true) :
    decVal (l.take (k + 1)) = decVal (l.take k) * 10 + (b.toNat - 48) ∧ (l.take (k + 1)).all isDig = true := by
  rw [take_snocD l k hk, decVal_snoc, ← hb, all_snoc, ha, isDig_of h1 h2]
  exact ⟨rfl, rfl⟩
set_option maxHeartbeats 2000000 in
set_option maxRecDepth 100000 in
theorem parse_w (s : ByteArray) (w : World) (hs : s.size ≤ 140737488355328) : Calls Tryd.prog 26 #[.string s] w (ParsePost w s.data.toList) := by
  have HLN := Aside0.mk (data_length s)
  by_cases h1 : 400 < s.size
  · have HP := Aside0.mk (pcode_long (l := s.data.toList) (by rw [HLN.out]; exact h1))
    go_enter Tryd.func26, Tryd.ntmps26
    go_wp2_with fail
    go_ret2
    exact parse_bad HP.out (Below.refl _ _)
  · refine parse_key s h1 _ ?_ ?_ ?_
    · rintro hs0 HP
      have HP := Aside0.mk HP
      have HS := Aside0.mk hs0
      subst hs0
      clear HS
      go_enter Tryd.func26, Tryd.ntmps26
      go_wp2_with fail
      go_ret2
      exact parse_bad HP.out (Below.refl _ _)
    · intro g1 g2 g3 g4 g5 HP
      have HP := Aside0.mk HP
      go_enter Tryd.func26, Tryd.ntmps26
      go_wp2_with fail
      go_ret2
      exact parse_bad HP.out (Below.refl _ _)
    · intro g1 g2 g3 g4 g5
      have HF := Aside0.mk g5
      have HB := Aside0.mk g4
      have H400 := Aside0.mk (show s.size ≤ 400 by omega)
      clear g4 g5
      by_cases g6 : 1 < s.size
      · have g7 := HB.out g6 g3
        clear HB
        have kb := fun W => print_bytes (P := Tryd.prog) 9 32 5 Tryd.underlying9 Tryd.underlying32 Tryd.underlying5 s W
        go_enter Tryd.func26, Tryd.ntmps26
        go_wp2_with fail
        clear kb
        have HC0 := Aside0.mk (fun j (hj : j < s.size) => Lib.bytesWorld_cell w 5 s j hj)
        have HB0 := Aside0.mk (bytes_below (Below.refl w.heap.size w) (Nat.le_refl _) 5 s)
        obtain ⟨W0, hW0⟩ : ∃ W, W = Lib.bytesWorld w 5 s := ⟨_, rfl⟩
        obtain ⟨g, hg⟩ : ∃ g, g = w.heap.size := ⟨_, rfl⟩
        have HG := Aside0.mk hg
        rw [← hW0] at HC0 HB0 ⊢
        rw [← hg] at HC0 ⊢
        have HGL := Aside0.mk (show g < W0.heap.size by rw [hW0, Lib.bytesWorld_size, hg]; omega)
        clear hW0 hg
        go_loopw [4, 25] (fun a i wr => ∃ (k : Nat) (va : Value), k ≤ s.size ∧ i = .int .i64 (k : Int) ∧ va = a ∧ Aside0 (Nu wr va (decVal (s.data.toList.take k))) ∧ Aside0 ((s.data.toList.take k).all isDig = true) ∧ Aside0 (Below W0.heap.size W0 wr)) (fun _ i _ => s.size - (intOf i).toNat)
        case atStart => exact ⟨0, .slice none 0 0, Nat.zero_le _, rfl, rfl, ⟨by rw [List.take_zero]; exact Nu_nil _⟩, ⟨by rw [List.take_zero]; rfl⟩, ⟨Below.refl _ _⟩⟩
        case round =>
          obtain ⟨k, va, hk, rfl, rfl, HN, HA, HB⟩ := hrel
          have HBW := Aside0.mk (HB0.out.trans (HB.out.mono HB0.out.size))
          by_cases hlt : k < s.size
          · have hcell : wr.cell? ⟨g, k, none⟩ = some (.int .u8 ((s.data.toList.getD k 0).toNat : Int)) := by rw [HB.out.cell (p := ⟨g, k, none⟩) HGL.out]; exact HC0.out k hlt
            obtain ⟨b, hb⟩ : ∃ b, b = s.data.toList.getD k 0 := ⟨_, rfl⟩
            rw [← hb] at hcell
            obtain ⟨n, hn⟩ : ∃ n, n = b.toNat := ⟨_, rfl⟩
            have hn8 : n < 256 := by rw [hn]; exact b.toNat_lt
            rw [← hn] at hcell
            have HBB := Aside0.mk hb
            have HNN := Aside0.mk hn
            clear hb hn
            by_cases hd1 : n < 48
            · have HP := Aside0.mk (pcode_bad (l := s.data.toList) (by rw [HLN.out]; exact h1) HF.out k (by rw [HLN.out]; exact hlt) (by rw [← HBB.out]; exact isDig_not (by rw [← HNN.out]; omega)))
              have hd1' : (n : Int) < 48 := by omega
              go_wp2_with fail
              go_ret2
              exact parse_bad HP.out HBW.out
            · by_cases hd2 : 57 < n
              · have HP := Aside0.mk (pcode_bad (l := s.data.toList) (by rw [HLN.out]; exact h1) HF.out k (by rw [HLN.out]; exact hlt) (by rw [← HBB.out]; exact isDig_not (by rw [← HNN.out]; omega)))
                have hd1' : ¬ (n : Int) < 48 := by omega
                have hd2' : 57 < (n : Int) := by omega
                go_wp2_with fail
                go_ret2
                exact parse_bad HP.out HBW.out
              · have HST := Aside0.mk (parse_step (l := s.data.toList) (k := k) (by rw [HLN.out]; exact hlt) HBB.out (by rw [← HNN.out]; omega) (by rw [← HNN.out]; omega) HA.out)
                obtain ⟨d, hd⟩ : ∃ d : Nat, d = n - 48 := ⟨_, rfl⟩
                have HD := Aside0.mk (show d = b.toNat - 48 by rw [← HNN.out]; exact hd)
                have hnd : n = d + 48 := by omega
                have hd9 : d ≤ 9 := by omega
                clear hd
                subst hnd
                have hsub : ((d + 48 : Nat) : Int) - 48 = (d : Int) := by omega
                have hsub2 : (d : Int) + 48 - 48 = (d : Int) := by omega
                have HV := Aside0.mk (take_lt k HA.out (by rw [HLN.out]; exact H400.out))
                obtain ⟨x, hx⟩ : ∃ x, x = decVal (s.data.toList.take k) := ⟨_, rfl⟩
                rw [← hx] at HN HV HST
                clear hx
                have H1 : Aside0 (Calls Tryd.prog 45 #[.int .u64 10] wr (NuPost wr 10)) := ⟨ofN 10 (by decide)⟩
                go_wp2_with fail
                refine H1.out.mono ?_
                rintro e w1 ⟨v1, rfl, hN1, hB1⟩
                have H2 : Aside0 (Calls Tryd.prog 39 #[va, v1] w1 (NuPost w1 (x * 10))) := ⟨mulN (HN.out.below hB1) hN1 (pw_lt1000 HV.out (by omega)) (pw_lt1000 (show 10 < pw 1 by decide) (by omega))⟩
                have HB1 := Aside0.mk (HB.out.trans (hB1.mono HB.out.size))
                clear hN1 hB1
                go_wp2_with fail
                refine H2.out.mono ?_
                rintro e w2 ⟨v2, rfl, hN2, hB2⟩
                have HN2 := Aside0.mk hN2
                have H3 : Aside0 (Calls Tryd.prog 45 #[.int .u64 (d : Int)] w2 (NuPost w2 d)) := ⟨ofN d (by omega)⟩
                have HB2 := Aside0.mk (HB1.out.trans (hB2.mono HB1.out.size))
                clear hN2 hB2
                go_wp2_with fail
                refine H3.out.mono ?_
                rintro e w3 ⟨v3, rfl, hN3, hB3⟩
                have H4 : Aside0 (Calls Tryd.prog 37 #[v2, v3] w3 (NuPost w3 (x * 10 + d))) := ⟨addN (HN2.out.below hB3) hN3 (Nat.lt_of_lt_of_le (pw_mulb HV.out (show 10 < pw 1 by decide)) (pw_le (by omega))) (pw_lt1000 (show d < pw 1 by have : pw 1 = 4294967296 := rfl; omega) (by omega))⟩
                have HB3 := Aside0.mk (HB2.out.trans (hB3.mono HB2.out.size))
                clear hN3 hB3
                go_wp2_with fail
                refine H4.out.mono ?_
                rintro e w4 ⟨v4, rfl, hN4, hB4⟩
                have HN4 := Aside0.mk (show Nu w4 v4 (decVal (s.data.toList.take (k + 1))) by rw [HST.out.1, ← HD.out]; exact hN4)
                have HB4 := Aside0.mk (HB3.out.trans (hB4.mono HB3.out.size))
                clear hN4 hB4
                go_wp2_with fail
                go_roundw
                case rel => exact ⟨k + 1, v4, by omega, by go_num, rfl, ⟨HN4.out⟩, ⟨HST.out.2⟩, ⟨HB4.out⟩⟩
                case measure => simp [intOf]; omega
          · have hk2 : k = s.size := by omega
            subst hk2
            have HT := Aside0.mk (show s.data.toList.take s.size = s.data.toList from List.take_of_length_le (by rw [HLN.out]; exact Nat.le_refl _))
            rw [HT.out] at HN HA
            have HP := Aside0.mk (pcode_good (l := s.data.toList) (by rw [HLN.out]; exact h1) HF.out HA.out)
            have H1 : Aside0 (Calls Tryd.prog 86 #[va] wr (NuPost wr (decVal s.data.toList))) := ⟨pcutN HN.out (pw_lt1000 (ten_pw (decVal_lt HA.out) (by rw [HLN.out]; exact H400.out)) (by omega))⟩
            go_wp2_with fail
            refine H1.out.mono ?_
            rintro e w1 ⟨v1, rfl, hN1, hB1⟩
            have HN1 := Aside0.mk hN1
            have HB1 := Aside0.mk (HBW.out.trans (hB1.mono HBW.out.size))
            clear hN1 hB1
            go_wp2_with fail
            go_ret2
            exact parse_ok HP.out HN1.out HB1.out
      · clear HB
        have kb := fun W => print_bytes (P := Tryd.prog) 9 32 5 Tryd.underlying9 Tryd.underlying32 Tryd.underlying5 s W
        go_enter Tryd.func26, Tryd.ntmps26
        go_wp2_with fail
        clear kb
        have HC0 := Aside0.mk (fun j (hj : j < s.size) => Lib.bytesWorld_cell w 5 s j hj)
        have HB0 := Aside0.mk (bytes_below (Below.refl w.heap.size w) (Nat.le_refl _) 5 s)
        obtain ⟨W0, hW0⟩ : ∃ W, W = Lib.bytesWorld w 5 s := ⟨_, rfl⟩
        obtain ⟨g, hg⟩ : ∃ g, g = w.heap.size := ⟨_, rfl⟩
        have HG := Aside0.mk hg
        rw [← hW0] at HC0 HB0 ⊢
        rw [← hg] at HC0 ⊢
        have HGL := Aside0.mk (show g < W0.heap.size by rw [hW0, Lib.bytesWorld_size, hg]; omega)
        clear hW0 hg
        go_loopw [4, 25] (fun a i wr => ∃ (k : Nat) (va : Value), k ≤ s.size ∧ i = .int .i64 (k : Int) ∧ va = a ∧ Aside0 (Nu wr va (decVal (s.data.toList.take k))) ∧ Aside0 ((s.data.toList.take k).all isDig = true) ∧ Aside0 (Below W0.heap.size W0 wr)) (fun _ i _ => s.size - (intOf i).toNat)
        case atStart => exact ⟨0, .slice none 0 0, Nat.zero_le _, rfl, rfl, ⟨by rw [List.take_zero]; exact Nu_nil _⟩, ⟨by rw [List.take_zero]; rfl⟩, ⟨Below.refl _ _⟩⟩
        case round =>
          obtain ⟨k, va, hk, rfl, rfl, HN, HA, HB⟩ := hrel
          have HBW := Aside0.mk (HB0.out.trans (HB.out.mono HB0.out.size))
          by_cases hlt : k < s.size
          · have hcell : wr.cell? ⟨g, k, none⟩ = some (.int .u8 ((s.data.toList.getD k 0).toNat : Int)) := by rw [HB.out.cell (p := ⟨g, k, none⟩) HGL.out]; exact HC0.out k hlt
            obtain ⟨b, hb⟩ : ∃ b, b = s.data.toList.getD k 0 := ⟨_, rfl⟩
            rw [← hb] at hcell
            obtain ⟨n, hn⟩ : ∃ n, n = b.toNat := ⟨_, rfl⟩
            have hn8 : n < 256 := by rw [hn]; exact b.toNat_lt
            rw [← hn] at hcell
            have HBB := Aside0.mk hb
            have HNN := Aside0.mk hn
            clear hb hn
            by_cases hd1 : n < 48
            · have HP := Aside0.mk (pcode_bad (l := s.data.toList) (by rw [HLN.out]; exact h1) HF.out k (by rw [HLN.out]; exact hlt) (by rw [← HBB.out]; exact isDig_not (by rw [← HNN.out]; omega)))
              have hd1' : (n : Int) < 48 := by omega
              go_wp2_with fail
              go_ret2
              exact parse_bad HP.out HBW.out
            · by_cases hd2 : 57 < n
              · have HP := Aside0.mk (pcode_bad (l := s.data.toList) (by rw [HLN.out]; exact h1) HF.out k (by rw [HLN.out]; exact hlt) (by rw [← HBB.out]; exact isDig_not (by rw [← HNN.out]; omega)))
                have hd1' : ¬ (n : Int) < 48 := by omega
                have hd2' : 57 < (n : Int) := by omega
                go_wp2_with fail
                go_ret2
                exact parse_bad HP.out HBW.out
              · have HST := Aside0.mk (parse_step (l := s.data.toList) (k := k) (by rw [HLN.out]; exact hlt) HBB.out (by rw [← HNN.out]; omega) (by rw [← HNN.out]; omega) HA.out)
                obtain ⟨d, hd⟩ : ∃ d : Nat, d = n - 48 := ⟨_, rfl⟩
                have HD := Aside0.mk (show d = b.toNat - 48 by rw [← HNN.out]; exact hd)
                have hnd : n = d + 48 := by omega
                have hd9 : d ≤ 9 := by omega
                clear hd
                subst hnd
                have hsub : ((d + 48 : Nat) : Int) - 48 = (d : Int) := by omega
                have hsub2 : (d : Int) + 48 - 48 = (d : Int) := by omega
                have HV := Aside0.mk (take_lt k HA.out (by rw [HLN.out]; exact H400.out))
                obtain ⟨x, hx⟩ : ∃ x, x = decVal (s.data.toList.take k) := ⟨_, rfl⟩
                rw [← hx] at HN HV HST
                clear hx
                have H1 : Aside0 (Calls Tryd.prog 45 #[.int .u64 10] wr (NuPost wr 10)) := ⟨ofN 10 (by decide)⟩
                go_wp2_with fail
                refine H1.out.mono ?_
                rintro e w1 ⟨v1, rfl, hN1, hB1⟩
                have H2 : Aside0 (Calls Tryd.prog 39 #[va, v1] w1 (NuPost w1 (x * 10))) := ⟨mulN (HN.out.below hB1) hN1 (pw_lt1000 HV.out (by omega)) (pw_lt1000 (show 10 < pw 1 by decide) (by omega))⟩
                have HB1 := Aside0.mk (HB.out.trans (hB1.mono HB.out.size))
                clear hN1 hB1
                go_wp2_with fail
                refine H2.out.mono ?_
                rintro e w2 ⟨v2, rfl, hN2, hB2⟩
                have HN2 := Aside0.mk hN2
                have H3 : Aside0 (Calls Tryd.prog 45 #[.int .u64 (d : Int)] w2 (NuPost w2 d)) := ⟨ofN d (by omega)⟩
                have HB2 := Aside0.mk (HB1.out.trans (hB2.mono HB1.out.size))
                clear hN2 hB2
                go_wp2_with fail
                refine H3.out.mono ?_
                rintro e w3 ⟨v3, rfl, hN3, hB3⟩
                have H4 : Aside0 (Calls Tryd.prog 37 #[v2, v3] w3 (NuPost w3 (x * 10 + d))) := ⟨addN (HN2.out.below hB3) hN3 (Nat.lt_of_lt_of_le (pw_mulb HV.out (show 10 < pw 1 by decide)) (pw_le (by omega))) (pw_lt1000 (show d < pw 1 by have : pw 1 = 4294967296 := rfl; omega) (by omega))⟩
                have HB3 := Aside0.mk (HB2.out.trans (hB3.mono HB2.out.size))
                clear hN3 hB3
                go_wp2_with fail
                refine H4.out.mono ?_
                rintro e w4 ⟨v4, rfl, hN4, hB4⟩
                have HN4 := Aside0.mk (show Nu w4 v4 (decVal (s.data.toList.take (k + 1))) by rw [HST.out.1, ← HD.out]; exact hN4)
                have HB4 := Aside0.mk (HB3.out.trans (hB4.mono HB3.out.size))
                clear hN4 hB4
                go_wp2_with fail
                go_roundw
                case rel => exact ⟨k + 1, v4, by omega, by go_num, rfl, ⟨HN4.out⟩, ⟨HST.out.2⟩, ⟨HB4.out⟩⟩
                case measure => simp [intOf]; omega
          · have hk2 : k = s.size := by omega
            subst hk2
            have HT := Aside0.mk (show s.data.toList.take s.size = s.data.toList from List.take_of_length_le (by rw [HLN.out]; exact Nat.le_refl _))
            rw [HT.out] at HN HA
            have HP := Aside0.mk (pcode_good (l := s.data.toList) (by rw [HLN.out]; exact h1) HF.out HA.out)
            have H1 : Aside0 (Calls Tryd.prog 86 #[va] wr (NuPost wr (decVal s.data.toList))) := ⟨pcutN HN.out (pw_lt1000 (ten_pw (decVal_lt HA.out) (by rw [HLN.out]; exact H400.out)) (by omega))⟩
            go_wp2_with fail
            refine H1.out.mono ?_
            rintro e w1 ⟨v1, rfl, hN1, hB1⟩
            have HN1 := Aside0.mk hN1
            have HB1 := Aside0.mk (HBW.out.trans (hB1.mono HBW.out.size))
            clear hN1 hB1
            go_wp2_with fail
            go_ret2
            exact parse_ok HP.out HN1.out HB1.out
end Go.Proofs.YtklhpobphloehaaDoor.G
