/- Contracts by hand: Parse, the program's and the reference's: a text that is read. -/
import Derived.Test.YtklhpobphloehaaDoorB
import Derived.Test.YtklhpobphloehaaDoorG23
set_option linter.unusedVariables false
namespace Go.Proofs.YtklhpobphloehaaDoor.G
open Go.RowKit Go.Proofs.YtklhpobphloehaaDoorW.PrintWords Go.Proofs.YtklhpobphloehaaDoorW.PrintLast Go.Proofs.YtklhpobphloehaaDoor.Nn

theorem Nu_drew {w : World} {v : Value} {n : Nat} (h : Nu w v n) : Nu w.drew v n := h.below (Below.drew (Below.refl _ _))
theorem below_drewN' {B m : Nat} {a w : World} (h : Below B a w) : Below B a (w.drewN m) := ⟨h.os, h.tape, h.output, h.size, h.block⟩
theorem Nu_drewN {w : World} {v : Value} {n m : Nat} (h : Nu w v n) : Nu (w.drewN m) v n := h.below (below_drewN' (Below.refl _ _))
/-- Behind a call inside a region: what it answered; what was there is there. -/
def StepPost (wr W : World) (n : Nat) (e : Ending) (w' : World) : Prop := ∃ v, e = .returned v ∧ Nu w' v n ∧ Below wr.heap.size wr w' ∧ ∀ u m, Nu W u m → Nu w' u m
theorem step_post {wr W : World} {n : Nat} {e : Ending} {w' : World} (hW : Below wr.heap.size wr W) (h : NuPost W n e w') : StepPost wr W n e w' := by
  obtain ⟨v, he, hN, hB⟩ := h
  exact ⟨v, he, hN, hW.trans (hB.mono hW.size), fun u m hu => hu.below hB⟩
theorem lit10 (w : World) : Nu (w.alloc (.cells #[.int .u32 10] 54)) (.slice (some ⟨w.heap.size, 0, none⟩) 1 1) 10 := by
  have h : RU (w.alloc (.cells #[.int .u32 10] 54)) w.heap.size (.slice (some ⟨w.heap.size, 0, none⟩) 1 1) [10] := RU_own (own_lit w w.heap.size 54 .u32 [10] (Nat.le_refl _) (by simp))
  have e : digs 10 = [10] := by rw [digs_pos (by decide), show 10 / 4294967296 = 0 from by decide, digs_zero]; rfl
  obtain ⟨A, c, ev, hc, hC⟩ := RU_slice h
  cases ev
  exact ⟨_, _, by rw [e]; rfl, by rw [e]; exact hc, by rw [e]; exact hC⟩
set_option maxHeartbeats 2000000 in
set_option maxRecDepth 100000 in
theorem rparse_w (s : ByteArray) (w : World) (hs : s.size ≤ 140737488355328) : Calls Tryd.prog 30 #[.string s] w (ParsePost w s.data.toList) := by
  have HLN := Aside0.mk (data_length s)
  by_cases h1 : 400 < s.size
  · have HP := Aside0.mk (pcode_long (l := s.data.toList) (by rw [HLN.out]; exact h1))
    go_enter Tryd.func30, Tryd.ntmps30
    go_wp2_with fail
    go_ret2
    exact parse_bad HP.out (Below.refl _ _)
  · refine parse_key s h1 _ ?_ ?_ ?_
    · rintro hs0 HP
      have HP := Aside0.mk HP
      have HS := Aside0.mk hs0
      subst hs0
      clear HS
      go_enter Tryd.func30, Tryd.ntmps30
      go_wp2_with fail
      go_ret2
      exact parse_bad HP.out (Below.refl _ _)
    · intro g1 g2 g3 g4 g5 HP
      have HP := Aside0.mk HP
      go_enter Tryd.func30, Tryd.ntmps30
      go_wp2_with fail
      go_ret2
      exact parse_bad HP.out (Below.refl _ _)
    · intro g1 g2 g3 g4 g5
      have HF := Aside0.mk g5
      have HB := Aside0.mk g4
      have H400 := Aside0.mk (show s.size ≤ 400 by omega)
      clear g4 g5
      by_cases g6 : 1 < s.size
      · have g7 := HB.out g6 g3
        clear HB
        go_enter Tryd.func30, Tryd.ntmps30
        go_wp2_with fail
        go_loopw [4, 5] (fun a i wr => ∃ (k : Nat) (va : Value), k ≤ s.size ∧ i = .int .i64 (k : Int) ∧ va = a ∧ Aside0 (Nu wr va (decVal (s.data.toList.take k))) ∧ Aside0 ((s.data.toList.take k).all isDig = true) ∧ Aside0 (Below w.heap.size w wr)) (fun _ i _ => s.size - (intOf i).toNat)
        case atStart => exact ⟨0, .slice none 0 0, Nat.zero_le _, rfl, rfl, ⟨by rw [List.take_zero]; exact Nu_nil _⟩, ⟨by rw [List.take_zero]; rfl⟩, ⟨Below.refl _ _⟩⟩
        case round =>
          obtain ⟨k, va, hk, rfl, rfl, HN, HA, HB⟩ := hrel
          by_cases hlt : k < s.size
          · obtain ⟨b, hb⟩ : ∃ b, b = s.data.toList.getD k 0 := ⟨_, rfl⟩
            obtain ⟨n, hn⟩ : ∃ n, n = b.toNat := ⟨_, rfl⟩
            have hn8 : n < 256 := by rw [hn]; exact b.toNat_lt
            have hidx : ∀ W : World, (Instr.index 9 (.string s) (.int .i64 (k : Int))).run Tryd.prog W = .ok (.int .u8 (n : Int)) W := fun W => by
              have h0 : (0 : Int) ≤ (k : Int) ∧ (k : Int) < s.size := by omega
              rw [run_index_string W _ s _ _ Tryd.underlying9, dif_pos h0, hn, hb, List.getD_eq_getElem?_getD, List.getElem?_eq_getElem (by rw [HLN.out]; exact hlt)]
              rfl
            have HBB := Aside0.mk hb
            have HNN := Aside0.mk hn
            clear hb hn
            by_cases hd1 : n < 48
            · have HP := Aside0.mk (pcode_bad (l := s.data.toList) (by rw [HLN.out]; exact h1) HF.out k (by rw [HLN.out]; exact hlt) (by rw [← HBB.out]; exact isDig_not (by rw [← HNN.out]; omega)))
              have hd1' : (n : Int) < 48 := by omega
              go_wp2_with fail
              go_ret2
              exact parse_bad HP.out HB.out
            · by_cases hd2 : 57 < n
              · have HP := Aside0.mk (pcode_bad (l := s.data.toList) (by rw [HLN.out]; exact h1) HF.out k (by rw [HLN.out]; exact hlt) (by rw [← HBB.out]; exact isDig_not (by rw [← HNN.out]; omega)))
                have hd1' : ¬ (n : Int) < 48 := by omega
                have hd2' : 57 < (n : Int) := by omega
                go_wp2_with fail
                go_ret2
                exact parse_bad HP.out HB.out
              · have HST := Aside0.mk (parse_step (l := s.data.toList) (k := k) (by rw [HLN.out]; exact hlt) HBB.out (by rw [← HNN.out]; omega) (by rw [← HNN.out]; omega) HA.out)
                obtain ⟨d, hd⟩ : ∃ d : Nat, d = n - 48 := ⟨_, rfl⟩
                have HD := Aside0.mk (show d = b.toNat - 48 by rw [← HNN.out]; exact hd)
                have hnd : n = d + 48 := by omega
                have hd9 : d ≤ 9 := by omega
                clear hd
                subst hnd
                have hsub : ((d + 48 : Nat) : Int) - 48 = (d : Int) := by omega
                have hsub2 : (d : Int) + 48 - 48 = (d : Int) := by omega
                have HV := Aside0.mk (take_lt k HA.out (by rw [HLN.out]; exact H400.out))
                obtain ⟨x, hx⟩ : ∃ x, x = decVal (s.data.toList.take k) := ⟨_, rfl⟩
                rw [← hx] at HN HV HST
                clear hx
                have hw1 : IntKind.u8.wrap (d : Int) = (d : Int) := by rw [IntKind.wrap_u8]; omega
                have hw2 : IntKind.u64.wrap (d : Int) = (d : Int) := u64_in (by omega) (by omega)
                have hw3 : IntKind.u8.wrap ((d : Int) + 48 - 48) = (d : Int) := by rw [hsub2]; exact hw1
                have HM := Aside0.mk (fun (W : World) (v : Value) (hW : Below wr.heap.size wr W) (hv : Nu W v 10) => show Calls Tryd.prog 50 #[va, v] W (StepPost wr W (x * 10)) from (rmulN (HN.out.below hW) hv (pw_lt1000 HV.out (by omega)) (pw_lt1000 (show 10 < pw 1 by decide) (by omega))).mono fun _ _ h => step_post hW h)
                have HOF := Aside0.mk (fun (W : World) (hW : Below wr.heap.size wr W) => show Calls Tryd.prog 46 #[.int .u64 (d : Int)] W (StepPost wr W d) from (rofN d (by omega)).mono fun _ _ h => step_post hW h)
                have HAD := Aside0.mk (fun (W : World) (v v2 : Value) (hW : Below wr.heap.size wr W) (h1 : Nu W v (x * 10)) (h2 : Nu W v2 d) => show Calls Tryd.prog 49 #[v, v2] W (StepPost wr W (x * 10 + d)) from (raddN h1 h2 (Nat.lt_of_lt_of_le (pw_mulb HV.out (show 10 < pw 1 by decide)) (pw_le (by omega))) (pw_lt1000 (show d < pw 1 by have : pw 1 = 4294967296 := rfl; omega) (by omega))).mono fun _ _ h => step_post hW h)
                go_wp2_with fail
                go_region_with (first
                  | (go_at_call 50; (with_reducible refine (HM.out _ _ (by with_reducible repeat (first | exact Below.refl _ _ | exact HB2.out | exact HB3.out | refine Below.drew ?_ | refine below_drewN' ?_ | refine below_alloc ?_ _)) (by with_reducible repeat (first | exact lit10 _ | assumption | refine hT3 _ _ ?_ | refine hT2 _ _ ?_ | refine Nu_drew ?_ | refine Nu_drewN ?_))).mono ?_); rintro e w2 ⟨v2, rfl, hN2, hB2, hT2⟩; have HB2 := Aside0.mk hB2; clear hB2)
                  | (go_at_call 46; (with_reducible refine (HOF.out _ (by with_reducible repeat (first | exact Below.refl _ _ | exact HB2.out | exact HB3.out | refine Below.drew ?_ | refine below_drewN' ?_ | refine below_alloc ?_ _))).mono ?_); rintro e w3 ⟨v3, rfl, hN3, hB3, hT3⟩; have HB3 := Aside0.mk hB3; clear hB3)
                  | (go_at_call 49; (with_reducible refine (HAD.out _ _ _ (by with_reducible repeat (first | exact Below.refl _ _ | exact HB2.out | exact HB3.out | refine Below.drew ?_ | refine below_drewN' ?_ | refine below_alloc ?_ _)) (by with_reducible repeat (first | exact lit10 _ | assumption | refine hT3 _ _ ?_ | refine hT2 _ _ ?_ | refine Nu_drew ?_ | refine Nu_drewN ?_)) (by with_reducible repeat (first | exact lit10 _ | assumption | refine hT3 _ _ ?_ | refine hT2 _ _ ?_ | refine Nu_drew ?_ | refine Nu_drewN ?_))).mono ?_); rintro e w4 ⟨v4, rfl, hN4, hB4, hT4⟩; have HB4 := Aside0.mk hB4; have HN4 := Aside0.mk (show Nu w4 v4 (decVal (s.data.toList.take (k + 1))) by rw [HST.out.1, ← HD.out]; exact hN4); clear hB4 hN4))
                all_goals
                  go_wp2_with fail
                  go_roundw
                  case rel => exact ⟨k + 1, v4, by omega, by go_num, rfl, ⟨by with_reducible first | exact HN4.out | exact Nu_drew HN4.out | exact Nu_drewN HN4.out⟩, ⟨HST.out.2⟩, ⟨HB.out.trans ((show Below wr.heap.size wr _ by with_reducible first | exact HB4.out | exact HB4.out.drew | exact below_drewN' HB4.out).mono HB.out.size)⟩⟩
                  case measure => simp [intOf]; omega
          · have hk2 : k = s.size := by omega
            subst hk2
            have HT := Aside0.mk (show s.data.toList.take s.size = s.data.toList from List.take_of_length_le (by rw [HLN.out]; exact Nat.le_refl _))
            rw [HT.out] at HN HA
            have HP := Aside0.mk (pcode_good (l := s.data.toList) (by rw [HLN.out]; exact h1) HF.out HA.out)
            go_wp2_with fail
            go_ret2
            exact parse_ok HP.out HN.out HB.out
      · clear HB
        go_enter Tryd.func30, Tryd.ntmps30
        go_wp2_with fail
        go_loopw [4, 5] (fun a i wr => ∃ (k : Nat) (va : Value), k ≤ s.size ∧ i = .int .i64 (k : Int) ∧ va = a ∧ Aside0 (Nu wr va (decVal (s.data.toList.take k))) ∧ Aside0 ((s.data.toList.take k).all isDig = true) ∧ Aside0 (Below w.heap.size w wr)) (fun _ i _ => s.size - (intOf i).toNat)
        case atStart => exact ⟨0, .slice none 0 0, Nat.zero_le _, rfl, rfl, ⟨by rw [List.take_zero]; exact Nu_nil _⟩, ⟨by rw [List.take_zero]; rfl⟩, ⟨Below.refl _ _⟩⟩
        case round =>
          obtain ⟨k, va, hk, rfl, rfl, HN, HA, HB⟩ := hrel
          by_cases hlt : k < s.size
          · obtain ⟨b, hb⟩ : ∃ b, b = s.data.toList.getD k 0 := ⟨_, rfl⟩
            obtain ⟨n, hn⟩ : ∃ n, n = b.toNat := ⟨_, rfl⟩
            have hn8 : n < 256 := by rw [hn]; exact b.toNat_lt
            have hidx : ∀ W : World, (Instr.index 9 (.string s) (.int .i64 (k : Int))).run Tryd.prog W = .ok (.int .u8 (n : Int)) W := fun W => by
              have h0 : (0 : Int) ≤ (k : Int) ∧ (k : Int) < s.size := by omega
              rw [run_index_string W _ s _ _ Tryd.underlying9, dif_pos h0, hn, hb, List.getD_eq_getElem?_getD, List.getElem?_eq_getElem (by rw [HLN.out]; exact hlt)]
              rfl
            have HBB := Aside0.mk hb
            have HNN := Aside0.mk hn
            clear hb hn
            by_cases hd1 : n < 48
            · have HP := Aside0.mk (pcode_bad (l := s.data.toList) (by rw [HLN.out]; exact h1) HF.out k (by rw [HLN.out]; exact hlt) (by rw [← HBB.out]; exact isDig_not (by rw [← HNN.out]; omega)))
              have hd1' : (n : Int) < 48 := by omega
              go_wp2_with fail
              go_ret2
              exact parse_bad HP.out HB.out
            · by_cases hd2 : 57 < n
              · have HP := Aside0.mk (pcode_bad (l := s.data.toList) (by rw [HLN.out]; exact h1) HF.out k (by rw [HLN.out]; exact hlt) (by rw [← HBB.out]; exact isDig_not (by rw [← HNN.out]; omega)))
                have hd1' : ¬ (n : Int) < 48 := by omega
                have hd2' : 57 < (n : Int) := by omega
                go_wp2_with fail
                go_ret2
                exact parse_bad HP.out HB.out
              · have HST := Aside0.mk (parse_step (l := s.data.toList) (k := k) (by rw [HLN.out]; exact hlt) HBB.out (by rw [← HNN.out]; omega) (by rw [← HNN.out]; omega) HA.out)
                obtain ⟨d, hd⟩ : ∃ d : Nat, d = n - 48 := ⟨_, rfl⟩
                have HD := Aside0.mk (show d = b.toNat - 48 by rw [← HNN.out]; exact hd)
                have hnd : n = d + 48 := by omega
                have hd9 : d ≤ 9 := by omega
                clear hd
                subst hnd
                have hsub : ((d + 48 : Nat) : Int) - 48 = (d : Int) := by omega
                have hsub2 : (d : Int) + 48 - 48 = (d : Int) := by omega
                have HV := Aside0.mk (take_lt k HA.out (by rw [HLN.out]; exact H400.out))
                obtain ⟨x, hx⟩ : ∃ x, x = decVal (s.data.toList.take k) := ⟨_, rfl⟩
                rw [← hx] at HN HV HST
                clear hx
                have hw1 : IntKind.u8.wrap (d : Int) = (d : Int) := by rw [IntKind.wrap_u8]; omega
                have hw2 : IntKind.u64.wrap (d : Int) = (d : Int) := u64_in (by omega) (by omega)
                have hw3 : IntKind.u8.wrap ((d : Int) + 48 - 48) = (d : Int) := by rw [hsub2]; exact hw1
                have HM := Aside0.mk (fun (W : World) (v : Value) (hW : Below wr.heap.size wr W) (hv : Nu W v 10) => show Calls Tryd.prog 50 #[va, v] W (StepPost wr W (x * 10)) from (rmulN (HN.out.below hW) hv (pw_lt1000 HV.out (by omega)) (pw_lt1000 (show 10 < pw 1 by decide) (by omega))).mono fun _ _ h => step_post hW h)
                have HOF := Aside0.mk (fun (W : World) (hW : Below wr.heap.size wr W) => show Calls Tryd.prog 46 #[.int .u64 (d : Int)] W (StepPost wr W d) from (rofN d (by omega)).mono fun _ _ h => step_post hW h)
                have HAD := Aside0.mk (fun (W : World) (v v2 : Value) (hW : Below wr.heap.size wr W) (h1 : Nu W v (x * 10)) (h2 : Nu W v2 d) => show Calls Tryd.prog 49 #[v, v2] W (StepPost wr W (x * 10 + d)) from (raddN h1 h2 (Nat.lt_of_lt_of_le (pw_mulb HV.out (show 10 < pw 1 by decide)) (pw_le (by omega))) (pw_lt1000 (show d < pw 1 by have : pw 1 = 4294967296 := rfl; omega) (by omega))).mono fun _ _ h => step_post hW h)
                go_wp2_with fail
                go_region_with (first
                  | (go_at_call 50; (with_reducible refine (HM.out _ _ (by with_reducible repeat (first | exact Below.refl _ _ | exact HB2.out | exact HB3.out | refine Below.drew ?_ | refine below_drewN' ?_ | refine below_alloc ?_ _)) (by with_reducible repeat (first | exact lit10 _ | assumption | refine hT3 _ _ ?_ | refine hT2 _ _ ?_ | refine Nu_drew ?_ | refine Nu_drewN ?_))).mono ?_); rintro e w2 ⟨v2, rfl, hN2, hB2, hT2⟩; have HB2 := Aside0.mk hB2; clear hB2)
                  | (go_at_call 46; (with_reducible refine (HOF.out _ (by with_reducible repeat (first | exact Below.refl _ _ | exact HB2.out | exact HB3.out | refine Below.drew ?_ | refine below_drewN' ?_ | refine below_alloc ?_ _))).mono ?_); rintro e w3 ⟨v3, rfl, hN3, hB3, hT3⟩; have HB3 := Aside0.mk hB3; clear hB3)
                  | (go_at_call 49; (with_reducible refine (HAD.out _ _ _ (by with_reducible repeat (first | exact Below.refl _ _ | exact HB2.out | exact HB3.out | refine Below.drew ?_ | refine below_drewN' ?_ | refine below_alloc ?_ _)) (by with_reducible repeat (first | exact lit10 _ | assumption | refine hT3 _ _ ?_ | refine hT2 _ _ ?_ | refine Nu_drew ?_ | refine Nu_drewN ?_)) (by with_reducible repeat (first | exact lit10 _ | assumption | refine hT3 _ _ ?_ | refine hT2 _ _ ?_ | refine Nu_drew ?_ | refine Nu_drewN ?_))).mono ?_); rintro e w4 ⟨v4, rfl, hN4, hB4, hT4⟩; have HB4 := Aside0.mk hB4; have HN4 := Aside0.mk (show Nu w4 v4 (decVal (s.data.toList.take (k + 1))) by rw [HST.out.1, ← HD.out]; exact hN4); clear hB4 hN4))
                all_goals
                  go_wp2_with fail
                  go_roundw
                  case rel => exact ⟨k + 1, v4, by omega, by go_num, rfl, ⟨by with_reducible first | exact HN4.out | exact Nu_drew HN4.out | exact Nu_drewN HN4.out⟩, ⟨HST.out.2⟩, ⟨HB.out.trans ((show Below wr.heap.size wr _ by with_reducible first | exact HB4.out | exact HB4.out.drew | exact below_drewN' HB4.out).mono HB.out.size)⟩⟩
                  case measure => simp [intOf]; omega
          · have hk2 : k = s.size := by omega
            subst hk2
            have HT := Aside0.mk (show s.data.toList.take s.size = s.data.toList from List.take_of_length_le (by rw [HLN.out]; exact Nat.le_refl _))
            rw [HT.out] at HN HA
            have HP := Aside0.mk (pcode_good (l := s.data.toList) (by rw [HLN.out]; exact h1) HF.out HA.out)
            go_wp2_with fail
            go_ret2
            exact parse_ok HP.out HN.out HB.out
end Go.Proofs.YtklhpobphloehaaDoor.G
