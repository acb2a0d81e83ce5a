/- Contracts by hand: the law's Make; numbers as values: each call, at any two numbers. -/
import Derived.Test.YtklhpobphloehaaDoorG5
import Derived.Test.YtklhpobphloehaaDoorG8
import Derived.Test.YtklhpobphloehaaDoorG9
set_option linter.unusedVariables false
namespace Go.Proofs.YtklhpobphloehaaDoor.G
open Go.RowKit Go.Proofs.YtklhpobphloehaaDoorW.PrintWords Go.Proofs.YtklhpobphloehaaDoorW.PrintLast Go.Proofs.YtklhpobphloehaaDoor.Nn

/-- A value that is a number. -/
def Nu (w : World) (v : Value) (n : Nat) : Prop := ∃ A c, v = .slice A (digs n).length c ∧ (digs n).length ≤ c ∧ CU w A (digs n).length (digs n)
theorem Nu.below {w w1 : World} {v : Value} {n : Nat} (h : Nu w v n) (hb : Below w.heap.size w w1) : Nu w1 v n := by
  obtain ⟨A, c, e, hc, hC⟩ := h
  exact ⟨A, c, e, hc, CU_below hC hb⟩
theorem Nu_of_RU {w : World} {base : Nat} {v : Value} {n : Nat} (h : RU w base v (digs n)) : Nu w v n := RU_slice h
theorem Nu_nil (w : World) : Nu w (.slice none 0 0) 0 := by
  refine ⟨none, 0, ?_, ?_, ?_⟩
  · rw [digs_zero]; rfl
  · rw [digs_zero]; exact Nat.le_refl _
  · rw [digs_zero]
    exact reads_CU ⟨rfl, by simp, fun h => absurd h (by simp)⟩
theorem small_len {n : Nat} (h : n < pw 1000) : (digs n).length < 1000000 := by have := digs_length_le h; omega

def NuPost (w : World) (n : Nat) (e : Ending) (w' : World) : Prop := ∃ v, e = .returned v ∧ Nu w' v n ∧ Below w.heap.size w w'
theorem NuPost_of {w : World} {n : Nat} (e : Ending) (w' : World) (h : NumPost w n e w') : NuPost w n e w' := by
  obtain ⟨v, he, hR, hB⟩ := h
  exact ⟨v, he, Nu_of_RU hR, hB⟩

/-- The end of Make: what is cut off is nought. -/
theorem make_post {w w1 : World} {l t : List Int} {A1 : Option Addr} {k c1 M m : Nat} (hz : ∀ j, k ≤ j → t.getD j 0 = 0) (hn : k = 0 ∨ t.getD (k - 1) 0 ≠ 0) (hk : k ≤ M) (ht : t.length = M) (hT : t = l.take m) (hL : Lim t) (hC : CU w1 A1 M t) (hc : M ≤ c1) (hB : Below w.heap.size w w1) :
    NuPost w (val (l.take m)) (.returned (.slice A1 k c1)) w1 := by
  have h1 := strip_take t k (by omega) hz hn
  rw [strip_eq hL, hT] at h1
  have h2 : (digs (val (l.take m))).length = k := by rw [h1, ← hT, List.length_take]; omega
  refine ⟨_, rfl, ⟨A1, c1, by rw [h2], by omega, ?_⟩, hB⟩
  rw [h2, h1, ← hT]
  subst ht
  exact CU_take hC k hk
set_option maxHeartbeats 2000000 in
set_option maxRecDepth 100000 in
theorem make_w (A : Option Addr) (c : Nat) (l : List Int) (m : Nat) (w : World) (hr : CU w A l.length l) (hc : l.length ≤ c) (hL : Lim l) (hm : m < 1000000) :
    Calls Tryd.prog 24 #[.slice A l.length c, .int .i64 (m : Int)] w (NuPost w (val (l.take m))) := by
  have HR := Aside0.mk hr
  have hlm : l.length ≤ 9223372036854775807 := hr.2.1
  clear hr
  obtain ⟨M, hM⟩ : ∃ M, M = min l.length m := ⟨_, rfl⟩
  have hMl : M ≤ l.length := by omega
  have hMb : M < 1000000 := by omega
  have hT : l.take M = l.take m := by
    rw [hM]
    rcases Nat.le_total l.length m with h | h
    · rw [Nat.min_eq_left h, List.take_of_length_le (Nat.le_refl _), List.take_of_length_le h]
    · rw [Nat.min_eq_right h]
  have HT := Aside0.mk hT
  have hTl : (l.take M).length = M := by rw [List.length_take]; omega
  have HTl := Aside0.mk hTl
  have hcut := fun W => cut_h A l.length c M (by omega) W
  have HLT := Aside0.mk (hL.take M)
  have HCT := Aside0.mk (CU_take HR.out M hMl)
  have key : ∀ (Q : Prop), (l.length ≤ m → M = l.length → Q) → (m < l.length → M = m → Q) → Q := fun Q h1 h2 => by
    rcases Nat.lt_or_ge m l.length with h | h
    · exact h2 h (by omega)
    · exact h1 h (by omega)
  clear hT hTl hM
  refine key _ (fun h1 h2 => ?_) (fun h1 h2 => ?_)
  · clear key
    subst h2
    have h3 : ¬ ((m : Int) < (l.length : Int)) := by omega
    have h4 : ¬ (m < l.length) := by omega
    go_enter Tryd.func24, Tryd.ntmps24
    go_wp2_with (at_builtin; refine append_fresh w rfl (.tmp 6) (.tmp 12) rfl A l.length c (l.take l.length) rfl rfl HCT.out (by omega) ?_; intro v1 w1 hR1 hB1; obtain ⟨A1, c1, e, hc1, hC1⟩ := RU_slice hR1; subst e; have HB1 := Aside0.mk hB1; rw [HTl.out] at hC1 hc1; have HC1 := Aside0.mk hC1; have HCC := Aside0.mk hc1; clear hR1 hB1 hC1 hc1)
    try rw [HTl.out]
    go_loop [5] (fun v => ∃ k : Nat, k ≤ l.length ∧ v = .slice A1 k c1 ∧ Aside0 (∀ j, k ≤ j → (l.take l.length).getD j 0 = 0)) (fun v => match v with | .slice _ n _ => n | _ => 0)
    case atStart => exact ⟨l.length, Nat.le_refl _, rfl, ⟨fun j hj => by rw [List.getD_eq_getElem?_getD, List.getElem?_eq_none (by rw [HTl.out]; exact hj)]; rfl⟩⟩
    case round =>
      obtain ⟨k, hk, rfl, hz⟩ := hrel
      rcases Nat.eq_zero_or_pos k with rfl | hk0
      · go_wp2_with fail
        go_ret
        exact make_post hz.out (.inl rfl) (Nat.zero_le _) HTl.out (by first | rfl | exact HT.out) HLT.out HC1.out HCC.out HB1.out
      · obtain ⟨ad, e, hcell⟩ := CU_at HC1.out (k - 1) (by omega)
        subst e
        by_cases hzk : (l.take l.length).getD (k - 1) 0 = 0
        · rw [hzk] at hcell
          have hc2 : ∀ W : World, (Instr.slice 22 (.slice (some ad) k c1) none (some (.int .i64 ((k : Int) - 1))) none).run Tryd.prog W = .ok (.slice (some ad) (k - 1) c1) W := fun W => by
            rw [show (k : Int) - 1 = ((k - 1 : Nat) : Int) from by omega]
            exact cut_h (some ad) k c1 (k - 1) (by have := HCC.out; omega) W
          have HZ := Aside0.mk hzk
          clear hzk
          go_wp2_with fail
          go_round
          case rel => exact ⟨k - 1, by omega, rfl, ⟨fun j hj => by
            rcases Nat.lt_or_ge j k with h | h
            · have : j = k - 1 := by omega
              rw [this]; exact HZ.out
            · exact hz.out j h⟩⟩
          case measure => first | (simp; done) | (simp; omega) | omega
        · obtain ⟨x, hx⟩ : ∃ x, x = (l.take l.length).getD (k - 1) 0 := ⟨_, rfl⟩
          rw [← hx] at hcell hzk
          have hb : (x == 0) = false := beq_eq_false_iff_ne.2 hzk
          have HX := Aside0.mk hx
          have HZ := Aside0.mk hzk
          clear hx hzk
          go_wp2_with fail
          go_ret
          exact make_post hz.out (.inr (by rw [← HX.out]; exact HZ.out)) hk HTl.out (by first | rfl | exact HT.out) HLT.out HC1.out HCC.out HB1.out
  · clear key
    subst h2
    go_enter Tryd.func24, Tryd.ntmps24
    go_wp2_with (at_builtin; refine append_fresh w rfl (.tmp 6) (.tmp 12) rfl A M c (l.take M) rfl rfl HCT.out (by omega) ?_; intro v1 w1 hR1 hB1; obtain ⟨A1, c1, e, hc1, hC1⟩ := RU_slice hR1; subst e; have HB1 := Aside0.mk hB1; rw [HTl.out] at hC1 hc1; have HC1 := Aside0.mk hC1; have HCC := Aside0.mk hc1; clear hR1 hB1 hC1 hc1)
    try rw [HTl.out]
    go_loop [5] (fun v => ∃ k : Nat, k ≤ M ∧ v = .slice A1 k c1 ∧ Aside0 (∀ j, k ≤ j → (l.take M).getD j 0 = 0)) (fun v => match v with | .slice _ n _ => n | _ => 0)
    case atStart => exact ⟨M, Nat.le_refl _, rfl, ⟨fun j hj => by rw [List.getD_eq_getElem?_getD, List.getElem?_eq_none (by rw [HTl.out]; exact hj)]; rfl⟩⟩
    case round =>
      obtain ⟨k, hk, rfl, hz⟩ := hrel
      rcases Nat.eq_zero_or_pos k with rfl | hk0
      · go_wp2_with fail
        go_ret
        exact make_post hz.out (.inl rfl) (Nat.zero_le _) HTl.out (by first | rfl | exact HT.out) HLT.out HC1.out HCC.out HB1.out
      · obtain ⟨ad, e, hcell⟩ := CU_at HC1.out (k - 1) (by omega)
        subst e
        by_cases hzk : (l.take M).getD (k - 1) 0 = 0
        · rw [hzk] at hcell
          have hc2 : ∀ W : World, (Instr.slice 22 (.slice (some ad) k c1) none (some (.int .i64 ((k : Int) - 1))) none).run Tryd.prog W = .ok (.slice (some ad) (k - 1) c1) W := fun W => by
            rw [show (k : Int) - 1 = ((k - 1 : Nat) : Int) from by omega]
            exact cut_h (some ad) k c1 (k - 1) (by have := HCC.out; omega) W
          have HZ := Aside0.mk hzk
          clear hzk
          go_wp2_with fail
          go_round
          case rel => exact ⟨k - 1, by omega, rfl, ⟨fun j hj => by
            rcases Nat.lt_or_ge j k with h | h
            · have : j = k - 1 := by omega
              rw [this]; exact HZ.out
            · exact hz.out j h⟩⟩
          case measure => first | (simp; done) | (simp; omega) | omega
        · obtain ⟨x, hx⟩ : ∃ x, x = (l.take M).getD (k - 1) 0 := ⟨_, rfl⟩
          rw [← hx] at hcell hzk
          have hb : (x == 0) = false := beq_eq_false_iff_ne.2 hzk
          have HX := Aside0.mk hx
          have HZ := Aside0.mk hzk
          clear hx hzk
          go_wp2_with fail
          go_ret
          exact make_post hz.out (.inr (by rw [← HX.out]; exact HZ.out)) hk HTl.out (by first | rfl | exact HT.out) HLT.out HC1.out HCC.out HB1.out
end Go.Proofs.YtklhpobphloehaaDoor.G
