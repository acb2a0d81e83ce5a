/- Contracts by hand: slices.Clone at []uint32, nat.cut, the reference's trim, the law's Make: limbs without noughts at the end, in memory of the call's own. -/
import Derived.Test.YtklhpobphloehaaDoorW
set_option linter.unusedVariables false
namespace Go.Proofs.YtklhpobphloehaaDoor.G
open Go.RowKit Go.Proofs.YtklhpobphloehaaDoorW.PrintWords Go.Proofs.YtklhpobphloehaaDoorW.PrintLast Go.Proofs.YtklhpobphloehaaDoor.Nn

def slices_Clone_uint32_uint32.f (l0 : List Int) : Option (List Int) := if l0.length ≤ 35184372088832 then some l0 else none
set_option maxHeartbeats 1000000 in
set_option maxRecDepth 100000 in
theorem slices_Clone_uint32_uint32.calls (A0 : Option Addr) (c0 : Nat) (l0 : List Int) (r : List Int) (w : World) (hr0 : Kd.C (Kd.int .u32) w A0 l0.length l0) (hc0 : l0.length ≤ c0) (h : slices_Clone_uint32_uint32.f l0 = some r) :
    Calls Tryd.prog 80 #[.slice A0 l0.length c0] w fun e w' => ∃ v0_ : Value, e = .returned (v0_) ∧ Kd.R (Kd.int .u32) 54 w' w.heap.size (fun _ => True) v0_ r ∧ Below w.heap.size w w' := by
  unfold slices_Clone_uint32_uint32.f at h
  by_cases hl : l0.length ≤ 35184372088832
  · rw [if_pos hl] at h
    obtain rfl := Option.some.inj h
    clear h
    have HR := Aside0.mk hr0
    have HL := Aside0.mk hl
    clear hr0 hl
    have hnil : ∀ W : World, (binOp .eql 22 (.slice A0 l0.length c0) (.slice none 0 0)).run Tryd.prog W = .ok (.bool A0.isNone) W := fun W => Lib.run_eql_slice_nil W 22 54 A0 l0.length c0 0 0 Tryd.underlying22
    rcases A0 with _ | ad
    · have h0 : l0 = [] := by
        rcases Nat.eq_zero_or_pos l0.length with h | h
        · exact List.eq_nil_of_length_eq_zero h
        · obtain ⟨ad, e, _⟩ := CU_at HR.out 0 h
          cases e
      subst h0
      rw [List.length_nil] at hnil
      go_enter Tryd.func80, Tryd.ntmps80
      go_wp2
      go_ret
      exact ⟨_, rfl, Kd.R_nil _ _ _ _ _, Below.refl _ _⟩
    · go_enter Tryd.func80, Tryd.ntmps80
      go_wp2_with (at_builtin; refine append_fresh w rfl (.tmp 5) (.tmp 6) rfl (some ad) l0.length c0 l0 rfl rfl HR.out HL.out ?_; intro v1 w1 hR1 hB1; have HR1 := Aside0.mk hR1; have HB1 := Aside0.mk hB1; clear hR1 hB1)
      go_ret
      exact ⟨_, rfl, HR1.out, HB1.out⟩
  · rw [if_neg hl] at h
    cases h

def CutPost (w : World) (l : List Int) (e : Ending) (w' : World) : Prop := ∃ v, e = .returned v ∧ RU w' w.heap.size v (strip l) ∧ Below w.heap.size w w'

/-- The end: what is cut off is nought. -/
theorem cut_post {w w' : World} {l : List Int} {v : Value} {k : Nat} (hk : k ≤ l.length) (hz : ∀ j, k ≤ j → l.getD j 0 = 0) (hn : k = 0 ∨ l.getD (k - 1) 0 ≠ 0) (hR : RU w' w.heap.size v (l.take k)) (hB : Below w.heap.size w w') : CutPost w l (.returned v) w' :=
  ⟨v, rfl, by rw [strip_take l k hk hz hn]; exact hR, hB⟩

def anticlineref1_trim.f (l0 : List Int) : Option (List Int) := if l0.length ≤ 35184372088832 then some (strip l0) else none
set_option maxHeartbeats 1000000 in
set_option maxRecDepth 100000 in
theorem trim_w (A : Option Addr) (c : Nat) (l : List Int) (w : World) (hr : CU w A l.length l) (hc : l.length ≤ c) (hl : l.length ≤ 35184372088832) :
    Calls Tryd.prog 87 #[.slice A l.length c] w (CutPost w l) := by
  have HR := Aside0.mk hr
  clear hr
  have hcut := fun (k : Nat) (h : k ≤ c) => cut_h A l.length c k h
  have HCUT := Aside0.mk hcut
  clear hcut
  go_enter Tryd.func87, Tryd.ntmps87
  go_wp2_with fail
  go_loop [3] (fun n => ∃ k : Nat, k ≤ l.length ∧ n = .int .i64 k ∧ Aside0 (∀ j, k ≤ j → l.getD j 0 = 0)) (fun n => (intOf n).toNat)
  case atStart => exact ⟨l.length, Nat.le_refl _, rfl, ⟨fun j hj => by rw [List.getD_eq_getElem?_getD, List.getElem?_eq_none hj]; rfl⟩⟩
  case round =>
    obtain ⟨k, hk, rfl, hz⟩ := hrel
    rcases Nat.eq_zero_or_pos k with rfl | hk0
    · have h0 := HCUT.out 0 (by omega)
      go_wp2_with (at_builtin; refine append_fresh w rfl (.tmp 18) (.tmp 21) rfl A 0 c [] rfl rfl (CU_take HR.out 0 (Nat.zero_le _)) (by omega) ?_; intro v1 w1 hR1 hB1; have HR1 := Aside0.mk hR1; have HB1 := Aside0.mk hB1; clear hR1 hB1)
      go_ret
      exact cut_post (Nat.zero_le _) hz.out (.inl rfl) HR1.out HB1.out
    · obtain ⟨ad, e, hcell⟩ := CU_at HR.out (k - 1) (by omega)
      subst e
      by_cases hzk : l.getD (k - 1) 0 = 0
      · rw [hzk] at hcell
        have HZ := Aside0.mk hzk
        clear hzk
        go_wp2_with fail
        go_round
        case rel => exact ⟨k - 1, by omega, by go_num, ⟨fun j hj => by
          rcases Nat.lt_or_ge j k with h | h
          · have : j = k - 1 := by omega
            rw [this]; exact HZ.out
          · exact hz.out j h⟩⟩
        case measure => simp [intOf]; omega
      · have h0 := HCUT.out k (by omega)
        obtain ⟨x, hx⟩ : ∃ x, x = l.getD (k - 1) 0 := ⟨_, rfl⟩
        rw [← hx] at hcell hzk
        have hb : (x == 0) = false := beq_eq_false_iff_ne.2 hzk
        have HX := Aside0.mk hx
        have HZ := Aside0.mk hzk
        clear hx hzk
        go_wp2_with (at_builtin; refine append_fresh w rfl (.tmp 18) (.tmp 21) rfl (some ad) k c (l.take k) rfl rfl (CU_take HR.out k hk) (by omega) ?_; intro v1 w1 hR1 hB1; have HR1 := Aside0.mk hR1; have HB1 := Aside0.mk hB1; clear hR1 hB1)
        go_ret
        exact cut_post hk hz.out (.inr (by rw [← HX.out]; exact HZ.out)) HR1.out HB1.out
theorem anticlineref1_trim.calls (A0 : Option Addr) (c0 : Nat) (l0 : List Int) (r : List Int) (w : World) (hr0 : Kd.C (Kd.int .u32) w A0 l0.length l0) (hc0 : l0.length ≤ c0) (h : anticlineref1_trim.f l0 = some r) :
    Calls Tryd.prog 87 #[.slice A0 l0.length c0] w fun e w' => ∃ v0_ : Value, e = .returned (v0_) ∧ Kd.R (Kd.int .u32) 54 w' w.heap.size (fun _ => True) v0_ r ∧ Below w.heap.size w w' := by
  unfold anticlineref1_trim.f at h
  by_cases hl : l0.length ≤ 35184372088832
  · rw [if_pos hl] at h
    obtain rfl := Option.some.inj h
    exact trim_w A0 c0 l0 w hr0 hc0 hl
  · rw [if_neg hl] at h
    cases h

def nat_cut.f (l0 : List Int) : Option (List Int) := if l0.length ≤ 35184372088832 then some (strip l0) else none
set_option maxHeartbeats 1000000 in
set_option maxRecDepth 100000 in
theorem cut_w (A : Option Addr) (c : Nat) (l : List Int) (w : World) (hr : CU w A l.length l) (hc : l.length ≤ c) (hl : l.length ≤ 35184372088832) :
    Calls Tryd.prog 86 #[.slice A l.length c] w (CutPost w l) := by
  have HR := Aside0.mk hr
  clear hr
  have hcut := fun (k : Nat) (h : k ≤ c) => cut_hm A l.length c k h
  have HCUT := Aside0.mk hcut
  clear hcut
  have HCL : ∀ k, k ≤ l.length → Calls Tryd.prog 80 #[.slice A k k] w fun e w' => ∃ v0_ : Value, e = .returned (v0_) ∧ RU w' w.heap.size v0_ (l.take k) ∧ Below w.heap.size w w' := by
    intro k hk
    have e : (l.take k).length = k := by rw [List.length_take]; omega
    have := slices_Clone_uint32_uint32.calls A k (l.take k) (l.take k) w (by rw [e]; exact CU_take HR.out k hk) (by omega) (by unfold slices_Clone_uint32_uint32.f; rw [if_pos (by omega)])
    rw [e] at this
    exact this
  have HCL := Aside0.mk HCL
  go_enter Tryd.func86, Tryd.ntmps86
  go_wp2_with fail
  go_loop [3] (fun n => ∃ k : Nat, k ≤ l.length ∧ n = .int .i64 k ∧ Aside0 (∀ j, k ≤ j → l.getD j 0 = 0)) (fun n => (intOf n).toNat)
  case atStart => exact ⟨l.length, Nat.le_refl _, rfl, ⟨fun j hj => by rw [List.getD_eq_getElem?_getD, List.getElem?_eq_none hj]; rfl⟩⟩
  case round =>
    obtain ⟨k, hk, rfl, hz⟩ := hrel
    rcases Nat.eq_zero_or_pos k with rfl | hk0
    · have h0 := HCUT.out 0 (by omega)
      go_wp2_with fail
      refine (HCL.out 0 (Nat.zero_le _)).mono ?_
      rintro e w1 ⟨v1, rfl, hR1, hB1⟩
      have HR1 := Aside0.mk hR1
      have HB1 := Aside0.mk hB1
      clear hR1 hB1
      go_wp2_with fail
      go_ret
      exact cut_post (Nat.zero_le _) hz.out (.inl rfl) HR1.out HB1.out
    · obtain ⟨ad, e, hcell⟩ := CU_at HR.out (k - 1) (by omega)
      subst e
      by_cases hzk : l.getD (k - 1) 0 = 0
      · rw [hzk] at hcell
        have HZ := Aside0.mk hzk
        clear hzk
        go_wp2_with fail
        go_round
        case rel => exact ⟨k - 1, by omega, by go_num, ⟨fun j hj => by
          rcases Nat.lt_or_ge j k with h | h
          · have : j = k - 1 := by omega
            rw [this]; exact HZ.out
          · exact hz.out j h⟩⟩
        case measure => simp [intOf]; omega
      · have h0 := HCUT.out k (by omega)
        obtain ⟨x, hx⟩ : ∃ x, x = l.getD (k - 1) 0 := ⟨_, rfl⟩
        rw [← hx] at hcell hzk
        have hb : (x == 0) = false := beq_eq_false_iff_ne.2 hzk
        have HX := Aside0.mk hx
        have HZ := Aside0.mk hzk
        clear hx hzk
        go_wp2_with fail
        refine (HCL.out k hk).mono ?_
        rintro e w1 ⟨v1, rfl, hR1, hB1⟩
        have HR1 := Aside0.mk hR1
        have HB1 := Aside0.mk hB1
        clear hR1 hB1
        go_wp2_with fail
        go_ret
        exact cut_post hk hz.out (.inr (by rw [← HX.out]; exact HZ.out)) HR1.out HB1.out
theorem nat_cut.calls (A0 : Option Addr) (c0 : Nat) (l0 : List Int) (r : List Int) (w : World) (hr0 : Kd.C (Kd.int .u32) w A0 l0.length l0) (hc0 : l0.length ≤ c0) (h : nat_cut.f l0 = some r) :
    Calls Tryd.prog 86 #[.slice A0 l0.length c0] w fun e w' => ∃ v0_ : Value, e = .returned (v0_) ∧ Kd.R (Kd.int .u32) 54 w' w.heap.size (fun _ => True) v0_ r ∧ Below w.heap.size w w' := by
  unfold nat_cut.f at h
  by_cases hl : l0.length ≤ 35184372088832
  · rw [if_pos hl] at h
    obtain rfl := Option.some.inj h
    exact cut_w A0 c0 l0 w hr0 hc0 hl
  · rw [if_neg hl] at h
    cases h
end Go.Proofs.YtklhpobphloehaaDoor.G
