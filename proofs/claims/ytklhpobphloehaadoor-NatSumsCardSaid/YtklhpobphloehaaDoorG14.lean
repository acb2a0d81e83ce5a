/- Contracts by hand: Small, of the program and of the reference. -/
import Derived.Test.YtklhpobphloehaaDoorG13
import Derived.Test.YtklhpobphloehaaDoorG11
set_option linter.unusedVariables false
namespace Go.Proofs.YtklhpobphloehaaDoor.G
open Go.RowKit Go.Proofs.YtklhpobphloehaaDoorW.PrintWords Go.Proofs.YtklhpobphloehaaDoorW.PrintLast Go.Proofs.YtklhpobphloehaaDoor.Nn

def smV (n : Nat) : Nat := if n < 18446744073709551616 then n else 0
def SmPost (w : World) (n : Nat) (e : Ending) (w' : World) : Prop := e = .returned (.tuple #[.int .u64 ((smV n : Nat) : Int), .bool (decide (n < 18446744073709551616))]) ∧ Below w.heap.size w w'
theorem sm_yes {w w' : World} {n v : Nat} (h : v = n) (hn : n < 18446744073709551616) (hB : Below w.heap.size w w') : SmPost w n (.returned (.tuple #[.int .u64 (v : Int), .bool true])) w' :=
  ⟨by unfold smV; rw [if_pos hn, decide_eq_true hn, h], hB⟩
theorem sm_no {w w' : World} {n : Nat} (hn : 18446744073709551616 ≤ n) (hB : Below w.heap.size w w') : SmPost w n (.returned (.tuple #[.int .u64 0, .bool false])) w' :=
  ⟨by unfold smV; rw [if_neg (by omega), decide_eq_false (by omega)]; rfl, hB⟩
theorem or_nil {x : Nat} (hx : x < 4294967296) : bits .or .u64 0 (x : Int) = (x : Int) := by
  have := @or_high2 x 0 hx (by decide)
  simpa using this
theorem sm_long {l : List Int} (h : Lim l) (hn : Norm l) (h2 : 2 < l.length) : 18446744073709551616 ≤ val l := by
  have e := nbits_top h hn (by omega)
  have hb := lt_pw_digs (val l)
  have h3 := val_pos_of_norm h hn (by intro e; rw [e] at h2; exact absurd h2 (by decide))
  have h4 := pw_le_of_digs (n := val l) (by omega)
  rw [digs_val h hn] at h4
  have h5 := pw_le (show 2 ≤ l.length - 1 by omega)
  have h6 : pw 2 = 18446744073709551616 := by decide
  omega
set_option maxHeartbeats 2000000 in
set_option maxRecDepth 100000 in
theorem smallN_w (A : Option Addr) (c : Nat) (l : List Int) (w : World) (hr : CU w A l.length l) (hL : Lim l) (hN : Norm l) (hl : l.length < 1000000) :
    Calls Tryd.prog 43 #[.slice A l.length c] w (SmPost w (val l)) := by
  have HR := Aside0.mk hr
  have HL := Aside0.mk hL
  have HC0 := bits_w A c l w hr hL hN hl
  obtain ⟨b, hb⟩ : ∃ b, b = nbits (val l) := ⟨_, rfl⟩
  rw [← hb] at HC0
  have HC := Aside0.mk HC0
  by_cases h2 : 2 < l.length
  · have hbig := sm_long hL hN h2
    have HBG := Aside0.mk hbig
    have hb1 : 64 < b := by rw [hb]; exact nbits_ge (k := 64) hbig
    have hbu : b ≤ 32000000 := by rw [hb]; have := nbits_pw (val_lt hL); omega
    clear hr hN hbig HC0 hb
    go_enter Tryd.func43, Tryd.ntmps43
    go_wp2_with fail
    refine HC.out.mono ?_
    rintro e w1 ⟨rfl, hB⟩
    have HB := Aside0.mk hB
    clear hB
    go_wp2_with fail
    go_ret2
    exact sm_no HBG.out HB.out
  · have hlt := val_lt hL
    have hlt2 : val l < 18446744073709551616 := by
      have := pw_le (show l.length ≤ 2 by omega)
      have h6 : pw 2 = 18446744073709551616 := by decide
      omega
    have HLT := Aside0.mk hlt2
    have hb1 : b ≤ 64 := by rw [hb]; exact nbits_le hlt2
    clear hr hN HC0 hb hlt hlt2
    go_enter Tryd.func43, Tryd.ntmps43
    go_wp2_with fail
    refine HC.out.mono ?_
    rintro e w1 ⟨rfl, hB⟩
    have HR2 := Aside0.mk (CU_below HR.out hB)
    have HB := Aside0.mk hB
    clear hB HC
    go_wp2_with fail
    go_loopw [4, 12] (fun vv ii wr => ∃ (k v : Nat), k ≤ l.length ∧ ii = .int .i64 (k : Int) ∧ vv = .int .u64 (v : Int) ∧ Aside0 (v = val (l.take k)) ∧ wr = w1) (fun _ ii _ => l.length - (intOf ii).toNat)
    case atStart => exact ⟨0, 0, Nat.zero_le _, rfl, rfl, ⟨rfl⟩, rfl⟩
    case round =>
      obtain ⟨k, v, hk, rfl, rfl, HV, rfl⟩ := hrel
      by_cases hkN : k < l.length
      · obtain ⟨ad, e, hcell⟩ := CU_at HR2.out k hkN
        subst e
        have hx1 := lm_lt hL k
        rw [lm_cast hL] at hcell
        obtain ⟨x, hx⟩ : ∃ x, x = lm l k := ⟨_, rfl⟩
        rw [← hx] at hcell hx1
        have HX := Aside0.mk hx
        clear hx
        rcases (show k = 0 ∨ k = 1 by omega) with rfl | rfl
        · have hv : v = 0 := by rw [HV.out]; rfl
          subst hv
          have hor := or_nil hx1
          have hcell0 : wr.cell? ad = some (.int .u32 (x : Int)) := hcell
          have HVX := Aside0.mk (show x = val (l.take 1) by rw [val_take_succ l 0, HX.out]; simp [val, pw_zero])
          go_wp2_with fail
          go_roundw
          case rel => exact ⟨1, x, by omega, by go_num, by go_num, ⟨HVX.out⟩, by trivial⟩
          case measure => simp [intOf]; omega
        · have hv1 : v < 4294967296 := by have := val_lt (hL.take 1); rw [← HV.out, List.length_take, Nat.min_eq_left (by omega)] at this; exact this
          have hor := or_high hv1 hx1
          have hcell1 : wr.cell? ⟨ad.block, ad.off + 1, none⟩ = some (.int .u32 (x : Int)) := hcell
          have HVX := Aside0.mk (show v + x * 4294967296 = val (l.take 2) by rw [val_take_succ l 1, ← HX.out, ← HV.out, show pw 1 = 4294967296 from by decide, Nat.mul_comm])
          go_wp2_with fail
          go_roundw
          case rel => exact ⟨2, v + x * 4294967296, by omega, by go_num, by go_num, ⟨HVX.out⟩, by trivial⟩
          case measure => simp [intOf]; omega
      · have hk2 : k = l.length := by omega
        have HV2 := Aside0.mk (show v = val l by rw [HV.out, hk2, List.take_length])
        subst hk2
        go_wp2_with fail
        go_ret2
        exact sm_yes HV2.out HLT.out HB.out
set_option maxHeartbeats 2000000 in
set_option maxRecDepth 100000 in
theorem rsmallN_w (A : Option Addr) (c : Nat) (l : List Int) (w : World) (hr : CU w A l.length l) (hL : Lim l) (hN : Norm l) (hl : l.length < 1000000) :
    Calls Tryd.prog 44 #[.slice A l.length c] w (SmPost w (val l)) := by
  have HR := Aside0.mk hr
  have HL := Aside0.mk hL
  by_cases h2 : 2 < l.length
  · have HBG := Aside0.mk (sm_long hL hN h2)
    clear hr hN
    go_enter Tryd.func44, Tryd.ntmps44
    go_wp2_with fail
    go_ret2
    exact sm_no HBG.out (Below.refl _ _)
  · have hlt := val_lt hL
    have hlt2 : val l < 18446744073709551616 := by
      have := pw_le (show l.length ≤ 2 by omega)
      have h6 : pw 2 = 18446744073709551616 := by decide
      omega
    have HLT := Aside0.mk hlt2
    clear hr hN hlt hlt2
    go_enter Tryd.func44, Tryd.ntmps44
    go_wp2_with fail
    go_loopw [4, 5] (fun vv ii wr => ∃ (k v : Nat), k ≤ l.length ∧ ii = .int .i64 (k : Int) ∧ vv = .int .u64 (v : Int) ∧ Aside0 (v = val (l.drop k)) ∧ wr = w) (fun _ ii _ => (intOf ii).toNat)
    case atStart => exact ⟨l.length, 0, Nat.le_refl _, rfl, rfl, ⟨by rw [List.drop_length]; rfl⟩, rfl⟩
    case round =>
      obtain ⟨k, v, hk, rfl, rfl, HV, rfl⟩ := hrel
      rcases Nat.eq_zero_or_pos k with rfl | hk0
      · have HV2 := Aside0.mk (show v = val l by rw [HV.out, List.drop_zero])
        go_wp2_with fail
        go_ret2
        exact sm_yes HV2.out HLT.out (Below.refl _ _)
      · obtain ⟨j, rfl⟩ : ∃ j, k = j + 1 := ⟨k - 1, by omega⟩
        obtain ⟨ad, e, hcell⟩ := CU_at HR.out j (by omega)
        subst e
        have hx1 := lm_lt hL j
        rw [lm_cast hL] at hcell
        obtain ⟨x, hx⟩ : ∃ x, x = lm l j := ⟨_, rfl⟩
        rw [← hx] at hcell hx1
        have HX := Aside0.mk hx
        clear hx
        have hv1 : v < 4294967296 := by
          have := val_lt (hL.drop (j + 1))
          rw [← HV.out, List.length_drop] at this
          exact Nat.lt_of_lt_of_le this (pw_le (b := 1) (by omega))
        have hi : ((j : Int) + 1 - 1).toNat = j := by omega
        have hor := or_high2 hx1 hv1
        have HVX := Aside0.mk (show x + v * 4294967296 = val (l.drop j) by rw [val_drop_at l j, ← HX.out, ← HV.out, Nat.mul_comm])
        go_wp2_with fail
        go_roundw
        case rel => exact ⟨j, x + v * 4294967296, by omega, by go_num, by go_num, ⟨HVX.out⟩, by trivial⟩
        case measure => simp [intOf]
theorem smallN {w : World} {vx : Value} {x : Nat} (hx : Nu w vx x) (bx : x < pw 1000) : Calls Tryd.prog 43 #[vx] w (SmPost w x) := by
  obtain ⟨A0, c0, rfl, h0, C0⟩ := hx
  have h := smallN_w A0 c0 (digs x) w C0 (lim_digs x) (norm_digs x) (small_len bx)
  rwa [val_digs] at h
theorem rsmallN {w : World} {vx : Value} {x : Nat} (hx : Nu w vx x) (bx : x < pw 1000) : Calls Tryd.prog 44 #[vx] w (SmPost w x) := by
  obtain ⟨A0, c0, rfl, h0, C0⟩ := hx
  have h := rsmallN_w A0 c0 (digs x) w C0 (lim_digs x) (norm_digs x) (small_len bx)
  rwa [val_digs] at h
end Go.Proofs.YtklhpobphloehaaDoor.G
