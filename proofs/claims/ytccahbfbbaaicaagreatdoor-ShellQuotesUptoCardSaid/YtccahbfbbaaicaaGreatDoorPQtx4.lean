/- Made by program out of the translation: what these functions compute. -/
import Derived.Test.YtccahbfbbaaicaaGreatDoorPQtx0
import Derived.Test.YtccahbfbbaaicaaGreatDoorPQtx2
import Derived.Test.YtccahbfbbaaicaaGreatDoorPQtx3
import Derived.Test.YtccahbfbbaaicaaGreatDoorGiv
import Derived.Test.YtccahbfbbaaicaaGreatDoorGiv2
namespace Go.Proofs.YtccahbfbbaaicaaGreatDoor.PQt
open Go.RowKit Go.Proofs.YtccahbfbbaaicaaGreatDoor.Giv Go.Proofs.YtccahbfbbaaicaaGreatDoorW.PrintWords Go.Proofs.YtccahbfbbaaicaaGreatDoorW.PrintLast Go.Proofs.YtccahbfbbaaicaaGreatDoorW.PrintMore
attribute [local go_sem] max2_int min2_int max_two min_two max_three min_three max_four min_four   -- for this text's walks alone
set_option linter.unusedVariables false
set_option linter.unusedSimpArgs false
mutual
def anticlinelaw18_ShellQuotes.j1 : Nat → List (List Int) → ByteArray → ByteArray → Int → Option (Bool)
 | 0, _, _, _, _ => none
 | k + 1, x0, x1, x5, x6 => if x5.size + 1 ≤ 9223372036854775807 then (if (x5 ++ (⟨#[35]⟩ : ByteArray)).size + x1.size ≤ 9223372036854775807 then ((shell_Words.f k ((x5 ++ (⟨#[35]⟩ : ByteArray)) ++ x1)).bind fun bt172 => (if bt172.2 = 0 then (anticlinelaw18_ShellQuotes.j2 k x0 x6 bt172.1 ((bt172.1.length : Int) != x6)) else (anticlinelaw18_ShellQuotes.j2 k x0 x6 bt172.1 true))) else (none)) else (none)
def anticlinelaw18_ShellQuotes.j2 : Nat → List (List Int) → Int → List ByteArray → Bool → Option (Bool)
 | 0, _, _, _, _ => none
 | k + 1, x0, x6, x8, x54 => if x54 = true then (some false) else (anticlinelaw18_ShellQuotes.l1 k x0 x6 x8 0)
def anticlinelaw18_ShellQuotes.l1 : Nat → List (List Int) → Int → List ByteArray → Int → Option (Bool)
 | 0, _, _, _, _ => none
 | k + 1, x0, x6, x8, x10 => if x10 < x6 then (if 0 ≤ x10 then (if x10 < (x8.length : Int) then (if x10 < (x0.length : Int) then (if (rdOf ByteArray.empty x8 x10).toList = (strOfNums (rd_L2 x0 x10)).toList then (anticlinelaw18_ShellQuotes.l1 k x0 x6 x8 (wrap64 (x10 + 1))) else (some false)) else (none)) else (none)) else (none)) else (some true)
def anticlinelaw18_ShellQuotes.l0 : Nat → List (List Int) → ByteArray → ByteArray → Int → Int → Option (Bool)
 | 0, _, _, _, _, _ => none
 | k + 1, x0, x1, x5, x6, x7 => if x7 < (x0.length : Int) then (if x7 < 20 then (if (x5.size : Int) < 16384 then (if x5.size + 1 ≤ 9223372036854775807 then (if 0 ≤ x7 then ((shell_Quote.f k (rd_L2 x0 x7)).bind fun t171 => (if (x5 ++ (⟨#[32]⟩ : ByteArray)).size + t171.size ≤ 9223372036854775807 then (if ((x5 ++ (⟨#[32]⟩ : ByteArray)) ++ t171).size + 1 ≤ 9223372036854775807 then (anticlinelaw18_ShellQuotes.l0 k x0 x1 (((x5 ++ (⟨#[32]⟩ : ByteArray)) ++ t171) ++ (⟨#[9]⟩ : ByteArray)) (wrap64 (x6 + 1)) (wrap64 (x7 + 1))) else (none)) else (none))) else (none)) else (none)) else (anticlinelaw18_ShellQuotes.j1 k x0 x1 x5 x6)) else (anticlinelaw18_ShellQuotes.j1 k x0 x1 x5 x6)) else (anticlinelaw18_ShellQuotes.j1 k x0 x1 x5 x6)
end
def anticlinelaw18_ShellQuotes.f (k : Nat) (l0 : List (List Int)) (a1 : ByteArray) : Option (Bool) := (anticlinelaw18_known.f).bind fun t169 => (if t169 = true then (anticlinelaw18_ShellQuotes.l0 k l0 a1 (⟨#[]⟩ : ByteArray) 0 0) else (some false))
set_option maxHeartbeats 8000000 in
set_option maxRecDepth 100000 in
theorem anticlinelaw18_ShellQuotes.calls (k : Nat) (A0 : Option Addr) (c0 : Nat) (l0 : List (List Int)) (a1 : ByteArray) (r : Bool) (w : World) (hr0 : Kd.C (Kd.slice 5 (Kd.int .u8)) w A0 l0.length l0) (hc0 : l0.length ≤ c0) (h : anticlinelaw18_ShellQuotes.f k l0 a1 = some r) (hkn : ∀ wr : World, Below w.heap.size w wr → Calls Tryz.prog 5 #[] wr (fun e w' => e = .returned (.bool true) ∧ Below wr.heap.size wr w')) :
  Calls Tryz.prog 4 #[.slice A0 l0.length c0, .string a1] w fun e w' => e = .returned (.bool r) ∧ Below w.heap.size w w' := by
 have HKN := Aside0.mk hkn
 clear hkn
 have HR0 := Aside0.mk hr0
 have HC0 := Aside0.mk hc0
 clear hr0 hc0
 have HB := Aside0.mk (Below.refl w.heap.size w)
 have H : ((anticlinelaw18_known.f).bind fun t169 => (if t169 = true then (anticlinelaw18_ShellQuotes.l0 k l0 a1 (⟨#[]⟩ : ByteArray) 0 0) else (some false))) = some r := h
 clear h
 replace H := Option.bind_eq_some_iff.mp H
 obtain ⟨t169, A30, H⟩ := H
 replace H : (if t169 = true then (anticlinelaw18_ShellQuotes.l0 k l0 a1 (⟨#[]⟩ : ByteArray) 0 0) else (some false)) = some r := H
 have A3 := Aside0.mk A30
 clear A30
 by_cases c4 : t169 = true
 ·subst c4
  have H1 : (anticlinelaw18_ShellQuotes.l0 k l0 a1 (⟨#[]⟩ : ByteArray) 0 0) = some r := by rw [if_pos rfl] at H; exact H
  clear H
  have H := H1
  clear H1
  have HC5 := Aside0.mk H
  clear H
  go_enter Tryz.func4, Tryz.ntmps4
  go_upto_block 0 with (first | (go_at_call 5; (with_reducible refine (HKN.out _ (by repeat (first | (with_reducible first | exact HB.out | apply below_alloc | apply pw_below_drewN | apply below_drew1) | exact HB.out))).mono ?_); rintro e w6 ⟨rfl, hb⟩; have n0_ := Aside0.mk (below_step (by repeat (first | (with_reducible first | exact HB.out | apply below_alloc | apply pw_below_drewN | apply below_drew1) | exact HB.out)) hb); clear HB; have HB := n0_; clear n0_; (try clear hb); (try clear hb2); (try clear hk); (try clear hi)))
  repeat (go_quiet (fail); try go_wp2)
  (try simp only [Act.put, List.setIfInBounds_toArray, List.set_cons_zero, List.set_cons_succ])
  go_cut [5, 6] (fun v5 v6 wc => ∃ (kq : Nat) (x5_4 : ByteArray) (x6_4 : Int), v5 = .string x5_4 ∧ v6 = .int .i64 x6_4 ∧ Aside0 (anticlinelaw18_ShellQuotes.j1 kq l0 a1 x5_4 x6_4 = some r) ∧ Aside0 (kq ≤ k) ∧ Aside0 (Below w.heap.size w wc))
  case first =>
   have H := HC5.out
   clear HC5
   have H' := Aside0.mk H
   clear H
   go_wp2
   repeat (go_quiet (fail); try go_wp2)
   go_loopg [5, 6, 7] k (fun kq v5 v6 v7 w' => ∃ (x5_1 : ByteArray) (x6_1 : Int) (x7_1 : Int), v5 = .string x5_1 ∧ v6 = .int .i64 x6_1 ∧ v7 = .int .i64 x7_1 ∧ Aside0 (anticlinelaw18_ShellQuotes.l0 kq l0 a1 x5_1 x6_1 x7_1 = some r) ∧ Aside0 (kq ≤ k) ∧ Aside0 (Below w.heap.size w w'))
   case atStart => exact ⟨((⟨#[]⟩ : ByteArray)), (0), (0), (by first | rfl | (simp; done) | (simp [*]; done)), (by first | rfl | (simp; done) | (simp [*]; done)), (by first | rfl | (simp; done) | (simp [*]; done)), H', ⟨Nat.le_refl _⟩, ⟨by repeat (first | (with_reducible first | exact HB.out | apply below_alloc | apply pw_below_drewN | apply below_drew1) | exact HB.out)⟩⟩
   case round =>
    clear H'
    try clear p2
    try clear c4
    obtain ⟨x5_1, x6_1, x7_1, rfl, rfl, rfl, HA, HK1, HB⟩ := hrel
    cases gk with
    | zero => exact absurd HA.out (by simp [anticlinelaw18_ShellQuotes.l0])
    | succ k1 =>
     have H := HA.out
     clear HA
     simp only [anticlinelaw18_ShellQuotes.l0] at H
     by_cases c7 : x7_1 < (l0.length : Int)
     ·rw [if_pos c7] at H
      have c7b0 : decide (x7_1 < (l0.length : Int)) = true := decide_eq_true c7
      clear c7
      (first | rw [c7b0] | (simp only [i64_w, i32_w]; rw [c7b0]) | skip)
      by_cases c8 : x7_1 < 20
      ·rw [if_pos c8] at H
       have c8b0 : decide (x7_1 < 20) = true := decide_eq_true c8
       clear c8
       by_cases c9 : (x5_1.size : Int) < 16384
       ·rw [if_pos c9] at H
        have c9b0 : decide ((x5_1.size : Int) < 16384) = true := decide_eq_true c9
        have c9b1 : decide (x5_1.size < 16384) = true := decide_eq_true (by omega)
        clear c9
        by_cases c10 : x5_1.size + 1 ≤ 9223372036854775807
        ·rw [if_pos c10] at H
         have c10b0 := eq_true c10
         have c10b1 : decide (x5_1.size + 1 ≤ 9223372036854775807) = true := decide_eq_true c10
         try have c10b2 : (9223372036854775807 < x5_1.size + 1) = False := eq_false (Nat.not_lt.2 c10)
         by_cases c11 : 0 ≤ x7_1
         ·rw [if_pos c11] at H
          have c11b0 : decide (0 ≤ x7_1) = true := decide_eq_true c11
          clear c11
          replace H := Option.bind_eq_some_iff.mp H
          obtain ⟨t171, A120, H⟩ := H
          replace H : (if (x5_1 ++ (⟨#[32]⟩ : ByteArray)).size + t171.size ≤ 9223372036854775807 then (if ((x5_1 ++ (⟨#[32]⟩ : ByteArray)) ++ t171).size + 1 ≤ 9223372036854775807 then (anticlinelaw18_ShellQuotes.l0 k1 l0 a1 (((x5_1 ++ (⟨#[32]⟩ : ByteArray)) ++ t171) ++ (⟨#[9]⟩ : ByteArray)) (wrap64 (x6_1 + 1)) (wrap64 (x7_1 + 1))) else (none)) else (none)) = some r := H
          have A12 := Aside0.mk A120
          clear A120
          by_cases c13 : (x5_1 ++ (⟨#[32]⟩ : ByteArray)).size + t171.size ≤ 9223372036854775807
          ·rw [if_pos c13] at H
           have c13b0 := eq_true c13
           have c13b1 : decide ((x5_1 ++ (⟨#[32]⟩ : ByteArray)).size + t171.size ≤ 9223372036854775807) = true := decide_eq_true c13
           try have c13b2 : (9223372036854775807 < (x5_1 ++ (⟨#[32]⟩ : ByteArray)).size + t171.size) = False := eq_false (Nat.not_lt.2 c13)
           by_cases c14 : ((x5_1 ++ (⟨#[32]⟩ : ByteArray)) ++ t171).size + 1 ≤ 9223372036854775807
           ·rw [if_pos c14] at H
            have c14b0 := eq_true c14
            have c14b1 : decide (((x5_1 ++ (⟨#[32]⟩ : ByteArray)) ++ t171).size + 1 ≤ 9223372036854775807) = true := decide_eq_true c14
            try have c14b2 : (9223372036854775807 < ((x5_1 ++ (⟨#[32]⟩ : ByteArray)) ++ t171).size + 1) = False := eq_false (Nat.not_lt.2 c14)
            have c14b3 : (9223372036854775807 < x5_1.size + 1 + t171.size + 1) = False := eq_false (by have h := c14; simp only [ByteArray.size_append] at h; have : (⟨#[32]⟩ : ByteArray).size = 1 := rfl; omega)
            have H' := Aside0.mk H
            clear H
            have p170 : 0 ≤ (x7_1 : Int) := of_decide_eq_true (by first | (with_reducible assumption) | assumption)
            have q170 : x7_1 < (l0.length : Int) := of_decide_eq_true (by first | (with_reducible assumption) | assumption)
            obtain ⟨ad170, A170_0, c170_0, e170, hx170_0, hl170_0, hi170_0⟩ := at_L2 HR0.out x7_1 p170 q170
            cases e170
            replace hx170_0 := (HB.out.cell (World.block_lt_of_cell? w _ hx170_0)).trans hx170_0
            have HR170_0 := Aside0.mk hi170_0
            have HC170_0 := Aside0.mk hl170_0
            clear hi170_0 hl170_0
            replace p170 := eq_true p170
            replace q170 := eq_true q170
            go_wp2_with (first | (go_at_call 8; (with_reducible refine (shell_Quote.calls k1 _ _ (rd_L2 l0 x7_1) t171 _ ?side1 ?side2 A12.out).mono ?_); (case side1 => repeat (first | exact (Kd.C_below HR170_0.out HB.out) | (with_reducible refine Kd.C_alloc ?_ _) | (with_reducible refine Kd.C_drewN ?_ _) | (with_reducible refine Kd.C_drew ?_))); (case side2 => exact HC170_0.out); rintro e w15 ⟨rfl, hb⟩; have n0_ := Aside0.mk (below_step (by repeat (first | (with_reducible first | exact HB.out | apply below_alloc | apply pw_below_drewN | apply below_drew1) | exact HB.out)) hb); clear HB; have HB := n0_; clear n0_; (try clear hb); (try clear hb2); (try clear hk); (try clear hi)))
            repeat (go_quiet (fail); try go_wp2)
            go_roundg k1
            case measure => have := HK1.out; omega
            case rel => exact ⟨(((x5_1 ++ (⟨#[32]⟩ : ByteArray)) ++ t171) ++ (⟨#[9]⟩ : ByteArray)), (wrap64 (x6_1 + 1)), (wrap64 (x7_1 + 1)), (by first | rfl | (simp; done) | (simp [*]; done)), (by first | rfl | (simp; done) | (simp [*]; done)), (by first | rfl | (simp; done) | (simp [*]; done)), H', ⟨by have := HK1.out; omega⟩, ⟨by repeat (first | (with_reducible first | exact HB.out | apply below_alloc | apply pw_below_drewN | apply below_drew1) | exact HB.out)⟩⟩
           ·rw [if_neg c14] at H
            exact absurd H (by simp)
          ·rw [if_neg c13] at H
           exact absurd H (by simp)
         ·rw [if_neg c11] at H
          exact absurd H (by simp)
        ·rw [if_neg c10] at H
         exact absurd H (by simp)
       ·rw [if_neg c9] at H
        have c9b0 : decide ((x5_1.size : Int) < 16384) = false := decide_eq_false c9
        have c9b1 : decide (x5_1.size < 16384) = false := decide_eq_false (by omega)
        clear c9
        have H' := Aside0.mk H
        clear H
        go_wp2
        repeat (go_quiet (fail); try go_wp2)
        go_meet
        case rel => exact ⟨_, (x5_1), (x6_1), (by first | rfl | (simp; done) | (simp [*]; done)), (by first | rfl | (simp; done) | (simp [*]; done)), H', ⟨by have := HK1.out; first | omega | exact Nat.le_refl _⟩, ⟨by repeat (first | (with_reducible first | exact HB.out | apply below_alloc | apply pw_below_drewN | apply below_drew1) | exact HB.out)⟩⟩
      ·rw [if_neg c8] at H
       have c8b0 : decide (x7_1 < 20) = false := decide_eq_false c8
       clear c8
       have H' := Aside0.mk H
       clear H
       go_wp2
       repeat (go_quiet (fail); try go_wp2)
       go_meet
       case rel => exact ⟨_, (x5_1), (x6_1), (by first | rfl | (simp; done) | (simp [*]; done)), (by first | rfl | (simp; done) | (simp [*]; done)), H', ⟨by have := HK1.out; first | omega | exact Nat.le_refl _⟩, ⟨by repeat (first | (with_reducible first | exact HB.out | apply below_alloc | apply pw_below_drewN | apply below_drew1) | exact HB.out)⟩⟩
     ·rw [if_neg c7] at H
      have c7b0 : decide (x7_1 < (l0.length : Int)) = false := decide_eq_false c7
      clear c7
      (first | rw [c7b0] | (simp only [i64_w, i32_w]; rw [c7b0]) | skip)
      have H' := Aside0.mk H
      clear H
      go_wp2
      repeat (go_quiet (fail); try go_wp2)
      go_meet
      case rel => exact ⟨_, (x5_1), (x6_1), (by first | rfl | (simp; done) | (simp [*]; done)), (by first | rfl | (simp; done) | (simp [*]; done)), H', ⟨by have := HK1.out; first | omega | exact Nat.le_refl _⟩, ⟨by repeat (first | (with_reducible first | exact HB.out | apply below_alloc | apply pw_below_drewN | apply below_drew1) | exact HB.out)⟩⟩
  case rest =>
   clear HC5
   try clear c1
   try clear p1
   try clear q1
   try clear hx1
   try clear p2
   try clear c4
   try clear p6
   try clear c7
   try clear c7b0
   try clear c8
   try clear c8b0
   try clear c9
   try clear c9b0
   try clear c9b1
   try clear c10
   try clear c10b0
   try clear c10b1
   try clear c10b2
   try clear c11
   try clear c11b0
   try clear c13
   try clear c13b0
   try clear c13b1
   try clear c13b2
   try clear c14
   try clear c14b0
   try clear c14b1
   try clear c14b2
   try clear hx170_0
   try clear p170
   try clear p2
   try clear q170
   obtain ⟨kq, x5_4, x6_4, rfl, rfl, HA, HJ4, HB⟩ := hcut
   cases kq with
   | zero => exact absurd HA.out (by simp [anticlinelaw18_ShellQuotes.j1])
   | succ kj4 =>
    have H := HA.out
    clear HA
    simp only [anticlinelaw18_ShellQuotes.j1] at H
    by_cases c16 : x5_4.size + 1 ≤ 9223372036854775807
    ·rw [if_pos c16] at H
     have c16b0 := eq_true c16
     have c16b1 : decide (x5_4.size + 1 ≤ 9223372036854775807) = true := decide_eq_true c16
     try have c16b2 : (9223372036854775807 < x5_4.size + 1) = False := eq_false (Nat.not_lt.2 c16)
     by_cases c17 : (x5_4 ++ (⟨#[35]⟩ : ByteArray)).size + a1.size ≤ 9223372036854775807
     ·rw [if_pos c17] at H
      have c17b0 := eq_true c17
      have c17b1 : decide ((x5_4 ++ (⟨#[35]⟩ : ByteArray)).size + a1.size ≤ 9223372036854775807) = true := decide_eq_true c17
      try have c17b2 : (9223372036854775807 < (x5_4 ++ (⟨#[35]⟩ : ByteArray)).size + a1.size) = False := eq_false (Nat.not_lt.2 c17)
      replace H := Option.bind_eq_some_iff.mp H
      obtain ⟨⟨t172, t173⟩, A180, H⟩ := H
      replace H : (if t173 = 0 then (anticlinelaw18_ShellQuotes.j2 kj4 l0 x6_4 t172 ((t172.length : Int) != x6_4)) else (anticlinelaw18_ShellQuotes.j2 kj4 l0 x6_4 t172 true)) = some r := H
      have A18 := Aside0.mk A180
      clear A180
      have HC19 := Aside0.mk H
      clear H
      go_upto_region 11 with (first | (go_at_call 6; (with_reducible refine (shell_Words.calls kj4 ((x5_4 ++ (⟨#[35]⟩ : ByteArray)) ++ a1) t172 t173 _ A18.out).mono ?_); rintro e w20 ⟨v174, rfl, ho0, hb⟩; have n0_ := Aside0.mk (Kd.R_lower ho0 (below_size (by repeat (first | (with_reducible first | exact HB.out | apply below_alloc | apply pw_below_drewN | apply below_drew1) | exact HB.out)))); have n1_ := Aside0.mk (below_step (by repeat (first | (with_reducible first | exact HB.out | apply below_alloc | apply pw_below_drewN | apply below_drew1) | exact HB.out)) hb); clear HB; have HO175 := n0_; have HB := n1_; clear n0_ n1_; (try clear hb); (try clear hb2); (try clear hk); (try clear hi); (try clear ho0)))
      repeat (go_quiet (fail); try go_wp2)
      (try simp only [Act.put, List.setIfInBounds_toArray, List.set_cons_zero, List.set_cons_succ])
      go_cut [54] (fun v54 wc => ∃ (kq : Nat) (x54_18 : Bool), v54 = .bool x54_18 ∧ Aside0 (anticlinelaw18_ShellQuotes.j2 kq l0 x6_4 t172 x54_18 = some r) ∧ Aside0 (kq ≤ kj4) ∧ Aside0 (Kd.R Kd.string 9 wc w.heap.size (fun _ => True) v174 t172) ∧ Aside0 (Below w.heap.size w wc))
      case first =>
       have H := HC19.out
       clear HC19
       by_cases c21 : t173 = 0
       ·rw [if_pos c21] at H
        have c21b0 : (t173 == 0) = true := beq_iff_eq.mpr c21
        have c21b1 : (t173 != 0) = false := bne_eq_false_iff_eq.mpr c21
        clear c21
        (first | rw [c21b0] | (simp only [i64_w, i32_w]; rw [c21b0]) | skip)
        have H' := Aside0.mk H
        clear H
        obtain ⟨Ao22, co22, eo22⟩ := Kd.R_slice HO175.out
        subst eo22
        go_wp2
        repeat (go_quiet (fail); try go_wp2)
        go_meet
        case rel => exact ⟨_, (((t172.length : Int) != x6_4)), (by first | rfl | (simp; done) | (simp [*]; done)), H', ⟨by have := HJ4.out; first | omega | exact Nat.le_refl _⟩, ⟨by (with_reducible repeat (first | apply Kd.R_alloc | apply Kd.R_drewN | apply Kd.R_drew)); exact HO175.out⟩, ⟨by repeat (first | (with_reducible first | exact HB.out | apply below_alloc | apply pw_below_drewN | apply below_drew1) | exact HB.out)⟩⟩
       ·rw [if_neg c21] at H
        have c21b0 : (t173 == 0) = false := beq_eq_false_iff_ne.mpr c21
        have c21b1 : (t173 != 0) = true := bne_iff_ne.mpr c21
        (first | rw [c21b0] | (simp only [i64_w, i32_w]; rw [c21b0]) | skip)
        have H' := Aside0.mk H
        clear H
        go_wp2
        repeat (go_quiet (fail); try go_wp2)
        go_meet
        case rel => exact ⟨_, (true), (by first | rfl | (simp; done) | (simp [*]; done)), H', ⟨by have := HJ4.out; first | omega | exact Nat.le_refl _⟩, ⟨by (with_reducible repeat (first | apply Kd.R_alloc | apply Kd.R_drewN | apply Kd.R_drew)); exact HO175.out⟩, ⟨by repeat (first | (with_reducible first | exact HB.out | apply below_alloc | apply pw_below_drewN | apply below_drew1) | exact HB.out)⟩⟩
      case rest =>
       clear HC19
       try clear c1
       try clear p1
       try clear q1
       try clear hx1
       try clear c2
       try clear p2
       try clear c4
       try clear p6
       try clear c7
       try clear c7b0
       try clear c8
       try clear c8b0
       try clear c9
       try clear c9b0
       try clear c9b1
       try clear c10
       try clear c10b0
       try clear c10b1
       try clear c10b2
       try clear c11
       try clear c11b0
       try clear c13
       try clear c13b0
       try clear c13b1
       try clear c13b2
       try clear c14
       try clear c14b0
       try clear c14b1
       try clear c14b2
       try clear c16
       try clear c16b0
       try clear c16b1
       try clear c16b2
       try clear c17
       try clear c17b0
       try clear c17b1
       try clear c17b2
       try clear p17
       try clear q17
       try clear hx17
       try clear c21
       try clear c21b0
       try clear c21b1
       try clear hx170_0
       try clear p1
       try clear p170
       try clear p2
       try clear p6
       try clear q1
       try clear q170
       obtain ⟨kq, x54_18, rfl, HA, HJ18, HO_8, HB⟩ := hcut
       cases kq with
       | zero => exact absurd HA.out (by simp [anticlinelaw18_ShellQuotes.j2])
       | succ kj18 =>
        have H := HA.out
        clear HA
        simp only [anticlinelaw18_ShellQuotes.j2] at H
        by_cases c23 : x54_18 = true
        ·subst c23
         have H1 : (some false) = some r := by rw [if_pos rfl] at H; exact H
         clear H
         have H := H1
         clear H1
         obtain rfl := Option.some.inj H
         go_wp2
         repeat (go_quiet (fail); try go_wp2)
         go_ret
         exact ⟨by first | rfl | (simp [errW_none, errW_some] <;> rfl) | (simp [*, errW_none, errW_some] <;> rfl), by repeat (first | (with_reducible first | exact HB.out | apply below_alloc | apply pw_below_drewN | apply below_drew1) | exact HB.out)⟩
        ·replace c23 := Bool.eq_false_iff.mpr c23
         subst c23
         have H1 : (anticlinelaw18_ShellQuotes.l1 kj18 l0 x6_4 t172 0) = some r := by rw [if_neg (show ¬ (false = true) by decide)] at H; exact H
         clear H
         have H := H1
         clear H1
         have H' := Aside0.mk H
         clear H
         go_wp2
         repeat (go_quiet (fail); try go_wp2)
         go_loopg [10] kj18 (fun kq v10 w' => ∃ (x10_3 : Int), v10 = .int .i64 x10_3 ∧ Aside0 (anticlinelaw18_ShellQuotes.l1 kq l0 x6_4 t172 x10_3 = some r) ∧ Aside0 (kq ≤ kj18) ∧ Aside0 (Kd.R Kd.string 9 w' w.heap.size (fun _ => True) v174 t172) ∧ Aside0 (Below w.heap.size w w'))
         case atStart => exact ⟨(0), (by first | rfl | (simp; done) | (simp [*]; done)), H', ⟨Nat.le_refl _⟩, ⟨by (with_reducible repeat (first | apply Kd.R_alloc | apply Kd.R_drewN | apply Kd.R_drew)); exact HO_8.out⟩, ⟨by repeat (first | (with_reducible first | exact HB.out | apply below_alloc | apply pw_below_drewN | apply below_drew1) | exact HB.out)⟩⟩
         case round =>
          clear H'
          try clear c1
          try clear p1
          try clear q1
          try clear hx1
          try clear c2
          try clear p2
          try clear c4
          try clear p6
          try clear c7
          try clear c7b0
          try clear c8
          try clear c8b0
          try clear c9
          try clear c9b0
          try clear c9b1
          try clear c10
          try clear c10b0
          try clear c10b1
          try clear c10b2
          try clear c11
          try clear c11b0
          try clear c13
          try clear c13b0
          try clear c13b1
          try clear c13b2
          try clear c14
          try clear c14b0
          try clear c14b1
          try clear c14b2
          try clear c16
          try clear c16b0
          try clear c16b1
          try clear c16b2
          try clear c17
          try clear c17b0
          try clear c17b1
          try clear c17b2
          try clear p17
          try clear q17
          try clear hx17
          try clear c21
          try clear c21b0
          try clear c21b1
          try clear c23
          try clear hx170_0
          try clear p1
          try clear p17
          try clear p170
          try clear p2
          try clear p6
          try clear q1
          try clear q17
          try clear q170
          obtain ⟨x10_3, rfl, HA, HK3, HO_8, HB⟩ := hrel
          cases gk with
          | zero => exact absurd HA.out (by simp [anticlinelaw18_ShellQuotes.l1])
          | succ k3 =>
           have H := HA.out
           clear HA
           simp only [anticlinelaw18_ShellQuotes.l1] at H
           by_cases c24 : x10_3 < x6_4
           ·rw [if_pos c24] at H
            have c24b0 : decide (x10_3 < x6_4) = true := decide_eq_true c24
            clear c24
            by_cases c25 : 0 ≤ x10_3
            ·rw [if_pos c25] at H
             have c25b0 : decide (0 ≤ x10_3) = true := decide_eq_true c25
             clear c25
             by_cases c26 : x10_3 < (t172.length : Int)
             ·rw [if_pos c26] at H
              have c26b0 : decide (x10_3 < (t172.length : Int)) = true := decide_eq_true c26
              clear c26
              by_cases c27 : x10_3 < (l0.length : Int)
              ·rw [if_pos c27] at H
               have c27b0 : decide (x10_3 < (l0.length : Int)) = true := decide_eq_true c27
               clear c27
               by_cases c28 : (rdOf ByteArray.empty t172 x10_3).toList = (strOfNums (rd_L2 l0 x10_3)).toList
               ·rw [if_pos c28] at H
                have c28b0 : ((rdOf ByteArray.empty t172 x10_3).toList == (strOfNums (rd_L2 l0 x10_3)).toList) = true := beq_iff_eq.mpr c28
                have c28b1 : ((rdOf ByteArray.empty t172 x10_3).toList != (strOfNums (rd_L2 l0 x10_3)).toList) = false := bne_eq_false_iff_eq.mpr c28
                clear c28
                have H' := Aside0.mk H
                clear H
                obtain ⟨Ao29, co29, eo29⟩ := Kd.R_slice HO_8.out
                subst eo29
                have p176 : 0 ≤ (x10_3 : Int) := of_decide_eq_true (by first | (with_reducible assumption) | assumption)
                have q176 : x10_3 < (t172.length : Int) := of_decide_eq_true (by first | (with_reducible assumption) | assumption)
                obtain ⟨ad176, e176, hx176_0⟩ := Kd.at_string (Kd.R_reads' HO_8.out).2.2 x10_3 p176 q176
                cases e176
                replace p176 := eq_true p176
                replace q176 := eq_true q176
                have p177 : 0 ≤ (x10_3 : Int) := of_decide_eq_true (by first | (with_reducible assumption) | assumption)
                have q177 : x10_3 < (l0.length : Int) := of_decide_eq_true (by first | (with_reducible assumption) | assumption)
                obtain ⟨ad177, A177_0, c177_0, e177, hx177_0, hl177_0, hi177_0⟩ := at_L2 HR0.out x10_3 p177 q177
                cases e177
                replace hx177_0 := (HB.out.cell (World.block_lt_of_cell? w _ hx177_0)).trans hx177_0
                have HR177_0 := Aside0.mk hi177_0
                have HC177_0 := Aside0.mk hl177_0
                clear hi177_0 hl177_0
                replace p177 := eq_true p177
                replace q177 := eq_true q177
                have hcv30 := fun n_ : Nat => Kd.C_string (P := Tryz.prog) (A := A177_0) (c := c177_0) Tryz.underlying22 Tryz.underlying5 Tryz.underlying9 (Kd.C_drewN (Kd.C_below HR177_0.out HB.out) n_)
                go_wp2
                repeat (go_quiet (fail); try go_wp2)
                go_roundg k3
                case measure => have := HJ4.out; have := HJ18.out; have := HK3.out; omega
                case rel => exact ⟨(wrap64 (x10_3 + 1)), (by first | rfl | (simp; done) | (simp [*]; done)), H', ⟨by have := HJ4.out; have := HJ18.out; have := HK3.out; omega⟩, ⟨by (with_reducible repeat (first | apply Kd.R_alloc | apply Kd.R_drewN | apply Kd.R_drew)); exact HO_8.out⟩, ⟨by repeat (first | (with_reducible first | exact HB.out | apply below_alloc | apply pw_below_drewN | apply below_drew1) | exact HB.out)⟩⟩
               ·rw [if_neg c28] at H
                have c28b0 : ((rdOf ByteArray.empty t172 x10_3).toList == (strOfNums (rd_L2 l0 x10_3)).toList) = false := beq_eq_false_iff_ne.mpr c28
                have c28b1 : ((rdOf ByteArray.empty t172 x10_3).toList != (strOfNums (rd_L2 l0 x10_3)).toList) = true := bne_iff_ne.mpr c28
                obtain rfl := Option.some.inj H
                obtain ⟨Ao31, co31, eo31⟩ := Kd.R_slice HO_8.out
                subst eo31
                have p176 : 0 ≤ (x10_3 : Int) := of_decide_eq_true (by first | (with_reducible assumption) | assumption)
                have q176 : x10_3 < (t172.length : Int) := of_decide_eq_true (by first | (with_reducible assumption) | assumption)
                obtain ⟨ad176, e176, hx176_0⟩ := Kd.at_string (Kd.R_reads' HO_8.out).2.2 x10_3 p176 q176
                cases e176
                replace p176 := eq_true p176
                replace q176 := eq_true q176
                have p177 : 0 ≤ (x10_3 : Int) := of_decide_eq_true (by first | (with_reducible assumption) | assumption)
                have q177 : x10_3 < (l0.length : Int) := of_decide_eq_true (by first | (with_reducible assumption) | assumption)
                obtain ⟨ad177, A177_0, c177_0, e177, hx177_0, hl177_0, hi177_0⟩ := at_L2 HR0.out x10_3 p177 q177
                cases e177
                replace hx177_0 := (HB.out.cell (World.block_lt_of_cell? w _ hx177_0)).trans hx177_0
                have HR177_0 := Aside0.mk hi177_0
                have HC177_0 := Aside0.mk hl177_0
                clear hi177_0 hl177_0
                replace p177 := eq_true p177
                replace q177 := eq_true q177
                have hcv32 := fun n_ : Nat => Kd.C_string (P := Tryz.prog) (A := A177_0) (c := c177_0) Tryz.underlying22 Tryz.underlying5 Tryz.underlying9 (Kd.C_drewN (Kd.C_below HR177_0.out HB.out) n_)
                go_wp2
                repeat (go_quiet (fail); try go_wp2)
                go_ret
                exact ⟨by first | rfl | (simp [errW_none, errW_some] <;> rfl) | (simp [*, errW_none, errW_some] <;> rfl), by repeat (first | (with_reducible first | exact HB.out | apply below_alloc | apply pw_below_drewN | apply below_drew1) | exact HB.out)⟩
              ·rw [if_neg c27] at H
               exact absurd H (by simp)
             ·rw [if_neg c26] at H
              exact absurd H (by simp)
            ·rw [if_neg c25] at H
             exact absurd H (by simp)
           ·rw [if_neg c24] at H
            have c24b0 : decide (x10_3 < x6_4) = false := decide_eq_false c24
            clear c24
            obtain rfl := Option.some.inj H
            go_wp2
            repeat (go_quiet (fail); try go_wp2)
            go_ret
            exact ⟨by first | rfl | (simp [errW_none, errW_some] <;> rfl) | (simp [*, errW_none, errW_some] <;> rfl), by repeat (first | (with_reducible first | exact HB.out | apply below_alloc | apply pw_below_drewN | apply below_drew1) | exact HB.out)⟩
     ·rw [if_neg c17] at H
      exact absurd H (by simp)
    ·rw [if_neg c16] at H
     exact absurd H (by simp)
 ·exact absurd (Option.some.inj A3.out).symm c4
end Go.Proofs.YtccahbfbbaaicaaGreatDoor.PQt
