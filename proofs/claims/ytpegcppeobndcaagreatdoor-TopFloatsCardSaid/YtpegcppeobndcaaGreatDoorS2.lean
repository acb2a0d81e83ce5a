/- Small, bits, small: the small texts of this part, one behind another. -/
import Derived.Test.YtpegcppeobndcaaGreatDoorAb
import Derived.Test.YtpegcppeobndcaaGreatDoorS1
import Derived.Lib.BitFns
import Derived.Test.YtpegcppeobndcaaGreatDoorLibA
set_option linter.unusedVariables false
set_option maxHeartbeats 4000000
set_option maxRecDepth 100000
namespace Go.Proofs.YtpegcppeobndcaaGreatDoor.Nn
def nbits (n : Nat) : Nat := if n = 0 then 0 else n.log2 + 1
theorem nbits_zero : nbits 0 = 0 := by unfold nbits; rw [if_pos rfl]
theorem nbits_pos {n : Nat} (h : n ≠ 0) : nbits n = n.log2 + 1 := by unfold nbits; rw [if_neg h]
theorem nbits_half {n : Nat} (h : n ≠ 0) : nbits n = nbits (n / 2) + 1 := by
 rw [nbits_pos h, Nat.log2_def]
 by_cases h2 : 2 ≤ n
 ·rw [if_pos h2, nbits_pos (by omega)]
 ·rw [if_neg h2, show n / 2 = 0 from by omega, nbits_zero]
theorem lt_nbits (n : Nat) : n < 2 ^ nbits n := by
 by_cases h : n = 0
 ·subst h; rw [nbits_zero]; decide
 ·rw [nbits_pos h]; exact Nat.lt_log2_self
theorem le_nbits {n : Nat} (h : n ≠ 0) : 2 ^ (nbits n - 1) ≤ n := by
 rw [nbits_pos h]; exact Nat.log2_self_le h
theorem nbits_le {n k : Nat} (h : n < 2 ^ k) : nbits n ≤ k := by
 by_cases h0 : n = 0
 ·subst h0; rw [nbits_zero]; exact Nat.zero_le _
 ·have h1 := le_nbits h0
  have h2 : 2 ^ (nbits n - 1) < 2 ^ k := Nat.lt_of_le_of_lt h1 h
  have h3 := (Nat.pow_lt_pow_iff_right (by decide : 1 < 2)).1 h2
  omega
theorem nbits_ge {n k : Nat} (h : 2 ^ k ≤ n) : k + 1 ≤ nbits n := by
 have h1 := lt_nbits n
 have h2 : 2 ^ k < 2 ^ nbits n := Nat.lt_of_le_of_lt h h1
 exact (Nat.pow_lt_pow_iff_right (by decide : 1 < 2)).1 h2
theorem nbits_eq {n k : Nat} (h0 : 2 ^ k ≤ n) (h1 : n < 2 ^ (k + 1)) : nbits n = k + 1 := by
 have := nbits_ge h0
 have := nbits_le h1
 omega
theorem nbits_mono {a b : Nat} (h : a ≤ b) : nbits a ≤ nbits b := nbits_le (Nat.lt_of_le_of_lt h (lt_nbits b))
theorem nbits_two (k : Nat) : nbits (2 ^ k) = k + 1 := nbits_eq (Nat.le_refl _) (Nat.pow_lt_pow_right Z5 (Nat.lt_succ_self k))
theorem nbits_shift {n : Nat} (h : n ≠ 0) (k : Nat) : nbits (n * 2 ^ k) = nbits n + k := by
 have h1 := lt_nbits n
 have h2 := le_nbits h
 have hp := nbits_pos h
 have h3 := Nat.mul_le_mul_right (2 ^ k) h2
 have h4 := Nat.mul_lt_mul_of_pos_right h1 (Nat.pow_pos (by decide : 0 < 2) (n := k))
 rw [← Nat.pow_add] at h3 h4
 have h5 := nbits_ge h3
 have h6 := nbits_le h4
 omega
theorem bitLen_nbits : ∀ (k n : Nat), n < 2 ^ k → k ≤ 64 → Lib.bitLen n = nbits n := by
 intro k
 induction k with
 | zero => intro n hn _; rw [show n = 0 from by omega, nbits_zero]; decide
 | succ k ih =>
  intro n hn hk
  by_cases h : n = 0
  ·subst h; rw [nbits_zero]; decide
  ·rw [Lib.bitLen_half n h (Nat.lt_of_lt_of_le hn (Nat.pow_le_pow_right Z5 hk)), nbits_half h, ih (n / 2) (by rw [Nat.pow_succ] at hn; omega) (by omega), Nat.add_comm]
theorem nbits_top {l : List Int} (h : Lim l) (hn : Norm l) (hp : 0 < l.length) : nbits (val l) = 32 * (l.length - 1) + nbits (lm l (l.length - 1)) := by
 have e := val_take_succ l (l.length - 1)
 rw [show l.length - 1 + 1 = l.length from by omega, List.take_length] at e
 have hlt := val_lt (h.take (l.length - 1))
 rw [List.length_take, Nat.min_eq_left (by omega)] at hlt
 have h0 : lm l (l.length - 1) ≠ 0 := by
  intro hz
  unfold Norm at hn
  have h1 := h.getD (l.length - 1)
  have h2 : l.getD (l.length - 1) 1 = l.getD (l.length - 1) 0 := by
   rw [List.getD_eq_getElem?_getD, List.getD_eq_getElem?_getD, List.getElem?_eq_getElem (by omega)]; rfl
  unfold lm at hz
  omega
 generalize lm l (l.length - 1) = t at *
 generalize val (l.take (l.length - 1)) = v at *
 rw [e, pw_two]
 rw [pw_two] at hlt
 have h1 := lt_nbits t
 have h2 := le_nbits h0
 have hp := nbits_pos h0
 generalize hd : 32 * (l.length - 1) = d at *
 have hge : 2 ^ (d + (nbits t - 1)) ≤ v + 2 ^ d * t := by
  rw [Nat.pow_add]
  exact Nat.le_trans (Nat.mul_le_mul_left _ h2) (Nat.le_add_left _ _)
 have hlt2 : v + 2 ^ d * t < 2 ^ (d + nbits t) := by
  rw [Nat.pow_add]
  have h3 : 2 ^ d * (t + 1) ≤ 2 ^ d * 2 ^ nbits t := Nat.mul_le_mul_left _ h1
  rw [Nat.mul_add, Nat.mul_one] at h3
  omega
 have h5 := nbits_ge hge
 have h6 := nbits_le hlt2
 omega
theorem nbits_limb {x : Nat} (h : x < 4294967296) : nbits x ≤ 32 := nbits_le h
end Go.Proofs.YtpegcppeobndcaaGreatDoor.Nn
namespace Go.Proofs.YtpegcppeobndcaaGreatDoor.G
open Go.RowKit YtpegcppeobndcaaGreatDoorW.PrintWords YtpegcppeobndcaaGreatDoorW.PrintLast Go.Proofs.YtpegcppeobndcaaGreatDoor.Nn
theorem or_high2 {x y : Nat} (hx : x < 4294967296) (hy : y < 4294967296) : bits .or .u64 ((y : Int) * 4294967296) (x : Int) = ((x + y * 4294967296 : Nat) : Int) := by
 rw [show (y : Int) * 4294967296 = ((y * 4294967296 : Nat) : Int) from by omega, bits_or_u64_nat _ _ (by omega) (by omega)]
 congr 1
 have := or_parts (a := y * 4294967296) (b := x) (s := 32) (by omega) (by omega)
 rw [this]
 omega
def SmallPost (w : World) (n d : Nat) (e : Ending) (w' : World) : Prop := ∃ v, e = .returned (.tuple #[v, .int .u32 ((n % d : Nat) : Int)]) ∧ RU w' w.heap.size v (digs (n / d)) ∧ Below w.heap.size w w'
theorem drop_set (o : List Int) (i : Nat) (v : Int) : (o.set i v).drop (i + 1) = o.drop (i + 1) := by
 rw [List.drop_set_of_lt (by omega)]
theorem small_step {l o : List Int} {j t d a z : Nat} (hj : j < o.length) (ha : a = lm l j) (hz : z = a + t * 4294967296) (hd : 0 < d) (h : val (l.drop (j + 1)) = val (o.drop (j + 1)) * d + t) :
  val (l.drop j) = val ((o.set j ((z / d : Nat) : Int)).drop j) * d + z % d := by
 rw [val_drop_at l, val_drop_at (o.set j ((z / d : Nat) : Int)), lm_set_self hj, drop_set, ← ha, h]
 have h1 := Nat.div_add_mod z d
 rw [Nat.add_mul, Nat.mul_assoc, Nat.mul_add, Nat.mul_comm (z / d) d]
 omega
theorem small_end {n q t d : Nat} (ht : t < d) (h : n = q * d + t) : n / d = q ∧ n % d = t := by
 have hd : 0 < d := by omega
 subst h
 rw [Nat.mul_comm q d, Nat.mul_add_div hd, Nat.div_eq_of_lt ht, Nat.mul_add_mod, Nat.mod_eq_of_lt ht]
 exact ⟨rfl, rfl⟩
theorem small_post {w w' : World} {n q t d : Nat} {v : Value} (h : n / d = q ∧ n % d = t) (hR : RU w' w.heap.size v (digs q)) (hB : Below w.heap.size w w') : SmallPost w n d (.returned (.tuple #[v, .int .u32 (t : Int)])) w' :=
 ⟨v, by rw [h.2], by rw [h.1]; exact hR, hB⟩
theorem small_w (A0 : Option Addr) (c0 : Nat) (l0 : List Int) (d : Nat) (w : World) (hr0 : CU w A0 l0.length l0) (hL0 : Lim l0) (hl0 : l0.length < 1000000) (hd : 0 < d) (hd2 : d < 4294967296) :
  Calls Tryz.prog 59 #[.slice A0 l0.length c0, .int .u32 (d : Int)] w (SmallPost w (val l0) d) := by
 have HR0 := Aside0.mk hr0
 clear hr0
 have hmk : ∀ W : World, (Instr.makeSlice 25 (.int .i64 (l0.length : Int)) (.int .i64 (l0.length : Int))).run Tryz.prog W = .ok (.slice (some ⟨W.heap.size, 0, none⟩) l0.length l0.length) (W.alloc (.cells (madeCells #[.int .u32 0] l0.length) 94)) := fun W => make_u l0.length (by omega) W
 have HM := Aside0.mk (RU_made w l0.length (by omega))
 have hq0 : ((d : Int) == 0) = false := by rw [beq_eq_false_iff_ne]; omega
 have hq1 : ¬ (d = 0) := by omega
 go_enter Tryz.func59, Tryz.ntmps59
 go_wp2_with fail
 go_loopw [7, 8] (fun c i wr => ∃ (k t : Nat) (o : List Int), k ≤ l0.length ∧ i = .int .i64 ((k : Int) - 1) ∧ c = .int .u64 (t : Int) ∧ t < d ∧ Aside0 (o.length = l0.length ∧ Lim o ∧ val (l0.drop k) = val (o.drop k) * d + t ∧ RU wr w.heap.size (.slice (some ⟨w.heap.size, 0, none⟩) l0.length l0.length) o) ∧ Aside0 (Below w.heap.size w wr)) (fun _ i _ => (intOf i + 1).toNat)
 case atStart => exact ⟨l0.length, 0, List.replicate l0.length 0, Nat.le_refl _, by go_num, rfl, hd, ⟨by simp, Lim.replicate _, by rw [List.drop_of_length_le (Nat.le_refl _), List.drop_of_length_le Z33]; simp [val], HM.out⟩, ⟨below_alloc (Below.refl _ _) _⟩⟩
 case round =>
  obtain ⟨k, t, o, hk, rfl, rfl, ht, HO, HB⟩ := hrel
  rcases Nat.eq_zero_or_pos k with rfl | hk0
  ·have HC := cut_own HO.out.2.2.2 HO.out.1 HO.out.2.1 (by omega) HB.out
   have HC := Aside0.mk HC
   have he := small_end ht HO.out.2.2.1
   have HE := Aside0.mk he
   have ht2 : t < 4294967296 := by omega
   clear he
   go_wp2_with fail
   refine HC.out.mono ?_
   rintro e w1 ⟨v, rfl, hR1, hB1⟩
   have HR2 := Aside0.mk hR1
   have HB2 := Aside0.mk hB1
   clear hR1 hB1
   go_wp2_with fail
   go_ret2
   exact small_post HE.out HR2.out HB2.out
  ·obtain ⟨j, rfl⟩ : ∃ j, k = j + 1 := ⟨k - 1, by omega⟩
   rw [show ((j + 1 : Nat) : Int) - 1 = (j : Int) from by omega]
   obtain ⟨ad, e, hcell⟩ := CU_at (CU_below HR0.out HB.out) j (by omega)
   subst e
   rw [lm_cast hL0] at hcell
   obtain ⟨hc1, hc2⟩ := RU_at HO.out.2.2.2 HO.out.1 j (by omega)
   have ha := lm_lt hL0 j
   obtain ⟨a, hae⟩ : ∃ a, a = lm l0 j := ⟨_, rfl⟩
   rw [← hae] at hcell ha
   have ht2 : t < 4294967296 := by omega
   have hor := or_high2 ha ht2
   obtain ⟨z, hz⟩ : ∃ z, z = a + t * 4294967296 := ⟨_, rfl⟩
   rw [← hz] at hor
   have hz64 : z < 18446744073709551616 := by omega
   have hqb : z / d < 4294967296 := by
    rw [Nat.div_lt_iff_lt_mul hd]
    have : (t + 1) * 4294967296 ≤ d * 4294967296 := Nat.mul_le_mul_right _ ht
    omega
   have hrb : z % d < d := Nat.mod_lt _ hd
   obtain ⟨q, hq⟩ : ∃ q, q = z / d := ⟨_, rfl⟩
   obtain ⟨r, hr⟩ : ∃ r, r = z % d := ⟨_, rfl⟩
   have hqc : (z : Int) / (d : Int) = (q : Int) := by rw [hq, Int.natCast_ediv]
   have hrc : (z : Int) % (d : Int) = (r : Int) := by rw [hr, Int.natCast_emod]
   rw [← hq] at hqb
   rw [← hr] at hrb
   have HST := Aside0.mk (small_step (l := l0) (o := o) (j := j) (t := t) (d := d) (a := a) (z := z) Z45 hae hz hd HO.out.2.2.1)
   rw [← hq, ← hr] at HST
   clear hae hz hq hr
   go_wp2_with fail
   go_roundw
   case rel => exact ⟨j, r, o.set j (q : Int), by omega, by go_num, by go_num, hrb, ⟨by rw [List.length_set]; exact HO.out.1, HO.out.2.1.set j (by omega) (by omega), HST.out, RU_set HO.out.2.2.2 HO.out.1 j _⟩, ⟨below_set HB.out (Nat.le_refl _) _ _⟩⟩
   case measure => first | (simp [intOf]; done) | (simp [intOf]; omega)
theorem bits_nil {w : World} : IntPost w ((nbits (val []) : Nat) : Int) (.returned (.int .i64 0)) w := ⟨by rw [show val [] = 0 from rfl, nbits_zero]; rfl, Below.refl _ _⟩
theorem bits_top {w : World} {l : List Int} {b : Nat} (h : Lim l) (hn : Norm l) (hp : 0 < l.length) (hb : b = nbits (lm l (l.length - 1))) : IntPost w ((nbits (val l) : Nat) : Int) (.returned (.int .i64 (32 * ((l.length : Int) - 1) + (b : Int)))) w :=
 IntPost_of (by rw [nbits_top h hn hp, hb]; omega) (Below.refl _ _)
theorem bits_w (A : Option Addr) (c : Nat) (l : List Int) (w : World) (hr : CU w A l.length l) (hL : Lim l) (hN : Norm l) (hl : l.length < 1000000) :
  Calls Tryz.prog 67 #[.slice A l.length c] w (IntPost w ((nbits (val l) : Nat) : Int)) := by
 have HR := Aside0.mk hr
 have HL := Aside0.mk hL
 have HN := Aside0.mk hN
 clear hr hN
 rcases Nat.eq_zero_or_pos l.length with h0 | h0
 ·obtain rfl := List.eq_nil_of_length_eq_zero h0
  rw [List.length_nil] at HR ⊢
  go_enter Tryz.func67, Tryz.ntmps67
  go_wp2_with fail
  go_ret
  exact bits_nil
 ·obtain ⟨ad, e, hcell⟩ := CU_at HR.out (l.length - 1) (by omega)
  subst e
  have hb1 : ((l.length : Int) == 0) = false := by rw [beq_eq_false_iff_ne]; omega
  have hb2 : (l.length == 0) = false := by rw [beq_eq_false_iff_ne]; omega
  have hb3 : ¬ (l = []) := by intro h; rw [h] at h0; exact absurd h0 Z5
  have hi : ((l.length : Int) - 1).toNat = l.length - 1 := by omega
  have hx1 := lm_lt hL (l.length - 1)
  rw [lm_cast hL] at hcell
  obtain ⟨x, hx⟩ : ∃ x, x = lm l (l.length - 1) := ⟨_, rfl⟩
  rw [← hx] at hcell hx1
  have hX := Aside0.mk hx
  have HP := Aside0.mk h0
  obtain ⟨b, hb⟩ : ∃ b, b = nbits x := ⟨_, rfl⟩
  have hb9 : b ≤ 32 := by rw [hb]; exact nbits_limb hx1
  have HB := Aside0.mk (show b = nbits (lm l (l.length - 1)) by rw [hb, hx])
  have HC : Calls Tryz.prog 113 #[.int .u32 (x : Int)] w fun e w' => e = .returned (.int .i64 (b : Int)) ∧ w' = w := by
   have h := Tryz.bits_Len32 (x : Int) w (by omega) (by omega)
   rw [show ((x : Int)).toNat = x from by omega, bitLen_nbits 32 x hx1 (by omega), ← hb] at h
   exact h
  have HC := Aside0.mk HC
  clear hx hb
  go_enter Tryz.func67, Tryz.ntmps67
  go_wp2_with fail
  refine HC.out.mono ?_
  rintro e w1 ⟨rfl, rfl⟩
  go_wp2_with fail
  go_ret
  exact bits_top HL.out HN.out HP.out HB.out
theorem rbits_w (A : Option Addr) (c : Nat) (l : List Int) (w : World) (hr : CU w A l.length l) (hL : Lim l) (hN : Norm l) (hl : l.length < 1000000) :
  Calls Tryz.prog 144 #[.slice A l.length c] w (IntPost w ((nbits (val l) : Nat) : Int)) := by
 have HR := Aside0.mk hr
 have HL := Aside0.mk hL
 have HN := Aside0.mk hN
 clear hr hN
 rcases Nat.eq_zero_or_pos l.length with h0 | h0
 ·obtain rfl := List.eq_nil_of_length_eq_zero h0
  rw [List.length_nil] at HR ⊢
  go_enter Tryz.func144, Tryz.ntmps144
  go_wp2_with fail
  go_ret
  exact bits_nil
 ·obtain ⟨ad, e, hcell⟩ := CU_at HR.out (l.length - 1) (by omega)
  subst e
  have hb1 : ((l.length : Int) == 0) = false := by rw [beq_eq_false_iff_ne]; omega
  have hb2 : (l.length == 0) = false := by rw [beq_eq_false_iff_ne]; omega
  have hb3 : ¬ (l = []) := by intro h; rw [h] at h0; exact absurd h0 Z5
  have hi : ((l.length : Int) - 1).toNat = l.length - 1 := by omega
  have hx1 := lm_lt hL (l.length - 1)
  rw [lm_cast hL] at hcell
  obtain ⟨x, hx⟩ : ∃ x, x = lm l (l.length - 1) := ⟨_, rfl⟩
  rw [← hx] at hcell hx1
  obtain ⟨T, hT⟩ : ∃ T, T = 32 * (l.length - 1) + nbits x := ⟨_, rfl⟩
  have hT9 : T ≤ 32 * l.length := by rw [hT]; have := nbits_limb hx1; omega
  have HT := Aside0.mk hT
  have HE := Aside0.mk (show T = nbits (val l) by rw [hT, hx, nbits_top hL HN.out h0])
  have HP := Aside0.mk h0
  clear hx hT
  go_enter Tryz.func144, Tryz.ntmps144
  go_wp2_with fail
  go_loopw [3, 4] (fun n i wr => ∃ (j y : Nat), n = .int .i64 (j : Int) ∧ i = .int .u32 (y : Int) ∧ y < 4294967296 ∧ Aside0 (j + nbits y = T) ∧ wr = w) (fun _ i _ => (intOf i).toNat)
  case atStart => exact ⟨32 * (l.length - 1), x, by go_num, rfl, hx1, ⟨HT.out.symm⟩, rfl⟩
  case round =>
   obtain ⟨j, y, rfl, rfl, hy, HJ, rfl⟩ := hrel
   have hj : j ≤ T := by have := HJ.out; omega
   by_cases hy0 : y = 0
   ·subst hy0
    have HJT := Aside0.mk (show j = T by have := HJ.out; rw [nbits_zero] at this; omega)
    go_wp2_with fail
    go_ret
    exact IntPost_of (by rw [HJT.out, HE.out]) (Below.refl _ _)
   ·have HH := Aside0.mk (nbits_half hy0)
    have hyp : 0 < y := by omega
    have hj2 : j + 1 ≤ T := by have := HJ.out; have := HH.out; omega
    clear hy0
    go_wp2_with fail
    go_roundw
    case rel => exact ⟨j + 1, y / 2, by go_num, by go_num, by omega, ⟨by have := HJ.out; have := HH.out; omega⟩, by trivial⟩
    case measure => simp [intOf]; omega
theorem bitsN {w : World} {vx : Value} {x : Nat} (hx : Nu w vx x) (bx : x < pw 1000) : Calls Tryz.prog 67 #[vx] w (IntPost w ((nbits x : Nat) : Int)) := by
 obtain ⟨A0, c0, rfl, h0, C0⟩ := hx
 have h := bits_w A0 c0 (digs x) w C0 (lim_digs x) (norm_digs x) (small_len bx)
 rwa [val_digs] at h
theorem rbitsN {w : World} {vx : Value} {x : Nat} (hx : Nu w vx x) (bx : x < pw 1000) : Calls Tryz.prog 144 #[vx] w (IntPost w ((nbits x : Nat) : Int)) := by
 obtain ⟨A0, c0, rfl, h0, C0⟩ := hx
 have h := rbits_w A0 c0 (digs x) w C0 (lim_digs x) (norm_digs x) (small_len bx)
 rwa [val_digs] at h
theorem nbits_pw {x k : Nat} (h : x < pw k) : nbits x ≤ 32 * k := by rw [pw_two] at h; exact nbits_le h
def smV (n : Nat) : Nat := if n < 18446744073709551616 then n else 0
def SmPost (w : World) (n : Nat) (e : Ending) (w' : World) : Prop := e = .returned (.tuple #[.int .u64 ((smV n : Nat) : Int), .bool (decide (n < 18446744073709551616))]) ∧ Below w.heap.size w w'
theorem sm_yes {w w' : World} {n v : Nat} (h : v = n) (hn : n < 18446744073709551616) (hB : Below w.heap.size w w') : SmPost w n (.returned (.tuple #[.int .u64 (v : Int), .bool true])) w' :=
 ⟨by unfold smV; rw [if_pos hn, decide_eq_true hn, h], hB⟩
theorem sm_no {w w' : World} {n : Nat} (hn : 18446744073709551616 ≤ n) (hB : Below w.heap.size w w') : SmPost w n (.returned (.tuple #[.int .u64 0, .bool false])) w' :=
 ⟨by unfold smV; rw [if_neg (by omega), decide_eq_false (by omega)]; rfl, hB⟩
theorem or_nil {x : Nat} (hx : x < 4294967296) : bits .or .u64 0 (x : Int) = (x : Int) := by
 have := @or_high2 x 0 hx Z5
 simpa using this
theorem sm_long {l : List Int} (h : Lim l) (hn : Norm l) (h2 : 2 < l.length) : 18446744073709551616 ≤ val l := by
 have e := nbits_top h hn (by omega)
 have hb := lt_pw_digs (val l)
 have h3 := val_pos_of_norm h hn (by intro e; rw [e] at h2; exact absurd h2 Z5)
 have h4 := pw_le_of_digs (n := val l) (by omega)
 rw [digs_val h hn] at h4
 have h5 := pw_le (show 2 ≤ l.length - 1 by omega)
 have h6 : pw 2 = 18446744073709551616 := by decide
 omega
theorem smallN_w (A : Option Addr) (c : Nat) (l : List Int) (w : World) (hr : CU w A l.length l) (hL : Lim l) (hN : Norm l) (hl : l.length < 1000000) :
  Calls Tryz.prog 71 #[.slice A l.length c] w (SmPost w (val l)) := by
 have HR := Aside0.mk hr
 have HL := Aside0.mk hL
 have HC0 := bits_w A c l w hr hL hN hl
 obtain ⟨b, hb⟩ : ∃ b, b = nbits (val l) := ⟨_, rfl⟩
 rw [← hb] at HC0
 have HC := Aside0.mk HC0
 by_cases h2 : 2 < l.length
 ·have hbig := sm_long hL hN h2
  have HBG := Aside0.mk hbig
  have hb1 : 64 < b := by rw [hb]; exact nbits_ge (k := 64) hbig
  have hbu : b ≤ 32000000 := by rw [hb]; have := nbits_pw (val_lt hL); omega
  clear hr hN hbig HC0 hb
  go_enter Tryz.func71, Tryz.ntmps71
  go_wp2_with fail
  refine HC.out.mono ?_
  rintro e w1 ⟨rfl, hB⟩
  have HB := Aside0.mk hB
  clear hB
  go_wp2_with fail
  go_ret2
  exact sm_no HBG.out HB.out
 ·have hlt := val_lt hL
  have hlt2 : val l < 18446744073709551616 := by
   have := pw_le (show l.length ≤ 2 by omega)
   have h6 : pw 2 = 18446744073709551616 := by decide
   omega
  have HLT := Aside0.mk hlt2
  have hb1 : b ≤ 64 := by rw [hb]; exact nbits_le hlt2
  clear hr hN HC0 hb hlt hlt2
  go_enter Tryz.func71, Tryz.ntmps71
  go_wp2_with fail
  refine HC.out.mono ?_
  rintro e w1 ⟨rfl, hB⟩
  have HR2 := Aside0.mk (CU_below HR.out hB)
  have HB := Aside0.mk hB
  clear hB HC
  go_wp2_with fail
  go_loopw [4, 12] (fun vv ii wr => ∃ (k v : Nat), k ≤ l.length ∧ ii = .int .i64 (k : Int) ∧ vv = .int .u64 (v : Int) ∧ Aside0 (v = val (l.take k)) ∧ wr = w1) (fun _ ii _ => l.length - (intOf ii).toNat)
  case atStart => exact ⟨0, 0, Nat.zero_le _, rfl, rfl, ⟨rfl⟩, rfl⟩
  case round =>
   obtain ⟨k, v, hk, rfl, rfl, HV, rfl⟩ := hrel
   by_cases hkN : k < l.length
   ·obtain ⟨ad, e, hcell⟩ := CU_at HR2.out k hkN
    subst e
    have hx1 := lm_lt hL k
    rw [lm_cast hL] at hcell
    obtain ⟨x, hx⟩ : ∃ x, x = lm l k := ⟨_, rfl⟩
    rw [← hx] at hcell hx1
    have HX := Aside0.mk hx
    clear hx
    rcases (show k = 0 ∨ k = 1 by omega) with rfl | rfl
    ·have hv : v = 0 := by rw [HV.out]; rfl
     subst hv
     have hor := or_nil hx1
     have hcell0 : wr.cell? ad = some (.int .u32 (x : Int)) := hcell
     have HVX := Aside0.mk (show x = val (l.take 1) by rw [val_take_succ l 0, HX.out]; simp [val, pw_zero])
     go_wp2_with fail
     go_roundw
     case rel => exact ⟨1, x, by omega, by go_num, by go_num, ⟨HVX.out⟩, by trivial⟩
     case measure => simp [intOf]; omega
    ·have hv1 : v < 4294967296 := by have := val_lt (hL.take 1); rw [← HV.out, List.length_take, Nat.min_eq_left (by omega)] at this; exact this
     have hor := or_high hv1 hx1
     have hcell1 : wr.cell? ⟨ad.block, ad.off + 1, none⟩ = some (.int .u32 (x : Int)) := hcell
     have HVX := Aside0.mk (show v + x * 4294967296 = val (l.take 2) by rw [val_take_succ l 1, ← HX.out, ← HV.out, show pw 1 = 4294967296 from by decide, Nat.mul_comm])
     go_wp2_with fail
     go_roundw
     case rel => exact ⟨2, v + x * 4294967296, by omega, by go_num, by go_num, ⟨HVX.out⟩, by trivial⟩
     case measure => simp [intOf]; omega
   ·have hk2 : k = l.length := by omega
    have HV2 := Aside0.mk (show v = val l by rw [HV.out, hk2, List.take_length])
    subst hk2
    go_wp2_with fail
    go_ret2
    exact sm_yes HV2.out HLT.out HB.out
theorem smallN {w : World} {vx : Value} {x : Nat} (hx : Nu w vx x) (bx : x < pw 1000) : Calls Tryz.prog 71 #[vx] w (SmPost w x) := by
 obtain ⟨A0, c0, rfl, h0, C0⟩ := hx
 have h := smallN_w A0 c0 (digs x) w C0 (lim_digs x) (norm_digs x) (small_len bx)
 rwa [val_digs] at h
end Go.Proofs.YtpegcppeobndcaaGreatDoor.G
