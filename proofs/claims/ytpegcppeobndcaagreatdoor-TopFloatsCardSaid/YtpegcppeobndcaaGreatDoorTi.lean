/- What sfloat's rounding computes, as plain numbers: the printed function at a whole number times a power of two. -/
import Derived.Test.YtpegcppeobndcaaGreatDoorAb
import Derived.Test.YtpegcppeobndcaaGreatDoorPFlx
set_option linter.unusedVariables false
namespace Go.Proofs.YtpegcppeobndcaaGreatDoor.Fl
open Go.RowKit YtpegcppeobndcaaGreatDoorW.PrintWords YtpegcppeobndcaaGreatDoorW.PrintLast Go.Proofs.YtpegcppeobndcaaGreatDoor.Nn Go.Proofs.YtpegcppeobndcaaGreatDoor.G Go.Proofs.YtpegcppeobndcaaGreatDoor.Giv Go.Proofs.YtpegcppeobndcaaGreatDoor.PFl
theorem pw_of_two {n k s : Nat} (h : n < 2 ^ k) (hs : k ≤ 32 * s) : n < pw s := by
 rw [pw_two]
 exact Nat.lt_of_lt_of_le h (Nat.pow_le_pow_right Z5 hs)
theorem shl_f {k n s : Nat} (hn : n < pw 900) (hs : s < 1048576) : sfloat_shl.f (k + 1) (digs n) (s : Int) = some (digs (n * 2 ^ s)) := by
 unfold sfloat_shl.f sfloat_shl.l0 nat_Shl.f
 rw [if_neg (by omega), numOf_digs hn, Option.bind_some, if_pos ⟨by omega, by omega⟩, Int.toNat_natCast]
 rfl
theorem shr_f {k n s : Nat} (hn : n < pw 900) (hs : s < 1048576) : sfloat_shr.f (k + 1) (digs n) (s : Int) = some (digs (n / 2 ^ s)) := by
 unfold sfloat_shr.f sfloat_shr.l0 nat_Shr.f
 rw [if_neg (by omega), numOf_digs hn, Option.bind_some, if_pos ⟨by omega, by omega⟩, Int.toNat_natCast]
 rfl
theorem digs_len {n : Nat} : ((digs n).length : Int) > 0 ↔ n ≠ 0 := by
 constructor
 ·rintro h rfl
  rw [digs_zero] at h
  exact absurd h Z5
 ·intro h
  rw [digs_pos h, List.length_cons]
  omega
theorem rest_f {m d : Nat} (neg : Bool) (e : Int) (hm : m < pw 800) (hd : d < 10000) (h0 : 0 < d) :
  sfloat_num_rest.f neg (digs m) e false (digs (m / 2 ^ d)) (d : Int) = some (decide (m % 2 ^ d ≠ 0) || false, if cmpZ (m % 2 ^ d) (2 ^ (d - 1)) = 0 ∧ false = true then 1 else cmpZ (m % 2 ^ d) (2 ^ (d - 1))) := by
 unfold sfloat_num_rest.f
 rw [if_neg (by omega), if_neg Z5, numOf_digs (Nat.lt_trans hm (pw_lt Z5)), Option.bind_some, numOf_digs (Nat.lt_of_le_of_lt (Nat.div_le_self _ _) (Nat.lt_trans hm (pw_lt Z5))), Option.bind_some, Int.toNat_natCast, if_pos ⟨rfl, by omega, hm⟩, Bool.or_false, if_neg Z33]
theorem up_f {mode : Int} (neg some odd : Bool) (half : Int) (h0 : 0 ≤ mode) (h5 : mode < 5) : sfloat_part_up.f some half mode neg odd = .some (fup mode neg some odd half) := by
 have hm : mode = 0 ∨ mode = 1 ∨ mode = 2 ∨ mode = 3 ∨ mode = 4 := by omega
 unfold sfloat_part_up.f fup
 rcases hm with rfl | rfl | rfl | rfl | rfl
 ·by_cases a : 0 < half
  ·simp [a]
  ·by_cases b : half = 0
   ·simp [b]
   ·simp [a, b]
 ·simp
 ·cases neg <;> simp
 ·cases neg <;> simp
 ·simp
def fflags (neg : Bool) (m : Nat) (e : Int) (more : Bool) (mode : Int) : Int := if fbey (fv neg m e more mode) (fat m e) = true then 5 else if fsome m e more = true then (if (nbits m : Int) - 1 + e < -1022 then 3 else 1) else 0
theorem signed_f {x : Nat} (b : Bool) (h : x < 9223372036854775808) : sfloat_signed.f (x : Int) b = some ((fsgn b x : Nat) : Int) := by
 unfold sfloat_signed.f fsgn
 cases b
 ·rfl
 ·rw [if_pos rfl, if_pos rfl, or_sign h]
theorem j3_f {k u : Nat} {t far e : Int} {neg some more : Bool} {half : Int} {mode : Int} {l : List Int} (h0 : 0 ≤ mode) (h5 : mode < 5) (hu : u < 9007199254740992) (ht : -1074 ≤ t) (ht2 : t ≤ 100000) :
  sfloat_num_round.j3 (k + 1) mode 0 far t (u : Int) (decide (4503599627370496 ≤ u ∧ 1024 ≤ t + 52)) neg l e more some half = .some (((fsgn neg (if 4503599627370496 ≤ u ∧ 1024 ≤ t + 52 then flim neg mode else if 4503599627370496 ≤ u then u + (t + 1074).toNat * 4503599627370496 else u) : Nat) : Int), if 4503599627370496 ≤ u ∧ 1024 ≤ t + 52 then 5 else if some = true then (if far < -1022 then 3 else 1) else 0) := by
 rw [sfloat_num_round.j3]
 by_cases c : 4503599627370496 ≤ u ∧ 1024 ≤ t + 52
 ·rw [if_pos (decide_eq_true c), if_pos c, if_pos c]
  unfold sfloat_beyond.f
  rw [if_pos ⟨h0, h5⟩]
  rfl
 ·rw [if_neg (by simpa using c), if_neg c, if_neg c]
  by_cases d : 4503599627370496 ≤ u
  ·have ht3 : t ≤ 971 := by
    rcases Int.lt_or_le t 972 with h | h
    ·omega
    ·exact absurd ⟨d, by omega⟩ c
   obtain ⟨s, hs⟩ : ∃ s : Nat, t = (s : Int) - 1074 := ⟨(t + 1074).toNat, by omega⟩
   subst hs
   have e1 : IntKind.u64.wrap ((u : Int) + IntKind.u64.wrap (IntKind.u64.wrap (wrap64 (wrap64 ((s : Int) - 1074 + 1075) - 1)) * 4503599627370496)) = ((u + s * 4503599627370496 : Nat) : Int) := by
    rw [Go.IntWalk.wrap64_in ((s : Int) - 1074 + 1075) (by omega), Go.IntWalk.wrap64_in ((s : Int) - 1074 + 1075 - 1) (by omega), Go.IntWalk.u64_in ((s : Int) - 1074 + 1075 - 1) (by omega), Go.IntWalk.u64_in (((s : Int) - 1074 + 1075 - 1) * 4503599627370496) (by omega), Go.IntWalk.u64_in _ (by omega)]
    omega
   have hd : ((u : Int) ≥ 4503599627370496) := by omega
   simp only [if_pos hd, if_pos d, e1]
   rw [signed_f neg (by omega), show ((s : Int) - 1074 + 1074).toNat = s by omega]
   cases some
   ·rfl
   ·by_cases f : far < -1022
    ·simp only [if_pos f]; rfl
    ·simp only [if_neg f]; rfl
  ·have hd : ¬ ((u : Int) ≥ 4503599627370496) := by omega
   simp only [if_neg hd, if_neg d]
   rw [signed_f neg (by omega)]
   cases some
   ·rfl
   ·by_cases f : far < -1022
    ·simp only [if_pos f]; rfl
    ·simp only [if_neg f]; rfl
theorem j1_f {k v : Nat} {t far e : Int} {neg some more : Bool} {half : Int} {mode : Int} {l : List Int} (h0 : 0 ≤ mode) (h5 : mode < 5) (hv : v ≤ 9007199254740992) (ht : -1074 ≤ t) (ht2 : t ≤ 90000) :
  sfloat_num_round.j1 (k + 3) mode 0 far t (v : Int) neg l e more some half = .some (((fend neg mode v t : Nat) : Int), if fbey v t = true then 5 else if some = true then (if far < -1022 then 3 else 1) else 0) := by
 have key : ∀ (u : Nat) (s : Int), u < 9007199254740992 → -1074 ≤ s → s ≤ 100000 → sfloat_num_round.j2 (k + 2) mode 0 far s (u : Int) neg l e more some half = sfloat_num_round.j3 (k + 1) mode 0 far s (u : Int) (decide (4503599627370496 ≤ u ∧ 1024 ≤ s + 52)) neg l e more some half := by
  intro u s hu hs hs2
  rw [sfloat_num_round.j2]
  by_cases d : 4503599627370496 ≤ u
  ·rw [if_pos (by omega), Go.IntWalk.wrap64_in _ (by omega)]
   congr 1
   rw [decide_eq_decide]
   omega
  ·rw [if_neg (by omega), decide_eq_false (fun h => d h.1)]
 rw [sfloat_num_round.j1]
 by_cases c : v = 9007199254740992
 ·subst c
  rw [if_pos (show ((9007199254740992 : Nat) : Int) = 9007199254740992 from rfl), Go.IntWalk.wrap64_in _ (by omega), show (4503599627370496 : Int) = ((4503599627370496 : Nat) : Int) from rfl, key _ _ Z5 (by omega) (by omega), j3_f h0 h5 Z5 (by omega) (by omega)]
  have e1 : fu 9007199254740992 = 4503599627370496 := rfl
  have e2 : fa 9007199254740992 t = t + 1 := rfl
  unfold fend fmag fbey
  rw [e1, e2]
  simp only [decide_eq_true_eq]
 ·rw [if_neg (by omega), key _ _ (by omega) (by omega) (by omega), j3_f h0 h5 (by omega) (by omega) (by omega)]
  have e1 : fu v = v := if_neg c
  have e2 : fa v t = t := if_neg c
  unfold fend fmag fbey
  rw [e1, e2]
  simp only [decide_eq_true_eq]
theorem odd_f {q : Nat} (h : q < 18446744073709551616) : ((bits .and .u64 (q : Int) 1) == 1) = decide (q % 2 = 1) := by
 rw [show (1 : Int) = ((1 : Nat) : Int) from rfl, bits_and_u64_nat q 1 h Z5, Nat.and_one_is_mod]
 by_cases c : q % 2 = 1
 ·rw [c]; rfl
 ·rw [decide_eq_false c, beq_eq_false_iff_ne]
  omega
theorem j0_f {k : Nat} {t far e : Int} {neg some more : Bool} {half : Int} {mode : Int} {l : List Int} {q : Nat} (h0 : 0 ≤ mode) (h5 : mode < 5) (hq : q < 9007199254740992) (ht : -1074 ≤ t) (ht2 : t ≤ 90000) :
  sfloat_num_round.j0 (k + 4) mode 0 far t (digs q) neg l e more some half = .some (((fend neg mode (q + if fup mode neg some (decide (q % 2 = 1)) half = true then 1 else 0) t : Nat) : Int), if fbey (q + if fup mode neg some (decide (q % 2 = 1)) half = true then 1 else 0) t = true then 5 else if some = true then (if far < -1022 then 3 else 1) else 0) := by
 rw [sfloat_num_round.j0]
 unfold nat_Small.f
 have e1 : smV q = q := by unfold smV; exact if_pos (by omega)
 rw [numOf_digs (pw_of_two (show q < 2 ^ 53 from hq) Z5), Option.bind_some, Option.bind_some]
 simp only [e1]
 rw [odd_f (by omega), up_f neg some _ half h0 h5, Option.bind_some]
 by_cases c : fup mode neg some (decide (q % 2 = 1)) half = true
 ·rw [if_pos c, if_pos c, Go.IntWalk.u64_in _ (by omega), show (q : Int) + 1 = ((q + 1 : Nat) : Int) by omega, j1_f h0 h5 (by omega) ht ht2]
 ·rw [if_neg c, if_neg c, j1_f h0 h5 (by omega) ht ht2]
  rfl
theorem round_f {k m : Nat} (neg more : Bool) (e mode : Int) (h0 : 0 ≤ mode) (h5 : mode < 5) (hm : m < pw 300) (hm0 : m ≠ 0) (he : -4000 ≤ e) (he2 : e ≤ 4000) (hspan : fat m e - e < 10000) (hmo : more = false) :
  sfloat_num_round.f (k + 5) neg (digs m) e more mode = some (((fround neg m e more mode : Nat) : Int), fflags neg m e more mode) := by
 subst hmo
 have hb : nbits m ≤ 32 * 300 := nbits_pw hm
 have hb1 : 1 ≤ nbits m := by rw [nbits_pos hm0]; omega
 have hF : fat m e = max ((nbits m : Int) - 1 + e - 52) (-1074) := rfl
 have hm9 : m < pw 900 := Nat.lt_trans hm (pw_lt Z5)
 unfold sfloat_num_round.f nat_Bits.f
 rw [numOf_digs hm9, Option.bind_some, Option.bind_some]
 have w1 : wrap64 ((nbits m : Int) - 1) = (nbits m : Int) - 1 := Go.IntWalk.wrap64_in _ (by omega)
 have w2 : wrap64 ((nbits m : Int) - 1 + e) = (nbits m : Int) - 1 + e := Go.IntWalk.wrap64_in _ (by omega)
 have w3 : wrap64 ((nbits m : Int) - 1 + e - 52) = (nbits m : Int) - 1 + e - 52 := Go.IntWalk.wrap64_in _ (by omega)
 have w4 : mx ((nbits m : Int) - 1 + e - 52) (-1074) = fat m e := by unfold mx fat; omega
 have w5 : wrap64 (fat m e - e) = fat m e - e := Go.IntWalk.wrap64_in _ (by omega)
 simp only [w1, w2, w3, w4, w5]
 by_cases c : fat m e - e < 0
 ·obtain ⟨s, hs⟩ : ∃ s : Nat, e - fat m e = (s : Int) := ⟨(e - fat m e).toNat, by omega⟩
  have w6 : mx (fat m e - e) 0 = ((0 : Nat) : Int) := by unfold mx; rw [if_pos c]; rfl
  have w7 : wrap64 (-(fat m e - e)) = (s : Int) := by rw [Go.IntWalk.wrap64_in _ (by omega)]; omega
  have hr : sfloat_num_rest.f neg (digs m) e false (digs (m / 2 ^ 0)) (fat m e - e) = some (false, -1) := by
   unfold sfloat_num_rest.f
   rw [if_pos (by omega)]
  have hq : m * 2 ^ s = fq m e := by
   unfold fq
   rw [if_pos (by omega), hs, Int.toNat_natCast]
  have h1 : fsome m e false = false := by unfold fsome; rw [if_pos (by omega)]
  have h2 : fhalf m e false = -1 := by unfold fhalf; rw [if_pos (by omega)]
  rw [w6, shr_f hm9 Z5, Option.bind_some, hr, Option.bind_some, if_pos c, w7, shl_f hm9 (by omega), Option.bind_some, hq]
  simp only
  rw [show k + 5 = (k + 1) + 4 by omega, j0_f h0 h5 (fq_lt e) (by omega) (by omega)]
  unfold fround fflags fv
  rw [h1, h2]
 ·obtain ⟨s, hs⟩ : ∃ s : Nat, fat m e - e = (s : Int) := ⟨(fat m e - e).toNat, by omega⟩
  have w6 : mx (fat m e - e) 0 = (s : Int) := by unfold mx; rw [if_neg c, hs]
  have hq : m / 2 ^ s = fq m e := by
   unfold fq
   rw [if_neg (by omega), hs, Int.toNat_natCast]
  have hr : sfloat_num_rest.f neg (digs m) e false (digs (m / 2 ^ s)) (fat m e - e) = some (fsome m e false, fhalf m e false) := by
   unfold fsome fhalf
   by_cases z : fat m e ≤ e
   ·unfold sfloat_num_rest.f
    rw [if_pos (by omega), if_pos z, if_pos z]
   ·rw [if_neg z, if_neg z, hs, Int.toNat_natCast, rest_f neg e (Nat.lt_trans hm (pw_lt Z5)) (by omega) (by omega)]
  rw [w6, shr_f hm9 (by omega), Option.bind_some, hr, Option.bind_some, if_neg c, hq]
  simp only
  rw [show k + 5 = (k + 1) + 4 by omega, j0_f h0 h5 (fq_lt e) (by omega) (by omega)]
  rfl
end Go.Proofs.YtpegcppeobndcaaGreatDoor.Fl
