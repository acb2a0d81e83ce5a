/- Contracts by hand: take, back: a multiple of the divisor taken away at a place, the divisor given back. -/
import Derived.Test.YtklhpobphloehaaDoorDivP
import Derived.Test.YtklhpobphloehaaDoorG4
set_option linter.unusedVariables false
namespace Go.Proofs.YtklhpobphloehaaDoor.G
open Go.RowKit Go.Proofs.YtklhpobphloehaaDoorW.PrintWords Go.Proofs.YtklhpobphloehaaDoorW.PrintLast Go.Proofs.YtklhpobphloehaaDoor.Nn

/-- Nothing but one block has been touched. -/
abbrev Tch (g : Nat) (w w' : World) : Prop := w.grownBy w' (some g)
theorem tch_refl (g : Nat) (w : World) : Tch g w w := ⟨rfl, rfl, rfl, Nat.le_refl _, fun _ _ _ => rfl⟩
theorem tch_trans {g : Nat} {a b c : World} (h : Tch g a b) (k : Tch g b c) : Tch g a c :=
  ⟨k.os.trans h.os, k.tape.trans h.tape, k.output.trans h.output, Nat.le_trans h.size k.size, fun i hi hne => (k.block i (Nat.lt_of_lt_of_le hi h.size) hne).trans (h.block i hi hne)⟩
theorem tch_set {g : Nat} {a w : World} (h : Tch g a w) (i : Nat) (u : Value) : Tch g a (w.setCell ⟨g, i, none⟩ u) :=
  tch_trans h ⟨rfl, rfl, rfl, by simp [World.setCell], fun k hk hne => Below.heap_setCell _ _ _ _ (by intro e; exact hne (by rw [e]))⟩
theorem tch_drew {g : Nat} {a w : World} (h : Tch g a w) : Tch g a w.drew := ⟨h.os, h.tape, h.output, h.size, h.block⟩
theorem tch_drewN {g : Nat} {a w : World} (h : Tch g a w) (n : Nat) : Tch g a (w.drewN n) := by
  have hb := pw_below_drewN (Below.refl w.heap.size w) n
  exact tch_trans h ⟨hb.os, hb.tape, hb.output, hb.size, fun k hk _ => hb.block k hk⟩
theorem tch_below {g B : Nat} {w w' : World} (h : Tch g w w') (hg : B ≤ g) (hB : B ≤ w.heap.size) : Below B w w' :=
  ⟨h.os, h.tape, h.output, h.size, fun k hk => h.block k (by omega) (by intro e; have := Option.some.inj e; omega)⟩
theorem RU_tch {w w' : World} {g g' base n c : Nat} {l : List Int} (h : RU w base (.slice (some ⟨g', 0, none⟩) n c) l) (ht : Tch g w w') (hne : g' ≠ g) : RU w' base (.slice (some ⟨g', 0, none⟩) n c) l :=
  RU_own ((own_RU h).kept ht (.inr (by simpa [Value.ownBlock] using hne)))
theorem CU_tch {w w' : World} {g g' base n c : Nat} {l : List Int} (h : RU w base (.slice (some ⟨g', 0, none⟩) n c) l) (hn : l.length = n) (ht : Tch g w w') (hne : g' ≠ g) : CU w' (some ⟨g', 0, none⟩) l.length l := by
  obtain ⟨A, c', e, _, hC⟩ := RU_slice (RU_tch h ht hne)
  cases e
  exact hC

def TakePost (gu base : Nat) (w : World) (lu lv : List Int) (k q : Nat) (e : Ending) (w' : World) : Prop :=
  ∃ (o : List Int) (y : Nat), e = .returned (.bool (decide (0 < y))) ∧ y ≤ 1 ∧ o.length = lu.length ∧ Lim o ∧ val o + q * val lv * pw k = val lu + y * pw (k + lv.length + 1) ∧
    (∀ m, k + lv.length + 1 ≤ m → lm o m = lm lu m) ∧ RU w' base (.slice (some ⟨gu, 0, none⟩) lu.length lu.length) o ∧ Tch gu w w'
theorem take_post {gu base : Nat} {w w' : World} {lu lv : List Int} {k q : Nat} {o : List Int} {x y : Nat} (hL : Lim lv) (hq : q < 4294967296) (hy : y ≤ 1)
    (HO : o.length = lu.length ∧ Lim o ∧ val o + q * val (lv.take (lv.length + 1)) * pw k = val lu + (x + y) * pw (k + (lv.length + 1)) ∧ x * pw (lv.length + 1) ≤ q * val (lv.take (lv.length + 1)) ∧ (∀ m, k + (lv.length + 1) ≤ m → lm o m = lm lu m) ∧ RU w' base (.slice (some ⟨gu, 0, none⟩) lu.length lu.length) o)
    (HT : Tch gu w w') : TakePost gu base w lu lv k q (.returned (.bool (decide (0 < y)))) w' := by
  have hx := take_last hL rfl hq HO.2.2.2.1
  subst hx
  have h := HO.2.2.1
  rw [List.take_of_length_le (by omega), Nat.zero_add] at h
  exact ⟨o, y, rfl, hy, HO.1, HO.2.1, h, HO.2.2.2.2.1, HO.2.2.2.2.2, HT⟩
set_option maxHeartbeats 4000000 in
set_option maxRecDepth 100000 in
theorem take_w (gu base : Nat) (lu lv : List Int) (A1 : Option Addr) (c1 k q : Nat) (w : World) (hu : RU w base (.slice (some ⟨gu, 0, none⟩) lu.length lu.length) lu)
    (hv : ∀ w', Tch gu w w' → CU w' A1 lv.length lv) (hLu : Lim lu) (hLv : Lim lv) (hk : k + lv.length + 1 ≤ lu.length) (hl : lu.length < 1000000) (hq : q < 4294967296) :
    Calls Tryd.prog 94 #[.slice (some ⟨gu, 0, none⟩) lu.length lu.length, .slice A1 lv.length c1, .int .i64 (k : Int), .int .u64 (q : Int)] w (TakePost gu base w lu lv k q) := by
  have HU := Aside0.mk hu
  have HV := Aside0.mk hv
  clear hu hv
  go_enter Tryd.func94, Tryd.ntmps94
  go_wp2_with fail
  go_loopw [9, 10, 16] (fun cc bb ii wr => ∃ (j x y : Nat) (o : List Int), j ≤ lv.length + 1 ∧ ii = .int .i64 (j : Int) ∧ cc = .int .u64 (x : Int) ∧ x < 4294967296 ∧ bb = .int .u64 (y : Int) ∧ y ≤ 1 ∧ Aside0 (o.length = lu.length ∧ Lim o ∧ val o + q * val (lv.take j) * pw k = val lu + (x + y) * pw (k + j) ∧ x * pw j ≤ q * val (lv.take j) ∧ (∀ m, k + j ≤ m → lm o m = lm lu m) ∧ RU wr base (.slice (some ⟨gu, 0, none⟩) lu.length lu.length) o) ∧ Aside0 (Tch gu w wr)) (fun _ _ ii _ => lv.length + 1 - (intOf ii).toNat)
  case atStart => exact ⟨0, 0, 0, lu, Nat.zero_le _, rfl, rfl, by omega, rfl, by omega, ⟨rfl, hLu, by simp [val], by simp, fun _ _ => rfl, HU.out⟩, ⟨tch_refl _ _⟩⟩
  case round =>
    obtain ⟨j, x, y, o, hj, rfl, rfl, hx, rfl, hy, HO, HT⟩ := hrel
    by_cases hjN : j < lv.length + 1
    · obtain ⟨hc1, hc2⟩ := RU_at HO.out.2.2.2.2.2 HO.out.1 (k + j) (by omega)
      rw [lm_cast HO.out.2.1] at hc1
      have HAT := at_w A1 c1 lv j wr (HV.out _ HT.out) hLv (by omega) (by omega)
      have ha := lm_lt HO.out.2.1 (k + j)
      have hb := lm_lt hLv j
      obtain ⟨a, hae⟩ : ∃ a, a = lm o (k + j) := ⟨_, rfl⟩
      obtain ⟨b, hbe⟩ : ∃ b, b = lm lv j := ⟨_, rfl⟩
      rw [← hae] at hc1 ha
      rw [← hbe] at HAT hb
      have HAT := Aside0.mk HAT
      have htb := take_bound hx hq hb
      have hmw := mul_wrap hq hb
      obtain ⟨p, hp⟩ : ∃ p, p = q * b := ⟨_, rfl⟩
      rw [← hp] at htb hmw
      obtain ⟨s, hs⟩ : ∃ s, s = x + p := ⟨_, rfl⟩
      rw [← hs] at htb
      obtain ⟨hs64, hsd⟩ := htb
      have hw1 : IntKind.u64.wrap ((x : Int) + (p : Int)) = (s : Int) := by rw [u64_in (by omega) (by omega)]; omega
      have hsm : s % 4294967296 < 4294967296 := Nat.mod_lt _ (by decide)
      obtain ⟨s0, hs0⟩ : ∃ s0, s0 = s % 4294967296 := ⟨_, rfl⟩
      rw [← hs0] at hsm
      have hsc : (s : Int) % 4294967296 = (s0 : Int) := by omega
      have hdw := dif_wrap ha hsm hy
      obtain ⟨D, hD⟩ : ∃ D, D = dif a s0 y := ⟨_, rfl⟩
      rw [← hD] at hdw
      have hDlt : D < 18446744073709551616 := by rw [hD]; exact dif_lt _ _ _
      have hDe := dif_low hD ha hsm hy
      have HDE := Aside0.mk (show D % 4294967296 + s % 4294967296 + y = lm o (k + j) + 4294967296 * (D / 9223372036854775808) by rw [← hae, ← hs0]; exact hDe.1)
      have hDy := hDe.2
      have HS := Aside0.mk (show s = x + q * lm lv j by rw [← hbe, ← hp]; exact hs)
      clear hae hbe hD hDe hp hs hs0
      go_wp2_with fail
      refine HAT.out.mono ?_
      rintro e w1 ⟨rfl, rfl⟩
      go_wp2_with fail
      go_roundw
      case rel => exact ⟨j + 1, s / 4294967296, D / 9223372036854775808, o.set (k + j) ((D % 4294967296 : Nat) : Int), by omega, by go_num, by go_num, hsd, by go_num, hDy, ⟨by rw [List.length_set]; exact HO.out.1, HO.out.2.1.set (k + j) (by omega) (by omega), take_step (by rw [HO.out.1]; omega) HDE.out HS.out HO.out.2.2.1, take_carry HS.out HO.out.2.2.2.1, fun m hm => by rw [lm_set_ne (by omega)]; exact HO.out.2.2.2.2.1 m (by omega), by have := RU_set HO.out.2.2.2.2.2 HO.out.1 (k + j) ((D % 4294967296 : Nat) : Int); simpa using this⟩, ⟨tch_set HT.out _ _⟩⟩
      case measure => simp [intOf]; omega
    · have hj2 : j = lv.length + 1 := by omega
      subst hj2
      go_wp2_with fail
      go_ret
      exact take_post hLv hq hy HO.out HT.out
def BackPost (gu base : Nat) (w : World) (lu lv : List Int) (k : Nat) (e : Ending) (w' : World) : Prop :=
  ∃ (o : List Int) (y : Nat), e = .returned (.tuple #[]) ∧ y ≤ 1 ∧ o.length = lu.length ∧ Lim o ∧ val o + y * pw (k + lv.length + 1) = val lu + val lv * pw k ∧
    (∀ m, k + lv.length + 1 ≤ m → lm o m = lm lu m) ∧ RU w' base (.slice (some ⟨gu, 0, none⟩) lu.length lu.length) o ∧ Tch gu w w'
theorem back_post {gu base : Nat} {w w' : World} {lu lv : List Int} {k : Nat} {o : List Int} {y : Nat} (hy : y ≤ 1)
    (HO : o.length = lu.length ∧ Lim o ∧ val o + y * pw (k + (lv.length + 1)) = val lu + val (lv.take (lv.length + 1)) * pw k ∧ (∀ m, k + (lv.length + 1) ≤ m → lm o m = lm lu m) ∧ RU w' base (.slice (some ⟨gu, 0, none⟩) lu.length lu.length) o)
    (HT : Tch gu w w') : BackPost gu base w lu lv k (.returned (.tuple #[])) w' := by
  have h := HO.2.2.1
  rw [List.take_of_length_le (by omega)] at h
  exact ⟨o, y, rfl, hy, HO.1, HO.2.1, h, HO.2.2.2.1, HO.2.2.2.2, HT⟩
set_option maxHeartbeats 4000000 in
set_option maxRecDepth 100000 in
theorem back_w (gu base : Nat) (lu lv : List Int) (A1 : Option Addr) (c1 k : Nat) (w : World) (hu : RU w base (.slice (some ⟨gu, 0, none⟩) lu.length lu.length) lu)
    (hv : ∀ w', Tch gu w w' → CU w' A1 lv.length lv) (hLu : Lim lu) (hLv : Lim lv) (hk : k + lv.length + 1 ≤ lu.length) (hl : lu.length < 1000000) :
    Calls Tryd.prog 95 #[.slice (some ⟨gu, 0, none⟩) lu.length lu.length, .slice A1 lv.length c1, .int .i64 (k : Int)] w (BackPost gu base w lu lv k) := by
  have HU := Aside0.mk hu
  have HV := Aside0.mk hv
  clear hu hv
  go_enter Tryd.func95, Tryd.ntmps95
  go_wp2_with fail
  go_loopw [6, 11] (fun cc ii wr => ∃ (j x : Nat) (o : List Int), j ≤ lv.length + 1 ∧ ii = .int .i64 (j : Int) ∧ cc = .int .u64 (x : Int) ∧ x ≤ 1 ∧ Aside0 (o.length = lu.length ∧ Lim o ∧ val o + x * pw (k + j) = val lu + val (lv.take j) * pw k ∧ (∀ m, k + j ≤ m → lm o m = lm lu m) ∧ RU wr base (.slice (some ⟨gu, 0, none⟩) lu.length lu.length) o) ∧ Aside0 (Tch gu w wr)) (fun _ ii _ => lv.length + 1 - (intOf ii).toNat)
  case atStart => exact ⟨0, 0, lu, Nat.zero_le _, rfl, rfl, by omega, ⟨rfl, hLu, by simp [val], fun _ _ => rfl, HU.out⟩, ⟨tch_refl _ _⟩⟩
  case round =>
    obtain ⟨j, x, o, hj, rfl, rfl, hx, HO, HT⟩ := hrel
    by_cases hjN : j < lv.length + 1
    · obtain ⟨hc1, hc2⟩ := RU_at HO.out.2.2.2.2 HO.out.1 (k + j) (by omega)
      rw [lm_cast HO.out.2.1] at hc1
      have HAT := fun (W : World) (h : Tch gu w W) => at_w A1 c1 lv j W (HV.out _ h) hLv (by omega) (by omega)
      have HT1 := Aside0.mk (tch_drew HT.out)
      have ha := lm_lt HO.out.2.1 (k + j)
      have hb := lm_lt hLv j
      obtain ⟨a, hae⟩ : ∃ a, a = lm o (k + j) := ⟨_, rfl⟩
      obtain ⟨b, hbe⟩ : ∃ b, b = lm lv j := ⟨_, rfl⟩
      rw [← hae] at hc1 ha
      rw [← hbe] at HAT hb
      have HAT := Aside0.mk HAT
      have hw3 : IntKind.i64.wrap ((k : Int) + (j : Int)) = (k : Int) + (j : Int) := i64_in' (by omega) (by omega)
      have hw4 : ((k : Int) + (j : Int)).toNat = k + j := by omega
      have HS := Aside0.mk (show x + (a + b) = x + (lm o (k + j) + lm lv j) by rw [← hbe, ← hae])
      clear hae hbe
      go_wp2_with fail
      go_region_with (go_at_call 88; refine (HAT.out _ HT1.out).mono ?_; rintro e w1 ⟨rfl, rfl⟩)
      all_goals go_wp2_with fail
      all_goals go_roundw
      all_goals first
        | exact ⟨j + 1, (x + (a + b)) / 4294967296, o.set (k + j) (((x + (a + b)) % 4294967296 : Nat) : Int), by omega, by go_num, by go_num, by omega, ⟨by rw [List.length_set]; exact HO.out.1, HO.out.2.1.set (k + j) (by omega) (by omega), back_step (by rw [HO.out.1]; omega) HS.out HO.out.2.2.1, fun m hm => by rw [lm_set_ne (by omega)]; exact HO.out.2.2.2.1 m (by omega), by have := (RU_set HO.out.2.2.2.2 HO.out.1 (k + j) (((x + (a + b)) % 4294967296 : Nat) : Int)).drew_; simpa using this⟩, ⟨tch_drew (tch_set HT.out _ _)⟩⟩
        | (simp [intOf]; omega)
    · have hj2 : j = lv.length + 1 := by omega
      subst hj2
      go_wp2_with fail
      go_end0
      exact back_post hx HO.out HT.out
end Go.Proofs.YtklhpobphloehaaDoor.G
