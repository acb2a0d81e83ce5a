/- Contracts by hand: small: a number divided by one limb. -/
import Derived.Test.YtklhpobphloehaaDoorG7
set_option linter.unusedVariables false
namespace Go.Proofs.YtklhpobphloehaaDoor.G
open Go.RowKit Go.Proofs.YtklhpobphloehaaDoorW.PrintWords Go.Proofs.YtklhpobphloehaaDoorW.PrintLast Go.Proofs.YtklhpobphloehaaDoor.Nn

theorem or_high2 {x y : Nat} (hx : x < 4294967296) (hy : y < 4294967296) : bits .or .u64 ((y : Int) * 4294967296) (x : Int) = ((x + y * 4294967296 : Nat) : Int) := by
  rw [show (y : Int) * 4294967296 = ((y * 4294967296 : Nat) : Int) from by omega, bits_or_u64_nat _ _ (by omega) (by omega)]
  congr 1
  have := or_parts (a := y * 4294967296) (b := x) (s := 32) (by omega) (by omega)
  rw [this]
  omega
def SmallPost (w : World) (n d : Nat) (e : Ending) (w' : World) : Prop := ∃ v, e = .returned (.tuple #[v, .int .u32 ((n % d : Nat) : Int)]) ∧ RU w' w.heap.size v (digs (n / d)) ∧ Below w.heap.size w w'
theorem drop_set (o : List Int) (i : Nat) (v : Int) : (o.set i v).drop (i + 1) = o.drop (i + 1) := by
  rw [List.drop_set_of_lt (by omega)]
/-- One place of a division by one limb. -/
theorem small_step {l o : List Int} {j t d a z : Nat} (hj : j < o.length) (ha : a = lm l j) (hz : z = a + t * 4294967296) (hd : 0 < d) (h : val (l.drop (j + 1)) = val (o.drop (j + 1)) * d + t) :
    val (l.drop j) = val ((o.set j ((z / d : Nat) : Int)).drop j) * d + z % d := by
  rw [val_drop_at l, val_drop_at (o.set j ((z / d : Nat) : Int)), lm_set_self hj, drop_set, ← ha, h]
  have h1 := Nat.div_add_mod z d
  rw [Nat.add_mul, Nat.mul_assoc, Nat.mul_add, Nat.mul_comm (z / d) d]
  omega
theorem small_end {n q t d : Nat} (ht : t < d) (h : n = q * d + t) : n / d = q ∧ n % d = t := by
  have hd : 0 < d := by omega
  subst h
  rw [Nat.mul_comm q d, Nat.mul_add_div hd, Nat.div_eq_of_lt ht, Nat.mul_add_mod, Nat.mod_eq_of_lt ht]
  exact ⟨rfl, rfl⟩
theorem small_post {w w' : World} {n q t d : Nat} {v : Value} (h : n / d = q ∧ n % d = t) (hR : RU w' w.heap.size v (digs q)) (hB : Below w.heap.size w w') : SmallPost w n d (.returned (.tuple #[v, .int .u32 (t : Int)])) w' :=
  ⟨v, by rw [h.2], by rw [h.1]; exact hR, hB⟩
set_option maxHeartbeats 4000000 in
set_option maxRecDepth 100000 in
theorem small_w (A0 : Option Addr) (c0 : Nat) (l0 : List Int) (d : Nat) (w : World) (hr0 : CU w A0 l0.length l0) (hL0 : Lim l0) (hl0 : l0.length < 1000000) (hd : 0 < d) (hd2 : d < 4294967296) :
    Calls Tryd.prog 81 #[.slice A0 l0.length c0, .int .u32 (d : Int)] w (SmallPost w (val l0) d) := by
  have HR0 := Aside0.mk hr0
  clear hr0
  have hmk : ∀ W : World, (Instr.makeSlice 22 (.int .i64 (l0.length : Int)) (.int .i64 (l0.length : Int))).run Tryd.prog W = .ok (.slice (some ⟨W.heap.size, 0, none⟩) l0.length l0.length) (W.alloc (.cells (madeCells #[.int .u32 0] l0.length) 54)) := fun W => make_u l0.length (by omega) W
  have HM := Aside0.mk (RU_made w l0.length (by omega))
  have hq0 : ((d : Int) == 0) = false := by rw [beq_eq_false_iff_ne]; omega
  have hq1 : ¬ (d = 0) := by omega
  go_enter Tryd.func81, Tryd.ntmps81
  go_wp2_with fail
  go_loopw [7, 8] (fun c i wr => ∃ (k t : Nat) (o : List Int), k ≤ l0.length ∧ i = .int .i64 ((k : Int) - 1) ∧ c = .int .u64 (t : Int) ∧ t < d ∧ Aside0 (o.length = l0.length ∧ Lim o ∧ val (l0.drop k) = val (o.drop k) * d + t ∧ RU wr w.heap.size (.slice (some ⟨w.heap.size, 0, none⟩) l0.length l0.length) o) ∧ Aside0 (Below w.heap.size w wr)) (fun _ i _ => (intOf i + 1).toNat)
  case atStart => exact ⟨l0.length, 0, List.replicate l0.length 0, Nat.le_refl _, by go_num, rfl, hd, ⟨by simp, Lim.replicate _, by rw [List.drop_of_length_le (Nat.le_refl _), List.drop_of_length_le (by simp)]; simp [val], HM.out⟩, ⟨below_alloc (Below.refl _ _) _⟩⟩
  case round =>
    obtain ⟨k, t, o, hk, rfl, rfl, ht, HO, HB⟩ := hrel
    rcases Nat.eq_zero_or_pos k with rfl | hk0
    · have HC := cut_own HO.out.2.2.2 HO.out.1 HO.out.2.1 (by omega) HB.out
      have HC := Aside0.mk HC
      have he := small_end ht HO.out.2.2.1
      have HE := Aside0.mk he
      have ht2 : t < 4294967296 := by omega
      clear he
      go_wp2_with fail
      refine HC.out.mono ?_
      rintro e w1 ⟨v, rfl, hR1, hB1⟩
      have HR2 := Aside0.mk hR1
      have HB2 := Aside0.mk hB1
      clear hR1 hB1
      go_wp2_with fail
      go_ret2
      exact small_post HE.out HR2.out HB2.out
    · obtain ⟨j, rfl⟩ : ∃ j, k = j + 1 := ⟨k - 1, by omega⟩
      rw [show ((j + 1 : Nat) : Int) - 1 = (j : Int) from by omega]
      obtain ⟨ad, e, hcell⟩ := CU_at (CU_below HR0.out HB.out) j (by omega)
      subst e
      rw [lm_cast hL0] at hcell
      obtain ⟨hc1, hc2⟩ := RU_at HO.out.2.2.2 HO.out.1 j (by omega)
      have ha := lm_lt hL0 j
      obtain ⟨a, hae⟩ : ∃ a, a = lm l0 j := ⟨_, rfl⟩
      rw [← hae] at hcell ha
      have ht2 : t < 4294967296 := by omega
      have hor := or_high2 ha ht2
      obtain ⟨z, hz⟩ : ∃ z, z = a + t * 4294967296 := ⟨_, rfl⟩
      rw [← hz] at hor
      have hz64 : z < 18446744073709551616 := by omega
      have hqb : z / d < 4294967296 := by
        rw [Nat.div_lt_iff_lt_mul hd]
        have : (t + 1) * 4294967296 ≤ d * 4294967296 := Nat.mul_le_mul_right _ ht
        omega
      have hrb : z % d < d := Nat.mod_lt _ hd
      obtain ⟨q, hq⟩ : ∃ q, q = z / d := ⟨_, rfl⟩
      obtain ⟨r, hr⟩ : ∃ r, r = z % d := ⟨_, rfl⟩
      have hqc : (z : Int) / (d : Int) = (q : Int) := by rw [hq, Int.natCast_ediv]
      have hrc : (z : Int) % (d : Int) = (r : Int) := by rw [hr, Int.natCast_emod]
      rw [← hq] at hqb
      rw [← hr] at hrb
      have HST := Aside0.mk (small_step (l := l0) (o := o) (j := j) (t := t) (d := d) (a := a) (z := z) (by rw [HO.out.1]; omega) hae hz hd HO.out.2.2.1)
      rw [← hq, ← hr] at HST
      clear hae hz hq hr
      go_wp2_with fail
      go_roundw
      case rel => exact ⟨j, r, o.set j (q : Int), by omega, by go_num, by go_num, hrb, ⟨by rw [List.length_set]; exact HO.out.1, HO.out.2.1.set j (by omega) (by omega), HST.out, RU_set HO.out.2.2.2 HO.out.1 j _⟩, ⟨below_set HB.out (Nat.le_refl _) _ _⟩⟩
      case measure => first | (simp [intOf]; done) | (simp [intOf]; omega)
end Go.Proofs.YtklhpobphloehaaDoor.G
