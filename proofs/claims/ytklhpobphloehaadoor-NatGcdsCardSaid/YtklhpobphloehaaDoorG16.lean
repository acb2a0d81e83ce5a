/- Contracts by hand: guess: how often a divisor goes into what stands at a place, or once more. -/
import Derived.Test.YtklhpobphloehaaDoorG15
import Derived.Test.YtklhpobphloehaaDoorG11
set_option linter.unusedVariables false
namespace Go.Proofs.YtklhpobphloehaaDoor.G
open Go.RowKit Go.Proofs.YtklhpobphloehaaDoorW.PrintWords Go.Proofs.YtklhpobphloehaaDoorW.PrintLast Go.Proofs.YtklhpobphloehaaDoor.Nn

/-- Nothing has been touched. -/
abbrev Qt (w w' : World) : Prop := w.grownBy w' none
theorem qt_refl (w : World) : Qt w w := ⟨rfl, rfl, rfl, Nat.le_refl _, fun _ _ _ => rfl⟩
theorem qt_tch {w w' : World} (h : Qt w w') (g : Nat) : Tch g w w' := ⟨h.os, h.tape, h.output, h.size, fun k hk _ => h.block k hk (fun e => by cases e)⟩
theorem qt_below {w w' : World} (h : Qt w w') : Below w.heap.size w w' := ⟨h.os, h.tape, h.output, h.size, fun k hk => h.block k hk (fun e => by cases e)⟩
theorem below_qt {w w' : World} (h : Below w.heap.size w w') : Qt w w' := ⟨h.os, h.tape, h.output, h.size, fun k hk _ => h.block k hk⟩
theorem qt_trans {a b c : World} (h : Qt a b) (k : Qt b c) : Qt a c :=
  ⟨k.os.trans h.os, k.tape.trans h.tape, k.output.trans h.output, Nat.le_trans h.size k.size, fun i hi hne => (k.block i (Nat.lt_of_lt_of_le hi h.size) hne).trans (h.block i hi hne)⟩
theorem qt_drewN {a w : World} (h : Qt a w) (n : Nat) : Qt a (w.drewN n) := qt_trans h (below_qt (pw_below_drewN (Below.refl w.heap.size w) n))
theorem qt_drew {a w : World} (h : Qt a w) : Qt a w.drew := ⟨h.os, h.tape, h.output, h.size, h.block⟩

structure Gs (t v1 v2 u2 Q : Nat) : Prop where
  pos : 2147483648 ≤ v1
  top : t ≤ v1 * 4294967296 + 4294967295
  init : Q ≤ t / v1
  less : Q < 4294967296
  over : ∀ q r, q * v1 + r = t → r * 4294967296 + u2 < q * v2 → Q < q
  done : ∀ q r, q * v1 + r = t → q * v2 ≤ r * 4294967296 + u2 → q < 4294967296 → q ≤ Q + 1
def GuessPost (w : World) (Q : Nat) (e : Ending) (w' : World) : Prop := ∃ q : Nat, e = .returned (.int .u64 (q : Int)) ∧ Q ≤ q ∧ q ≤ Q + 1 ∧ q < 4294967296 ∧ Qt w w'
theorem gs_next {t v1 v2 u2 Q q r : Nat} (g : Gs t v1 v2 u2 Q) (h : q * v1 + r = t) (hQ : Q < q) : (q - 1) * v1 + (r + v1) = t := by
  obtain ⟨p, rfl⟩ : ∃ p, q = p + 1 := ⟨q - 1, by omega⟩
  rw [Nat.add_sub_cancel, ← h, Nat.add_mul]
  omega
theorem gs_break {t v1 v2 u2 Q q r : Nat} (g : Gs t v1 v2 u2 Q) (hv2 : v2 < 4294967296) (h : q * v1 + r = t) (hr : 4294967296 ≤ r) : q < 4294967296 ∧ q ≤ Q + 1 := by
  have h1 := g.top
  have h2 := g.pos
  have h3 : q < 4294967296 := by
    refine Nat.lt_of_not_le fun hge => ?_
    have := Nat.mul_le_mul_right v1 hge
    rw [Nat.mul_comm v1] at h1
    omega
  refine ⟨h3, g.done q r h ?_ h3⟩
  have h4 : q * v2 ≤ 4294967296 * 4294967296 := Nat.mul_le_mul (by omega) (by omega)
  have h5 := Nat.mul_le_mul_right 4294967296 hr
  omega
theorem gs_small {t v1 v2 u2 Q q r : Nat} (g : Gs t v1 v2 u2 Q) (h : q * v1 + r = t) : q < 8589934594 := by
  have h1 := g.top
  have h2 := g.pos
  refine Nat.lt_of_not_le fun hge => ?_
  have := Nat.mul_le_mul_right v1 hge
  omega
set_option maxHeartbeats 8000000 in
set_option maxRecDepth 100000 in
theorem guess_w (gu base : Nat) (lu lv : List Int) (A1 : Option Addr) (c1 k n Q : Nat) (w : World) (hu : RU w base (.slice (some ⟨gu, 0, none⟩) lu.length lu.length) lu)
    (hv : CU w A1 n lv) (hn : lv.length = n) (hLu : Lim lu) (hLv : Lim lv) (hk : k + n + 1 ≤ lu.length) (hl : lu.length < 1000000) (h2 : 2 ≤ n)
    (hg : Gs (lm lu (k + n) * 4294967296 + lm lu (k + n - 1)) (lm lv (n - 1)) (lm lv (n - 2)) (lm lu (k + n - 2)) Q) :
    Calls Tryd.prog 93 #[.slice (some ⟨gu, 0, none⟩) lu.length lu.length, .slice A1 n c1, .int .i64 (k : Int)] w (GuessPost w Q) := by
  have HU := Aside0.mk hu
  have HV := Aside0.mk hv
  clear hu hv
  have e0 := lm_cast hLu (k + n)
  have e1 := lm_cast hLu (k + n - 1)
  have e2 := lm_cast hLu (k + n - 2)
  have e3 := lm_cast hLv (n - 1)
  have e4 := lm_cast hLv (n - 2)
  have b0 := lm_lt hLu (k + n)
  have b1 := lm_lt hLu (k + n - 1)
  have b2 := lm_lt hLu (k + n - 2)
  have b3 := lm_lt hLv (n - 1)
  have b4 := lm_lt hLv (n - 2)
  generalize lm lu (k + n) = u0 at e0 b0 hg
  generalize lm lu (k + n - 1) = u1 at e1 b1 hg
  generalize lm lu (k + n - 2) = u2 at e2 b2 hg
  generalize lm lv (n - 1) = v1 at e3 b3 hg
  generalize lm lv (n - 2) = v2 at e4 b4 hg
  have hv1 := hg.pos
  have hUC : ∀ W, Qt w W → W.cell? ⟨gu, k + n, none⟩ = some (.int .u32 (u0 : Int)) ∧ W.cell? ⟨gu, k + n - 1, none⟩ = some (.int .u32 (u1 : Int)) ∧ W.cell? ⟨gu, k + n - 2, none⟩ = some (.int .u32 (u2 : Int)) := by
    intro W hW
    have hR := RU_below HU.out (qt_below hW)
    have h0 := (RU_at hR rfl (k + n) (by omega)).1
    have h1 := (RU_at hR rfl (k + n - 1) (by omega)).1
    have h2 := (RU_at hR rfl (k + n - 2) (by omega)).1
    rw [e0] at h0; rw [e1] at h1; rw [e2] at h2
    exact ⟨h0, h1, h2⟩
  obtain ⟨ad, hA, _⟩ := CU_at HV.out 0 (by omega)
  subst hA
  have hVC : ∀ W, Qt w W → W.cell? (ad.add (n - 1)) = some (.int .u32 (v1 : Int)) ∧ W.cell? (ad.add (n - 2)) = some (.int .u32 (v2 : Int)) := by
    intro W hW
    have hC := CU_below HV.out (qt_below hW)
    obtain ⟨a1, x1, h1⟩ := CU_at hC (n - 1) (by omega)
    obtain ⟨a2, x2, h2⟩ := CU_at hC (n - 2) (by omega)
    cases x1; cases x2
    rw [e3] at h1; rw [e4] at h2
    exact ⟨h1, h2⟩
  have HUC := Aside0.mk hUC
  have HVC := Aside0.mk hVC
  have HG := Aside0.mk hg
  clear e0 e1 e2 e3 e4 hUC hVC
  obtain ⟨hc0, hc1, hc2⟩ := HUC.out w (qt_refl w)
  obtain ⟨hd1, hd2⟩ := HVC.out w (qt_refl w)
  have hor := or_high2 b1 b0
  obtain ⟨t, ht⟩ : ∃ t, t = u1 + u0 * 4294967296 := ⟨_, rfl⟩
  rw [← ht] at hor
  have ht64 : t < 18446744073709551616 := by omega
  have HG := Aside0.mk (show Gs t v1 v2 u2 Q by rw [ht, Nat.add_comm]; exact HG.out)
  clear hg ht
  have hw1 : IntKind.i64.wrap ((k : Int) + (n : Int)) = (k : Int) + (n : Int) := i64_in' (by omega) (by omega)
  have hw2 : IntKind.i64.wrap ((k : Int) + (n : Int) - 1) = (k : Int) + (n : Int) - 1 := i64_in' (by omega) (by omega)
  have hw3 : IntKind.i64.wrap ((k : Int) + (n : Int) - 2) = (k : Int) + (n : Int) - 2 := i64_in' (by omega) (by omega)
  have hw4 : IntKind.i64.wrap ((n : Int) - 1) = (n : Int) - 1 := i64_in' (by omega) (by omega)
  have hw5 : IntKind.i64.wrap ((n : Int) - 2) = (n : Int) - 2 := i64_in' (by omega) (by omega)
  have hi1 : ((k : Int) + (n : Int)).toNat = k + n := by omega
  have hi2 : ((k : Int) + (n : Int) - 1).toNat = k + n - 1 := by omega
  have hi3 : ((k : Int) + (n : Int) - 2).toNat = k + n - 2 := by omega
  have hi4 : ((n : Int) - 1).toNat = n - 1 := by omega
  have hi5 : ((n : Int) - 2).toNat = n - 2 := by omega
  have hj1 : (0 : Int) ≤ (k : Int) + (n : Int) ∧ (k : Int) + (n : Int) < (lu.length : Int) := by omega
  have hj2 : (0 : Int) ≤ (k : Int) + (n : Int) - 1 ∧ (k : Int) + (n : Int) - 1 < (lu.length : Int) := by omega
  have hj3 : (0 : Int) ≤ (k : Int) + (n : Int) - 2 ∧ (k : Int) + (n : Int) - 2 < (lu.length : Int) := by omega
  obtain ⟨q0, hq0⟩ : ∃ q0, q0 = t / v1 := ⟨_, rfl⟩
  obtain ⟨r0, hr0⟩ : ∃ r0, r0 = t % v1 := ⟨_, rfl⟩
  have HQ0 := Aside0.mk (show q0 * v1 + r0 = t by rw [hq0, hr0, Nat.mul_comm]; exact Nat.div_add_mod t v1)
  have HQ1 := Aside0.mk (show Q ≤ q0 by rw [hq0]; exact HG.out.init)
  have hr9 : r0 < 4294967296 := by have := Nat.mod_lt t (show 0 < v1 by omega); omega
  have hqc : (t : Int) / (v1 : Int) = (q0 : Int) := by rw [hq0]; rfl
  have hrc : (t : Int) % (v1 : Int) = (r0 : Int) := by rw [hr0]; rfl
  have hq9 := gs_small HG.out HQ0.out
  have hz0 : ((v1 : Int) == 0) = false := by rw [beq_eq_false_iff_ne]; omega
  have hz1 : ¬ (v1 = 0) := by omega
  clear hq0 hr0
  go_enter Tryd.func93, Tryd.ntmps93
  go_wp2_with fail
  go_quiet (fail)
  clear hc0 hc1 hc2 hd1 hd2 hor hw1 hw2 hi1 hi2 hj1 hj2
  have HW1 := Aside0.mk (qt_drewN (qt_refl w) nq)
  generalize w.drewN nq = w1 at HW1 ⊢
  obtain ⟨hd1, hd2⟩ := HVC.out w1 HW1.out
  go_wp2_with fail
  have HRC := Aside0.mk hrc
  clear hd1 hd2 hqc hrc
  go_loopw [9, 10] (fun qq rr wr => ∃ (q r : Nat), qq = .int .u64 (q : Int) ∧ rr = .int .u64 (r : Int) ∧ r < 4294967296 ∧ q < 8589934594 ∧ Aside0 (q * v1 + r = t ∧ Q ≤ q) ∧ Aside0 (Qt w wr)) (fun qq _ _ => (intOf qq).toNat)
  case atStart => exact ⟨q0, r0, by go_num, by first | rfl | rw [HRC.out], hr9, hq9, ⟨HQ0.out, HQ1.out⟩, ⟨HW1.out⟩⟩
  case round =>
    clear HQ0 HQ1 hr9 hq9 HW1
    obtain ⟨q, r, rfl, rfl, hr, hq, HQ, HT⟩ := hrel
    obtain ⟨hc0, hc1, hc2⟩ := HUC.out wr HT.out
    obtain ⟨hd1, hd2⟩ := HVC.out wr HT.out
    have hw1 : IntKind.i64.wrap ((k : Int) + (n : Int)) = (k : Int) + (n : Int) := i64_in' (by omega) (by omega)
    by_cases hqB : q < 4294967296
    · have hqs : (q : Int) / 4294967296 = 0 := by omega
      have hm := take_bound (x := 0) (by decide) hqB b4
      have hmw := mul_wrap hqB b4
      obtain ⟨p, hp⟩ : ∃ p, p = q * v2 := ⟨_, rfl⟩
      rw [← hp] at hmw hm
      have hor := or_high2 b2 hr
      obtain ⟨z, hz⟩ : ∃ z, z = u2 + r * 4294967296 := ⟨_, rfl⟩
      rw [← hz] at hor
      have hpw : p < 18446744073709551616 := by omega
      have hzw : z < 18446744073709551616 := by omega
      by_cases hpz : z < p
      · have HPZ := Aside0.mk (show r * 4294967296 + u2 < q * v2 by rw [← hp]; omega)
        have hgt : decide ((z : Int) < (p : Int)) = true := by rw [decide_eq_true_iff]; omega
        go_wp2_with fail
        go_quiet (fail)
        clear hc0 hc1 hc2 hd1 hd2 hmw hor hw1
        have HW2 := Aside0.mk (qt_drewN HT.out nq)
        generalize wr.drewN nq = w2 at HW2 ⊢
        obtain ⟨hd1, hd2⟩ := HVC.out w2 HW2.out
        have HLT := Aside0.mk (show Q < q from HG.out.over q r HQ.out.1 (by have := HPZ.out; omega))
        have HNX := Aside0.mk (gs_next HG.out HQ.out.1 HLT.out)
        have hq1 : 1 ≤ q := by have := HLT.out; omega
        have hqw : IntKind.u64.wrap ((q : Int) - 1) = ((q - 1 : Nat) : Int) := by rw [u64_in (by omega) (by omega)]; omega
        by_cases hbr : 4294967296 ≤ r + v1
        · have HBR := Aside0.mk (gs_break HG.out b4 HNX.out hbr)
          have hbd : 0 < ((r : Int) + (v1 : Int)) / 4294967296 := by omega
          go_wp2_with fail
          go_ret
          exact ⟨q - 1, by go_num, by have := HLT.out; omega, HBR.out.2, HBR.out.1, HW2.out⟩
        · have hbd : ((r : Int) + (v1 : Int)) / 4294967296 = 0 := by omega
          go_wp2_with fail
          go_roundw
          case rel => exact ⟨q - 1, r + v1, by go_num, by go_num, by omega, by omega, ⟨HNX.out, by have := HLT.out; omega⟩, ⟨HW2.out⟩⟩
          case measure => simp [intOf]; omega
      · have HPZ := Aside0.mk (show q * v2 ≤ r * 4294967296 + u2 by rw [← hp]; omega)
        have hgt : decide ((z : Int) < (p : Int)) = false := by rw [decide_eq_false_iff_not]; omega
        go_wp2_with fail
        go_quiet (fail)
        clear hc0 hc1 hc2 hd1 hd2 hmw hor hw1
        have HW2 := Aside0.mk (qt_drewN HT.out nq)
        generalize wr.drewN nq = w2 at HW2 ⊢
        have HDN := Aside0.mk (show q ≤ Q + 1 from HG.out.done q r HQ.out.1 (by have := HPZ.out; omega) hqB)
        go_wp2_with fail
        go_ret
        exact ⟨q, rfl, HQ.out.2, HDN.out, hqB, HW2.out⟩
    · have hqs : decide ((0 : Int) < (q : Int) / 4294967296) = true := by rw [decide_eq_true_iff]; omega
      go_wp2_with fail
      go_quiet (fail)
      clear hc0 hc1 hc2 hd1 hd2 hw1
      have HW2 := Aside0.mk (qt_drewN HT.out nq)
      generalize wr.drewN nq = w2 at HW2 ⊢
      obtain ⟨hd1, hd2⟩ := HVC.out w2 HW2.out
      have HLT := Aside0.mk (show Q < q from Nat.lt_of_lt_of_le HG.out.less (by omega))
      have HNX := Aside0.mk (gs_next HG.out HQ.out.1 HLT.out)
      have hq1 : 1 ≤ q := by have := HLT.out; omega
      have hqw : IntKind.u64.wrap ((q : Int) - 1) = ((q - 1 : Nat) : Int) := by rw [u64_in (by omega) (by omega)]; omega
      by_cases hbr : 4294967296 ≤ r + v1
      · have HBR := Aside0.mk (gs_break HG.out b4 HNX.out hbr)
        have hbd : 0 < ((r : Int) + (v1 : Int)) / 4294967296 := by omega
        go_wp2_with fail
        go_ret
        exact ⟨q - 1, by go_num, by have := HLT.out; omega, HBR.out.2, HBR.out.1, HW2.out⟩
      · have hbd : ((r : Int) + (v1 : Int)) / 4294967296 = 0 := by omega
        go_wp2_with fail
        go_roundw
        case rel => exact ⟨q - 1, r + v1, by go_num, by go_num, by omega, by omega, ⟨HNX.out, by have := HLT.out; omega⟩, ⟨HW2.out⟩⟩
        case measure => simp [intOf]; omega
end Go.Proofs.YtklhpobphloehaaDoor.G
