/- Rational numbers: what the functions of rat and of its reference compute: the small texts of this part, one behind another. -/
import Derived.Test.YtpegcppeobndcaaGreatDoorAb
import Derived.Test.YtpegcppeobndcaaGreatDoorS4
import Derived.Test.YtpegcppeobndcaaGreatDoorS3
import Derived.Deep.RegionHeld3
import Derived.Deep.DeepCutAuto
set_option linter.unusedVariables false
set_option maxHeartbeats 4000000
set_option maxRecDepth 100000
namespace Go.Proofs.YtpegcppeobndcaaGreatDoor.G
open Go.RowKit YtpegcppeobndcaaGreatDoorW.PrintWords YtpegcppeobndcaaGreatDoorW.PrintLast Go.Proofs.YtpegcppeobndcaaGreatDoor.Nn
def R3 (w : World) (v : Value) (neg : Bool) (n d : Nat) : Prop := ∃ (A : Option Addr) (L c : Nat) (A' : Option Addr) (L' c' : Nat), v = .agg #[.bool neg, .slice A L c, .slice A' L' c'] ∧ Nu w (.slice A L c) n ∧ Nu w (.slice A' L' c') d
def R3Post (w : World) (neg : Bool) (n d : Nat) (e : Ending) (w' : World) : Prop := ∃ v, e = .returned v ∧ R3 w' v neg n d ∧ Below w.heap.size w w'
def R3PostE (w : World) (neg : Bool) (n d : Nat) (k : Int) (e : Ending) (w' : World) : Prop := ∃ v, e = .returned (.tuple #[v, .int .i64 k]) ∧ R3 w' v neg n d ∧ Below w.heap.size w w'
theorem Nu_open {w : World} {v : Value} {n : Nat} (h : Nu w v n) : ∃ A L c, v = .slice A L c ∧ Nu w (.slice A L c) n := by
 obtain ⟨A, c, rfl, h1, h2⟩ := h
 exact ⟨A, _, c, rfl, A, c, rfl, h1, h2⟩
theorem Nu_len0 {w : World} {A : Option Addr} {L c n : Nat} (h : Nu w (.slice A L c) n) : L = 0 ↔ n = 0 := by
 obtain ⟨A', c', e, h1, h2⟩ := h
 cases e
 exact digs_length_zero
theorem R3.below {w w1 : World} {v : Value} {neg : Bool} {n d : Nat} (h : R3 w v neg n d) (hb : Below w.heap.size w w1) : R3 w1 v neg n d := by
 obtain ⟨A, L, c, A', L', c', e, h1, h2⟩ := h
 exact ⟨A, L, c, A', L', c', e, h1.below hb, h2.below hb⟩
theorem qone_w (w : World) : Calls Tryz.prog 28 #[] w (NuPost w 1) := by
 have HC : Aside0 (Calls Tryz.prog 25 #[.int .u64 1] w (NuPost w 1)) := ⟨ofN 1 Z5⟩
 go_enter Tryz.func28, Tryz.ntmps28
 go_wp2_with fail
 refine HC.out.mono ?_
 rintro e w1 ⟨v, rfl, hN, hB⟩
 have HN := Aside0.mk hN
 have HB := Aside0.mk hB
 clear hN hB
 go_wp2_with fail
 go_ret
 exact ⟨_, rfl, HN.out, HB.out⟩
theorem r3_post {w w' : World} {neg : Bool} {n d : Nat} {A A' : Option Addr} {L L' c c' : Nat} (h1 : Nu w' (.slice A L c) n) (h2 : Nu w' (.slice A' L' c') d) (hB : Below w.heap.size w w') : R3Post w neg n d (.returned (.agg #[.bool neg, .slice A L c, .slice A' L' c'])) w' :=
 ⟨_, rfl, ⟨A, L, c, A', L', c', rfl, h1, h2⟩, hB⟩
def Blk (w : World) (g : Nat) (a b c : Value) : Prop := (w.cell? ⟨g, 0, none⟩ = some a ∧ w.cell? ⟨g, 1, none⟩ = some b ∧ w.cell? ⟨g, 2, none⟩ = some c) ∧ w.frozen? ⟨g, 0, none⟩ = false ∧ w.frozen? ⟨g, 1, none⟩ = false ∧ w.frozen? ⟨g, 2, none⟩ = false
theorem cell_lt {w : World} {g i : Nat} {v : Value} (h : w.cell? ⟨g, i, none⟩ = some v) : g < w.heap.size := by
 rcases Nat.lt_or_ge g w.heap.size with h' | h'
 ·exact h'
 ·unfold World.cell? at h
  simp [Array.getElem?_eq_none h'] at h
theorem Blk.below {w w1 : World} {g : Nat} {a b c : Value} (h : Blk w g a b c) (hb : Below w.heap.size w w1) : Blk w1 g a b c := by
 obtain ⟨⟨h0, h1, h2⟩, f0, f1, f2⟩ := h
 have hg := cell_lt h0
 exact ⟨⟨by rw [hb.cell (p := ⟨g, 0, none⟩) hg]; exact h0, by rw [hb.cell (p := ⟨g, 1, none⟩) hg]; exact h1, by rw [hb.cell (p := ⟨g, 2, none⟩) hg]; exact h2⟩, by rw [hb.frozen (p := ⟨g, 0, none⟩) hg]; exact f0, by rw [hb.frozen (p := ⟨g, 1, none⟩) hg]; exact f1, by rw [hb.frozen (p := ⟨g, 2, none⟩) hg]; exact f2⟩
theorem Blk_alloc (w : World) (a b c : Value) (t : TypeId) : Blk (w.alloc (.cells #[a, b, c] t)) w.heap.size a b c := ⟨⟨by simp, by simp, by simp⟩, by simp, by simp, by simp⟩
theorem below_set3 {B : Nat} {w wr : World} (h : Below B w wr) {g : Nat} (hg : B ≤ g) (a b c : Value) : Below B w (((wr.setCell ⟨g, 0, none⟩ a).setCell ⟨g, 1, none⟩ b).setCell ⟨g, 2, none⟩ c) := G.below_set (G.below_set (G.below_set h hg 0 a) hg 1 b) hg 2 c
theorem Nu_set1 {w : World} {g i : Nat} {u u' : Value} (hu : ∀ k x, u ≠ .int k x) (hc : w.cell? ⟨g, i, none⟩ = some u) {v : Value} {n : Nat} (h : Nu w v n) : Nu (w.setCell ⟨g, i, none⟩ u') v n := by
 obtain ⟨A, c, rfl, h1, hC⟩ := h
 refine ⟨A, c, rfl, h1, reads_CU ?_⟩
 have hR := CU_reads hC
 refine ⟨hR.1, hR.2.1, fun hp => ?_⟩
 obtain ⟨ad, e, hc2⟩ := hR.2.2 hp
 refine ⟨ad, e, fun j hj => ?_⟩
 have h3 := hc2 j hj
 rw [World.cell?_setCell_other (h := by
  intro h'
  rw [← h', hc] at h3
  exact hu _ _ (Option.some.inj h3))]
 exact h3
theorem nb (x : Bool) : ∀ k y, (Value.bool x) ≠ .int k y := fun _ _ h => by cases h
theorem ns (A : Option Addr) (L c : Nat) : ∀ k y, (Value.slice A L c) ≠ .int k y := fun _ _ h => by cases h
theorem Nu_set3 {w : World} {g : Nat} {x : Bool} {A1 A2 : Option Addr} {L1 c1 L2 c2 : Nat} (hb : Blk w g (.bool x) (.slice A1 L1 c1) (.slice A2 L2 c2)) (a b c : Value) {v : Value} {n : Nat} (h : Nu w v n) :
  Nu (((w.setCell ⟨g, 0, none⟩ a).setCell ⟨g, 1, none⟩ b).setCell ⟨g, 2, none⟩ c) v n := by
 obtain ⟨⟨h0, h1, h2⟩, _⟩ := hb
 have k1 : (w.setCell ⟨g, 0, none⟩ a).cell? ⟨g, 1, none⟩ = some (.slice A1 L1 c1) := by rw [World.cell?_setCell_other (h := by intro h; cases h)]; exact h1
 have k2 : ((w.setCell ⟨g, 0, none⟩ a).setCell ⟨g, 1, none⟩ b).cell? ⟨g, 2, none⟩ = some (.slice A2 L2 c2) := by rw [World.cell?_setCell_other (h := by intro h; cases h), World.cell?_setCell_other (h := by intro h; cases h)]; exact h2
 exact Nu_set1 (ns _ _ _) k2 (Nu_set1 (ns _ _ _) k1 (Nu_set1 (nb _) h0 h))
theorem qzero_w (w : World) : Calls Tryz.prog 98 #[] w (R3Post w false 0 1) := by
 have HC := Aside0.mk (fun W : World => qone_w W)
 have HK := Aside0.mk (Blk_alloc w (.bool false) (.slice none 0 0) (.slice none 0 0) 27)
 have HW := Aside0.mk (below_alloc (Below.refl w.heap.size w) (.cells #[.bool false, .slice none 0 0, .slice none 0 0] 27))
 go_enter Tryz.func98, Tryz.ntmps98
 go_wp2_with fail
 refine (HC.out _).mono ?_
 rintro e w1 ⟨v, rfl, hN, hB⟩
 obtain ⟨A, L, c, rfl, hN2⟩ := Nu_open hN
 have HK1 := Aside0.mk (HK.out.below hB)
 obtain ⟨⟨hc0, hc1, hc2⟩, hf0, hf1, hf2⟩ := HK1.out
 have HN := Aside0.mk (Nu_set3 HK1.out (.bool false) (.slice none 0 0) (.slice A L c) hN2)
 have HB := tT HW hB
 clear hN hN2 hB HW HK HC
 go_wp2_with fail
 exact bodyPost_ret (v := .agg #[.bool false, .slice none 0 0, .slice A L c]) (by simp [results, Tryz.results98, go_sem, *]) rfl (r3_post (Nu_nil _) HN.out (below_set3 HB.out (Nat.le_refl _) _ _ _))
def sg (neg : Bool) (n : Nat) : Int := if neg then -(n : Int) else n
theorem qlow_w {w : World} (neg : Bool) {vn vd : Value} {n d : Nat} (hn : Nu w vn n) (hd : Nu w vd d) (bn : n < pw 1000) (bd : d < pw 1000) (hd0 : d ≠ 0) :
  Calls Tryz.prog 55 #[.bool neg, vn, vd] w (R3Post w (decide (n ≠ 0) && neg) (n / Nat.gcd n d) (d / Nat.gcd n d)) := by
 obtain ⟨A, L, c, rfl, hn⟩ := Nu_open hn
 have hl := Nu_len0 hn
 have HN := Aside0.mk hn
 have HD := Aside0.mk hd
 have HW := Aside0.mk (below_alloc (Below.refl w.heap.size w) (.cells #[.bool false, .slice none 0 0, .slice none 0 0] 27))
 have HK := Aside0.mk (Blk_alloc w (.bool false) (.slice none 0 0) (.slice none 0 0) 27)
 clear hn hd
 by_cases h0 : n = 0
 ·have hL : L = 0 := hl.2 h0
  subst hL
  have HZ : Aside0 (∀ W : World, Calls Tryz.prog 98 #[] W (R3Post W false 0 1)) := ⟨fun W => qzero_w W⟩
  have HE := Aside0.mk (show (decide (n ≠ 0) && neg) = false ∧ n / Nat.gcd n d = 0 ∧ d / Nat.gcd n d = 1 by subst h0; rw [Nat.gcd_zero_left, Nat.zero_div, Nat.div_self (Nat.pos_of_ne_zero hd0)]; exact ⟨rfl, rfl, rfl⟩)
  rw [HE.out.1, HE.out.2.1, HE.out.2.2]
  clear h0 hl
  go_enter Tryz.func55, Tryz.ntmps55
  go_wp2_with fail
  refine (HZ.out _).mono ?_
  rintro e w1 ⟨v, rfl, ⟨A1, L1, c1, A2, L2, c2, rfl, h1, h2⟩, hB⟩
  have HK1 := Aside0.mk (HK.out.below hB)
  obtain ⟨⟨hc0, hc1, hc2⟩, hf0, hf1, hf2⟩ := HK1.out
  have HN1 := Aside0.mk (Nu_set3 HK1.out (.bool false) (.slice A1 L1 c1) (.slice A2 L2 c2) h1)
  have HN2 := Aside0.mk (Nu_set3 HK1.out (.bool false) (.slice A1 L1 c1) (.slice A2 L2 c2) h2)
  have HB := tT HW hB
  clear h1 h2 hB HW HK HZ
  go_wp2_with fail
  exact bodyPost_ret (v := .agg #[.bool false, .slice A1 L1 c1, .slice A2 L2 c2]) (by simp [results, Tryz.results55, go_sem, *]) rfl (r3_post HN1.out HN2.out (below_set3 HB.out (Nat.le_refl _) _ _ _))
 ·have hLp : 0 < L := Nat.pos_of_ne_zero fun h => h0 (hl.1 h)
  have hb1 : ((L : Int) == 0) = false := by rw [beq_eq_false_iff_ne]; omega
  have hb2 : (L == 0) = false := by rw [beq_eq_false_iff_ne]; omega
  have HE := Aside0.mk (show (decide (n ≠ 0) && neg) = neg by rw [decide_eq_true h0]; rfl)
  rw [HE.out]
  obtain ⟨g, hg⟩ : ∃ g, g = Nat.gcd n d := ⟨_, rfl⟩
  have hg0 : g ≠ 0 := by rw [hg]; exact fun h => hd0 (Nat.eq_zero_of_gcd_eq_zero_right h)
  have bg : g < pw 1000 := by rw [hg]; exact Nat.lt_of_le_of_lt (Nat.gcd_le_right _ (Nat.pos_of_ne_zero hd0)) bd
  have HG : Aside0 (∀ W : World, Below w.heap.size w W → Calls Tryz.prog 99 #[.slice A L c, vd] W (NuPost W g)) := ⟨fun W h => by rw [hg]; exact gcdN (HN.out.below h) (HD.out.below h) bn bd⟩
  rw [← hg]
  have HG0 := Aside0.mk hg0
  have BG := Aside0.mk bg
  have BN := Aside0.mk bn
  have BD := Aside0.mk bd
  clear h0 hl hg hg0 bg bn bd
  go_enter Tryz.func55, Tryz.ntmps55
  go_wp2_with fail
  refine (HG.out _ HW.out).mono ?_
  rintro e w1 ⟨vg, rfl, hN1, hB1⟩
  have HK1 := Aside0.mk (HK.out.below hB1)
  have HW1 := tT HW hB1
  have H1 : Aside0 (Calls Tryz.prog 68 #[.slice A L c, vg] w1 (DivPost1 w1 (n / g) (n % g))) := ⟨divP (HN.out.below HW1.out) hN1 BN.out BG.out HG0.out⟩
  have HN1 := Aside0.mk hN1
  clear hN1 hB1 HK HW HG
  go_wp2_with fail
  refine H1.out.mono ?_
  rintro e w2 ⟨vq, vr, rfl, hQ, hR, hB2⟩
  obtain ⟨A1, L1, c1, rfl, hQ⟩ := Nu_open hQ
  have HK2 := Aside0.mk (HK1.out.below hB2)
  have HW2 := tT HW1 hB2
  have H2 : Aside0 (Calls Tryz.prog 68 #[vd, vg] w2 (DivPost1 w2 (d / g) (d % g))) := ⟨divP (HD.out.below HW2.out) (HN1.out.below hB2) BD.out BG.out HG0.out⟩
  have HQ := Aside0.mk hQ
  clear hQ hR hB2 HK1 HW1 H1
  go_wp2_with fail
  refine H2.out.mono ?_
  rintro e w3 ⟨vq2, vr2, rfl, hQ2, hR2, hB3⟩
  obtain ⟨A2, L2, c2, rfl, hQ2⟩ := Nu_open hQ2
  have HK3 := Aside0.mk (HK2.out.below hB3)
  obtain ⟨⟨hc0, hc1, hc2⟩, hf0, hf1, hf2⟩ := HK3.out
  have HS1 := Aside0.mk (Nu_set3 HK3.out (.bool neg) (.slice A1 L1 c1) (.slice A2 L2 c2) (HQ.out.below hB3))
  have HS2 := Aside0.mk (Nu_set3 HK3.out (.bool neg) (.slice A1 L1 c1) (.slice A2 L2 c2) hQ2)
  have HB := tT HW2 hB3
  clear hQ2 hR2 hB3 HK2 HW2 H2
  go_wp2_with fail
  exact bodyPost_ret (v := .agg #[.bool neg, .slice A1 L1 c1, .slice A2 L2 c2]) (by simp [results, Tryz.results55, go_sem, *]) rfl (r3_post HS1.out HS2.out (below_set3 HB.out (Nat.le_refl _) _ _ _))
theorem Nu_drew' {w : World} {v : Value} {n : Nat} (h : Nu w v n) : Nu w.drew v n := h.below (Below.drew (Below.refl _ _))
def StepB (W0 W : World) (n : Nat) (e : Ending) (w' : World) : Prop := ∃ v, e = .returned v ∧ Nu w' v n ∧ Below W0.heap.size W0 w' ∧ ∀ u m, Nu W u m → Nu w' u m
theorem step_b {W0 W : World} {n : Nat} {e : Ending} {w' : World} (hW : Below W0.heap.size W0 W) (h : NuPost W n e w') : StepB W0 W n e w' := by
 obtain ⟨v, he, hN, hB⟩ := h
 exact ⟨v, he, hN, hW.trans (hB.mono hW.size), fun u m hu => hu.below hB⟩
def LowPost (w : World) (neg : Bool) (n d : Nat) (e : Ending) (w' : World) : Prop := R3Post w (decide (n ≠ 0) && neg) (n / Nat.gcd n d) (d / Nat.gcd n d) e w'
def LowB (W0 : World) (neg : Bool) (n d : Nat) (e : Ending) (w' : World) : Prop := ∃ (b : Bool) (A : Option Addr) (L c : Nat) (A' : Option Addr) (L' c' : Nat), e = .returned (.agg #[.bool b, .slice A L c, .slice A' L' c']) ∧ Aside0 (b = (decide (n ≠ 0) && neg)) ∧ Aside0 (Nu w' (.slice A L c) (n / Nat.gcd n d)) ∧ Aside0 (Nu w' (.slice A' L' c') (d / Nat.gcd n d)) ∧ Aside0 (Below W0.heap.size W0 w')
theorem low_b {W0 W : World} {neg : Bool} {n d : Nat} {e : Ending} {w' : World} (hW : Below W0.heap.size W0 W) (h : LowPost W neg n d e w') : LowB W0 neg n d e w' := by
 obtain ⟨v, he, ⟨A, L, c, A', L', c', rfl, h1, h2⟩, hB⟩ := h
 exact ⟨_, A, L, c, A', L', c', he, ⟨rfl⟩, ⟨h1⟩, ⟨h2⟩, ⟨hW.trans (hB.mono hW.size)⟩⟩
theorem low_done {w W0 w' : World} {g : Nat} {neg b : Bool} {n d : Nat} {A A' : Option Addr} {L L' c c' : Nat} (hw : Below w.heap.size w W0) (hg : w.heap.size ≤ g) (hb : b = (decide (n ≠ 0) && neg)) (h1 : Nu w' (.slice A L c) (n / Nat.gcd n d)) (h2 : Nu w' (.slice A' L' c') (d / Nat.gcd n d)) (hB : Below W0.heap.size W0 w') (hK : Blk W0 g (.bool false) (.slice none 0 0) (.slice none 0 0)) :
  LowPost w neg n d (.returned (.agg #[.bool b, .slice A L c, .slice A' L' c'])) (((w'.setCell ⟨g, 0, none⟩ (.bool b)).setCell ⟨g, 1, none⟩ (.slice A L c)).setCell ⟨g, 2, none⟩ (.slice A' L' c')) := by
 refine ⟨_, rfl, ⟨A, L, c, A', L', c', by rw [hb], Nu_set3 (hK.below hB) _ _ _ h1, Nu_set3 (hK.below hB) _ _ _ h2⟩, ?_⟩
 exact below_set3 (hw.trans (hB.mono hw.size)) hg _ _ _
theorem cell_far3 {w : World} {g p i : Nat} {a b c v : Value} (hne : g ≠ p) (h : w.cell? ⟨p, i, none⟩ = some v) : (((w.setCell ⟨g, 0, none⟩ a).setCell ⟨g, 1, none⟩ b).setCell ⟨g, 2, none⟩ c).cell? ⟨p, i, none⟩ = some v := by
 rw [World.cell?_setCell_other (h := by intro h'; cases h'; exact hne rfl), World.cell?_setCell_other (h := by intro h'; cases h'; exact hne rfl), World.cell?_setCell_other (h := by intro h'; cases h'; exact hne rfl)]
 exact h
theorem boxes (w : World) (x0 x1 x2 y0 y1 y2 : Value) (t : TypeId) : ∃ (W0 : World) (a0 a1 a2 : Nat), W0 = ((w.alloc (.cells #[x0, x1, x2] t)).alloc (.cells #[y0, y1, y2] t)).alloc (.cells #[.bool false, .slice none 0 0, .slice none 0 0] t) ∧ a0 = w.heap.size ∧ a1 = w.heap.size + 1 ∧ a2 = w.heap.size + 1 + 1 ∧
  Aside0 (Blk W0 a0 x0 x1 x2) ∧ Aside0 (Blk W0 a1 y0 y1 y2) ∧ Aside0 (Blk W0 a2 (.bool false) (.slice none 0 0) (.slice none 0 0)) ∧ Aside0 (Below w.heap.size w W0) ∧ Aside0 (w.heap.size ≤ a2) := by
 refine ⟨_, _, _, _, rfl, rfl, rfl, rfl, ⟨?_⟩, ⟨?_⟩, ⟨?_⟩, ⟨?_⟩, ⟨by omega⟩⟩
 ·exact ((Blk_alloc w x0 x1 x2 t).below (below_alloc (Below.refl _ _) _)).below (below_alloc (Below.refl _ _) _)
 ·have h := (Blk_alloc (w.alloc (.cells #[x0, x1, x2] t)) y0 y1 y2 t).below (below_alloc (Below.refl _ _) (.cells #[.bool false, .slice none 0 0, .slice none 0 0] t))
  rwa [World.size_alloc] at h
 ·have h := Blk_alloc ((w.alloc (.cells #[x0, x1, x2] t)).alloc (.cells #[y0, y1, y2] t)) (.bool false) (.slice none 0 0) (.slice none 0 0) t
  rwa [World.size_alloc, World.size_alloc] at h
 ·exact below_alloc (below_alloc (below_alloc (Below.refl w.heap.size w) _) _) _
theorem qmul_w {w : World} {v0 v1 : Value} {g0 g1 : Bool} {n0 d0 n1 d1 : Nat} (h0 : R3 w v0 g0 n0 d0) (h1 : R3 w v1 g1 n1 d1) (b0 : n0 < pw 400) (b1 : d0 < pw 400) (b2 : n1 < pw 400) (b3 : d1 < pw 400) (hd0 : d0 ≠ 0) (hd1 : d1 ≠ 0) :
  Calls Tryz.prog 88 #[v0, v1] w (LowPost w (g0 != g1) (n0 * n1) (d0 * d1)) := by
 obtain ⟨A0, L0, c0, A1, L1, c1, rfl, hn0, hd0'⟩ := h0
 obtain ⟨A2, L2, c2, A3, L3, c3, rfl, hn1, hd1'⟩ := h1
 obtain ⟨neg, hneg⟩ : ∃ b, b = (g0 != g1) := ⟨_, rfl⟩
 have HX0 := Aside0.mk hn0
 have HX1 := Aside0.mk hd0'
 have HX2 := Aside0.mk hn1
 have HX3 := Aside0.mk hd1'
 obtain ⟨W0, a0, a1, a2, hW0, e0, e1, e2, HK0, HK1, HK2, HW, HGE⟩ := boxes w (.bool g0) (.slice A0 L0 c0) (.slice A1 L1 c1) (.bool g1) (.slice A2 L2 c2) (.slice A3 L3 c3) 27
 have HM1 := Aside0.mk (fun (W : World) (hW : Below W0.heap.size W0 W) => show Calls Tryz.prog 92 #[.slice A0 L0 c0, .slice A2 L2 c2] W (StepB W0 W (n0 * n1)) from (mulN (HX0.out.below (HW.out.trans (hW.mono HW.out.size))) (HX2.out.below (HW.out.trans (hW.mono HW.out.size))) (pw_lt1000 b0 (by omega)) (pw_lt1000 b2 (by omega))).mono fun _ _ h => step_b hW h)
 have HM2 := Aside0.mk (fun (W : World) (hW : Below W0.heap.size W0 W) => show Calls Tryz.prog 92 #[.slice A1 L1 c1, .slice A3 L3 c3] W (StepB W0 W (d0 * d1)) from (mulN (HX1.out.below (HW.out.trans (hW.mono HW.out.size))) (HX3.out.below (HW.out.trans (hW.mono HW.out.size))) (pw_lt1000 b1 (by omega)) (pw_lt1000 b3 (by omega))).mono fun _ _ h => step_b hW h)
 have bN : n0 * n1 < pw 1000 := Nat.lt_of_lt_of_le (pw_mulb b0 b2) (pw_le (by omega))
 have bD : d0 * d1 < pw 1000 := Nat.lt_of_lt_of_le (pw_mulb b1 b3) (pw_le (by omega))
 have hD0 : d0 * d1 ≠ 0 := Nat.mul_ne_zero hd0 hd1
 obtain ⟨N, hN⟩ : ∃ N, N = n0 * n1 := ⟨_, rfl⟩
 obtain ⟨D, hD⟩ : ∃ D, D = d0 * d1 := ⟨_, rfl⟩
 rw [← hneg, ← hN, ← hD]
 rw [← hN] at HM1 bN
 rw [← hD] at HM2 bD hD0
 have HL := Aside0.mk (fun (W : World) (u1 u2 : Value) (hW : Below W0.heap.size W0 W) (h1 : Nu W u1 N) (h2 : Nu W u2 D) => show Calls Tryz.prog 55 #[.bool neg, u1, u2] W (LowB W0 neg N D) from (qlow_w neg h1 h2 bN bD hD0).mono fun _ _ h => low_b hW h)
 have HS := Aside0.mk (fun (W : World) (hW : Below W0.heap.size W0 W) => show W.cell? ⟨a0, 0, none⟩ = some (.bool g0) ∧ W.cell? ⟨a0, 1, none⟩ = some (.slice A0 L0 c0) ∧ W.cell? ⟨a0, 2, none⟩ = some (.slice A1 L1 c1) ∧ W.cell? ⟨a1, 0, none⟩ = some (.bool g1) ∧ W.cell? ⟨a1, 1, none⟩ = some (.slice A2 L2 c2) ∧ W.cell? ⟨a1, 2, none⟩ = some (.slice A3 L3 c3) from
  ⟨(HK0.out.below hW).1.1, (HK0.out.below hW).1.2.1, (HK0.out.below hW).1.2.2, (HK1.out.below hW).1.1, (HK1.out.below hW).1.2.1, (HK1.out.below hW).1.2.2⟩)
 have hne : (!(g0 == g1)) = neg := hneg.symm
 clear hn0 hn1 hd0' hd1' hN hD hneg b0 b1 b2 b3 bN bD hd0 hd1 hD0
 go_enter Tryz.func88, Tryz.ntmps88
 go_wp2_with fail
 rw [← hW0, ← e2, ← e1, ← e0]
 have HNE0 := Aside0.mk (show a2 ≠ a0 by omega)
 have HNE1 := Aside0.mk (show a2 ≠ a1 by omega)
 clear hW0 e0 e1 e2
 go_region_held3 (fun W => W.cell? ⟨a0, 0, none⟩ = some (.bool g0) ∧ W.cell? ⟨a0, 1, none⟩ = some (.slice A0 L0 c0) ∧ W.cell? ⟨a0, 2, none⟩ = some (.slice A1 L1 c1) ∧ W.cell? ⟨a1, 0, none⟩ = some (.bool g1) ∧ W.cell? ⟨a1, 1, none⟩ = some (.slice A2 L2 c2) ∧ W.cell? ⟨a1, 2, none⟩ = some (.slice A3 L3 c3)) (first | exact HS.out _ (Below.drew (Below.refl _ _)) | exact HS.out _ HB3.out | exact HS.out _ HB2.out | exact HS.out _ HB1.out | exact HS.out _ (Below.refl _ _) | (obtain ⟨k0, k1, k2, k3, k4, k5⟩ := HS.out _ HB3.out; exact ⟨cell_far3 HNE0.out k0, cell_far3 HNE0.out k1, cell_far3 HNE0.out k2, cell_far3 HNE1.out k3, cell_far3 HNE1.out k4, cell_far3 HNE1.out k5⟩))
  (first
   | (go_at_call 92; (with_reducible refine (HM1.out _ Z14).mono ?_); rintro e w1 ⟨v1, rfl, hN1, hB1, hT1⟩; have HB1 := Aside0.mk hB1; have HT1 := Aside0.mk hT1; clear hB1 hT1)
   | (go_at_call 92; (with_reducible refine (HM2.out _ Z14).mono ?_); rintro e w2 ⟨v2, rfl, hN2, hB2, hT2⟩; have HB2 := Aside0.mk hB2; have HT2 := Aside0.mk hT2; clear hB2 hT2)
   | (go_at_call 55; (with_reducible refine (HL.out _ _ _ Z14 (by with_reducible repeat (first | assumption | refine HT2.out _ _ ?_ | refine HT1.out _ _ ?_ | refine HT3.out _ _ ?_ | refine Nu_drew' ?_)) (by with_reducible repeat (first | assumption | refine HT2.out _ _ ?_ | refine HT1.out _ _ ?_ | refine HT3.out _ _ ?_ | refine Nu_drew' ?_))).mono ?_); rintro e w3 ⟨b, A, L, c, A', L', c', rfl, HBE, HNA, HNB, HB3⟩; obtain ⟨⟨hc0, hc1, hc2⟩, hf0, hf1, hf2⟩ := HK2.out.below HB3.out))
 go_wp2_with fail
 exact bodyPost_ret (v := .agg #[.bool b, .slice A L c, .slice A' L' c']) (by simp [results, Tryz.results88, go_sem, *]) rfl (low_done HW.out HGE.out HBE.out HNA.out HNB.out HB3.out HK2.out)
def LowPostE (w : World) (neg : Bool) (n d : Nat) (e : Ending) (w' : World) : Prop := R3PostE w (decide (n ≠ 0) && neg) (n / Nat.gcd n d) (d / Nat.gcd n d) 0 e w'
theorem res1 (w : World) (t : TypeId) : ∃ (W0 : World) (a0 : Nat), W0 = w.alloc (.cells #[.bool false, .slice none 0 0, .slice none 0 0] t) ∧ a0 = w.heap.size ∧ Aside0 (Blk W0 a0 (.bool false) (.slice none 0 0) (.slice none 0 0)) ∧ Aside0 (Below w.heap.size w W0) ∧ Aside0 (w.heap.size ≤ a0) :=
 ⟨_, _, rfl, rfl, ⟨Blk_alloc w _ _ _ t⟩, ⟨below_alloc (Below.refl _ _) _⟩, ⟨Nat.le_refl _⟩⟩
theorem r3_done {w W0 w' : World} {g : Nat} {neg : Bool} {n d : Nat} {A A' : Option Addr} {L L' c c' : Nat} (hw : Below w.heap.size w W0) (hg : w.heap.size ≤ g) (hK : Blk W0 g (.bool false) (.slice none 0 0) (.slice none 0 0)) (hB : Below W0.heap.size W0 w') (h1 : Nu w' (.slice A L c) n) (h2 : Nu w' (.slice A' L' c') d) :
  R3 (((w'.setCell ⟨g, 0, none⟩ (.bool neg)).setCell ⟨g, 1, none⟩ (.slice A L c)).setCell ⟨g, 2, none⟩ (.slice A' L' c')) (.agg #[.bool neg, .slice A L c, .slice A' L' c']) neg n d ∧ Below w.heap.size w (((w'.setCell ⟨g, 0, none⟩ (.bool neg)).setCell ⟨g, 1, none⟩ (.slice A L c)).setCell ⟨g, 2, none⟩ (.slice A' L' c')) :=
 ⟨⟨A, L, c, A', L', c', rfl, Nu_set3 (hK.below hB) _ _ _ h1, Nu_set3 (hK.below hB) _ _ _ h2⟩, below_set3 (hw.trans (hB.mono hw.size)) hg _ _ _⟩
theorem r3_postE {w w' : World} {v : Value} {neg : Bool} {n d : Nat} {k : Int} (h : R3 w' v neg n d ∧ Below w.heap.size w w') : R3PostE w neg n d k (.returned (.tuple #[v, .int .i64 k])) w' := ⟨v, rfl, h.1, h.2⟩
theorem r3_postR {w w' : World} {v : Value} {neg : Bool} {n d : Nat} (h : R3 w' v neg n d ∧ Below w.heap.size w w') : R3Post w neg n d (.returned v) w' := ⟨v, rfl, h.1, h.2⟩
theorem Nu_zero' {w : World} {A : Option Addr} {c : Nat} : ∀ {v : Value}, Nu w v 0 → ∃ A c, v = .slice A 0 c := fun h => by
 obtain ⟨A, c, e, _, _⟩ := h
 rw [digs_zero, List.length_nil] at e
 exact ⟨A, c, e⟩
theorem qmake0_w {w : World} (neg : Bool) {vn vd : Value} {n : Nat} (hn : Nu w vn n) (hd : Nu w vd 0) :
  Calls Tryz.prog 23 #[.bool neg, vn, vd] w (R3PostE w false 0 0 5) := by
 obtain ⟨A, L, c, rfl, hn⟩ := Nu_open hn
 obtain ⟨A1, c1, rfl⟩ := Nu_zero' (A := none) (c := 0) hd
 have HW := Aside0.mk (below_alloc (Below.refl w.heap.size w) (.cells #[.bool false, .slice none 0 0, .slice none 0 0] 27))
 have HK := Aside0.mk (Blk_alloc w (.bool false) (.slice none 0 0) (.slice none 0 0) 27)
 clear hn hd
 go_enter Tryz.func23, Tryz.ntmps23
 go_wp2_with fail
 exact bodyPost_ret (v := .tuple #[.agg #[.bool false, .slice none 0 0, .slice none 0 0], .int .i64 5]) (by simp [results, Tryz.results23, go_sem, *]) rfl (r3_postE ⟨⟨none, 0, 0, none, 0, 0, rfl, Nu_nil _, Nu_nil _⟩, HW.out⟩)
theorem qmake_w {w : World} (neg : Bool) {vn vd : Value} {n d : Nat} (hn : Nu w vn n) (hd : Nu w vd d) (bn : n < pw 1000) (bd : d < pw 1000) (hd0 : d ≠ 0) :
  Calls Tryz.prog 23 #[.bool neg, vn, vd] w (LowPostE w neg n d) := by
 obtain ⟨A, L, c, rfl, hn⟩ := Nu_open hn
 obtain ⟨A1, L1, c1, rfl, hd⟩ := Nu_open hd
 have hLp : 0 < L1 := Nat.pos_of_ne_zero fun h => hd0 ((Nu_len0 hd).1 h)
 have hb1 : ((L1 : Int) == 0) = false := by rw [beq_eq_false_iff_ne]; omega
 have hb2 : (L1 == 0) = false := by rw [beq_eq_false_iff_ne]; omega
 have HW := Aside0.mk (below_alloc (Below.refl w.heap.size w) (.cells #[.bool false, .slice none 0 0, .slice none 0 0] 27))
 have HK := Aside0.mk (Blk_alloc w (.bool false) (.slice none 0 0) (.slice none 0 0) 27)
 have HL := Aside0.mk (qlow_w neg (hn.below HW.out) (hd.below HW.out) bn bd hd0)
 clear hn hd bn bd hd0
 go_enter Tryz.func23, Tryz.ntmps23
 go_wp2_with fail
 refine HL.out.mono ?_
 rintro e w1 ⟨v, rfl, ⟨A2, L2, c2, A3, L3, c3, rfl, h1, h2⟩, hB⟩
 obtain ⟨⟨hc0, hc1, hc2⟩, hf0, hf1, hf2⟩ := HK.out.below hB
 obtain ⟨b, hb⟩ : ∃ b, b = (decide (n ≠ 0) && neg) := ⟨_, rfl⟩
 have HBB := Aside0.mk hb
 rw [← hb]
 clear hb
 have HD := Aside0.mk (r3_done (neg := b) HW.out (Nat.le_refl _) HK.out hB h1 h2)
 clear h1 h2 hB
 go_wp2_with fail
 exact bodyPost_ret (v := .tuple #[.agg #[.bool b, .slice A2 L2 c2, .slice A3 L3 c3], .int .i64 0]) (by simp [results, Tryz.results23, go_sem, *]) rfl (by unfold LowPostE; rw [← HBB.out]; exact r3_postE HD.out)
theorem sone_w (w : World) : Calls Tryz.prog 45 #[] w (NuPost w 1) := by
 have h : RU (w.alloc (.cells #[.int .u32 1] 94)) w.heap.size (.slice (some ⟨w.heap.size, 0, none⟩) 1 1) [1] := RU_own (own_lit w w.heap.size 94 .u32 [1] (Nat.le_refl _) Z33)
 have e : digs 1 = [1] := by rw [digs_pos Z5, show 1 / 4294967296 = 0 from by decide, digs_zero]; rfl
 rw [← e] at h
 have HN := Aside0.mk (Nu_of_RU h)
 clear h e
 go_enter Tryz.func45, Tryz.ntmps45
 go_wp2_with fail
 go_ret
 exact ⟨_, rfl, HN.out, below_alloc (Below.refl _ _) _⟩
theorem szero_w (w : World) : Calls Tryz.prog 16 #[] w (R3Post w false 0 1) := by
 have HC := Aside0.mk (fun W : World => sone_w W)
 have HW := Aside0.mk (below_alloc (Below.refl w.heap.size w) (.cells #[.bool false, .slice none 0 0, .slice none 0 0] 27))
 have HK := Aside0.mk (Blk_alloc w (.bool false) (.slice none 0 0) (.slice none 0 0) 27)
 go_enter Tryz.func16, Tryz.ntmps16
 go_wp2_with fail
 refine (HC.out _).mono ?_
 rintro e w1 ⟨v, rfl, hN, hB⟩
 obtain ⟨A, L, c, rfl, hN2⟩ := Nu_open hN
 obtain ⟨⟨hc0, hc1, hc2⟩, hf0, hf1, hf2⟩ := HK.out.below hB
 have HD := Aside0.mk (r3_done (neg := false) HW.out (Nat.le_refl _) HK.out hB (Nu_nil _) hN2)
 clear hN hN2 hB HC
 go_wp2_with fail
 exact bodyPost_ret (v := .agg #[.bool false, .slice none 0 0, .slice A L c]) (by simp [results, Tryz.results16, go_sem, *]) rfl (r3_postR HD.out)
theorem ssize_w (n : Int) (w : World) (h0 : -9223372036854775808 ≤ n) (h1 : n ≤ 9223372036854775807) : Calls Tryz.prog 76 #[.int .i64 n] w fun e w' => e = .returned (.int .u64 (n.natAbs : Int)) ∧ w = w' := by
 by_cases h : n < 0
 ·have e1 : n % 18446744073709551616 = n + 18446744073709551616 := by omega
  have e2 : (0 - (n + 18446744073709551616)) % 18446744073709551616 = (n.natAbs : Int) := by omega
  have e3 : (-(n + 18446744073709551616)) % 18446744073709551616 = (n.natAbs : Int) := by omega
  have e4 : IntKind.u64.wrap (0 - (n + 18446744073709551616)) = (n.natAbs : Int) := by rw [IntKind.wrap_u64]; exact e2
  have e5 : IntKind.u64.wrap (-(n + 18446744073709551616)) = (n.natAbs : Int) := by rw [IntKind.wrap_u64]; exact e3
  have e6 : IntKind.u64.wrap n = n + 18446744073709551616 := by rw [IntKind.wrap_u64]; exact e1
  obtain ⟨N, hN⟩ : ∃ N, N = (n.natAbs : Int) := ⟨_, rfl⟩
  rw [← hN] at e2 e3 e4 e5 ⊢
  clear hN
  go_enter Tryz.func76, Tryz.ntmps76
  go_wp2_with fail
  go_ret
  exact ⟨rfl, rfl⟩
 ·obtain ⟨m, rfl⟩ : ∃ m : Nat, n = (m : Int) := ⟨n.toNat, by omega⟩
  have e6 : IntKind.u64.wrap (m : Int) = (m : Int) := u64_in (by omega) (by omega)
  rw [Int.natAbs_natCast]
  go_enter Tryz.func76, Tryz.ntmps76
  go_wp2_with fail
  go_ret
  exact ⟨rfl, rfl⟩
theorem Nu_parts {w : World} {A : Option Addr} {L c n : Nat} (h : Nu w (.slice A L c) n) : L = (digs n).length ∧ CU w A L (digs n) := by
 obtain ⟨A', c', e, h1, h2⟩ := h
 cases e
 exact ⟨rfl, h2⟩
theorem cmpZ_ne {x y : Nat} (h : x ≠ y) : (cmpZ x y == 0) = false := by
 rw [beq_eq_false_iff_ne]
 unfold cmpZ
 split
 ·decide
 ·first
  | decide
  | (rw [if_neg h]; decide)
theorem low_one (neg : Bool) {n : Nat} (h : n ≠ 0) : (decide (n ≠ 0) && neg) = neg ∧ n / Nat.gcd n 1 = n ∧ 1 / Nat.gcd n 1 = 1 := by
 rw [Nat.gcd_one_right, Nat.div_one, decide_eq_true h]
 exact ⟨rfl, rfl, rfl⟩
theorem low_zero (neg : Bool) {n d : Nat} (h : n = 0) (hd : d ≠ 0) : (decide (n ≠ 0) && neg) = false ∧ n / Nat.gcd n d = 0 ∧ d / Nat.gcd n d = 1 := by
 subst h
 rw [Nat.gcd_zero_left, Nat.zero_div, Nat.div_self (Nat.pos_of_ne_zero hd)]
 exact ⟨rfl, rfl, rfl⟩
theorem smake0_w {w : World} (neg : Bool) {vn vd : Value} {n : Nat} (hn : Nu w vn n) (hd : Nu w vd 0) :
  Calls Tryz.prog 52 #[.bool neg, vn, vd] w (R3PostE w false 0 0 5) := by
 obtain ⟨A, L, c, rfl, hn⟩ := Nu_open hn
 obtain ⟨A1, c1, rfl⟩ := Nu_zero' (A := none) (c := 0) hd
 have HW := Aside0.mk (below_alloc (Below.refl w.heap.size w) (.cells #[.bool false, .slice none 0 0, .slice none 0 0] 27))
 have HK := Aside0.mk (Blk_alloc w (.bool false) (.slice none 0 0) (.slice none 0 0) 27)
 clear hn hd
 go_enter Tryz.func52, Tryz.ntmps52
 go_wp2_with fail
 exact bodyPost_ret (v := .tuple #[.agg #[.bool false, .slice none 0 0, .slice none 0 0], .int .i64 5]) Z47 rfl (r3_postE ⟨⟨none, 0, 0, none, 0, 0, rfl, Nu_nil _, Nu_nil _⟩, HW.out⟩)
theorem smake_w {w : World} (neg : Bool) {vn vd : Value} {n d : Nat} (hn : Nu w vn n) (hd : Nu w vd d) (bn : n < pw 500) (bd : d < pw 500) (hd0 : d ≠ 0) :
  Calls Tryz.prog 52 #[.bool neg, vn, vd] w (LowPostE w neg n d) := by
 obtain ⟨A, L, c, rfl, hn⟩ := Nu_open hn
 obtain ⟨A1, L1, c1, rfl, hd⟩ := Nu_open hd
 have hl := Nu_len0 hn
 have hLp : 0 < L1 := Nat.pos_of_ne_zero fun h => hd0 ((Nu_len0 hd).1 h)
 have hb1 : ((L1 : Int) == 0) = false := by rw [beq_eq_false_iff_ne]; omega
 have hb2 : (L1 == 0) = false := by rw [beq_eq_false_iff_ne]; omega
 have HW := Aside0.mk (below_alloc (Below.refl w.heap.size w) (.cells #[.bool false, .slice none 0 0, .slice none 0 0] 27))
 have HK := Aside0.mk (Blk_alloc w (.bool false) (.slice none 0 0) (.slice none 0 0) 27)
 have HN := Aside0.mk hn
 have HD := Aside0.mk hd
 have BN := Aside0.mk bn
 have BD := Aside0.mk bd
 have HD0 := Aside0.mk hd0
 unfold LowPostE
 clear hn hd bn bd hd0
 by_cases h0 : n = 0
 ·have hL : L = 0 := hl.2 h0
  subst hL
  have HE := Aside0.mk (low_zero neg h0 HD0.out)
  rw [HE.out.1, HE.out.2.1, HE.out.2.2]
  have HZ : Aside0 (∀ W : World, Calls Tryz.prog 16 #[] W (R3Post W false 0 1)) := ⟨fun W => szero_w W⟩
  clear h0 hl
  go_enter Tryz.func52, Tryz.ntmps52
  go_wp2_with fail
  refine (HZ.out _).mono ?_
  rintro e w1 ⟨v, rfl, ⟨A2, L2, c2, A3, L3, c3, rfl, h1, h2⟩, hB⟩
  obtain ⟨⟨hc0, hc1, hc2⟩, hf0, hf1, hf2⟩ := HK.out.below hB
  have HDN := Aside0.mk (r3_done (neg := false) HW.out (Nat.le_refl _) HK.out hB h1 h2)
  clear h1 h2 hB
  go_wp2_with fail
  exact bodyPost_ret (v := .tuple #[.agg #[.bool false, .slice A2 L2 c2, .slice A3 L3 c3], .int .i64 0]) Z47 rfl (r3_postE HDN.out)
 ·have hLq : 0 < L := Nat.pos_of_ne_zero fun h => h0 (hl.1 h)
  have hb3 : ((L : Int) == 0) = false := by rw [beq_eq_false_iff_ne]; omega
  have hb4 : (L == 0) = false := by rw [beq_eq_false_iff_ne]; omega
  have H1 : Aside0 (∀ W : World, Calls Tryz.prog 45 #[] W (NuPost W 1)) := ⟨fun W => sone_w W⟩
  by_cases h1 : d = 1
  ·have HE := Aside0.mk (low_one neg h0)
   subst h1
   rw [HE.out.1, HE.out.2.1, HE.out.2.2]
   obtain ⟨hLn, hCn⟩ := Nu_parts HN.out
   have HLN := Aside0.mk hLn
   have HLS := Aside0.mk (show L ≤ 35184372088832 by have := small_len (pw_lt1000 BN.out (by omega)); omega)
   clear h0 hl hLn hCn
   go_enter Tryz.func52, Tryz.ntmps52
   go_wp2_with fail
   refine (H1.out _).mono ?_
   rintro e w1 ⟨v1, rfl, hN1, hB1⟩
   have HW1 := tT HW hB1
   have HK1 := Aside0.mk (HK.out.below hB1)
   have H2 : Aside0 (Calls Tryz.prog 95 #[.slice A1 L1 c1, v1] w1 (IntPost w1 0)) := ⟨by have h := rcmpN (HD.out.below HW1.out) hN1 (pw_lt1000 BD.out (by omega)) (pw_lt1000 (show 1 < pw 1 by decide) (by omega)); rwa [cmpZ_eq rfl] at h⟩
   clear hN1 hB1 HW HK
   go_wp2_with fail
   refine H2.out.mono ?_
   rintro e w2 ⟨rfl, hB2⟩
   have HW2 := tT HW1 hB2
   have HK2 := Aside0.mk (HK1.out.below hB2)
   have HCN := Aside0.mk (Nu_parts (HN.out.below HW2.out)).2
   clear hB2 HW1 HK1 H2
   go_wp2_with (at_builtin; refine append_fresh w2 rfl (.tmp 28) (.tmp 29) rfl A L c (digs n) rfl rfl HCN.out HLS.out ?_; intro v3 w3 hR3 hB3; have HN3 := Aside0.mk (Nu_of_RU hR3); have HB3 := Aside0.mk hB3; clear hR3 hB3)
   refine (H1.out _).mono ?_
   rintro e w4 ⟨v4, rfl, hN4, hB4⟩
   obtain ⟨A2, L2, c2, rfl, hX2⟩ := Nu_open (HN3.out.below hB4)
   obtain ⟨A3, L3, c3, rfl, hX3⟩ := Nu_open hN4
   have hBT := HB3.out.trans (hB4.mono HB3.out.size)
   have HW4 := tT HW2 hBT
   have HK4 := Aside0.mk (HK2.out.below hBT)
   obtain ⟨⟨hc0, hc1, hc2⟩, hf0, hf1, hf2⟩ := HK4.out
   have HDN := Aside0.mk (r3_done (neg := neg) HW4.out (Nat.le_refl _) HK4.out (Below.refl _ _) hX2 hX3)
   clear hX2 hX3 hN4 hB4 hBT HW2 HK2 HN3 HB3
   go_wp2_with fail
   exact Z63
  ·obtain ⟨g, hg⟩ : ∃ g, g = Nat.gcd n d := ⟨_, rfl⟩
   have HE := Aside0.mk (show (decide (n ≠ 0) && neg) = neg by rw [decide_eq_true h0]; rfl)
   rw [HE.out, ← hg]
   have hg0 : g ≠ 0 := by rw [hg]; exact fun h => HD0.out (Nat.eq_zero_of_gcd_eq_zero_right h)
   have bg : g < pw 500 := by rw [hg]; exact Nat.lt_of_le_of_lt (Nat.gcd_le_right _ (Nat.pos_of_ne_zero HD0.out)) BD.out
   have HG : Aside0 (∀ W : World, Below w.heap.size w W → Calls Tryz.prog 96 #[.slice A L c, .slice A1 L1 c1] W (NuPost W g)) := ⟨fun W h => by rw [hg]; exact rgcdN (HN.out.below h) (HD.out.below h) BN.out BD.out⟩
   obtain ⟨zc, hzc⟩ : ∃ zc, zc = cmpZ d 1 := ⟨_, rfl⟩
   have hz0 : (zc == 0) = false := by rw [hzc]; exact cmpZ_ne h1
   have HZC := Aside0.mk hzc
   have HG0 := Aside0.mk hg0
   have BG := Aside0.mk bg
   clear h0 hl hg hg0 bg h1 hzc
   go_enter Tryz.func52, Tryz.ntmps52
   go_wp2_with fail
   refine (H1.out _).mono ?_
   rintro e w1 ⟨v1, rfl, hN1, hB1⟩
   have HW1 := tT HW hB1
   have HK1 := Aside0.mk (HK.out.below hB1)
   have H2 : Aside0 (Calls Tryz.prog 95 #[.slice A1 L1 c1, v1] w1 (IntPost w1 zc)) := ⟨by have h := rcmpN (HD.out.below HW1.out) hN1 (pw_lt1000 BD.out (by omega)) (pw_lt1000 (show 1 < pw 1 by decide) (by omega)); rwa [← HZC.out] at h⟩
   clear hN1 hB1 HW HK
   go_wp2_with fail
   refine H2.out.mono ?_
   rintro e w2 ⟨rfl, hB2⟩
   have HW2 := tT HW1 hB2
   have HK2 := Aside0.mk (HK1.out.below hB2)
   clear hB2 HW1 HK1 H2
   go_wp2_with fail
   refine (HG.out _ HW2.out).mono ?_
   rintro e w3 ⟨vg, rfl, hN3, hB3⟩
   have HW3 := tT HW2 hB3
   have HK3 := Aside0.mk (HK2.out.below hB3)
   have HN3 := Aside0.mk hN3
   have H3 : Aside0 (Calls Tryz.prog 97 #[.slice A L c, vg] w3 (DivPost1 w3 (n / g) (n % g))) := ⟨rdivP (HN.out.below HW3.out) hN3 BN.out BG.out HG0.out⟩
   clear hN3 hB3 HW2 HK2 HG
   go_wp2_with fail
   refine H3.out.mono ?_
   rintro e w4 ⟨vq, vr, rfl, hQ, hR, hB4⟩
   obtain ⟨A2, L2, c2, rfl, hQ⟩ := Nu_open hQ
   have HW4 := tT HW3 hB4
   have HK4 := Aside0.mk (HK3.out.below hB4)
   have H4 : Aside0 (Calls Tryz.prog 97 #[.slice A1 L1 c1, vg] w4 (DivPost1 w4 (d / g) (d % g))) := ⟨rdivP (HD.out.below HW4.out) (HN3.out.below hB4) BD.out BG.out HG0.out⟩
   have HQ := Aside0.mk hQ
   clear hQ hR hB4 HW3 HK3 H3
   go_wp2_with fail
   refine H4.out.mono ?_
   rintro e w5 ⟨vq2, vr2, rfl, hQ2, hR2, hB5⟩
   obtain ⟨A3, L3, c3, rfl, hQ2⟩ := Nu_open hQ2
   obtain ⟨⟨hc0, hc1, hc2⟩, hf0, hf1, hf2⟩ := HK4.out.below hB5
   have HDN := Aside0.mk (r3_done (neg := neg) HW4.out (Nat.le_refl _) HK4.out hB5 (HQ.out.below hB5) hQ2)
   clear hQ2 hR2 hB5 H4
   go_wp2_with fail
   exact Z63
def OfPost (w : World) (n d : Int) (e : Ending) (w' : World) : Prop := if d = 0 then R3PostE w false 0 0 5 e w' else LowPostE w (decide (n < 0) != decide (d < 0)) n.natAbs d.natAbs e w'
theorem of_zero {w w' : World} {n d : Int} {e : Ending} (h : d.natAbs = 0) (hp : R3PostE w false 0 0 5 e w') : OfPost w n d e w' := by
 unfold OfPost
 rw [if_pos (by omega)]
 exact hp
theorem of_low {w w' : World} {n d : Int} {e : Ending} (h : d.natAbs ≠ 0) (hp : LowPostE w (decide (n < 0) != decide (d < 0)) n.natAbs d.natAbs e w') : OfPost w n d e w' := by
 unfold OfPost
 rw [if_neg (by omega)]
 exact hp
theorem sof_w (n d : Int) (w : World) (hn0 : -9223372036854775808 ≤ n) (hn1 : n ≤ 9223372036854775807) (hd0 : -9223372036854775808 ≤ d) (hd1 : d ≤ 9223372036854775807) :
  Calls Tryz.prog 39 #[.int .i64 n, .int .i64 d] w (OfPost w n d) := by
 have HS1 : Aside0 (∀ W : World, Calls Tryz.prog 76 #[.int .i64 n] W fun e w' => e = .returned (.int .u64 (n.natAbs : Int)) ∧ W = w') := ⟨fun W => ssize_w n W hn0 hn1⟩
 have HS2 : Aside0 (∀ W : World, Calls Tryz.prog 76 #[.int .i64 d] W fun e w' => e = .returned (.int .u64 (d.natAbs : Int)) ∧ W = w') := ⟨fun W => ssize_w d W hd0 hd1⟩
 have hx : n.natAbs < 18446744073709551616 := by omega
 have hy : d.natAbs < 18446744073709551616 := by omega
 have hx3 : n.natAbs < pw 3 := Nat.lt_trans hx Z5
 have hy3 : d.natAbs < pw 3 := Nat.lt_trans hy Z5
 obtain ⟨x, hxe⟩ : ∃ x, x = n.natAbs := ⟨_, rfl⟩
 obtain ⟨y, hye⟩ : ∃ y, y = d.natAbs := ⟨_, rfl⟩
 rw [← hxe] at HS1 hx hx3
 rw [← hye] at HS2 hy hy3
 have HO1 : Aside0 (∀ W : World, Calls Tryz.prog 51 #[.int .u64 (x : Int)] W (NuPost W x)) := ⟨fun W => rofN x hx⟩
 have HO2 : Aside0 (∀ W : World, Calls Tryz.prog 51 #[.int .u64 (y : Int)] W (NuPost W y)) := ⟨fun W => rofN y hy⟩
 obtain ⟨neg, hneg⟩ : ∃ b, b = (decide (n < 0) != decide (d < 0)) := ⟨_, rfl⟩
 have hne : (!(decide (n < 0) == decide (d < 0))) = neg := hneg.symm
 have HX := Aside0.mk hx3
 have HY := Aside0.mk hy3
 have HNEG := Aside0.mk hneg
 have HXE := Aside0.mk hxe
 have HYE := Aside0.mk hye
 have HW := Aside0.mk (below_alloc (Below.refl w.heap.size w) (.cells #[.bool false, .slice none 0 0, .slice none 0 0] 27))
 have HK := Aside0.mk (Blk_alloc w (.bool false) (.slice none 0 0) (.slice none 0 0) 27)
 clear hx hy hx3 hy3 hxe hye hneg hn0 hn1 hd0 hd1
 go_enter Tryz.func39, Tryz.ntmps39
 go_wp2_with fail
 refine (HS1.out _).mono ?_
 rintro e wx ⟨rfl, hw⟩
 subst hw
 go_wp2_with fail
 refine (HO1.out _).mono ?_
 rintro e w1 ⟨v1, rfl, hN1, hB1⟩
 have HW1 := tT HW hB1
 have HK1 := Aside0.mk (HK.out.below hB1)
 have HN1 := Aside0.mk hN1
 clear hN1 hB1 HW HK HS1 HO1
 go_wp2_with fail
 refine (HS2.out _).mono ?_
 rintro e wx ⟨rfl, hw⟩
 subst hw
 go_wp2_with fail
 refine (HO2.out _).mono ?_
 rintro e w2 ⟨v2, rfl, hN2, hB2⟩
 have HW2 := tT HW1 hB2
 have HK2 := Aside0.mk (HK1.out.below hB2)
 have HN12 := Aside0.mk (HN1.out.below hB2)
 have HN2 := Aside0.mk hN2
 clear hN2 hB2 HW1 HK1 HS2 HO2 HN1
 by_cases hy0 : y = 0
 ·have HM : Aside0 (Calls Tryz.prog 52 #[.bool neg, v1, v2] w2 (R3PostE w2 false 0 0 5)) := ⟨smake0_w neg HN12.out (by rw [← hy0]; exact HN2.out)⟩
  have HY0 := Aside0.mk hy0
  clear hy0
  go_wp2_with fail
  refine HM.out.mono ?_
  rintro e w3 ⟨v, rfl, ⟨A2, L2, c2, A3, L3, c3, rfl, h1, h2⟩, hB⟩
  obtain ⟨⟨hc0, hc1, hc2⟩, hf0, hf1, hf2⟩ := HK2.out.below hB
  have HD := Aside0.mk (r3_done (neg := false) HW2.out (Nat.le_refl _) HK2.out hB h1 h2)
  clear h1 h2 hB
  go_wp2_with fail
  exact bodyPost_ret (v := .tuple #[.agg #[.bool false, .slice A2 L2 c2, .slice A3 L3 c3], .int .i64 5]) (by simp [results, Tryz.results39, go_sem, *]) rfl (of_zero (by rw [← HYE.out]; exact HY0.out) (r3_postE HD.out))
 ·have HM : Aside0 (Calls Tryz.prog 52 #[.bool neg, v1, v2] w2 (LowPostE w2 neg x y)) := ⟨smake_w neg HN12.out HN2.out (Nat.lt_of_lt_of_le HX.out (pw_le Z5)) (Nat.lt_of_lt_of_le HY.out (pw_le Z5)) hy0⟩
  have HY0 := Aside0.mk hy0
  clear hy0
  go_wp2_with fail
  refine HM.out.mono ?_
  rintro e w3 ⟨v, rfl, ⟨A2, L2, c2, A3, L3, c3, rfl, h1, h2⟩, hB⟩
  obtain ⟨⟨hc0, hc1, hc2⟩, hf0, hf1, hf2⟩ := HK2.out.below hB
  obtain ⟨b, hb⟩ : ∃ b, b = (decide (x ≠ 0) && neg) := ⟨_, rfl⟩
  have HBB := Aside0.mk hb
  rw [← hb]
  clear hb
  have HD := Aside0.mk (r3_done (neg := b) HW2.out (Nat.le_refl _) HK2.out hB h1 h2)
  clear h1 h2 hB
  go_wp2_with fail
  exact bodyPost_ret (v := .tuple #[.agg #[.bool b, .slice A2 L2 c2, .slice A3 L3 c3], .int .i64 0]) (by simp [results, Tryz.results39, go_sem, *]) rfl (of_low (by rw [← HYE.out]; exact HY0.out) (by unfold LowPostE; rw [← HXE.out, ← HYE.out, ← HNEG.out, ← HBB.out]; exact r3_postE HD.out))
def LowEB (W0 : World) (neg : Bool) (n d : Nat) (e : Ending) (w' : World) : Prop := ∃ (b : Bool) (A : Option Addr) (L c : Nat) (A' : Option Addr) (L' c' : Nat), e = .returned (.tuple #[.agg #[.bool b, .slice A L c, .slice A' L' c'], .int .i64 0]) ∧ Aside0 (b = (decide (n ≠ 0) && neg)) ∧ Aside0 (Nu w' (.slice A L c) (n / Nat.gcd n d)) ∧ Aside0 (Nu w' (.slice A' L' c') (d / Nat.gcd n d)) ∧ Aside0 (Below W0.heap.size W0 w')
theorem low_eb {W0 W : World} {neg : Bool} {n d : Nat} {e : Ending} {w' : World} (hW : Below W0.heap.size W0 W) (h : LowPostE W neg n d e w') : LowEB W0 neg n d e w' := by
 obtain ⟨v, he, ⟨A, L, c, A', L', c', rfl, h1, h2⟩, hB⟩ := h
 exact ⟨_, A, L, c, A', L', c', he, ⟨rfl⟩, ⟨h1⟩, ⟨h2⟩, ⟨hW.trans (hB.mono hW.size)⟩⟩
def ZeroEB (W0 : World) (e : Ending) (w' : World) : Prop := ∃ (A : Option Addr) (L c : Nat) (A' : Option Addr) (L' c' : Nat), e = .returned (.tuple #[.agg #[.bool false, .slice A L c, .slice A' L' c'], .int .i64 5]) ∧ Aside0 (Nu w' (.slice A L c) 0) ∧ Aside0 (Nu w' (.slice A' L' c') 0) ∧ Aside0 (Below W0.heap.size W0 w')
theorem zero_eb {W0 W : World} {e : Ending} {w' : World} (hW : Below W0.heap.size W0 W) (h : R3PostE W false 0 0 5 e w') : ZeroEB W0 e w' := by
 obtain ⟨v, he, ⟨A, L, c, A', L', c', rfl, h1, h2⟩, hB⟩ := h
 exact ⟨A, L, c, A', L', c', he, ⟨h1⟩, ⟨h2⟩, ⟨hW.trans (hB.mono hW.size)⟩⟩
theorem low_doneE {w W0 w' : World} {g : Nat} {neg b : Bool} {n d : Nat} {A A' : Option Addr} {L L' c c' : Nat} (hw : Below w.heap.size w W0) (hg : w.heap.size ≤ g) (hb : b = (decide (n ≠ 0) && neg)) (h1 : Nu w' (.slice A L c) (n / Nat.gcd n d)) (h2 : Nu w' (.slice A' L' c') (d / Nat.gcd n d)) (hB : Below W0.heap.size W0 w') (hK : Blk W0 g (.bool false) (.slice none 0 0) (.slice none 0 0)) :
  LowPostE w neg n d (.returned (.tuple #[.agg #[.bool b, .slice A L c, .slice A' L' c'], .int .i64 0])) (((w'.setCell ⟨g, 0, none⟩ (.bool b)).setCell ⟨g, 1, none⟩ (.slice A L c)).setCell ⟨g, 2, none⟩ (.slice A' L' c')) := by
 subst hb
 exact r3_postE (r3_done hw hg hK hB h1 h2)
theorem qquo_w {w : World} {v0 v1 : Value} {g0 g1 : Bool} {n0 d0 n1 d1 : Nat} (h0 : R3 w v0 g0 n0 d0) (h1 : R3 w v1 g1 n1 d1) (b0 : n0 < pw 400) (b1 : d0 < pw 400) (b2 : n1 < pw 400) (b3 : d1 < pw 400) (hd0 : d0 ≠ 0) (hn10 : n1 ≠ 0) :
  Calls Tryz.prog 86 #[v0, v1] w (LowPostE w (g0 != g1) (n0 * d1) (d0 * n1)) := by
 obtain ⟨A0, L0, c0, A1, L1, c1, rfl, hn0, hd0'⟩ := h0
 obtain ⟨A2, L2, c2, A3, L3, c3, rfl, hn1, hd1'⟩ := h1
 obtain ⟨neg, hneg⟩ : ∃ b, b = (g0 != g1) := ⟨_, rfl⟩
 have HX0 := Aside0.mk hn0
 have HX1 := Aside0.mk hd0'
 have HX2 := Aside0.mk hn1
 have HX3 := Aside0.mk hd1'
 obtain ⟨W0, a0, a1, a2, hW0, e0, e1, e2, HK0, HK1, HK2, HW, HGE⟩ := boxes w (.bool g0) (.slice A0 L0 c0) (.slice A1 L1 c1) (.bool g1) (.slice A2 L2 c2) (.slice A3 L3 c3) 27
 have HM1 := Aside0.mk (fun (W : World) (hW : Below W0.heap.size W0 W) => show Calls Tryz.prog 92 #[.slice A0 L0 c0, .slice A3 L3 c3] W (StepB W0 W (n0 * d1)) from (mulN (HX0.out.below (HW.out.trans (hW.mono HW.out.size))) (HX3.out.below (HW.out.trans (hW.mono HW.out.size))) (pw_lt1000 b0 (by omega)) (pw_lt1000 b3 (by omega))).mono fun _ _ h => step_b hW h)
 have HM2 := Aside0.mk (fun (W : World) (hW : Below W0.heap.size W0 W) => show Calls Tryz.prog 92 #[.slice A1 L1 c1, .slice A2 L2 c2] W (StepB W0 W (d0 * n1)) from (mulN (HX1.out.below (HW.out.trans (hW.mono HW.out.size))) (HX2.out.below (HW.out.trans (hW.mono HW.out.size))) (pw_lt1000 b1 (by omega)) (pw_lt1000 b2 (by omega))).mono fun _ _ h => step_b hW h)
 have bN : n0 * d1 < pw 1000 := Nat.lt_of_lt_of_le (pw_mulb b0 b3) (pw_le (by omega))
 have bD : d0 * n1 < pw 1000 := Nat.lt_of_lt_of_le (pw_mulb b1 b2) (pw_le (by omega))
 have hD0 : d0 * n1 ≠ 0 := Nat.mul_ne_zero hd0 hn10
 obtain ⟨N, hN⟩ : ∃ N, N = n0 * d1 := ⟨_, rfl⟩
 obtain ⟨D, hD⟩ : ∃ D, D = d0 * n1 := ⟨_, rfl⟩
 rw [← hneg, ← hN, ← hD]
 rw [← hN] at HM1 bN
 rw [← hD] at HM2 bD hD0
 have HL := Aside0.mk (fun (W : World) (u1 u2 : Value) (hW : Below W0.heap.size W0 W) (h1 : Nu W u1 N) (h2 : Nu W u2 D) => show Calls Tryz.prog 23 #[.bool neg, u1, u2] W (LowEB W0 neg N D) from (qmake_w neg h1 h2 bN bD hD0).mono fun _ _ h => low_eb hW h)
 have HS := Aside0.mk (fun (W : World) (hW : Below W0.heap.size W0 W) => show W.cell? ⟨a0, 0, none⟩ = some (.bool g0) ∧ W.cell? ⟨a0, 1, none⟩ = some (.slice A0 L0 c0) ∧ W.cell? ⟨a0, 2, none⟩ = some (.slice A1 L1 c1) ∧ W.cell? ⟨a1, 0, none⟩ = some (.bool g1) ∧ W.cell? ⟨a1, 1, none⟩ = some (.slice A2 L2 c2) ∧ W.cell? ⟨a1, 2, none⟩ = some (.slice A3 L3 c3) from
  ⟨(HK0.out.below hW).1.1, (HK0.out.below hW).1.2.1, (HK0.out.below hW).1.2.2, (HK1.out.below hW).1.1, (HK1.out.below hW).1.2.1, (HK1.out.below hW).1.2.2⟩)
 have hne : (!(g0 == g1)) = neg := hneg.symm
 clear hn0 hn1 hd0' hd1' hN hD hneg b0 b1 b2 b3 bN bD hd0 hn10 hD0
 go_enter Tryz.func86, Tryz.ntmps86
 go_wp2_with fail
 rw [← hW0, ← e2, ← e1, ← e0]
 have HNE0 := Aside0.mk (show a2 ≠ a0 by omega)
 have HNE1 := Aside0.mk (show a2 ≠ a1 by omega)
 clear hW0 e0 e1 e2
 go_region_held3 (fun W => W.cell? ⟨a0, 0, none⟩ = some (.bool g0) ∧ W.cell? ⟨a0, 1, none⟩ = some (.slice A0 L0 c0) ∧ W.cell? ⟨a0, 2, none⟩ = some (.slice A1 L1 c1) ∧ W.cell? ⟨a1, 0, none⟩ = some (.bool g1) ∧ W.cell? ⟨a1, 1, none⟩ = some (.slice A2 L2 c2) ∧ W.cell? ⟨a1, 2, none⟩ = some (.slice A3 L3 c3)) (first | exact HS.out _ (Below.drew (Below.refl _ _)) | exact HS.out _ HB3.out | exact HS.out _ HB2.out | exact HS.out _ HB1.out | exact HS.out _ (Below.refl _ _) | (obtain ⟨k0, k1, k2, k3, k4, k5⟩ := HS.out _ HB3.out; exact ⟨cell_far3 HNE0.out k0, cell_far3 HNE0.out k1, cell_far3 HNE0.out k2, cell_far3 HNE1.out k3, cell_far3 HNE1.out k4, cell_far3 HNE1.out k5⟩))
  (first
   | (go_at_call 92; (with_reducible refine (HM1.out _ Z14).mono ?_); rintro e w1 ⟨v1, rfl, hN1, hB1, hT1⟩; have HB1 := Aside0.mk hB1; have HT1 := Aside0.mk hT1; clear hB1 hT1)
   | (go_at_call 92; (with_reducible refine (HM2.out _ Z14).mono ?_); rintro e w2 ⟨v2, rfl, hN2, hB2, hT2⟩; have HB2 := Aside0.mk hB2; have HT2 := Aside0.mk hT2; clear hB2 hT2)
   | (go_at_call 23; (with_reducible refine (HL.out _ _ _ Z14 (by with_reducible repeat (first | assumption | refine HT2.out _ _ ?_ | refine HT1.out _ _ ?_ | refine HT3.out _ _ ?_ | refine Nu_drew' ?_)) (by with_reducible repeat (first | assumption | refine HT2.out _ _ ?_ | refine HT1.out _ _ ?_ | refine HT3.out _ _ ?_ | refine Nu_drew' ?_))).mono ?_); rintro e w3 ⟨b, A, L, c, A', L', c', rfl, HBE, HNA, HNB, HB3⟩; obtain ⟨⟨hc0, hc1, hc2⟩, hf0, hf1, hf2⟩ := HK2.out.below HB3.out))
 go_wp2_with fail
 exact bodyPost_ret (v := .tuple #[.agg #[.bool b, .slice A L c, .slice A' L' c'], .int .i64 0]) (by simp [results, Tryz.results86, go_sem, *]) rfl (low_doneE HW.out HGE.out HBE.out HNA.out HNB.out HB3.out HK2.out)
theorem qquo0_w {w : World} {v0 v1 : Value} {g0 g1 : Bool} {n0 d0 n1 d1 : Nat} (h0 : R3 w v0 g0 n0 d0) (h1 : R3 w v1 g1 n1 d1) (b0 : n0 < pw 400) (b1 : d0 < pw 400) (b2 : n1 < pw 400) (b3 : d1 < pw 400) (hd0 : d0 ≠ 0) (hn10 : n1 = 0) :
  Calls Tryz.prog 86 #[v0, v1] w (R3PostE w false 0 0 5) := by
 obtain ⟨A0, L0, c0, A1, L1, c1, rfl, hn0, hd0'⟩ := h0
 obtain ⟨A2, L2, c2, A3, L3, c3, rfl, hn1, hd1'⟩ := h1
 obtain ⟨neg, hneg⟩ : ∃ b, b = (g0 != g1) := ⟨_, rfl⟩
 have HX0 := Aside0.mk hn0
 have HX1 := Aside0.mk hd0'
 have HX2 := Aside0.mk hn1
 have HX3 := Aside0.mk hd1'
 obtain ⟨W0, a0, a1, a2, hW0, e0, e1, e2, HK0, HK1, HK2, HW, HGE⟩ := boxes w (.bool g0) (.slice A0 L0 c0) (.slice A1 L1 c1) (.bool g1) (.slice A2 L2 c2) (.slice A3 L3 c3) 27
 have HM1 := Aside0.mk (fun (W : World) (hW : Below W0.heap.size W0 W) => show Calls Tryz.prog 92 #[.slice A0 L0 c0, .slice A3 L3 c3] W (StepB W0 W (n0 * d1)) from (mulN (HX0.out.below (HW.out.trans (hW.mono HW.out.size))) (HX3.out.below (HW.out.trans (hW.mono HW.out.size))) (pw_lt1000 b0 (by omega)) (pw_lt1000 b3 (by omega))).mono fun _ _ h => step_b hW h)
 have HM2 := Aside0.mk (fun (W : World) (hW : Below W0.heap.size W0 W) => show Calls Tryz.prog 92 #[.slice A1 L1 c1, .slice A2 L2 c2] W (StepB W0 W (d0 * n1)) from (mulN (HX1.out.below (HW.out.trans (hW.mono HW.out.size))) (HX2.out.below (HW.out.trans (hW.mono HW.out.size))) (pw_lt1000 b1 (by omega)) (pw_lt1000 b2 (by omega))).mono fun _ _ h => step_b hW h)
 have bN : n0 * d1 < pw 1000 := Nat.lt_of_lt_of_le (pw_mulb b0 b3) (pw_le (by omega))
 have bD : d0 * n1 < pw 1000 := Nat.lt_of_lt_of_le (pw_mulb b1 b2) (pw_le (by omega))
 have hD0 : d0 * n1 = 0 := by rw [hn10, Nat.mul_zero]
 obtain ⟨N, hN⟩ : ∃ N, N = n0 * d1 := ⟨_, rfl⟩
 obtain ⟨D, hD⟩ : ∃ D, D = d0 * n1 := ⟨_, rfl⟩
 rw [← hN] at HM1 bN
 rw [← hD] at HM2 bD hD0
 have HL := Aside0.mk (fun (W : World) (u1 u2 : Value) (hW : Below W0.heap.size W0 W) (h1 : Nu W u1 N) (h2 : Nu W u2 D) => show Calls Tryz.prog 23 #[.bool neg, u1, u2] W (ZeroEB W0) from (qmake0_w neg h1 (by rw [← hD0]; exact h2)).mono fun _ _ h => zero_eb hW h)
 have HS := Aside0.mk (fun (W : World) (hW : Below W0.heap.size W0 W) => show W.cell? ⟨a0, 0, none⟩ = some (.bool g0) ∧ W.cell? ⟨a0, 1, none⟩ = some (.slice A0 L0 c0) ∧ W.cell? ⟨a0, 2, none⟩ = some (.slice A1 L1 c1) ∧ W.cell? ⟨a1, 0, none⟩ = some (.bool g1) ∧ W.cell? ⟨a1, 1, none⟩ = some (.slice A2 L2 c2) ∧ W.cell? ⟨a1, 2, none⟩ = some (.slice A3 L3 c3) from
  ⟨(HK0.out.below hW).1.1, (HK0.out.below hW).1.2.1, (HK0.out.below hW).1.2.2, (HK1.out.below hW).1.1, (HK1.out.below hW).1.2.1, (HK1.out.below hW).1.2.2⟩)
 have hne : (!(g0 == g1)) = neg := hneg.symm
 clear hn0 hn1 hd0' hd1' hN hD hneg b0 b1 b2 b3 bN bD hd0 hn10 hD0
 go_enter Tryz.func86, Tryz.ntmps86
 go_wp2_with fail
 rw [← hW0, ← e2, ← e1, ← e0]
 have HNE0 := Aside0.mk (show a2 ≠ a0 by omega)
 have HNE1 := Aside0.mk (show a2 ≠ a1 by omega)
 clear hW0 e0 e1 e2
 go_region_held3 (fun W => W.cell? ⟨a0, 0, none⟩ = some (.bool g0) ∧ W.cell? ⟨a0, 1, none⟩ = some (.slice A0 L0 c0) ∧ W.cell? ⟨a0, 2, none⟩ = some (.slice A1 L1 c1) ∧ W.cell? ⟨a1, 0, none⟩ = some (.bool g1) ∧ W.cell? ⟨a1, 1, none⟩ = some (.slice A2 L2 c2) ∧ W.cell? ⟨a1, 2, none⟩ = some (.slice A3 L3 c3)) (first | exact HS.out _ (Below.drew (Below.refl _ _)) | exact HS.out _ HB3.out | exact HS.out _ HB2.out | exact HS.out _ HB1.out | exact HS.out _ (Below.refl _ _) | (obtain ⟨k0, k1, k2, k3, k4, k5⟩ := HS.out _ HB3.out; exact ⟨cell_far3 HNE0.out k0, cell_far3 HNE0.out k1, cell_far3 HNE0.out k2, cell_far3 HNE1.out k3, cell_far3 HNE1.out k4, cell_far3 HNE1.out k5⟩))
  (first
   | (go_at_call 92; (with_reducible refine (HM1.out _ Z14).mono ?_); rintro e w1 ⟨v1, rfl, hN1, hB1, hT1⟩; have HB1 := Aside0.mk hB1; have HT1 := Aside0.mk hT1; clear hB1 hT1)
   | (go_at_call 92; (with_reducible refine (HM2.out _ Z14).mono ?_); rintro e w2 ⟨v2, rfl, hN2, hB2, hT2⟩; have HB2 := Aside0.mk hB2; have HT2 := Aside0.mk hT2; clear hB2 hT2)
   | (go_at_call 23; (with_reducible refine (HL.out _ _ _ Z14 (by with_reducible repeat (first | assumption | refine HT2.out _ _ ?_ | refine HT1.out _ _ ?_ | refine HT3.out _ _ ?_ | refine Nu_drew' ?_)) (by with_reducible repeat (first | assumption | refine HT2.out _ _ ?_ | refine HT1.out _ _ ?_ | refine HT3.out _ _ ?_ | refine Nu_drew' ?_))).mono ?_); rintro e w3 ⟨A, L, c, A', L', c', rfl, HNA, HNB, HB3⟩; obtain ⟨⟨hc0, hc1, hc2⟩, hf0, hf1, hf2⟩ := HK2.out.below HB3.out))
 go_wp2_with fail
 exact bodyPost_ret (v := .tuple #[.agg #[.bool false, .slice A L c, .slice A' L' c'], .int .i64 5]) (by simp [results, Tryz.results86, go_sem, *]) rfl (r3_postE (r3_done HW.out HGE.out HK2.out HB3.out HNA.out HNB.out))
def addNeg (g0 g1 : Bool) (x y : Nat) : Bool := if g0 == g1 then g0 else if x < y then g1 else g0
def addNum (g0 g1 : Bool) (x y : Nat) : Nat := if g0 == g1 then x + y else if x < y then y - x else x - y
theorem qadd_w {w : World} {v0 v1 : Value} {g0 g1 : Bool} {n0 d0 n1 d1 : Nat} (h0 : R3 w v0 g0 n0 d0) (h1 : R3 w v1 g1 n1 d1) (b0 : n0 < pw 400) (b1 : d0 < pw 400) (b2 : n1 < pw 400) (b3 : d1 < pw 400) (hd0 : d0 ≠ 0) (hd1 : d1 ≠ 0) :
  Calls Tryz.prog 87 #[v0, v1] w (LowPost w (addNeg g0 g1 (n0 * d1) (n1 * d0)) (addNum g0 g1 (n0 * d1) (n1 * d0)) (d0 * d1)) := by
 obtain ⟨A0, L0, c0, A1, L1, c1, rfl, hn0, hd0'⟩ := h0
 obtain ⟨A2, L2, c2, A3, L3, c3, rfl, hn1, hd1'⟩ := h1
 have HX0 := Aside0.mk hn0
 have HX1 := Aside0.mk hd0'
 have HX2 := Aside0.mk hn1
 have HX3 := Aside0.mk hd1'
 obtain ⟨W0, a0, a1, a2, hW0, e0, e1, e2, HK0, HK1, HK2, HW, HGE⟩ := boxes w (.bool g0) (.slice A0 L0 c0) (.slice A1 L1 c1) (.bool g1) (.slice A2 L2 c2) (.slice A3 L3 c3) 27
 have HM1 := Aside0.mk (fun (W : World) (hW : Below W0.heap.size W0 W) => show Calls Tryz.prog 92 #[.slice A0 L0 c0, .slice A3 L3 c3] W (StepB W0 W (n0 * d1)) from (mulN (HX0.out.below (HW.out.trans (hW.mono HW.out.size))) (HX3.out.below (HW.out.trans (hW.mono HW.out.size))) (pw_lt1000 b0 (by omega)) (pw_lt1000 b3 (by omega))).mono fun _ _ h => step_b hW h)
 have HM2 := Aside0.mk (fun (W : World) (hW : Below W0.heap.size W0 W) => show Calls Tryz.prog 92 #[.slice A2 L2 c2, .slice A1 L1 c1] W (StepB W0 W (n1 * d0)) from (mulN (HX2.out.below (HW.out.trans (hW.mono HW.out.size))) (HX1.out.below (HW.out.trans (hW.mono HW.out.size))) (pw_lt1000 b2 (by omega)) (pw_lt1000 b1 (by omega))).mono fun _ _ h => step_b hW h)
 have HM3 := Aside0.mk (fun (W : World) (hW : Below W0.heap.size W0 W) => show Calls Tryz.prog 92 #[.slice A1 L1 c1, .slice A3 L3 c3] W (StepB W0 W (d0 * d1)) from (mulN (HX1.out.below (HW.out.trans (hW.mono HW.out.size))) (HX3.out.below (HW.out.trans (hW.mono HW.out.size))) (pw_lt1000 b1 (by omega)) (pw_lt1000 b3 (by omega))).mono fun _ _ h => step_b hW h)
 have bX : n0 * d1 < pw 800 := pw_mulb b0 b3
 have bY : n1 * d0 < pw 800 := pw_mulb b2 b1
 have bD : d0 * d1 < pw 1000 := Nat.lt_of_lt_of_le (pw_mulb b1 b3) (pw_le (by omega))
 have hD0 : d0 * d1 ≠ 0 := Nat.mul_ne_zero hd0 hd1
 have HL := Aside0.mk (fun (neg : Bool) (N : Nat) (W : World) (u1 u2 : Value) (hW : Below W0.heap.size W0 W) (bN : N < pw 1000) (h1 : Nu W u1 N) (h2 : Nu W u2 (d0 * d1)) => show Calls Tryz.prog 55 #[.bool neg, u1, u2] W (LowB W0 neg N (d0 * d1)) from (qlow_w neg h1 h2 bN bD hD0).mono fun _ _ h => low_b hW h)
 have HBX := Aside0.mk bX
 have HBY := Aside0.mk bY
 have HS := Aside0.mk (fun (W : World) (hW : Below W0.heap.size W0 W) => show W.cell? ⟨a0, 0, none⟩ = some (.bool g0) ∧ W.cell? ⟨a0, 1, none⟩ = some (.slice A0 L0 c0) ∧ W.cell? ⟨a0, 2, none⟩ = some (.slice A1 L1 c1) ∧ W.cell? ⟨a1, 0, none⟩ = some (.bool g1) ∧ W.cell? ⟨a1, 1, none⟩ = some (.slice A2 L2 c2) ∧ W.cell? ⟨a1, 2, none⟩ = some (.slice A3 L3 c3) from
  ⟨(HK0.out.below hW).1.1, (HK0.out.below hW).1.2.1, (HK0.out.below hW).1.2.2, (HK1.out.below hW).1.1, (HK1.out.below hW).1.2.1, (HK1.out.below hW).1.2.2⟩)
 obtain ⟨X, hX⟩ : ∃ X, X = n0 * d1 := ⟨_, rfl⟩
 obtain ⟨Y, hY⟩ : ∃ Y, Y = n1 * d0 := ⟨_, rfl⟩
 obtain ⟨D, hD⟩ : ∃ D, D = d0 * d1 := ⟨_, rfl⟩
 rw [← hX] at HM1 HBX ⊢
 rw [← hY] at HM2 HBY ⊢
 rw [← hD] at HM3 HL ⊢
 have HAD := Aside0.mk (fun (W : World) (u1 u2 : Value) (hW : Below W0.heap.size W0 W) (h1 : Nu W u1 X) (h2 : Nu W u2 Y) => show Calls Tryz.prog 112 #[u1, u2] W (StepB W0 W (X + Y)) from (addN h1 h2 (pw_lt1000 HBX.out (by omega)) (pw_lt1000 HBY.out (by omega))).mono fun _ _ h => step_b hW h)
 have HBS := Aside0.mk (show X + Y < pw 1000 from pw_addb HBX.out HBY.out (by omega) (by omega))
 clear hn0 hn1 hd0' hd1' hX hY hD b0 b1 b2 b3 bX bY bD hd0 hd1 hD0
 have HNE0 := Aside0.mk (show a2 ≠ a0 by omega)
 have HNE1 := Aside0.mk (show a2 ≠ a1 by omega)
 obtain ⟨sm, hsm⟩ : ∃ b, b = (g0 == g1) := ⟨_, rfl⟩
 have hsm2 : (g0 == g1) = sm := hsm.symm
 have HSM := Aside0.mk hsm
 clear hsm
 go_enter Tryz.func87, Tryz.ntmps87
 go_wp2_with fail
 rw [← hW0, ← e2, ← e1, ← e0]
 clear hW0 e0 e1 e2
 go_region_held3 (fun W => W.cell? ⟨a0, 0, none⟩ = some (.bool g0) ∧ W.cell? ⟨a0, 1, none⟩ = some (.slice A0 L0 c0) ∧ W.cell? ⟨a0, 2, none⟩ = some (.slice A1 L1 c1) ∧ W.cell? ⟨a1, 0, none⟩ = some (.bool g1) ∧ W.cell? ⟨a1, 1, none⟩ = some (.slice A2 L2 c2) ∧ W.cell? ⟨a1, 2, none⟩ = some (.slice A3 L3 c3)) (first | exact HS.out _ (Below.drew (Below.refl _ _)) | exact HS.out _ HB5.out | exact HS.out _ HB4.out | exact HS.out _ HB3.out | exact HS.out _ HB2.out | exact HS.out _ HB1.out | exact HS.out _ (Below.refl _ _) | exact HS.out _ (Below.drew HB3.out) | (obtain ⟨k0, k1, k2, k3, k4, k5⟩ := HS.out _ HB3.out; exact ⟨cell_far3 HNE0.out k0, cell_far3 HNE0.out k1, cell_far3 HNE0.out k2, cell_far3 HNE1.out k3, cell_far3 HNE1.out k4, cell_far3 HNE1.out k5⟩))
  (first
   | (go_at_call 92; (with_reducible refine (HM1.out _ Z18).mono ?_); rintro e w1 ⟨v1, rfl, hN1, hB1, hT1⟩; have HN1 := Aside0.mk hN1; have HB1 := Aside0.mk hB1; have HT1 := Aside0.mk hT1; clear hN1 hB1 hT1)
   | (go_at_call 92; (with_reducible refine (HM2.out _ Z18).mono ?_); rintro e w2 ⟨v2, rfl, hN2, hB2, hT2⟩; have HN2 := Aside0.mk hN2; have HB2 := Aside0.mk hB2; have HT2 := Aside0.mk hT2; clear hN2 hB2 hT2)
   | (go_at_call 92; (with_reducible refine (HM3.out _ Z18).mono ?_); rintro e w3 ⟨v3, rfl, hN3, hB3, hT3⟩; have HN3 := Aside0.mk hN3; have HB3 := Aside0.mk hB3; have HT3 := Aside0.mk hT3; clear hN3 hB3 hT3))
 clear HM1 HM2 HM3
 obtain ⟨kk0, kk1, kk2, kk3, kk4, kk5⟩ := HS.out _ HB3.out
 have HNX := Aside0.mk (HT3.out _ _ (HT2.out _ _ HN1.out))
 have HNY := Aside0.mk (HT3.out _ _ HN2.out)
 clear HT1 HT2 HT3 HB1 HB2 HN1 HN2
 cases sm with
 | true =>
  have HE := Aside0.mk (show addNeg g0 g1 X Y = g0 ∧ addNum g0 g1 X Y = X + Y from ⟨by unfold addNeg; rw [← HSM.out]; rfl, by unfold addNum; rw [← HSM.out]; rfl⟩)
  go_wp2_with fail
  go_region_held3 (fun W => W.cell? ⟨a0, 0, none⟩ = some (.bool g0) ∧ W.cell? ⟨a0, 1, none⟩ = some (.slice A0 L0 c0) ∧ W.cell? ⟨a0, 2, none⟩ = some (.slice A1 L1 c1) ∧ W.cell? ⟨a1, 0, none⟩ = some (.bool g1) ∧ W.cell? ⟨a1, 1, none⟩ = some (.slice A2 L2 c2) ∧ W.cell? ⟨a1, 2, none⟩ = some (.slice A3 L3 c3)) (first | exact HS.out _ (Below.drew (Below.refl _ _)) | exact HS.out _ HB5.out | exact HS.out _ HB4.out | exact HS.out _ HB3.out | exact HS.out _ HB2.out | exact HS.out _ HB1.out | exact HS.out _ (Below.refl _ _) | exact HS.out _ (Below.drew HB3.out) | (obtain ⟨k0, k1, k2, k3, k4, k5⟩ := HS.out _ HB5.out; exact ⟨cell_far3 HNE0.out k0, cell_far3 HNE0.out k1, cell_far3 HNE0.out k2, cell_far3 HNE1.out k3, cell_far3 HNE1.out k4, cell_far3 HNE1.out k5⟩))
   (first
    | (go_at_call 112; (with_reducible refine (HAD.out _ _ _ Z18 (by with_reducible repeat (first | assumption | exact HN4.out | exact HNX.out | exact HNY.out | exact HN3.out | refine HT4.out _ _ ?_ | refine Nu_drew' ?_)) (by with_reducible repeat (first | assumption | exact HN4.out | exact HNX.out | exact HNY.out | exact HN3.out | refine HT4.out _ _ ?_ | refine Nu_drew' ?_))).mono ?_); rintro e w4 ⟨v4, rfl, hN4, hB4, hT4⟩; have HN4 := Aside0.mk hN4; have HB4 := Aside0.mk hB4; have HT4 := Aside0.mk hT4; clear hN4 hB4 hT4)
    | (go_at_call 55; (with_reducible refine (HL.out _ _ _ _ _ Z18 HBS.out (by with_reducible repeat (first | assumption | exact HN4.out | exact HNX.out | exact HNY.out | exact HN3.out | refine HT4.out _ _ ?_ | refine Nu_drew' ?_)) (by with_reducible repeat (first | assumption | exact HN4.out | exact HNX.out | exact HNY.out | exact HN3.out | refine HT4.out _ _ ?_ | refine Nu_drew' ?_))).mono ?_); rintro e w5 ⟨b, A, L, c, A', L', c', rfl, HBE, HNA, HNB, HB5⟩; obtain ⟨⟨hc0, hc1, hc2⟩, hf0, hf1, hf2⟩ := HK2.out.below HB5.out))
  go_wp2_with fail
  exact bodyPost_ret (v := .agg #[.bool b, .slice A L c, .slice A' L' c']) (by simp [results, Tryz.results87, go_sem, *]) rfl Z39
 | false =>
  by_cases hlt : X < Y
  ·have HE := Aside0.mk (show addNeg g0 g1 X Y = g1 ∧ addNum g0 g1 X Y = Y - X from ⟨by unfold addNeg; rw [← HSM.out, if_neg Z5, if_pos hlt], by unfold addNum; rw [← HSM.out, if_neg Z5, if_pos hlt]⟩)
   have H4 : Aside0 (Calls Tryz.prog 119 #[v1, v2] w3 (NuPost2 w3 (X - Y) 1)) := ⟨by have h := subN HNX.out HNY.out (pw_lt1000 HBX.out (by omega)) (pw_lt1000 HBY.out (by omega)); rwa [if_pos hlt] at h⟩
   have HLT := Aside0.mk hlt
   clear hlt
   go_wp2_with fail
   refine H4.out.mono ?_
   rintro e w4 ⟨v4, rfl, hN4, hB4⟩
   have H5 : Aside0 (Calls Tryz.prog 119 #[v2, v1] w4 (NuPost2 w4 (Y - X) 0)) := ⟨by have h := subN (HNY.out.below hB4) (HNX.out.below hB4) (pw_lt1000 HBY.out (by omega)) (pw_lt1000 HBX.out (by omega)); rwa [if_neg (by have := HLT.out; omega)] at h⟩
   have HB4 := tT HB3 hB4
   have HN34 := Aside0.mk (HN3.out.below hB4)
   clear hN4 hB4 H4
   go_wp2_with fail
   refine H5.out.mono ?_
   rintro e w5 ⟨v5, rfl, hN5, hB5⟩
   have HB5' := Aside0.mk (HB4.out.trans (hB5.mono HB4.out.size))
   have H6 := Aside0.mk (HL.out g1 (Y - X) w5 v5 v3 HB5'.out (Nat.lt_of_le_of_lt (Nat.sub_le _ _) (pw_lt1000 HBY.out (by omega))) hN5 (HN34.out.below hB5))
   clear hN5 hB5 H5 kk0 kk1 kk2 kk3 kk4 kk5
   obtain ⟨kk0, kk1, kk2, kk3, kk4, kk5⟩ := HS.out _ HB5'.out
   go_wp2_with fail
   refine H6.out.mono ?_
   rintro e w6 ⟨b, A, L, c, A', L', c', rfl, HBE, HNA, HNB, HB5⟩
   obtain ⟨⟨hc0, hc1, hc2⟩, hf0, hf1, hf2⟩ := HK2.out.below HB5.out
   clear kk0 kk1 kk2 kk3 kk4 kk5
   go_wp2_with fail
   exact bodyPost_ret (v := .agg #[.bool b, .slice A L c, .slice A' L' c']) (by simp [results, Tryz.results87, go_sem, *]) rfl Z39
  ·have HE := Aside0.mk (show addNeg g0 g1 X Y = g0 ∧ addNum g0 g1 X Y = X - Y from ⟨by unfold addNeg; rw [← HSM.out, if_neg Z5, if_neg hlt], by unfold addNum; rw [← HSM.out, if_neg Z5, if_neg hlt]⟩)
   have H4 : Aside0 (Calls Tryz.prog 119 #[v1, v2] w3 (NuPost2 w3 (X - Y) 0)) := ⟨by have h := subN HNX.out HNY.out (pw_lt1000 HBX.out (by omega)) (pw_lt1000 HBY.out (by omega)); rwa [if_neg hlt] at h⟩
   clear hlt
   go_wp2_with fail
   refine H4.out.mono ?_
   rintro e w4 ⟨v4, rfl, hN4, hB4⟩
   have HB4 := tT HB3 hB4
   have H6 := Aside0.mk (HL.out g0 (X - Y) w4 v4 v3 HB4.out (Nat.lt_of_le_of_lt (Nat.sub_le _ _) (pw_lt1000 HBX.out (by omega))) hN4 (HN3.out.below hB4))
   clear hN4 hB4 H4 kk0 kk1 kk2 kk3 kk4 kk5
   obtain ⟨kk0, kk1, kk2, kk3, kk4, kk5⟩ := HS.out _ HB4.out
   go_wp2_with fail
   refine H6.out.mono ?_
   rintro e w6 ⟨b, A, L, c, A', L', c', rfl, HBE, HNA, HNB, HB5⟩
   obtain ⟨⟨hc0, hc1, hc2⟩, hf0, hf1, hf2⟩ := HK2.out.below HB5.out
   clear kk0 kk1 kk2 kk3 kk4 kk5
   go_wp2_with fail
   exact bodyPost_ret (v := .agg #[.bool b, .slice A L c, .slice A' L' c']) (by simp [results, Tryz.results87, go_sem, *]) rfl Z39
theorem cloneN {w : World} {v : Value} {n : Nat} (hn : Nu w v n) (bn : n < pw 1000) : Calls Tryz.prog 58 #[v] w (NuPost w n) := by
 obtain ⟨A0, c0, rfl, h0, C0⟩ := hn
 refine (slices_Clone_uint32_uint32.calls A0 c0 (digs n) (digs n) w C0 h0 (by unfold slices_Clone_uint32_uint32.f; rw [if_pos Z50])).mono ?_
 rintro e w' ⟨v, rfl, hR, hB⟩
 exact ⟨v, rfl, Nu_of_RU hR, hB⟩
def negB (g : Bool) (n : Nat) : Bool := !g && decide (n ≠ 0)
theorem box1 (w : World) (x0 x1 x2 : Value) (t : TypeId) : ∃ (W0 : World) (a0 a1 : Nat), W0 = (w.alloc (.cells #[x0, x1, x2] t)).alloc (.cells #[.bool false, .slice none 0 0, .slice none 0 0] t) ∧ a0 = w.heap.size ∧ a1 = w.heap.size + 1 ∧
  Aside0 (Blk W0 a0 x0 x1 x2) ∧ Aside0 (Blk W0 a1 (.bool false) (.slice none 0 0) (.slice none 0 0)) ∧ Aside0 (Below w.heap.size w W0) ∧ Aside0 (w.heap.size ≤ a1) := by
 refine ⟨_, _, _, rfl, rfl, rfl, ⟨?_⟩, ⟨?_⟩, ⟨?_⟩, ⟨by omega⟩⟩
 ·exact (Blk_alloc w x0 x1 x2 t).below (below_alloc (Below.refl _ _) _)
 ·have h := Blk_alloc (w.alloc (.cells #[x0, x1, x2] t)) (.bool false) (.slice none 0 0) (.slice none 0 0) t
  rwa [World.size_alloc] at h
 ·exact below_alloc (below_alloc (Below.refl w.heap.size w) _) _
theorem Blk_far {w : World} {g p i : Nat} {a b c v : Value} (h : Blk w g a b c) (hne : p ≠ g) : Blk (w.setCell ⟨p, i, none⟩ v) g a b c := by
 obtain ⟨⟨h0, h1, h2⟩, f0, f1, f2⟩ := h
 have k : ∀ j, (w.setCell ⟨p, i, none⟩ v).cell? ⟨g, j, none⟩ = w.cell? ⟨g, j, none⟩ := fun j => by rw [World.cell?_setCell_other (h := by intro h'; cases h'; exact hne rfl)]
 exact ⟨⟨by rw [k]; exact h0, by rw [k]; exact h1, by rw [k]; exact h2⟩, by rw [World.frozen?_setCell]; exact f0, by rw [World.frozen?_setCell]; exact f1, by rw [World.frozen?_setCell]; exact f2⟩
theorem own_done {w W0 w2 : World} {a0 a1 : Nat} {g0 g : Bool} {n d : Nat} {A0 A1 A2 A3 : Option Addr} {L0 c0 L1 c1 L2 c2 L3 c3 : Nat} (hw : Below w.heap.size w W0) (hg0 : w.heap.size ≤ a0) (hg1 : w.heap.size ≤ a1) (hne : a1 ≠ a0) (hK0 : Blk W0 a0 (.bool g0) (.slice A0 L0 c0) (.slice A1 L1 c1)) (hK1 : Blk W0 a1 (.bool false) (.slice none 0 0) (.slice none 0 0)) (hB : Below W0.heap.size W0 w2) (h1 : Nu w2 (.slice A2 L2 c2) n) (h2 : Nu w2 (.slice A3 L3 c3) d) :
  R3 (((((w2.setCell ⟨a0, 1, none⟩ (.slice A2 L2 c2)).setCell ⟨a0, 2, none⟩ (.slice A3 L3 c3)).setCell ⟨a1, 0, none⟩ (.bool g)).setCell ⟨a1, 1, none⟩ (.slice A2 L2 c2)).setCell ⟨a1, 2, none⟩ (.slice A3 L3 c3)) (.agg #[.bool g, .slice A2 L2 c2, .slice A3 L3 c3]) g n d ∧
  Below w.heap.size w (((((w2.setCell ⟨a0, 1, none⟩ (.slice A2 L2 c2)).setCell ⟨a0, 2, none⟩ (.slice A3 L3 c3)).setCell ⟨a1, 0, none⟩ (.bool g)).setCell ⟨a1, 1, none⟩ (.slice A2 L2 c2)).setCell ⟨a1, 2, none⟩ (.slice A3 L3 c3)) := by
 have k0 := hK0.below hB
 have k1 := Blk_far (i := 2) (v := .slice A3 L3 c3) (Blk_far (i := 1) (v := .slice A2 L2 c2) (hK1.below hB) (Ne.symm hne)) (Ne.symm hne)
 have c2' : (w2.setCell ⟨a0, 1, none⟩ (.slice A2 L2 c2)).cell? ⟨a0, 2, none⟩ = some (.slice A1 L1 c1) := by rw [World.cell?_setCell_other (h := by intro h; cases h)]; exact k0.1.2.2
 have m : ∀ {v : Value} {k : Nat}, Nu w2 v k → Nu ((w2.setCell ⟨a0, 1, none⟩ (.slice A2 L2 c2)).setCell ⟨a0, 2, none⟩ (.slice A3 L3 c3)) v k := fun h => Nu_set1 (ns _ _ _) c2' (Nu_set1 (ns _ _ _) k0.1.2.1 h)
 exact ⟨⟨A2, L2, c2, A3, L3, c3, rfl, Nu_set3 k1 _ _ _ (m h1), Nu_set3 k1 _ _ _ (m h2)⟩, below_set3 (G.below_set (G.below_set (hw.trans (hB.mono hw.size)) hg0 1 _) hg0 2 _) hg1 _ _ _⟩
theorem neg_done {w W0 w1 : World} {a0 a1 : Nat} {g0 g : Bool} {n d : Nat} {A0 A1 A2 A3 : Option Addr} {L0 c0 L1 c1 L2 c2 L3 c3 : Nat} {gx : Bool} (hw : Below w.heap.size w W0) (hg0 : w.heap.size ≤ a0) (hg1 : w.heap.size ≤ a1) (hne : a1 ≠ a0) (hK0 : Blk W0 a0 (.bool g0) (.slice A0 L0 c0) (.slice A1 L1 c1)) (hK1 : Blk W0 a1 (.bool false) (.slice none 0 0) (.slice none 0 0)) (hB : Below W0.heap.size W0 w1) (h1 : Nu w1 (.slice A2 L2 c2) n) (h2 : Nu w1 (.slice A3 L3 c3) d) :
  let wf := ((((((w1.setCell ⟨a0, 0, none⟩ (.bool gx)).setCell ⟨a0, 1, none⟩ (.slice A2 L2 c2)).setCell ⟨a0, 2, none⟩ (.slice A3 L3 c3)).setCell ⟨a0, 0, none⟩ (.bool g)).setCell ⟨a1, 0, none⟩ (.bool g)).setCell ⟨a1, 1, none⟩ (.slice A2 L2 c2)).setCell ⟨a1, 2, none⟩ (.slice A3 L3 c3)
  R3 wf (.agg #[.bool g, .slice A2 L2 c2, .slice A3 L3 c3]) g n d ∧ Below w.heap.size w wf := by
 intro wf
 have k0 := hK0.below hB
 have hn := Ne.symm hne
 have k1 := Blk_far (i := 0) (v := .bool g) (Blk_far (i := 2) (v := .slice A3 L3 c3) (Blk_far (i := 1) (v := .slice A2 L2 c2) (Blk_far (i := 0) (v := .bool gx) (hK1.below hB) hn) hn) hn) hn
 have e0 : (((w1.setCell ⟨a0, 0, none⟩ (.bool gx)).setCell ⟨a0, 1, none⟩ (.slice A2 L2 c2)).setCell ⟨a0, 2, none⟩ (.slice A3 L3 c3)).cell? ⟨a0, 0, none⟩ = some (.bool gx) := by
  rw [World.cell?_setCell_other (h := by intro h; cases h), World.cell?_setCell_other (h := by intro h; cases h), World.cell?_setCell_same (h := k0.1.1)]
 have m : ∀ {v : Value} {k : Nat}, Nu w1 v k → Nu ((((w1.setCell ⟨a0, 0, none⟩ (.bool gx)).setCell ⟨a0, 1, none⟩ (.slice A2 L2 c2)).setCell ⟨a0, 2, none⟩ (.slice A3 L3 c3)).setCell ⟨a0, 0, none⟩ (.bool g)) v k := fun h => Nu_set1 (nb _) e0 (Nu_set3 k0 _ _ _ h)
 exact ⟨⟨A2, L2, c2, A3, L3, c3, rfl, Nu_set3 k1 _ _ _ (m h1), Nu_set3 k1 _ _ _ (m h2)⟩, below_set3 (G.below_set (below_set3 (hw.trans (hB.mono hw.size)) hg0 _ _ _) hg0 0 _) hg1 _ _ _⟩
theorem qown_w {w : World} {v0 : Value} {g0 : Bool} {n0 d0 : Nat} (h0 : R3 w v0 g0 n0 d0) (b0 : n0 < pw 1000) (b1 : d0 < pw 1000) :
  Calls Tryz.prog 132 #[v0] w (R3Post w g0 n0 d0) := by
 obtain ⟨A0, L0, c0, A1, L1, c1, rfl, hn0, hd0⟩ := h0
 have HX0 := Aside0.mk hn0
 have HX1 := Aside0.mk hd0
 obtain ⟨W0, a0, a1, hW0, e0, e1, HK0, HK1, HW, HGE⟩ := box1 w (.bool g0) (.slice A0 L0 c0) (.slice A1 L1 c1) 27
 have HM1 := Aside0.mk (fun (W : World) (hW : Below W0.heap.size W0 W) => show Calls Tryz.prog 58 #[.slice A0 L0 c0] W (StepB W0 W n0) from (cloneN (HX0.out.below (HW.out.trans (hW.mono HW.out.size))) b0).mono fun _ _ h => step_b hW h)
 have HM2 := Aside0.mk (fun (W : World) (hW : Below W0.heap.size W0 W) => show Calls Tryz.prog 58 #[.slice A1 L1 c1] W (StepB W0 W d0) from (cloneN (HX1.out.below (HW.out.trans (hW.mono HW.out.size))) b1).mono fun _ _ h => step_b hW h)
 have HNE := Aside0.mk (show a1 ≠ a0 by omega)
 have HG0 := Aside0.mk (show w.heap.size ≤ a0 by omega)
 clear hn0 hd0 b0 b1
 go_enter Tryz.func132, Tryz.ntmps132
 go_wp2_with fail
 rw [← hW0, ← e1, ← e0]
 clear hW0 e0 e1
 obtain ⟨⟨hc0, hc1, hc2⟩, hf0, hf1, hf2⟩ := HK0.out
 go_region_with (first
  | (go_at_call 58; (with_reducible refine (HM1.out _ Z18).mono ?_); rintro e w1 ⟨v1, rfl, hN1, hB1, hT1⟩; obtain ⟨A2, L2, c2, rfl, hN1⟩ := Nu_open hN1; have HN1 := Aside0.mk hN1; have HB1 := Aside0.mk hB1; have HT1 := Aside0.mk hT1; clear hN1 hB1 hT1; clear hc0 hc1 hc2 hf0 hf1 hf2; obtain ⟨⟨hc0, hc1, hc2⟩, hf0, hf1, hf2⟩ := HK0.out.below HB1.out)
  | (go_at_call 58; (with_reducible refine (HM2.out _ Z18).mono ?_); rintro e w2 ⟨v2, rfl, hN2, hB2, hT2⟩; obtain ⟨A3, L3, c3, rfl, hN2⟩ := Nu_open hN2; have HN2 := Aside0.mk hN2; have HB2 := Aside0.mk hB2; have HT2 := Aside0.mk hT2; clear hN2 hB2 hT2; clear hc0 hc1 hc2 hf0 hf1 hf2; obtain ⟨⟨hc0, hc1, hc2⟩, hf0, hf1, hf2⟩ := HK0.out.below HB2.out))
 all_goals
  obtain ⟨⟨ho0, ho1, ho2⟩, hp0, hp1, hp2⟩ := HK1.out.below HB2.out
  have hne := HNE.out
  have HD := Aside0.mk (own_done (g := g0) HW.out HG0.out HGE.out HNE.out HK0.out HK1.out HB2.out (HT2.out _ _ HN1.out) HN2.out)
  go_wp2_with fail
  exact bodyPost_ret (v := .agg #[.bool g0, .slice A2 L2 c2, .slice A3 L3 c3]) (by simp [results, Tryz.results132, go_sem, *]) rfl (r3_postR HD.out)
theorem qabs_w {w : World} {v0 : Value} {g0 : Bool} {n0 d0 : Nat} (h0 : R3 w v0 g0 n0 d0) (b0 : n0 < pw 1000) (b1 : d0 < pw 1000) :
  Calls Tryz.prog 80 #[v0] w (R3Post w (false) n0 d0) := by
 obtain ⟨A0, L0, c0, A1, L1, c1, rfl, hn0, hd0⟩ := h0
 obtain ⟨W0, a0, a1, hW0, e0, e1, HK0, HK1, HW, HGE⟩ := box1 w (.bool g0) (.slice A0 L0 c0) (.slice A1 L1 c1) 27
 have HM := Aside0.mk (qown_w (w := W0) (v0 := .agg #[.bool g0, .slice A0 L0 c0, .slice A1 L1 c1]) ⟨A0, L0, c0, A1, L1, c1, rfl, hn0.below HW.out, hd0.below HW.out⟩ b0 b1)
 have HNE := Aside0.mk (show a1 ≠ a0 by omega)
 have HG0 := Aside0.mk (show w.heap.size ≤ a0 by omega)
 clear hn0 hd0 b0 b1
 go_enter Tryz.func80, Tryz.ntmps80
 obtain ⟨⟨hc0, hc1, hc2⟩, hf0, hf1, hf2⟩ := HK0.out
 rw [hW0, e0] at hc0 hc1 hc2
 go_wp2_with fail
 clear hc0 hc1 hc2 hf0 hf1 hf2
 rw [← hW0, ← e1, ← e0]
 clear hW0 e0 e1
 refine HM.out.mono ?_
 rintro e w1 ⟨v, rfl, ⟨A2, L2, c2, A3, L3, c3, rfl, h1, h2⟩, hB⟩
 obtain ⟨⟨hc0, hc1, hc2⟩, hf0, hf1, hf2⟩ := HK0.out.below hB
 obtain ⟨⟨ho0, ho1, ho2⟩, hp0, hp1, hp2⟩ := HK1.out.below hB
 have hne := HNE.out
 have HD := Aside0.mk (neg_done (g := false) (gx := g0) HW.out HG0.out HGE.out HNE.out HK0.out HK1.out hB h1 h2)
 clear h1 h2 hB
 go_wp2_with fail
 exact bodyPost_ret (v := .agg #[.bool false, .slice A2 L2 c2, .slice A3 L3 c3]) (by simp [results, Tryz.results80, go_sem, *]) rfl (r3_postR HD.out)
theorem qneg_w {w : World} {v0 : Value} {g0 : Bool} {n0 d0 : Nat} (h0 : R3 w v0 g0 n0 d0) (b0 : n0 < pw 1000) (b1 : d0 < pw 1000) :
  Calls Tryz.prog 136 #[v0] w (R3Post w (negB g0 n0) n0 d0) := by
 obtain ⟨A0, L0, c0, A1, L1, c1, rfl, hn0, hd0⟩ := h0
 obtain ⟨W0, a0, a1, hW0, e0, e1, HK0, HK1, HW, HGE⟩ := box1 w (.bool g0) (.slice A0 L0 c0) (.slice A1 L1 c1) 27
 have HM := Aside0.mk (qown_w (w := W0) (v0 := .agg #[.bool g0, .slice A0 L0 c0, .slice A1 L1 c1]) ⟨A0, L0, c0, A1, L1, c1, rfl, hn0.below HW.out, hd0.below HW.out⟩ b0 b1)
 have HNE := Aside0.mk (show a1 ≠ a0 by omega)
 have HG0 := Aside0.mk (show w.heap.size ≤ a0 by omega)
 clear hn0 hd0 b0 b1
 go_enter Tryz.func136, Tryz.ntmps136
 obtain ⟨⟨hc0, hc1, hc2⟩, hf0, hf1, hf2⟩ := HK0.out
 rw [hW0, e0] at hc0 hc1 hc2
 go_wp2_with fail
 clear hc0 hc1 hc2 hf0 hf1 hf2
 rw [← hW0, ← e1, ← e0]
 clear hW0 e0 e1
 refine HM.out.mono ?_
 rintro e w1 ⟨v, rfl, ⟨A2, L2, c2, A3, L3, c3, rfl, h1, h2⟩, hB⟩
 obtain ⟨⟨hc0, hc1, hc2⟩, hf0, hf1, hf2⟩ := HK0.out.below hB
 obtain ⟨⟨ho0, ho1, ho2⟩, hp0, hp1, hp2⟩ := HK1.out.below hB
 have hne := HNE.out
 have hl := Nu_len0 h1
 obtain ⟨g, hg⟩ : ∃ g, g = negB g0 n0 := ⟨_, rfl⟩
 have HD := Aside0.mk (neg_done (g := g) (gx := g0) HW.out HG0.out HGE.out HNE.out HK0.out HK1.out hB h1 h2)
 have HGG := Aside0.mk hg
 cases g0 with
 | true =>
  have hgv : g = false := by rw [hg]; rfl
  rw [hgv] at HD HGG
  clear hg hgv h1 h2 hB hl
  go_wp2_with fail
  exact bodyPost_ret (v := .agg #[.bool false, .slice A2 L2 c2, .slice A3 L3 c3]) (by simp [results, Tryz.results136, go_sem, *]) rfl (by rw [← HGG.out]; exact r3_postR HD.out)
 | false =>
  by_cases hz : n0 = 0
  ·have hL : L2 = 0 := hl.2 hz
   have hgv : g = false := by rw [hg, hz]; rfl
   rw [hgv] at HD HGG
   subst hL
   clear hg hgv h1 h2 hB hl hz
   go_wp2_with fail
   exact bodyPost_ret (v := .agg #[.bool false, .slice A2 0 c2, .slice A3 L3 c3]) (by simp [results, Tryz.results136, go_sem, *]) rfl (by rw [← HGG.out]; exact r3_postR HD.out)
  ·have hLp : 0 < L2 := Nat.pos_of_ne_zero fun h => hz (hl.1 h)
   have hgv : g = true := by rw [hg]; unfold negB; rw [decide_eq_true hz]; rfl
   rw [hgv] at HD HGG
   clear hg hgv h1 h2 hB hl hz
   go_wp2_with fail
   exact bodyPost_ret (v := .agg #[.bool true, .slice A2 L2 c2, .slice A3 L3 c3]) (by simp [results, Tryz.results136, go_sem, *]) rfl (by rw [← HGG.out]; exact r3_postR HD.out)
def SubPost3 (w : World) (g0 g1 : Bool) (n0 d0 n1 d1 : Nat) (e : Ending) (w' : World) : Prop := LowPost w (addNeg g0 (negB g1 n1) (n0 * d1) (n1 * d0)) (addNum g0 (negB g1 n1) (n0 * d1) (n1 * d0)) (d0 * d1) e w'
def AgB (W0 : World) (neg : Bool) (n d : Nat) (e : Ending) (w' : World) : Prop := ∃ (A : Option Addr) (L c : Nat) (A' : Option Addr) (L' c' : Nat), e = .returned (.agg #[.bool neg, .slice A L c, .slice A' L' c']) ∧ Aside0 (Nu w' (.slice A L c) n) ∧ Aside0 (Nu w' (.slice A' L' c') d) ∧ Aside0 (Below W0.heap.size W0 w')
theorem ag_b {W0 W : World} {neg : Bool} {n d : Nat} {e : Ending} {w' : World} (hW : Below W0.heap.size W0 W) (h : R3Post W neg n d e w') : AgB W0 neg n d e w' := by
 obtain ⟨v, he, ⟨A, L, c, A', L', c', rfl, h1, h2⟩, hB⟩ := h
 exact ⟨A, L, c, A', L', c', he, ⟨h1⟩, ⟨h2⟩, ⟨hW.trans (hB.mono hW.size)⟩⟩
theorem qsub_w {w : World} {v0 v1 : Value} {g0 g1 : Bool} {n0 d0 n1 d1 : Nat} (h0 : R3 w v0 g0 n0 d0) (h1 : R3 w v1 g1 n1 d1) (b0 : n0 < pw 400) (b1 : d0 < pw 400) (b2 : n1 < pw 400) (b3 : d1 < pw 400) (hd0 : d0 ≠ 0) (hd1 : d1 ≠ 0) :
  Calls Tryz.prog 84 #[v0, v1] w (SubPost3 w g0 g1 n0 d0 n1 d1) := by
 obtain ⟨A0, L0, c0, A1, L1, c1, rfl, hn0, hd0'⟩ := h0
 obtain ⟨A2, L2, c2, A3, L3, c3, rfl, hn1, hd1'⟩ := h1
 have HX0 := Aside0.mk hn0
 have HX1 := Aside0.mk hd0'
 have HX2 := Aside0.mk hn1
 have HX3 := Aside0.mk hd1'
 obtain ⟨W0, a0, a1, a2, hW0, e0, e1, e2, HK0, HK1, HK2, HW, HGE⟩ := boxes w (.bool g0) (.slice A0 L0 c0) (.slice A1 L1 c1) (.bool g1) (.slice A2 L2 c2) (.slice A3 L3 c3) 27
 obtain ⟨gn, hgn⟩ : ∃ b, b = negB g1 n1 := ⟨_, rfl⟩
 have HGN := Aside0.mk hgn
 have HM1 := Aside0.mk (fun (W : World) (hW : Below W0.heap.size W0 W) => show Calls Tryz.prog 136 #[.agg #[.bool g1, .slice A2 L2 c2, .slice A3 L3 c3]] W (AgB W0 gn n1 d1) from (qneg_w (w := W) (v0 := .agg #[.bool g1, .slice A2 L2 c2, .slice A3 L3 c3]) ⟨A2, L2, c2, A3, L3, c3, rfl, HX2.out.below (HW.out.trans (hW.mono HW.out.size)), HX3.out.below (HW.out.trans (hW.mono HW.out.size))⟩ (pw_lt1000 b2 (by omega)) (pw_lt1000 b3 (by omega))).mono fun _ _ h => ag_b hW (by rw [← hgn] at h; exact h))
 have HM2 := Aside0.mk (fun (W : World) (A L c A' L' c') (hW : Below W0.heap.size W0 W) (k1 : Nu W (.slice A L c) n1) (k2 : Nu W (.slice A' L' c') d1) => show Calls Tryz.prog 87 #[.agg #[.bool g0, .slice A0 L0 c0, .slice A1 L1 c1], .agg #[.bool gn, .slice A L c, .slice A' L' c']] W (LowB W0 (addNeg g0 gn (n0 * d1) (n1 * d0)) (addNum g0 gn (n0 * d1) (n1 * d0)) (d0 * d1)) from (qadd_w (w := W) ⟨A0, L0, c0, A1, L1, c1, rfl, HX0.out.below (HW.out.trans (hW.mono HW.out.size)), HX1.out.below (HW.out.trans (hW.mono HW.out.size))⟩ ⟨A, L, c, A', L', c', rfl, k1, k2⟩ b0 b1 b2 b3 hd0 hd1).mono fun _ _ h => low_b hW h)
 have HS := Aside0.mk (fun (W : World) (hW : Below W0.heap.size W0 W) => show W.cell? ⟨a0, 0, none⟩ = some (.bool g0) ∧ W.cell? ⟨a0, 1, none⟩ = some (.slice A0 L0 c0) ∧ W.cell? ⟨a0, 2, none⟩ = some (.slice A1 L1 c1) ∧ W.cell? ⟨a1, 0, none⟩ = some (.bool g1) ∧ W.cell? ⟨a1, 1, none⟩ = some (.slice A2 L2 c2) ∧ W.cell? ⟨a1, 2, none⟩ = some (.slice A3 L3 c3) from
  ⟨(HK0.out.below hW).1.1, (HK0.out.below hW).1.2.1, (HK0.out.below hW).1.2.2, (HK1.out.below hW).1.1, (HK1.out.below hW).1.2.1, (HK1.out.below hW).1.2.2⟩)
 obtain ⟨sn, hsn⟩ : ∃ b, b = addNeg g0 gn (n0 * d1) (n1 * d0) := ⟨_, rfl⟩
 obtain ⟨N, hN⟩ : ∃ b, b = addNum g0 gn (n0 * d1) (n1 * d0) := ⟨_, rfl⟩
 obtain ⟨D, hD⟩ : ∃ b, b = d0 * d1 := ⟨_, rfl⟩
 have HE := Aside0.mk (show ∀ e w', LowPost w sn N D e w' → SubPost3 w g0 g1 n0 d0 n1 d1 e w' from fun e w' h => by unfold SubPost3; rw [← hgn, ← hsn, ← hN, ← hD]; exact h)
 rw [← hsn, ← hN, ← hD] at HM2
 have HNE0 := Aside0.mk (show a2 ≠ a0 by omega)
 have HNE1 := Aside0.mk (show a2 ≠ a1 by omega)
 clear hn0 hn1 hd0' hd1' hsn hN hD hgn b0 b1 b2 b3 hd0 hd1
 go_enter Tryz.func84, Tryz.ntmps84
 go_wp2_with fail
 rw [← hW0, ← e2, ← e1, ← e0]
 clear hW0 e0 e1 e2
 go_region_held3 (fun W => W.cell? ⟨a0, 0, none⟩ = some (.bool g0) ∧ W.cell? ⟨a0, 1, none⟩ = some (.slice A0 L0 c0) ∧ W.cell? ⟨a0, 2, none⟩ = some (.slice A1 L1 c1) ∧ W.cell? ⟨a1, 0, none⟩ = some (.bool g1) ∧ W.cell? ⟨a1, 1, none⟩ = some (.slice A2 L2 c2) ∧ W.cell? ⟨a1, 2, none⟩ = some (.slice A3 L3 c3)) (first | exact HS.out _ (Below.drew (Below.refl _ _)) | exact HS.out _ HB5.out | exact HS.out _ HB1.out | exact HS.out _ (Below.refl _ _) | (obtain ⟨k0, k1, k2, k3, k4, k5⟩ := HS.out _ HB5.out; exact ⟨cell_far3 HNE0.out k0, cell_far3 HNE0.out k1, cell_far3 HNE0.out k2, cell_far3 HNE1.out k3, cell_far3 HNE1.out k4, cell_far3 HNE1.out k5⟩))
  (first
   | (go_at_call 136; (with_reducible refine (HM1.out _ (by with_reducible repeat (first | exact Below.refl _ _ | exact HB5.out | exact HB1.out | refine Below.drew ?_))).mono ?_); rintro e w1 ⟨B1, M1, e1, B2, M2, e2, rfl, HN1, HN2, HB1⟩)
   | (go_at_call 87; (with_reducible refine (HM2.out _ _ _ _ _ _ _ (by with_reducible repeat (first | exact Below.refl _ _ | exact HB5.out | exact HB1.out | refine Below.drew ?_)) (by first | exact HN1.out | exact Nu_drew' HN1.out) (by first | exact HN2.out | exact Nu_drew' HN2.out)).mono ?_); rintro e w5 ⟨b, A, L, c, A', L', c', rfl, HBE, HNA, HNB, HB5⟩; obtain ⟨⟨hc0, hc1, hc2⟩, hf0, hf1, hf2⟩ := HK2.out.below HB5.out))
 go_wp2_with fail
 exact bodyPost_ret (v := .agg #[.bool b, .slice A L c, .slice A' L' c']) (by simp [results, Tryz.results84, go_sem, *]) rfl (HE.out _ _ (low_done HW.out HGE.out HBE.out HNA.out HNB.out HB5.out HK2.out))
def mkN (g : Bool) (n : Nat) : Bool := g && decide (n ≠ 0)
def mkZ (n : Nat) : Bool := decide (n = 0)
def MarkPost (w : World) (a b : Bool) (e : Ending) (w' : World) : Prop := e = .returned (.agg #[.bool a, .bool b]) ∧ Below w.heap.size w w'
def cmpS (m0 z0 m1 z1 : Bool) (c : Int) : Int := if m0 == m1 && z0 == z1 then (if m0 then -c else c) else if m0 || (z0 && !m1) then -1 else 1
def CmpPost (w : World) (g0 : Bool) (n0 d0 : Nat) (g1 : Bool) (n1 d1 : Nat) (e : Ending) (w' : World) : Prop := IntPost w (cmpS (mkN g0 n0) (mkZ n0) (mkN g1 n1) (mkZ n1) (cmpZ (n0 * d1) (n1 * d0))) e w'
theorem cmp_end {w w' : World} {g0 g1 m0 z0 m1 z1 : Bool} {n0 d0 n1 d1 : Nat} {k : Int} (hF : m0 = mkN g0 n0 ∧ z0 = mkZ n0 ∧ m1 = mkN g1 n1 ∧ z1 = mkZ n1) (hk : ∀ c, c = cmpZ (n0 * d1) (n1 * d0) → k = cmpS m0 z0 m1 z1 c) (hB : Below w.heap.size w w') : CmpPost w g0 n0 d0 g1 n1 d1 (.returned (.int .i64 k)) w' := by
 obtain ⟨h0, h1, h2, h3⟩ := hF
 refine ⟨?_, hB⟩
 rw [hk _ rfl, h0, h1, h2, h3]
theorem cmpZ_bd (x y : Nat) : -1 ≤ cmpZ x y ∧ cmpZ x y ≤ 1 := by
 unfold cmpZ
 split
 ·decide
 ·split <;> decide
theorem cell_same {w : World} {a : Addr} {v : Value} (h : (w.cell? a).isSome = true) : (w.setCell a v).cell? a = some v := by
 obtain ⟨u, hu⟩ := Option.isSome_iff_exists.1 h
 rw [World.cell?_setCell_same (h := hu)]
theorem cell_oth {w : World} {a b : Addr} {v : Value} (h : a ≠ b) : (w.setCell a v).cell? b = w.cell? b := by rw [World.cell?_setCell_other (h := h)]
theorem heap_drew' (w : World) : w.drew.heap = w.heap := rfl
def OfB (W0 W : World) (m z : Bool) (e : Ending) (w' : World) : Prop := e = .returned (.agg #[.bool m, .bool z]) ∧ Aside0 (Below W0.heap.size W0 w') ∧ (∀ b o, b < W.heap.size → w'.cell? ⟨b, o, none⟩ = W.cell? ⟨b, o, none⟩) ∧ (∀ b o, b < W.heap.size → w'.frozen? ⟨b, o, none⟩ = W.frozen? ⟨b, o, none⟩) ∧ W.heap.size ≤ w'.heap.size
theorem of_b {W0 W : World} {m z : Bool} {e : Ending} {w' : World} (hW : Below W0.heap.size W0 W) (h : MarkPost W m z e w') : OfB W0 W m z e w' :=
 ⟨h.1, ⟨hW.trans (h.2.mono hW.size)⟩, fun b o hb => h.2.cell (p := ⟨b, o, none⟩) hb, fun b o hb => h.2.frozen (p := ⟨b, o, none⟩) hb, h.2.size⟩
theorem boxes2 (w : World) (x0 x1 x2 y0 y1 y2 : Value) (t : TypeId) : ∃ (W0 : World) (a0 a1 : Nat), W0 = (w.alloc (.cells #[x0, x1, x2] t)).alloc (.cells #[y0, y1, y2] t) ∧ a0 = w.heap.size ∧ a1 = w.heap.size + 1 ∧
  Aside0 (Blk W0 a0 x0 x1 x2) ∧ Aside0 (Blk W0 a1 y0 y1 y2) ∧ Aside0 (Below w.heap.size w W0) := by
 refine ⟨_, _, _, rfl, rfl, rfl, ⟨?_⟩, ⟨?_⟩, ⟨?_⟩⟩
 ·exact (Blk_alloc w x0 x1 x2 t).below (below_alloc (Below.refl _ _) _)
 ·have h := Blk_alloc (w.alloc (.cells #[x0, x1, x2] t)) y0 y1 y2 t
  rwa [World.size_alloc] at h
 ·exact below_alloc (below_alloc (Below.refl w.heap.size w) _) _
theorem qof_mark {w : World} {v0 : Value} {g0 : Bool} {n0 d0 : Nat} (h0 : R3 w v0 g0 n0 d0) : Calls Tryz.prog 91 #[v0] w (MarkPost w (mkN g0 n0) (mkZ n0)) := by
 obtain ⟨A0, L0, c0, A1, L1, c1, rfl, hn0, hd0⟩ := h0
 have hl := Nu_len0 hn0
 by_cases hz : n0 = 0
 ·have hL : L0 = 0 := hl.2 hz
  subst hz hL
  clear hl hn0 hd0
  rw [show mkN g0 0 = false by unfold mkN; simp, show mkZ 0 = true from rfl]
  cases g0 with
  | true =>
   go_enter Tryz.func91, Tryz.ntmps91
   go_wp2_with fail
   exact Z56
  | false =>
   go_enter Tryz.func91, Tryz.ntmps91
   go_wp2_with fail
   exact Z56
 ·have hLp : 0 < L0 := Nat.pos_of_ne_zero fun h => hz (hl.1 h)
  have hb1 : ((L0 : Int) == 0) = false := by rw [beq_eq_false_iff_ne]; omega
  have hb2 : (L0 == 0) = false := by rw [beq_eq_false_iff_ne]; omega
  rw [show mkN g0 n0 = g0 by unfold mkN; rw [decide_eq_true hz, Bool.and_true], show mkZ n0 = false from decide_eq_false hz]
  clear hl hn0 hd0 hz
  cases g0 with
  | true =>
   go_enter Tryz.func91, Tryz.ntmps91
   go_wp2_with fail
   exact bodyPost_ret (v := .agg #[.bool true, .bool false]) Z46 rfl ⟨rfl, by first | exact below_alloc (below_alloc (Below.refl _ _) _) _ | exact G.below_set (G.below_set (below_alloc (below_alloc (Below.refl _ _) _) _) Z33 0 _) Z33 1 _⟩
  | false =>
   go_enter Tryz.func91, Tryz.ntmps91
   go_wp2_with fail
   exact bodyPost_ret (v := .agg #[.bool false, .bool false]) Z46 rfl ⟨rfl, by first | exact below_alloc (below_alloc (Below.refl _ _) _) _ | exact G.below_set (G.below_set (below_alloc (below_alloc (Below.refl _ _) _) _) Z33 0 _) Z33 1 _⟩
theorem qcmp_w {w : World} {v0 v1 : Value} {g0 g1 : Bool} {n0 d0 n1 d1 : Nat} (h0 : R3 w v0 g0 n0 d0) (h1 : R3 w v1 g1 n1 d1) (b0 : n0 < pw 400) (b1 : d0 < pw 400) (b2 : n1 < pw 400) (b3 : d1 < pw 400) :
  Calls Tryz.prog 44 #[v0, v1] w (CmpPost w g0 n0 d0 g1 n1 d1) := by
 obtain ⟨A0, L0, c0, A1, L1, c1, rfl, hn0, hd0'⟩ := h0
 obtain ⟨A2, L2, c2, A3, L3, c3, rfl, hn1, hd1'⟩ := h1
 have HX0 := Aside0.mk hn0
 have HX1 := Aside0.mk hd0'
 have HX2 := Aside0.mk hn1
 have HX3 := Aside0.mk hd1'
 obtain ⟨W0, a0, a1, hW0, e0, e1, HK0, HK1, HW⟩ := boxes2 w (.bool g0) (.slice A0 L0 c0) (.slice A1 L1 c1) (.bool g1) (.slice A2 L2 c2) (.slice A3 L3 c3) 27
 have HS := Aside0.mk (fun (W : World) (hW : Below W0.heap.size W0 W) => show W.cell? ⟨a0, 0, none⟩ = some (.bool g0) ∧ W.cell? ⟨a0, 1, none⟩ = some (.slice A0 L0 c0) ∧ W.cell? ⟨a0, 2, none⟩ = some (.slice A1 L1 c1) ∧ W.cell? ⟨a1, 0, none⟩ = some (.bool g1) ∧ W.cell? ⟨a1, 1, none⟩ = some (.slice A2 L2 c2) ∧ W.cell? ⟨a1, 2, none⟩ = some (.slice A3 L3 c3) from
  ⟨(HK0.out.below hW).1.1, (HK0.out.below hW).1.2.1, (HK0.out.below hW).1.2.2, (HK1.out.below hW).1.1, (HK1.out.below hW).1.2.1, (HK1.out.below hW).1.2.2⟩)
 have HM1 := Aside0.mk (fun (W : World) (hW : Below W0.heap.size W0 W) => show Calls Tryz.prog 91 #[.agg #[.bool g0, .slice A0 L0 c0, .slice A1 L1 c1]] W (OfB W0 W (mkN g0 n0) (mkZ n0)) from (qof_mark (w := W) (v0 := .agg #[.bool g0, .slice A0 L0 c0, .slice A1 L1 c1]) ⟨A0, L0, c0, A1, L1, c1, rfl, HX0.out.below (HW.out.trans (hW.mono HW.out.size)), HX1.out.below (HW.out.trans (hW.mono HW.out.size))⟩).mono fun _ _ h => of_b hW h)
 have HM2 := Aside0.mk (fun (W : World) (hW : Below W0.heap.size W0 W) => show Calls Tryz.prog 91 #[.agg #[.bool g1, .slice A2 L2 c2, .slice A3 L3 c3]] W (OfB W0 W (mkN g1 n1) (mkZ n1)) from (qof_mark (w := W) (v0 := .agg #[.bool g1, .slice A2 L2 c2, .slice A3 L3 c3]) ⟨A2, L2, c2, A3, L3, c3, rfl, HX2.out.below (HW.out.trans (hW.mono HW.out.size)), HX3.out.below (HW.out.trans (hW.mono HW.out.size))⟩).mono fun _ _ h => of_b hW h)
 clear hn0 hn1 hd0' hd1'
 go_enter Tryz.func44, Tryz.ntmps44
 go_upto_region 1 with fail
 rw [← hW0, ← e1, ← e0]
 clear hW0 e0 e1
 obtain ⟨m0, hm0⟩ : ∃ b, b = mkN g0 n0 := ⟨_, rfl⟩
 obtain ⟨z0, hz0⟩ : ∃ b, b = mkZ n0 := ⟨_, rfl⟩
 obtain ⟨m1, hm1⟩ : ∃ b, b = mkN g1 n1 := ⟨_, rfl⟩
 obtain ⟨z1, hz1⟩ : ∃ b, b = mkZ n1 := ⟨_, rfl⟩
 rw [← hm0, ← hz0] at HM1
 rw [← hm1, ← hz1] at HM2
 have HE := Aside0.mk (And.intro hm0 (And.intro hz0 (And.intro hm1 hz1)))
 clear hm0 hz0 hm1 hz1
 go_cut [5, 6] (fun s5 s6 wx => ∃ p q : Nat, s5 = .pointer (some ⟨p, 0, none⟩) ∧ s6 = .pointer (some ⟨q, 0, none⟩) ∧ (wx.cell? ⟨p, 0, none⟩ = some (.bool m0) ∧ wx.cell? ⟨p, 1, none⟩ = some (.bool z0)) ∧ (wx.cell? ⟨q, 0, none⟩ = some (.bool m1) ∧ wx.cell? ⟨q, 1, none⟩ = some (.bool z1)) ∧ Aside0 (Below W0.heap.size W0 wx))
 case first =>
  go_region_held3 (fun W => W.cell? ⟨a0, 0, none⟩ = some (.bool g0) ∧ W.cell? ⟨a0, 1, none⟩ = some (.slice A0 L0 c0) ∧ W.cell? ⟨a0, 2, none⟩ = some (.slice A1 L1 c1) ∧ W.cell? ⟨a1, 0, none⟩ = some (.bool g1) ∧ W.cell? ⟨a1, 1, none⟩ = some (.slice A2 L2 c2) ∧ W.cell? ⟨a1, 2, none⟩ = some (.slice A3 L3 c3)) (first | exact HS.out _ Z30)
   (first
    | (go_at_call 91; (with_reducible refine (HM1.out _ Z30).mono ?_); rintro e w1 ⟨rfl, HB1, hcc1, hff1, hz1⟩; (try simp only [World.size_alloc, heap_drew'] at hcc1 hff1 hz1); (try simp only [heap_drew'] at hcc1 hff1 hz1); (try have f10 : W0.heap.size < w1.heap.size := by omega); (try have f11 : W0.heap.size + 1 < w1.heap.size := by omega); (try have f12 : W0.heap.size ≤ w1.heap.size := by omega); (try have f13 : W0.heap.size + 1 ≤ w1.heap.size := by omega))
    | (go_at_call 91; (with_reducible refine (HM2.out _ Z30).mono ?_); rintro e w2 ⟨rfl, HB2, hcc2, hff2, hz2⟩; (try simp only [World.size_alloc] at hcc2 hff2 hz2); (try simp only [heap_drew'] at hcc2 hff2 hz2); (try have f20 : W0.heap.size < w2.heap.size := by omega); (try have f21 : W0.heap.size + 1 < w2.heap.size := by omega); (try have f22 : w1.heap.size < w2.heap.size := by omega); (try have f23 : w1.heap.size + 1 < w2.heap.size := by omega); (try have f24 : W0.heap.size < w1.heap.size + 1 := by omega); (try have f25 : W0.heap.size < w1.heap.size + 1 + 1 := by omega); (try have f26 : W0.heap.size + 1 < w1.heap.size + 1 := by omega)))
  all_goals (go_wp2_with fail; go_meet; refine ⟨_, _, rfl, rfl, ⟨?_, ?_⟩, ⟨?_, ?_⟩, ⟨by with_reducible repeat (first | exact Below.refl _ _ | exact HB2.out | exact HB1.out | refine Below.drew ?_ | refine below_alloc ?_ _ | refine G.below_set ?_ (by omega) _ _)⟩⟩ <;> (first | (simp [go_sem, *]; done) | (try simp [go_sem, *]); refine cell_same ?_; (repeat rw [cell_oth (by first | (intro h; simp at h; done) | (intro h; simp at h; omega))]); (first | (simp [go_sem, *]; done) | (rw [hcc2 _ _ (by omega)]; simp [go_sem, *]; done) | (rw [hcc2 _ _ (by omega), hcc1 _ _ (by omega)]; simp [go_sem, *]; done))))
 case rest =>
  obtain ⟨p, q, rfl, rfl, ⟨hp0, hp1⟩, ⟨hq0, hq1⟩, HB⟩ := hcut
  clear HM1 HM2
  have hP := HE.out
  have HF : Aside0 (m0 = mkN g0 n0 ∧ z0 = mkZ n0 ∧ m1 = mkN g1 n1 ∧ z1 = mkZ n1) := HE
  clear hP HE
  have HBW := tT HW HB.out
  by_cases hq : m0 = m1 ∧ z0 = z1
  ·obtain ⟨hq1', hq2'⟩ := hq
   subst hq1' hq2'
   have HSW := Aside0.mk (fun (W : World) (hW : Below wc.heap.size wc W) => HS.out W (HB.out.trans (hW.mono HB.out.size)))
   have HM3 := Aside0.mk (fun (W : World) (hW : Below wc.heap.size wc W) => show Calls Tryz.prog 92 #[.slice A0 L0 c0, .slice A3 L3 c3] W (StepB wc W (n0 * d1)) from (mulN (HX0.out.below (HBW.out.trans (hW.mono HBW.out.size))) (HX3.out.below (HBW.out.trans (hW.mono HBW.out.size))) (pw_lt1000 b0 (by omega)) (pw_lt1000 b3 (by omega))).mono fun _ _ h => step_b hW h)
   have HM4 := Aside0.mk (fun (W : World) (hW : Below wc.heap.size wc W) => show Calls Tryz.prog 92 #[.slice A2 L2 c2, .slice A1 L1 c1] W (StepB wc W (n1 * d0)) from (mulN (HX2.out.below (HBW.out.trans (hW.mono HBW.out.size))) (HX1.out.below (HBW.out.trans (hW.mono HBW.out.size))) (pw_lt1000 b2 (by omega)) (pw_lt1000 b1 (by omega))).mono fun _ _ h => step_b hW h)
   have bX : n0 * d1 < pw 1000 := Nat.lt_of_lt_of_le (pw_mulb b0 b3) (pw_le (by omega))
   have bY : n1 * d0 < pw 1000 := Nat.lt_of_lt_of_le (pw_mulb b2 b1) (pw_le (by omega))
   obtain ⟨c, hc⟩ : ∃ c, c = cmpZ (n0 * d1) (n1 * d0) := ⟨_, rfl⟩
   have hcb := cmpZ_bd (n0 * d1) (n1 * d0)
   rw [← hc] at hcb
   have hcl := hcb.1
   have hch := hcb.2
   clear hcb
   have HM5 := Aside0.mk (fun (W : World) (u1 u2 : Value) (hW : Below wc.heap.size wc W) (k1 : Nu W u1 (n0 * d1)) (k2 : Nu W u2 (n1 * d0)) => show Calls Tryz.prog 27 #[u1, u2] W (fun e w' => e = .returned (.int .i64 c) ∧ Aside0 (Below wc.heap.size wc w')) from (cmpN k1 k2 bX bY).mono fun _ _ h => ⟨by rw [hc]; exact h.1, ⟨hW.trans (h.2.mono hW.size)⟩⟩)
   have HC := Aside0.mk hc
   have hpl := cell_lt hp0
   have HPK := Aside0.mk (fun (W : World) (hW : Below wc.heap.size wc W) => show W.cell? ⟨p, 0, none⟩ = some (.bool m0) from by rw [hW.cell (p := ⟨p, 0, none⟩) hpl]; exact hp0)
   clear hc bX bY b0 b1 b2 b3 hpl
   have hcs : ∀ k, k = (if m0 then -c else c) → ∀ c', c' = cmpZ (n0 * d1) (n1 * d0) → k = cmpS m0 z0 m0 z0 c' := fun k hk c' hc' => by
    rw [hk, hc', ← HC.out]
    unfold cmpS
    rw [beq_self_eq_true, beq_self_eq_true]
    rfl
   have HCS := Aside0.mk hcs
   clear hcs
   cases m0 with
   | true =>
    cases z0 with
    | true =>
     go_wp2_with fail
     go_region_held3 (fun W => W.cell? ⟨a0, 0, none⟩ = some (.bool g0) ∧ W.cell? ⟨a0, 1, none⟩ = some (.slice A0 L0 c0) ∧ W.cell? ⟨a0, 2, none⟩ = some (.slice A1 L1 c1) ∧ W.cell? ⟨a1, 0, none⟩ = some (.bool g1) ∧ W.cell? ⟨a1, 1, none⟩ = some (.slice A2 L2 c2) ∧ W.cell? ⟨a1, 2, none⟩ = some (.slice A3 L3 c3)) (first | exact HSW.out _ Z7)
      (first
       | (go_at_call 92; (with_reducible refine (HM3.out _ Z7).mono ?_); rintro e w3 ⟨v3, rfl, hN3, hB3, hT3⟩; have HN3 := Aside0.mk hN3; have HB3 := Aside0.mk hB3; have HT3 := Aside0.mk hT3; clear hN3 hB3 hT3)
       | (go_at_call 92; (with_reducible refine (HM4.out _ Z7).mono ?_); rintro e w4 ⟨v4, rfl, hN4, hB4, hT4⟩; have HN4 := Aside0.mk hN4; have HB4 := Aside0.mk hB4; have HT4 := Aside0.mk hT4; clear hN4 hB4 hT4)
       | (go_at_call 27; (with_reducible refine (HM5.out _ _ _ Z7 (by with_reducible repeat (first | exact HN3.out | exact HN4.out | refine HT4.out _ _ ?_ | refine HT3.out _ _ ?_ | refine Nu_drew' ?_)) (by with_reducible repeat (first | exact HN3.out | exact HN4.out | refine HT4.out _ _ ?_ | refine HT3.out _ _ ?_ | refine Nu_drew' ?_))).mono ?_); rintro e w5 ⟨rfl, HB5⟩))
     have hpk := HPK.out _ HB5.out
     clear hp0 hp1 hq0 hq1
     go_wp2_with fail
     go_ret
     exact Z58
    | false =>
     go_wp2_with fail
     go_region_held3 (fun W => W.cell? ⟨a0, 0, none⟩ = some (.bool g0) ∧ W.cell? ⟨a0, 1, none⟩ = some (.slice A0 L0 c0) ∧ W.cell? ⟨a0, 2, none⟩ = some (.slice A1 L1 c1) ∧ W.cell? ⟨a1, 0, none⟩ = some (.bool g1) ∧ W.cell? ⟨a1, 1, none⟩ = some (.slice A2 L2 c2) ∧ W.cell? ⟨a1, 2, none⟩ = some (.slice A3 L3 c3)) (first | exact HSW.out _ Z7)
      (first
       | (go_at_call 92; (with_reducible refine (HM3.out _ Z7).mono ?_); rintro e w3 ⟨v3, rfl, hN3, hB3, hT3⟩; have HN3 := Aside0.mk hN3; have HB3 := Aside0.mk hB3; have HT3 := Aside0.mk hT3; clear hN3 hB3 hT3)
       | (go_at_call 92; (with_reducible refine (HM4.out _ Z7).mono ?_); rintro e w4 ⟨v4, rfl, hN4, hB4, hT4⟩; have HN4 := Aside0.mk hN4; have HB4 := Aside0.mk hB4; have HT4 := Aside0.mk hT4; clear hN4 hB4 hT4)
       | (go_at_call 27; (with_reducible refine (HM5.out _ _ _ Z7 (by with_reducible repeat (first | exact HN3.out | exact HN4.out | refine HT4.out _ _ ?_ | refine HT3.out _ _ ?_ | refine Nu_drew' ?_)) (by with_reducible repeat (first | exact HN3.out | exact HN4.out | refine HT4.out _ _ ?_ | refine HT3.out _ _ ?_ | refine Nu_drew' ?_))).mono ?_); rintro e w5 ⟨rfl, HB5⟩))
     have hpk := HPK.out _ HB5.out
     clear hp0 hp1 hq0 hq1
     go_wp2_with fail
     go_ret
     exact Z58
   | false =>
    cases z0 with
    | true =>
     go_wp2_with fail
     go_region_held3 (fun W => W.cell? ⟨a0, 0, none⟩ = some (.bool g0) ∧ W.cell? ⟨a0, 1, none⟩ = some (.slice A0 L0 c0) ∧ W.cell? ⟨a0, 2, none⟩ = some (.slice A1 L1 c1) ∧ W.cell? ⟨a1, 0, none⟩ = some (.bool g1) ∧ W.cell? ⟨a1, 1, none⟩ = some (.slice A2 L2 c2) ∧ W.cell? ⟨a1, 2, none⟩ = some (.slice A3 L3 c3)) (first | exact HSW.out _ Z7)
      (first
       | (go_at_call 92; (with_reducible refine (HM3.out _ Z7).mono ?_); rintro e w3 ⟨v3, rfl, hN3, hB3, hT3⟩; have HN3 := Aside0.mk hN3; have HB3 := Aside0.mk hB3; have HT3 := Aside0.mk hT3; clear hN3 hB3 hT3)
       | (go_at_call 92; (with_reducible refine (HM4.out _ Z7).mono ?_); rintro e w4 ⟨v4, rfl, hN4, hB4, hT4⟩; have HN4 := Aside0.mk hN4; have HB4 := Aside0.mk hB4; have HT4 := Aside0.mk hT4; clear hN4 hB4 hT4)
       | (go_at_call 27; (with_reducible refine (HM5.out _ _ _ Z7 (by with_reducible repeat (first | exact HN3.out | exact HN4.out | refine HT4.out _ _ ?_ | refine HT3.out _ _ ?_ | refine Nu_drew' ?_)) (by with_reducible repeat (first | exact HN3.out | exact HN4.out | refine HT4.out _ _ ?_ | refine HT3.out _ _ ?_ | refine Nu_drew' ?_))).mono ?_); rintro e w5 ⟨rfl, HB5⟩))
     have hpk := HPK.out _ HB5.out
     clear hp0 hp1 hq0 hq1
     go_wp2_with fail
     go_ret
     exact Z58
    | false =>
     go_wp2_with fail
     go_region_held3 (fun W => W.cell? ⟨a0, 0, none⟩ = some (.bool g0) ∧ W.cell? ⟨a0, 1, none⟩ = some (.slice A0 L0 c0) ∧ W.cell? ⟨a0, 2, none⟩ = some (.slice A1 L1 c1) ∧ W.cell? ⟨a1, 0, none⟩ = some (.bool g1) ∧ W.cell? ⟨a1, 1, none⟩ = some (.slice A2 L2 c2) ∧ W.cell? ⟨a1, 2, none⟩ = some (.slice A3 L3 c3)) (first | exact HSW.out _ Z7)
      (first
       | (go_at_call 92; (with_reducible refine (HM3.out _ Z7).mono ?_); rintro e w3 ⟨v3, rfl, hN3, hB3, hT3⟩; have HN3 := Aside0.mk hN3; have HB3 := Aside0.mk hB3; have HT3 := Aside0.mk hT3; clear hN3 hB3 hT3)
       | (go_at_call 92; (with_reducible refine (HM4.out _ Z7).mono ?_); rintro e w4 ⟨v4, rfl, hN4, hB4, hT4⟩; have HN4 := Aside0.mk hN4; have HB4 := Aside0.mk hB4; have HT4 := Aside0.mk hT4; clear hN4 hB4 hT4)
       | (go_at_call 27; (with_reducible refine (HM5.out _ _ _ Z7 (by with_reducible repeat (first | exact HN3.out | exact HN4.out | refine HT4.out _ _ ?_ | refine HT3.out _ _ ?_ | refine Nu_drew' ?_)) (by with_reducible repeat (first | exact HN3.out | exact HN4.out | refine HT4.out _ _ ?_ | refine HT3.out _ _ ?_ | refine Nu_drew' ?_))).mono ?_); rintro e w5 ⟨rfl, HB5⟩))
     have hpk := HPK.out _ HB5.out
     clear hp0 hp1 hq0 hq1
     go_wp2_with fail
     go_ret
     exact Z58
  ·have HQ := Aside0.mk hq
   clear b0 b1 b2 b3
   cases m0 <;> cases z0 <;> cases m1 <;> cases z1 <;> first
    | (exact absurd ⟨rfl, rfl⟩ HQ.out)
    | (clear hq; go_wp2_with fail; go_ret; exact cmp_end HF.out (fun _ _ => rfl) HBW.out)
end Go.Proofs.YtpegcppeobndcaaGreatDoor.G
