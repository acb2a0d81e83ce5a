/- The contract of Gcd. -/
import Derived.Test.YtklhpobphloehaaDoorG18
set_option linter.unusedVariables false
namespace Go.Proofs.YtklhpobphloehaaDoor.G
open Go.RowKit Go.Proofs.YtklhpobphloehaaDoorW.PrintWords Go.Proofs.YtklhpobphloehaaDoorW.PrintLast Go.Proofs.YtklhpobphloehaaDoor.Nn

theorem cutN {w : World} {A : Option Addr} {c n : Nat} (h : Nu w (.slice A (digs n).length c) n) (bn : n < pw 1000) : Calls Tryd.prog 86 #[.slice A (digs n).length c] w (NuPost w n) := by
  obtain ⟨A0, c0, e, h0, C0⟩ := h
  cases e
  exact (cut_w A c (digs n) w C0 h0 (by have := small_len bn; omega)).mono (fun e w' ⟨v, he, hR, hB⟩ => by
    rw [strip_eq (lim_digs n), val_digs] at hR
    exact ⟨v, he, Nu_of_RU hR, hB⟩)
theorem gcd_step (a b : Nat) : Nat.gcd b (a % b) = Nat.gcd a b := by rw [Nat.gcd_comm b, ← Nat.gcd_rec, Nat.gcd_comm]
set_option maxHeartbeats 4000000 in
set_option maxRecDepth 100000 in
theorem gcdN {w : World} {vx vy : Value} {x y : Nat} (hx : Nu w vx x) (hy : Nu w vy y) (bx : x < pw 1000) (by_ : y < pw 1000) : Calls Tryd.prog 53 #[vx, vy] w (NuPost w (Nat.gcd x y)) := by
  obtain ⟨A0, c0, rfl, h0, C0⟩ := hx
  obtain ⟨A1, c1, rfl, h1, C1⟩ := hy
  have BX := Aside0.mk bx
  have BY := Aside0.mk by_
  have HCA := Aside0.mk (cutN ⟨A0, c0, rfl, h0, C0⟩ bx)
  have HN1 := Aside0.mk (show Nu w (.slice A1 (digs y).length c1) y from ⟨A1, c1, rfl, h1, C1⟩)
  clear h0 h1 C0 C1 bx by_
  go_enter Tryd.func53, Tryd.ntmps53
  go_wp2_with fail
  refine HCA.out.mono ?_
  rintro e w1 ⟨va, rfl, hNa, hB1⟩
  have HB1 := Aside0.mk hB1
  have HNA := Aside0.mk hNa
  have HCB := Aside0.mk (cutN (HN1.out.below hB1) BY.out)
  clear hNa hB1
  go_wp2_with fail
  refine HCB.out.mono ?_
  rintro e w2 ⟨vb, rfl, hNb, hB2⟩
  have HB2 := Aside0.mk (HB1.out.trans (hB2.mono HB1.out.size))
  have HNA2 := Aside0.mk (HNA.out.below hB2)
  have HNB2 := Aside0.mk hNb
  clear hNb hB2
  go_wp2_with fail
  go_loopg [0, 1] y (fun b va vb wr => ∃ (a : Nat) (A : Option Addr) (c : Nat), vb = .slice A (digs b).length c ∧ Aside0 (Nu wr va a ∧ Nu wr (.slice A (digs b).length c) b ∧ a < pw 1000 ∧ b < pw 1000 ∧ Nat.gcd a b = Nat.gcd x y) ∧ Aside0 (Below w.heap.size w wr))
  case atStart =>
    obtain ⟨A, c, e, h1, h2⟩ := HNB2.out
    exact ⟨x, A, c, e, ⟨HNA2.out, ⟨A, c, rfl, h1, h2⟩, BX.out, BY.out, rfl⟩, ⟨HB2.out⟩⟩
  case round =>
    obtain ⟨a, A, c, rfl, HN, HB⟩ := hrel
    by_cases hb : gk = 0
    · subst hb
      have HG := Aside0.mk (show a = Nat.gcd x y by have := HN.out.2.2.2.2; rwa [Nat.gcd_zero_right] at this)
      obtain ⟨Aa, ca, e, h1, h2⟩ := HN.out.1
      subst e
      have HC := Aside0.mk (cutN ⟨Aa, ca, rfl, h1, h2⟩ HN.out.2.2.1)
      rw [digs_zero, List.length_nil]
      clear h1 h2
      go_wp2_with fail
      refine HC.out.mono ?_
      rintro e w3 ⟨v, rfl, hN3, hB3⟩
      have HN3 := Aside0.mk hN3
      have HB3 := Aside0.mk (HB.out.trans (hB3.mono HB.out.size))
      clear hN3 hB3
      go_wp2_with fail
      go_ret
      exact ⟨_, rfl, by rw [← HG.out]; exact HN3.out, HB3.out⟩
    · have hp : 0 < (digs gk).length := Nat.pos_of_ne_zero (fun h => hb (digs_length_zero.1 h))
      have HD := Aside0.mk (divP HN.out.1 HN.out.2.1 HN.out.2.2.1 HN.out.2.2.2.1 hb)
      have HB0 := Aside0.mk hb
      clear hb
      go_wp2_with fail
      refine HD.out.mono ?_
      rintro e w3 ⟨vq, vr, rfl, hQ, hR, hB3⟩
      have HR := Aside0.mk hR
      have HBN := Aside0.mk (HN.out.2.1.below hB3)
      have HB3 := Aside0.mk (HB.out.trans (hB3.mono HB.out.size))
      clear hQ hR hB3
      go_wp2_with fail
      go_roundg (a % gk)
      case rel =>
        obtain ⟨A', c', e', h1, h2⟩ := HR.out
        exact ⟨gk, A', c', e', ⟨HBN.out, ⟨A', c', rfl, h1, h2⟩, HN.out.2.2.2.1, Nat.lt_of_le_of_lt (Nat.mod_le _ _) HN.out.2.2.1, by rw [gcd_step]; exact HN.out.2.2.2.2⟩, ⟨HB3.out⟩⟩
      case measure => exact Nat.mod_lt _ (Nat.pos_of_ne_zero HB0.out)
end Go.Proofs.YtklhpobphloehaaDoor.G
