/- The law's example: nought is told as it must be, and seven. -/
import Derived.Test.YtklhpobphloehaaDoorG12
set_option linter.unusedVariables false
namespace Go.Proofs.YtklhpobphloehaaDoor.G
open Go.RowKit Go.Proofs.YtklhpobphloehaaDoorW.PrintWords Go.Proofs.YtklhpobphloehaaDoorW.PrintLast Go.Proofs.YtklhpobphloehaaDoor.Nn
open Go.Lib (decDigits)

theorem ItoaC.of {w : World} {X Y : Nat} (h : ItoaC w X) (hY : Y ≤ X) : ItoaC w Y := fun r wr hr hl hB => h r wr (by omega) hl hB
theorem text_zero (w : World) : Calls Tryd.prog 25 #[.slice none 0 0] w fun e w' => e = .returned (.string ⟨#[48]⟩) ∧ Below w.heap.size w w' :=
  (text_w (Nu_nil w) (pw_pos 1000) ((itoa_small w).of (by omega))).mono fun e w' ⟨s, he, hs, hB⟩ => by
    rw [decDigits_small (by decide)] at hs
    rw [bytes_eq hs] at he
    exact ⟨he, hB⟩
theorem text_seven {w : World} {v : Value} (h : Nu w v 7) : Calls Tryd.prog 25 #[v] w fun e w' => e = .returned (.string ⟨#[55]⟩) ∧ Below w.heap.size w w' :=
  (text_w h (by have := pw_lt (a := 0) (b := 1000) (by decide); have h2 := pw_le (a := 1) (b := 1000) (by decide); have h3 : pw 1 = 4294967296 := rfl; omega) ((itoa_small w).of (by omega))).mono fun e w' ⟨s, he, hs, hB⟩ => by
    rw [decDigits_small (by decide)] at hs
    rw [bytes_eq hs] at he
    exact ⟨he, hB⟩
set_option maxHeartbeats 2000000 in
set_option maxRecDepth 100000 in
theorem known_w (w : World) : Calls Tryd.prog 23 #[] w (TruePost w) := by
  have HT := Aside0.mk (text_zero w)
  go_enter Tryd.func23, Tryd.ntmps23
  go_wp2_with fail
  refine HT.out.mono ?_
  rintro e w1 ⟨rfl, hB1⟩
  have HB1 := Aside0.mk hB1
  clear hB1
  have HO : Calls Tryd.prog 45 #[.int .u64 7] w1 (NuPost w1 7) := ofN 7 (by decide)
  have HO := Aside0.mk HO
  go_wp2_with fail
  refine HO.out.mono ?_
  rintro e w2 ⟨v, rfl, hN, hB2⟩
  have HT7 := Aside0.mk (text_seven hN)
  have HB2 := Aside0.mk (HB1.out.trans (hB2.mono HB1.out.size))
  clear hN hB2
  go_wp2_with fail
  refine HT7.out.mono ?_
  rintro e w3 ⟨rfl, hB3⟩
  have HB3 := Aside0.mk (HB2.out.trans (hB3.mono HB2.out.size))
  clear hB3
  go_wp2_with fail
  go_ret
  exact ⟨rfl, HB3.out⟩
end Go.Proofs.YtklhpobphloehaaDoor.G
