/- Div over numbers, for the laws. -/
import Derived.Test.YtklhpobphloehaaDoorG18
set_option linter.unusedVariables false
namespace Go.Proofs.YtklhpobphloehaaDoor.G
open Go.RowKit Go.Proofs.YtklhpobphloehaaDoorW.PrintWords Go.Proofs.YtklhpobphloehaaDoorW.PrintLast Go.Proofs.YtklhpobphloehaaDoor.Nn

def DivPost1 (w : World) (q r : Nat) (e : Ending) (w' : World) : Prop := ∃ vq vr, e = .returned (.tuple #[vq, vr, .int .i64 0]) ∧ Nu w' vq q ∧ Nu w' vr r ∧ Below w.heap.size w w'
theorem divP {w : World} {vx vy : Value} {x y : Nat} (hx : Nu w vx x) (hy : Nu w vy y) (bx : x < pw 1000) (by_ : y < pw 1000) (h : y ≠ 0) : Calls Tryd.prog 51 #[vx, vy] w (DivPost1 w (x / y) (x % y)) :=
  (divN hx hy bx by_).mono (fun e w' hd => by
    obtain ⟨vq, vr, he, hq, hr, hB⟩ := hd
    rw [if_neg h] at he hr
    exact ⟨vq, vr, he, hq, hr, hB⟩)
def DivPost0 (w : World) (e : Ending) (w' : World) : Prop := ∃ vq vr, e = .returned (.tuple #[vq, vr, .int .i64 5]) ∧ Nu w' vq 0 ∧ Nu w' vr 0 ∧ Below w.heap.size w w'
theorem divZ {w : World} {vx vy : Value} {x y : Nat} (hx : Nu w vx x) (hy : Nu w vy y) (bx : x < pw 1000) (by_ : y < pw 1000) (h : y = 0) : Calls Tryd.prog 51 #[vx, vy] w (DivPost0 w) :=
  (divN hx hy bx by_).mono (fun e w' hd => by
    obtain ⟨vq, vr, he, hq, hr, hB⟩ := hd
    rw [if_pos h] at he hr
    rw [h, Nat.div_zero] at hq
    exact ⟨vq, vr, he, hq, hr, hB⟩)
theorem of_lt {v : Nat} (h : v < 18446744073709551616) : v < pw 2 := by rw [show pw 2 = 18446744073709551616 from by decide]; exact h
theorem one_lt : 1 < pw 2 := of_lt (by decide)
end Go.Proofs.YtklhpobphloehaaDoor.G
