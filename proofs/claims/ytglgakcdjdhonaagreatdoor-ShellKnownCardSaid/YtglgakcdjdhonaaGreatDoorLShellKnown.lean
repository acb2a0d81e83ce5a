/- The law ShellKnown: its walk. -/
import Derived.Test.YtglgakcdjdhonaaGreatDoorKN
import Derived.Test.YtglgakcdjdhonaaGreatDoorPKnx1
import Derived.Test.YtglgakcdjdhonaaGreatDoorS4
set_option linter.unusedVariables false
namespace Go.Proofs.YtglgakcdjdhonaaGreatDoor.Abs
open Go.Proofs.YtglgakcdjdhonaaGreatDoor.G
theorem known_run : isTrue (evF Tryz.prog orac 100000 5 #[] AW.empty) = true := by kernel_rfl
theorem known_w (w : World) (hW : BaseOk w) : Calls Tryz.prog 5 #[] w (TruePost w) := true_call known_run w hW
end Go.Proofs.YtglgakcdjdhonaaGreatDoor.Abs
namespace Go.Proofs.YtglgakcdjdhonaaGreatDoor.shellKnown
open Go.RowKit
open Go.Proofs.YtglgakcdjdhonaaGreatDoor.G Go.Proofs.YtglgakcdjdhonaaGreatDoor.Nn Go.Proofs.YtglgakcdjdhonaaGreatDoor.PKn Go.Proofs.YtglgakcdjdhonaaGreatDoor.Giv Go.Proofs.YtglgakcdjdhonaaGreatDoor.Abs Go.Proofs.YtglgakcdjdhonaaGreatDoorW.PrintWords Go.Proofs.YtglgakcdjdhonaaGreatDoorW.PrintLast
theorem seek_some {s : List UInt8} {t : ByteArray} : ∀ {n : Nat}, seek s n = some t → ∃ i, i < n ∧ s = kscr i ∧ t = bytesOf (kans i)
 | 0, h => by cases h
 | n + 1, h => by
  unfold seek at h
  by_cases c : eqList (fun (x y : UInt8) => decide (x = y)) s (kscr n) = true
  ·rw [if_pos c] at h
   exact ⟨n, Nat.lt_succ_self n, krEq_eq c, (Option.some.inj h).symm⟩
  ·rw [if_neg c] at h
   obtain ⟨i, h1, h2⟩ := seek_some h
   exact ⟨i, Nat.lt_succ_of_lt h1, h2⟩
theorem run_w (w : World) (hW : BaseOk w) (s t : ByteArray) (h : shell_Run.f s = some t) : Calls Tryz.prog 7 #[.string s] w (fun e w' => e = .returned (.string t) ∧ Below w.heap.size w w') := by
 obtain ⟨i, hi, hs, rfl⟩ := seek_some h
 obtain rfl : s = bytesOf (kscr i) := by rw [← hs]; rfl
 exact krun_all i hi w hW
theorem G_true : ∀ k : Fin 26, anticlinelaw18_ShellKnown.G (some (k.val : Int)) = some true := by decide +kernel
theorem within_26 (a : Int) : ∃ k : Fin 26, anticlinelaw18_within.f a 26 = some (k.val : Int) := by
 unfold anticlinelaw18_within.f
 rw [if_neg (by decide)]
 have h1 : -26 < Int.tmod a 26 := by have := Int.lt_tmod_of_pos a (show (0 : Int) < 26 by decide); omega
 have h2 : Int.tmod a 26 < 26 := Int.tmod_lt_of_pos a (by decide)
 by_cases c : Int.tmod a 26 < 0
 ·rw [if_pos c]
  refine ⟨⟨(Int.tmod a 26 + 26).toNat, by omega⟩, ?_⟩
  congr 1
  show wrap64 (Int.tmod a 26 + 26) = (((Int.tmod a 26 + 26).toNat : Nat) : Int)
  unfold wrap64
  omega
 ·rw [if_neg c]
  refine ⟨⟨(Int.tmod a 26).toNat, by omega⟩, ?_⟩
  congr 1
  show Int.tmod a 26 = (((Int.tmod a 26).toNat : Nat) : Int)
  omega
theorem walk (a0 : Int) (W : World) (hW : BaseOk W) : Calls Tryz.prog 3 #[.int .i64 a0] W (TruePost W) := by
 obtain ⟨k, hk⟩ := within_26 a0
 have h : anticlinelaw18_ShellKnown.f a0 = some true := by rw [anticlinelaw18_ShellKnown.f_G, hk]; exact G_true k
 exact anticlinelaw18_ShellKnown.calls a0 true W h (fun wr hb => known_w wr (hW.below hb)) (fun wr hb s t hs => run_w wr (hW.below hb) s t hs)
end Go.Proofs.YtglgakcdjdhonaaGreatDoor.shellKnown
