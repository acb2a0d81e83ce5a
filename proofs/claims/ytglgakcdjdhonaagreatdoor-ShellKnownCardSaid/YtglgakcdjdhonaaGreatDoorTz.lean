/- math/bits.TrailingZeros at 16. -/
import Derived.Test.YtglgakcdjdhonaaGreatDoorS4
set_option linter.unusedVariables false
namespace Go.Proofs.YtglgakcdjdhonaaGreatDoor.G
open Go.RowKit
def Tz16 (w : World) : Prop := w.cell? ⟨7, 15, none⟩ = some (.int .u8 4)
theorem tz64_16 (w : World) (h : Tz16 w) : Calls Tryz.prog 273 #[.int .u64 16] w fun e w' => e = .returned (.int .i64 4) ∧ w' = w := by
 unfold Tz16 at h
 have e7 : IntKind.u64.wrap (-16) = 18446744073709551600 := by decide
 have e8 : bits .and .u64 16 18446744073709551600 = 16 := by decide
 have e9 : IntKind.u64.wrap (16 * 285870213051353865) = 4573923408821661840 := by decide
 have e10 : (4573923408821661840 : Int) / 288230376151711744 = 15 := by decide
 go_enter Tryz.func273, Tryz.ntmps273
 go_wp2
 go_ret
 exact ⟨rfl, rfl⟩
theorem tz_16 (w : World) (h : Tz16 w) : Calls Tryz.prog 236 #[.int .u64 16] w fun e w' => e = .returned (.int .i64 4) ∧ w' = w := by
 have H := tz64_16 w h
 go_enter Tryz.func236, Tryz.ntmps236
 go_wp2_with fail
 refine H.mono ?_
 rintro e w1 ⟨rfl, rfl⟩
 go_wp2_with fail
 go_ret
 exact ⟨rfl, rfl⟩
def tz64 : List Int := [0, 1, 56, 2, 57, 49, 28, 3, 61, 58, 42, 50, 38, 29, 17, 4, 62, 47, 59, 36, 45, 43, 51, 22, 53, 39, 33, 30, 24, 18, 12, 5, 63, 55, 48, 27, 60, 41, 37, 16, 46, 35, 44, 21, 52, 32, 23, 11, 54, 26, 40, 15, 34, 20, 31, 10, 25, 14, 19, 9, 13, 8, 7, 6]
theorem gTz : Tryz.prog.globalNamed "math/bits.deBruijn64tab" = some 7 := by kernel_rfl
theorem gTzT : (Tryz.prog.globals[7]?).map (·.type) = some 321 := by kernel_rfl
theorem tz_of_met {l : List (String × DataW Unit)} {W : World} (hp : (l.all fun x => x.2.handleName?.isNone) = true) (hm : ("math/bits.deBruijn64tab", Lib.tabData .u8 tz64) ∈ l) (h : laidMetH Tryz.prog l W) : Tz16 W := by
 rw [MakeChecks.laidMetH_plain _ _ _ hp] at h
 obtain ⟨g, t, cs, fuel, p, hg, ht, hv, hd⟩ := Lib.laidMet.reads h hm
 obtain rfl := Option.some.inj (gTz.symm.trans hg)
 obtain rfl := Option.some.inj (gTzT.symm.trans ht)
 have hT : Lib.TabIs Tryz.prog W "math/bits.deBruijn64tab" .u8 tz64 := by
  unfold Lib.TabIs
  rw [hv, ← Lib.cells_of_tab Tryz.underlying321 Tryz.underlying5 (by kernel_rfl) (by kernel_rfl) hd]
 exact hT.cell gTz 15 (by decide)
end Go.Proofs.YtglgakcdjdhonaaGreatDoor.G
