/- strconv's table, out of what a row lists: Itoa at every number below a chunk. -/
import Derived.Test.YtklhpobphloehaaDoorG12
import Derived.Lib.LaidU8
import Derived.MakeChecks
set_option linter.unusedVariables false
namespace Go.Proofs.YtklhpobphloehaaDoor.G
open Go.RowKit Go.Proofs.YtklhpobphloehaaDoorW.PrintWords Go.Proofs.YtklhpobphloehaaDoorW.PrintLast Go.Proofs.YtklhpobphloehaaDoor.Nn
open Go.Lib (decDigits)

def TabOk (w : World) : Prop := Lib.TabIs Tryd.prog w "internal/strconv.uint64pow10" .u64 Lib.pow10Tab
theorem gTab : Tryd.prog.globalNamed "internal/strconv.uint64pow10" = some 0 := by kernel_rfl
theorem gTabT : (Tryd.prog.globals[0]?).map (·.type) = some 145 := by kernel_rfl
theorem TabOk.below {w w' : World} (h : TabOk w) (hb : Below w.heap.size w w') : TabOk w' := by
  unfold TabOk Lib.TabIs World.var? at h ⊢
  rw [gTab] at h ⊢
  simp only [Option.bind_some] at h ⊢
  have hlt : 0 < w.heap.size := by
    rcases Nat.lt_or_ge 0 w.heap.size with h' | h'
    · exact h'
    · simp [Array.getElem?_eq_none h'] at h
  rw [hb.block _ hlt]
  exact h
theorem tab_of_met {l : List (String × DataW Unit)} {W : World} (hp : (l.all fun x => x.2.handleName?.isNone) = true) (hm : ("internal/strconv.uint64pow10", Lib.tabData .u64 Lib.pow10Tab) ∈ l) (h : laidMetH Tryd.prog l W) : TabOk W := by
  rw [MakeChecks.laidMetH_plain _ _ _ hp] at h
  obtain ⟨g, t, cs, fuel, p, hg, ht, hv, hd⟩ := Lib.laidMet.reads h hm
  obtain rfl := Option.some.inj (gTab.symm.trans hg)
  obtain rfl := Option.some.inj (gTabT.symm.trans ht)
  unfold TabOk Lib.TabIs
  rw [hv, ← Lib.cells_of_tab Tryd.underlying145 Tryd.underlying43 (by kernel_rfl) (by kernel_rfl) hd]
theorem below_ran (w : World) (k : Nat) (os : Array Obj) : Below w.heap.size w (Go.Sort.grow (w.drewN k) os) :=
  ⟨rfl, rfl, rfl, by show w.heap.size ≤ (w.heap ++ os).size; rw [Array.size_append]; omega, fun i hi => by show (w.heap ++ os)[i]? = _; rw [Array.getElem?_append_left hi]⟩
theorem itoa_tab {w : World} (h : TabOk w) (X : Nat) : ItoaC w X := fun r wr _ hl hB =>
  (Tryd.strconv_Itoa (r : Int) (by omega) (by omega) wr (h.below hB)).mono fun e w' ⟨he, k, os, hw⟩ => by
    subst hw
    refine ⟨_, he, ?_, below_ran _ _ _⟩
    show (Lib.itoa (r : Int)).toArray.toList = _
    rw [List.toList_toArray, Lib.itoa, if_neg (by omega)]
    rfl
theorem textN {w : World} {vx : Value} {n : Nat} (hx : Nu w vx n) (bn : n < pw 1000) (h : TabOk w) :
    Calls Tryd.prog 25 #[vx] w (TextPost w (decDigits n)) := text_w hx bn (itoa_tab h n)
end Go.Proofs.YtklhpobphloehaaDoor.G
