/- The row of the law RatTexts, out of its walk. -/
import Derived.Test.YtklhpobphloehaaDoorLRatTexts
import Derived.Test.YtklhpobphloehaaDoorRows
import Derived.ProofKit
import Derived.OpenShut
import Derived.ShutString
import Derived.ChangeOld
import Derived.SizedLaws
import Derived.LaidMore
import Derived.Stop.Joined
import Derived.SevenTiedAt
import Derived.Test.YtklhpobphloehaaDoorWSized
import Derived.Lib.SmallJoins
import Derived.Shelf.Vars
import Derived.Test.YtklhpobphloehaaDoorS7
import Derived.Lay
import Derived.MakeChecks
set_option linter.unusedVariables false
namespace Go.Proofs.YtklhpobphloehaaDoor.ratTexts
open Go.ChangeShapes Go.WideShapes Go.ChangeAt Go.RowKit Go.WideMaps
open Go.ChangeMaps (open_string shut_string)
open Go.Proofs.YtklhpobphloehaaDoor.G Go.Proofs.YtklhpobphloehaaDoor.Nn Go.Proofs.YtklhpobphloehaaDoorW.PrintWords Go.Proofs.YtklhpobphloehaaDoorW.PrintLast

theorem own : ownKnob Tryd.prog.godebug = none := by kernel_rfl
theorem laidOut : laidOutB Tryd.prog = true := by kernel_rfl
def laidL : List (String × DataW Unit) := [("math/bits.deBruijn32tab", Rows.laid_math_bits_deBruijn32tab), ("math/bits.deBruijn64tab", Rows.laid_math_bits_deBruijn64tab), ("internal/strconv.uint64pow10", Rows.laid_internal_strconv_uint64pow10), ("unicode/utf8.acceptRanges", Rows.laid_unicode_utf8_acceptRanges), ("unicode/utf8.first", Rows.laid_unicode_utf8_first)]
theorem maxlen_of {W : World} (hsh : W.ShapedOpen Tryd.prog) : MaxOk W := by
  obtain ⟨m, hm⟩ := cell_of_shapedOpen_int (P := Tryd.prog) (g := 1) (t := 3) (zero := #[.int .i64 0]) hsh (of_decide_eq_true (by kernel_rfl)) (by kernel_rfl) rfl (by kernel_rfl) (by kernel_rfl) Tryd.underlying3
  exact ⟨m, hm⟩
theorem tab_listed : ("internal/strconv.uint64pow10", (Lib.tabData .u64 Lib.pow10Tab : DataW Unit)) ∈ (laidL : List (String × DataW Unit)) := by
  rw [show (Lib.tabData .u64 Lib.pow10Tab : DataW Unit) = Rows.laid_internal_strconv_uint64pow10 from rfl]
  unfold laidL
  simp
def IsRow (k : IntKind) (w : World) (a : Option Addr) (len cap : Nat) (zs : List Int) : Prop :=
  (a = none ∧ len = 0 ∧ cap = 0 ∧ zs = []) ∨
  ∃ x, a = some x ∧ len ≤ cap ∧ cap ≤ maxLen ∧ zs.length = cap ∧ (∀ i, i < zs.length → w.cell? (x.add i) = some (.int k (zs.getD i 0))) ∧ ∀ n ∈ zs, (Lit.int k n).wf = true
theorem limbs_of {H : Type} {enc : TypeId × Value → H} {W : World} {n : Nat} {v : Value} {y : DataW H × List MemPlace} (h : DataW.trod enc Tryd.prog W 0 (fun _ => true) true n 22 [v] = some y) : ∃ (a : Option Addr) (l : List Int) (c : Nat), v = .slice a l.length c ∧ CU W a l.length l ∧ l.length ≤ c ∧ ∀ x ∈ l, (Lit.int .u32 x).wf = true := by
  rcases open_ints Tryd.underlying22 Tryd.underlying54 (by kernel_rfl) h with ⟨hcs, _⟩ | ⟨x, l, c, zs, hcs, _, hl, hm, hz, _, hcell, hwz⟩
  · obtain rfl : v = .slice none 0 0 := by simpa using hcs
    obtain ⟨l, e, hr, hm, hw, hc⟩ := ReadsInt.ofRowC (k := .u32) (w := W) (a := none) (len := 0) (cap := 0) (zs := []) (.inl ⟨rfl, rfl, rfl, rfl⟩)
    exact ⟨none, l, 0, by rw [← e], reads_CU hr, hc, hw⟩
  · obtain rfl : v = .slice (some x) l c := by simpa using hcs
    obtain ⟨l2, e, hr, hm, hw, hc⟩ := ReadsInt.ofRowC (k := .u32) (w := W) (a := some x) (len := l) (cap := c) (zs := zs) (.inr ⟨x, rfl, hl, hm, by simpa using hz, hcell, hwz⟩)
    subst e
    exact ⟨some x, l2, c, rfl, reads_CU hr, hc, hw⟩
set_option maxRecDepth 100000 in
theorem lifted (os : Os) (started : os.Started) (H : Type) (enc : TypeId × Value → H) :
    ReturnsInHanded {} Tryd.checked os 21 .any (fun w args => (Rows.ratTextsSpec.pre enc Tryd.prog Tryd.f21 [] false w args ∧ laidMetH Tryd.prog laidL w) ∧ sizedMet enc Tryd.prog Tryd.f21 (OpenSpec.ofChange Rows.ratTextsSpec) false w args)
      (Rows.ratTextsSpec.post enc Tryd.prog Tryd.f21 false true false false) := by
  refine handed_and_shaped (C := Tryd.checked) (X := fun w _ => laidMetH Tryd.prog laidL w) (fun _ _ _ hh h => h.of_heap hh) own started (by kernel_rfl) Tryd.func21
    (ChangeSpec.witness_shaped (enc := enc) (C := Tryd.checked) (os := os) (X := fun w _ => laidMetH Tryd.prog laidL w) false (World.laidAll Tryd.prog os laidL) #[.agg #[.bool false, .slice none 0 0, .slice none 0 0], .slice none 0 0] 8 (World.laidAll_os _ _ _) (World.shaped_of_ZipB (by kernel_rfl) (by kernel_rfl)) (by kernel_rfl) (by kernel_rfl) (by kernel_rfl) (by rw [MakeChecks.laidMetH_plain _ _ _ (by kernel_rfl)]; exact laidMet_laidAll _ (by kernel_rfl) (by kernel_rfl))) ?_
  intro W base args ds gs before hval0 hW hsz0 hL hsh
  have hsz : (DataW.weightsEach Tryd.prog (Tryd.f21.params.toList ++ Rows.ratTextsSpec.plain.varTypes Tryd.prog) (ds ++ gs)).all (· ≤ reachBytes) = true := hsz0
  have hval : ∀ (j : Nat) t v, Tryd.f21.params[j]? = some t → args[j]? = some v → Value.okWide Tryd.prog W .any base t v := hval0
  have hW' := hW
  obtain ⟨p, q, hA0, hV, rfl, hfz, hnd⟩ := hW
  have hA : DataW.TrodAll enc Tryd.prog W 0 (fun _ => true) true Tryd.f21.params.toList args.toList ds p := hA0
  rw [Tryd.params21] at hA hval hsz
  obtain ⟨v0, vs0, d0, ds0, p0, q0, hargs, rfl, rfl, h0, r0⟩ := trodAll_cons hA
  obtain ⟨v1, vs1, d1, ds1, p1, q1, rfl, rfl, rfl, h1, r1⟩ := trodAll_cons r0
  obtain ⟨rfl, rfl, rfl⟩ := trodAll_nil r1
  obtain rfl : args = #[v0, v1] := by cases args; simp_all
  obtain ⟨rfl, rfl⟩ := trodVars_none hV
  have k0 := h0
  have lt0 : ∀ x ∈ p0, x.block < W.heap.size := by obtain ⟨m, hm⟩ := k0; exact DataW.trod_lt m _ _ _ hm
  obtain ⟨f0a, f0b, f0c, y0a, y0b, y0c, n0, rfl, rfl, rfl, t0a, t0b, t0c⟩ := Go.Joins.open_agg3 Tryd.underlying56 (by kernel_rfl) (by kernel_rfl) (hval 0 56 v0 rfl rfl) h0
  obtain ⟨g0, eg0, _⟩ := DataW.trod_bool Tryd.underlying4 t0a
  obtain rfl : f0a = .bool g0 := by simpa using eg0
  obtain ⟨a0b, l0b, c0b, rfl, hr0b, hc0b, hw0b⟩ := limbs_of t0b
  obtain ⟨a0c, l0c, c0c, rfl, hr0c, hc0c, hw0c⟩ := limbs_of t0c
  obtain ⟨a1, len1, cap1, rfl⟩ := okWide_slice Tryd.underlying22 (hval 1 22 v1 rfl rfl)
  have k1 := h1
  have lt1 : ∀ x ∈ p1, x.block < W.heap.size := by obtain ⟨m, hm⟩ := k1; exact DataW.trod_lt m _ _ _ hm
  obtain ⟨z1, w1⟩ : ∃ zs, IsRow .u32 W a1 len1 cap1 zs := by
    obtain ⟨fuel, hf⟩ := h1
    rcases open_ints Tryd.underlying22 Tryd.underlying54 (by kernel_rfl) hf with ⟨hcs, _⟩ | ⟨x, l, c, zs, hcs, _, hl, hm, hz, _, hcell, hwz⟩
    · simp [Value.cells] at hcs
      obtain ⟨rfl, rfl, rfl⟩ := hcs
      exact ⟨[], .inl ⟨rfl, rfl, rfl, rfl⟩⟩
    · simp [Value.cells] at hcs
      obtain ⟨rfl, rfl, rfl⟩ := hcs
      exact ⟨zs, .inr ⟨x, rfl, hl, hm, hz, hcell, hwz⟩⟩
  obtain ⟨l1, rfl, hr1, hm1, hw1, hc1⟩ := ReadsInt.ofRowC w1
  clear hA0 hval0 hsz0 hsz
  refine (walk g0 a0b c0b l0b a0c c0c l0c a1 cap1 l1 W hr0b hc0b (lim_wf hw0b) hr0c hc0c (lim_wf hw0c) (reads_CU hr1) hc1 (lim_wf hw1) (tab_of_met (by kernel_rfl) tab_listed hL) (maxlen_of hsh)).mono fun e W' ⟨he, bel⟩ => ?_
  subst he
  exact ⟨_, rfl, _, _, _, [], _, [], hW', trodAll_mk1 (shut_bool Tryd.underlying4 _), (trodAll_cons_mk (Below.trod laidOut (by kernel_rfl) (of_decide_eq_true (by kernel_rfl)) k0 bel lt0) (trodAll_cons_mk (Below.trod laidOut (by kernel_rfl) (of_decide_eq_true (by kernel_rfl)) k1 bel lt1) trodAll_mk0)), rfl, bel.frame _, fun h => by cases h⟩
end Go.Proofs.YtklhpobphloehaaDoor.ratTexts
