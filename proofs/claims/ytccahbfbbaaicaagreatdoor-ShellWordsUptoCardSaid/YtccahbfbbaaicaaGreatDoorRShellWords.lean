/- The row of the law ShellWords (its second form), out of its walk. -/
import Derived.Test.YtccahbfbbaaicaaGreatDoorLShellWords
import Derived.Test.YtccahbfbbaaicaaGreatDoorRows
import Derived.ProofKit
import Derived.OpenShut
import Derived.ShutString
import Derived.ChangeOld
import Derived.SizedLaws
import Derived.LaidMore
import Derived.Stop.Joined
import Derived.SevenTiedAt
import Derived.Test.YtccahbfbbaaicaaGreatDoorWSized
import Derived.Lib.SmallJoins
import Derived.Shelf.Vars
import Derived.Test.YtccahbfbbaaicaaGreatDoorSH
import Derived.Lay
import Derived.MakeChecks
set_option linter.unusedVariables false
namespace Go.Proofs.YtccahbfbbaaicaaGreatDoor.shellWords
open Go.ChangeShapes Go.WideShapes Go.ChangeAt Go.RowKit Go.WideMaps
open Go.ChangeMaps (open_string shut_string)
open Go.Proofs.YtccahbfbbaaicaaGreatDoor.G Go.Proofs.YtccahbfbbaaicaaGreatDoor.Nn Go.Proofs.YtccahbfbbaaicaaGreatDoor.Abs Go.Proofs.YtccahbfbbaaicaaGreatDoorW.PrintWords Go.Proofs.YtccahbfbbaaicaaGreatDoorW.PrintLast
theorem own : ownKnob Tryz.prog.godebug = none := by kernel_rfl
theorem laidOut : laidOutB Tryz.prog = true := by kernel_rfl
def laidL : List (String × DataW Unit) := [("math/bits.deBruijn32tab", Rows.laid_math_bits_deBruijn32tab), ("math/bits.deBruijn64tab", Rows.laid_math_bits_deBruijn64tab), ("internal/strconv.uint64pow10", Rows.laid_internal_strconv_uint64pow10), ("unicode/utf8.acceptRanges", Rows.laid_unicode_utf8_acceptRanges), ("strconv.ErrRange", Rows.laid_strconv_ErrRange), ("strconv.ErrSyntax", Rows.laid_strconv_ErrSyntax), ("unicode/utf8.first", Rows.laid_unicode_utf8_first)]
theorem maxlen_of {W : World} (hsh : W.ShapedOpen Tryz.prog) : ∃ m, W.cell? ⟨0, 0, none⟩ = some (.int .i64 m) := by
 obtain ⟨m, hm⟩ := cell_of_shapedOpen_int (P := Tryz.prog) (g := 0) (t := 3) (zero := #[.int .i64 0]) hsh (of_decide_eq_true (by kernel_rfl)) (by kernel_rfl) rfl (by kernel_rfl) (by kernel_rfl) Tryz.underlying3
 exact ⟨m, hm⟩
theorem tab_listed : ("internal/strconv.uint64pow10", (Lib.tabData .u64 Lib.pow10Tab : DataW Unit)) ∈ (laidL : List (String × DataW Unit)) := by
 rw [show (Lib.tabData .u64 Lib.pow10Tab : DataW Unit) = Rows.laid_internal_strconv_uint64pow10 from rfl]
 unfold laidL
 simp
theorem bulk_lits {H : Type} (k : IntKind) : ∀ l : List Int, Rows.uptoBulkAll (lits (H := H) k l) = l.length
 | [] => rfl
 | x :: l => by
  show Rows.uptoBulk (.lit (.int k x)) + Rows.uptoBulkAll (lits (H := H) k l) = _
  rw [bulk_lits k l, List.length_cons]
  show 1 + l.length = _
  omega
theorem bytes_of {H : Type} {enc : TypeId × Value → H} {W : World} {n : Nat} {v : Value} {y : DataW H × List MemPlace} (h : DataW.trod enc Tryz.prog W 0 (fun _ => true) true n 22 [v] = some y) : ∃ (a : Option Addr) (l : List Int) (c : Nat), v = .slice a l.length c ∧ Kd.C (Kd.int .u8) W a l.length l ∧ l.length ≤ c ∧ (∀ x ∈ l, (Lit.int .u8 x).wf = true) ∧ l.length ≤ Rows.uptoBulk y.1 := by
 rcases open_ints Tryz.underlying22 Tryz.underlying5 (by kernel_rfl) h with ⟨hcs, _⟩ | ⟨x, l, c, zs, hcs, _, hl, hm, hz, hy, hcell, hwz⟩
 ·obtain rfl : v = .slice none 0 0 := by simpa using hcs
  obtain ⟨l, e, hr, hm, hw, hc⟩ := ReadsInt.ofRowC (k := .u8) (w := W) (a := none) (len := 0) (cap := 0) (zs := []) (.inl ⟨rfl, rfl, rfl, rfl⟩)
  exact ⟨none, l, 0, by rw [← e], Kd.C_of_reads (d := (0 : Int)) (h1 := fun _ => rfl) hr, hc, hw, by omega⟩
 ·obtain rfl : v = .slice (some x) l c := by simpa using hcs
  obtain ⟨l2, e, hr, hm, hw, hc⟩ := ReadsInt.ofRowC (k := .u8) (w := W) (a := some x) (len := l) (cap := c) (zs := zs) (.inr ⟨x, rfl, hl, hm, by simpa using hz, hcell, hwz⟩)
  subst e
  refine ⟨some x, l2, c, rfl, Kd.C_of_reads (d := (0 : Int)) (h1 := fun _ => rfl) hr, hc, hw, ?_⟩
  rw [hy]
  show _ ≤ Rows.uptoBulkAll _ + Rows.uptoBulkAll _ + 1
  rw [bulk_lits, bulk_lits, List.length_take]
  have : zs.length = c := by simpa using hz
  omega
set_option maxHeartbeats 2000000 in
set_option maxRecDepth 100000 in
theorem lifted (os : Os) (started : os.Started) (H : Type) (enc : TypeId × Value → H) (F : Stop.Interp) :
  ReturnsInHanded {} Tryz.checked os 3 .any (fun w args => ((Rows.OpenSpec.upto Rows.shellWordsSpec).pre enc Tryz.prog Tryz.f3 [] false w args ∧ laidMetH Tryz.prog laidL w) ∧ sizedMet enc Tryz.prog Tryz.f3 (Rows.OpenSpec.upto Rows.shellWordsSpec) false w args)
   (((Rows.OpenSpec.upto Rows.shellWordsSpec).at F).post enc Tryz.prog Tryz.f3 false true false false) := by
 refine handed_and_shaped_cond (C := Tryz.checked) (s := Rows.OpenSpec.upto Rows.shellWordsSpec) (k := Rows.uptoSmall) rfl (X := fun w _ => laidMetH Tryz.prog laidL w) (fun _ _ _ hh h => h.of_heap hh) own started (by kernel_rfl) Tryz.func3
  (witness_shaped_cond (enc := enc) (C := Tryz.checked) (os := os) (s := Rows.OpenSpec.upto Rows.shellWordsSpec) (k := Rows.uptoSmall) rfl (X := fun w _ => laidMetH Tryz.prog laidL w) false (World.laidAll Tryz.prog os laidL) #[.string ByteArray.empty, .slice none 0 0] 8 (World.laidAll_os _ _ _) (World.shaped_of_ZipB (by kernel_rfl) (by kernel_rfl)) (by kernel_rfl) (by kernel_rfl) (by kernel_rfl) (by rw [MakeChecks.laidMetH_plain _ _ _ (by kernel_rfl)]; exact laidMet_laidAll _ (by kernel_rfl) (by kernel_rfl))) ?_
 intro W base args ds gs before hval0 hW hsz0 hkk hL hsh
 have hval : ∀ (j : Nat) t v, Tryz.f3.params[j]? = some t → args[j]? = some v → Value.okWide Tryz.prog W .any base t v := hval0
 have hW' := hW
 obtain ⟨p, q, hA0, hV, rfl, hfz, hnd⟩ := hW
 have hA : DataW.TrodAll enc Tryz.prog W 0 (fun _ => true) true Tryz.f3.params.toList args.toList ds p := hA0
 rw [Tryz.params3] at hA hval
 obtain ⟨v0, vs0, d0, ds0, p0, q0, hargs, rfl, rfl, h0, r0⟩ := trodAll_cons hA
 obtain ⟨v1, vs1, d1, ds1, p1, q1, rfl, rfl, rfl, h1, r1⟩ := trodAll_cons r0
 obtain ⟨rfl, rfl, rfl⟩ := trodAll_nil r1
 obtain rfl : args = #[v0, v1] := by cases args; simp_all
 obtain ⟨rfl, rfl⟩ := trodVars_none hV
 have k1 := h1
 have lt1 : ∀ x ∈ p1, x.block < W.heap.size := by obtain ⟨m, hm⟩ := k1; exact DataW.trod_lt m _ _ _ hm
 obtain ⟨a0, rfl, rfl, rfl, y0⟩ := open_string Tryz.underlying9 (hval 0 9 v0 rfl rfl) h0
 obtain ⟨m1, t1⟩ := h1
 obtain ⟨sa, sl, sc, rfl⟩ := okWide_slice Tryz.underlying22 (hval 1 22 v1 rfl rfl)
 obtain ⟨A1, l1, c1, ev1, hr1, hc1, hw1, hb1⟩ := bytes_of t1
 cases ev1
 have hbulk : Rows.uptoBulkAll (DataW.lit (.string a0.data.toList) :: d1 :: ([] : List (DataW H)) ++ []) ≤ 1048576 := of_decide_eq_true hkk
 have hb2 : (a0.data.toList.length + 1) + (Rows.uptoBulk d1 + 0) ≤ 1048576 := hbulk
 have hs0 : a0.data.toList.length = a0.size := by rw [Array.length_toList]; rfl
 simp only at hb1
 clear hA0 hval0 hsz0 hkk hbulk
 refine (walk a0 _ _ l1 W (by omega) hr1 hc1 hw1 (by omega) ⟨tab_of_met (by kernel_rfl) tab_listed hL, maxlen_of hsh⟩).mono fun e W' ⟨he, bel⟩ => ?_
 subst he
 exact ⟨_, rfl, _, _, _, [], _, [], hW', trodAll_mk1 (shut_bool Tryz.underlying4 _), (trodAll_cons_mk (shut_string Tryz.underlying9 y0) (trodAll_cons_mk (Below.trod laidOut (by kernel_rfl) (of_decide_eq_true (by kernel_rfl)) k1 bel lt1) trodAll_mk0)), rfl, bel.frame _, fun h => by cases h⟩
end Go.Proofs.YtccahbfbbaaicaaGreatDoor.shellWords
