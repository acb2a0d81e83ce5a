/- The row of the law ShellQuotes (its second form), out of its walk. -/
import Derived.Test.YtccahbfbbaaicaaGreatDoorLShellQuotes
import Derived.Test.YtccahbfbbaaicaaGreatDoorRows
import Derived.ProofKit
import Derived.OpenShut
import Derived.ShutString
import Derived.ChangeOld
import Derived.SizedLaws
import Derived.LaidMore
import Derived.Stop.Joined
import Derived.SevenTiedAt
import Derived.Test.YtccahbfbbaaicaaGreatDoorWSized
import Derived.Lib.SmallJoins
import Derived.Shelf.Vars
import Derived.Test.YtccahbfbbaaicaaGreatDoorSH
import Derived.Lay
import Derived.MakeChecks
import Derived.Deep.Matrix
set_option linter.unusedVariables false
namespace Go.Proofs.YtccahbfbbaaicaaGreatDoor.shellQuotes
open Go.ChangeShapes Go.WideShapes Go.ChangeAt Go.RowKit Go.WideMaps
open Go.ChangeMaps (open_string shut_string)
open Go.Proofs.YtccahbfbbaaicaaGreatDoor.G Go.Proofs.YtccahbfbbaaicaaGreatDoor.Nn Go.Proofs.YtccahbfbbaaicaaGreatDoor.Abs Go.Proofs.YtccahbfbbaaicaaGreatDoorW.PrintWords Go.Proofs.YtccahbfbbaaicaaGreatDoorW.PrintLast
theorem own : ownKnob Tryz.prog.godebug = none := by kernel_rfl
theorem laidOut : laidOutB Tryz.prog = true := by kernel_rfl
def laidL : List (String × DataW Unit) := [("math/bits.deBruijn32tab", Rows.laid_math_bits_deBruijn32tab), ("math/bits.deBruijn64tab", Rows.laid_math_bits_deBruijn64tab), ("internal/strconv.uint64pow10", Rows.laid_internal_strconv_uint64pow10), ("unicode/utf8.acceptRanges", Rows.laid_unicode_utf8_acceptRanges), ("strconv.ErrRange", Rows.laid_strconv_ErrRange), ("strconv.ErrSyntax", Rows.laid_strconv_ErrSyntax), ("unicode/utf8.first", Rows.laid_unicode_utf8_first)]
theorem maxlen_of {W : World} (hsh : W.ShapedOpen Tryz.prog) : ∃ m, W.cell? ⟨0, 0, none⟩ = some (.int .i64 m) := by
 obtain ⟨m, hm⟩ := cell_of_shapedOpen_int (P := Tryz.prog) (g := 0) (t := 3) (zero := #[.int .i64 0]) hsh (of_decide_eq_true (by kernel_rfl)) (by kernel_rfl) rfl (by kernel_rfl) (by kernel_rfl) Tryz.underlying3
 exact ⟨m, hm⟩
theorem tab_listed : ("internal/strconv.uint64pow10", (Lib.tabData .u64 Lib.pow10Tab : DataW Unit)) ∈ (laidL : List (String × DataW Unit)) := by
 rw [show (Lib.tabData .u64 Lib.pow10Tab : DataW Unit) = Rows.laid_internal_strconv_uint64pow10 from rfl]
 unfold laidL
 simp
theorem bulk_lits {H : Type} (k : IntKind) : ∀ l : List Int, Rows.uptoBulkAll (lits (H := H) k l) = l.length
 | [] => rfl
 | x :: l => by
  show Rows.uptoBulk (.lit (.int k x)) + Rows.uptoBulkAll (lits (H := H) k l) = _
  rw [bulk_lits k l, List.length_cons]
  show 1 + l.length = _
  omega
theorem bulk_map {H α : Type} (f : α → DataW H) (g : α → Nat) : ∀ l : List α, (∀ x ∈ l, g x ≤ Rows.uptoBulk (f x)) → (l.map g).sum ≤ Rows.uptoBulkAll (l.map f)
 | [], _ => Nat.le_refl _
 | x :: l, h => by
  have h1 := bulk_map f g l fun y hy => h y (List.mem_cons_of_mem _ hy)
  have h2 := h x List.mem_cons_self
  show g x + (l.map g).sum ≤ Rows.uptoBulk (f x) + Rows.uptoBulkAll (l.map f)
  omega
theorem rows_choose {α : Type} [Inhabited α] {n : Nat} {p : Nat → α → Prop} (h : ∀ r, r < n → ∃ y, p r y) : ∃ f : Nat → α, ∀ r, r < n → p r (f r) := by
 refine ⟨fun r => if hr : r < n then Classical.choose (h r hr) else default, fun r hr => ?_⟩
 show p r (if hr : r < n then _ else _)
 rw [dif_pos hr]
 exact Classical.choose_spec (h r hr)
theorem rows_of {H : Type} {enc : TypeId × Value → H} {W : World} {n : Nat} {v : Value} {y : DataW H × List MemPlace} (h : DataW.trod enc Tryz.prog W 0 (fun _ => true) true n 32 [v] = some y) : ∃ (a : Option Addr) (l : List (List Int)) (c : Nat), v = .slice a l.length c ∧ Kd.C (Kd.slice 5 (Kd.int .u8)) W a l.length l ∧ l.length ≤ c ∧ (∀ r ∈ l, ∀ x ∈ r, (Lit.int .u8 x).wf = true) ∧ (l.map List.length).sum ≤ Rows.uptoBulk y.1 := by
 rcases Go.Deep.open_int_rows Tryz.underlying32 Tryz.underlying22 Tryz.underlying5 (by kernel_rfl) (by kernel_rfl) h with ⟨hcs, rfl⟩ | ⟨a, len, cap, A, L, C, Z, hcs, _, hl, hm, hy, hrow⟩
 ·obtain rfl : v = .slice none 0 0 := by simpa using hcs
  exact ⟨none, [], 0, rfl, ⟨rfl, Nat.zero_le _, fun h => absurd h (Nat.lt_irrefl _)⟩, Nat.le_refl _, fun r hr => by simp at hr, by simp⟩
 ·obtain rfl : v = .slice (some a) len cap := by simpa using hcs
  have each : ∀ r, r < len → ∃ l : List Int, W.cell? (a.add r) = some (.slice (A r) l.length (C r)) ∧ l.length ≤ C r ∧ Kd.C (Kd.int .u8) W (A r) l.length l ∧ (∀ x ∈ l, (Lit.int .u8 x).wf = true) ∧ l.length ≤ Rows.uptoBulk (Go.Deep.intRow (H := H) .u8 (A r) (L r) (Z r)) := by
   intro r hr
   obtain ⟨h1, h2, h3, h4, h5, h6, h7⟩ := hrow r (by omega)
   cases hA : A r with
   | none =>
    have hC := h6 hA
    have hL : L r = 0 := by omega
    refine ⟨[], by rw [h1, hA, hL]; rfl, Nat.zero_le _, ⟨rfl, Nat.zero_le _, fun h => absurd h (Nat.lt_irrefl _)⟩, fun x hx => by simp at hx, Nat.zero_le _⟩
   | some a' =>
    obtain ⟨_, hcell⟩ := h7 a' hA
    obtain ⟨l2, e, hr2, hm2, hw2, hc2⟩ := ReadsInt.ofRowC (k := .u8) (w := W) (a := some a') (len := L r) (cap := C r) (zs := Z r) (.inr ⟨a', rfl, h2, h3, h4, fun i hi => hcell i (by omega), h5⟩)
    refine ⟨l2, by rw [h1, hA, e], by omega, ?_, hw2, ?_⟩
    ·exact Kd.C_of_reads (d := (0 : Int)) (h1 := fun _ => rfl) hr2
    ·show _ ≤ Rows.uptoBulkAll _ + Rows.uptoBulkAll _ + 1
     rw [bulk_lits, bulk_lits, List.length_take, e]
     omega
  obtain ⟨f, hf⟩ := rows_choose each
  have hlen : ((List.range len).map f).length = len := by rw [List.length_map, List.length_range]
  refine ⟨some a, (List.range len).map f, cap, by rw [hlen], ?_, by rw [hlen]; exact hl, ?_, ?_⟩
  ·rw [hlen]
   refine ⟨hlen, by simp only [maxLen] at hm; omega, fun _ => ⟨a, rfl, fun j p hp => ?_⟩⟩
   obtain ⟨hj, rfl⟩ : j < len ∧ f j = p := by
    rw [List.getElem?_map] at hp
    rcases Nat.lt_or_ge j len with hj | hj
    ·rw [List.getElem?_range hj] at hp
     exact ⟨hj, Option.some.inj hp⟩
    ·rw [List.getElem?_eq_none (by rw [List.length_range]; exact hj)] at hp
     cases hp
   obtain ⟨k1, k2, k3, k4, k5⟩ := hf j hj
   refine ⟨[.slice (A j) (f j).length (C j)], rfl, ⟨A j, C j, rfl, k2, k3⟩, fun i u hu => ?_⟩
   cases i with
   | zero =>
    obtain rfl := Option.some.inj hu
    show W.cell? (a.add (j * 1 + 0)) = _
    rw [Nat.mul_one, Nat.add_zero]
    exact k1
   | succ i => simp at hu
  ·intro r hr x hx
   obtain ⟨j, hj, rfl⟩ := List.mem_map.1 hr
   exact (hf j (List.mem_range.1 hj)).2.2.2.1 x hx
  ·rw [hy, List.map_map]
   have h1 := bulk_map (fun r => Go.Deep.intRow (H := H) .u8 (A r) (L r) (Z r)) (List.length ∘ f) (List.range len) fun r hr => (hf r (List.mem_range.1 hr)).2.2.2.2
   show _ ≤ Rows.uptoBulkAll _ + Rows.uptoBulkAll _ + 1
   omega
set_option maxHeartbeats 2000000 in
set_option maxRecDepth 100000 in
theorem lifted (os : Os) (started : os.Started) (H : Type) (enc : TypeId × Value → H) (F : Stop.Interp) :
  ReturnsInHanded {} Tryz.checked os 4 .any (fun w args => ((Rows.OpenSpec.upto Rows.shellQuotesSpec).pre enc Tryz.prog Tryz.f4 [] false w args ∧ laidMetH Tryz.prog laidL w) ∧ sizedMet enc Tryz.prog Tryz.f4 (Rows.OpenSpec.upto Rows.shellQuotesSpec) false w args)
   (((Rows.OpenSpec.upto Rows.shellQuotesSpec).at F).post enc Tryz.prog Tryz.f4 false true false false) := by
 refine handed_and_shaped_cond (C := Tryz.checked) (s := Rows.OpenSpec.upto Rows.shellQuotesSpec) (k := Rows.uptoSmall) rfl (X := fun w _ => laidMetH Tryz.prog laidL w) (fun _ _ _ hh h => h.of_heap hh) own started (by kernel_rfl) Tryz.func4
  (witness_shaped_cond (enc := enc) (C := Tryz.checked) (os := os) (s := Rows.OpenSpec.upto Rows.shellQuotesSpec) (k := Rows.uptoSmall) rfl (X := fun w _ => laidMetH Tryz.prog laidL w) false (World.laidAll Tryz.prog os laidL) #[.slice none 0 0, .string ByteArray.empty] 8 (World.laidAll_os _ _ _) (World.shaped_of_ZipB (by kernel_rfl) (by kernel_rfl)) (by kernel_rfl) (by kernel_rfl) (by kernel_rfl) (by rw [MakeChecks.laidMetH_plain _ _ _ (by kernel_rfl)]; exact laidMet_laidAll _ (by kernel_rfl) (by kernel_rfl))) ?_
 intro W base args ds gs before hval0 hW hsz0 hkk hL hsh
 have hval : ∀ (j : Nat) t v, Tryz.f4.params[j]? = some t → args[j]? = some v → Value.okWide Tryz.prog W .any base t v := hval0
 have hW' := hW
 obtain ⟨p, q, hA0, hV, rfl, hfz, hnd⟩ := hW
 have hA : DataW.TrodAll enc Tryz.prog W 0 (fun _ => true) true Tryz.f4.params.toList args.toList ds p := hA0
 rw [Tryz.params4] at hA hval
 obtain ⟨v0, vs0, d0, ds0, p0, q0, hargs, rfl, rfl, h0, r0⟩ := trodAll_cons hA
 obtain ⟨v1, vs1, d1, ds1, p1, q1, rfl, rfl, rfl, h1, r1⟩ := trodAll_cons r0
 obtain ⟨rfl, rfl, rfl⟩ := trodAll_nil r1
 obtain rfl : args = #[v0, v1] := by cases args; simp_all
 obtain ⟨rfl, rfl⟩ := trodVars_none hV
 have k0 := h0
 have lt0 : ∀ x ∈ p0, x.block < W.heap.size := by obtain ⟨m, hm⟩ := k0; exact DataW.trod_lt m _ _ _ hm
 obtain ⟨a1, rfl, rfl, rfl, y1⟩ := open_string Tryz.underlying9 (hval 1 9 v1 rfl rfl) h1
 obtain ⟨m0, t0⟩ := h0
 obtain ⟨sa, sl, sc, rfl⟩ := okWide_slice Tryz.underlying32 (hval 0 32 v0 rfl rfl)
 obtain ⟨A0, l0, c0, ev0, hr0, hc0, hw0, hb0⟩ := rows_of t0
 cases ev0
 have hbulk : Rows.uptoBulkAll (d0 :: DataW.lit (.string a1.data.toList) :: ([] : List (DataW H)) ++ []) ≤ 1048576 := of_decide_eq_true hkk
 have hb2 : Rows.uptoBulk d0 + ((a1.data.toList.length + 1) + 0) ≤ 1048576 := hbulk
 have hs0 : a1.data.toList.length = a1.size := by rw [Array.length_toList]; rfl
 simp only at hb0
 clear hA0 hval0 hsz0 hkk hbulk
 refine (walk _ _ l0 a1 W (by omega) hr0 hc0 hw0 (by omega) ⟨tab_of_met (by kernel_rfl) tab_listed hL, maxlen_of hsh⟩).mono fun e W' ⟨he, bel⟩ => ?_
 subst he
 exact ⟨_, rfl, _, _, _, [], _, [], hW', trodAll_mk1 (shut_bool Tryz.underlying4 _), (trodAll_cons_mk (Below.trod laidOut (by kernel_rfl) (of_decide_eq_true (by kernel_rfl)) k0 bel lt0) (trodAll_cons_mk (shut_string Tryz.underlying9 y1) trodAll_mk0)), rfl, bel.frame _, fun h => by cases h⟩
end Go.Proofs.YtccahbfbbaaicaaGreatDoor.shellQuotes
