/- Words of the walks: limbs that are read, limbs of the call's own; cuts, copies, stores. -/
import Derived.Test.YtklhpobphloehaaDoorProg
import Derived.Below
import Derived.Deep.Draws
import Derived.Deep.AppendLies
import Derived.Maps.AppendAt
import Derived.OwnWalk
import Derived.Laws.BytesArg
import Derived.Laws.MakeOwn
import Derived.Laws.OwnMore
import Derived.Deep.OwnRows
import Derived.Tactics
import Derived.Lib.ConvBytes
import Derived.Laws.Slices
import Derived.WalkKit
import Derived.KernelRfl
import Derived.RowKit3
import Derived.Deep.LoopGhost
import Derived.Deep.QuietTactic
import Derived.BigQuiet
import Derived.WideLaws
import Derived.WalkSpells
import Derived.Test.YtklhpobphloehaaDoorWWords
import Derived.Test.YtklhpobphloehaaDoorWLast
import Derived.Test.YtklhpobphloehaaDoorWMore
import Derived.Test.YtklhpobphloehaaDoorNum
set_option linter.unusedVariables false
namespace Go.Proofs.YtklhpobphloehaaDoor.G
open Go.RowKit Go.Proofs.YtklhpobphloehaaDoorW.PrintWords Go.Proofs.YtklhpobphloehaaDoorW.PrintLast Go.Proofs.YtklhpobphloehaaDoor.Nn

theorem infoU : (Tryd.prog.info? 54).map (fun i => (i.zero, i.size, i.bytes)) = some (some (.int .u32 0), 1, 4) := by kernel_rfl

/-- Limbs that are read; limbs of the call's own. -/
abbrev CU (w : World) (A : Option Addr) (n : Nat) (l : List Int) : Prop := Kd.C (Kd.int .u32) w A n l
abbrev RU (w : World) (base : Nat) (v : Value) (l : List Int) : Prop := Kd.R (Kd.int .u32) 54 w base (fun _ => True) v l

theorem RU_own {w : World} {base : Nat} {v : Value} {l : List Int} (h : w.ownsRow base 54 1 v l.length (nums .u32 l)) : RU w base v l :=
  Kd.R_of_own (enc := Value.int .u32) (h1 := fun _ => rfl) h (fun _ _ => trivial)
theorem own_RU {w : World} {base : Nat} {v : Value} {l : List Int} (h : RU w base v l) : w.ownsRow base 54 1 v l.length (nums .u32 l) := Kd.own_of_R h
theorem CU_reads {w : World} {A : Option Addr} {n : Nat} {l : List Int} (h : CU w A n l) : ReadsInt w .u32 A n l := Kd.reads_of_C (d := (0 : Int)) h
theorem reads_CU {w : World} {A : Option Addr} {n : Nat} {l : List Int} (h : ReadsInt w .u32 A n l) : CU w A n l := Kd.C_of_reads (d := (0 : Int)) (h1 := fun _ => rfl) h
theorem CU_below {w w1 : World} {A : Option Addr} {n : Nat} {l : List Int} (h : CU w A n l) (hb : Below w.heap.size w w1) : CU w1 A n l := Kd.C_below h hb
/-- A limb that is read, at a natural number's place. -/
theorem CU_at {w : World} {A : Option Addr} {n : Nat} {l : List Int} (h : CU w A n l) (i : Nat) (hi : i < n) : ∃ ad, A = some ad ∧ w.cell? (ad.add i) = some (.int .u32 (l.getD i 0)) := by
  obtain ⟨ad, e, hc⟩ := Kd.at_int h (i : Int) (by omega) (by omega)
  exact ⟨ad, e, by simpa [rd] using hc⟩

/-- 'a[:n]' as the walk has it. -/
theorem cut_h (A : Option Addr) (l c k : Nat) (hk : k ≤ c) (W : World) :
    (Instr.slice 22 (.slice A l c) none (some (.int .i64 (k : Int))) none).run Tryd.prog W = .ok (.slice A k c) W := by
  obtain ⟨i, hi, _, hsz, _⟩ := info_parts infoU
  have hel : Tryd.prog.elem 22 = 54 := by simp [Program.elem, Tryd.underlying22]
  have hu : Tryd.prog.underlying 22 = some (.slice (Tryd.prog.elem 22)) := by rw [hel]; exact Tryd.underlying22
  have ha : (A.map fun x => x.add 0) = A := by cases A <;> simp [Addr.add]
  rw [run_slice_h W 22 A l c hu .i64 k (by omega) (by omega), hel]
  simp [sizeOf, typeInfo, hi, hsz, sliced, Result.andThen, ha]
/-- 'a[:n:n]' as the walk has it. -/
theorem cut_hm (A : Option Addr) (l c k : Nat) (hk : k ≤ c) (W : World) :
    (Instr.slice 22 (.slice A l c) none (some (.int .i64 (k : Int))) (some (.int .i64 (k : Int)))).run Tryd.prog W = .ok (.slice A k k) W := by
  obtain ⟨i, hi, _, hsz, _⟩ := info_parts infoU
  have hel : Tryd.prog.elem 22 = 54 := by simp [Program.elem, Tryd.underlying22]
  have hu : Tryd.prog.underlying 22 = some (.slice (Tryd.prog.elem 22)) := by rw [hel]; exact Tryd.underlying22
  have ha : (A.map fun x => x.add 0) = A := by cases A <;> simp [Addr.add]
  rw [run_slice_hm W 22 A l c hu .i64 .i64 k k (by omega) (by omega) (by omega), hel]
  simp [sizeOf, typeInfo, hi, hsz, sliced, Result.andThen, ha]
theorem CU_take {w : World} {A : Option Addr} {l : List Int} (h : CU w A l.length l) (k : Nat) (hk : k ≤ l.length) : CU w A k (l.take k) := reads_CU ((CU_reads h).take_ k hk)
/-- 'make([]uint32, n)' as the walk has it. -/
theorem make_u (m : Nat) (hm : m ≤ 70368744177664) (W : World) :
    (Instr.makeSlice 22 (.int .i64 (m : Int)) (.int .i64 (m : Int))).run Tryd.prog W = .ok (.slice (some ⟨W.heap.size, 0, none⟩) m m) (W.alloc (.cells (madeCells #[.int .u32 0] m) 54)) :=
  print_make 22 54 .u32 4 Tryd.underlying22 infoU (by omega) m (by omega) W
theorem RU_made (W : World) (m : Nat) (hm : m ≤ 70368744177664) : RU (W.alloc (.cells (madeCells #[.int .u32 0] m) 54)) W.heap.size (.slice (some ⟨W.heap.size, 0, none⟩) m m) (List.replicate m 0) := by
  have h := own_made W W.heap.size 54 .u32 m (Nat.le_refl _) (by omega)
  refine RU_own ?_
  rw [List.length_replicate]
  exact h
section
variable {ops : Array Oper} {rest : List Oper} {o : Oper} {a : Act} {Q : Exit → Act → World → Prop}
/-- 'append([]T{}, s...)'. -/
theorem append_fresh (W : World) (hgd : o.guard = none) (s x : Operand) (ho : o.op = .call { callee := .builtin .append, args := #[s, x], argTypes := #[22, 22] })
    (A : Option Addr) (m c : Nat) (l : List Int) (hs : a.eval s = .slice (some ⟨W.heap.size, 0, none⟩) 0 0) (hx : a.eval x = .slice A m c) (hR : CU W A m l) (hm : m ≤ 35184372088832)
    (h : ∀ v1 w1, RU w1 W.heap.size v1 l → Below W.heap.size W w1 → wpList Tryd.prog ops Q rest (a.put o.dst v1) w1) :
    wpList Tryd.prog ops Q (o :: rest) a (W.alloc (.cells #[] 54)) := by
  refine Kd.R_append_rows (Kd.int .u32) (w0 := W) W.heap.size hgd s x 22 54 (.int .u32 0) 4 ho Tryd.underlying22 infoU rfl (by decide) (by omega)
    (.slice (some ⟨W.heap.size, 0, none⟩) 0 0) [] l A m c (fun _ => True) (fun _ => False) hs hx ?_ (Kd.C_below hR (below_alloc (Below.refl _ _) _)) (fun _ _ h => h) (fun _ h => h.elim) (fun _ _ => trivial) (below_alloc (Below.refl _ _) _) (by simp) (by simp; omega) ?_
  · exact Kd.R_of_own (enc := Value.int .u32) (h1 := fun _ => rfl) (own_lit W W.heap.size 54 .u32 [] (Nat.le_refl _) (by simp)) (fun _ _ => trivial)
  · intro v1 w1 hR1 hB1 _ _
    exact h v1 w1 hR1 hB1
end

/-- Limbs of the call's own, their block by its number: a limb is read, is written. -/
theorem RU_at {w : World} {base g n cap : Nat} {l : List Int} (h : RU w base (.slice (some ⟨g, 0, none⟩) n cap) l) (hn : l.length = n) (i : Nat) (hi : i < n) : w.cell? ⟨g, i, none⟩ = some (.int .u32 (l.getD i 0)) ∧ w.frozen? ⟨g, i, none⟩ = false := by
  subst hn
  have := own_at (own_RU h) (i : Int) (by omega) (by omega)
  simpa [rd] using this
theorem RU_set {w : World} {base g n cap : Nat} {l : List Int} (h : RU w base (.slice (some ⟨g, 0, none⟩) n cap) l) (hn : l.length = n) (i : Nat) (x : Int) : RU (w.setCell ⟨g, i, none⟩ (.int .u32 x)) base (.slice (some ⟨g, 0, none⟩) n cap) (l.set i x) := by
  subst hn
  have := (own_store (own_RU h) (i : Int) x).1
  refine RU_own ?_
  rw [List.length_set]
  simpa using this
theorem RU_drewN {w : World} {base : Nat} {v : Value} {l : List Int} (h : RU w base v l) (n : Nat) : RU (w.drewN n) base v l := Kd.R_drewN h n
theorem RU_below {w w1 : World} {base : Nat} {v : Value} {l : List Int} (h : RU w base v l) (hb : Below w.heap.size w w1) : RU w1 base v l := Kd.R_below h hb
theorem RU_lower {w : World} {base base' : Nat} {v : Value} {l : List Int} (h : RU w base v l) (hb : base' ≤ base) : RU w base' v l := Kd.R_lower h hb
theorem RU_slice {w : World} {base : Nat} {v : Value} {l : List Int} (h : RU w base v l) : ∃ A c, v = .slice A l.length c ∧ l.length ≤ c ∧ CU w A l.length l := Kd.R_reads h
theorem RU_block {w : World} {base : Nat} {v : Value} {l : List Int} (h : RU w base v l) (hp : 0 < l.length) : ∃ g c, v = .slice (some ⟨g, 0, none⟩) l.length c ∧ base ≤ g ∧ g < w.heap.size := by
  obtain ⟨g, c, e, h1, h2⟩ := (own_RU h).form hp
  exact ⟨g, c, e, h1, h2⟩
end Go.Proofs.YtklhpobphloehaaDoor.G
