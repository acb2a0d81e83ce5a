/- The small machine's further oracles: natural numbers' shifts, quotients, differences, and a number out of two. -/
import Derived.Test.YtglgakcdjdhonaaGreatDoorSF
import Derived.Test.YtglgakcdjdhonaaGreatDoorS5
import Derived.Test.YtglgakcdjdhonaaGreatDoorS3
import Derived.Test.YtglgakcdjdhonaaGreatDoorS1
set_option linter.unusedVariables false
namespace Go.Proofs.YtglgakcdjdhonaaGreatDoor.Abs
open Go.RowKit Go.Proofs.YtglgakcdjdhonaaGreatDoorW.PrintWords Go.Proofs.YtglgakcdjdhonaaGreatDoorW.PrintLast Go.Proofs.YtglgakcdjdhonaaGreatDoor.Nn Go.Proofs.YtglgakcdjdhonaaGreatDoor.G
def bndN (n : Nat) : Bool := Nat.ble (n + 1) (pw 200)
def orN1k (f : Nat → Nat → Nat) (args : Array Value) (A : AW) : Option (Value × AW) := match args with
 | ⟨[a, .int .i64 (.ofNat k)]⟩ => match rdN A a with
  | some x => if bndN x && Nat.ble k 10000 then some (wrN A (f x k)) else none
  | none => none
 | _ => none
def orSubN (args : Array Value) (A : AW) : Option (Value × AW) := match args with
 | ⟨[a, b]⟩ => match rdN A a, rdN A b with
  | some x, some y => if bndN x && bndN y && Nat.ble y x then some (.tuple #[(wrN A (x - y)).1, .int .i64 0], (wrN A (x - y)).2) else none
  | _, _ => none
 | _ => none
def orDivN (args : Array Value) (A : AW) : Option (Value × AW) := match args with
 | ⟨[a, b]⟩ => match rdN A a, rdN A b with
  | some x, some y => if bndN x && bndN y && Nat.ble 1 y then some (.tuple #[(wrN A (x / y)).1, (wrN (wrN A (x / y)).2 (x % y)).1, .int .i64 0], (wrN (wrN A (x / y)).2 (x % y)).2) else none
  | _, _ => none
 | _ => none
def orMake (args : Array Value) (A : AW) : Option (Value × AW) := match args with
 | ⟨[.bool g, a, b]⟩ => match rdN A a, rdN A b with
  | some x, some y => if bndN x && bndN y && Nat.ble 1 y then some (.tuple #[(wrR A (mkRat (sg g x) y)).1, .int .i64 0], (wrR A (mkRat (sg g x) y)).2) else none
  | _, _ => none
 | _ => none
def oracF : Orac := fun f => match f with
 | 212 => some (orN1k fun x k => x * 2 ^ k)
 | 216 => some (orN1k fun x k => x / 2 ^ k)
 | 178 => some orSubN
 | 183 => some orDivN
 | 118 => some orMake
 | f => orac f
theorem AR.three {ρ : Ren} {a b c : Value} {args' : Array Value} (h : AR ρ ⟨[a, b, c]⟩ args') : ∃ a' b' c', args' = #[a', b', c'] ∧ VR ρ a a' ∧ VR ρ b b' ∧ VR ρ c c' := by
 obtain ⟨l⟩ := args'
 cases h with
 | cons h t =>
  cases t with
  | cons h2 t =>
   cases t with
   | cons h3 t => cases t; exact ⟨_, _, _, rfl, h, h2, h3⟩
theorem bndN_ok {n : Nat} (h : bndN n = true) : n < pw 1000 := Nat.lt_of_lt_of_le (Nat.le_of_ble_eq_true h) (pw_le (by decide))
theorem back_nat {ρ : Ren} {A : AW} {w w1 : World} (h : Rel ρ A w) {v' : Value} {n : Nat} (hn : Nu w1 v' n) (hb : Below w.heap.size w w1) : ∃ ρ1, Rel ρ1 (wrN A n).2 w1 ∧ Fr ρ A w ρ1 (wrN A n).2 w1 ∧ VR ρ1 (wrN A n).1 v' ∧ Ext ρ ρ1 := by
 obtain ⟨r1, f1⟩ := h.below hb
 obtain ⟨ρ1, r2, f2, v2, x2⟩ := wrN_ok r1 hn
 exact ⟨ρ1, r2, f1.trans f2, v2, x2⟩
theorem ent_n1k {W0 : World} {f : FuncId} {q : Nat → Nat → Nat} (hC : ∀ (w : World) (v : Value) (x k y : Nat), y = q x k → Nu w v x → x < pw 1000 → k < 1048576 → Calls Tryz.prog f #[v, .int .i64 (k : Int)] w (NuPost w y)) : OEnt W0 f (orN1k q) := by
 intro args A v A1 h ρ w args' ha hr hb
 unfold orN1k at h
 split at h
 ·rename_i a k
  split at h
  ·rename_i x hx
   split at h
   ·rename_i hbx
    rw [Bool.and_eq_true] at hbx
    obtain ⟨a', b', rfl, va, vb⟩ := ha.two
    cases vb
    generalize hz : q x k = z at h
    have e := Option.some.inj h
    refine (hC w a' x k z hz.symm (rdN_ok hr hx va) (bndN_ok hbx.1) (Nat.lt_of_le_of_lt (Nat.le_of_ble_eq_true hbx.2) (by decide))).mono ?_
    rintro e1 w1 ⟨v', rfl, hv, hB⟩
    obtain ⟨ρ1, k1, k2, k3, _⟩ := back_nat hr hv hB
    rw [e] at k1 k2 k3
    exact ⟨ρ1, v', rfl, k1, k2, k3⟩
   ·cases h
  ·cases h
 ·cases h
theorem ent_subN {W0 : World} : OEnt W0 178 orSubN := by
 intro args A v A1 h ρ w args' ha hr hb
 unfold orSubN at h
 split at h
 ·rename_i a b
  split at h
  ·rename_i x y hx hy
   split at h
   ·rename_i hbx
    rw [Bool.and_eq_true, Bool.and_eq_true] at hbx
    obtain ⟨a', b', rfl, va, vb⟩ := ha.two
    have hle := Nat.le_of_ble_eq_true hbx.2
    have hC := subN (rdN_ok hr hx va) (rdN_ok hr hy vb) (bndN_ok hbx.1.1) (bndN_ok hbx.1.2)
    rw [if_neg (by omega)] at hC
    generalize hz : x - y = z at h hC
    cases h
    refine hC.mono ?_
    rintro e1 w1 ⟨v', rfl, hv, hB⟩
    obtain ⟨ρ1, k1, k2, k3, _⟩ := back_nat hr hv hB
    exact ⟨ρ1, _, rfl, k1, k2, .tupleL (.cons k3 (.cons (.int _ _) .nil))⟩
   ·cases h
  ·cases h
 ·cases h
theorem ent_divN {W0 : World} : OEnt W0 183 orDivN := by
 intro args A v A1 h ρ w args' ha hr hb
 unfold orDivN at h
 split at h
 ·rename_i a b
  split at h
  ·rename_i x y hx hy
   split at h
   ·rename_i hbx
    rw [Bool.and_eq_true, Bool.and_eq_true] at hbx
    obtain ⟨a', b', rfl, va, vb⟩ := ha.two
    have hle := Nat.le_of_ble_eq_true hbx.2
    have hC := divP (rdN_ok hr hx va) (rdN_ok hr hy vb) (bndN_ok hbx.1.1) (bndN_ok hbx.1.2) (by omega)
    generalize hz : x / y = z at h hC
    generalize hz2 : x % y = z2 at h hC
    cases h
    refine hC.mono ?_
    rintro e1 w1 ⟨vq, vr, rfl, hq, hr2, hB⟩
    obtain ⟨ρ1, k1, k2, k3, k4⟩ := back_nat hr hq hB
    obtain ⟨ρ2, m1, m2, m3, m4⟩ := wrN_ok k1 hr2
    exact ⟨ρ2, _, rfl, m1, k2.trans m2, .tupleL (.cons (k3.mono m4) (.cons m3 (.cons (.int _ _) .nil)))⟩
   ·cases h
  ·cases h
 ·cases h
theorem ent_make {W0 : World} : OEnt W0 118 orMake := by
 intro args A v A1 h ρ w args' ha hr hb
 unfold orMake at h
 split at h
 ·rename_i g a b
  split at h
  ·rename_i x y hx hy
   split at h
   ·rename_i hbx
    rw [Bool.and_eq_true, Bool.and_eq_true] at hbx
    obtain ⟨g', a', b', rfl, vg, va, vb⟩ := ha.three
    cases vg
    have h1 := Nat.le_of_ble_eq_true hbx.2
    have hd : y ≠ 0 := by omega
    have hC := qmake_w g (rdN_ok hr hx va) (rdN_ok hr hy vb) (bndN_ok hbx.1.1) (bndN_ok hbx.1.2) hd
    generalize hz : mkRat (sg g x) y = z at h
    cases h
    refine hC.mono ?_
    intro e1 w1 hp
    obtain ⟨v', rfl, hv, hB⟩ := low_ratE hd hz.symm hp
    obtain ⟨ρ1, k1, k2, k3⟩ := back_num hr hv hB
    exact ⟨ρ1, _, rfl, k1, k2, .tupleL (.cons k3 (.cons (.int _ _) .nil))⟩
   ·cases h
  ·cases h
 ·cases h
theorem oracF_ok {W0 : World} (hW : BaseOk W0) : OOk Tryz.prog W0 oracF := by
 intro f g h
 by_cases h1 : orac f = some g
 ·exact orac_ok hW f g h1
 ·have key : OEnt W0 f g := by
   unfold oracF at h
   split at h
   ·cases h; exact ent_n1k fun w v x k y hz hx bx hk => hz ▸ shlN hx bx k hk
   ·cases h; exact ent_n1k fun w v x k y hz hx bx hk => hz ▸ shrN hx bx k hk
   ·cases h; exact ent_subN
   ·cases h; exact ent_divN
   ·cases h; exact ent_make
   ·exact absurd h h1
  exact key
end Go.Proofs.YtglgakcdjdhonaaGreatDoor.Abs
