/- What the printed walks of floats lean on: natural numbers' functions, on rows of limbs. -/
import Derived.Test.YtpegcppeobndcaaGreatDoorAb
import Derived.Test.YtpegcppeobndcaaGreatDoorS1
import Derived.Test.YtpegcppeobndcaaGreatDoorS2
set_option linter.unusedVariables false
namespace Go.Proofs.YtpegcppeobndcaaGreatDoor.Giv
open Go.RowKit YtpegcppeobndcaaGreatDoorW.PrintWords YtpegcppeobndcaaGreatDoorW.PrintLast Go.Proofs.YtpegcppeobndcaaGreatDoor.Nn Go.Proofs.YtpegcppeobndcaaGreatDoor.G
def numOf (l : List Int) : Option Nat := if digs (val l) = l ∧ val l < pw 900 then some (val l) else none
theorem numOf_digs {n : Nat} (h : n < pw 900) : numOf (digs n) = some n := by
 unfold numOf
 rw [val_digs, if_pos ⟨rfl, h⟩]
theorem numOf_ok {l : List Int} {n : Nat} (h : numOf l = some n) : l = digs n ∧ n < pw 1000 := by
 unfold numOf at h
 split at h
 ·rename_i hc
  cases h
  exact ⟨hc.1.symm, Nat.lt_of_lt_of_le hc.2 (pw_le Z5)⟩
 ·cases h
theorem numOf_nu {w : World} {A : Option Addr} {c n : Nat} {l : List Int} (hn : numOf l = some n) (hr : CU w A l.length l) (hc : l.length ≤ c) : Nu w (.slice A l.length c) n ∧ n < pw 1000 := by
 obtain ⟨rfl, hb⟩ := numOf_ok hn
 exact ⟨⟨A, c, rfl, hc, hr⟩, hb⟩
def nat_Of.f (v : Int) : Option (List Int) := if 0 ≤ v ∧ v < 18446744073709551616 then some (digs v.toNat) else none
theorem nat_Of.calls (a0 : Int) (r : List Int) (w : World) (h : nat_Of.f a0 = some r) : Calls Tryz.prog 25 #[.int .u64 a0] w fun e w' => ∃ v0_ : Value, e = .returned v0_ ∧ Kd.R (Kd.int .u32) 94 w' w.heap.size (fun _ => True) v0_ r ∧ Below w.heap.size w w' := by
 unfold nat_Of.f at h
 split at h
 ·rename_i hc
  cases h
  obtain ⟨n, rfl⟩ : ∃ n : Nat, a0 = (n : Int) := ⟨a0.toNat, by omega⟩
  rw [Int.toNat_natCast]
  exact of_w n w (by omega)
 ·cases h
def nat_Shl.f (l : List Int) (k : Int) : Option (List Int) := (numOf l).bind fun n => if 0 ≤ k ∧ k < 1048576 then some (digs (n * 2 ^ k.toNat)) else none
theorem nat_Shl.calls (A0 : Option Addr) (c0 : Nat) (l0 : List Int) (a1 : Int) (r : List Int) (w : World) (hr0 : Kd.C (Kd.int .u32) w A0 l0.length l0) (hc0 : l0.length ≤ c0) (h : nat_Shl.f l0 a1 = some r) :
  Calls Tryz.prog 56 #[.slice A0 l0.length c0, .int .i64 a1] w fun e w' => ∃ v0_ : Value, e = .returned v0_ ∧ Kd.R (Kd.int .u32) 94 w' w.heap.size (fun _ => True) v0_ r ∧ Below w.heap.size w w' := by
 unfold nat_Shl.f at h
 cases hn : numOf l0 with
 | none => rw [hn] at h; cases h
 | some n =>
  rw [hn] at h
  simp only [Option.bind_some] at h
  split at h
  ·rename_i hc
   cases h
   obtain ⟨rfl, hb⟩ := numOf_ok hn
   obtain ⟨k, rfl⟩ : ∃ k : Nat, a1 = (k : Int) := ⟨a1.toNat, by omega⟩
   have h := shl_w A0 c0 (digs n) (k / 32) (k % 32) w hr0 (lim_digs n) (small_len hb) (Nat.mod_lt _ Z5) (by omega)
   rw [val_digs, show 32 * (k / 32) + k % 32 = k from by omega] at h
   rw [Int.toNat_natCast]
   exact h
  ·cases h
def nat_Shr.f (l : List Int) (k : Int) : Option (List Int) := (numOf l).bind fun n => if 0 ≤ k ∧ k < 1048576 then some (digs (n / 2 ^ k.toNat)) else none
theorem nat_Shr.calls (A0 : Option Addr) (c0 : Nat) (l0 : List Int) (a1 : Int) (r : List Int) (w : World) (hr0 : Kd.C (Kd.int .u32) w A0 l0.length l0) (hc0 : l0.length ≤ c0) (h : nat_Shr.f l0 a1 = some r) :
  Calls Tryz.prog 118 #[.slice A0 l0.length c0, .int .i64 a1] w fun e w' => ∃ v0_ : Value, e = .returned v0_ ∧ Kd.R (Kd.int .u32) 94 w' w.heap.size (fun _ => True) v0_ r ∧ Below w.heap.size w w' := by
 unfold nat_Shr.f at h
 cases hn : numOf l0 with
 | none => rw [hn] at h; cases h
 | some n =>
  rw [hn] at h
  simp only [Option.bind_some] at h
  split at h
  ·rename_i hc
   cases h
   obtain ⟨rfl, hb⟩ := numOf_ok hn
   obtain ⟨k, rfl⟩ : ∃ k : Nat, a1 = (k : Int) := ⟨a1.toNat, by omega⟩
   have h := shr_w A0 c0 (digs n) (k / 32) (k % 32) w hr0 (lim_digs n) (small_len hb) (Nat.mod_lt _ Z5) (by omega)
   rw [val_digs, show 32 * (k / 32) + k % 32 = k from by omega] at h
   rw [Int.toNat_natCast]
   exact h
  ·cases h
def nat_Bits.f (l : List Int) : Option Int := (numOf l).bind fun n => some ((nbits n : Nat) : Int)
theorem nat_Bits.calls (A0 : Option Addr) (c0 : Nat) (l0 : List Int) (r : Int) (w : World) (hr0 : Kd.C (Kd.int .u32) w A0 l0.length l0) (hc0 : l0.length ≤ c0) (h : nat_Bits.f l0 = some r) :
  Calls Tryz.prog 67 #[.slice A0 l0.length c0] w fun e w' => e = .returned (.int .i64 r) ∧ Below w.heap.size w w' := by
 unfold nat_Bits.f at h
 cases hn : numOf l0 with
 | none => rw [hn] at h; cases h
 | some n =>
  rw [hn] at h
  cases h
  obtain ⟨h1, h2⟩ := numOf_nu hn hr0 hc0
  exact bitsN h1 h2
def nat_Cmp.f (l m : List Int) : Option Int := (numOf l).bind fun x => (numOf m).bind fun y => some (cmpZ x y)
theorem nat_Cmp.calls (A0 : Option Addr) (c0 : Nat) (l0 : List Int) (A1 : Option Addr) (c1 : Nat) (l1 : List Int) (r : Int) (w : World) (hr0 : Kd.C (Kd.int .u32) w A0 l0.length l0) (hc0 : l0.length ≤ c0) (hr1 : Kd.C (Kd.int .u32) w A1 l1.length l1) (hc1 : l1.length ≤ c1) (h : nat_Cmp.f l0 l1 = some r) :
  Calls Tryz.prog 27 #[.slice A0 l0.length c0, .slice A1 l1.length c1] w fun e w' => e = .returned (.int .i64 r) ∧ Below w.heap.size w w' := by
 unfold nat_Cmp.f at h
 cases hn : numOf l0 with
 | none => rw [hn] at h; cases h
 | some n =>
  cases hm : numOf l1 with
  | none => rw [hn, hm] at h; cases h
  | some m =>
   rw [hn, hm] at h
   cases h
   obtain ⟨h1, h2⟩ := numOf_nu hn hr0 hc0
   obtain ⟨h3, h4⟩ := numOf_nu hm hr1 hc1
   exact cmpN h1 h3 h2 h4
def nat_Sub.f (l m : List Int) : Option (List Int × Int) := (numOf l).bind fun x => (numOf m).bind fun y => some (digs (x - y), if x < y then 1 else 0)
theorem nat_Sub.calls (A0 : Option Addr) (c0 : Nat) (l0 : List Int) (A1 : Option Addr) (c1 : Nat) (l1 : List Int) (r1 : List Int) (r2 : Int) (w : World) (hr0 : Kd.C (Kd.int .u32) w A0 l0.length l0) (hc0 : l0.length ≤ c0) (hr1 : Kd.C (Kd.int .u32) w A1 l1.length l1) (hc1 : l1.length ≤ c1) (h : nat_Sub.f l0 l1 = some (r1, r2)) :
  Calls Tryz.prog 119 #[.slice A0 l0.length c0, .slice A1 l1.length c1] w fun e w' => ∃ v0_ : Value, e = .returned (.tuple #[v0_, .int .i64 r2]) ∧ Kd.R (Kd.int .u32) 94 w' w.heap.size (fun _ => True) v0_ r1 ∧ Below w.heap.size w w' := by
 unfold nat_Sub.f at h
 cases hn : numOf l0 with
 | none => rw [hn] at h; cases h
 | some n =>
  cases hm : numOf l1 with
  | none => rw [hn, hm] at h; cases h
  | some m =>
   rw [hn, hm] at h
   cases h
   obtain ⟨rfl, h2⟩ := numOf_ok hn
   obtain ⟨rfl, h4⟩ := numOf_ok hm
   have h := sub_w A0 A1 c0 c1 (digs n) (digs m) w hr0 hr1 (lim_digs n) (lim_digs m) (norm_digs n) (norm_digs m) (small_len h2) (small_len h4)
   rw [val_digs, val_digs] at h
   exact h
def nat_Add.f (l m : List Int) : Option (List Int) := (numOf l).bind fun x => (numOf m).bind fun y => some (digs (x + y))
theorem nat_Add.calls (A0 : Option Addr) (c0 : Nat) (l0 : List Int) (A1 : Option Addr) (c1 : Nat) (l1 : List Int) (r : List Int) (w : World) (hr0 : Kd.C (Kd.int .u32) w A0 l0.length l0) (hc0 : l0.length ≤ c0) (hr1 : Kd.C (Kd.int .u32) w A1 l1.length l1) (hc1 : l1.length ≤ c1) (h : nat_Add.f l0 l1 = some r) :
  Calls Tryz.prog 112 #[.slice A0 l0.length c0, .slice A1 l1.length c1] w fun e w' => ∃ v0_ : Value, e = .returned v0_ ∧ Kd.R (Kd.int .u32) 94 w' w.heap.size (fun _ => True) v0_ r ∧ Below w.heap.size w w' := by
 unfold nat_Add.f at h
 cases hn : numOf l0 with
 | none => rw [hn] at h; cases h
 | some n =>
  cases hm : numOf l1 with
  | none => rw [hn, hm] at h; cases h
  | some m =>
   rw [hn, hm] at h
   cases h
   obtain ⟨rfl, h2⟩ := numOf_ok hn
   obtain ⟨rfl, h4⟩ := numOf_ok hm
   have h := add_w A0 A1 c0 c1 (digs n) (digs m) w hr0 hr1 (lim_digs n) (lim_digs m) (small_len h2) (small_len h4)
   rw [val_digs, val_digs] at h
   exact h
def nat_Small.f (l : List Int) : Option (Int × Bool) := (numOf l).bind fun n => some (((smV n : Nat) : Int), decide (n < 18446744073709551616))
theorem nat_Small.calls (A0 : Option Addr) (c0 : Nat) (l0 : List Int) (r1 : Int) (r2 : Bool) (w : World) (hr0 : Kd.C (Kd.int .u32) w A0 l0.length l0) (hc0 : l0.length ≤ c0) (h : nat_Small.f l0 = some (r1, r2)) :
  Calls Tryz.prog 71 #[.slice A0 l0.length c0] w fun e w' => e = .returned (.tuple #[.int .u64 r1, .bool r2]) ∧ Below w.heap.size w w' := by
 unfold nat_Small.f at h
 cases hn : numOf l0 with
 | none => rw [hn] at h; cases h
 | some n =>
  rw [hn] at h
  cases h
  obtain ⟨h1, h2⟩ := numOf_nu hn hr0 hc0
  exact smallN h1 h2
end Go.Proofs.YtpegcppeobndcaaGreatDoor.Giv
