/- What the shell answers to each of twenty-six scripts, in whatever world. -/
import Derived.Test.YtglgakcdjdhonaaGreatDoorA25
import Derived.Test.YtglgakcdjdhonaaGreatDoorKRa
import Derived.Test.YtglgakcdjdhonaaGreatDoorKRb
import Derived.Test.YtglgakcdjdhonaaGreatDoorKRc
import Derived.Test.YtglgakcdjdhonaaGreatDoorKRd
import Derived.Test.YtglgakcdjdhonaaGreatDoorKRe
import Derived.Test.YtglgakcdjdhonaaGreatDoorKRf
import Derived.Test.YtglgakcdjdhonaaGreatDoorKRg
import Derived.Test.YtglgakcdjdhonaaGreatDoorKRh
import Derived.Test.YtglgakcdjdhonaaGreatDoorKRi
import Derived.Test.YtglgakcdjdhonaaGreatDoorKRj
set_option linter.unusedVariables false
namespace Go.Proofs.YtglgakcdjdhonaaGreatDoor.Abs
open Go.RowKit Go.Proofs.YtglgakcdjdhonaaGreatDoor.G
theorem krEq_eq : ∀ {l m : List UInt8}, eqList (fun (x y : UInt8) => decide (x = y)) l m = true → l = m
 | [], [], _ => rfl
 | [], _ :: _, h => by cases h
 | _ :: _, [], h => by cases h
 | x :: l, y :: m, h => by
  unfold eqList at h
  rw [Bool.and_eq_true] at h
  rw [of_decide_eq_true h.1, krEq_eq h.2]
theorem strEq_ok {r : Option (Value × AW)} {l : List UInt8} (h : strEq r l = true) : ∃ A1, r = some (.string (bytesOf l), A1) := by
 unfold strEq at h
 split at h
 ·rename_i s A1
  refine ⟨A1, ?_⟩
  rw [← krEq_eq h]
  rfl
 ·cases h
theorem str_call {O : Orac} (hO : ∀ {W0 : World}, BaseOk W0 → OOk Tryz.prog W0 O) {f : FuncId} {n : Nat} {s : ByteArray} {l : List UInt8} (h : strEq (evF Tryz.prog O n f #[.string s] AW.empty) l = true) (w : World) (hW : BaseOk w) :
  Calls Tryz.prog f #[.string s] w (fun e w' => e = .returned (.string (bytesOf l)) ∧ Below w.heap.size w w') := by
 obtain ⟨A1, h⟩ := strEq_ok h
 refine (closed_call good (hO hW) drawn n (args := #[.string s]) (AR.of rfl fun j h1 _ => ?_) h).mono ?_
 ·obtain rfl : j = 0 := by simp at h1; omega
  exact .string s
 ·rintro e w1 ⟨ρ1, v', rfl, hr, hf, hv⟩
  cases hv
  exact ⟨rfl, base_below hf⟩
theorem krun_all : ∀ i : Nat, i < 26 → ∀ (w : World), BaseOk w → Calls Tryz.prog 7 #[.string (bytesOf (kscr i))] w (fun e w' => e = .returned (.string (bytesOf (kans i))) ∧ Below w.heap.size w w')
 | 0, _ => str_call orac_ok krun0
 | 1, _ => str_call orac_ok krun1
 | 2, _ => str_call orac_ok krun2
 | 3, _ => str_call orac_ok krun3
 | 4, _ => str_call orac_ok krun4
 | 5, _ => str_call orac_ok krun5
 | 6, _ => str_call orac_ok krun6
 | 7, _ => str_call orac_ok krun7
 | 8, _ => str_call orac_ok krun8
 | 9, _ => str_call orac_ok krun9
 | 10, _ => str_call orac_ok krun10
 | 11, _ => str_call orac_ok krun11
 | 12, _ => str_call orac_ok krun12
 | 13, _ => str_call oracF_ok krun13
 | 14, _ => str_call orac_ok krun14
 | 15, _ => str_call orac_ok krun15
 | 16, _ => str_call orac_ok krun16
 | 17, _ => str_call orac_ok krun17
 | 18, _ => str_call orac_ok krun18
 | 19, _ => str_call orac_ok krun19
 | 20, _ => str_call orac_ok krun20
 | 21, _ => str_call orac_ok krun21
 | 22, _ => str_call orac_ok krun22
 | 23, _ => str_call orac_ok krun23
 | 24, _ => str_call orac_ok krun24
 | 25, _ => str_call orac_ok krun25
 | _ + 26, h => absurd h (by omega)
end Go.Proofs.YtglgakcdjdhonaaGreatDoor.Abs
