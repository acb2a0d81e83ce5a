/- The law ShellQuotes: its walk. -/
import Derived.Test.YtccahbfbbaaicaaGreatDoorA24
import Derived.Test.YtccahbfbbaaicaaGreatDoorSQ
import Derived.Test.YtccahbfbbaaicaaGreatDoorS4
set_option linter.unusedVariables false
namespace Go.Proofs.YtccahbfbbaaicaaGreatDoor.shellQuotes
open Go.RowKit
open Go.Proofs.YtccahbfbbaaicaaGreatDoor.G Go.Proofs.YtccahbfbbaaicaaGreatDoor.Nn Go.Proofs.YtccahbfbbaaicaaGreatDoor.PQt Go.Proofs.YtccahbfbbaaicaaGreatDoor.Pq Go.Proofs.YtccahbfbbaaicaaGreatDoor.Abs Go.Proofs.YtccahbfbbaaicaaGreatDoorW.PrintWords Go.Proofs.YtccahbfbbaaicaaGreatDoorW.PrintLast
theorem bytes_nat8 : ∀ (l : List Int), (∀ x ∈ l, (Lit.int .u8 x).wf = true) → l = nat8 (l.map fun x => UInt8.ofNat x.toNat)
 | [], _ => rfl
 | x :: l, h => by
  have h1 := bytes_nat8 l fun y hy => h y (List.mem_cons_of_mem _ hy)
  have h2 := wf_u8 (h x List.mem_cons_self)
  rw [List.map_cons]
  show x :: l = ((UInt8.ofNat x.toNat).toNat : Int) :: nat8 (l.map fun x => UInt8.ofNat x.toNat)
  rw [← h1, UInt8.toNat_ofNat']
  congr 1
  omega
def rawB (l0 : List (List Int)) : List (List UInt8) := l0.map fun l => l.map fun x => UInt8.ofNat x.toNat
theorem rows_nat8 : ∀ (l0 : List (List Int)), (∀ l ∈ l0, ∀ x ∈ l, (Lit.int .u8 x).wf = true) → l0 = (rawB l0).map nat8
 | [], _ => rfl
 | l :: l0, h => by
  have h1 := rows_nat8 l0 fun y hy => h y (List.mem_cons_of_mem _ hy)
  have h2 := bytes_nat8 l (h l List.mem_cons_self)
  show l :: l0 = nat8 (l.map fun x => UInt8.ofNat x.toNat) :: (rawB l0).map nat8
  rw [← h1, ← h2]
theorem raw_total : ∀ (l0 : List (List Int)), total (rawB l0) = (l0.map List.length).sum
 | [] => rfl
 | l :: l0 => by
  have h := raw_total l0
  unfold total rawB at h ⊢
  simp only [List.map_cons, List.sum_cons, List.length_map] at h ⊢
  omega
theorem walk (A0 : Option Addr) (c0 : Nat) (l0 : List (List Int)) (a1 : ByteArray) (W : World) (h1 : a1.size ≤ 900000000) (hr0 : Kd.C (Kd.slice 5 (Kd.int .u8)) W A0 l0.length l0) (hc0 : l0.length ≤ c0) (hw : ∀ l ∈ l0, ∀ x ∈ l, (Lit.int .u8 x).wf = true) (ht : (l0.map List.length).sum ≤ 2000000) (hW : BaseOk W) :
  Calls Tryz.prog 4 #[.slice A0 l0.length c0, .string a1] W (TruePost W) := by
 obtain ⟨k, hk⟩ := quotes_true (rawB l0) (by rw [raw_total]; exact ht) a1 h1
 rw [← rows_nat8 l0 hw] at hk
 exact anticlinelaw18_ShellQuotes.calls k A0 c0 l0 a1 true W hr0 hc0 hk (fun wr hb => known_w wr (hW.below hb))
end Go.Proofs.YtccahbfbbaaicaaGreatDoor.shellQuotes
