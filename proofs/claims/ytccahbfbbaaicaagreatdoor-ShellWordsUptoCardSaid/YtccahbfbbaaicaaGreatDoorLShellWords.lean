/- The law ShellWords: its walk. -/
import Derived.Test.YtccahbfbbaaicaaGreatDoorA24
import Derived.Test.YtccahbfbbaaicaaGreatDoorSG
import Derived.Test.YtccahbfbbaaicaaGreatDoorS4
set_option linter.unusedVariables false
namespace Go.Proofs.YtccahbfbbaaicaaGreatDoor.shellWords
open Go.RowKit
open Go.Proofs.YtccahbfbbaaicaaGreatDoor.G Go.Proofs.YtccahbfbbaaicaaGreatDoor.Nn Go.Proofs.YtccahbfbbaaicaaGreatDoor.PWd Go.Proofs.YtccahbfbbaaicaaGreatDoor.Pw Go.Proofs.YtccahbfbbaaicaaGreatDoor.Abs Go.Proofs.YtccahbfbbaaicaaGreatDoorW.PrintWords Go.Proofs.YtccahbfbbaaicaaGreatDoorW.PrintLast
theorem bytes_nat8 : ∀ (l : List Int), (∀ x ∈ l, (Lit.int .u8 x).wf = true) → l = nat8 (l.map fun x => UInt8.ofNat x.toNat)
 | [], _ => rfl
 | x :: l, h => by
  have h1 := bytes_nat8 l fun y hy => h y (List.mem_cons_of_mem _ hy)
  have h2 := wf_u8 (h x List.mem_cons_self)
  rw [List.map_cons]
  show x :: l = ((UInt8.ofNat x.toNat).toNat : Int) :: nat8 (l.map fun x => UInt8.ofNat x.toNat)
  rw [← h1, UInt8.toNat_ofNat']
  congr 1
  omega
theorem walk (a0 : ByteArray) (A1 : Option Addr) (c1 : Nat) (l1 : List Int) (W : World) (h0 : a0.size ≤ 1000000000) (hr1 : Kd.C (Kd.int .u8) W A1 l1.length l1) (hc1 : l1.length ≤ c1) (hw1 : ∀ x ∈ l1, (Lit.int .u8 x).wf = true) (hl1 : l1.length < 4000000000) (hW : BaseOk W) :
  Calls Tryz.prog 3 #[.string a0, .slice A1 l1.length c1] W (TruePost W) := by
 have e := bytes_nat8 l1 hw1
 obtain ⟨bl, hbl⟩ : ∃ bl, bl = l1.map fun x => UInt8.ofNat x.toNat := ⟨_, rfl⟩
 rw [← hbl] at e
 have hlen : bl.length < 4000000000 := by rw [hbl, List.length_map]; exact hl1
 obtain ⟨k, hk⟩ := law_true a0 h0 bl hlen
 rw [← e] at hk
 exact anticlinelaw18_ShellWords.calls k a0 A1 c1 l1 true W hr1 hc1 hk (fun wr hb => known_w wr (hW.below hb))
end Go.Proofs.YtccahbfbbaaicaaGreatDoor.shellWords
