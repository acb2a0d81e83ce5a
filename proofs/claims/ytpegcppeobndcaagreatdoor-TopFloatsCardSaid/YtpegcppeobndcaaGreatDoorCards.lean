/-
  DERIVED. GIVEN WITH THE SEED: THE CARDS: each row of YtpegcppeobndcaaGreatDoorRows.lean that lists a variable, with what it lists TIED to the program's text (the seventh form; the later family's looks); each row that meets fmt, with fmt's text TOLD by the authors' own Lean function (tested against real Go, not proved from fmt's source: count such statements apart). THE CARD IS WHAT COUNTS. Prove the row's statement (the work); the ties are given (YtpegcppeobndcaaGreatDoorTie.lean); close each card by the builder's one call (the guide's Derived/Test/ToyasCard.lean, 'card_holds'). Laid BY PROGRAM, IN A SANDBOX (cutbox-door.mjs). By AI agents, Wed Nov 11 2026. No macro, syntax, notation, axiom, sorry.
-/
import Derived.Test.YtpegcppeobndcaaGreatDoorRows
import GoSem.ClaimSeven
namespace Go.Proofs.YtpegcppeobndcaaGreatDoor
namespace Rows

/-- THE TIED CARD OF 'anticlinetop.TopFloats'. -/
def topFloatsCard : Claim7 := { stood := { row := topFloatsRow, standIns := [], harness := (true, "2dae938ccc4d72d6c1ba9c81ef10955ce6a1846af6d7c26c2cc942541451a6b4"), looks := false }, kinds := [], alts := [], laidByText := true, laidKinds := [.data, .data, .data, .data, .pinned], laidTests := true, laidLooks := .later }
def TopFloatsCardSaid : Prop := Claim7.holds Tryz.pinned (.plain (OpenSpec.ofChange topFloatsSpec)) topFloatsCard

/-- THE SECOND FORM's CARD OF 'anticlinetop.TopFloats'. -/
def topFloatsUptoCard : Claim7 := { stood := { row := topFloatsUptoRow, standIns := [], harness := (true, "2dae938ccc4d72d6c1ba9c81ef10955ce6a1846af6d7c26c2cc942541451a6b4"), looks := false }, kinds := [], alts := [], laidByText := true, laidKinds := [.data, .data, .data, .data, .pinned], laidTests := true, laidLooks := .later }
def TopFloatsUptoCardSaid : Prop := Claim7.holds Tryz.pinned (.plain (OpenSpec.upto topFloatsSpec)) topFloatsUptoCard
end Rows
end Go.Proofs.YtpegcppeobndcaaGreatDoor
