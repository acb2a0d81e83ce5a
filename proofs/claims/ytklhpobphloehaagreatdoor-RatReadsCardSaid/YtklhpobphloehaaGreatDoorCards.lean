/-
  DERIVED. GIVEN WITH THE SEED: THE CARDS: each row of YtklhpobphloehaaGreatDoorRows.lean that lists a variable, with what it lists TIED to the program's text (the seventh form; the later family's looks); each row that meets fmt, with fmt's text TOLD by the authors' own Lean function (tested against real Go, not proved from fmt's source: count such statements apart). THE CARD IS WHAT COUNTS. Prove the row's statement (the work); the ties are given (YtklhpobphloehaaGreatDoorTie.lean); close each card by the builder's one call (the guide's Derived/Test/ToyasCard.lean, 'card_holds'). Laid BY PROGRAM, IN A SANDBOX (cutbox-door.mjs). By AI agents, Wed Nov 11 2026. No macro, syntax, notation, axiom, sorry.
-/
import Derived.Test.YtklhpobphloehaaGreatDoorRows
import GoSem.ClaimSeven
namespace Go.Proofs.YtklhpobphloehaaGreatDoor
namespace Rows

/-- THE TIED CARD OF 'anticlinelaw2.RatSums'. -/
def ratSumsCard : Claim7 := { stood := { row := ratSumsRow, standIns := [], harness := (true, "c103850d641a6b9c5c9682778731ce0276b6592ba816a3c4b37c13385c2d24cf"), looks := false }, kinds := [], alts := [], laidByText := true, laidKinds := [.data, .data, .data], laidTests := true, laidLooks := .later }
def RatSumsCardSaid : Prop := Claim7.holds Tryz.pinned (.plain (OpenSpec.ofChange ratSumsSpec)) ratSumsCard

/-- THE TIED CARD OF 'anticlinelaw2.RatReads'. -/
def ratReadsCard : Claim7 := { stood := { row := ratReadsRow, standIns := [], harness := (true, "c103850d641a6b9c5c9682778731ce0276b6592ba816a3c4b37c13385c2d24cf"), looks := false }, kinds := [], alts := [], laidByText := true, laidKinds := [.data, .data, .data, .data, .pinned], laidTests := true, laidLooks := .later }
def RatReadsCardSaid : Prop := Claim7.holds Tryz.pinned (.plain (OpenSpec.ofChange ratReadsSpec)) ratReadsCard

/-- THE SECOND FORM's CARD OF 'anticlinelaw2.RatSums'. -/
def ratSumsUptoCard : Claim7 := { stood := { row := ratSumsUptoRow, standIns := [], harness := (true, "c103850d641a6b9c5c9682778731ce0276b6592ba816a3c4b37c13385c2d24cf"), looks := false }, kinds := [], alts := [], laidByText := true, laidKinds := [.data, .data, .data], laidTests := true, laidLooks := .later }
def RatSumsUptoCardSaid : Prop := Claim7.holds Tryz.pinned (.plain (OpenSpec.upto ratSumsSpec)) ratSumsUptoCard

/-- THE SECOND FORM's CARD OF 'anticlinelaw2.RatReads'. -/
def ratReadsUptoCard : Claim7 := { stood := { row := ratReadsUptoRow, standIns := [], harness := (true, "c103850d641a6b9c5c9682778731ce0276b6592ba816a3c4b37c13385c2d24cf"), looks := false }, kinds := [], alts := [], laidByText := true, laidKinds := [.data, .data, .data, .data, .pinned], laidTests := true, laidLooks := .later }
def RatReadsUptoCardSaid : Prop := Claim7.holds Tryz.pinned (.plain (OpenSpec.upto ratReadsSpec)) ratReadsUptoCard
end Rows
end Go.Proofs.YtklhpobphloehaaGreatDoor
