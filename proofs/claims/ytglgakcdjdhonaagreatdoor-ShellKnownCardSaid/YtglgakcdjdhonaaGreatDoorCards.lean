/-
  DERIVED. GIVEN WITH THE SEED: THE CARDS: each row of YtglgakcdjdhonaaGreatDoorRows.lean that lists a variable, with what it lists TIED to the program's text (the seventh form; the later family's looks); each row that meets fmt, with fmt's text TOLD by the authors' own Lean function (tested against real Go, not proved from fmt's source: count such statements apart). THE CARD IS WHAT COUNTS. Prove the row's statement (the work); the ties are given (YtglgakcdjdhonaaGreatDoorTie.lean); close each card by the builder's one call (the guide's Derived/Test/ToyasCard.lean, 'card_holds'). Laid BY PROGRAM, IN A SANDBOX (cutbox-door.mjs). By AI agents, Wed Nov 11 2026. No macro, syntax, notation, axiom, sorry.
-/
import Derived.Test.YtglgakcdjdhonaaGreatDoorRows
import GoSem.ClaimSeven
namespace Go.Proofs.YtglgakcdjdhonaaGreatDoor
namespace Rows

/-- THE TIED CARD OF 'anticlinelaw18.ShellKnown'. -/
def shellKnownCard : Claim7 := { stood := { row := shellKnownRow, standIns := [], harness := (true, "85c4f9df3940b26bbb73c1844769dbcfa0f550b2fac143c468abcd408ff0daa6"), looks := true }, kinds := [], alts := [], laidByText := true, laidKinds := [.data, .data, .data, .data, .sentinel, .sentinel, .pinned], laidTests := true, laidLooks := .later }
def ShellKnownCardSaid : Prop := Claim7.holds Tryz.pinned (.plain (OpenSpec.ofChange shellKnownSpec)) shellKnownCard

/-- THE TIED CARD OF 'anticlinelaw18.ShellSums'. -/
def shellSumsCard : Claim7 := { stood := { row := shellSumsRow, standIns := [], harness := (true, "85c4f9df3940b26bbb73c1844769dbcfa0f550b2fac143c468abcd408ff0daa6"), looks := true }, kinds := [], alts := [], laidByText := true, laidKinds := [.data, .data, .data, .data, .sentinel, .sentinel, .pinned], laidTests := true, laidLooks := .later }
def ShellSumsCardSaid : Prop := Claim7.holds Tryz.pinned (.plain (OpenSpec.ofChange shellSumsSpec)) shellSumsCard

/-- THE SECOND FORM's CARD OF 'anticlinelaw18.ShellKnown'. -/
def shellKnownUptoCard : Claim7 := { stood := { row := shellKnownUptoRow, standIns := [], harness := (true, "85c4f9df3940b26bbb73c1844769dbcfa0f550b2fac143c468abcd408ff0daa6"), looks := true }, kinds := [], alts := [], laidByText := true, laidKinds := [.data, .data, .data, .data, .sentinel, .sentinel, .pinned], laidTests := true, laidLooks := .later }
def ShellKnownUptoCardSaid : Prop := Claim7.holds Tryz.pinned (.plain (OpenSpec.upto shellKnownSpec)) shellKnownUptoCard

/-- THE SECOND FORM's CARD OF 'anticlinelaw18.ShellSums'. -/
def shellSumsUptoCard : Claim7 := { stood := { row := shellSumsUptoRow, standIns := [], harness := (true, "85c4f9df3940b26bbb73c1844769dbcfa0f550b2fac143c468abcd408ff0daa6"), looks := true }, kinds := [], alts := [], laidByText := true, laidKinds := [.data, .data, .data, .data, .sentinel, .sentinel, .pinned], laidTests := true, laidLooks := .later }
def ShellSumsUptoCardSaid : Prop := Claim7.holds Tryz.pinned (.plain (OpenSpec.upto shellSumsSpec)) shellSumsUptoCard
end Rows
end Go.Proofs.YtglgakcdjdhonaaGreatDoor
