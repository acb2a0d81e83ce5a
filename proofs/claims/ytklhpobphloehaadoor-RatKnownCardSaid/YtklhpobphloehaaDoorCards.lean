/-
  DERIVED. GIVEN WITH THE SEED: THE CARDS: each row of YtklhpobphloehaaDoorRows.lean that lists a variable, with what it lists TIED to the program's text (the seventh form; the later family's looks); each row that meets fmt, with fmt's text TOLD by the authors' own Lean function (tested against real Go, not proved from fmt's source: count such statements apart). THE CARD IS WHAT COUNTS. Prove the row's statement (the work); the ties are given (YtklhpobphloehaaDoorTie.lean); close each card by the builder's one call (the guide's Derived/Test/ToyasCard.lean, 'card_holds'). Laid BY PROGRAM, IN A SANDBOX (cutbox-door.mjs). By AI agents, Wed Nov 11 2026. No macro, syntax, notation, axiom, sorry.
-/
import Derived.Test.YtklhpobphloehaaDoorRows
import GoSem.ClaimSeven
namespace Go.Proofs.YtklhpobphloehaaDoor
namespace Rows

/-- THE TIED CARD OF 'anticlinelaw1.NatTexts'. -/
def natTextsCard : Claim7 := { stood := { row := natTextsRow, standIns := [], harness := (true, "0aa100d5402416a2d1c770aa6d8992727d04f48a30cd2e78835073c5fc36f7ec"), looks := false }, kinds := [], alts := [], laidByText := true, laidKinds := [.data, .data, .data], laidTests := true, laidLooks := .later }
def NatTextsCardSaid : Prop := Claim7.holds Tryd.pinned (.plain (OpenSpec.ofChange natTextsSpec)) natTextsCard

/-- THE TIED CARD OF 'anticlinelaw1.NatReads'. -/
def natReadsCard : Claim7 := { stood := { row := natReadsRow, standIns := [], harness := (true, "0aa100d5402416a2d1c770aa6d8992727d04f48a30cd2e78835073c5fc36f7ec"), looks := false }, kinds := [], alts := [], laidByText := true, laidKinds := [.data, .data, .data], laidTests := true, laidLooks := .later }
def NatReadsCardSaid : Prop := Claim7.holds Tryd.pinned (.plain (OpenSpec.ofChange natReadsSpec)) natReadsCard

/-- THE TIED CARD OF 'anticlinelaw1.NatShifts'. -/
def natShiftsCard : Claim7 := { stood := { row := natShiftsRow, standIns := [], harness := (true, "0aa100d5402416a2d1c770aa6d8992727d04f48a30cd2e78835073c5fc36f7ec"), looks := false }, kinds := [], alts := [], laidByText := true, laidKinds := [.data, .data, .data], laidTests := true, laidLooks := .later }
def NatShiftsCardSaid : Prop := Claim7.holds Tryd.pinned (.plain (OpenSpec.ofChange natShiftsSpec)) natShiftsCard

/-- THE TIED CARD OF 'anticlinelaw1.NatRing'. -/
def natRingCard : Claim7 := { stood := { row := natRingRow, standIns := [], harness := (true, "0aa100d5402416a2d1c770aa6d8992727d04f48a30cd2e78835073c5fc36f7ec"), looks := false }, kinds := [], alts := [], laidByText := true, laidKinds := [.data, .data, .data], laidTests := true, laidLooks := .later }
def NatRingCardSaid : Prop := Claim7.holds Tryd.pinned (.plain (OpenSpec.ofChange natRingSpec)) natRingCard

/-- THE TIED CARD OF 'anticlinelaw1.NatSizes'. -/
def natSizesCard : Claim7 := { stood := { row := natSizesRow, standIns := [], harness := (true, "0aa100d5402416a2d1c770aa6d8992727d04f48a30cd2e78835073c5fc36f7ec"), looks := false }, kinds := [], alts := [], laidByText := true, laidKinds := [.data, .data, .data], laidTests := true, laidLooks := .later }
def NatSizesCardSaid : Prop := Claim7.holds Tryd.pinned (.plain (OpenSpec.ofChange natSizesSpec)) natSizesCard

/-- THE TIED CARD OF 'anticlinelaw1.NatSquares'. -/
def natSquaresCard : Claim7 := { stood := { row := natSquaresRow, standIns := [], harness := (true, "0aa100d5402416a2d1c770aa6d8992727d04f48a30cd2e78835073c5fc36f7ec"), looks := false }, kinds := [], alts := [], laidByText := true, laidKinds := [.data, .data, .data], laidTests := true, laidLooks := .later }
def NatSquaresCardSaid : Prop := Claim7.holds Tryd.pinned (.plain (OpenSpec.ofChange natSquaresSpec)) natSquaresCard

/-- THE TIED CARD OF 'anticlinelaw1.NatSums'. -/
def natSumsCard : Claim7 := { stood := { row := natSumsRow, standIns := [], harness := (true, "0aa100d5402416a2d1c770aa6d8992727d04f48a30cd2e78835073c5fc36f7ec"), looks := false }, kinds := [], alts := [], laidByText := true, laidKinds := [.data, .data, .data], laidTests := true, laidLooks := .later }
def NatSumsCardSaid : Prop := Claim7.holds Tryd.pinned (.plain (OpenSpec.ofChange natSumsSpec)) natSumsCard

/-- THE TIED CARD OF 'anticlinelaw1.NatDivs'. -/
def natDivsCard : Claim7 := { stood := { row := natDivsRow, standIns := [], harness := (true, "0aa100d5402416a2d1c770aa6d8992727d04f48a30cd2e78835073c5fc36f7ec"), looks := false }, kinds := [], alts := [], laidByText := true, laidKinds := [.data, .data, .data], laidTests := true, laidLooks := .later }
def NatDivsCardSaid : Prop := Claim7.holds Tryd.pinned (.plain (OpenSpec.ofChange natDivsSpec)) natDivsCard

/-- THE TIED CARD OF 'anticlinelaw1.NatParts'. -/
def natPartsCard : Claim7 := { stood := { row := natPartsRow, standIns := [], harness := (true, "0aa100d5402416a2d1c770aa6d8992727d04f48a30cd2e78835073c5fc36f7ec"), looks := false }, kinds := [], alts := [], laidByText := true, laidKinds := [.data, .data, .data], laidTests := true, laidLooks := .later }
def NatPartsCardSaid : Prop := Claim7.holds Tryd.pinned (.plain (OpenSpec.ofChange natPartsSpec)) natPartsCard

/-- THE TIED CARD OF 'anticlinelaw1.NatGcds'. -/
def natGcdsCard : Claim7 := { stood := { row := natGcdsRow, standIns := [], harness := (true, "0aa100d5402416a2d1c770aa6d8992727d04f48a30cd2e78835073c5fc36f7ec"), looks := false }, kinds := [], alts := [], laidByText := true, laidKinds := [.data, .data, .data], laidTests := true, laidLooks := .later }
def NatGcdsCardSaid : Prop := Claim7.holds Tryd.pinned (.plain (OpenSpec.ofChange natGcdsSpec)) natGcdsCard

/-- THE TIED CARD OF 'anticlinelaw1.NatPowers'. -/
def natPowersCard : Claim7 := { stood := { row := natPowersRow, standIns := [], harness := (true, "0aa100d5402416a2d1c770aa6d8992727d04f48a30cd2e78835073c5fc36f7ec"), looks := false }, kinds := [], alts := [], laidByText := true, laidKinds := [.data, .data, .data], laidTests := true, laidLooks := .later }
def NatPowersCardSaid : Prop := Claim7.holds Tryd.pinned (.plain (OpenSpec.ofChange natPowersSpec)) natPowersCard

/-- THE TIED CARD OF 'anticlinelaw2.RatTerms'. -/
def ratTermsCard : Claim7 := { stood := { row := ratTermsRow, standIns := [], harness := (true, "0aa100d5402416a2d1c770aa6d8992727d04f48a30cd2e78835073c5fc36f7ec"), looks := false }, kinds := [], alts := [], laidByText := true, laidKinds := [.data, .data, .data], laidTests := true, laidLooks := .later }
def RatTermsCardSaid : Prop := Claim7.holds Tryd.pinned (.plain (OpenSpec.ofChange ratTermsSpec)) ratTermsCard

/-- THE TIED CARD OF 'anticlinelaw2.RatMakes'. -/
def ratMakesCard : Claim7 := { stood := { row := ratMakesRow, standIns := [], harness := (true, "0aa100d5402416a2d1c770aa6d8992727d04f48a30cd2e78835073c5fc36f7ec"), looks := false }, kinds := [], alts := [], laidByText := true, laidKinds := [.data, .data, .data], laidTests := true, laidLooks := .later }
def RatMakesCardSaid : Prop := Claim7.holds Tryd.pinned (.plain (OpenSpec.ofChange ratMakesSpec)) ratMakesCard

/-- THE TIED CARD OF 'anticlinelaw2.RatEnds'. -/
def ratEndsCard : Claim7 := { stood := { row := ratEndsRow, standIns := [], harness := (true, "0aa100d5402416a2d1c770aa6d8992727d04f48a30cd2e78835073c5fc36f7ec"), looks := false }, kinds := [], alts := [], laidByText := true, laidKinds := [.data, .data, .data], laidTests := true, laidLooks := .later }
def RatEndsCardSaid : Prop := Claim7.holds Tryd.pinned (.plain (OpenSpec.ofChange ratEndsSpec)) ratEndsCard

/-- THE TIED CARD OF 'anticlinelaw1.NatKnown'. -/
def natKnownCard : Claim7 := { stood := { row := natKnownRow, standIns := [], harness := (true, "0aa100d5402416a2d1c770aa6d8992727d04f48a30cd2e78835073c5fc36f7ec"), looks := false }, kinds := [], alts := [], laidByText := true, laidKinds := [.data, .data, .data], laidTests := true, laidLooks := .later }
def NatKnownCardSaid : Prop := Claim7.holds Tryd.pinned (.plain (OpenSpec.ofChange natKnownSpec)) natKnownCard

/-- THE TIED CARD OF 'anticlinelaw2.RatField'. -/
def ratFieldCard : Claim7 := { stood := { row := ratFieldRow, standIns := [], harness := (true, "0aa100d5402416a2d1c770aa6d8992727d04f48a30cd2e78835073c5fc36f7ec"), looks := false }, kinds := [], alts := [], laidByText := true, laidKinds := [.data, .data, .data], laidTests := true, laidLooks := .later }
def RatFieldCardSaid : Prop := Claim7.holds Tryd.pinned (.plain (OpenSpec.ofChange ratFieldSpec)) ratFieldCard

/-- THE TIED CARD OF 'anticlinelaw2.RatHalves'. -/
def ratHalvesCard : Claim7 := { stood := { row := ratHalvesRow, standIns := [], harness := (true, "0aa100d5402416a2d1c770aa6d8992727d04f48a30cd2e78835073c5fc36f7ec"), looks := false }, kinds := [], alts := [], laidByText := true, laidKinds := [.data, .data, .data], laidTests := true, laidLooks := .later }
def RatHalvesCardSaid : Prop := Claim7.holds Tryd.pinned (.plain (OpenSpec.ofChange ratHalvesSpec)) ratHalvesCard

/-- THE TIED CARD OF 'anticlinelaw2.RatOrder'. -/
def ratOrderCard : Claim7 := { stood := { row := ratOrderRow, standIns := [], harness := (true, "0aa100d5402416a2d1c770aa6d8992727d04f48a30cd2e78835073c5fc36f7ec"), looks := false }, kinds := [], alts := [], laidByText := true, laidKinds := [.data, .data, .data], laidTests := true, laidLooks := .later }
def RatOrderCardSaid : Prop := Claim7.holds Tryd.pinned (.plain (OpenSpec.ofChange ratOrderSpec)) ratOrderCard

/-- THE TIED CARD OF 'anticlinelaw2.RatTexts'. -/
def ratTextsCard : Claim7 := { stood := { row := ratTextsRow, standIns := [], harness := (true, "0aa100d5402416a2d1c770aa6d8992727d04f48a30cd2e78835073c5fc36f7ec"), looks := false }, kinds := [], alts := [], laidByText := true, laidKinds := [.data, .data, .data, .data, .pinned], laidTests := true, laidLooks := .later }
def RatTextsCardSaid : Prop := Claim7.holds Tryd.pinned (.plain (OpenSpec.ofChange ratTextsSpec)) ratTextsCard

/-- THE TIED CARD OF 'anticlinelaw2.RatKnown'. -/
def ratKnownCard : Claim7 := { stood := { row := ratKnownRow, standIns := [], harness := (true, "0aa100d5402416a2d1c770aa6d8992727d04f48a30cd2e78835073c5fc36f7ec"), looks := false }, kinds := [], alts := [], laidByText := true, laidKinds := [.data, .data, .data, .data, .pinned], laidTests := true, laidLooks := .later }
def RatKnownCardSaid : Prop := Claim7.holds Tryd.pinned (.plain (OpenSpec.ofChange ratKnownSpec)) ratKnownCard

/-- THE SECOND FORM's CARD OF 'anticlinelaw1.NatTexts'. -/
def natTextsUptoCard : Claim7 := { stood := { row := natTextsUptoRow, standIns := [], harness := (true, "0aa100d5402416a2d1c770aa6d8992727d04f48a30cd2e78835073c5fc36f7ec"), looks := false }, kinds := [], alts := [], laidByText := true, laidKinds := [.data, .data, .data], laidTests := true, laidLooks := .later }
def NatTextsUptoCardSaid : Prop := Claim7.holds Tryd.pinned (.plain (OpenSpec.upto natTextsSpec)) natTextsUptoCard

/-- THE SECOND FORM's CARD OF 'anticlinelaw1.NatReads'. -/
def natReadsUptoCard : Claim7 := { stood := { row := natReadsUptoRow, standIns := [], harness := (true, "0aa100d5402416a2d1c770aa6d8992727d04f48a30cd2e78835073c5fc36f7ec"), looks := false }, kinds := [], alts := [], laidByText := true, laidKinds := [.data, .data, .data], laidTests := true, laidLooks := .later }
def NatReadsUptoCardSaid : Prop := Claim7.holds Tryd.pinned (.plain (OpenSpec.upto natReadsSpec)) natReadsUptoCard

/-- THE SECOND FORM's CARD OF 'anticlinelaw1.NatShifts'. -/
def natShiftsUptoCard : Claim7 := { stood := { row := natShiftsUptoRow, standIns := [], harness := (true, "0aa100d5402416a2d1c770aa6d8992727d04f48a30cd2e78835073c5fc36f7ec"), looks := false }, kinds := [], alts := [], laidByText := true, laidKinds := [.data, .data, .data], laidTests := true, laidLooks := .later }
def NatShiftsUptoCardSaid : Prop := Claim7.holds Tryd.pinned (.plain (OpenSpec.upto natShiftsSpec)) natShiftsUptoCard

/-- THE SECOND FORM's CARD OF 'anticlinelaw1.NatRing'. -/
def natRingUptoCard : Claim7 := { stood := { row := natRingUptoRow, standIns := [], harness := (true, "0aa100d5402416a2d1c770aa6d8992727d04f48a30cd2e78835073c5fc36f7ec"), looks := false }, kinds := [], alts := [], laidByText := true, laidKinds := [.data, .data, .data], laidTests := true, laidLooks := .later }
def NatRingUptoCardSaid : Prop := Claim7.holds Tryd.pinned (.plain (OpenSpec.upto natRingSpec)) natRingUptoCard

/-- THE SECOND FORM's CARD OF 'anticlinelaw1.NatSizes'. -/
def natSizesUptoCard : Claim7 := { stood := { row := natSizesUptoRow, standIns := [], harness := (true, "0aa100d5402416a2d1c770aa6d8992727d04f48a30cd2e78835073c5fc36f7ec"), looks := false }, kinds := [], alts := [], laidByText := true, laidKinds := [.data, .data, .data], laidTests := true, laidLooks := .later }
def NatSizesUptoCardSaid : Prop := Claim7.holds Tryd.pinned (.plain (OpenSpec.upto natSizesSpec)) natSizesUptoCard

/-- THE SECOND FORM's CARD OF 'anticlinelaw1.NatSquares'. -/
def natSquaresUptoCard : Claim7 := { stood := { row := natSquaresUptoRow, standIns := [], harness := (true, "0aa100d5402416a2d1c770aa6d8992727d04f48a30cd2e78835073c5fc36f7ec"), looks := false }, kinds := [], alts := [], laidByText := true, laidKinds := [.data, .data, .data], laidTests := true, laidLooks := .later }
def NatSquaresUptoCardSaid : Prop := Claim7.holds Tryd.pinned (.plain (OpenSpec.upto natSquaresSpec)) natSquaresUptoCard

/-- THE SECOND FORM's CARD OF 'anticlinelaw1.NatSums'. -/
def natSumsUptoCard : Claim7 := { stood := { row := natSumsUptoRow, standIns := [], harness := (true, "0aa100d5402416a2d1c770aa6d8992727d04f48a30cd2e78835073c5fc36f7ec"), looks := false }, kinds := [], alts := [], laidByText := true, laidKinds := [.data, .data, .data], laidTests := true, laidLooks := .later }
def NatSumsUptoCardSaid : Prop := Claim7.holds Tryd.pinned (.plain (OpenSpec.upto natSumsSpec)) natSumsUptoCard

/-- THE SECOND FORM's CARD OF 'anticlinelaw1.NatDivs'. -/
def natDivsUptoCard : Claim7 := { stood := { row := natDivsUptoRow, standIns := [], harness := (true, "0aa100d5402416a2d1c770aa6d8992727d04f48a30cd2e78835073c5fc36f7ec"), looks := false }, kinds := [], alts := [], laidByText := true, laidKinds := [.data, .data, .data], laidTests := true, laidLooks := .later }
def NatDivsUptoCardSaid : Prop := Claim7.holds Tryd.pinned (.plain (OpenSpec.upto natDivsSpec)) natDivsUptoCard

/-- THE SECOND FORM's CARD OF 'anticlinelaw1.NatParts'. -/
def natPartsUptoCard : Claim7 := { stood := { row := natPartsUptoRow, standIns := [], harness := (true, "0aa100d5402416a2d1c770aa6d8992727d04f48a30cd2e78835073c5fc36f7ec"), looks := false }, kinds := [], alts := [], laidByText := true, laidKinds := [.data, .data, .data], laidTests := true, laidLooks := .later }
def NatPartsUptoCardSaid : Prop := Claim7.holds Tryd.pinned (.plain (OpenSpec.upto natPartsSpec)) natPartsUptoCard

/-- THE SECOND FORM's CARD OF 'anticlinelaw1.NatGcds'. -/
def natGcdsUptoCard : Claim7 := { stood := { row := natGcdsUptoRow, standIns := [], harness := (true, "0aa100d5402416a2d1c770aa6d8992727d04f48a30cd2e78835073c5fc36f7ec"), looks := false }, kinds := [], alts := [], laidByText := true, laidKinds := [.data, .data, .data], laidTests := true, laidLooks := .later }
def NatGcdsUptoCardSaid : Prop := Claim7.holds Tryd.pinned (.plain (OpenSpec.upto natGcdsSpec)) natGcdsUptoCard

/-- THE SECOND FORM's CARD OF 'anticlinelaw1.NatPowers'. -/
def natPowersUptoCard : Claim7 := { stood := { row := natPowersUptoRow, standIns := [], harness := (true, "0aa100d5402416a2d1c770aa6d8992727d04f48a30cd2e78835073c5fc36f7ec"), looks := false }, kinds := [], alts := [], laidByText := true, laidKinds := [.data, .data, .data], laidTests := true, laidLooks := .later }
def NatPowersUptoCardSaid : Prop := Claim7.holds Tryd.pinned (.plain (OpenSpec.upto natPowersSpec)) natPowersUptoCard

/-- THE SECOND FORM's CARD OF 'anticlinelaw2.RatTerms'. -/
def ratTermsUptoCard : Claim7 := { stood := { row := ratTermsUptoRow, standIns := [], harness := (true, "0aa100d5402416a2d1c770aa6d8992727d04f48a30cd2e78835073c5fc36f7ec"), looks := false }, kinds := [], alts := [], laidByText := true, laidKinds := [.data, .data, .data], laidTests := true, laidLooks := .later }
def RatTermsUptoCardSaid : Prop := Claim7.holds Tryd.pinned (.plain (OpenSpec.upto ratTermsSpec)) ratTermsUptoCard

/-- THE SECOND FORM's CARD OF 'anticlinelaw2.RatMakes'. -/
def ratMakesUptoCard : Claim7 := { stood := { row := ratMakesUptoRow, standIns := [], harness := (true, "0aa100d5402416a2d1c770aa6d8992727d04f48a30cd2e78835073c5fc36f7ec"), looks := false }, kinds := [], alts := [], laidByText := true, laidKinds := [.data, .data, .data], laidTests := true, laidLooks := .later }
def RatMakesUptoCardSaid : Prop := Claim7.holds Tryd.pinned (.plain (OpenSpec.upto ratMakesSpec)) ratMakesUptoCard

/-- THE SECOND FORM's CARD OF 'anticlinelaw2.RatEnds'. -/
def ratEndsUptoCard : Claim7 := { stood := { row := ratEndsUptoRow, standIns := [], harness := (true, "0aa100d5402416a2d1c770aa6d8992727d04f48a30cd2e78835073c5fc36f7ec"), looks := false }, kinds := [], alts := [], laidByText := true, laidKinds := [.data, .data, .data], laidTests := true, laidLooks := .later }
def RatEndsUptoCardSaid : Prop := Claim7.holds Tryd.pinned (.plain (OpenSpec.upto ratEndsSpec)) ratEndsUptoCard

/-- THE SECOND FORM's CARD OF 'anticlinelaw1.NatKnown'. -/
def natKnownUptoCard : Claim7 := { stood := { row := natKnownUptoRow, standIns := [], harness := (true, "0aa100d5402416a2d1c770aa6d8992727d04f48a30cd2e78835073c5fc36f7ec"), looks := false }, kinds := [], alts := [], laidByText := true, laidKinds := [.data, .data, .data], laidTests := true, laidLooks := .later }
def NatKnownUptoCardSaid : Prop := Claim7.holds Tryd.pinned (.plain (OpenSpec.upto natKnownSpec)) natKnownUptoCard

/-- THE SECOND FORM's CARD OF 'anticlinelaw2.RatField'. -/
def ratFieldUptoCard : Claim7 := { stood := { row := ratFieldUptoRow, standIns := [], harness := (true, "0aa100d5402416a2d1c770aa6d8992727d04f48a30cd2e78835073c5fc36f7ec"), looks := false }, kinds := [], alts := [], laidByText := true, laidKinds := [.data, .data, .data], laidTests := true, laidLooks := .later }
def RatFieldUptoCardSaid : Prop := Claim7.holds Tryd.pinned (.plain (OpenSpec.upto ratFieldSpec)) ratFieldUptoCard

/-- THE SECOND FORM's CARD OF 'anticlinelaw2.RatHalves'. -/
def ratHalvesUptoCard : Claim7 := { stood := { row := ratHalvesUptoRow, standIns := [], harness := (true, "0aa100d5402416a2d1c770aa6d8992727d04f48a30cd2e78835073c5fc36f7ec"), looks := false }, kinds := [], alts := [], laidByText := true, laidKinds := [.data, .data, .data], laidTests := true, laidLooks := .later }
def RatHalvesUptoCardSaid : Prop := Claim7.holds Tryd.pinned (.plain (OpenSpec.upto ratHalvesSpec)) ratHalvesUptoCard

/-- THE SECOND FORM's CARD OF 'anticlinelaw2.RatOrder'. -/
def ratOrderUptoCard : Claim7 := { stood := { row := ratOrderUptoRow, standIns := [], harness := (true, "0aa100d5402416a2d1c770aa6d8992727d04f48a30cd2e78835073c5fc36f7ec"), looks := false }, kinds := [], alts := [], laidByText := true, laidKinds := [.data, .data, .data], laidTests := true, laidLooks := .later }
def RatOrderUptoCardSaid : Prop := Claim7.holds Tryd.pinned (.plain (OpenSpec.upto ratOrderSpec)) ratOrderUptoCard

/-- THE SECOND FORM's CARD OF 'anticlinelaw2.RatTexts'. -/
def ratTextsUptoCard : Claim7 := { stood := { row := ratTextsUptoRow, standIns := [], harness := (true, "0aa100d5402416a2d1c770aa6d8992727d04f48a30cd2e78835073c5fc36f7ec"), looks := false }, kinds := [], alts := [], laidByText := true, laidKinds := [.data, .data, .data, .data, .pinned], laidTests := true, laidLooks := .later }
def RatTextsUptoCardSaid : Prop := Claim7.holds Tryd.pinned (.plain (OpenSpec.upto ratTextsSpec)) ratTextsUptoCard

/-- THE SECOND FORM's CARD OF 'anticlinelaw2.RatKnown'. -/
def ratKnownUptoCard : Claim7 := { stood := { row := ratKnownUptoRow, standIns := [], harness := (true, "0aa100d5402416a2d1c770aa6d8992727d04f48a30cd2e78835073c5fc36f7ec"), looks := false }, kinds := [], alts := [], laidByText := true, laidKinds := [.data, .data, .data, .data, .pinned], laidTests := true, laidLooks := .later }
def RatKnownUptoCardSaid : Prop := Claim7.holds Tryd.pinned (.plain (OpenSpec.upto ratKnownSpec)) ratKnownUptoCard
end Rows
end Go.Proofs.YtklhpobphloehaaDoor
