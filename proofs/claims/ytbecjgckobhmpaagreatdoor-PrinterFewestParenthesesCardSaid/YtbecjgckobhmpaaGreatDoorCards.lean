/-
  DERIVED. GIVEN WITH THE SEED: THE CARDS: each row of YtbecjgckobhmpaaGreatDoorRows.lean that lists a variable, with what it lists TIED to the program's text (the seventh form; the later family's looks); each row that meets fmt, with fmt's text TOLD by the authors' own Lean function (tested against real Go, not proved from fmt's source: count such statements apart). THE CARD IS WHAT COUNTS. Prove the row's statement (the work); the ties are given (YtbecjgckobhmpaaGreatDoorTie.lean); close each card by the builder's one call (the guide's Derived/Test/ToyasCard.lean, 'card_holds'). Laid BY PROGRAM, IN A SANDBOX (cutbox-door.mjs). By AI agents, Wed Nov 11 2026. No macro, syntax, notation, axiom, sorry.
-/
import Derived.Test.YtbecjgckobhmpaaGreatDoorRows
import GoSem.ClaimSeven
namespace Go.Proofs.YtbecjgckobhmpaaGreatDoor
namespace Rows

/-- THE TIED CARD OF 'relyguardlaw03.PrinterLayout'. -/
def printerLayoutCard : Claim7 := { stood := { row := printerLayoutRow, standIns := [], harness := (true, "2c71bd9c32cec8dbcba7c163806e698ca6c65506520b8081d9b2cc6a0913ebf0"), looks := true }, kinds := [], alts := [], laidByText := true, laidKinds := [.data, .data, .data, .data, .data], laidTests := true, laidLooks := .later }
def PrinterLayoutCardSaid : Prop := Claim7.holds Tryz.pinned (.plain (OpenSpec.ofChange printerLayoutSpec)) printerLayoutCard

/-- THE TIED CARD OF 'relyguardlaw03.PrinterConcatenation'. -/
def printerConcatenationCard : Claim7 := { stood := { row := printerConcatenationRow, standIns := [], harness := (true, "2c71bd9c32cec8dbcba7c163806e698ca6c65506520b8081d9b2cc6a0913ebf0"), looks := true }, kinds := [], alts := [], laidByText := true, laidKinds := [.data, .data, .data, .data, .data], laidTests := true, laidLooks := .later }
def PrinterConcatenationCardSaid : Prop := Claim7.holds Tryz.pinned (.plain (OpenSpec.ofChange printerConcatenationSpec)) printerConcatenationCard

/-- THE TIED CARD OF 'relyguardlaw03.PrinterSubstitution'. -/
def printerSubstitutionCard : Claim7 := { stood := { row := printerSubstitutionRow, standIns := [], harness := (true, "2c71bd9c32cec8dbcba7c163806e698ca6c65506520b8081d9b2cc6a0913ebf0"), looks := true }, kinds := [], alts := [], laidByText := true, laidKinds := [.data, .data, .data, .data, .data], laidTests := true, laidLooks := .later }
def PrinterSubstitutionCardSaid : Prop := Claim7.holds Tryz.pinned (.plain (OpenSpec.ofChange printerSubstitutionSpec)) printerSubstitutionCard

/-- THE TIED CARD OF 'relyguardlaw02.ParserWellFormed'. -/
def parserWellFormedCard : Claim7 := { stood := { row := parserWellFormedRow, standIns := [], harness := (true, "2c71bd9c32cec8dbcba7c163806e698ca6c65506520b8081d9b2cc6a0913ebf0"), looks := true }, kinds := [], alts := [], laidByText := true, laidKinds := [.data, .data, .data, .sentinel, .sentinel, .data], laidTests := true, laidLooks := .later }
def ParserWellFormedCardSaid : Prop := Claim7.holds Tryz.pinned (.plain (OpenSpec.ofChange parserWellFormedSpec)) parserWellFormedCard

/-- THE TIED CARD OF 'relyguardlaw02.ParserParens'. -/
def parserParensCard : Claim7 := { stood := { row := parserParensRow, standIns := [], harness := (true, "2c71bd9c32cec8dbcba7c163806e698ca6c65506520b8081d9b2cc6a0913ebf0"), looks := true }, kinds := [], alts := [], laidByText := true, laidKinds := [.data, .data, .data, .sentinel, .sentinel, .data], laidTests := true, laidLooks := .later }
def ParserParensCardSaid : Prop := Claim7.holds Tryz.pinned (.plain (OpenSpec.ofChange parserParensSpec)) parserParensCard

/-- THE TIED CARD OF 'relyguardlaw02.ParserLevels'. -/
def parserLevelsCard : Claim7 := { stood := { row := parserLevelsRow, standIns := [], harness := (true, "2c71bd9c32cec8dbcba7c163806e698ca6c65506520b8081d9b2cc6a0913ebf0"), looks := true }, kinds := [], alts := [], laidByText := true, laidKinds := [.data, .data, .data, .sentinel, .sentinel, .data], laidTests := true, laidLooks := .later }
def ParserLevelsCardSaid : Prop := Claim7.holds Tryz.pinned (.plain (OpenSpec.ofChange parserLevelsSpec)) parserLevelsCard

/-- THE TIED CARD OF 'relyguardlaw02.ParserLayout'. -/
def parserLayoutCard : Claim7 := { stood := { row := parserLayoutRow, standIns := [], harness := (true, "2c71bd9c32cec8dbcba7c163806e698ca6c65506520b8081d9b2cc6a0913ebf0"), looks := true }, kinds := [], alts := [], laidByText := true, laidKinds := [.data, .data, .data, .sentinel, .sentinel, .data], laidTests := true, laidLooks := .later }
def ParserLayoutCardSaid : Prop := Claim7.holds Tryz.pinned (.plain (OpenSpec.ofChange parserLayoutSpec)) parserLayoutCard

/-- THE TIED CARD OF 'relyguardlaw02.ParserConcat'. -/
def parserConcatCard : Claim7 := { stood := { row := parserConcatRow, standIns := [], harness := (true, "2c71bd9c32cec8dbcba7c163806e698ca6c65506520b8081d9b2cc6a0913ebf0"), looks := true }, kinds := [], alts := [], laidByText := true, laidKinds := [.data, .data, .data, .sentinel, .sentinel, .data], laidTests := true, laidLooks := .later }
def ParserConcatCardSaid : Prop := Claim7.holds Tryz.pinned (.plain (OpenSpec.ofChange parserConcatSpec)) parserConcatCard

/-- THE TIED CARD OF 'relyguardlaw02.ParserRecovery'. -/
def parserRecoveryCard : Claim7 := { stood := { row := parserRecoveryRow, standIns := [], harness := (true, "2c71bd9c32cec8dbcba7c163806e698ca6c65506520b8081d9b2cc6a0913ebf0"), looks := true }, kinds := [], alts := [], laidByText := true, laidKinds := [.data, .data, .data, .sentinel, .sentinel, .data], laidTests := true, laidLooks := .later }
def ParserRecoveryCardSaid : Prop := Claim7.holds Tryz.pinned (.plain (OpenSpec.ofChange parserRecoverySpec)) parserRecoveryCard

/-- THE TIED CARD OF 'relyguardlaw02.ParserTruncated'. -/
def parserTruncatedCard : Claim7 := { stood := { row := parserTruncatedRow, standIns := [], harness := (true, "2c71bd9c32cec8dbcba7c163806e698ca6c65506520b8081d9b2cc6a0913ebf0"), looks := true }, kinds := [], alts := [], laidByText := true, laidKinds := [.data, .data, .data, .sentinel, .sentinel, .data], laidTests := true, laidLooks := .later }
def ParserTruncatedCardSaid : Prop := Claim7.holds Tryz.pinned (.plain (OpenSpec.ofChange parserTruncatedSpec)) parserTruncatedCard

/-- THE TIED CARD OF 'relyguardlaw02.ParserLocality'. -/
def parserLocalityCard : Claim7 := { stood := { row := parserLocalityRow, standIns := [], harness := (true, "2c71bd9c32cec8dbcba7c163806e698ca6c65506520b8081d9b2cc6a0913ebf0"), looks := true }, kinds := [], alts := [], laidByText := true, laidKinds := [.data, .data, .data, .sentinel, .sentinel, .data], laidTests := true, laidLooks := .later }
def ParserLocalityCardSaid : Prop := Claim7.holds Tryz.pinned (.plain (OpenSpec.ofChange parserLocalitySpec)) parserLocalityCard

/-- THE TIED CARD OF 'relyguardlaw03.PrinterFewestParentheses'. -/
def printerFewestParenthesesCard : Claim7 := { stood := { row := printerFewestParenthesesRow, standIns := [], harness := (true, "2c71bd9c32cec8dbcba7c163806e698ca6c65506520b8081d9b2cc6a0913ebf0"), looks := true }, kinds := [], alts := [], laidByText := true, laidKinds := [.data, .data, .data, .sentinel, .sentinel, .data, .data], laidTests := true, laidLooks := .later }
def PrinterFewestParenthesesCardSaid : Prop := Claim7.holds Tryz.pinned (.plain (OpenSpec.ofChange printerFewestParenthesesSpec)) printerFewestParenthesesCard

/-- THE TIED CARD OF 'relyguardlaw03.PrinterCanonical'. -/
def printerCanonicalCard : Claim7 := { stood := { row := printerCanonicalRow, standIns := [], harness := (true, "2c71bd9c32cec8dbcba7c163806e698ca6c65506520b8081d9b2cc6a0913ebf0"), looks := true }, kinds := [], alts := [], laidByText := true, laidKinds := [.data, .data, .data, .sentinel, .sentinel, .data, .data], laidTests := true, laidLooks := .later }
def PrinterCanonicalCardSaid : Prop := Claim7.holds Tryz.pinned (.plain (OpenSpec.ofChange printerCanonicalSpec)) printerCanonicalCard

/-- THE TIED CARD OF 'relyguardlaw03.PrinterRoundTrip'. -/
def printerRoundTripCard : Claim7 := { stood := { row := printerRoundTripRow, standIns := [], harness := (true, "2c71bd9c32cec8dbcba7c163806e698ca6c65506520b8081d9b2cc6a0913ebf0"), looks := true }, kinds := [], alts := [], laidByText := true, laidKinds := [.data, .data, .data, .sentinel, .sentinel, .data, .data], laidTests := true, laidLooks := .later }
def PrinterRoundTripCardSaid : Prop := Claim7.holds Tryz.pinned (.plain (OpenSpec.ofChange printerRoundTripSpec)) printerRoundTripCard

/-- THE SECOND FORM's CARD OF 'relyguardlaw03.PrinterLayout'. -/
def printerLayoutUptoCard : Claim7 := { stood := { row := printerLayoutUptoRow, standIns := [], harness := (true, "2c71bd9c32cec8dbcba7c163806e698ca6c65506520b8081d9b2cc6a0913ebf0"), looks := true }, kinds := [], alts := [], laidByText := true, laidKinds := [.data, .data, .data, .data, .data], laidTests := true, laidLooks := .later }
def PrinterLayoutUptoCardSaid : Prop := Claim7.holds Tryz.pinned (.plain (OpenSpec.upto printerLayoutSpec)) printerLayoutUptoCard

/-- THE SECOND FORM's CARD OF 'relyguardlaw03.PrinterConcatenation'. -/
def printerConcatenationUptoCard : Claim7 := { stood := { row := printerConcatenationUptoRow, standIns := [], harness := (true, "2c71bd9c32cec8dbcba7c163806e698ca6c65506520b8081d9b2cc6a0913ebf0"), looks := true }, kinds := [], alts := [], laidByText := true, laidKinds := [.data, .data, .data, .data, .data], laidTests := true, laidLooks := .later }
def PrinterConcatenationUptoCardSaid : Prop := Claim7.holds Tryz.pinned (.plain (OpenSpec.upto printerConcatenationSpec)) printerConcatenationUptoCard

/-- THE SECOND FORM's CARD OF 'relyguardlaw03.PrinterSubstitution'. -/
def printerSubstitutionUptoCard : Claim7 := { stood := { row := printerSubstitutionUptoRow, standIns := [], harness := (true, "2c71bd9c32cec8dbcba7c163806e698ca6c65506520b8081d9b2cc6a0913ebf0"), looks := true }, kinds := [], alts := [], laidByText := true, laidKinds := [.data, .data, .data, .data, .data], laidTests := true, laidLooks := .later }
def PrinterSubstitutionUptoCardSaid : Prop := Claim7.holds Tryz.pinned (.plain (OpenSpec.upto printerSubstitutionSpec)) printerSubstitutionUptoCard

/-- THE SECOND FORM's CARD OF 'relyguardlaw02.ParserWellFormed'. -/
def parserWellFormedUptoCard : Claim7 := { stood := { row := parserWellFormedUptoRow, standIns := [], harness := (true, "2c71bd9c32cec8dbcba7c163806e698ca6c65506520b8081d9b2cc6a0913ebf0"), looks := true }, kinds := [], alts := [], laidByText := true, laidKinds := [.data, .data, .data, .sentinel, .sentinel, .data], laidTests := true, laidLooks := .later }
def ParserWellFormedUptoCardSaid : Prop := Claim7.holds Tryz.pinned (.plain (OpenSpec.upto parserWellFormedSpec)) parserWellFormedUptoCard

/-- THE SECOND FORM's CARD OF 'relyguardlaw02.ParserParens'. -/
def parserParensUptoCard : Claim7 := { stood := { row := parserParensUptoRow, standIns := [], harness := (true, "2c71bd9c32cec8dbcba7c163806e698ca6c65506520b8081d9b2cc6a0913ebf0"), looks := true }, kinds := [], alts := [], laidByText := true, laidKinds := [.data, .data, .data, .sentinel, .sentinel, .data], laidTests := true, laidLooks := .later }
def ParserParensUptoCardSaid : Prop := Claim7.holds Tryz.pinned (.plain (OpenSpec.upto parserParensSpec)) parserParensUptoCard

/-- THE SECOND FORM's CARD OF 'relyguardlaw02.ParserLevels'. -/
def parserLevelsUptoCard : Claim7 := { stood := { row := parserLevelsUptoRow, standIns := [], harness := (true, "2c71bd9c32cec8dbcba7c163806e698ca6c65506520b8081d9b2cc6a0913ebf0"), looks := true }, kinds := [], alts := [], laidByText := true, laidKinds := [.data, .data, .data, .sentinel, .sentinel, .data], laidTests := true, laidLooks := .later }
def ParserLevelsUptoCardSaid : Prop := Claim7.holds Tryz.pinned (.plain (OpenSpec.upto parserLevelsSpec)) parserLevelsUptoCard

/-- THE SECOND FORM's CARD OF 'relyguardlaw02.ParserLayout'. -/
def parserLayoutUptoCard : Claim7 := { stood := { row := parserLayoutUptoRow, standIns := [], harness := (true, "2c71bd9c32cec8dbcba7c163806e698ca6c65506520b8081d9b2cc6a0913ebf0"), looks := true }, kinds := [], alts := [], laidByText := true, laidKinds := [.data, .data, .data, .sentinel, .sentinel, .data], laidTests := true, laidLooks := .later }
def ParserLayoutUptoCardSaid : Prop := Claim7.holds Tryz.pinned (.plain (OpenSpec.upto parserLayoutSpec)) parserLayoutUptoCard

/-- THE SECOND FORM's CARD OF 'relyguardlaw02.ParserConcat'. -/
def parserConcatUptoCard : Claim7 := { stood := { row := parserConcatUptoRow, standIns := [], harness := (true, "2c71bd9c32cec8dbcba7c163806e698ca6c65506520b8081d9b2cc6a0913ebf0"), looks := true }, kinds := [], alts := [], laidByText := true, laidKinds := [.data, .data, .data, .sentinel, .sentinel, .data], laidTests := true, laidLooks := .later }
def ParserConcatUptoCardSaid : Prop := Claim7.holds Tryz.pinned (.plain (OpenSpec.upto parserConcatSpec)) parserConcatUptoCard

/-- THE SECOND FORM's CARD OF 'relyguardlaw02.ParserRecovery'. -/
def parserRecoveryUptoCard : Claim7 := { stood := { row := parserRecoveryUptoRow, standIns := [], harness := (true, "2c71bd9c32cec8dbcba7c163806e698ca6c65506520b8081d9b2cc6a0913ebf0"), looks := true }, kinds := [], alts := [], laidByText := true, laidKinds := [.data, .data, .data, .sentinel, .sentinel, .data], laidTests := true, laidLooks := .later }
def ParserRecoveryUptoCardSaid : Prop := Claim7.holds Tryz.pinned (.plain (OpenSpec.upto parserRecoverySpec)) parserRecoveryUptoCard

/-- THE SECOND FORM's CARD OF 'relyguardlaw02.ParserTruncated'. -/
def parserTruncatedUptoCard : Claim7 := { stood := { row := parserTruncatedUptoRow, standIns := [], harness := (true, "2c71bd9c32cec8dbcba7c163806e698ca6c65506520b8081d9b2cc6a0913ebf0"), looks := true }, kinds := [], alts := [], laidByText := true, laidKinds := [.data, .data, .data, .sentinel, .sentinel, .data], laidTests := true, laidLooks := .later }
def ParserTruncatedUptoCardSaid : Prop := Claim7.holds Tryz.pinned (.plain (OpenSpec.upto parserTruncatedSpec)) parserTruncatedUptoCard

/-- THE SECOND FORM's CARD OF 'relyguardlaw02.ParserLocality'. -/
def parserLocalityUptoCard : Claim7 := { stood := { row := parserLocalityUptoRow, standIns := [], harness := (true, "2c71bd9c32cec8dbcba7c163806e698ca6c65506520b8081d9b2cc6a0913ebf0"), looks := true }, kinds := [], alts := [], laidByText := true, laidKinds := [.data, .data, .data, .sentinel, .sentinel, .data], laidTests := true, laidLooks := .later }
def ParserLocalityUptoCardSaid : Prop := Claim7.holds Tryz.pinned (.plain (OpenSpec.upto parserLocalitySpec)) parserLocalityUptoCard

/-- THE SECOND FORM's CARD OF 'relyguardlaw03.PrinterFewestParentheses'. -/
def printerFewestParenthesesUptoCard : Claim7 := { stood := { row := printerFewestParenthesesUptoRow, standIns := [], harness := (true, "2c71bd9c32cec8dbcba7c163806e698ca6c65506520b8081d9b2cc6a0913ebf0"), looks := true }, kinds := [], alts := [], laidByText := true, laidKinds := [.data, .data, .data, .sentinel, .sentinel, .data, .data], laidTests := true, laidLooks := .later }
def PrinterFewestParenthesesUptoCardSaid : Prop := Claim7.holds Tryz.pinned (.plain (OpenSpec.upto printerFewestParenthesesSpec)) printerFewestParenthesesUptoCard

/-- THE SECOND FORM's CARD OF 'relyguardlaw03.PrinterCanonical'. -/
def printerCanonicalUptoCard : Claim7 := { stood := { row := printerCanonicalUptoRow, standIns := [], harness := (true, "2c71bd9c32cec8dbcba7c163806e698ca6c65506520b8081d9b2cc6a0913ebf0"), looks := true }, kinds := [], alts := [], laidByText := true, laidKinds := [.data, .data, .data, .sentinel, .sentinel, .data, .data], laidTests := true, laidLooks := .later }
def PrinterCanonicalUptoCardSaid : Prop := Claim7.holds Tryz.pinned (.plain (OpenSpec.upto printerCanonicalSpec)) printerCanonicalUptoCard

/-- THE SECOND FORM's CARD OF 'relyguardlaw03.PrinterRoundTrip'. -/
def printerRoundTripUptoCard : Claim7 := { stood := { row := printerRoundTripUptoRow, standIns := [], harness := (true, "2c71bd9c32cec8dbcba7c163806e698ca6c65506520b8081d9b2cc6a0913ebf0"), looks := true }, kinds := [], alts := [], laidByText := true, laidKinds := [.data, .data, .data, .sentinel, .sentinel, .data, .data], laidTests := true, laidLooks := .later }
def PrinterRoundTripUptoCardSaid : Prop := Claim7.holds Tryz.pinned (.plain (OpenSpec.upto printerRoundTripSpec)) printerRoundTripUptoCard
end Rows
end Go.Proofs.YtbecjgckobhmpaaGreatDoor
