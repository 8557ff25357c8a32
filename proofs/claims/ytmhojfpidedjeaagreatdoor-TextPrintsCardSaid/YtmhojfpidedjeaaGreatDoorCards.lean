/-
  DERIVED. GIVEN WITH THE SEED: THE CARDS: each row of YtmhojfpidedjeaaGreatDoorRows.lean that lists a variable, with what it lists TIED to the program's text (the seventh form; the later family's looks); each row that meets fmt, with fmt's text TOLD by the authors' own Lean function (tested against real Go, not proved from fmt's source: count such statements apart). THE CARD IS WHAT COUNTS. Prove the row's statement (the work); the ties are given (YtmhojfpidedjeaaGreatDoorTie.lean); close each card by the builder's one call (the guide's Derived/Test/ToyasCard.lean, 'card_holds'). Laid BY PROGRAM, IN A SANDBOX (cutbox-door.mjs). By AI agents, Wed Nov 11 2026. No macro, syntax, notation, axiom, sorry.
-/
import Derived.Test.YtmhojfpidedjeaaGreatDoorRows
import GoSem.ClaimSeven
namespace Go.Proofs.YtmhojfpidedjeaaGreatDoor
namespace Rows

/-- THE TIED CARD OF 'jacquardlaw25.TextRaw'. -/
def textRawCard : Claim7 := { stood := { row := textRawRow, standIns := [], harness := (true, "88a9a09a04e333ec70cf1c5c3b87c2605fd31f27dd7445fa7cab56a42ccbd3c2"), looks := true }, kinds := [], alts := [], laidByText := true, laidKinds := [.data, .data, .data, .data, .sentinel, .sentinel, .listed, .data, .pinned], laidTests := true, laidLooks := .later }
def TextRawCardSaid : Prop := Claim7.holds Tryz.pinned (.plain (OpenSpec.ofChange textRawSpec)) textRawCard

/-- THE TIED CARD OF 'jacquardlaw25.TextLines'. -/
def textLinesCard : Claim7 := { stood := { row := textLinesRow, standIns := [], harness := (true, "88a9a09a04e333ec70cf1c5c3b87c2605fd31f27dd7445fa7cab56a42ccbd3c2"), looks := true }, kinds := [], alts := [], laidByText := true, laidKinds := [.data, .data, .data, .data, .sentinel, .sentinel, .listed, .data, .pinned], laidTests := true, laidLooks := .later }
def TextLinesCardSaid : Prop := Claim7.holds Tryz.pinned (.plain (OpenSpec.ofChange textLinesSpec)) textLinesCard

/-- THE TIED CARD OF 'jacquardlaw25.TextFirst'. -/
def textFirstCard : Claim7 := { stood := { row := textFirstRow, standIns := [], harness := (true, "88a9a09a04e333ec70cf1c5c3b87c2605fd31f27dd7445fa7cab56a42ccbd3c2"), looks := true }, kinds := [], alts := [], laidByText := true, laidKinds := [.data, .data, .data, .data, .sentinel, .sentinel, .listed, .data, .pinned], laidTests := true, laidLooks := .later }
def TextFirstCardSaid : Prop := Claim7.holds Tryz.pinned (.plain (OpenSpec.ofChange textFirstSpec)) textFirstCard

/-- THE TIED CARD OF 'jacquardlaw25.TextAgain'. -/
def textAgainCard : Claim7 := { stood := { row := textAgainRow, standIns := [], harness := (true, "88a9a09a04e333ec70cf1c5c3b87c2605fd31f27dd7445fa7cab56a42ccbd3c2"), looks := true }, kinds := [], alts := [], laidByText := true, laidKinds := [.data, .data, .data, .data, .sentinel, .sentinel, .listed, .data, .pinned], laidTests := true, laidLooks := .later }
def TextAgainCardSaid : Prop := Claim7.holds Tryz.pinned (.plain (OpenSpec.ofChange textAgainSpec)) textAgainCard

/-- THE TIED CARD OF 'jacquardlaw25.TextParses'. -/
def textParsesCard : Claim7 := { stood := { row := textParsesRow, standIns := [], harness := (true, "88a9a09a04e333ec70cf1c5c3b87c2605fd31f27dd7445fa7cab56a42ccbd3c2"), looks := true }, kinds := [], alts := [], laidByText := true, laidKinds := [.data, .data, .data, .data, .sentinel, .sentinel, .listed, .data, .pinned], laidTests := true, laidLooks := .later }
def TextParsesCardSaid : Prop := Claim7.holds Tryz.pinned (.plain (OpenSpec.ofChange textParsesSpec)) textParsesCard

/-- THE TIED CARD OF 'jacquardlaw25.TextPrints'. -/
def textPrintsCard : Claim7 := { stood := { row := textPrintsRow, standIns := [], harness := (true, "88a9a09a04e333ec70cf1c5c3b87c2605fd31f27dd7445fa7cab56a42ccbd3c2"), looks := true }, kinds := [], alts := [], laidByText := true, laidKinds := [.data, .data, .data, .data, .sentinel, .sentinel, .listed, .data, .pinned], laidTests := true, laidLooks := .later }
def TextPrintsCardSaid : Prop := Claim7.holds Tryz.pinned (.plain (OpenSpec.ofChange textPrintsSpec)) textPrintsCard

/-- THE SECOND FORM's CARD OF 'jacquardlaw25.TextRaw'. -/
def textRawUptoCard : Claim7 := { stood := { row := textRawUptoRow, standIns := [], harness := (true, "88a9a09a04e333ec70cf1c5c3b87c2605fd31f27dd7445fa7cab56a42ccbd3c2"), looks := true }, kinds := [], alts := [], laidByText := true, laidKinds := [.data, .data, .data, .data, .sentinel, .sentinel, .listed, .data, .pinned], laidTests := true, laidLooks := .later }
def TextRawUptoCardSaid : Prop := Claim7.holds Tryz.pinned (.plain (OpenSpec.upto textRawSpec)) textRawUptoCard

/-- THE SECOND FORM's CARD OF 'jacquardlaw25.TextLines'. -/
def textLinesUptoCard : Claim7 := { stood := { row := textLinesUptoRow, standIns := [], harness := (true, "88a9a09a04e333ec70cf1c5c3b87c2605fd31f27dd7445fa7cab56a42ccbd3c2"), looks := true }, kinds := [], alts := [], laidByText := true, laidKinds := [.data, .data, .data, .data, .sentinel, .sentinel, .listed, .data, .pinned], laidTests := true, laidLooks := .later }
def TextLinesUptoCardSaid : Prop := Claim7.holds Tryz.pinned (.plain (OpenSpec.upto textLinesSpec)) textLinesUptoCard

/-- THE SECOND FORM's CARD OF 'jacquardlaw25.TextFirst'. -/
def textFirstUptoCard : Claim7 := { stood := { row := textFirstUptoRow, standIns := [], harness := (true, "88a9a09a04e333ec70cf1c5c3b87c2605fd31f27dd7445fa7cab56a42ccbd3c2"), looks := true }, kinds := [], alts := [], laidByText := true, laidKinds := [.data, .data, .data, .data, .sentinel, .sentinel, .listed, .data, .pinned], laidTests := true, laidLooks := .later }
def TextFirstUptoCardSaid : Prop := Claim7.holds Tryz.pinned (.plain (OpenSpec.upto textFirstSpec)) textFirstUptoCard

/-- THE SECOND FORM's CARD OF 'jacquardlaw25.TextAgain'. -/
def textAgainUptoCard : Claim7 := { stood := { row := textAgainUptoRow, standIns := [], harness := (true, "88a9a09a04e333ec70cf1c5c3b87c2605fd31f27dd7445fa7cab56a42ccbd3c2"), looks := true }, kinds := [], alts := [], laidByText := true, laidKinds := [.data, .data, .data, .data, .sentinel, .sentinel, .listed, .data, .pinned], laidTests := true, laidLooks := .later }
def TextAgainUptoCardSaid : Prop := Claim7.holds Tryz.pinned (.plain (OpenSpec.upto textAgainSpec)) textAgainUptoCard

/-- THE SECOND FORM's CARD OF 'jacquardlaw25.TextParses'. -/
def textParsesUptoCard : Claim7 := { stood := { row := textParsesUptoRow, standIns := [], harness := (true, "88a9a09a04e333ec70cf1c5c3b87c2605fd31f27dd7445fa7cab56a42ccbd3c2"), looks := true }, kinds := [], alts := [], laidByText := true, laidKinds := [.data, .data, .data, .data, .sentinel, .sentinel, .listed, .data, .pinned], laidTests := true, laidLooks := .later }
def TextParsesUptoCardSaid : Prop := Claim7.holds Tryz.pinned (.plain (OpenSpec.upto textParsesSpec)) textParsesUptoCard

/-- THE SECOND FORM's CARD OF 'jacquardlaw25.TextPrints'. -/
def textPrintsUptoCard : Claim7 := { stood := { row := textPrintsUptoRow, standIns := [], harness := (true, "88a9a09a04e333ec70cf1c5c3b87c2605fd31f27dd7445fa7cab56a42ccbd3c2"), looks := true }, kinds := [], alts := [], laidByText := true, laidKinds := [.data, .data, .data, .data, .sentinel, .sentinel, .listed, .data, .pinned], laidTests := true, laidLooks := .later }
def TextPrintsUptoCardSaid : Prop := Claim7.holds Tryz.pinned (.plain (OpenSpec.upto textPrintsSpec)) textPrintsUptoCard
end Rows
end Go.Proofs.YtmhojfpidedjeaaGreatDoor
