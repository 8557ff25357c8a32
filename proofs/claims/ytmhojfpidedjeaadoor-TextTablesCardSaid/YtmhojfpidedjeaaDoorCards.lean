/-
  DERIVED. GIVEN WITH THE SEED: THE CARDS: each row of YtmhojfpidedjeaaDoorRows.lean that lists a variable, with what it lists TIED to the program's text (the seventh form; the later family's looks); each row that meets fmt, with fmt's text TOLD by the authors' own Lean function (tested against real Go, not proved from fmt's source: count such statements apart). THE CARD IS WHAT COUNTS. Prove the row's statement (the work); the ties are given (YtmhojfpidedjeaaDoorTie.lean); close each card by the builder's one call (the guide's Derived/Test/ToyasCard.lean, 'card_holds'). Laid BY PROGRAM, IN A SANDBOX (cutbox-door.mjs). By AI agents, Wed Nov 11 2026. No macro, syntax, notation, axiom, sorry.
-/
import Derived.Test.YtmhojfpidedjeaaDoorRows
import GoSem.ClaimSeven
namespace Go.Proofs.YtmhojfpidedjeaaDoor
namespace Rows

/-- THE TIED CARD OF 'jacquardlaw25.TextWrong'. -/
def textWrongCard : Claim7 := { stood := { row := textWrongRow, standIns := [], harness := (true, "64463b2aad84b755fee7305d4fb70ef2ef6682556987cb2a198d308f680f89f2"), looks := true }, kinds := [], alts := [], laidByText := true, laidKinds := [.data, .data, .data, .data, .sentinel, .sentinel, .listed, .data, .pinned], laidTests := true, laidLooks := .later }
def TextWrongCardSaid : Prop := Claim7.holds Tryd.pinned (.plain (OpenSpec.ofChange textWrongSpec)) textWrongCard

/-- THE TIED CARD OF 'jacquardlaw25.TextTables'. -/
def textTablesCard : Claim7 := { stood := { row := textTablesRow, standIns := [], harness := (true, "64463b2aad84b755fee7305d4fb70ef2ef6682556987cb2a198d308f680f89f2"), looks := true }, kinds := [], alts := [], laidByText := true, laidKinds := [.data, .data, .data, .data, .sentinel, .sentinel, .listed, .data, .pinned], laidTests := true, laidLooks := .later }
def TextTablesCardSaid : Prop := Claim7.holds Tryd.pinned (.plain (OpenSpec.ofChange textTablesSpec)) textTablesCard

/-- THE SECOND FORM's CARD OF 'jacquardlaw25.TextWrong'. -/
def textWrongUptoCard : Claim7 := { stood := { row := textWrongUptoRow, standIns := [], harness := (true, "64463b2aad84b755fee7305d4fb70ef2ef6682556987cb2a198d308f680f89f2"), looks := true }, kinds := [], alts := [], laidByText := true, laidKinds := [.data, .data, .data, .data, .sentinel, .sentinel, .listed, .data, .pinned], laidTests := true, laidLooks := .later }
def TextWrongUptoCardSaid : Prop := Claim7.holds Tryd.pinned (.plain (OpenSpec.upto textWrongSpec)) textWrongUptoCard

/-- THE SECOND FORM's CARD OF 'jacquardlaw25.TextTables'. -/
def textTablesUptoCard : Claim7 := { stood := { row := textTablesUptoRow, standIns := [], harness := (true, "64463b2aad84b755fee7305d4fb70ef2ef6682556987cb2a198d308f680f89f2"), looks := true }, kinds := [], alts := [], laidByText := true, laidKinds := [.data, .data, .data, .data, .sentinel, .sentinel, .listed, .data, .pinned], laidTests := true, laidLooks := .later }
def TextTablesUptoCardSaid : Prop := Claim7.holds Tryd.pinned (.plain (OpenSpec.upto textTablesSpec)) textTablesUptoCard
end Rows
end Go.Proofs.YtmhojfpidedjeaaDoor
