/-
  DERIVED. GIVEN WITH THE SEED: THE CARDS: each row of YtkmkfhbekikleaaDoorRows.lean that lists a variable, with what it lists TIED to the program's text (the seventh form; the later family's looks); each row that meets fmt, with fmt's text TOLD by the authors' own Lean function (tested against real Go, not proved from fmt's source: count such statements apart). THE CARD IS WHAT COUNTS. Prove the row's statement (the work); the ties are given (YtkmkfhbekikleaaDoorTie.lean); close each card by the builder's one call (the guide's Derived/Test/ToyasCard.lean, 'card_holds'). Laid BY PROGRAM, IN A SANDBOX (cutbox-door.mjs). By AI agents, Wed Nov 11 2026. No macro, syntax, notation, axiom, sorry.
-/
import Derived.Test.YtkmkfhbekikleaaDoorRows
import GoSem.ClaimSeven
namespace Go.Proofs.YtkmkfhbekikleaaDoor
namespace Rows

/-- THE TIED CARD OF 'jacquardlaw01.WordTexts'. -/
def wordTextsCard : Claim7 := { stood := { row := wordTextsRow, standIns := [], harness := (true, "17524c7bf2b9d4b85599ba3edf68c69ce0cce806e61c6445e5ad081c809a3500"), looks := true }, kinds := [], alts := [], laidByText := true, laidKinds := [.data, .data, .data, .sentinel, .sentinel], laidTests := true, laidLooks := .later }
def WordTextsCardSaid : Prop := Claim7.holds Tryd.pinned (.plain (OpenSpec.ofChange wordTextsSpec)) wordTextsCard

/-- THE TIED CARD OF 'jacquardlaw01.WordNames'. -/
def wordNamesCard : Claim7 := { stood := { row := wordNamesRow, standIns := [], harness := (true, "17524c7bf2b9d4b85599ba3edf68c69ce0cce806e61c6445e5ad081c809a3500"), looks := true }, kinds := [], alts := [], laidByText := true, laidKinds := [.data, .data, .data, .sentinel, .sentinel, .listed, .data], laidTests := true, laidLooks := .later }
def WordNamesCardSaid : Prop := Claim7.holds Tryd.pinned (.plain (OpenSpec.ofChange wordNamesSpec)) wordNamesCard

/-- THE SECOND FORM's CARD OF 'jacquardlaw01.WordTexts'. -/
def wordTextsUptoCard : Claim7 := { stood := { row := wordTextsUptoRow, standIns := [], harness := (true, "17524c7bf2b9d4b85599ba3edf68c69ce0cce806e61c6445e5ad081c809a3500"), looks := true }, kinds := [], alts := [], laidByText := true, laidKinds := [.data, .data, .data, .sentinel, .sentinel], laidTests := true, laidLooks := .later }
def WordTextsUptoCardSaid : Prop := Claim7.holds Tryd.pinned (.plain (OpenSpec.upto wordTextsSpec)) wordTextsUptoCard

/-- THE SECOND FORM's CARD OF 'jacquardlaw01.WordNames'. -/
def wordNamesUptoCard : Claim7 := { stood := { row := wordNamesUptoRow, standIns := [], harness := (true, "17524c7bf2b9d4b85599ba3edf68c69ce0cce806e61c6445e5ad081c809a3500"), looks := true }, kinds := [], alts := [], laidByText := true, laidKinds := [.data, .data, .data, .sentinel, .sentinel, .listed, .data], laidTests := true, laidLooks := .later }
def WordNamesUptoCardSaid : Prop := Claim7.holds Tryd.pinned (.plain (OpenSpec.upto wordNamesSpec)) wordNamesUptoCard
end Rows
end Go.Proofs.YtkmkfhbekikleaaDoor
