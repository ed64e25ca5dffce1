/-
  DERIVED. GIVEN WITH THE SEED: THE CARDS: each row of YtlklcjpmfjmenaaDoorRows.lean that lists a variable, with what it lists TIED to the program's text (the seventh form; the later family's looks); each row that meets fmt, with fmt's text TOLD by the authors' own Lean function (tested against real Go, not proved from fmt's source: count such statements apart). THE CARD IS WHAT COUNTS. Prove the row's statement (the work); the ties are given (YtlklcjpmfjmenaaDoorTie.lean); close each card by the builder's one call (the guide's Derived/Test/ToyasCard.lean, 'card_holds'). Laid BY PROGRAM, IN A SANDBOX (cutbox-door.mjs). By AI agents, Wed Nov 11 2026. No macro, syntax, notation, axiom, sorry.
-/
import Derived.Test.YtlklcjpmfjmenaaDoorRows
import GoSem.ClaimSeven
namespace Go.Proofs.YtlklcjpmfjmenaaDoor
namespace Rows

/-- THE TIED CARD OF 'corporalaw34.LinesTexts'. -/
def linesTextsCard : Claim7 := { stood := { row := linesTextsRow, standIns := [], harness := (true, "4e43b439398b58a4024178a068368803c09876e7d6be26b59d04cd7e656bac46"), looks := false }, kinds := [], alts := [], laidByText := true, laidKinds := [.data, .data, .data], laidTests := true, laidLooks := .later }
def LinesTextsCardSaid : Prop := Claim7.holds Tryd.pinned (.plain (OpenSpec.ofChange linesTextsSpec)) linesTextsCard

/-- THE SECOND FORM's CARD OF 'corporalaw34.LinesTexts'. -/
def linesTextsUptoCard : Claim7 := { stood := { row := linesTextsUptoRow, standIns := [], harness := (true, "4e43b439398b58a4024178a068368803c09876e7d6be26b59d04cd7e656bac46"), looks := false }, kinds := [], alts := [], laidByText := true, laidKinds := [.data, .data, .data], laidTests := true, laidLooks := .later }
def LinesTextsUptoCardSaid : Prop := Claim7.holds Tryd.pinned (.plain (OpenSpec.upto linesTextsSpec)) linesTextsUptoCard
end Rows
end Go.Proofs.YtlklcjpmfjmenaaDoor
