/-
  DERIVED. GIVEN WITH THE SEED: THE CARDS: each row of YtpjdhokpfccahaaGreatDoorRows.lean that lists a variable, with what it lists TIED to the program's text (the seventh form; the later family's looks); each row that meets fmt, with fmt's text TOLD by the authors' own Lean function (tested against real Go, not proved from fmt's source: count such statements apart). THE CARD IS WHAT COUNTS. Prove the row's statement (the work); the ties are given (YtpjdhokpfccahaaGreatDoorTie.lean); close each card by the builder's one call (the guide's Derived/Test/ToyasCard.lean, 'card_holds'). Laid BY PROGRAM, IN A SANDBOX (cutbox-door.mjs). By AI agents, Wed Nov 11 2026. No macro, syntax, notation, axiom, sorry.
-/
import Derived.Test.YtpjdhokpfccahaaGreatDoorRows
import GoSem.ClaimSeven
namespace Go.Proofs.YtpjdhokpfccahaaGreatDoor
namespace Rows

/-- THE TIED CARD OF 'corporatop.TopFold'. -/
def topFoldCard : Claim7 := { stood := { row := topFoldRow, standIns := [], harness := (true, "40e51ee8d8b66918640a7a33fe939c1eb328fdfcca2aa88f7239509b61105f9f"), looks := true }, kinds := [], alts := [], laidByText := true, laidKinds := [.data, .pinned], laidTests := true, laidLooks := .later }
def TopFoldCardSaid : Prop := Claim7.holds Tryz.pinned (.plain (OpenSpec.ofChange topFoldSpec)) topFoldCard

/-- THE SECOND FORM's CARD OF 'corporatop.TopFold'. -/
def topFoldUptoCard : Claim7 := { stood := { row := topFoldUptoRow, standIns := [], harness := (true, "40e51ee8d8b66918640a7a33fe939c1eb328fdfcca2aa88f7239509b61105f9f"), looks := true }, kinds := [], alts := [], laidByText := true, laidKinds := [.data, .pinned], laidTests := true, laidLooks := .later }
def TopFoldUptoCardSaid : Prop := Claim7.holds Tryz.pinned (.plain (OpenSpec.upto topFoldSpec)) topFoldUptoCard
end Rows
end Go.Proofs.YtpjdhokpfccahaaGreatDoor
