/-
  DERIVED. GIVEN WITH THE SEED: THE CARDS: each row of YtbcadnjfegiakaaGreatDoorRows.lean that lists a variable, with what it lists TIED to the program's text (the seventh form; the later family's looks); each row that meets fmt, with fmt's text TOLD by the authors' own Lean function (tested against real Go, not proved from fmt's source: count such statements apart). THE CARD IS WHAT COUNTS. Prove the row's statement (the work); the ties are given (YtbcadnjfegiakaaGreatDoorTie.lean); close each card by the builder's one call (the guide's Derived/Test/ToyasCard.lean, 'card_holds'). Laid BY PROGRAM, IN A SANDBOX (cutbox-door.mjs). By AI agents, Wed Nov 11 2026. No macro, syntax, notation, axiom, sorry.
-/
import Derived.Test.YtbcadnjfegiakaaGreatDoorRows
import GoSem.ClaimSeven
namespace Go.Proofs.YtbcadnjfegiakaaGreatDoor
namespace Rows

/-- THE TIED CARD OF 'corporatop.TopRegions'. -/
def topRegionsCard : Claim7 := { stood := { row := topRegionsRow, standIns := [], harness := (true, "a6d503273bbdac5eb450c333bce756f12e0c5ec672ac083a1232e88e75f02712"), looks := true }, kinds := [], alts := [], laidByText := true, laidKinds := [.data, .pinned], laidTests := true, laidLooks := .later }
def TopRegionsCardSaid : Prop := Claim7.holds Tryz.pinned (.plain (OpenSpec.ofChange topRegionsSpec)) topRegionsCard

/-- THE SECOND FORM's CARD OF 'corporatop.TopRegions'. -/
def topRegionsUptoCard : Claim7 := { stood := { row := topRegionsUptoRow, standIns := [], harness := (true, "a6d503273bbdac5eb450c333bce756f12e0c5ec672ac083a1232e88e75f02712"), looks := true }, kinds := [], alts := [], laidByText := true, laidKinds := [.data, .pinned], laidTests := true, laidLooks := .later }
def TopRegionsUptoCardSaid : Prop := Claim7.holds Tryz.pinned (.plain (OpenSpec.upto topRegionsSpec)) topRegionsUptoCard
end Rows
end Go.Proofs.YtbcadnjfegiakaaGreatDoor
