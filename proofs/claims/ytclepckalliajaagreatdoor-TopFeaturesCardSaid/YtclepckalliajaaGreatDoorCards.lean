/-
  DERIVED. GIVEN WITH THE SEED: THE CARDS: each row of YtclepckalliajaaGreatDoorRows.lean that lists a variable, with what it lists TIED to the program's text (the seventh form; the later family's looks); each row that meets fmt, with fmt's text TOLD by the authors' own Lean function (tested against real Go, not proved from fmt's source: count such statements apart). THE CARD IS WHAT COUNTS. Prove the row's statement (the work); the ties are given (YtclepckalliajaaGreatDoorTie.lean); close each card by the builder's one call (the guide's Derived/Test/ToyasCard.lean, 'card_holds'). Laid BY PROGRAM, IN A SANDBOX (cutbox-door.mjs). By AI agents, Wed Nov 11 2026. No macro, syntax, notation, axiom, sorry.
-/
import Derived.Test.YtclepckalliajaaGreatDoorRows
import GoSem.ClaimSeven
namespace Go.Proofs.YtclepckalliajaaGreatDoor
namespace Rows

/-- THE TIED CARD OF 'corporatop.TopFeatures'. -/
def topFeaturesCard : Claim7 := { stood := { row := topFeaturesRow, standIns := [], harness := (true, "4cbdf406009877616c97d2d3fb1c815a407b763208604eb12d577e0f26fd7971"), looks := true }, kinds := [], alts := [], laidByText := true, laidKinds := [.data, .pinned], laidTests := true, laidLooks := .later }
def TopFeaturesCardSaid : Prop := Claim7.holds Tryz.pinned (.plain (OpenSpec.ofChange topFeaturesSpec)) topFeaturesCard

/-- THE SECOND FORM's CARD OF 'corporatop.TopFeatures'. -/
def topFeaturesUptoCard : Claim7 := { stood := { row := topFeaturesUptoRow, standIns := [], harness := (true, "4cbdf406009877616c97d2d3fb1c815a407b763208604eb12d577e0f26fd7971"), looks := true }, kinds := [], alts := [], laidByText := true, laidKinds := [.data, .pinned], laidTests := true, laidLooks := .later }
def TopFeaturesUptoCardSaid : Prop := Claim7.holds Tryz.pinned (.plain (OpenSpec.upto topFeaturesSpec)) topFeaturesUptoCard
end Rows
end Go.Proofs.YtclepckalliajaaGreatDoor
