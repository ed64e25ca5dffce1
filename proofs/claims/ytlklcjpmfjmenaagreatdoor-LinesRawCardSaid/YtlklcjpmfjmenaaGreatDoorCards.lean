/-
  DERIVED. GIVEN WITH THE SEED: THE CARDS: each row of YtlklcjpmfjmenaaGreatDoorRows.lean that lists a variable, with what it lists TIED to the program's text (the seventh form; the later family's looks); each row that meets fmt, with fmt's text TOLD by the authors' own Lean function (tested against real Go, not proved from fmt's source: count such statements apart). THE CARD IS WHAT COUNTS. Prove the row's statement (the work); the ties are given (YtlklcjpmfjmenaaGreatDoorTie.lean); close each card by the builder's one call (the guide's Derived/Test/ToyasCard.lean, 'card_holds'). Laid BY PROGRAM, IN A SANDBOX (cutbox-door.mjs). By AI agents, Wed Nov 11 2026. No macro, syntax, notation, axiom, sorry.
-/
import Derived.Test.YtlklcjpmfjmenaaGreatDoorRows
import GoSem.ClaimSeven
namespace Go.Proofs.YtlklcjpmfjmenaaGreatDoor
namespace Rows

/-- THE TIED CARD OF 'corporalaw34.LinesRaw'. -/
def linesRawCard : Claim7 := { stood := { row := linesRawRow, standIns := [], harness := (true, "2b525bb3017a039bf5dff014dd53010a24938987a36d414c6da2c20ddbc2c5ba"), looks := false }, kinds := [], alts := [], laidByText := true, laidKinds := [.data, .data, .data], laidTests := true, laidLooks := .later }
def LinesRawCardSaid : Prop := Claim7.holds Tryz.pinned (.plain (OpenSpec.ofChange linesRawSpec)) linesRawCard

/-- THE TIED CARD OF 'corporalaw34.LinesNested'. -/
def linesNestedCard : Claim7 := { stood := { row := linesNestedRow, standIns := [], harness := (true, "2b525bb3017a039bf5dff014dd53010a24938987a36d414c6da2c20ddbc2c5ba"), looks := false }, kinds := [], alts := [], laidByText := true, laidKinds := [.data, .data, .data], laidTests := true, laidLooks := .later }
def LinesNestedCardSaid : Prop := Claim7.holds Tryz.pinned (.plain (OpenSpec.ofChange linesNestedSpec)) linesNestedCard

/-- THE TIED CARD OF 'corporalaw34.LinesSamples'. -/
def linesSamplesCard : Claim7 := { stood := { row := linesSamplesRow, standIns := [], harness := (true, "2b525bb3017a039bf5dff014dd53010a24938987a36d414c6da2c20ddbc2c5ba"), looks := false }, kinds := [], alts := [], laidByText := true, laidKinds := [.data, .data, .data], laidTests := true, laidLooks := .later }
def LinesSamplesCardSaid : Prop := Claim7.holds Tryz.pinned (.plain (OpenSpec.ofChange linesSamplesSpec)) linesSamplesCard

/-- THE SECOND FORM's CARD OF 'corporalaw34.LinesRaw'. -/
def linesRawUptoCard : Claim7 := { stood := { row := linesRawUptoRow, standIns := [], harness := (true, "2b525bb3017a039bf5dff014dd53010a24938987a36d414c6da2c20ddbc2c5ba"), looks := false }, kinds := [], alts := [], laidByText := true, laidKinds := [.data, .data, .data], laidTests := true, laidLooks := .later }
def LinesRawUptoCardSaid : Prop := Claim7.holds Tryz.pinned (.plain (OpenSpec.upto linesRawSpec)) linesRawUptoCard

/-- THE SECOND FORM's CARD OF 'corporalaw34.LinesNested'. -/
def linesNestedUptoCard : Claim7 := { stood := { row := linesNestedUptoRow, standIns := [], harness := (true, "2b525bb3017a039bf5dff014dd53010a24938987a36d414c6da2c20ddbc2c5ba"), looks := false }, kinds := [], alts := [], laidByText := true, laidKinds := [.data, .data, .data], laidTests := true, laidLooks := .later }
def LinesNestedUptoCardSaid : Prop := Claim7.holds Tryz.pinned (.plain (OpenSpec.upto linesNestedSpec)) linesNestedUptoCard

/-- THE SECOND FORM's CARD OF 'corporalaw34.LinesSamples'. -/
def linesSamplesUptoCard : Claim7 := { stood := { row := linesSamplesUptoRow, standIns := [], harness := (true, "2b525bb3017a039bf5dff014dd53010a24938987a36d414c6da2c20ddbc2c5ba"), looks := false }, kinds := [], alts := [], laidByText := true, laidKinds := [.data, .data, .data], laidTests := true, laidLooks := .later }
def LinesSamplesUptoCardSaid : Prop := Claim7.holds Tryz.pinned (.plain (OpenSpec.upto linesSamplesSpec)) linesSamplesUptoCard
end Rows
end Go.Proofs.YtlklcjpmfjmenaaGreatDoor
