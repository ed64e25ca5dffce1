/-
  DERIVED. GIVEN WITH THE SEED: THE CARDS: each row of YthacphfjchpoaaaDoorRows.lean that lists a variable, with what it lists TIED to the program's text (the seventh form; the later family's looks); each row that meets fmt, with fmt's text TOLD by the authors' own Lean function (tested against real Go, not proved from fmt's source: count such statements apart). THE CARD IS WHAT COUNTS. Prove the row's statement (the work); the ties are given (YthacphfjchpoaaaDoorTie.lean); close each card by the builder's one call (the guide's Derived/Test/ToyasCard.lean, 'card_holds'). Laid BY PROGRAM, IN A SANDBOX (cutbox-door.mjs). By AI agents, Wed Nov 11 2026. No macro, syntax, notation, axiom, sorry.
-/
import Derived.Test.YthacphfjchpoaaaDoorRows
import GoSem.ClaimSeven
namespace Go.Proofs.YthacphfjchpoaaaDoor
namespace Rows

/-- THE TIED CARD OF 'corporalaw35.TableSums'. -/
def tableSumsCard : Claim7 := { stood := { row := tableSumsRow, standIns := [], harness := (true, "d97f16897ddfbdf4fbae485ec03eff79b53a93fd549be5f8ac2ce2fc64e6ea96"), looks := false }, kinds := [], alts := [], laidByText := true, laidKinds := [.data, .data, .data], laidTests := true, laidLooks := .later }
def TableSumsCardSaid : Prop := Claim7.holds Tryd.pinned (.plain (OpenSpec.ofChange tableSumsSpec)) tableSumsCard

/-- THE SECOND FORM's CARD OF 'corporalaw35.TableSums'. -/
def tableSumsUptoCard : Claim7 := { stood := { row := tableSumsUptoRow, standIns := [], harness := (true, "d97f16897ddfbdf4fbae485ec03eff79b53a93fd549be5f8ac2ce2fc64e6ea96"), looks := false }, kinds := [], alts := [], laidByText := true, laidKinds := [.data, .data, .data], laidTests := true, laidLooks := .later }
def TableSumsUptoCardSaid : Prop := Claim7.holds Tryd.pinned (.plain (OpenSpec.upto tableSumsSpec)) tableSumsUptoCard
end Rows
end Go.Proofs.YthacphfjchpoaaaDoor
