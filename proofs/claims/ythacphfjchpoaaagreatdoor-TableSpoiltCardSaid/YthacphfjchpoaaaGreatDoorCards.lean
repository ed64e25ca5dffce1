/-
  DERIVED. GIVEN WITH THE SEED: THE CARDS: each row of YthacphfjchpoaaaGreatDoorRows.lean that lists a variable, with what it lists TIED to the program's text (the seventh form; the later family's looks); each row that meets fmt, with fmt's text TOLD by the authors' own Lean function (tested against real Go, not proved from fmt's source: count such statements apart). THE CARD IS WHAT COUNTS. Prove the row's statement (the work); the ties are given (YthacphfjchpoaaaGreatDoorTie.lean); close each card by the builder's one call (the guide's Derived/Test/ToyasCard.lean, 'card_holds'). Laid BY PROGRAM, IN A SANDBOX (cutbox-door.mjs). By AI agents, Wed Nov 11 2026. No macro, syntax, notation, axiom, sorry.
-/
import Derived.Test.YthacphfjchpoaaaGreatDoorRows
import GoSem.ClaimSeven
namespace Go.Proofs.YthacphfjchpoaaaGreatDoor
namespace Rows

/-- THE TIED CARD OF 'corporalaw35.TableCounts'. -/
def tableCountsCard : Claim7 := { stood := { row := tableCountsRow, standIns := [], harness := (true, "b4b80d8f13f001014471fec5b00fe34214596ed5e0c7abf2f667b257b931a2a2"), looks := false }, kinds := [], alts := [], laidByText := true, laidKinds := [.data, .data, .data], laidTests := true, laidLooks := .later }
def TableCountsCardSaid : Prop := Claim7.holds Tryz.pinned (.plain (OpenSpec.ofChange tableCountsSpec)) tableCountsCard

/-- THE TIED CARD OF 'corporalaw35.TableRaw'. -/
def tableRawCard : Claim7 := { stood := { row := tableRawRow, standIns := [], harness := (true, "b4b80d8f13f001014471fec5b00fe34214596ed5e0c7abf2f667b257b931a2a2"), looks := false }, kinds := [], alts := [], laidByText := true, laidKinds := [.data, .data, .data], laidTests := true, laidLooks := .later }
def TableRawCardSaid : Prop := Claim7.holds Tryz.pinned (.plain (OpenSpec.ofChange tableRawSpec)) tableRawCard

/-- THE TIED CARD OF 'corporalaw35.TableOrder'. -/
def tableOrderCard : Claim7 := { stood := { row := tableOrderRow, standIns := [], harness := (true, "b4b80d8f13f001014471fec5b00fe34214596ed5e0c7abf2f667b257b931a2a2"), looks := false }, kinds := [], alts := [], laidByText := true, laidKinds := [.data, .data, .data], laidTests := true, laidLooks := .later }
def TableOrderCardSaid : Prop := Claim7.holds Tryz.pinned (.plain (OpenSpec.ofChange tableOrderSpec)) tableOrderCard

/-- THE TIED CARD OF 'corporalaw35.TableSpoilt'. -/
def tableSpoiltCard : Claim7 := { stood := { row := tableSpoiltRow, standIns := [], harness := (true, "b4b80d8f13f001014471fec5b00fe34214596ed5e0c7abf2f667b257b931a2a2"), looks := false }, kinds := [], alts := [], laidByText := true, laidKinds := [.data, .data, .data], laidTests := true, laidLooks := .later }
def TableSpoiltCardSaid : Prop := Claim7.holds Tryz.pinned (.plain (OpenSpec.ofChange tableSpoiltSpec)) tableSpoiltCard

/-- THE TIED CARD OF 'corporalaw35.TableTotals'. -/
def tableTotalsCard : Claim7 := { stood := { row := tableTotalsRow, standIns := [], harness := (true, "b4b80d8f13f001014471fec5b00fe34214596ed5e0c7abf2f667b257b931a2a2"), looks := false }, kinds := [], alts := [], laidByText := true, laidKinds := [.data, .data, .data], laidTests := true, laidLooks := .later }
def TableTotalsCardSaid : Prop := Claim7.holds Tryz.pinned (.plain (OpenSpec.ofChange tableTotalsSpec)) tableTotalsCard

/-- THE TIED CARD OF 'corporalaw35.TableMerges'. -/
def tableMergesCard : Claim7 := { stood := { row := tableMergesRow, standIns := [], harness := (true, "b4b80d8f13f001014471fec5b00fe34214596ed5e0c7abf2f667b257b931a2a2"), looks := false }, kinds := [], alts := [], laidByText := true, laidKinds := [.data, .data, .data], laidTests := true, laidLooks := .later }
def TableMergesCardSaid : Prop := Claim7.holds Tryz.pinned (.plain (OpenSpec.ofChange tableMergesSpec)) tableMergesCard

/-- THE SECOND FORM's CARD OF 'corporalaw35.TableCounts'. -/
def tableCountsUptoCard : Claim7 := { stood := { row := tableCountsUptoRow, standIns := [], harness := (true, "b4b80d8f13f001014471fec5b00fe34214596ed5e0c7abf2f667b257b931a2a2"), looks := false }, kinds := [], alts := [], laidByText := true, laidKinds := [.data, .data, .data], laidTests := true, laidLooks := .later }
def TableCountsUptoCardSaid : Prop := Claim7.holds Tryz.pinned (.plain (OpenSpec.upto tableCountsSpec)) tableCountsUptoCard

/-- THE SECOND FORM's CARD OF 'corporalaw35.TableRaw'. -/
def tableRawUptoCard : Claim7 := { stood := { row := tableRawUptoRow, standIns := [], harness := (true, "b4b80d8f13f001014471fec5b00fe34214596ed5e0c7abf2f667b257b931a2a2"), looks := false }, kinds := [], alts := [], laidByText := true, laidKinds := [.data, .data, .data], laidTests := true, laidLooks := .later }
def TableRawUptoCardSaid : Prop := Claim7.holds Tryz.pinned (.plain (OpenSpec.upto tableRawSpec)) tableRawUptoCard

/-- THE SECOND FORM's CARD OF 'corporalaw35.TableOrder'. -/
def tableOrderUptoCard : Claim7 := { stood := { row := tableOrderUptoRow, standIns := [], harness := (true, "b4b80d8f13f001014471fec5b00fe34214596ed5e0c7abf2f667b257b931a2a2"), looks := false }, kinds := [], alts := [], laidByText := true, laidKinds := [.data, .data, .data], laidTests := true, laidLooks := .later }
def TableOrderUptoCardSaid : Prop := Claim7.holds Tryz.pinned (.plain (OpenSpec.upto tableOrderSpec)) tableOrderUptoCard

/-- THE SECOND FORM's CARD OF 'corporalaw35.TableSpoilt'. -/
def tableSpoiltUptoCard : Claim7 := { stood := { row := tableSpoiltUptoRow, standIns := [], harness := (true, "b4b80d8f13f001014471fec5b00fe34214596ed5e0c7abf2f667b257b931a2a2"), looks := false }, kinds := [], alts := [], laidByText := true, laidKinds := [.data, .data, .data], laidTests := true, laidLooks := .later }
def TableSpoiltUptoCardSaid : Prop := Claim7.holds Tryz.pinned (.plain (OpenSpec.upto tableSpoiltSpec)) tableSpoiltUptoCard

/-- THE SECOND FORM's CARD OF 'corporalaw35.TableTotals'. -/
def tableTotalsUptoCard : Claim7 := { stood := { row := tableTotalsUptoRow, standIns := [], harness := (true, "b4b80d8f13f001014471fec5b00fe34214596ed5e0c7abf2f667b257b931a2a2"), looks := false }, kinds := [], alts := [], laidByText := true, laidKinds := [.data, .data, .data], laidTests := true, laidLooks := .later }
def TableTotalsUptoCardSaid : Prop := Claim7.holds Tryz.pinned (.plain (OpenSpec.upto tableTotalsSpec)) tableTotalsUptoCard

/-- THE SECOND FORM's CARD OF 'corporalaw35.TableMerges'. -/
def tableMergesUptoCard : Claim7 := { stood := { row := tableMergesUptoRow, standIns := [], harness := (true, "b4b80d8f13f001014471fec5b00fe34214596ed5e0c7abf2f667b257b931a2a2"), looks := false }, kinds := [], alts := [], laidByText := true, laidKinds := [.data, .data, .data], laidTests := true, laidLooks := .later }
def TableMergesUptoCardSaid : Prop := Claim7.holds Tryz.pinned (.plain (OpenSpec.upto tableMergesSpec)) tableMergesUptoCard
end Rows
end Go.Proofs.YthacphfjchpoaaaGreatDoor
