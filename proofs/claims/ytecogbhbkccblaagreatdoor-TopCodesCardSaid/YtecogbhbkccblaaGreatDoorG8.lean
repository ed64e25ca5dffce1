/- made corpora: Validate comes to an end: constituents.
   made corpora: Valid; what Concat calls.
   made corpora: what Concat needs: rows that are turned part by part. -/
import Derived.Test.YtecogbhbkccblaaGreatDoorG7
set_option linter.all false
namespace Go.Proofs.YtecogbhbkccblaaGreatDoor
open Go.RowKit


structure DeG where
  i : Nat
  lv : List (Nat × Obj)
  l : List Int
end Go.Proofs.YtecogbhbkccblaaGreatDoor
namespace Go.Proofs.YtecogbhbkccblaaGreatDoor
open Go.RowKit


end Go.Proofs.YtecogbhbkccblaaGreatDoor
namespace Go.Proofs.YtecogbhbkccblaaGreatDoor
open Go.RowKit


end Go.Proofs.YtecogbhbkccblaaGreatDoor
