/- a condition on a feature: valid; which tokens hold it.
   a condition on a feature: which tokens hold it; Select. -/
import Derived.Test.YtbcadnjfegiakaaGreatDoorGE
namespace Go.Proofs.YtbcadnjfegiakaaGreatDoor
open Go.RowKit


end Go.Proofs.YtbcadnjfegiakaaGreatDoor
namespace Go.Proofs.YtbcadnjfegiakaaGreatDoor
open Go.RowKit


end Go.Proofs.YtbcadnjfegiakaaGreatDoor
