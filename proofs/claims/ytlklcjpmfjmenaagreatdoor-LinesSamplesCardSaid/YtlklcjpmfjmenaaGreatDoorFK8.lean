/- lines: the value of a key: the reference. -/
import Derived.Test.YtlklcjpmfjmenaaGreatDoorFK7
namespace Go.Proofs.YtlklcjpmfjmenaaGreatDoor
open Go.RowKit

end Go.Proofs.YtlklcjpmfjmenaaGreatDoor
