/- lines: the value of a key: the program, the reference. -/
import Derived.Test.YtlklcjpmfjmenaaGreatDoorFK6
namespace Go.Proofs.YtlklcjpmfjmenaaGreatDoor
open Go.RowKit

end Go.Proofs.YtlklcjpmfjmenaaGreatDoor
