/- lines: the keys of a sorting.
   lines: comparing strings and matches. -/
import Derived.Lib.Bytealg
import Derived.Test.YtlklcjpmfjmenaaGreatDoorFK5
namespace Go.Proofs.YtlklcjpmfjmenaaGreatDoor
open Go.RowKit

end Go.Proofs.YtlklcjpmfjmenaaGreatDoor
namespace Go.Proofs.YtlklcjpmfjmenaaGreatDoor
open Go.RowKit

end Go.Proofs.YtlklcjpmfjmenaaGreatDoor
