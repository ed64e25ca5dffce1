/- regions: Apply.
   made corpora: filters, matches, spans. -/
import Derived.Test.YtlklcjpmfjmenaaGreatDoorG9
namespace Go.Proofs.YtlklcjpmfjmenaaGreatDoor
open Go.RowKit

def mk3 (m : Mt) : Int × Int × List Int := (m.b, m.e, m.ls)
end Go.Proofs.YtlklcjpmfjmenaaGreatDoor
namespace Go.Proofs.YtlklcjpmfjmenaaGreatDoor
open Go.RowKit

end Go.Proofs.YtlklcjpmfjmenaaGreatDoor
