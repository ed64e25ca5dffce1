/- regions: Last, and the reference's Holds and Last. -/
import Derived.Test.YtlklcjpmfjmenaaGreatG9
namespace Go.Proofs.YtlklcjpmfjmenaaGreat
open Go.RowKit


end Go.Proofs.YtlklcjpmfjmenaaGreat
