/- regions: Last, and the reference's Holds and Last. -/
import Derived.Test.YtlklcjpmfjmenaaDoorG9
namespace Go.Proofs.YtlklcjpmfjmenaaDoor
open Go.RowKit


end Go.Proofs.YtlklcjpmfjmenaaDoor
