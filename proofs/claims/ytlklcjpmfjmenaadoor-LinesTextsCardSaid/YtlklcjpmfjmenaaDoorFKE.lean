/- lines: a made key. -/
import Derived.Test.YtlklcjpmfjmenaaDoorFKD
namespace Go.Proofs.YtlklcjpmfjmenaaDoor
open Go.RowKit


end Go.Proofs.YtlklcjpmfjmenaaDoor
