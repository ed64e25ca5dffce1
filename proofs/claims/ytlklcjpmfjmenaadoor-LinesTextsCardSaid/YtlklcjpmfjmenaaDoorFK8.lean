/- lines: the value of a key: the reference. -/
import Derived.Test.YtlklcjpmfjmenaaDoorFK7
namespace Go.Proofs.YtlklcjpmfjmenaaDoor
open Go.RowKit


end Go.Proofs.YtlklcjpmfjmenaaDoor
