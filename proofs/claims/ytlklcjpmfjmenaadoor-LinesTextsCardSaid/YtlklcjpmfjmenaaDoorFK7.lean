/- lines: the value of a key: the program, the reference. -/
import Derived.Test.YtlklcjpmfjmenaaDoorFK6
namespace Go.Proofs.YtlklcjpmfjmenaaDoor
open Go.RowKit


end Go.Proofs.YtlklcjpmfjmenaaDoor
