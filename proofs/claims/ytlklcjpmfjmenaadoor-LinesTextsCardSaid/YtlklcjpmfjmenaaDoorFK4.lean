/- lines: the reference of codepoint: Fold, Reverse. -/
import Derived.Test.YtlklcjpmfjmenaaDoorFK3
namespace Go.Proofs.YtlklcjpmfjmenaaDoor
open Go.RowKit


end Go.Proofs.YtlklcjpmfjmenaaDoor
