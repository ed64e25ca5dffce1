/- made corpora: Concat. -/
import Derived.Test.YtlklcjpmfjmenaaDoorG8
namespace Go.Proofs.YtlklcjpmfjmenaaDoor
open Go.RowKit


end Go.Proofs.YtlklcjpmfjmenaaDoor
