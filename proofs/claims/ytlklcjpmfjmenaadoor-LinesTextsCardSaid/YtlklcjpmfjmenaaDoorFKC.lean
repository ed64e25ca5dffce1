/- lines: MakeRegion: the program, the reference. -/
import Derived.Test.YtlklcjpmfjmenaaDoorFKB
import Derived.Test.YtlklcjpmfjmenaaDoorFR4
namespace Go.Proofs.YtlklcjpmfjmenaaDoor
open Go.RowKit


end Go.Proofs.YtlklcjpmfjmenaaDoor
