/- made corpora: Concat. -/
import Derived.Test.YthacphfjchpoaaaDoorG8
namespace Go.Proofs.YthacphfjchpoaaaDoor
open Go.RowKit


end Go.Proofs.YthacphfjchpoaaaDoor
