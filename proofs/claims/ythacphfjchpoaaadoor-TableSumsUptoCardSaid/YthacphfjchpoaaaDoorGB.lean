/- regions: Apply.
   made corpora: filters, matches, spans. -/
import Derived.Test.YthacphfjchpoaaaDoorG9
namespace Go.Proofs.YthacphfjchpoaaaDoor
open Go.RowKit


end Go.Proofs.YthacphfjchpoaaaDoor
namespace Go.Proofs.YthacphfjchpoaaaDoor
open Go.RowKit


end Go.Proofs.YthacphfjchpoaaaDoor
