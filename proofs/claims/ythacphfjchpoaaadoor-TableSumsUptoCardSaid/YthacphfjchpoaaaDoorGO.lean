/- made corpora: Corpus, Filter.
   made corpora: Corpus: the names of its texts are short. -/
import Derived.Test.YthacphfjchpoaaaDoorFM16
namespace Go.Proofs.YthacphfjchpoaaaDoor
open Go.RowKit


end Go.Proofs.YthacphfjchpoaaaDoor
namespace Go.Proofs.YthacphfjchpoaaaDoor
open Go.RowKit


/-- the names of the texts are short -/
def NmS (c : Cp) : Prop := ∀ t ∈ c.tx, t.ty.size ≤ 1000000
theorem NmS.one {c : Cp} {x : Rg} {nm : ByteArray} (h : c.tx = [x]) (hx : x.ty = nm) (hn : nm.size ≤ 1000000) : NmS c := by
  intro t ht
  rw [h, List.mem_singleton] at ht
  subst ht
  rw [hx]; exact hn
end Go.Proofs.YthacphfjchpoaaaDoor
