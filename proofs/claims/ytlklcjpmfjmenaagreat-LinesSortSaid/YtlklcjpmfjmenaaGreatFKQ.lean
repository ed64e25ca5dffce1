/- lines: what holds of a made corpus. -/
import Derived.Test.YtlklcjpmfjmenaaGreatFKE
namespace Go.Proofs.YtlklcjpmfjmenaaGreat
open Go.RowKit


theorem CpG.wide {c : Cp} (h : CpG c) : CpW c := ⟨fun t ht => by rw [h.tk t ht, h.att]; rfl, fun t ht => chain_mem h.tx ht⟩

end Go.Proofs.YtlklcjpmfjmenaaGreat
