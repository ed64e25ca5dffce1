/- lines: what holds of a made corpus. -/
import Derived.Test.YtlklcjpmfjmenaaDoorFKE
namespace Go.Proofs.YtlklcjpmfjmenaaDoor
open Go.RowKit


theorem i64_range {i : Int} (h : (Lit.int .i64 i).wf = true) : -9223372036854775808 ≤ i ∧ i ≤ 9223372036854775807 := by
  simp only [Lit.wf, Bool.and_eq_true, decide_eq_true_eq] at h
  exact h
theorem CpG.wide {c : Cp} (h : CpG c) : CpW c := ⟨fun t ht => by rw [h.tk t ht, h.att]; rfl, fun t ht => chain_mem h.tx ht⟩

end Go.Proofs.YtlklcjpmfjmenaaDoor
