/- made corpora: Document. -/
import Derived.Test.YthacphfjchpoaaaDoorGA
namespace Go.Proofs.YthacphfjchpoaaaDoor
open Go.RowKit


theorem Vec.lit {el sz b : Nat} {xs : List Value} (n : Nat) (h : xs.length = n * sz) (hn : n ≤ 1000) : Vec el sz (.slice (some ⟨b, 0, none⟩) n n) [(b, .cells xs.toArray el (0, 0))] n xs :=
  ⟨h, .inr ⟨b, n, xs, rfl, rfl, Nat.le_refl _, by unfold maxLen; omega, h, by rw [← h]; exact List.take_length⟩⟩
theorem StrOf.size {l : List ByteArray} {m : Nat} (h : l.all (fun s => decide (s.size ≤ m)) = true) {s : ByteArray} (hs : s ∈ l) : s.size ≤ m := of_decide_eq_true (List.all_eq_true.1 h s hs)
end Go.Proofs.YthacphfjchpoaaaDoor
