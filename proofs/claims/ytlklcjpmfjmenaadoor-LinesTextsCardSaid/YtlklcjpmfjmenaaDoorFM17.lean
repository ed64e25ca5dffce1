/- made corpora: Corpus, Filter. -/
import Derived.Test.YtlklcjpmfjmenaaDoorFM16
namespace Go.Proofs.YtlklcjpmfjmenaaDoor
open Go.RowKit


theorem one_slice {v : Value} (h : ∃ ad n cap, v = .slice ad n cap) : v.oneCell' = true := by
  obtain ⟨_, _, _, rfl⟩ := h; rfl
theorem cp_one {H : Hp} {c : Cp} (h : CpL H c) : AllOne [c.va, c.vt, c.vx, c.vr, c.vn, c.vh, c.vs] := by
  have k : ∀ {sz n : Nat} {v : Value} {xs : List Value}, SlR H sz v n xs → v.oneCell' = true := fun h => by
    obtain ⟨ad, cap, e⟩ := h.len
    exact one_slice ⟨_, _, _, e⟩
  exact ⟨k h.a, k h.t, k h.x.1, k h.r.1, k h.n, k h.h, k h.s, trivial⟩
end Go.Proofs.YtlklcjpmfjmenaaDoor
