/- lines: arguments that are a match, a key. -/
import Derived.Deep.Slices
import Derived.Deep.Fields
import Derived.Test.YthacphfjchpoaaaDoorGC
namespace Go.Proofs.YthacphfjchpoaaaDoor
open Go.RowKit
 Go.ChangeShapes Go.WideShapes Go.ChangeAt Go.Deep

section
variable {H : Type} {enc : TypeId × Value → H} {P : Program} {w : World} {base : Nat} {spare : Nat → Bool} {held : Bool}
theorem row_slrX {sz len cap : Nat} {ad : Addr} {xs : List Value} (hsz : 0 < sz) (hpos : 0 < len) (hcap : len ≤ cap) (hxs : xs.length = len * sz) (hc : ∀ j, j < len * sz → w.cell? (ad.add j) = xs[j]?) : SlR (fun b => w.heap[b]?) sz (.slice (some ad) len cap) len xs := by
  refine ⟨hxs, .inr ?_⟩
  have hlp : 0 < len * sz := Nat.mul_pos hpos hsz
  obtain ⟨b, off, sp⟩ := ad
  have h0 : xs[0]? = some (xs[0]'(by omega)) := List.getElem?_eq_getElem (by omega)
  have hc0 : w.cell? ⟨b, off, sp⟩ = some (xs[0]'(by omega)) := by
    have := hc 0 (by omega)
    rw [h0] at this
    simpa [Addr.add] using this
  obtain ⟨rfl, cs, tt, fz, hb, _⟩ := cells_at hc0
  refine ⟨b, off, cap, cs, tt, fz, rfl, hb, ?_, hcap⟩
  have hcell : ∀ o u, w.cell? ⟨b, o, none⟩ = some u → cs[o]? = some u := by
    intro o u hu
    obtain ⟨_, cs', t', fz', hb', hc'⟩ := cells_at hu
    rw [hb] at hb'
    injection hb' with hb'
    injection hb' with e1
    have : cs = cs' := by simpa using congrArg Array.toList e1
    rw [this]; exact hc'
  apply List.ext_getElem?
  intro j
  by_cases hj : j < len * sz
  · rw [List.getElem?_take, if_pos hj, List.getElem?_drop]
    have k0 := hc j hj
    rw [show ((⟨b, off, none⟩ : Addr).add j) = ⟨b, off + j, none⟩ from add_plain _ _ _, List.getElem?_eq_getElem (by omega)] at k0
    rw [hcell _ _ k0, List.getElem?_eq_getElem (by omega)]
  · rw [List.getElem?_take, if_neg hj, List.getElem?_eq_none (by omega)]
end

end Go.Proofs.YthacphfjchpoaaaDoor
