/- lines: the text of a token; whether a match fits.
   lines: the reference of codepoint: Fold, Reverse.
   lines: the value of a key.
   lines: arguments that are a match, a key. -/
import Derived.Deep.Slices
import Derived.Deep.Fields
import Derived.Test.YtecogbhbkccblaaGreatDoorGB
set_option linter.all false
namespace Go.Proofs.YtecogbhbkccblaaGreatDoor
open Go.RowKit


end Go.Proofs.YtecogbhbkccblaaGreatDoor
namespace Go.Proofs.YtecogbhbkccblaaGreatDoor
open Go.RowKit


end Go.Proofs.YtecogbhbkccblaaGreatDoor
namespace Go.Proofs.YtecogbhbkccblaaGreatDoor
open Go.RowKit


def lbI (lb : List ByteArray) (s : ByteArray) : Int := ixI (fun x => decide (x = s)) lb
def lbAt (lb : List ByteArray) (m : Mt) (s : ByteArray) : Int := if lbI lb s < 0 then -1 else (m.ls[(lbI lb s).toNat]?).getD 0
def atP (lb : List ByteArray) (m : Mt) (a : Int) (s : ByteArray) : Int := if a = 1 then m.b else if a = 2 then m.e - 1 else if a = 3 then lbAt lb m s else -1
end Go.Proofs.YtecogbhbkccblaaGreatDoor
namespace Go.Proofs.YtecogbhbkccblaaGreatDoor
open Go.RowKit
 Go.ChangeShapes Go.WideShapes Go.ChangeAt Go.Deep

section
variable {H : Type} {enc : TypeId × Value → H} {P : Program} {w : World} {base : Nat} {spare : Nat → Bool} {held : Bool}
theorem row_slrX {sz len cap : Nat} {ad : Addr} {xs : List Value} (hsz : 0 < sz) (hpos : 0 < len) (hcap : len ≤ cap) (hxs : xs.length = len * sz) (hc : ∀ j, j < len * sz → w.cell? (ad.add j) = xs[j]?) : SlR (fun b => w.heap[b]?) sz (.slice (some ad) len cap) len xs := by
  refine ⟨hxs, .inr ?_⟩
  have hlp : 0 < len * sz := Nat.mul_pos hpos hsz
  obtain ⟨b, off, sp⟩ := ad
  have h0 : xs[0]? = some (xs[0]'zO) := List.getElem?_eq_getElem zO
  have hc0 : w.cell? ⟨b, off, sp⟩ = some (xs[0]'zO) := by
    have := hc 0 zO
    rw [h0] at this
    simpa [Addr.add] using this
  obtain ⟨rfl, cs, tt, fz, hb, _⟩ := cells_at hc0
  refine ⟨b, off, cap, cs, tt, fz, rfl, hb, ?_, hcap⟩
  have hcell : ∀ o u, w.cell? ⟨b, o, none⟩ = some u → cs[o]? = some u := by
    intro o u hu
    obtain ⟨_, cs', t', fz', hb', hc'⟩ := cells_at hu
    rw [hb] at hb'
    injection hb' with hb'
    injection hb' with e1
    have : cs = cs' := by simpa using congrArg Array.toList e1
    rw [this]; exact hc'
  apply List.ext_getElem?
  intro j
  by_cases hj : j < len * sz
  · rw [List.getElem?_take, if_pos hj, List.getElem?_drop]
    have k0 := hc j hj
    rw [show ((⟨b, off, none⟩ : Addr).add j) = ⟨b, off + j, none⟩ from add_plain _ _ _, List.getElem?_eq_getElem zO] at k0
    rw [hcell _ _ k0, List.getElem?_eq_getElem zO]
  · rw [List.getElem?_take, if_neg hj, List.getElem?_eq_none zO]
/-- the fields of an aggregate of one-cell fields -/
theorem agg_fields {r : Reach} {b0 : Nat} {t : TypeId} {fs : Array Field} {n : Nat} {v : Value} {d : DataW H} {p : List MemPlace} (hs : P.underlying t = some (.struct fs)) (hone : oneCellFields P fs = true) (hn : fs.size = n) (hC : P.cellsOf t = n)
    (hv : Value.okWide P w r b0 t v) (h : DataW.Trod enc P w base spare held t v d p) :
    ∃ (cs : List Value) (k : Nat), v = .agg cs.toArray ∧ cs.length = n ∧ ∀ (j : Nat) (f : Field), fs[j]? = some f → j < n → ∃ u y, cs[j]? = some u ∧ DataW.trod enc P w base spare held k f.type [u] = some y := by
  obtain ⟨cs, rfl, hsz⟩ := okWide_struct hs hv
  obtain ⟨fuel, hf⟩ := h
  obtain ⟨ys, k, _, hy, _, hyl, hfs⟩ := DataW.trod_struct hs hf
  have hl : cs.toList.length = n := by rw [Array.length_toList, hsz, hC]
  refine ⟨cs.toList, k, rfl, hl, fun j f hj hjn => ?_⟩
  obtain ⟨ho, hk⟩ := hone_of hone j f hj
  have h1 := hfs j f hj
  have hcv : (Value.agg cs).cells.toList = cs.toList := rfl
  have hyl' : j < ys.length := by rw [hyl, hn]; exact hjn
  rw [ho, hk, hcv, List.drop_eq_getElem_cons zO] at h1
  exact ⟨cs.toList[j]'zO, ys[j]'hyl', List.getElem?_eq_getElem zO, by rw [← List.getElem?_eq_getElem, ← h1]; rfl⟩
end

end Go.Proofs.YtecogbhbkccblaaGreatDoor
