/- Own layer: an argument that is a slice of filters (an integer, a yes or no, a name). -/
import Derived.Deep.Slices
import Derived.Deep.Fields
import Derived.Test.YtchgfjclchhgmaaG9
namespace Go.Proofs.Ytchgfjclchhgmaa
open Go.RowKit Go.ChangeShapes Go.WideShapes Go.ChangeAt Go.Deep

section
variable {H : Type} {enc : TypeId × Value → H} {P : Program} {w : World} {base : Nat} {spare : Nat → Bool} {held : Bool}
/-- the cells of a row, out of the world's -/
theorem row_slr {sz len cap : Nat} {ad : Addr} {xs : List Value} (hsz : 0 < sz) (hpos : 0 < len) (hcap : len ≤ cap) (hxs : xs.length = len * sz) (hc : ∀ j, j < len * sz → w.cell? (ad.add j) = xs[j]?) : SlR (fun b => w.heap[b]?) sz (.slice (some ad) len cap) len xs := by
  refine ⟨hxs, .inr ?_⟩
  have hlp : 0 < len * sz := Nat.mul_pos hpos hsz
  obtain ⟨b, off, sp⟩ := ad
  have h0 : xs[0]? = some (xs[0]'(by omega)) := List.getElem?_eq_getElem (by omega)
  have hc0 : w.cell? ⟨b, off, sp⟩ = some (xs[0]'(by omega)) := by
    have := hc 0 (by omega)
    rw [h0] at this
    simpa [Addr.add] using this
  obtain ⟨rfl, cs, tt, fz, hb, _⟩ := cells_at hc0
  refine ⟨b, off, cap, cs, tt, fz, rfl, hb, ?_, hcap⟩
  have hcell : ∀ o u, w.cell? ⟨b, o, none⟩ = some u → cs[o]? = some u := by
    intro o u hu
    obtain ⟨_, cs', t', fz', hb', hc'⟩ := cells_at hu
    rw [hb] at hb'
    injection hb' with hb'
    injection hb' with e1
    have : cs = cs' := by simpa using congrArg Array.toList e1
    rw [this]; exact hc'
  apply List.ext_getElem?
  intro j
  by_cases hj : j < len * sz
  · rw [List.getElem?_take, if_pos hj, List.getElem?_drop]
    have k0 := hc j hj
    rw [show ((⟨b, off, none⟩ : Addr).add j) = ⟨b, off + j, none⟩ from add_plain _ _ _, List.getElem?_eq_getElem (by omega)] at k0
    rw [hcell _ _ k0, List.getElem?_eq_getElem (by omega)]
  · rw [List.getElem?_take, if_neg hj, List.getElem?_eq_none (by omega)]
theorem open_filters {r : Reach} {b0 : Nat} {t e : TypeId} {fb fe fl : Field} {v : Value} {d : DataW H} {p : List MemPlace} (ht : P.underlying t = some (.slice e)) (he : P.underlying e = some (.struct #[fb, fe, fl]))
    (hone : oneCellFields P #[fb, fe, fl] = true) (hC : P.cellsOf e = 3) (hb : P.underlying fb.type = some (.int .i64)) (he' : P.underlying fe.type = some .bool) (hl : P.underlying fl.type = some .string)
    (hv : Value.okWide P w r b0 t v) (h : DataW.Trod enc P w base spare held t v d p) :
    ∃ x : List Fl, FlL (fun b => w.heap[b]?) v x := by
  obtain ⟨a, len, cap, rfl⟩ := okWide_slice ht hv
  obtain ⟨fuel, hf⟩ := h
  rcases open_slice ht hf with ⟨hcs, _⟩ | ⟨ad, len', cap', m, n, D, Pl, hcs, _, hlc, hm, hmm, hx, hI⟩
  · simp only [Value.cells, List.cons.injEq, and_true] at hcs
    injection hcs with e1 e2 e3
    subst e1 e2 e3
    exact ⟨[], SlR.empty⟩
  · simp only [Value.cells, List.cons.injEq, and_true] at hcs
    injection hcs with e1 e2 e3
    subst e1 e2 e3
    have hlm : len ≤ m := by rw [hmm]; split <;> omega
    have hE : ∀ i, i < len → ∃ x : Fl, ∀ j, j < 3 → w.cell? (ad.add (i * 3 + j)) = (encFl x)[j]? := by
      intro i hin
      obtain ⟨cs', hc, ht'⟩ := hI i (by omega)
      rw [hC] at hc
      obtain ⟨ys, n', _, hy, _, hyl, hfs⟩ := DataW.trod_struct he ht'
      obtain ⟨_, hcl, hat⟩ := World.cells?_some hc
      injection hy with hy1 hy2
      have hyl3 : ys.length = 3 := hyl
      have field : ∀ (j : Nat) (f : Field), (#[fb, fe, fl] : Array Field)[j]? = some f → j < 3 → ∃ u y, cs'[j]? = some u ∧ ys[j]? = some y ∧ DataW.trod enc P w base spare held n' f.type [u] = some y := by
        intro j f hj hj3
        obtain ⟨ho, hk⟩ := hone_of hone j f hj
        have h1 := hfs j f hj
        rw [ho, hk, List.drop_eq_getElem_cons (by omega)] at h1
        exact ⟨cs'[j]'(by omega), ys[j]'(by omega), List.getElem?_eq_getElem (by omega), List.getElem?_eq_getElem (by omega), by rw [← List.getElem?_eq_getElem, ← h1]; rfl⟩
      obtain ⟨u0, y0, c0, q0, t0⟩ := field 0 fb rfl (by omega)
      obtain ⟨u1, y1, c1, q1, t1⟩ := field 1 fe rfl (by omega)
      obtain ⟨u2, y2, c2, q2, t2⟩ := field 2 fl rfl (by omega)
      obtain ⟨x0, hx0, _, _⟩ := DataW.trod_int hb t0
      obtain ⟨x1, hx1, _⟩ := DataW.trod_bool he' t1
      obtain ⟨x2, hx2, _, _⟩ := DataW.trod_string hl t2
      obtain rfl : u0 = _ := by simpa using hx0
      obtain rfl : u1 = _ := by simpa using hx1
      obtain rfl : u2 = _ := by simpa using hx2
      refine ⟨⟨x0, x1, x2⟩, fun j hj => ?_⟩
      have hadd : ad.add (i * 3 + j) = (ad.add (i * 3)).add j := by rw [Addr.add_add]
      rw [hadd, hat j hj]
      rcases (by omega : j = 0 ∨ j = 1 ∨ j = 2) with rfl | rfl | rfl
      · exact c0
      · exact c1
      · exact c2
    let F : Nat → Fl := fun i => if hh : i < len then (hE i hh).choose else ⟨0, false, ByteArray.empty⟩
    have hF : ∀ i, i < len → ∀ j, j < 3 → w.cell? (ad.add (i * 3 + j)) = (encFl (F i))[j]? := by
      intro i hh
      have := (hE i hh).choose_spec
      simp only [F, dif_pos hh]; exact this
    refine ⟨(List.range len).map F, ?_⟩
    unfold FlL
    rw [List.length_map, List.length_range]
    rcases Nat.eq_zero_or_pos len with h00 | hpos
    · subst h00; exact ⟨by simp, .inl ⟨⟨_, _, rfl⟩, rfl⟩⟩
    · refine row_slr (by omega) hpos hlc (by rw [flat_len (f := encFl) (sz := 3) (fun _ => rfl), List.length_map, List.length_range]) fun j hj => ?_
      have hq := Nat.div_add_mod j 3
      have hmod := Nat.mod_lt j (show 0 < 3 by omega)
      have hq' : j / 3 < len := by omega
      have hel := flat_elem (f := encFl) (sz := 3) (fun _ => rfl) ((List.range len).map F) (j / 3) (F (j / 3)) (by rw [List.getElem?_map, List.getElem?_range hq']; rfl)
      have e2 : (((List.range len).map F).flatMap encFl)[j]? = (encFl (F (j / 3)))[j % 3]? := by
        rw [← hel, List.getElem?_take, if_pos hmod, List.getElem?_drop]; congr 1; omega
      rw [e2, ← hF _ hq' _ hmod]
      congr 2; omega
end
end Go.Proofs.Ytchgfjclchhgmaa
