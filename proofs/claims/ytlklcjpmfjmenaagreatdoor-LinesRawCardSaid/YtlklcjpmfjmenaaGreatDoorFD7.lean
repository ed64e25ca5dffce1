/- lines: arguments that are a match, a key. -/
import Derived.Deep.Slices
import Derived.Deep.Fields
import Derived.Test.YtlklcjpmfjmenaaGreatDoorFK5
namespace Go.Proofs.YtlklcjpmfjmenaaGreatDoor
open Go.RowKit Go.ChangeShapes Go.WideShapes Go.ChangeAt Go.Deep

section
variable {H : Type} {enc : TypeId × Value → H} {P : Program} {w : World} {base : Nat} {spare : Nat → Bool} {held : Bool}
theorem row_slrX {sz len cap : Nat} {ad : Addr} {xs : List Value} (hsz : 0 < sz) (hpos : 0 < len) (hcap : len ≤ cap) (hxs : xs.length = len * sz) (hc : ∀ j, j < len * sz → w.cell? (ad.add j) = xs[j]?) : SlR (fun b => w.heap[b]?) sz (.slice (some ad) len cap) len xs := by
  refine ⟨hxs, .inr ?_⟩
  have hlp : 0 < len * sz := Nat.mul_pos hpos hsz
  obtain ⟨b, off, sp⟩ := ad
  have h0 : xs[0]? = some (xs[0]'(by omega)) := List.getElem?_eq_getElem (by omega)
  have hc0 : w.cell? ⟨b, off, sp⟩ = some (xs[0]'(by omega)) := by
    have := hc 0 (by omega)
    rw [h0] at this
    simpa [Addr.add] using this
  obtain ⟨rfl, cs, tt, fz, hb, _⟩ := cells_at hc0
  refine ⟨b, off, cap, cs, tt, fz, rfl, hb, ?_, hcap⟩
  have hcell : ∀ o u, w.cell? ⟨b, o, none⟩ = some u → cs[o]? = some u := by
    intro o u hu
    obtain ⟨_, cs', t', fz', hb', hc'⟩ := cells_at hu
    rw [hb] at hb'
    injection hb' with hb'
    injection hb' with e1
    have : cs = cs' := by simpa using congrArg Array.toList e1
    rw [this]; exact hc'
  apply List.ext_getElem?
  intro j
  by_cases hj : j < len * sz
  · rw [List.getElem?_take, if_pos hj, List.getElem?_drop]
    have k0 := hc j hj
    rw [show ((⟨b, off, none⟩ : Addr).add j) = ⟨b, off + j, none⟩ from add_plain _ _ _, List.getElem?_eq_getElem (by omega)] at k0
    rw [hcell _ _ k0, List.getElem?_eq_getElem (by omega)]
  · rw [List.getElem?_take, if_neg hj, List.getElem?_eq_none (by omega)]
theorem ints_of_trodX {t e : TypeId} {fuel : Nat} {v : Value} {x : DataW H × List MemPlace} (ht : P.underlying t = some (.slice e)) (he : P.underlying e = some (.int .i64)) (ce : P.cellsOf e = 1)
    (h : DataW.trod enc P w base spare held fuel t [v] = some x) : ∃ l : List Int, SlR (fun b => w.heap[b]?) 1 v l.length (l.flatMap fun a => [.int .i64 a]) := by
  rcases open_ints ht he ce h with ⟨hcs, _⟩ | ⟨ad, len, cap, zs, hcs, _, hl, hm, hmm, rfl, hi, hz⟩
  · simp only [List.cons.injEq, and_true] at hcs
    subst hcs
    exact ⟨[], SlR.empty⟩
  · simp only [List.cons.injEq, and_true] at hcs
    subst hcs
    have hlm : len ≤ zs.length := by rw [hmm]; split <;> omega
    have htl : (zs.take len).length = len := by rw [List.length_take]; omega
    refine ⟨zs.take len, ?_⟩
    rw [htl]
    rcases Nat.eq_zero_or_pos len with h00 | hpos
    · subst h00; exact ⟨by simp, .inl ⟨⟨_, _, rfl⟩, rfl⟩⟩
    · refine row_slrX (by omega) hpos hl (by rw [flat_len (f := fun a : Int => [Value.int .i64 a]) (sz := 1) (fun _ => rfl), htl]) fun j hj => ?_
      rw [hi j (by omega)]
      have hx : (zs.take len)[j]? = some (zs.getD j 0) := by
        rw [List.getElem?_take, if_pos (by omega), List.getD_eq_getElem?_getD, List.getElem?_eq_getElem (by omega)]; rfl
      have hel := flat_elem (f := fun a : Int => [Value.int .i64 a]) (sz := 1) (fun _ => rfl) (zs.take len) j _ hx
      have := congrArg (fun l => l[0]?) hel
      simp only [Nat.mul_one, List.getElem?_take, List.getElem?_drop, Nat.add_zero] at this
      simpa using this.symm
/-- the fields of an aggregate of one-cell fields -/
theorem agg_fields {r : Reach} {b0 : Nat} {t : TypeId} {fs : Array Field} {n : Nat} {v : Value} {d : DataW H} {p : List MemPlace} (hs : P.underlying t = some (.struct fs)) (hone : oneCellFields P fs = true) (hn : fs.size = n) (hC : P.cellsOf t = n)
    (hv : Value.okWide P w r b0 t v) (h : DataW.Trod enc P w base spare held t v d p) :
    ∃ (cs : List Value) (k : Nat), v = .agg cs.toArray ∧ cs.length = n ∧ ∀ (j : Nat) (f : Field), fs[j]? = some f → j < n → ∃ u y, cs[j]? = some u ∧ DataW.trod enc P w base spare held k f.type [u] = some y := by
  obtain ⟨cs, rfl, hsz⟩ := okWide_struct hs hv
  obtain ⟨fuel, hf⟩ := h
  obtain ⟨ys, k, _, hy, _, hyl, hfs⟩ := DataW.trod_struct hs hf
  have hl : cs.toList.length = n := by rw [Array.length_toList, hsz, hC]
  refine ⟨cs.toList, k, rfl, hl, fun j f hj hjn => ?_⟩
  obtain ⟨ho, hk⟩ := hone_of hone j f hj
  have h1 := hfs j f hj
  have hcv : (Value.agg cs).cells.toList = cs.toList := rfl
  have hyl' : j < ys.length := by rw [hyl, hn]; exact hjn
  rw [ho, hk, hcv, List.drop_eq_getElem_cons (by omega)] at h1
  exact ⟨cs.toList[j]'(by omega), ys[j]'hyl', List.getElem?_eq_getElem (by omega), by rw [← List.getElem?_eq_getElem, ← h1]; rfl⟩
theorem open_match {r : Reach} {b0 : Nat} {t ti : TypeId} {fb fe fl : Field} {v : Value} {d : DataW H} {p : List MemPlace} (hs : P.underlying t = some (.struct #[fb, fe, fl]))
    (hone : oneCellFields P #[fb, fe, fl] = true) (hC : P.cellsOf t = 3) (hb : P.underlying fb.type = some (.int .i64)) (he : P.underlying fe.type = some (.int .i64)) (hl : P.underlying fl.type = some (.slice ti)) (hi : P.underlying ti = some (.int .i64)) (hci : P.cellsOf ti = 1)
    (hv : Value.okWide P w r b0 t v) (h : DataW.Trod enc P w base spare held t v d p) : ∃ m : Mt, v = mtV m ∧ InL (fun b => w.heap[b]?) m.v m.ls := by
  obtain ⟨cs, k, rfl, hn, hf⟩ := agg_fields (n := 3) hs hone rfl hC hv h
  obtain ⟨u0, y0, c0, t0⟩ := hf 0 fb rfl (by omega)
  obtain ⟨u1, y1, c1, t1⟩ := hf 1 fe rfl (by omega)
  obtain ⟨u2, y2, c2, t2⟩ := hf 2 fl rfl (by omega)
  obtain ⟨x0, hx0, _, _⟩ := DataW.trod_int hb t0
  obtain ⟨x1, hx1, _, _⟩ := DataW.trod_int he t1
  obtain rfl : u0 = _ := by simpa using hx0
  obtain rfl : u1 = _ := by simpa using hx1
  obtain ⟨ls, hls⟩ := ints_of_trodX hl hi hci t2
  refine ⟨⟨x0, x1, u2, ls⟩, ?_, hls⟩
  match cs, hn, c0, c1, c2 with
  | [a, b, c], _, c0, c1, c2 =>
    simp at c0 c1 c2
    subst c0 c1 c2
    rfl
theorem open_key {r : Reach} {b0 : Nat} {t : TypeId} {f0 f1 f2 f3 f4 f5 f6 : Field} {v : Value} {d : DataW H} {p : List MemPlace} (hs : P.underlying t = some (.struct #[f0, f1, f2, f3, f4, f5, f6]))
    (hone : oneCellFields P #[f0, f1, f2, f3, f4, f5, f6] = true) (hC : P.cellsOf t = 7) (h0 : P.underlying f0.type = some (.int .i64)) (h1 : P.underlying f1.type = some (.int .i64)) (h2 : P.underlying f2.type = some .string) (h3 : P.underlying f3.type = some .string)
    (h4 : P.underlying f4.type = some .bool) (h5 : P.underlying f5.type = some .bool) (h6 : P.underlying f6.type = some .bool)
    (hv : Value.okWide P w r b0 t v) (h : DataW.Trod enc P w base spare held t v d p) : ∃ k : Ky, v = kyV k ∧ (Lit.int .i64 k.off).wf = true := by
  obtain ⟨cs, k, rfl, hn, hf⟩ := agg_fields (n := 7) hs hone rfl hC hv h
  obtain ⟨u0, y0, c0, t0⟩ := hf 0 f0 rfl (by omega)
  obtain ⟨u1, y1, c1, t1⟩ := hf 1 f1 rfl (by omega)
  obtain ⟨u2, y2, c2, t2⟩ := hf 2 f2 rfl (by omega)
  obtain ⟨u3, y3, c3, t3⟩ := hf 3 f3 rfl (by omega)
  obtain ⟨u4, y4, c4, t4⟩ := hf 4 f4 rfl (by omega)
  obtain ⟨u5, y5, c5, t5⟩ := hf 5 f5 rfl (by omega)
  obtain ⟨u6, y6, c6, t6⟩ := hf 6 f6 rfl (by omega)
  obtain ⟨x0, hx0, _, _⟩ := DataW.trod_int h0 t0
  obtain ⟨x1, hx1, _, hw⟩ := DataW.trod_int h1 t1
  obtain ⟨x2, hx2, _⟩ := DataW.trod_string h2 t2
  obtain ⟨x3, hx3, _⟩ := DataW.trod_string h3 t3
  obtain ⟨x4, hx4, _⟩ := DataW.trod_bool h4 t4
  obtain ⟨x5, hx5, _⟩ := DataW.trod_bool h5 t5
  obtain ⟨x6, hx6, _⟩ := DataW.trod_bool h6 t6
  obtain rfl : u0 = _ := by simpa using hx0
  obtain rfl : u1 = _ := by simpa using hx1
  obtain rfl : u2 = _ := by simpa using hx2
  obtain rfl : u3 = _ := by simpa using hx3
  obtain rfl : u4 = _ := by simpa using hx4
  obtain rfl : u5 = _ := by simpa using hx5
  obtain rfl : u6 = _ := by simpa using hx6
  refine ⟨⟨x0, x1, x2, x3, x4, x5, x6⟩, ?_, hw⟩
  match cs, hn, c0, c1, c2, c3, c4, c5, c6 with
  | [a, b, c, e, f, g, i], _, c0, c1, c2, c3, c4, c5, c6 =>
    simp at c0 c1 c2 c3 c4 c5 c6
    subst c0 c1 c2 c3 c4 c5 c6
    rfl
end
end Go.Proofs.YtlklcjpmfjmenaaGreatDoor
