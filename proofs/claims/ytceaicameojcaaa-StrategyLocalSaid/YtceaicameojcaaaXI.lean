/- Own layer: arguments that are slices of integers. -/
import Derived.Test.YtceaicameojcaaaXW
import Derived.ChangeSlices
namespace Go.Proofs.Ytceaicameojcaaa
open Go.RowKit Go.ChangeShapes Go.WideShapes Go.ChangeAt

section
variable {H : Type} {enc : TypeId × Value → H} {P : Program} {w : World} {base : Nat} {spare : Nat → Bool} {held : Bool}
theorem open_intsL {r : Reach} {b0 : Nat} {t e : TypeId} {v : Value} {d : DataW H} {p : List MemPlace} (ht : P.underlying t = some (.slice e)) (he : P.underlying e = some (.int .i64))
    (ce : P.cellsOf e = 1) (hv : Value.okWide P w r b0 t v) (h : DataW.Trod enc P w base spare held t v d p) :
    ∃ l : List Int, SlR (fun b => w.heap[b]?) 1 v l.length (l.flatMap fun a => [.int .i64 a]) ∧ l.length ≤ maxLen ∧ ∀ s ∈ l, inI64 s := by
  obtain ⟨a, len, cap, rfl⟩ := okWide_slice ht hv
  obtain ⟨fuel, hf⟩ := h
  rcases open_ints ht he ce hf with ⟨hcs, _⟩ | ⟨ad, n, c, zs, hcs, _, hl, hm, hmm, _, hi, hz⟩
  · simp only [Value.cells, List.cons.injEq, and_true] at hcs
    injection hcs with e1 e2 e3
    subst e1 e2 e3
    exact ⟨[], SlR.empty, Nat.zero_le _, by simp⟩
  · simp only [Value.cells, List.cons.injEq, and_true] at hcs
    injection hcs with e1 e2 e3
    subst e1 e2 e3
    have hlm : len ≤ zs.length := by rw [hmm]; split <;> omega
    have htl : (zs.take len).length = len := by rw [List.length_take]; omega
    refine ⟨zs.take len, ?_, by rw [htl]; omega, fun s hs => bounds_i64 (hz s (List.mem_of_mem_take hs))⟩
    rw [htl]
    have hfl : ((zs.take len).flatMap fun a => [Value.int .i64 a]).length = len * 1 := by rw [flat_len (f := fun a : Int => [Value.int .i64 a]) (sz := 1) (fun _ => rfl), htl]
    refine ⟨hfl, ?_⟩
    rcases Nat.eq_zero_or_pos len with h00 | hpos
    · exact .inl ⟨⟨_, _, by rw [h00]⟩, h00⟩
    · right
      have hc0 := hi 0 (by omega)
      obtain ⟨b, off, sp⟩ := ad
      have hc0' : w.cell? ⟨b, off, sp⟩ = some (.int .i64 (zs.getD 0 0)) := by simpa [Addr.add] using hc0
      obtain ⟨rfl, cs, tt, fz, hb, _⟩ := cells_at hc0'
      refine ⟨b, off, cap, cs, tt, fz, rfl, hb, ?_, hl⟩
      have hcell : ∀ o u, w.cell? ⟨b, o, none⟩ = some u → cs[o]? = some u := by
        intro o u hu
        obtain ⟨_, cs', t', fz', hb', hc'⟩ := cells_at hu
        rw [hb] at hb'
        injection hb' with hb'
        injection hb' with e1
        have : cs = cs' := by simpa using congrArg Array.toList e1
        rw [this]; exact hc'
      apply List.ext_getElem?
      intro j
      by_cases hj : j < len * 1
      · rw [List.getElem?_take, if_pos hj, List.getElem?_drop]
        have k0 := hi j (by omega)
        rw [show ((⟨b, off, none⟩ : Addr).add j) = ⟨b, off + j, none⟩ from add_plain _ _ _] at k0
        have hx : (zs.take len)[j]? = some (zs.getD j 0) := by
          rw [List.getElem?_take, if_pos (by omega), List.getD_eq_getElem?_getD, List.getElem?_eq_getElem (by omega)]; rfl
        have hel := flat_elem (f := fun a : Int => [Value.int .i64 a]) (sz := 1) (fun _ => rfl) (zs.take len) j _ hx
        rw [hcell _ _ k0]
        have := congrArg (fun l => l[0]?) hel
        simp only [Nat.mul_one, List.getElem?_take, List.getElem?_drop, Nat.add_zero] at this
        simpa using this.symm
      · rw [List.getElem?_take, if_neg hj, List.getElem?_eq_none (by rw [hfl]; omega)]
end
end Go.Proofs.Ytceaicameojcaaa
