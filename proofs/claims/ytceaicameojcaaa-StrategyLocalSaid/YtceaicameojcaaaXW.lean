/- Own layer: arguments of struct and slice-of-struct types (pairs of integers), opened to what they hold; they read behind the call as before. -/
import Derived.Test.YtceaicameojcaaaXT
import Derived.Deep.SlicePairs
import Derived.Lib.SmallJoins
import Derived.ChangeOld
import Derived.Below
import Derived.OpenShut
import Derived.ReadAgain
namespace Go.Proofs.Ytceaicameojcaaa
open Go.RowKit Go.ChangeShapes Go.WideShapes Go.Joins Go.Deep

section
variable {H : Type} {enc : TypeId × Value → H} {P : Program} {w : World} {base : Nat} {spare : Nat → Bool} {held : Bool}
/-- What reads before the call reads behind it. -/
theorem trod_behind {w' : World} (bel : Below w.heap.size w w') {t : TypeId} {v : Value} {d : DataW H} {p : List MemPlace} (h : DataW.Trod enc P w base spare held t v d p) : DataW.Trod enc P w' base spare held t v d p := by
  obtain ⟨n, hn⟩ := h
  exact ⟨n, DataW.trod_carry n _ _ _ hn fun q hq => bel.same (DataW.trod_lt n _ _ _ hn q hq)⟩
theorem trodAll_behind {w' : World} (bel : Below w.heap.size w w') : ∀ {ts : List TypeId} {vs : List Value} {ds : List (DataW H)} {ps : List MemPlace}, DataW.TrodAll enc P w base spare held ts vs ds ps → DataW.TrodAll enc P w' base spare held ts vs ds ps
  | [], _, _, _, h => by obtain ⟨rfl, rfl, rfl⟩ := trodAll_nil h; exact trodAll_mk0
  | _ :: _, _, _, _, h => by
    obtain ⟨v, vs, d, ds, p, p', rfl, rfl, rfl, h1, h2⟩ := trodAll_cons h
    exact trodAll_cons_mk (trod_behind bel h1) (trodAll_behind bel h2)
/-- The arguments read behind the call as they read before. -/
theorem args_behind (hl : laidOutB P = true) (hm : mapsRowed P = true) (hz : ((List.range P.types.size).all fun t => match P.underlying t with | some (.slice e) => decide (0 < P.cellsOf e) | _ => true) = true)
    {w' : World} (bel : Below w.heap.size w w') {ts : List TypeId} {vs : List Value} {ds : List (DataW H)} {ps : List MemPlace} (hts : (ts.all fun t => decide (t < P.types.size)) = true)
    (h : DataW.TrodAll enc P w 0 (fun _ => true) true ts vs ds ps) : DataW.TrodAll enc P w' 0 (fun b => decide (b < w.heap.size)) true ts vs ds ps :=
  trodAll_behind bel (DataW.TrodAll.respare (kids_rows hl hm) (slices_full_of P hz) (fun t ht => of_decide_eq_true (List.all_eq_true.1 hts t ht)) h fun p hp => decide_eq_true (DataW.TrodAll.lt h p hp))
theorem cells_at {b o : Nat} {sp : Option Nat} {v : Value} (h : w.cell? ⟨b, o, sp⟩ = some v) : sp = none ∧ ∃ (cs : List Value) (t : TypeId) (fz : Nat × Nat), w.heap[b]? = some (.cells cs.toArray t fz) ∧ cs[o]? = some v := by
  unfold World.cell? at h
  dsimp only at h
  cases hb : w.heap[b]? with
  | none => rw [hb] at h; cases h
  | some ob =>
    rw [hb] at h
    cases ob with
    | cells c t fz =>
      dsimp only at h
      cases sp with
      | none => exact ⟨rfl, c.toList, t, fz, by simp, by simpa using h⟩
      | some k => simp at h
    | _ => cases h
/-- A row of pairs of integers. -/
def encP (s : Int × Int) : List Value := [.int .i64 s.1, .int .i64 s.2]
def inI64 (n : Int) : Prop := -9223372036854775808 ≤ n ∧ n ≤ 9223372036854775807
theorem open_pair {r : Reach} {b0 : Nat} {t : TypeId} {f0 f1 : Field} {v : Value} {d : DataW H} {p : List MemPlace} (hs : P.underlying t = some (.struct #[f0, f1])) (hone : oneCellFields P #[f0, f1] = true) (hC : P.cellsOf t = 2)
    (h0 : P.underlying f0.type = some (.int .i64)) (h1 : P.underlying f1.type = some (.int .i64))
    (hv : Value.okWide P w r b0 t v) (h : DataW.Trod enc P w base spare held t v d p) :
    ∃ s : Int × Int, v = .agg #[.int .i64 s.1, .int .i64 s.2] ∧ inI64 s.1 ∧ inI64 s.2 := by
  obtain ⟨v0, v1, y0, y1, n, rfl, _, _, t0, t1⟩ := open_agg2 hs hone hC hv h
  obtain ⟨x, hx, _, w0⟩ := DataW.trod_int h0 t0
  obtain ⟨y, hy, _, w1⟩ := DataW.trod_int h1 t1
  obtain rfl : v0 = _ := by simpa using hx
  obtain rfl : v1 = _ := by simpa using hy
  exact ⟨(x, y), rfl, bounds_i64 w0, bounds_i64 w1⟩
theorem open_pairs {r : Reach} {b0 : Nat} {t e : TypeId} {f0 f1 : Field} {v : Value} {d : DataW H} {p : List MemPlace} (ht : P.underlying t = some (.slice e)) (he : P.underlying e = some (.struct #[f0, f1]))
    (ce : P.cellsOf e = 2) (o0 : f0.offset = 0) (o1 : f1.offset = 1) (c0 : P.cellsOf f0.type = 1) (c1 : P.cellsOf f1.type = 1)
    (h0 : P.underlying f0.type = some (.int .i64)) (h1 : P.underlying f1.type = some (.int .i64))
    (hv : Value.okWide P w r b0 t v) (h : DataW.Trod enc P w base spare held t v d p) :
    ∃ l : List (Int × Int), SlR (fun b => w.heap[b]?) 2 v l.length (l.flatMap encP) ∧ l.length ≤ maxLen ∧ ∀ s ∈ l, inI64 s.1 ∧ inI64 s.2 := by
  obtain ⟨a, len, cap, rfl⟩ := okWide_slice ht hv
  obtain ⟨fuel, hf⟩ := h
  rcases open_slice_pairs ht he ce o0 o1 c0 c1 hf with ⟨hcs, _⟩ | ⟨ad, n, c, m, k, V0, V1, D0, D1, P0, P1, hcs, _, hl, hm, hmm, _, hi⟩
  · simp only [Value.cells, List.cons.injEq, and_true] at hcs
    injection hcs with e1 e2 e3
    subst e1 e2 e3
    exact ⟨[], SlR.empty, Nat.zero_le _, by simp⟩
  · simp only [Value.cells, List.cons.injEq, and_true] at hcs
    injection hcs with e1 e2 e3
    subst e1 e2 e3
    have hlm : len ≤ m := by rw [hmm]; split <;> omega
    have hI : ∀ i, i < len → ∃ s : Int × Int, V0 i = .int .i64 s.1 ∧ V1 i = .int .i64 s.2 ∧ inI64 s.1 ∧ inI64 s.2 := by
      intro i hin
      obtain ⟨_, _, t0, t1⟩ := hi i (by omega)
      obtain ⟨x, hx, _, w0⟩ := DataW.trod_int h0 t0
      obtain ⟨y, hy, _, w1⟩ := DataW.trod_int h1 t1
      exact ⟨(x, y), by simpa using hx, by simpa using hy, bounds_i64 w0, bounds_i64 w1⟩
    let F : Nat → Int × Int := fun i => if hh : i < len then (hI i hh).choose else (0, 0)
    have hF : ∀ i, i < len → V0 i = .int .i64 (F i).1 ∧ V1 i = .int .i64 (F i).2 ∧ inI64 (F i).1 ∧ inI64 (F i).2 := by
      intro i hh
      have := (hI i hh).choose_spec
      simp only [F, dif_pos hh]; exact this
    refine ⟨(List.range len).map F, ?_, by simp; omega, ?_⟩
    · rw [List.length_map, List.length_range]
      have hfl : (((List.range len).map F).flatMap encP).length = len * 2 := by
        rw [flat_len (f := encP) (sz := 2) (fun _ => rfl), List.length_map, List.length_range]
      refine ⟨hfl, ?_⟩
      rcases Nat.eq_zero_or_pos len with h00 | hpos
      · exact .inl ⟨⟨_, _, by rw [h00]⟩, h00⟩
      · right
        obtain ⟨hc0, hc1, _, _⟩ := hi 0 (by omega)
        obtain ⟨b, off, sp⟩ := ad
        have hc0' : w.cell? ⟨b, off, sp⟩ = some (V0 0) := by simpa [Addr.add] using hc0
        obtain ⟨rfl, cs, tt, fz, hb, _⟩ := cells_at hc0'
        refine ⟨b, off, cap, cs, tt, fz, rfl, hb, ?_, hl⟩
        have hcell : ∀ o u, w.cell? ⟨b, o, none⟩ = some u → cs[o]? = some u := by
          intro o u hu
          obtain ⟨_, cs', t', fz', hb', hc'⟩ := cells_at hu
          rw [hb] at hb'
          injection hb' with hb'
          injection hb' with e1
          have : cs = cs' := by simpa using congrArg Array.toList e1
          rw [this]; exact hc'
        apply List.ext_getElem?
        intro j
        by_cases hj : j < len * 2
        · rw [List.getElem?_take, if_pos hj, List.getElem?_drop]
          have hq := Nat.div_add_mod j 2
          have hmod := Nat.mod_lt j (show 0 < 2 by omega)
          have hq' : j / 2 < len := by omega
          obtain ⟨k0, k1, _, _⟩ := hi (j / 2) (by omega)
          obtain ⟨f0', f1', _, _⟩ := hF (j / 2) hq'
          rw [show ((⟨b, off, none⟩ : Addr).add (j / 2 * 2)) = ⟨b, off + j / 2 * 2, none⟩ from add_plain _ _ _] at k0
          rw [show ((⟨b, off, none⟩ : Addr).add (j / 2 * 2 + 1)) = ⟨b, off + (j / 2 * 2 + 1), none⟩ from add_plain _ _ _] at k1
          have hel := flat_elem (f := encP) (sz := 2) (fun _ => rfl) ((List.range len).map F) (j / 2) (F (j / 2)) (by rw [List.getElem?_map, List.getElem?_range hq']; rfl)
          have e2 : (((List.range len).map F).flatMap encP)[j]? = (encP (F (j / 2)))[j % 2]? := by
            rw [← hel, List.getElem?_take, if_pos hmod, List.getElem?_drop]; congr 1; omega
          rw [e2]
          rcases (by omega : j % 2 = 0 ∨ j % 2 = 1) with hz | hz
          · rw [hz, show off + j = off + j / 2 * 2 from by omega, hcell _ _ k0, f0']; rfl
          · rw [hz, show off + j = off + (j / 2 * 2 + 1) from by omega, hcell _ _ k1, f1']; rfl
        · rw [List.getElem?_take, if_neg hj, List.getElem?_eq_none (by rw [hfl]; omega)]
    · intro s hs
      obtain ⟨i, hir, rfl⟩ := List.mem_map.1 hs
      obtain ⟨_, _, h3, h4⟩ := hF i (List.mem_range.1 hir)
      exact ⟨h3, h4⟩
end
end Go.Proofs.Ytceaicameojcaaa
