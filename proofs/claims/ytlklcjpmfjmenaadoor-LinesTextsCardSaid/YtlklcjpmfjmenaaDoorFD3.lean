/- lines: a corpus with one text more: what is shown of a match does not change. -/
import Derived.Test.YtlklcjpmfjmenaaDoorFKB
import Derived.Test.YtlklcjpmfjmenaaDoorFD2
import Derived.Test.YtlklcjpmfjmenaaDoorGB
namespace Go.Proofs.YtlklcjpmfjmenaaDoor
open Go.RowKit

/-- d is c with more behind it -/
structure More (c d : Cp) : Prop where
  att : d.att = c.att
  tk : ∃ r, d.tk = c.tk ++ r
  tx : ∃ r, d.tx = c.tx ++ r
theorem tkS_more {c d : Cp} (h : More c d) {i a : Int} (hi : 0 ≤ i ∧ i < c.tk.length) : tkS d i a = tkS c i a := by
  obtain ⟨r, hr⟩ := h.tk
  unfold tkS
  rw [hr, List.getElem?_append_left (by omega)]
theorem tkL_more {c d : Cp} (h : More c d) {i a n : Int} (hi : 0 ≤ i) (hn : n ≤ c.tk.length) : tkL d a i (n - i).toNat = tkL c a i (n - i).toNat := by
  unfold tkL
  refine List.map_congr_left fun k hk => ?_
  rw [List.mem_range] at hk
  exact tkS_more h (by omega)
theorem fitO_more {c d : Cp} (h : More c d) {m : Mt} {t : Rg} (hf : fitO c m = some t) : fitO d m = some t := by
  obtain ⟨r, hr⟩ := h.tx
  obtain ⟨r2, hr2⟩ := h.tk
  have hfd := fitO_find hf
  have hb : fitB c m t = true := by
    unfold fitO at hf
    rw [hfd] at hf
    dsimp only at hf
    by_cases hb : fitB c m t = true
    · exact hb
    · rw [if_neg hb] at hf; cases hf
  have hb2 : fitB d m t = true := by
    unfold fitB at hb ⊢
    rw [Bool.and_eq_true, List.all_eq_true] at hb ⊢
    refine ⟨hb.1, fun x hx => ?_⟩
    have := hb.2 x hx
    unfold labOk at this ⊢
    rw [hr2, List.length_append]
    simp only [Bool.not_eq_true', Bool.or_eq_false_iff, decide_eq_false_iff_not] at this ⊢
    omega
  unfold fitO
  rw [hr, List.find?_append, hfd]
  show (if fitB d m t = true then some t else none) = _
  rw [if_pos hb2]
theorem mkO_more {c d : Cp} (h : More c d) (hw : CpW c) {m : Mt} {t : Rg} (hf : fitO c m = some t) (a l r : Int) : mkO d m a l r = mkO c m a l r := by
  obtain ⟨f1, f2, f3, f4, f5, f6, f7⟩ := fitO_some hw hf
  unfold mkO
  rw [h.att, fitO_more h hf, hf]
  split
  · rfl
  · dsimp only
    unfold lnO
    rw [tkL_more h (by omega) (by omega), tkL_more h (by omega) (by omega), tkL_more h (by omega) (by omega)]
theorem hashO_more {c d : Cp} (h : More c d) {m : Mt} {t : Rg} (hf : fitO c m = some t) (seed : Int) : hashO d m seed = hashO c m seed := by
  unfold hashO
  rw [fitO_more h hf, hf]
theorem chain_oneX : ∀ {l : List Rg} {p q z : Int} {x y : Rg}, chain p l q → x ∈ l → y ∈ l → inT z x = true → inT z y = true → x = y
  | [], _, _, _, _, _, _, h, _, _, _ => by cases h
  | t :: l, p, q, z, x, y, ⟨h1, h2, h3⟩, hx, hy, ix, iy => by
    simp only [inT, Bool.and_eq_true, decide_eq_true_eq] at ix iy
    rcases List.mem_cons.1 hx with rfl | hx1
    · rcases List.mem_cons.1 hy with rfl | hy1
      · rfl
      · have := chain_mem h3 hy1; omega
    · rcases List.mem_cons.1 hy with rfl | hy1
      · have := chain_mem h3 hx1; omega
      · exact chain_oneX h3 hx1 hy1 (z := z) (by simp [inT]; omega) (by simp [inT]; omega)
/-- a made match fits -/
theorem fits_fitO {c : Cp} {m : Mt} {k : Nat} (hg : CpG c) (h : fits c.tx k m) : ∃ t, fitO c m = some t := by
  obtain ⟨⟨x, hx, h1, h2, h3⟩, h4, h5⟩ := h
  have hin : inT m.b x = true := by simp [inT]; omega
  have hfd : c.tx.find? (inT m.b) = some x := by
    cases hf : c.tx.find? (inT m.b) with
    | none => exact absurd hin (by have := List.find?_eq_none.1 hf x hx; simpa using this)
    | some t => rw [chain_oneX hg.tx (List.mem_of_find?_eq_some hf) hx (List.find?_some hf) hin]
  have hb : fitB c m x = true := by
    unfold fitB
    rw [decide_eq_true h2, decide_eq_true h3]
    rw [Bool.and_true, Bool.true_and, List.all_eq_true]
    intro p hp
    have := h5 p hp
    unfold labOk
    rcases this with rfl | ⟨y, hy, k1, k2⟩
    · simp; omega
    · have := chain_mem hg.tx hy
      simp; omega
  refine ⟨x, ?_⟩
  unfold fitO
  rw [hfd]
  dsimp only
  rw [if_pos hb]
theorem mkO_ok {c : Cp} {m : Mt} {t : Rg} (h : fitO c m = some t) {a l r : Int} (ha : 0 ≤ a ∧ a < c.att.length) (hl : 0 ≤ l ∧ l ≤ 100) (hr : 0 ≤ r ∧ r ≤ 100) : (mkO c m a l r).2 = 0 := by
  unfold mkO
  rw [if_neg (by omega), h]
end Go.Proofs.YtlklcjpmfjmenaaDoor
