/- regions: what is within a region overlaps one; what contains one does, too; Last is an index exactly for what is within one. -/
import Derived.Test.YtchgfjclchhgmaaFR8
import Derived.Test.YtchgfjclchhgmaaFR9
namespace Go.Proofs.Ytchgfjclchhgmaa
open Go.RowKit

theorem types_ok {kind : ByteArray} (h : kind ∈ types) {op : Int} (ho : 1 ≤ op ∧ op ≤ 3) {nt : Bool} : flErr ⟨op, nt, kind⟩ = 0 := by
  have h1 : ∀ k ∈ types, validName k = true := by decide +kernel
  unfold flErr
  rw [if_neg (by dsimp only; omega), if_pos (h1 _ h)]
theorem inTx.span {c : Cp} {s : Sp} (hg : CpG c) (h : inTx c.tx s) : 0 ≤ s.1 ∧ s.1 < s.2 ∧ s.2 ≤ c.tk.length := by
  obtain ⟨x, hx, h1, h2, h3⟩ := h
  have := chain_mem hg.tx hx
  omega
theorem holdsB_in {c : Cp} {s : Sp} {f : Fl} (hg : CpG c) (h : inTx c.tx s) (hf : flErr f = 0) : holdsB c f s = (someB c.rg f s != f.nt) := by
  have := h.span hg
  unfold holdsB
  rw [if_neg (by unfold offB; omega)]
theorem lastP_spec (l : List Rg) (kind : ByteArray) (s : Sp) : ∀ k, k ≤ l.length → (∀ j r, j < k → l[j]? = some r → r.ty = kind → relB 1 r s = true → (j : Int) ≤ lastP l kind s k) ∧ (lastP l kind s k = -1 ∨ ∃ (i : Nat) (r : Rg), lastP l kind s k = i ∧ l[i]? = some r ∧ r.ty = kind ∧ relB 1 r s = true) := by
  intro k
  induction k with
  | zero => intro _; exact ⟨fun j r h => absurd h (by omega), .inl (by unfold lastP; simp)⟩
  | succ k ih =>
    intro hk
    obtain ⟨r, hr⟩ : ∃ r, l[k]? = some r := ⟨_, List.getElem?_eq_getElem (by omega)⟩
    obtain ⟨h1, h2⟩ := ih (by omega)
    rw [lastP_step hr]
    split
    · rename_i h
      exact ⟨fun j _ hj _ _ _ => by omega, .inr ⟨k, r, rfl, hr, h.1, h.2⟩⟩
    · rename_i h
      refine ⟨fun j r' hj hr' ht hw => ?_, h2⟩
      by_cases hjk : j = k
      · subst hjk
        rw [hr] at hr'
        injection hr' with e
        subst e
        exact absurd ⟨ht, hw⟩ h
      · exact h1 j r' (by omega) hr' ht hw
theorem lastI_spec (l : List Rg) (kind : ByteArray) (s : Sp) : (∀ (j : Nat) r, l[j]? = some r → r.ty = kind → relB 1 r s = true → (j : Int) ≤ lastI l kind s) ∧ (lastI l kind s = -1 ∨ ∃ (i : Nat) (r : Rg), lastI l kind s = i ∧ l[i]? = some r ∧ r.ty = kind ∧ relB 1 r s = true) := by
  have := lastP_spec l kind s l.length (Nat.le_refl _)
  rw [lastP_all] at this
  refine ⟨fun j r hj => this.1 j r ?_ hj, this.2⟩
  exact (List.getElem?_eq_some_iff.1 hj).1
theorem some_at {l : List Rg} {f : Fl} {s : Sp} (h : someB l f s = true) : ∃ r ∈ l, r.ty = f.rg ∧ relB f.op r s = true := by
  unfold someB at h
  obtain ⟨r, hr, h⟩ := List.any_eq_true.1 h
  rw [Bool.and_eq_true, decide_eq_true_iff] at h
  exact ⟨r, hr, h.1, h.2⟩
theorem some_of {l : List Rg} {f : Fl} {s : Sp} {r : Rg} (hr : r ∈ l) (h1 : r.ty = f.rg) (h2 : relB f.op r s = true) : someB l f s = true := by
  unfold someB
  refine List.any_eq_true.2 ⟨r, hr, ?_⟩
  rw [Bool.and_eq_true, decide_eq_true_iff]
  exact ⟨h1, h2⟩
theorem holds_last {c : Cp} {s : Sp} {kind : ByteArray} (hg : CpG c) (h : inTx c.tx s) (hk : kind ∈ types) : holdsB c ⟨1, false, kind⟩ s = decide (0 ≤ lastI c.rg kind s) := by
  rw [holdsB_in hg h (types_ok hk (by omega))]
  obtain ⟨h1, h2⟩ := lastI_spec c.rg kind s
  rcases h2 with h2 | ⟨i, r, e, hi, ht, hw⟩
  · rw [h2]
    cases hs : someB c.rg ⟨1, false, kind⟩ s
    · rfl
    · obtain ⟨r, hr, ht, hw⟩ := some_at hs
      obtain ⟨j, hj⟩ := List.mem_iff_getElem?.1 hr
      have := h1 j r hj ht hw
      omega
  · rw [e, some_of (f := ⟨1, false, kind⟩) (List.mem_of_getElem? hi) ht hw, decide_eq_true (by omega)]
    rfl
theorem within_over {c : Cp} {s : Sp} {kind : ByteArray} (hg : CpG c) (h : inTx c.tx s) (hk : kind ∈ types) (hw : holdsB c ⟨1, false, kind⟩ s = true ∨ holdsB c ⟨2, false, kind⟩ s = true) : holdsB c ⟨3, false, kind⟩ s = true := by
  rw [holdsB_in hg h (types_ok hk (by omega)), holdsB_in hg h (types_ok hk (by omega))] at hw
  rw [holdsB_in hg h (types_ok hk (by omega))]
  have hs := h.span hg
  simp only [Bool.bne_false] at hw ⊢
  rcases hw with hw | hw <;> obtain ⟨r, hr, ht, hb⟩ := some_at hw
  · have hrb := hg.rgb r hr
    refine some_of hr ht ?_
    simp [relB] at hb ⊢
    omega
  · have hrb := hg.rgb r hr
    refine some_of hr ht ?_
    simp [relB] at hb ⊢
    omega
end Go.Proofs.Ytchgfjclchhgmaa
