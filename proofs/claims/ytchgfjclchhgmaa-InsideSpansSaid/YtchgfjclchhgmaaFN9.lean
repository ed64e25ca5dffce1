/- regions: SortFunc on spans. -/
import Derived.Test.YtchgfjclchhgmaaG4
import Derived.Test.YtchgfjclchhgmaaFN4
namespace Go.Proofs.Ytchgfjclchhgmaa
open Go.RowKit


theorem ordC_lt (a b : Sp) : Go.Proofs.ltOf ordC a b = decide (ltC a b) := by
  unfold Go.Proofs.ltOf
  rw [decide_eq_decide]
  unfold ordC orI orI orI cmpI ltC
  repeat' split
  all_goals omega
theorem ordC_swo : Go.Sort.SWO (Go.Proofs.ltOf ordC) where
  irrefl x := by rw [ordC_lt]; simp [ltC]
  trans x y z h1 h2 := by
    rw [ordC_lt, decide_eq_true_eq] at *
    unfold ltC at *; omega
  ntrans x y z h1 h2 := by
    rw [ordC_lt, decide_eq_false_iff_not] at *
    unfold ltC at *; omega
theorem ordC_tot (x y : Sp) (h1 : Go.Proofs.ltOf ordC x y = false) (h2 : Go.Proofs.ltOf ordC y x = false) : x = y := by
  rw [ordC_lt, decide_eq_false_iff_not] at *
  unfold ltC at *
  exact Prod.ext (by omega) (by omega)
def sortC (l : List Sp) : List Sp := l.mergeSort fun x y => !(Go.Proofs.ltOf ordC) y x
theorem sort_fn (l : List Sp) (v : Value) (lv : List (Nat × Obj)) (H : Hp) (hv : SpV v lv l) (hl : l.length ≤ 1000000) : FnW Try.prog 43 #[v, .func (.func 44) #[] #[]] H lv (fun u H' l' => u = .tuple #[] ∧ H' = H ∧ SpV v l' (sortC l)) := by
  have hsl : (sortC l).length = l.length := by unfold sortC; exact List.length_mergeSort _
  rcases hv.2 with ⟨⟨ad, rfl⟩, rfl, h0⟩ | ⟨b, cap, cs, rfl, rfl, h1, h2, h3, h4⟩
  · have hl0 : l = [] := List.eq_nil_of_length_eq_zero h0
    subst hl0
    refine FnW.mk fun w hw => callsIn_wide.2 ((Go.Proofs.AnyF.slices_SortFunc_none (ρ := Try.sortL_ren) { Try.sortL with } ad 0 (.func (.func 44) #[] #[]) w).mono ?_)
    rintro e w' ⟨rfl, rfl⟩
    have h00 : sortC [] = [] := List.eq_nil_of_length_eq_zero hsl
    exact ⟨_, H, [], rfl, hw, rfl, rfl, by rw [h00]; exact Vec.empty _ _ _⟩
  · obtain ⟨tl, rfl⟩ : ∃ tl, cs = l.flatMap encS ++ tl := ⟨cs.drop (l.length * 2), by rw [← h4, List.take_append_drop]⟩
    have hcmp : ∀ x y : Sp, Fn Try.prog 44 ([Value.agg (encS x).toArray, .agg (encS y).toArray] ++ []).toArray H (fun v _ => v = .int .i64 (ordC x y)) := fun x y => compare_fn x y H
    refine (sort_FnW (ρ := Try.sortL_ren) Try.sortL (enc := encS) (k := 2) (by intro w; exact Try.isAgg25 w) (by intro w; exact Try.sizeOf25 w) encS_len one_encS ordC ordC_swo ordC_tot 44 [] l tl hcmp (by omega)).mono ?_
    rintro v H' l' ⟨rfl, rfl, rfl⟩
    refine ⟨rfl, rfl, by rw [hsl, flatS_len, hsl], .inr ⟨b, cap, (sortC l).flatMap encS ++ tl, by rw [hsl], rfl, by rw [hsl]; exact h1, h2, ?_, ?_⟩⟩
    · rw [← h3, List.length_append, List.length_append, flatS_len, flatS_len, hsl]
    · rw [hsl, ← hsl, ← flatS_len, List.take_left]
/-- the spans of a list, ascending and each once -/
def spansL (l : List Sp) : List Sp := dedupAdj (sortC l)
theorem sortC_pw (l : List Sp) : (sortC l).Pairwise (fun a b => ¬ ltC b a) := by
  have h := List.pairwise_mergeSort (le := fun x y => !(Go.Proofs.ltOf ordC) y x) (fun a b c h1 h2 => by
    simp only [ordC_lt, Bool.not_eq_true', decide_eq_false_iff_not] at *
    unfold ltC at *; omega) (fun a b => by
    simp only [ordC_lt, Bool.or_eq_true, Bool.not_eq_true', decide_eq_false_iff_not]
    unfold ltC; omega) l
  refine h.imp ?_
  intro a b hab
  simpa only [ordC_lt, Bool.not_eq_true', decide_eq_false_iff_not] using hab
theorem spansL_sorted (l : List Sp) : (spansL l).Pairwise ltC := dedupAdj_sorted ltC_sto _ (sortC_pw l)
theorem spansL_mem (l : List Sp) (x : Sp) : x ∈ spansL l ↔ x ∈ l := by
  unfold spansL; rw [dedupAdj_mem]; unfold sortC; exact (List.mergeSort_perm l _).mem_iff
theorem spansL_len (l : List Sp) : (spansL l).length ≤ l.length := by
  have := dedupAdj_len (sortC l)
  have h2 : (sortC l).length = l.length := List.length_mergeSort _
  unfold spansL
  omega
end Go.Proofs.Ytchgfjclchhgmaa
