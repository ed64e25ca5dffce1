/- lines: sorting by insertion from behind: what it keeps. -/
import Derived.WalkKit
import Derived.Test.YthacphfjchpoaaaDoorG1
namespace Go.Proofs.YthacphfjchpoaaaDoor

section
variable {α : Type}
/-- the place of x in a list, looked for from behind -/
def insK (lt : α → α → Bool) (A : List α) (x : α) : Nat → Nat
  | 0 => 0
  | k + 1 => match A[k]? with
    | some y => if lt x y = true then insK lt A x k else k + 1
    | none => k + 1
def insE (lt : α → α → Bool) (A : List α) (x : α) : List α := A.take (insK lt A x A.length) ++ x :: A.drop (insK lt A x A.length)
def sortK (lt : α → α → Bool) (l : List α) : List α := l.foldl (insE lt) []
theorem insK_le (lt : α → α → Bool) (A : List α) (x : α) : ∀ k, insK lt A x k ≤ k
  | 0 => Nat.le_refl _
  | k + 1 => by
    unfold insK
    split
    · split
      · have := insK_le lt A x k; omega
      · omega
    · omega
theorem insE_perm (lt : α → α → Bool) (A : List α) (x : α) : (insE lt A x).Perm (x :: A) := by
  unfold insE
  have h := List.perm_middle (a := x) (l₁ := A.take (insK lt A x A.length)) (l₂ := A.drop (insK lt A x A.length))
  rwa [List.take_append_drop] at h
theorem foldl_perm (lt : α → α → Bool) : ∀ (l A : List α), (l.foldl (insE lt) A).Perm (A ++ l)
  | [], A => by simp
  | x :: l, A => by
    rw [List.foldl_cons]
    refine (foldl_perm lt l _).trans ?_; refine ((insE_perm lt A x).append_right l).trans ?_
    exact (List.perm_middle (a := x) (l₁ := A) (l₂ := l)).symm
theorem sortK_perm (lt : α → α → Bool) (l : List α) : (sortK lt l).Perm l := by simpa [sortK] using foldl_perm lt l []
theorem insE_length (lt : α → α → Bool) (A : List α) (x : α) : (insE lt A x).length = A.length + 1 := by simpa using (insE_perm lt A x).length_eq
theorem sortK_snoc (lt : α → α → Bool) (l : List α) (x : α) : sortK lt (l ++ [x]) = insE lt (sortK lt l) x := by simp [sortK]
/-- sorting images -/
theorem insK_map {β : Type} (f : α → β) (lt : α → α → Bool) (lt' : β → β → Bool) (A : List α) (x : α) (h : ∀ y ∈ A, lt' (f x) (f y) = lt x y) : ∀ k, insK lt' (A.map f) (f x) k = insK lt A x k
  | 0 => rfl
  | k + 1 => by
    unfold insK
    rw [List.getElem?_map]
    cases hA : A[k]? with
    | none => rfl
    | some y =>
      dsimp only [Option.map_some]
      rw [h y (List.mem_of_getElem? hA), insK_map f lt lt' A x h k]
theorem insE_map {β : Type} (f : α → β) (lt : α → α → Bool) (lt' : β → β → Bool) (A : List α) (x : α) (h : ∀ y ∈ A, lt' (f x) (f y) = lt x y) : insE lt' (A.map f) (f x) = (insE lt A x).map f := by
  unfold insE
  rw [List.length_map, insK_map f lt lt' A x h, List.map_append, List.map_cons, List.map_take, List.map_drop]
/-- the order that comes of a strict one -/
structure Ord (lt : α → α → Bool) : Prop where
  asym : ∀ x y, lt x y = true → lt y x = false
  trans : ∀ x y z, lt y x = false → lt z y = false → lt z x = false
theorem insK_spec {lt : α → α → Bool} (o : Ord lt) {A : List α} {x : α} (hs : A.Pairwise fun a b => lt b a = false) : ∀ k, k ≤ A.length →
    (∀ i y, i < insK lt A x k → A[i]? = some y → lt x y = false) ∧ (∀ i y, insK lt A x k ≤ i → i < k → A[i]? = some y → lt x y = true)
  | 0, _ => ⟨fun i y h => absurd h (by simp [insK]), fun i y _ h => absurd h (by omega)⟩
  | k + 1, hk => by
    have hx : A[k]? = some A[k] := List.getElem?_eq_getElem (by omega)
    unfold insK
    rw [hx]
    dsimp only
    split
    · rename_i hlt
      obtain ⟨h1, h2⟩ := insK_spec o hs k (by omega)
      refine ⟨h1, fun i y hi hik hy => ?_⟩
      by_cases hi2 : i = k
      · subst hi2; rw [hx] at hy; obtain rfl := Option.some.inj hy; exact hlt
      · exact h2 i y hi (by omega) hy
    · rename_i hlt
      refine ⟨fun i y hi hy => ?_, fun i y h1 h2 => absurd h1 (by omega)⟩
      have hlt : lt x A[k] = false := by simpa using hlt
      by_cases hi2 : i = k
      · subst hi2; rw [hx] at hy; obtain rfl := Option.some.inj hy; exact hlt
      · have hil : i < A.length := by omega
        have hye : A[i] = y := (List.getElem?_eq_some_iff.1 hy).2
        have := List.pairwise_iff_getElem.1 hs i k hil (by omega) (by omega)
        rw [hye] at this
        exact o.trans y A[k] x this hlt
theorem insE_sorted {lt : α → α → Bool} (o : Ord lt) {A : List α} {x : α} (hs : A.Pairwise fun a b => lt b a = false) : (insE lt A x).Pairwise fun a b => lt b a = false := by
  obtain ⟨h1, h2⟩ := insK_spec o (x := x) hs A.length (Nat.le_refl _)
  unfold insE
  have hp := insK_le lt A x A.length
  rw [List.pairwise_append, List.pairwise_cons]
  have hcat := hs
  rw [← List.take_append_drop (insK lt A x A.length) A, List.pairwise_append] at hcat
  have hd : ∀ b ∈ A.drop (insK lt A x A.length), lt x b = true := by
    intro b hb
    obtain ⟨j, hj, e⟩ := List.getElem_of_mem hb
    rw [List.getElem_drop] at e
    rw [List.length_drop] at hj
    exact h2 (insK lt A x A.length + j) b (by omega) (by omega) (by rw [← e]; exact List.getElem?_eq_getElem (by omega))
  have ht : ∀ a ∈ A.take (insK lt A x A.length), lt x a = false := by
    intro a ha
    obtain ⟨j, hj, e⟩ := List.getElem_of_mem ha
    rw [List.getElem_take] at e
    rw [List.length_take] at hj
    exact h1 j a (by omega) (by rw [← e]; exact List.getElem?_eq_getElem (by omega))
  refine ⟨hcat.1, ⟨fun b hb => o.asym _ _ (hd b hb), hcat.2.1⟩, fun a ha b hb => ?_⟩
  rcases List.mem_cons.1 hb with rfl | hb
  · exact ht a ha
  · exact hcat.2.2 a ha b hb
theorem foldl_sorted {lt : α → α → Bool} (o : Ord lt) : ∀ (l A : List α), (A.Pairwise fun a b => lt b a = false) → (l.foldl (insE lt) A).Pairwise fun a b => lt b a = false
  | [], _, h => h
  | _ :: l, _, h => foldl_sorted o l _ (insE_sorted o h)
theorem sortK_sorted {lt : α → α → Bool} (o : Ord lt) (l : List α) : (sortK lt l).Pairwise fun a b => lt b a = false := foldl_sorted o l [] List.Pairwise.nil
end
end Go.Proofs.YthacphfjchpoaaaDoor
