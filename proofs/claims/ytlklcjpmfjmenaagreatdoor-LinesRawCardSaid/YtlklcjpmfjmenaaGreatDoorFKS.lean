/- lines: sorting by insertion from behind: what it keeps. -/
import Derived.WalkKit
import Derived.Test.YtlklcjpmfjmenaaGreatDoorG1
namespace Go.Proofs.YtlklcjpmfjmenaaGreatDoor

section
variable {α : Type}
/-- the place of x in a list, looked for from behind -/
def insK (lt : α → α → Bool) (A : List α) (x : α) : Nat → Nat
  | 0 => 0
  | k + 1 => match A[k]? with
    | some y => if lt x y = true then insK lt A x k else k + 1
    | none => k + 1
def insE (lt : α → α → Bool) (A : List α) (x : α) : List α := A.take (insK lt A x A.length) ++ x :: A.drop (insK lt A x A.length)
def sortK (lt : α → α → Bool) (l : List α) : List α := l.foldl (insE lt) []
theorem insE_perm (lt : α → α → Bool) (A : List α) (x : α) : (insE lt A x).Perm (x :: A) := by
  unfold insE
  have h := List.perm_middle (a := x) (l₁ := A.take (insK lt A x A.length)) (l₂ := A.drop (insK lt A x A.length))
  rwa [List.take_append_drop] at h
theorem foldl_perm (lt : α → α → Bool) : ∀ (l A : List α), (l.foldl (insE lt) A).Perm (A ++ l)
  | [], A => by simp
  | x :: l, A => by
    rw [List.foldl_cons]
    refine (foldl_perm lt l _).trans ?_
    refine ((insE_perm lt A x).append_right l).trans ?_
    exact (List.perm_middle (a := x) (l₁ := A) (l₂ := l)).symm
theorem sortK_perm (lt : α → α → Bool) (l : List α) : (sortK lt l).Perm l := by simpa [sortK] using foldl_perm lt l []
theorem insE_length (lt : α → α → Bool) (A : List α) (x : α) : (insE lt A x).length = A.length + 1 := by simpa using (insE_perm lt A x).length_eq
theorem sortK_length (lt : α → α → Bool) (l : List α) : (sortK lt l).length = l.length := (sortK_perm lt l).length_eq
theorem sortK_snoc (lt : α → α → Bool) (l : List α) (x : α) : sortK lt (l ++ [x]) = insE lt (sortK lt l) x := by simp [sortK]
theorem sortK_first (lt : α → α → Bool) (l : List α) : sortK lt (l.take 1) ++ l.drop 1 = l := by
  cases l with
  | nil => rfl
  | cons x r => rfl
/-- sorting images -/
theorem insK_map {β : Type} (f : α → β) (lt : α → α → Bool) (lt' : β → β → Bool) (A : List α) (x : α) (h : ∀ y ∈ A, lt' (f x) (f y) = lt x y) : ∀ k, insK lt' (A.map f) (f x) k = insK lt A x k
  | 0 => rfl
  | k + 1 => by
    unfold insK
    rw [List.getElem?_map]
    cases hA : A[k]? with
    | none => rfl
    | some y =>
      dsimp only [Option.map_some]
      rw [h y (List.mem_of_getElem? hA), insK_map f lt lt' A x h k]
theorem insE_map {β : Type} (f : α → β) (lt : α → α → Bool) (lt' : β → β → Bool) (A : List α) (x : α) (h : ∀ y ∈ A, lt' (f x) (f y) = lt x y) : insE lt' (A.map f) (f x) = (insE lt A x).map f := by
  unfold insE
  rw [List.length_map, insK_map f lt lt' A x h, List.map_append, List.map_cons, List.map_take, List.map_drop]
theorem foldl_map' {β : Type} (f : α → β) (lt : α → α → Bool) (lt' : β → β → Bool) (S : α → Prop) (h : ∀ x y, S x → S y → lt' (f x) (f y) = lt x y) : ∀ (l A : List α), (∀ x ∈ l, S x) → (∀ x ∈ A, S x) → (l.map f).foldl (insE lt') (A.map f) = (l.foldl (insE lt) A).map f
  | [], A, _, _ => rfl
  | x :: l, A, hl, hA => by
    rw [List.map_cons, List.foldl_cons, List.foldl_cons, insE_map f lt lt' A x fun y hy => h x y (hl x (List.mem_cons_self ..)) (hA y hy)]
    refine foldl_map' f lt lt' S h l _ (fun y hy => hl y (List.mem_cons_of_mem _ hy)) fun y hy => ?_
    rcases List.mem_cons.1 ((insE_perm lt A x).mem_iff.1 hy) with rfl | hy
    · exact hl y (List.mem_cons_self ..)
    · exact hA y hy
theorem sortK_map {β : Type} (f : α → β) (lt : α → α → Bool) (lt' : β → β → Bool) (l : List α) (h : ∀ x ∈ l, ∀ y ∈ l, lt' (f x) (f y) = lt x y) : sortK lt' (l.map f) = (sortK lt l).map f :=
  foldl_map' f lt lt' (fun x => x ∈ l) (fun x y hx hy => h x hx y hy) l [] (fun _ h => h) (by simp)
end
end Go.Proofs.YtlklcjpmfjmenaaGreatDoor
