/- Plain: ordered lists without doubles. -/
import Derived.WalkKit
namespace Go.Proofs.Ytceaicameojcaaa

section
variable {α : Type}
/-- A strict total order. -/
structure STO (lt : α → α → Prop) : Prop where
  irr : ∀ a, ¬ lt a a
  trans : ∀ a b c, lt a b → lt b c → lt a c
  tri : ∀ a b, lt a b ∨ a = b ∨ lt b a
variable {lt : α → α → Prop}
/-- Two ascending lists with the same elements are one. -/
theorem sorted_ext (h : STO lt) : ∀ l m : List α, l.Pairwise lt → m.Pairwise lt → (∀ a, a ∈ l ↔ a ∈ m) → l = m
  | [], [], _, _, _ => rfl
  | [], b :: m, _, _, he => by have := (he b).2 List.mem_cons_self; cases this
  | a :: l, [], _, _, he => by have := (he a).1 List.mem_cons_self; cases this
  | a :: l, b :: m, hl, hm, he => by
    have hl' := List.pairwise_cons.1 hl
    have hm' := List.pairwise_cons.1 hm
    have hab : a = b := by
      rcases List.mem_cons.1 ((he a).1 List.mem_cons_self) with h1 | h1
      · exact h1
      · rcases List.mem_cons.1 ((he b).2 List.mem_cons_self) with h2 | h2
        · exact h2.symm
        · exact absurd (h.trans _ _ _ (hl'.1 b h2) (hm'.1 a h1)) (h.irr a)
    subst hab
    congr 1
    refine sorted_ext h l m hl'.2 hm'.2 fun x => ?_
    constructor
    · intro hx
      rcases List.mem_cons.1 ((he x).1 (List.mem_cons_of_mem _ hx)) with h1 | h1
      · subst h1; exact absurd (hl'.1 x hx) (h.irr x)
      · exact h1
    · intro hx
      rcases List.mem_cons.1 ((he x).2 (List.mem_cons_of_mem _ hx)) with h1 | h1
      · subst h1; exact absurd (hm'.1 x hx) (h.irr x)
      · exact h1
variable [DecidableEq α]
def dedupAdj : List α → List α
  | [] => []
  | [x] => [x]
  | x :: y :: t => if x = y then dedupAdj (y :: t) else x :: dedupAdj (y :: t)
theorem dedupAdj_snoc (x : α) : ∀ l : List α, dedupAdj (l ++ [x]) = if l.getLast? = some x then dedupAdj l else dedupAdj l ++ [x]
  | [] => by simp [dedupAdj]
  | [y] => by
    by_cases h : y = x
    · subst h; simp [dedupAdj]
    · simp [dedupAdj, h]
  | y :: z :: t => by
    have ih := dedupAdj_snoc x (z :: t)
    have hl : (y :: z :: t).getLast? = (z :: t).getLast? := by simp [List.getLast?_cons_cons]
    rw [hl]
    show dedupAdj (y :: z :: (t ++ [x])) = _
    rw [dedupAdj, dedupAdj]
    have : z :: (t ++ [x]) = (z :: t) ++ [x] := rfl
    rw [this, ih]
    by_cases h1 : y = z
    · simp [h1]
    · by_cases h2 : (z :: t).getLast? = some x
      · simp [h1, h2]
      · simp [h1, h2]
theorem dedupAdj_mem (a : α) : ∀ l : List α, a ∈ dedupAdj l ↔ a ∈ l
  | [] => by simp [dedupAdj]
  | [y] => by simp [dedupAdj]
  | y :: z :: t => by
    have ih := dedupAdj_mem a (z :: t)
    rw [dedupAdj]
    by_cases h : y = z
    · subst h; rw [if_pos rfl, ih]; simp
    · rw [if_neg h, List.mem_cons, ih]; simp
theorem dedupAdj_len : ∀ l : List α, (dedupAdj l).length ≤ l.length
  | [] => by simp [dedupAdj]
  | [y] => by simp [dedupAdj]
  | y :: z :: t => by
    have ih := dedupAdj_len (z :: t)
    rw [dedupAdj]
    simp only [List.length_cons] at ih ⊢
    split
    · omega
    · simp only [List.length_cons]; omega

theorem dedupAdj_sorted (h : STO lt) : ∀ l : List α, l.Pairwise (fun a b => ¬ lt b a) → (dedupAdj l).Pairwise lt
  | [], _ => by simp [dedupAdj]
  | [y], _ => by simp [dedupAdj]
  | y :: z :: t, hp => by
    have hp' := List.pairwise_cons.1 hp
    have ih := dedupAdj_sorted h (z :: t) hp'.2
    rw [dedupAdj]
    by_cases e : y = z
    · rw [if_pos e]; exact ih
    · rw [if_neg e, List.pairwise_cons]
      refine ⟨fun a ha => ?_, ih⟩
      have ha' := (dedupAdj_mem a (z :: t)).1 ha
      have h1 := hp'.1 a ha'
      have hyz : lt y z := by
        rcases h.tri y z with h2 | h2 | h2
        · exact h2
        · exact absurd h2 e
        · exact absurd h2 (hp'.1 z List.mem_cons_self)
      rcases h.tri y a with h2 | h2 | h2
      · exact h2
      · subst h2
        rcases List.mem_cons.1 ha' with h3 | h3
        · exact absurd h3 e
        · exact absurd hyz ((List.pairwise_cons.1 hp'.2).1 y h3)
      · exact absurd h2 h1
end
end Go.Proofs.Ytceaicameojcaaa
