/- interval, plain: what the numbers of relations say. -/
import Derived.Test.YtapakgncdmmmaaaI1
namespace Go.Proofs.Ytapakgncdmmmaaa

def okV (a b : Sp) : Prop := 0 ≤ a.1 ∧ a.1 < a.2 ∧ 0 ≤ b.1 ∧ b.1 < b.2
/-- Every number of a relation, and what it says. -/
inductive RelC (a b : Sp) : Int → Prop
  | c0 (h : ¬ okV a b) : RelC a b 0
  | c1 (h : okV a b) (h1 : a.2 < b.1) : RelC a b 1
  | c2 (h : okV a b) (h1 : a.2 = b.1) : RelC a b 2
  | c3 (h : okV a b) (h1 : a.1 < b.1) (h2 : b.1 < a.2) (h3 : a.2 < b.2) : RelC a b 3
  | c4 (h : okV a b) (h1 : a.1 < b.1) (h2 : a.2 = b.2) : RelC a b 4
  | c5 (h : okV a b) (h1 : a.1 < b.1) (h2 : b.2 < a.2) : RelC a b 5
  | c6 (h : okV a b) (h1 : a.1 = b.1) (h2 : a.2 < b.2) : RelC a b 6
  | c7 (h : okV a b) (h1 : a.1 = b.1) (h2 : a.2 = b.2) : RelC a b 7
  | c8 (h : okV a b) (h1 : a.1 = b.1) (h2 : b.2 < a.2) : RelC a b 8
  | c9 (h : okV a b) (h1 : b.1 < a.1) (h2 : a.2 < b.2) : RelC a b 9
  | c10 (h : okV a b) (h1 : b.1 < a.1) (h2 : a.2 = b.2) : RelC a b 10
  | c11 (h : okV a b) (h1 : b.1 < a.1) (h2 : a.1 < b.2) (h3 : b.2 < a.2) : RelC a b 11
  | c12 (h : okV a b) (h1 : b.2 = a.1) : RelC a b 12
  | c13 (h : okV a b) (h1 : b.2 < a.1) : RelC a b 13
theorem relI_all (a b : Sp) : RelC a b (relI a b) := by
  unfold relI
  by_cases hv : 0 ≤ a.1 ∧ a.1 < a.2 ∧ 0 ≤ b.1 ∧ b.1 < b.2
  · rw [if_pos hv]
    have ok : okV a b := hv
    by_cases ho : b.1 < a.1 ∨ (a.1 = b.1 ∧ b.2 < a.2)
    · rw [if_pos ho]
      unfold relLo
      by_cases k1 : b.1 = a.1
      · rw [if_pos k1, if_neg (by omega)]; exact .c8 ok k1.symm (by omega)
      · rw [if_neg k1]
        by_cases k2 : b.2 < a.1
        · rw [if_pos k2]; exact .c13 ok k2
        · rw [if_neg k2]
          by_cases k3 : b.2 = a.1
          · rw [if_pos k3]; exact .c12 ok k3
          · rw [if_neg k3]
            by_cases k4 : b.2 < a.2
            · rw [if_pos k4]; exact .c11 ok (by omega) (by omega) k4
            · rw [if_neg k4]
              by_cases k5 : b.2 = a.2
              · rw [if_pos k5]; exact .c10 ok (by omega) k5.symm
              · rw [if_neg k5]; exact .c9 ok (by omega) (by omega)
    · rw [if_neg ho]
      unfold relLo
      by_cases k1 : a.1 = b.1
      · rw [if_pos k1]
        by_cases k2 : a.2 = b.2
        · rw [if_pos k2]; exact .c7 ok k1 k2
        · rw [if_neg k2]; exact .c6 ok k1 (by omega)
      · rw [if_neg k1]
        by_cases k2 : a.2 < b.1
        · rw [if_pos k2]; exact .c1 ok k2
        · rw [if_neg k2]
          by_cases k3 : a.2 = b.1
          · rw [if_pos k3]; exact .c2 ok k3
          · rw [if_neg k3]
            by_cases k4 : a.2 < b.2
            · rw [if_pos k4]; exact .c3 ok (by omega) (by omega) k4
            · rw [if_neg k4]
              by_cases k5 : a.2 = b.2
              · rw [if_pos k5]; exact .c4 ok (by omega) k5
              · rw [if_neg k5]; exact .c5 ok (by omega) (by omega)
  · rw [if_neg hv]; exact .c0 hv
theorem RelC.fn {a b : Sp} {n m : Int} (h : RelC a b n) (h' : RelC a b m) : n = m := by
  cases h <;> cases h' <;> unfold okV at * <;> first | rfl | omega
theorem RelC.eq {a b : Sp} {n : Int} (h : RelC a b n) : relI a b = n := (relI_all a b).fn h
theorem comp_facts (a b c : Sp) : (relI a b ≠ 0 → relI b c ≠ 0 → relI a c ≠ 0) ∧
    (relI a b = relI b c → (relI a b = 1 ∨ relI a b = 4 ∨ relI a b = 5 ∨ relI a b = 6 ∨ relI a b = 7) → relI a c = relI a b) ∧
    (relI a b = 1 → (relI b c = 5 ∨ relI b c = 6 ∨ relI b c = 8 ∨ relI b c = 7 ∨ relI b c = 2) → relI a c = 1) ∧
    (relI a b = 7 → relI a c = relI b c) ∧ (relI b c = 7 → relI a c = relI a b) := by
  have r1 := relI_all a b
  have r2 := relI_all b c
  have ok : ∀ {x y : Sp} {n : Int}, RelC x y n → n ≠ 0 → okV x y := by
    intro x y n h hn
    cases h <;> first | assumption | exact absurd rfl hn
  refine ⟨?_, ?_, ?_, ?_, ?_⟩
  · intro h1 h2 h3
    have o1 := ok r1 h1
    have o2 := ok r2 h2
    have r3 := relI_all a c
    rw [h3] at r3
    cases r3 with
    | c0 h => unfold okV at *; omega
  · intro h1 h2
    rw [← h1] at r2
    rcases h2 with h | h | h | h | h <;> rw [h] at r1 r2 ⊢ <;> cases r1 <;> cases r2 <;> unfold okV at *
    · exact RelC.eq (.c1 (by unfold okV; omega) (by omega))
    · exact RelC.eq (.c4 (by unfold okV; omega) (by omega) (by omega))
    · exact RelC.eq (.c5 (by unfold okV; omega) (by omega) (by omega))
    · exact RelC.eq (.c6 (by unfold okV; omega) (by omega) (by omega))
    · exact RelC.eq (.c7 (by unfold okV; omega) (by omega) (by omega))
  · intro h1 h2
    rw [h1] at r1
    rcases h2 with h | h | h | h | h <;> rw [h] at r2 <;> cases r1 <;> cases r2 <;> unfold okV at * <;> exact RelC.eq (.c1 (by unfold okV; omega) (by omega))
  · intro h
    rw [h] at r1
    cases r1 with
    | c7 _ h1 h2 => rw [show a = b from Prod.ext h1 h2]
  · intro h
    rw [h] at r2
    cases r2 with
    | c7 _ h1 h2 => rw [show b = c from Prod.ext h1 h2]
end Go.Proofs.Ytapakgncdmmmaaa
