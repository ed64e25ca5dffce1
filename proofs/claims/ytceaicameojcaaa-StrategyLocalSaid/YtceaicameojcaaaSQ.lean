/- Plain: matches, their order, and the matches of chosen spans. -/
import Derived.Test.YtceaicameojcaaaSP
namespace Go.Proofs.Ytceaicameojcaaa

/-- the order of lists of integers: by the first difference; a beginning comes first -/
def cmpL : List Int → List Int → Int
  | [], [] => 0
  | [], _ :: _ => -1
  | _ :: _, [] => 1
  | a :: l, b :: m => if a < b then -1 else if b < a then 1 else cmpL l m
theorem cmpL_eq : ∀ a b : List Int, cmpL a b = 0 ↔ a = b
  | [], [] => by simp [cmpL]
  | [], _ :: _ => by simp [cmpL]
  | _ :: _, [] => by simp [cmpL]
  | a :: l, b :: m => by
    rw [cmpL, List.cons.injEq]
    by_cases h1 : a < b
    · rw [if_pos h1]; omega
    · rw [if_neg h1]
      by_cases h2 : b < a
      · rw [if_pos h2]; omega
      · rw [if_neg h2, cmpL_eq l m]
        constructor
        · intro h; exact ⟨by omega, h⟩
        · intro h; exact h.2
theorem cmpL_neg : ∀ a b : List Int, cmpL b a = - cmpL a b
  | [], [] => rfl
  | [], _ :: _ => rfl
  | _ :: _, [] => rfl
  | a :: l, b :: m => by
    rw [cmpL, cmpL]
    by_cases h1 : a < b
    · rw [if_pos h1, if_neg (by omega), if_pos h1]; rfl
    · by_cases h2 : b < a
      · rw [if_pos h2, if_neg h1, if_pos h2]
      · rw [if_neg h2, if_neg h1, if_neg h1, if_neg h2, cmpL_neg l m]
theorem cmpL_trans : ∀ a b c : List Int, cmpL a b < 0 → cmpL b c < 0 → cmpL a c < 0
  | [], [], _, h, _ => by simp [cmpL] at h
  | [], _ :: _, [], _, h => by simp [cmpL] at h
  | [], _ :: _, _ :: _, _, _ => by simp [cmpL]
  | _ :: _, [], _, h, _ => by simp [cmpL] at h
  | _ :: _, _ :: _, [], _, h => by simp [cmpL] at h
  | a :: l, b :: m, c :: n, h1, h2 => by
    rw [cmpL] at h1 h2 ⊢
    by_cases ha : a < b
    · by_cases hb : b < c
      · rw [if_pos (by omega)]; omega
      · rw [if_neg hb] at h2
        by_cases hb2 : c < b
        · rw [if_pos hb2] at h2; omega
        · rw [if_pos (by omega)]; omega
    · rw [if_neg ha] at h1
      by_cases ha2 : b < a
      · rw [if_pos ha2] at h1; omega
      · rw [if_neg ha2] at h1
        by_cases hb : b < c
        · rw [if_pos (by omega)]; omega
        · rw [if_neg hb] at h2
          by_cases hb2 : c < b
          · rw [if_pos hb2] at h2; omega
          · rw [if_neg hb2] at h2
            rw [if_neg (by omega), if_neg (by omega)]
            exact cmpL_trans l m n h1 h2
theorem cmpL_range : ∀ a b : List Int, cmpL a b = -1 ∨ cmpL a b = 0 ∨ cmpL a b = 1
  | [], [] => by simp [cmpL]
  | [], _ :: _ => by simp [cmpL]
  | _ :: _, [] => by simp [cmpL]
  | a :: l, b :: m => by
    rw [cmpL]
    split
    · simp
    · split
      · simp
      · exact cmpL_range l m
def ltK (a b : List Int) : Prop := cmpL a b < 0
theorem ltK_sto : STO ltK where
  irr a := by unfold ltK; rw [(cmpL_eq a a).2 rfl]; omega
  trans a b c := cmpL_trans a b c
  tri a b := by
    unfold ltK
    rw [cmpL_neg a b]
    have h := cmpL_range a b
    have he := cmpL_eq a b
    rcases h with h | h | h
    · left; omega
    · exact .inr (.inl (he.1 h))
    · right; right; omega
end Go.Proofs.Ytceaicameojcaaa
