/- Plain: insertion into an ascending list from behind. -/
import Derived.Test.YtceaicameojcaaaSQ
namespace Go.Proofs.Ytceaicameojcaaa

section
variable {α κ : Type} [DecidableEq κ] (key : α → κ) (lt : κ → κ → Prop) [DecidableRel lt]
def insB : List α → α → List α
  | [], s => [s]
  | x :: t, s => if lt (key x) (key s) then x :: insB t s else if key x = key s then x :: t else s :: x :: t
theorem insB_len (l : List α) (s : α) : (insB key lt l s).length ≤ l.length + 1 := by
  induction l with
  | nil => simp [insB]
  | cons x t ih =>
    rw [insB]
    split
    · simp only [List.length_cons]; omega
    · split <;> simp
theorem insB_sub (s : α) : ∀ (l : List α) (x : α), x ∈ insB key lt l s → x ∈ l ∨ x = s
  | [], x, h => by simp [insB] at h; exact .inr h
  | y :: t, x, h => by
    rw [insB] at h
    split at h
    · rcases List.mem_cons.1 h with rfl | h
      · exact .inl List.mem_cons_self
      · rcases insB_sub s t x h with h | h
        · exact .inl (List.mem_cons_of_mem _ h)
        · exact .inr h
    · split at h
      · exact .inl h
      · rcases List.mem_cons.1 h with rfl | h
        · exact .inr rfl
        · exact .inl h
theorem insB_key (s : α) : ∀ (l : List α) (k : κ), k ∈ (insB key lt l s).map key ↔ k ∈ l.map key ∨ k = key s
  | [], k => by simp [insB]
  | y :: t, k => by
    rw [insB]
    split
    · rw [List.map_cons, List.mem_cons, insB_key s t k, List.map_cons, List.mem_cons, or_assoc]
    · split
      · next h =>
        constructor
        · exact .inl
        · rintro (h1 | rfl)
          · exact h1
          · rw [← h]; exact List.mem_cons_self
      · rw [List.map_cons, List.mem_cons]
        constructor
        · rintro (h | h)
          · exact .inr h
          · exact .inl h
        · rintro (h | h)
          · exact .inr h
          · exact .inl h
theorem insB_sorted (hs : STO lt) (s : α) : ∀ l : List α, l.Pairwise (fun a b => lt (key a) (key b)) → (insB key lt l s).Pairwise (fun a b => lt (key a) (key b))
  | [], _ => by simp [insB]
  | y :: t, h => by
    have h' := List.pairwise_cons.1 h
    rw [insB]
    by_cases hy : lt (key y) (key s)
    · rw [if_pos hy, List.pairwise_cons]
      refine ⟨fun x hx => ?_, insB_sorted hs s t h'.2⟩
      rcases insB_sub key lt s t x hx with h1 | rfl
      · exact h'.1 x h1
      · exact hy
    · rw [if_neg hy]
      by_cases h2 : key y = key s
      · rw [if_pos h2]; exact h
      · rw [if_neg h2, List.pairwise_cons]
        have hsy : lt (key s) (key y) := by
          rcases hs.tri (key y) (key s) with h3 | h3 | h3
          · exact absurd h3 hy
          · exact absurd h3 h2
          · exact h3
        refine ⟨fun x hx => ?_, h⟩
        rcases List.mem_cons.1 hx with rfl | h3
        · exact hsy
        · exact hs.trans _ _ _ hsy (h'.1 x h3)
theorem insB_cut (s : α) : ∀ (l : List α) (k : Nat), k ≤ l.length → (∀ x ∈ l.take k, lt (key x) (key s)) → insB key lt l s = l.take k ++ insB key lt (l.drop k) s
  | l, 0, _, _ => by simp
  | [], k + 1, h, _ => by simp at h
  | x :: t, k + 1, h, hp => by
    rw [List.take_succ_cons, List.drop_succ_cons, insB, if_pos (hp x (by simp)), insB_cut s t k (by simpa using h) (fun y hy => hp y (by simp [hy]))]; rfl
/-- all behind k are greater, the one ahead is smaller -/
theorem insB_new (hs : STO lt) {l : List α} {s : α} {k : Nat} (hk : k ≤ l.length) (h : l.Pairwise (fun a b => lt (key a) (key b))) (hd : ∀ x ∈ l.drop k, lt (key s) (key x)) (ht : k = 0 ∨ ∀ x, l[k - 1]? = some x → lt (key x) (key s)) :
    insB key lt l s = l.take k ++ s :: l.drop k := by
  have htake : ∀ x ∈ l.take k, lt (key x) (key s) := by
    rcases ht with rfl | ht
    · simp
    · intro x hx
      obtain ⟨j, hj, rfl⟩ := List.getElem_of_mem hx
      rw [List.length_take] at hj
      rw [List.getElem_take]
      have hkl : k - 1 < l.length := by omega
      have hlast := ht _ (List.getElem?_eq_getElem hkl)
      rcases Nat.lt_or_ge j (k - 1) with h1 | h1
      · exact hs.trans _ _ _ (List.pairwise_iff_getElem.1 h j (k - 1) (by omega) hkl h1) hlast
      · have : j = k - 1 := by omega
        subst this; exact hlast
  rw [insB_cut key lt s l k hk htake]
  congr 1
  cases hdr : l.drop k with
  | nil => rfl
  | cons x t =>
    have hx : lt (key s) (key x) := hd x (by rw [hdr]; exact List.mem_cons_self)
    rw [insB, if_neg (fun h1 => hs.irr _ (hs.trans _ _ _ hx h1)), if_neg]
    intro e
    rw [e] at hx
    exact hs.irr _ hx
theorem insB_old (hs : STO lt) {s : α} : ∀ {l : List α} {x : α}, l.Pairwise (fun a b => lt (key a) (key b)) → x ∈ l → key x = key s → insB key lt l s = l
  | [], x, _, hx, _ => by simp at hx
  | y :: t, x, h, hx, e => by
    have h' := List.pairwise_cons.1 h
    rw [insB]
    rcases List.mem_cons.1 hx with rfl | hx
    · rw [if_neg (by rw [e]; exact hs.irr _), if_pos e]
    · have := h'.1 x hx
      rw [e] at this
      rw [if_pos this, insB_old hs h'.2 hx e]
end
instance (a b : List Int) : Decidable (ltK a b) := by unfold ltK; exact inferInstance
/-! ### spans -/
abbrev insC (l : List Sp) (s : Sp) : List Sp := insB (fun s : Sp => s) ltC l s
theorem foldInsC (l : List Sp) : ∀ acc : List Sp, acc.Pairwise ltC → (l.foldl insC acc).Pairwise ltC ∧ ∀ x, x ∈ l.foldl insC acc ↔ x ∈ acc ∨ x ∈ l := by
  induction l with
  | nil => intro acc h; exact ⟨h, fun x => by simp⟩
  | cons s t ih =>
    intro acc h
    obtain ⟨h1, h2⟩ := ih (insC acc s) (insB_sorted _ _ ltC_sto s acc h)
    refine ⟨h1, fun x => ?_⟩
    have hk := insB_key (fun s : Sp => s) ltC s acc x
    simp only [List.map_id'] at hk
    rw [List.foldl_cons, h2 x, hk, List.mem_cons, or_assoc]
theorem refSpans_sorted (l : List Sp) : (l.foldl insC []).Pairwise ltC := (foldInsC l [] List.Pairwise.nil).1
theorem refSpans_mem (l : List Sp) (x : Sp) : x ∈ l.foldl insC [] ↔ x ∈ l := by
  rw [(foldInsC l [] List.Pairwise.nil).2 x]; simp
theorem foldInsC_len (l : List Sp) : ∀ acc : List Sp, (l.foldl insC acc).length ≤ acc.length + l.length := by
  induction l with
  | nil => intro acc; simp
  | cons s t ih =>
    intro acc
    have h1 := ih (insC acc s)
    have h2 : (insC acc s).length ≤ acc.length + 1 := insB_len (fun s : Sp => s) ltC acc s
    rw [List.foldl_cons, List.length_cons]; omega
end Go.Proofs.Ytceaicameojcaaa
