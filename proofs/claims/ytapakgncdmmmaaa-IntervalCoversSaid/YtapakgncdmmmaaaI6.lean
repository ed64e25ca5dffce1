/- interval, plain: normal lists, covers, choices. -/
import Derived.Test.YtapakgncdmmmaaaI5
namespace Go.Proofs.Ytapakgncdmmmaaa

theorem ltS_sto : STO ltS where
  irr a := by unfold ltS; omega
  trans a b c h1 h2 := by unfold ltS at *; omega
  tri a b := by
    by_cases h : a = b
    · exact .inr (.inl h)
    · have : ¬ (a.1 = b.1 ∧ a.2 = b.2) := fun e => h (Prod.ext e.1 e.2)
      unfold ltS; omega
theorem sortS_pw (l : List Sp) : (sortS l).Pairwise (fun a b => ¬ ltS b a) := by
  have h := List.pairwise_mergeSort (le := fun x y => !(Go.Proofs.ltOf ordS) y x) (fun a b c h1 h2 => by
    simp only [ordS_lt, Bool.not_eq_true', decide_eq_false_iff_not] at *
    unfold ltS at *; omega) (fun a b => by
    simp only [ordS_lt, Bool.or_eq_true, Bool.not_eq_true', decide_eq_false_iff_not]
    unfold ltS; omega) l
  refine h.imp ?_
  intro a b hab
  simpa only [ordS_lt, Bool.not_eq_true', decide_eq_false_iff_not] using hab
theorem sortS_mem (l : List Sp) (x : Sp) : x ∈ sortS l ↔ x ∈ l := by unfold sortS; exact (List.mergeSort_perm l _).mem_iff
theorem normS_sorted (l : List Sp) : (normS l).Pairwise ltS := dedupAdj_sorted ltS_sto _ (sortS_pw l)
theorem normS_mem (l : List Sp) (x : Sp) : x ∈ normS l ↔ x ∈ l := by unfold normS; rw [dedupAdj_mem, sortS_mem]
theorem insS_mem (s x : Sp) : ∀ l : List Sp, x ∈ insS l s ↔ x ∈ l ∨ x = s
  | [] => by simp [insS]
  | y :: t => by
    rw [insS]
    by_cases h : ltS y s
    · rw [if_pos h, List.mem_cons, insS_mem s x t, List.mem_cons]
      constructor
      · rintro (h1 | h1 | h1)
        · exact .inl (.inl h1)
        · exact .inl (.inr h1)
        · exact .inr h1
      · rintro ((h1 | h1) | h1)
        · exact .inl h1
        · exact .inr (.inl h1)
        · exact .inr (.inr h1)
    · rw [if_neg h]
      by_cases h2 : y = s
      · subst h2
        rw [if_pos rfl]
        constructor
        · exact .inl
        · rintro (h1 | h1)
          · exact h1
          · subst h1; exact List.mem_cons_self
      · rw [if_neg h2, List.mem_cons]
        constructor
        · rintro (h1 | h1)
          · exact .inr h1
          · exact .inl h1
        · rintro (h1 | h1)
          · exact .inr h1
          · exact .inl h1
theorem insS_sorted (s : Sp) : ∀ l : List Sp, l.Pairwise ltS → (insS l s).Pairwise ltS
  | [], _ => by simp [insS]
  | y :: t, h => by
    have h' := List.pairwise_cons.1 h
    rw [insS]
    by_cases hy : ltS y s
    · rw [if_pos hy, List.pairwise_cons]
      refine ⟨fun x hx => ?_, insS_sorted s t h'.2⟩
      rcases (insS_mem s x t).1 hx with h1 | h1
      · exact h'.1 x h1
      · subst h1; exact hy
    · rw [if_neg hy]
      by_cases h2 : y = s
      · rw [if_pos h2]; exact h
      · rw [if_neg h2, List.pairwise_cons]
        have hsy : ltS s y := by
          rcases ltS_sto.tri y s with h3 | h3 | h3
          · exact absurd h3 hy
          · exact absurd h3 h2
          · exact h3
        refine ⟨fun x hx => ?_, h⟩
        rcases List.mem_cons.1 hx with h3 | h3
        · subst h3; exact hsy
        · exact ltS_sto.trans _ _ _ hsy (h'.1 x h3)
theorem foldIns (l : List Sp) : ∀ acc : List Sp, acc.Pairwise ltS → (l.foldl insS acc).Pairwise ltS ∧ ∀ x, x ∈ l.foldl insS acc ↔ x ∈ acc ∨ x ∈ l := by
  induction l with
  | nil => intro acc h; exact ⟨h, fun x => by simp⟩
  | cons s t ih =>
    intro acc h
    obtain ⟨h1, h2⟩ := ih (insS acc s) (insS_sorted s acc h)
    refine ⟨h1, fun x => ?_⟩
    rw [List.foldl_cons, h2 x, insS_mem, List.mem_cons, or_assoc]
theorem refNorm_eq (l : List Sp) : refNorm l = normS l := by
  obtain ⟨h1, h2⟩ := foldIns l [] List.Pairwise.nil
  refine sorted_ext ltS_sto _ _ h1 (normS_sorted l) fun x => ?_
  rw [normS_mem]
  show x ∈ List.foldl insS [] l ↔ _
  rw [h2 x]; simp
theorem sortedS_fst {l : List Sp} (h : l.Pairwise ltS) : l.Pairwise (fun a b => a.1 ≤ b.1) := h.imp fun hab => by unfold ltS at hab; omega
/-! ### choices -/
def inW (b : List Sp) (s : Sp) : Bool := b.any fun t => decide (t.1 ≤ s.1 ∧ s.2 ≤ t.2)
def inC (b : List Sp) (s : Sp) : Bool := b.any fun t => decide (s.1 ≤ t.1 ∧ t.2 ≤ s.2)
def inO (b : List Sp) (s : Sp) : Bool := b.any fun t => decide (s.1 < t.2 ∧ t.1 < s.2)
theorem any_congr {b c : List Sp} {p : Sp → Bool} (h : ∀ x, x ∈ b ↔ x ∈ c) : b.any p = c.any p := by
  rw [Bool.eq_iff_iff, List.any_eq_true, List.any_eq_true]
  constructor
  · rintro ⟨x, h1, h2⟩; exact ⟨x, (h x).1 h1, h2⟩
  · rintro ⟨x, h1, h2⟩; exact ⟨x, (h x).2 h1, h2⟩
def maxE (l : List Sp) : Int := l.foldl (fun m t => max m t.2) 0
theorem foldMax (l : List Sp) : ∀ m : Int, m ≤ l.foldl (fun m t => max m t.2) m ∧ (∀ t ∈ l, t.2 ≤ l.foldl (fun m t => max m t.2) m) ∧ (l.foldl (fun m t => max m t.2) m = m ∨ ∃ t ∈ l, l.foldl (fun m t => max m t.2) m = t.2) := by
  induction l with
  | nil => intro m; simp
  | cons x t ih =>
    intro m
    obtain ⟨h1, h2, h3⟩ := ih (max m x.2)
    rw [List.foldl_cons]
    refine ⟨by omega, fun y hy => ?_, ?_⟩
    · rcases List.mem_cons.1 hy with rfl | hy
      · omega
      · exact h2 y hy
    · rcases h3 with h3 | ⟨y, hy, h3⟩
      · by_cases h4 : x.2 ≤ m
        · left; rw [h3]; omega
        · right; exact ⟨x, List.mem_cons_self, by rw [h3]; omega⟩
      · right; exact ⟨y, List.mem_cons_of_mem _ hy, h3⟩
theorem maxE_snoc (l : List Sp) (x : Sp) : maxE (l ++ [x]) = max (maxE l) x.2 := by unfold maxE; rw [List.foldl_append]; rfl
theorem within_ok {nb : List Sp} {s : Sp} {k : Nat} (h1 : ∀ t ∈ nb.take k, t.1 ≤ s.1) (h2 : ∀ t ∈ nb.drop k, s.1 < t.1) (hs : 0 < s.2) : inW nb s = decide (s.2 ≤ maxE (nb.take k)) := by
  obtain ⟨m1, m2, m3⟩ := foldMax (nb.take k) 0
  rw [Bool.eq_iff_iff, decide_eq_true_iff, inW, List.any_eq_true]
  constructor
  · rintro ⟨t, ht, hp⟩
    have hp := of_decide_eq_true hp
    have htk : t ∈ nb.take k := by
      rw [← List.take_append_drop k nb] at ht
      rcases List.mem_append.1 ht with h | h
      · exact h
      · have := h2 t h; omega
    have := m2 t htk
    unfold maxE; omega
  · intro h
    unfold maxE at h
    rcases m3 with h3 | ⟨t, ht, h3⟩
    · omega
    · exact ⟨t, List.mem_of_mem_take ht, decide_eq_true ⟨h1 t ht, by omega⟩⟩
def minE (l : List Sp) : Int := l.foldr (fun t m => min m t.2) 9223372036854775807
theorem minE_le (l : List Sp) : (∀ t ∈ l, minE l ≤ t.2) ∧ (minE l = 9223372036854775807 ∨ ∃ t ∈ l, minE l = t.2) := by
  induction l with
  | nil => exact ⟨(fun t h => by cases h), .inl rfl⟩
  | cons x t ih =>
    have e : minE (x :: t) = min (minE t) x.2 := rfl
    rw [e]
    refine ⟨fun y hy => ?_, ?_⟩
    · rcases List.mem_cons.1 hy with rfl | hy
      · omega
      · have := ih.1 y hy; omega
    · by_cases h : minE t ≤ x.2
      · rcases ih.2 with h2 | ⟨y, hy, h2⟩
        · left; omega
        · right; exact ⟨y, List.mem_cons_of_mem _ hy, by omega⟩
      · right; exact ⟨x, List.mem_cons_self, by omega⟩
theorem containing_ok {nb : List Sp} {s : Sp} {k : Nat} (h1 : ∀ t ∈ nb.take k, t.1 < s.1) (h2 : ∀ t ∈ nb.drop k, s.1 ≤ t.1) (hm : ∀ t ∈ nb, t.2 ≤ 9223372036854775807) : inC nb s = decide (k < nb.length ∧ minE (nb.drop k) ≤ s.2) := by
  obtain ⟨m1, m2⟩ := minE_le (nb.drop k)
  rw [Bool.eq_iff_iff, decide_eq_true_iff, inC, List.any_eq_true]
  constructor
  · rintro ⟨t, ht, hp⟩
    have hp := of_decide_eq_true hp
    have htk : t ∈ nb.drop k := by
      rw [← List.take_append_drop k nb] at ht
      rcases List.mem_append.1 ht with h | h
      · have := h1 t h; omega
      · exact h
    have := m1 t htk
    refine ⟨?_, by omega⟩
    rcases Nat.lt_or_ge k nb.length with h | h
    · exact h
    · rw [List.drop_of_length_le h] at htk; cases htk
  · rintro ⟨hk, h⟩
    rcases m2 with h3 | ⟨t, ht, h3⟩
    · have hd : nb.drop k = nb[k] :: nb.drop (k + 1) := List.drop_eq_getElem_cons hk
      have hmem : nb[k] ∈ nb := List.getElem_mem hk
      have := hm _ hmem
      exact ⟨nb[k], hmem, decide_eq_true ⟨h2 _ (by rw [hd]; exact List.mem_cons_self), by omega⟩⟩
    · exact ⟨t, List.mem_of_mem_drop ht, decide_eq_true ⟨h2 t ht, by omega⟩⟩
theorem overlap_ok {ps : List Sp} {s : Sp} {k : Nat} (h1 : ∀ t ∈ ps.take k, t.2 ≤ s.1) (h2 : ∀ t, ps[k]? = some t → s.1 < t.2) (hsrt : ps.Pairwise (fun a b => a.1 ≤ b.1)) : inO ps s = (match ps[k]? with | some t => decide (t.1 < s.2) | none => false) := by
  rw [Bool.eq_iff_iff, inO, List.any_eq_true]
  constructor
  · rintro ⟨t, ht, hp⟩
    have hp := of_decide_eq_true hp
    have htk : t ∈ ps.drop k := by
      rw [← List.take_append_drop k ps] at ht
      rcases List.mem_append.1 ht with h | h
      · have := h1 t h; omega
      · exact h
    have hk : k < ps.length := by
      rcases Nat.lt_or_ge k ps.length with h | h
      · exact h
      · rw [List.drop_of_length_le h] at htk; cases htk
    rw [List.getElem?_eq_getElem hk]
    have hd : ps.drop k = ps[k] :: ps.drop (k + 1) := List.drop_eq_getElem_cons hk
    have hsd : (ps.drop k).Pairwise (fun a b => a.1 ≤ b.1) := hsrt.sublist (List.drop_sublist _ _)
    rw [hd] at htk hsd
    refine decide_eq_true ?_
    rcases List.mem_cons.1 htk with h | h
    · rw [← h]; omega
    · have := (List.pairwise_cons.1 hsd).1 t h; omega
  · intro h
    cases hk : ps[k]? with
    | none => rw [hk] at h; cases h
    | some t =>
      rw [hk] at h
      have := of_decide_eq_true h
      exact ⟨t, List.mem_of_getElem? hk, decide_eq_true ⟨h2 t hk, this⟩⟩
end Go.Proofs.Ytapakgncdmmmaaa
