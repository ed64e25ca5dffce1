/- Plain: spans in order, and what the strategies keep of them. -/
import Derived.Test.YtceaicameojcaaaXG
namespace Go.Proofs.Ytceaicameojcaaa

abbrev Sp := Int × Int
/-- the order of spans: by begin, then by end -/
def ltC (a b : Sp) : Prop := a.1 < b.1 ∨ (a.1 = b.1 ∧ a.2 < b.2)
instance (a b : Sp) : Decidable (ltC a b) := by unfold ltC; exact inferInstance
theorem ltC_sto : STO ltC where
  irr a := by unfold ltC; omega
  trans a b c := by unfold ltC; omega
  tri a b := by
    unfold ltC
    by_cases h : a.1 = b.1 ∧ a.2 = b.2
    · exact .inr (.inl (Prod.ext h.1 h.2))
    · omega
def conS (a b : Sp) : Bool := decide (a.1 ≤ b.1 ∧ b.2 ≤ a.2)
/-- of a list: contains no other one -/
def keepShort (l : List Sp) (s : Sp) : Bool := l.all fun t => !(conS s t) || decide (t = s)
/-- of a list: is in no other one -/
def keepLong (l : List Sp) (s : Sp) : Bool := l.all fun t => !(conS t s) || decide (t = s)
theorem keepShort_iff {l : List Sp} {s : Sp} : keepShort l s = true ↔ ∀ t ∈ l, s.1 ≤ t.1 → t.2 ≤ s.2 → t = s := by
  unfold keepShort conS
  rw [List.all_eq_true]
  refine forall_congr' fun t => forall_congr' fun ht => ?_
  by_cases h : t = s
  · simp [h]
  · simp [h]; omega
theorem keepLong_iff {l : List Sp} {s : Sp} : keepLong l s = true ↔ ∀ t ∈ l, t.1 ≤ s.1 → s.2 ≤ t.2 → t = s := by
  unfold keepLong conS
  rw [List.all_eq_true]
  refine forall_congr' fun t => forall_congr' fun ht => ?_
  by_cases h : t = s
  · simp [h]
  · simp [h]; omega
/-- two places of an ascending list -/
theorem asc_at {l : List Sp} (h : l.Pairwise ltC) {i j : Nat} {s t : Sp} (hs : l[i]? = some s) (ht : l[j]? = some t) (hij : i < j) : ltC s t := by
  obtain ⟨hi, rfl⟩ := List.getElem?_eq_some_iff.1 hs
  obtain ⟨hj, rfl⟩ := List.getElem?_eq_some_iff.1 ht
  exact List.pairwise_iff_getElem.1 h i j hi hj hij
theorem asc_le {l : List Sp} (h : l.Pairwise ltC) {i j : Nat} {s t : Sp} (hs : l[i]? = some s) (ht : l[j]? = some t) (hij : i ≤ j) : s = t ∨ ltC s t := by
  rcases Nat.lt_or_ge i j with h1 | h1
  · exact .inr (asc_at h hs ht h1)
  · have : i = j := by omega
    subst this; rw [hs] at ht; exact .inl (by injection ht)

/-! ### shortest: from the last one on -/
/-- the first one with its begin -/
def isFirst (l : List Sp) (j : Nat) (t : Sp) : Prop := l[j]? = some t ∧ (j = 0 ∨ ∀ u, l[j - 1]? = some u → u.1 ≠ t.1)
/-- of the first ones from place i on, least is the least end (−1: none) -/
def LeastOk (l : List Sp) (i : Nat) (least : Int) : Prop :=
  (least = -1 ∧ ∀ j t, i ≤ j → ¬ isFirst l j t) ∨ (0 < least ∧ (∃ j t, i ≤ j ∧ isFirst l j t ∧ t.2 = least) ∧ ∀ j t, i ≤ j → isFirst l j t → least ≤ t.2)
theorem first_of {l : List Sp} (h : l.Pairwise ltC) : ∀ (j : Nat) (t : Sp), l[j]? = some t → ∃ j' u, j' ≤ j ∧ isFirst l j' u ∧ u.1 = t.1 ∧ u.2 ≤ t.2
  | 0, t, ht => ⟨0, t, Nat.le_refl _, ⟨ht, .inl rfl⟩, rfl, Int.le_refl _⟩
  | j + 1, t, ht => by
    obtain ⟨v, hv⟩ : ∃ v, l[j]? = some v := ⟨_, List.getElem?_eq_getElem (by have := (List.getElem?_eq_some_iff.1 ht).1; omega)⟩
    by_cases e : v.1 = t.1
    · obtain ⟨j', u, h1, h2, h3, h4⟩ := first_of h j v hv
      have h5 := asc_at h hv ht (by omega)
      unfold ltC at h5
      exact ⟨j', u, by omega, h2, by omega, by omega⟩
    · refine ⟨j + 1, t, Nat.le_refl _, ⟨ht, .inr fun u hu => ?_⟩, rfl, Int.le_refl _⟩
      rw [Nat.add_sub_cancel, hv] at hu
      injection hu with hu
      rw [← hu]; exact e
theorem LeastOk.init (l : List Sp) : LeastOk l l.length (-1) := by
  refine .inl ⟨rfl, fun j t hj hf => ?_⟩
  have := (List.getElem?_eq_some_iff.1 hf.1).1
  omega
theorem LeastOk.skip {l : List Sp} (h : l.Pairwise ltC) {i : Nat} {s t : Sp} {least : Int} (hs : l[i + 1]? = some s) (ht : l[i]? = some t) (e : t.1 = s.1) (hl : LeastOk l (i + 2) least) : keepShort l s = false ∧ LeastOk l (i + 1) least := by
  constructor
  · rw [Bool.eq_false_iff]
    intro hk
    have h1 := asc_at h ht hs (by omega)
    have := keepShort_iff.1 hk t (List.mem_of_getElem? ht) (by omega) (by unfold ltC at h1; omega)
    rw [this] at h1
    exact ltC_sto.irr s h1
  · have hn : ∀ j u, i + 1 ≤ j → isFirst l j u → i + 2 ≤ j := by
      intro j u hj hf
      by_cases hji : j = i + 1
      · subst hji
        exfalso
        rcases hf.2 with h0 | h0
        · omega
        · have hu : u = s := by have := hf.1; rw [hs] at this; injection this with this; exact this.symm
          subst hu
          exact h0 t ht e
      · omega
    rcases hl with ⟨h1, h2⟩ | ⟨h1, ⟨j, u, h2, h3, h4⟩, h5⟩
    · exact .inl ⟨h1, fun j u hj hf => h2 j u (hn j u hj hf) hf⟩
    · exact .inr ⟨h1, ⟨j, u, by omega, h3, h4⟩, fun j u hj hf => h5 j u (hn j u hj hf) hf⟩
theorem LeastOk.keep {l : List Sp} (h : l.Pairwise ltC) (hv : ∀ s ∈ l, 0 ≤ s.1 ∧ s.1 < s.2) {i : Nat} {s : Sp} {least : Int} (hf : isFirst l i s) (hl : LeastOk l (i + 1) least) (hk : least < 0 ∨ s.2 < least) : keepShort l s = true ∧ LeastOk l i s.2 := by
  have hs := hf.1
  constructor
  · refine keepShort_iff.2 fun t ht h1 h2 => ?_
    obtain ⟨j, hj, rfl⟩ := List.mem_iff_getElem.1 ht
    have hjs : l[j]? = some l[j] := List.getElem?_eq_getElem hj
    generalize l[j] = t at *
    rcases Nat.lt_trichotomy j i with h3 | h3 | h3
    · exfalso
      have h4 := asc_at h hjs hs h3
      unfold ltC at h4
      rcases hf.2 with h5 | h5
      · omega
      · obtain ⟨v, hvv⟩ : ∃ v, l[i - 1]? = some v := ⟨_, List.getElem?_eq_getElem (by have := (List.getElem?_eq_some_iff.1 hs).1; omega)⟩
        have h6 := asc_le h hjs hvv (by omega)
        have h7 := asc_at h hvv hs (by omega)
        have h8 := h5 v hvv
        unfold ltC at h6 h7
        rcases h6 with rfl | h6
        · omega
        · omega
    · subst h3
      rw [hs] at hjs; injection hjs with e; exact e.symm
    · exfalso
      have h4 := asc_at h hs hjs h3
      obtain ⟨j', u, k1, k2, k3, k4⟩ := first_of h j t hjs
      have hij : i + 1 ≤ j' := by
        by_cases hle : j' ≤ i
        · have h5 := asc_le h k2.1 hs hle
          unfold ltC at h4 h5
          rcases h5 with rfl | h5
          · omega
          · omega
        · omega
      rcases hl with ⟨l1, l2⟩ | ⟨l1, _, l3⟩
      · exact l2 j' u hij k2
      · have := l3 j' u hij k2
        omega
  · refine .inr ⟨by have := hv s (List.mem_of_getElem? hs); omega, ⟨i, s, Nat.le_refl _, hf, rfl⟩, fun j t hj ht => ?_⟩
    by_cases hji : j = i
    · subst hji
      have := ht.1; rw [hs] at this; injection this with this; rw [this]; exact Int.le_refl _
    · rcases hl with ⟨l1, l2⟩ | ⟨l1, _, l3⟩
      · exact absurd ht (l2 j t (by omega))
      · have := l3 j t (by omega) ht
        omega
theorem LeastOk.drop {l : List Sp} (h : l.Pairwise ltC) {i : Nat} {s : Sp} {least : Int} (hf : isFirst l i s) (hl : LeastOk l (i + 1) least) (hk : ¬ (least < 0 ∨ s.2 < least)) : keepShort l s = false ∧ LeastOk l i least := by
  rcases hl with ⟨l1, _⟩ | ⟨l1, ⟨j, t, l2, l3, l4⟩, l5⟩
  · omega
  · have h4 := asc_at h hf.1 l3.1 (by omega)
    constructor
    · rw [Bool.eq_false_iff]
      intro hkk
      have := keepShort_iff.1 hkk t (List.mem_of_getElem? l3.1) (by unfold ltC at h4; omega) (by omega)
      rw [this] at h4
      exact ltC_sto.irr s h4
    · refine .inr ⟨l1, ⟨j, t, by omega, l3, l4⟩, fun j' u hj hu => ?_⟩
      by_cases hji : j' = i
      · subst hji
        have := hu.1; rw [hf.1] at this; injection this with this; rw [← this]; omega
      · exact l5 j' u (by omega) hu

/-! ### longest: from the first one on -/
/-- the last one with its begin -/
def isLast (l : List Sp) (j : Nat) (t : Sp) : Prop := l[j]? = some t ∧ ∀ u, l[j + 1]? = some u → u.1 ≠ t.1
def MostOk (l : List Sp) (i : Nat) (most : Int) : Prop :=
  (most = -1 ∧ ∀ j t, j < i → ¬ isLast l j t) ∨ (0 < most ∧ (∃ j t, j < i ∧ isLast l j t ∧ t.2 = most) ∧ ∀ j t, j < i → isLast l j t → t.2 ≤ most)
theorem last_of {l : List Sp} (h : l.Pairwise ltC) : ∀ (n j : Nat) (t : Sp), l.length - j = n → l[j]? = some t → ∃ j' u, j ≤ j' ∧ isLast l j' u ∧ u.1 = t.1 ∧ t.2 ≤ u.2
  | 0, j, t, hn, ht => by have := (List.getElem?_eq_some_iff.1 ht).1; omega
  | n + 1, j, t, hn, ht => by
    cases hv : l[j + 1]? with
    | none => exact ⟨j, t, Nat.le_refl _, ⟨ht, fun u hu => by rw [hv] at hu; cases hu⟩, rfl, Int.le_refl _⟩
    | some v =>
      by_cases e : v.1 = t.1
      · obtain ⟨j', u, h1, h2, h3, h4⟩ := last_of h n (j + 1) v (by omega) hv
        have h5 := asc_at h ht hv (by omega)
        unfold ltC at h5
        exact ⟨j', u, by omega, h2, by omega, by omega⟩
      · exact ⟨j, t, Nat.le_refl _, ⟨ht, fun u hu => by rw [hv] at hu; injection hu with hu; rw [← hu]; exact e⟩, rfl, Int.le_refl _⟩
theorem MostOk.init (l : List Sp) : MostOk l 0 (-1) := .inl ⟨rfl, fun j t hj => by omega⟩
theorem MostOk.skip {l : List Sp} (h : l.Pairwise ltC) {i : Nat} {s t : Sp} {most : Int} (hs : l[i]? = some s) (ht : l[i + 1]? = some t) (e : t.1 = s.1) (hl : MostOk l i most) : keepLong l s = false ∧ MostOk l (i + 1) most := by
  constructor
  · rw [Bool.eq_false_iff]
    intro hk
    have h1 := asc_at h hs ht (by omega)
    have := keepLong_iff.1 hk t (List.mem_of_getElem? ht) (by omega) (by unfold ltC at h1; omega)
    rw [this] at h1
    exact ltC_sto.irr s h1
  · have hn : ∀ j u, j < i + 1 → isLast l j u → j < i := by
      intro j u hj hf
      by_cases hji : j = i
      · subst hji
        exfalso
        have hu : u = s := by have := hf.1; rw [hs] at this; injection this with this; exact this.symm
        subst hu
        exact hf.2 t ht e
      · omega
    rcases hl with ⟨h1, h2⟩ | ⟨h1, ⟨j, u, h2, h3, h4⟩, h5⟩
    · exact .inl ⟨h1, fun j u hj hf => h2 j u (hn j u hj hf) hf⟩
    · exact .inr ⟨h1, ⟨j, u, by omega, h3, h4⟩, fun j u hj hf => h5 j u (hn j u hj hf) hf⟩
theorem MostOk.keep {l : List Sp} (h : l.Pairwise ltC) (hv : ∀ s ∈ l, 0 ≤ s.1 ∧ s.1 < s.2) {i : Nat} {s : Sp} {most : Int} (hf : isLast l i s) (hl : MostOk l i most) (hk : most < s.2) : keepLong l s = true ∧ MostOk l (i + 1) s.2 := by
  have hs := hf.1
  constructor
  · refine keepLong_iff.2 fun t ht h1 h2 => ?_
    obtain ⟨j, hj, rfl⟩ := List.mem_iff_getElem.1 ht
    have hjs : l[j]? = some l[j] := List.getElem?_eq_getElem hj
    generalize l[j] = t at *
    rcases Nat.lt_trichotomy j i with h3 | h3 | h3
    · exfalso
      have h4 := asc_at h hjs hs h3
      obtain ⟨j', u, k1, k2, k3, k4⟩ := last_of h _ j t rfl hjs
      unfold ltC at h4
      have hij : j' < i := by
        by_cases hle : i ≤ j'
        · have h5 := asc_le h hs k2.1 hle
          unfold ltC at h5
          rcases h5 with rfl | h5
          · omega
          · omega
        · omega
      rcases hl with ⟨l1, l2⟩ | ⟨l1, _, l3⟩
      · exact l2 j' u hij k2
      · have := l3 j' u hij k2
        omega
    · subst h3
      rw [hs] at hjs; injection hjs with e; exact e.symm
    · exfalso
      have h4 := asc_at h hs hjs h3
      unfold ltC at h4
      obtain ⟨v, hvv⟩ : ∃ v, l[i + 1]? = some v := ⟨_, List.getElem?_eq_getElem (by omega)⟩
      have h6 := asc_at h hs hvv (by omega)
      have h7 := asc_le h hvv hjs (by omega)
      have h8 := hf.2 v hvv
      unfold ltC at h6 h7
      rcases h7 with rfl | h7
      · omega
      · omega
  · refine .inr ⟨by have := hv s (List.mem_of_getElem? hs); omega, ⟨i, s, by omega, hf, rfl⟩, fun j t hj ht => ?_⟩
    by_cases hji : j = i
    · subst hji
      have := ht.1; rw [hs] at this; injection this with this; rw [this]; exact Int.le_refl _
    · rcases hl with ⟨l1, l2⟩ | ⟨l1, _, l3⟩
      · exact absurd ht (l2 j t (by omega))
      · have := l3 j t (by omega) ht
        omega
theorem MostOk.drop {l : List Sp} (h : l.Pairwise ltC) (hv : ∀ s ∈ l, 0 ≤ s.1 ∧ s.1 < s.2) {i : Nat} {s : Sp} {most : Int} (hf : isLast l i s) (hl : MostOk l i most) (hk : ¬ most < s.2) : keepLong l s = false ∧ MostOk l (i + 1) most := by
  have hsv := hv s (List.mem_of_getElem? hf.1)
  rcases hl with ⟨l1, _⟩ | ⟨l1, ⟨j, t, l2, l3, l4⟩, l5⟩
  · omega
  · have h4 := asc_at h l3.1 hf.1 l2
    constructor
    · rw [Bool.eq_false_iff]
      intro hkk
      have := keepLong_iff.1 hkk t (List.mem_of_getElem? l3.1) (by unfold ltC at h4; omega) (by omega)
      rw [this] at h4
      exact ltC_sto.irr s h4
    · refine .inr ⟨l1, ⟨j, t, by omega, l3, l4⟩, fun j' u hj hu => ?_⟩
      by_cases hji : j' = i
      · subst hji
        have := hu.1; rw [hf.1] at this; injection this with this; rw [← this]; omega
      · exact l5 j' u (by omega) hu

/-! ### traditional -/
def tradF (p : Int) : List Sp → List Sp
  | [] => []
  | s :: r => if s.1 < p ∨ (r.head?.map (·.1)) = some s.1 then tradF p r else s :: tradF s.2 r
theorem tradF_sub (p : Int) : ∀ l : List Sp, (tradF p l).Sublist l
  | [] => List.Sublist.slnil
  | s :: r => by
    unfold tradF
    split
    · exact (tradF_sub p r).cons s
    · exact (tradF_sub s.2 r).cons_cons s
theorem tradF_low (p : Int) : ∀ l : List Sp, (∀ s ∈ l, s.1 < s.2) → ∀ s ∈ tradF p l, p ≤ s.1
  | [], _, s, hs => by simp [tradF] at hs
  | t :: r, hv, s, hs => by
    have hv' : ∀ s ∈ r, s.1 < s.2 := fun s h => hv s (List.mem_cons_of_mem _ h)
    unfold tradF at hs
    split at hs
    · exact tradF_low p r hv' s hs
    · rename_i hc
      rcases List.mem_cons.1 hs with rfl | h
      · omega
      · have := tradF_low t.2 r hv' s h
        have := hv t List.mem_cons_self
        omega
theorem tradF_apart (p : Int) : ∀ l : List Sp, (∀ s ∈ l, s.1 < s.2) → (tradF p l).Pairwise (fun a b => a.2 ≤ b.1)
  | [], _ => by simp [tradF]
  | t :: r, hv => by
    have hv' : ∀ s ∈ r, s.1 < s.2 := fun s h => hv s (List.mem_cons_of_mem _ h)
    unfold tradF
    split
    · exact tradF_apart p r hv'
    · exact List.pairwise_cons.2 ⟨fun s hs => tradF_low t.2 r hv' s hs, tradF_apart t.2 r hv'⟩
theorem tradF_skip (p : Int) : ∀ a r : List Sp, (∀ s ∈ a, s.1 < p) → tradF p (a ++ r) = tradF p r
  | [], r, _ => rfl
  | s :: a, r, h => by
    rw [List.cons_append, tradF, if_pos (.inl (h s List.mem_cons_self))]
    exact tradF_skip p a r fun s hs => h s (List.mem_cons_of_mem _ hs)
/-- the reference: the first begin from p on, and of its spans the longest -/
def bstep (p : Int) (b s : Sp) : Sp := if p ≤ s.1 ∧ (b.1 = -1 ∨ s.1 < b.1 ∨ (s.1 = b.1 ∧ b.2 < s.2)) then s else b
def bestG (p : Int) : List Sp → Option Sp
  | [] => none
  | s :: r => if s.1 < p ∨ (r.head?.map (·.1)) = some s.1 then bestG p r else some s
theorem best_from (p : Int) : ∀ (l : List Sp) (b : Sp), (b :: l).Pairwise ltC → p ≤ b.1 → 0 ≤ b.1 → some (l.foldl (bstep p) b) = bestG p (b :: l)
  | [], b, _, hp, _ => by
    rw [bestG, if_neg (by simp; omega)]; rfl
  | s :: r, b, h, hp, h0 => by
    have h1 := List.pairwise_cons.1 h
    have h2 := List.pairwise_cons.1 h1.2
    have hbs := h1.1 s List.mem_cons_self
    rw [List.foldl_cons]
    by_cases e : s.1 = b.1
    · have hst : bstep p b s = s := by unfold bstep; unfold ltC at hbs; rw [if_pos (by omega)]
      rw [hst, best_from p r s h1.2 (by omega) (by omega)]
      conv => rhs; rw [bestG]
      rw [if_pos (.inr (by simp [e]))]
    · have hlt : b.1 < s.1 := by unfold ltC at hbs; omega
      have hst : bstep p b s = b := by unfold bstep; rw [if_neg (by omega)]
      rw [hst, best_from p r b (List.pairwise_cons.2 ⟨fun x hx => h1.1 x (List.mem_cons_of_mem _ hx), h2.2⟩) hp h0]
      rw [bestG, if_neg, bestG, if_neg]
      · simp; omega
      · rintro (h3 | h3)
        · omega
        · cases r with
          | nil => simp at h3
          | cons x r' =>
            simp at h3
            have := h2.1 x List.mem_cons_self
            unfold ltC at this; omega
theorem best_all (p : Int) (hp : 0 ≤ p) : ∀ (l : List Sp), l.Pairwise ltC → l.foldl (bstep p) (-1, 0) = (bestG p l).getD (-1, 0)
  | [], _ => rfl
  | s :: r, h => by
    have h1 := List.pairwise_cons.1 h
    rw [List.foldl_cons]
    by_cases hs : s.1 < p
    · have hst : bstep p (-1, 0) s = (-1, 0) := by unfold bstep; rw [if_neg (by omega)]
      rw [hst, best_all p hp r h1.2, bestG, if_pos (.inl hs)]
    · have hst : bstep p (-1, 0) s = s := by unfold bstep; rw [if_pos ⟨by omega, .inl rfl⟩]
      rw [hst, ← best_from p r s h (by omega) (by omega)]; rfl
theorem trad_best (p : Int) : ∀ (l : List Sp), l.Pairwise ltC → (∀ s ∈ l, s.1 < s.2) → match bestG p l with
    | none => tradF p l = []
    | some b => b ∈ l ∧ p ≤ b.1 ∧ tradF p l = b :: tradF b.2 l
  | [], _, _ => rfl
  | s :: r, h, hv => by
    have h1 := List.pairwise_cons.1 h
    have hv' : ∀ s ∈ r, s.1 < s.2 := fun s h => hv s (List.mem_cons_of_mem _ h)
    have ih := trad_best p r h1.2 hv'
    rw [bestG]
    by_cases hc : s.1 < p ∨ (r.head?.map (·.1)) = some s.1
    · rw [if_pos hc]
      have e : tradF p (s :: r) = tradF p r := by rw [tradF, if_pos hc]
      rw [e]
      cases hb : bestG p r with
      | none => rw [hb] at ih; exact ih
      | some b =>
        rw [hb] at ih
        obtain ⟨i1, i2, i3⟩ := ih
        refine ⟨List.mem_cons_of_mem _ i1, i2, ?_⟩
        rw [i3]
        have hsb := h1.1 b i1
        have hbv := hv' b i1
        have := tradF_skip b.2 [s] r (by intro x hx; obtain rfl := List.mem_singleton.1 hx; unfold ltC at hsb; omega)
        rw [List.singleton_append] at this
        rw [this]
    · rw [if_neg hc]
      refine ⟨List.mem_cons_self, by omega, ?_⟩
      have hsv := hv s List.mem_cons_self
      have := tradF_skip s.2 [s] r (by intro x hx; obtain rfl := List.mem_singleton.1 hx; exact hsv)
      rw [List.singleton_append] at this
      rw [this, tradF, if_neg hc]
/-- what a strategy chooses of an ascending list -/
def chosenL (k : Int) (l : List Sp) : List Sp := if k = 1 then l.filter (keepShort l) else if k = 2 then l.filter (keepLong l) else if k = 3 then tradF 0 l else l
theorem chosen_sub (k : Int) (l : List Sp) : (chosenL k l).Sublist l := by
  unfold chosenL
  split
  · exact List.filter_sublist
  · split
    · exact List.filter_sublist
    · split
      · exact tradF_sub 0 l
      · exact List.Sublist.refl l

/-! ### consequences -/
theorem tradF_id (p : Int) : ∀ l : List Sp, (∀ s ∈ l, s.1 < s.2) → l.Pairwise (fun a b => a.2 ≤ b.1) → (∀ s ∈ l, p ≤ s.1) → tradF p l = l
  | [], _, _, _ => rfl
  | s :: r, hv, h, hp => by
    have h1 := List.pairwise_cons.1 h
    have hsv := hv s List.mem_cons_self
    have hps := hp s List.mem_cons_self
    rw [tradF, if_neg]
    · rw [tradF_id s.2 r (fun s hs => hv s (List.mem_cons_of_mem _ hs)) h1.2 h1.1]
    · rintro (h3 | h3)
      · omega
      · cases r with
        | nil => simp at h3
        | cons x r' =>
          simp at h3
          have := h1.1 x List.mem_cons_self
          omega
theorem chosen_idem (k : Int) (l : List Sp) (hv : ∀ s ∈ l, 0 ≤ s.1 ∧ s.1 < s.2) : chosenL k (chosenL k l) = chosenL k l := by
  unfold chosenL
  by_cases k1 : k = 1
  · simp only [if_pos k1]
    refine List.filter_eq_self.2 fun s hs => ?_
    have := (List.mem_filter.1 hs).2
    rw [keepShort_iff] at this ⊢
    exact fun t ht => this t (List.mem_filter.1 ht).1
  · by_cases k2 : k = 2
    · simp only [if_neg k1, if_pos k2]
      refine List.filter_eq_self.2 fun s hs => ?_
      have := (List.mem_filter.1 hs).2
      rw [keepLong_iff] at this ⊢
      exact fun t ht => this t (List.mem_filter.1 ht).1
    · by_cases k3 : k = 3
      · simp only [if_neg k1, if_neg k2, if_pos k3]
        refine tradF_id 0 _ (fun s hs => (hv s ((tradF_sub 0 l).subset hs)).2) (tradF_apart 0 l fun s hs => (hv s hs).2) fun s hs => (hv s ((tradF_sub 0 l).subset hs)).1
      · simp only [if_neg k1, if_neg k2, if_neg k3]
theorem has_short (l : List Sp) (hv : ∀ s ∈ l, s.1 < s.2) : ∀ (n : Nat) (s : Sp), s ∈ l → (s.2 - s.1).toNat = n → ∃ t ∈ l, keepShort l t = true ∧ s.1 ≤ t.1 ∧ t.2 ≤ s.2 := by
  intro n
  induction n using Nat.strongRecOn with
  | _ n ih =>
    intro s hs hn
    cases hk : keepShort l s with
    | true => exact ⟨s, hs, hk, Int.le_refl _, Int.le_refl _⟩
    | false =>
      have : ¬ ∀ t ∈ l, s.1 ≤ t.1 → t.2 ≤ s.2 → t = s := fun h => by rw [keepShort_iff.2 h] at hk; cases hk
      have : ∃ t, t ∈ l ∧ s.1 ≤ t.1 ∧ t.2 ≤ s.2 ∧ t ≠ s := by
        apply Classical.byContradiction
        intro hno
        exact this fun t ht h1 h2 => Classical.byContradiction fun hne => hno ⟨t, ht, h1, h2, hne⟩
      obtain ⟨t, ht, h1, h2, h3⟩ := this
      have htv := hv t ht
      have hne : ¬ (t.1 = s.1 ∧ t.2 = s.2) := fun h => h3 (Prod.ext h.1 h.2)
      obtain ⟨u, hu, u1, u2, u3⟩ := ih (t.2 - t.1).toNat (by omega) t ht rfl
      exact ⟨u, hu, u1, by omega, by omega⟩
theorem countP_lt {α : Type} {p q : α → Bool} {x : α} : ∀ (l : List α), (∀ y ∈ l, p y = true → q y = true) → x ∈ l → p x = false → q x = true → l.countP p < l.countP q
  | [], _, hx, _, _ => by cases hx
  | y :: l, h, hx, h1, h2 => by
    have hm : l.countP p ≤ l.countP q := List.countP_mono_left fun z hz => h z (List.mem_cons_of_mem _ hz)
    rw [List.countP_cons, List.countP_cons]
    rcases List.mem_cons.1 hx with rfl | hx
    · rw [h1, h2]; simp; omega
    · have := countP_lt l (fun z hz => h z (List.mem_cons_of_mem _ hz)) hx h1 h2
      have hy := h y List.mem_cons_self
      cases hp : p y with
      | true => rw [hy hp]; simp; omega
      | false => cases q y <;> simp <;> omega
theorem has_long (l : List Sp) : ∀ (n : Nat) (s : Sp), s ∈ l → l.countP (fun u => conS u s) = n → ∃ t ∈ l, keepLong l t = true ∧ t.1 ≤ s.1 ∧ s.2 ≤ t.2 := by
  intro n
  induction n using Nat.strongRecOn with
  | _ n ih =>
    intro s hs hn
    cases hk : keepLong l s with
    | true => exact ⟨s, hs, hk, Int.le_refl _, Int.le_refl _⟩
    | false =>
      have : ¬ ∀ t ∈ l, t.1 ≤ s.1 → s.2 ≤ t.2 → t = s := fun h => by rw [keepLong_iff.2 h] at hk; cases hk
      have : ∃ t, t ∈ l ∧ t.1 ≤ s.1 ∧ s.2 ≤ t.2 ∧ t ≠ s := by
        apply Classical.byContradiction
        intro hno
        exact this fun t ht h1 h2 => Classical.byContradiction fun hne => hno ⟨t, ht, h1, h2, hne⟩
      obtain ⟨t, ht, h1, h2, h3⟩ := this
      have hne : ¬ (t.1 = s.1 ∧ t.2 = s.2) := fun h => h3 (Prod.ext h.1 h.2)
      have hlt : l.countP (fun u => conS u t) < n := by
        rw [← hn]
        refine countP_lt (x := s) l (fun y _ hy => ?_) hs ?_ ?_
        · have := of_decide_eq_true hy
          exact decide_eq_true (by omega)
        · exact decide_eq_false (by omega)
        · exact decide_eq_true (by omega)
      obtain ⟨u, hu, u1, u2, u3⟩ := ih _ hlt t ht rfl
      exact ⟨u, hu, u1, by omega, by omega⟩
theorem trad_over (p : Int) : ∀ (l : List Sp), l.Pairwise ltC → (∀ s ∈ l, s.1 < s.2) → ∀ s ∈ l, s.1 < p ∨ ∃ t ∈ tradF p l, t.1 ≤ s.1 ∧ s.1 < t.2
  | [], _, _, s, hs => by cases hs
  | x :: r, h, hv, s, hs => by
    have h1 := List.pairwise_cons.1 h
    have hv' : ∀ s ∈ r, s.1 < s.2 := fun s h => hv s (List.mem_cons_of_mem _ h)
    rw [tradF]
    by_cases hc : x.1 < p ∨ (r.head?.map (·.1)) = some x.1
    · rw [if_pos hc]
      rcases List.mem_cons.1 hs with rfl | hs
      · rcases hc with hc | hc
        · exact .inl hc
        · cases r with
          | nil => simp at hc
          | cons y r' =>
            simp at hc
            rcases trad_over p (y :: r') h1.2 hv' y List.mem_cons_self with h2 | ⟨t, ht, t1, t2⟩
            · left; omega
            · exact .inr ⟨t, ht, by omega, by omega⟩
      · exact trad_over p r h1.2 hv' s hs
    · rw [if_neg hc]
      have hxv := hv x List.mem_cons_self
      rcases List.mem_cons.1 hs with rfl | hs
      · exact .inr ⟨s, List.mem_cons_self, Int.le_refl _, hxv⟩
      · have hxs := h1.1 s hs
        unfold ltC at hxs
        rcases trad_over x.2 r h1.2 hv' s hs with h2 | ⟨t, ht, t1, t2⟩
        · exact .inr ⟨x, List.mem_cons_self, by omega, h2⟩
        · exact .inr ⟨t, List.mem_cons_of_mem _ ht, t1, t2⟩
theorem chosen_ne (k : Int) (l : List Sp) (h : l.Pairwise ltC) (hv : ∀ s ∈ l, 0 ≤ s.1 ∧ s.1 < s.2) (hn : l ≠ []) : chosenL k l ≠ [] := by
  obtain ⟨s, hs⟩ := List.exists_mem_of_ne_nil l hn
  unfold chosenL
  by_cases k1 : k = 1
  · rw [if_pos k1]
    obtain ⟨t, ht, h1, _⟩ := has_short l (fun s hs => (hv s hs).2) _ s hs rfl
    exact List.ne_nil_of_mem (List.mem_filter.2 ⟨ht, h1⟩)
  · rw [if_neg k1]
    by_cases k2 : k = 2
    · rw [if_pos k2]
      obtain ⟨t, ht, h1, _⟩ := has_long l _ s hs rfl
      exact List.ne_nil_of_mem (List.mem_filter.2 ⟨ht, h1⟩)
    · rw [if_neg k2]
      by_cases k3 : k = 3
      · rw [if_pos k3]
        rcases trad_over 0 l h (fun s hs => (hv s hs).2) s hs with h1 | ⟨t, ht, _⟩
        · have := hv s hs; omega
        · exact List.ne_nil_of_mem ht
      · rw [if_neg k3]; exact hn
theorem tradF_from (p : Int) (h0 : 0 ≤ p) : ∀ l : List Sp, (∀ s ∈ l, p ≤ s.1) → tradF p l = tradF 0 l
  | [], _ => rfl
  | s :: r, h => by
    have hs := h s List.mem_cons_self
    rw [tradF, tradF]
    by_cases hc : (r.head?.map (·.1)) = some s.1
    · rw [if_pos (.inr hc), if_pos (.inr hc)]
      exact tradF_from p h0 r fun s hs => h s (List.mem_cons_of_mem _ hs)
    · rw [if_neg (by rintro (h1 | h1); omega; exact hc h1), if_neg (by rintro (h1 | h1); omega; exact hc h1)]
theorem tradF_app (b : List Sp) : ∀ (a : List Sp) (p : Int), 0 ≤ p → (∀ s ∈ a, 0 ≤ s.1 ∧ s.1 < s.2) → (∀ t ∈ b, p ≤ t.1) → (∀ s ∈ a, ∀ t ∈ b, s.2 ≤ t.1) → tradF p (a ++ b) = tradF p a ++ tradF 0 b
  | [], p, h0, _, hb, _ => by rw [List.nil_append, tradF, List.nil_append]; exact tradF_from p h0 b hb
  | s :: r, p, h0, hv, hb, hab => by
    have hsv := hv s List.mem_cons_self
    have hv' : ∀ s ∈ r, 0 ≤ s.1 ∧ s.1 < s.2 := fun s h => hv s (List.mem_cons_of_mem _ h)
    have hab' : ∀ s ∈ r, ∀ t ∈ b, s.2 ≤ t.1 := fun s h => hab s (List.mem_cons_of_mem _ h)
    have hh : ((r ++ b).head?.map (·.1)) = some s.1 ↔ (r.head?.map (·.1)) = some s.1 := by
      cases r with
      | cons x r' => simp
      | nil =>
        cases b with
        | nil => simp
        | cons y b' =>
          have := hab s List.mem_cons_self y List.mem_cons_self
          simp; omega
    rw [List.cons_append, tradF, tradF]
    by_cases hc : s.1 < p ∨ (r.head?.map (·.1)) = some s.1
    · rw [if_pos hc, if_pos (by rw [hh]; exact hc)]
      exact tradF_app b r p h0 hv' hb hab'
    · rw [if_neg hc, if_neg (by rw [hh]; exact hc), List.cons_append]
      rw [tradF_app b r s.2 (by omega) hv' (fun t ht => hab s List.mem_cons_self t ht) hab']
theorem chosen_app (k : Int) (a b : List Sp) (hv : ∀ s ∈ a, 0 ≤ s.1 ∧ s.1 < s.2) (hv' : ∀ s ∈ b, 0 ≤ s.1 ∧ s.1 < s.2) (h : ∀ s ∈ a, ∀ t ∈ b, s.2 ≤ t.1) : chosenL k (a ++ b) = chosenL k a ++ chosenL k b := by
  unfold chosenL
  by_cases k1 : k = 1
  · simp only [if_pos k1]
    rw [List.filter_append]
    congr 1
    · refine List.filter_congr fun s hs => ?_
      rw [Bool.eq_iff_iff, keepShort_iff, keepShort_iff]
      refine ⟨fun h1 t ht => h1 t (List.mem_append_left _ ht), fun h1 t ht h2 h3 => ?_⟩
      rcases List.mem_append.1 ht with ht | ht
      · exact h1 t ht h2 h3
      · have := h s hs t ht; have := hv' t ht; omega
    · refine List.filter_congr fun s hs => ?_
      rw [Bool.eq_iff_iff, keepShort_iff, keepShort_iff]
      refine ⟨fun h1 t ht => h1 t (List.mem_append_right _ ht), fun h1 t ht h2 h3 => ?_⟩
      rcases List.mem_append.1 ht with ht | ht
      · have := h t ht s hs; have := hv t ht; omega
      · exact h1 t ht h2 h3
  · by_cases k2 : k = 2
    · simp only [if_neg k1, if_pos k2]
      rw [List.filter_append]
      congr 1
      · refine List.filter_congr fun s hs => ?_
        rw [Bool.eq_iff_iff, keepLong_iff, keepLong_iff]
        refine ⟨fun h1 t ht => h1 t (List.mem_append_left _ ht), fun h1 t ht h2 h3 => ?_⟩
        rcases List.mem_append.1 ht with ht | ht
        · exact h1 t ht h2 h3
        · have := h s hs t ht; have := hv s hs; omega
      · refine List.filter_congr fun s hs => ?_
        rw [Bool.eq_iff_iff, keepLong_iff, keepLong_iff]
        refine ⟨fun h1 t ht => h1 t (List.mem_append_right _ ht), fun h1 t ht h2 h3 => ?_⟩
        rcases List.mem_append.1 ht with ht | ht
        · have := h t ht s hs; have := hv' s hs; omega
        · exact h1 t ht h2 h3
    · by_cases k3 : k = 3
      · simp only [if_neg k1, if_neg k2, if_pos k3]
        exact tradF_app b a 0 (Int.le_refl _) hv (fun t ht => (hv' t ht).1) h
      · simp only [if_neg k1, if_neg k2, if_neg k3]
end Go.Proofs.Ytceaicameojcaaa
