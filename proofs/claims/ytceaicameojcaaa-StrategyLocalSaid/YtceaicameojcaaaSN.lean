/- Plain: matches and what a strategy keeps of them. -/
import Derived.Test.YtceaicameojcaaaSM
namespace Go.Proofs.Ytceaicameojcaaa
open Go.RowKit

structure Mt where
  b : Int
  e : Int
  v : Value
  ls : List Int
def spm (m : Mt) : Sp := (m.b, m.e)
def keyM (m : Mt) : List Int := m.b :: m.e :: m.ls
theorem spm_of_key {m n : Mt} (h : keyM m = keyM n) : spm m = spm n := by
  unfold keyM at h
  injection h with h1 h
  injection h with h2 h
  exact Prod.ext h1 h2
def okS (s : Sp) : Prop := 0 ≤ s.1 ∧ s.1 < s.2
instance (s : Sp) : Decidable (okS s) := by unfold okS; exact inferInstance
def ascM (l : List Mt) : Prop := l.Pairwise fun a b => ltK (keyM a) (keyM b)
theorem ltK_trans {a b c : List Int} (h1 : ltK a b) (h2 : ltK b c) : ltK a c := ltK_sto.trans a b c h1 h2
/-- neighbours in order: all in order -/
theorem ascM_of_adj : ∀ l : List Mt, (∀ (i : Nat) (a b : Mt), l[i]? = some a → l[i + 1]? = some b → ltK (keyM a) (keyM b)) → ascM l
  | [], _ => List.Pairwise.nil
  | [x], _ => List.pairwise_singleton _ _
  | x :: y :: t, h => by
    have ht : ascM (y :: t) := ascM_of_adj (y :: t) fun i a b ha hb => h (i + 1) a b ha hb
    have hxy : ltK (keyM x) (keyM y) := h 0 x y rfl rfl
    unfold ascM at *
    rw [List.pairwise_cons]
    refine ⟨fun z hz => ?_, ht⟩
    rcases List.mem_cons.1 hz with rfl | hz
    · exact hxy
    · exact ltK_trans hxy ((List.pairwise_cons.1 ht).1 z hz)
theorem ascM_adj {l : List Mt} (h : ascM l) {i : Nat} {a b : Mt} (ha : l[i]? = some a) (hb : l[i + 1]? = some b) : ltK (keyM a) (keyM b) := by
  obtain ⟨h1, rfl⟩ := List.getElem?_eq_some_iff.1 ha
  obtain ⟨h2, rfl⟩ := List.getElem?_eq_some_iff.1 hb
  exact List.pairwise_iff_getElem.1 h i (i + 1) h1 h2 (by omega)
theorem ascM_iff {l m : List Mt} (h : l.map keyM = m.map keyM) : ascM l ↔ ascM m := by
  unfold ascM
  rw [← List.pairwise_map (f := keyM) (R := ltK), ← List.pairwise_map (f := keyM) (R := ltK), h]
instance (l : List Mt) : Decidable (ascM l) := by unfold ascM; exact inferInstance
/-- the error of a call of Choose -/
def errM (k : Int) (l : List Mt) (ea er eo : Int) : Int := if k < 0 ∨ 3 < k then ea else if ¬ ∀ m ∈ l, okS (spm m) then er else if ¬ ascM l then eo else 0
def goodM (k : Int) (l : List Mt) : Prop := (0 ≤ k ∧ k ≤ 3) ∧ (∀ m ∈ l, okS (spm m)) ∧ ascM l
instance (k : Int) (l : List Mt) : Decidable (goodM k l) := by unfold goodM; exact inferInstance
def pickM (c : List Sp) (l : List Mt) : List Mt := l.filter fun m => decide (spm m ∈ c)
def keepR (k : Int) (l : List Sp) (s : Sp) : Bool := l.all fun t => !((decide (k = 1) && conS s t) || (decide (k = 2) && conS t s)) || decide (t = s)
theorem keepR1 (l : List Sp) : keepR 1 l = keepShort l := by funext s; simp [keepR, keepShort]
theorem keepR2 (l : List Sp) : keepR 2 l = keepLong l := by funext s; simp [keepR, keepLong]
theorem keepR0 {k : Int} (h1 : k ≠ 1) (h2 : k ≠ 2) (l : List Sp) (s : Sp) : keepR k l s = true := by simp [keepR, h1, h2]
theorem chosen_ref (k : Int) (l : List Sp) (h : k ≠ 3) : chosenL k l = l.filter (keepR k l) := by
  unfold chosenL
  by_cases h1 : k = 1
  · subst h1; rw [if_pos rfl, keepR1]
  · rw [if_neg h1]
    by_cases h2 : k = 2
    · subst h2; rw [if_pos rfl, keepR2]
    · rw [if_neg h2, if_neg h]
      exact (List.filter_eq_self.2 fun s _ => keepR0 h1 h2 l s).symm
theorem chosen3 (l : List Sp) : chosenL 3 l = tradF 0 l := rfl
end Go.Proofs.Ytceaicameojcaaa
