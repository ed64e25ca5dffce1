/- Plain: what the laws about strategies say of lists. -/
import Derived.Test.YtceaicameojcaaaSN
namespace Go.Proofs.Ytceaicameojcaaa
open Go.RowKit

def spansOf (l : List Sp) : List Sp := l.foldl insC []
theorem spansOf_sorted (l : List Sp) : (spansOf l).Pairwise ltC := refSpans_sorted l
theorem spansOf_mem (l : List Sp) (x : Sp) : x ∈ spansOf l ↔ x ∈ l := refSpans_mem l x
theorem spansOf_len (l : List Sp) : (spansOf l).length ≤ l.length := by
  have : (l.foldl insC []).length ≤ ([] : List Sp).length + l.length := foldInsC_len l []
  unfold spansOf
  simpa using this
theorem spansOf_eq {l m : List Sp} (hs : m.Pairwise ltC) (h : ∀ x, x ∈ m ↔ x ∈ l) : spansOf l = m :=
  sorted_ext ltC_sto _ _ (spansOf_sorted l) hs fun x => by rw [spansOf_mem, h]
def spM (l : List Mt) : List Sp := spansOf (l.map spm)
theorem spM_mem {l : List Mt} {s : Sp} : s ∈ spM l ↔ ∃ m ∈ l, spm m = s := by unfold spM; rw [spansOf_mem, List.mem_map]
theorem spM_sorted (l : List Mt) : (spM l).Pairwise ltC := spansOf_sorted _
theorem spM_len (l : List Mt) : (spM l).length ≤ l.length := by have := spansOf_len (l.map spm); rw [List.length_map] at this; exact this
theorem spM_ok {l : List Mt} (h : ∀ m ∈ l, okS (spm m)) : ∀ s ∈ spM l, 0 ≤ s.1 ∧ s.1 < s.2 := by
  intro s hs
  obtain ⟨m, hm, rfl⟩ := spM_mem.1 hs
  exact h m hm
theorem map_spm {l m : List Mt} (h : l.map keyM = m.map keyM) : l.map spm = m.map spm := by
  have h2 : ∀ l : List Mt, l.map spm = (l.map keyM).map (fun k => match k with | b :: e :: _ => (b, e) | _ => (0, 0)) := by
    intro l; rw [List.map_map]; rfl
  rw [h2 l, h2 m, h]
theorem spM_key {l m : List Mt} (h : l.map keyM = m.map keyM) : spM l = spM m := by unfold spM; rw [map_spm h]
theorem pick_key (c : List Sp) {l m : List Mt} (h : l.map keyM = m.map keyM) : (pickM c l).map keyM = (pickM c m).map keyM := by
  have h2 : ∀ l : List Mt, (pickM c l).map keyM = (l.map keyM).filter (fun k => decide ((match k with | b :: e :: _ => (b, e) | _ => ((0, 0) : Sp)) ∈ c)) := by
    intro l; rw [List.filter_map]; rfl
  rw [h2 l, h2 m, h]
theorem ok_key {l m : List Mt} (h : l.map keyM = m.map keyM) (hl : ∀ x ∈ l, okS (spm x)) : ∀ x ∈ m, okS (spm x) := by
  intro x hx
  have : spm x ∈ l.map spm := by rw [map_spm h]; exact List.mem_map.2 ⟨x, hx, rfl⟩
  obtain ⟨y, hy, e⟩ := List.mem_map.1 this
  rw [← e]; exact hl y hy
theorem good_key {k : Int} {l m : List Mt} (h : l.map keyM = m.map keyM) : goodM k l ↔ goodM k m :=
  ⟨fun ⟨h1, h2, h3⟩ => ⟨h1, ok_key h h2, (ascM_iff h).1 h3⟩, fun ⟨h1, h2, h3⟩ => ⟨h1, ok_key h.symm h2, (ascM_iff h).2 h3⟩⟩
/-- what Choose returns for a list in order -/
def chooseM (k : Int) (l : List Mt) : List Mt := pickM (chosenL k (spM l)) l
theorem choose_key (k : Int) {l m : List Mt} (h : l.map keyM = m.map keyM) : (chooseM k l).map keyM = (chooseM k m).map keyM := by
  unfold chooseM; rw [spM_key h]; exact pick_key _ h
theorem choose_sub (k : Int) (l : List Mt) : (chooseM k l).Sublist l := List.filter_sublist
theorem choose_good {k j : Int} {l : List Mt} (h : goodM k l) (hj : 0 ≤ j ∧ j ≤ 3) : goodM j (chooseM k l) :=
  ⟨hj, fun m hm => h.2.1 m ((choose_sub k l).subset hm), h.2.2.sublist (choose_sub k l)⟩
theorem choose_spans (k : Int) (l : List Mt) : spM (chooseM k l) = chosenL k (spM l) := by
  refine spansOf_eq ((spM_sorted l).sublist (chosen_sub k _)) fun s => ?_
  rw [List.mem_map]
  constructor
  · intro h
    obtain ⟨m, hm, rfl⟩ := spM_mem.1 ((chosen_sub k _).subset h)
    exact ⟨m, List.mem_filter.2 ⟨hm, by simpa using h⟩, rfl⟩
  · rintro ⟨m, hm, rfl⟩
    simpa using (List.mem_filter.1 hm).2
theorem choose_twice {k : Int} {l : List Mt} (h : ∀ m ∈ l, okS (spm m)) : chooseM k (chooseM k l) = chooseM k l := by
  unfold chooseM
  rw [show spM (pickM (chosenL k (spM l)) l) = chosenL k (spM l) from choose_spans k l, chosen_idem k _ (spM_ok h)]
  exact List.filter_eq_self.2 fun m hm => (List.mem_filter.1 hm).2
theorem choose_ne {k : Int} {l : List Mt} (h : ∀ m ∈ l, okS (spm m)) : 0 < (chooseM k l).length ↔ 0 < l.length := by
  constructor
  · intro h1; exact Nat.lt_of_lt_of_le h1 (choose_sub k l).length_le
  · intro h1
    obtain ⟨m, hm⟩ := List.exists_mem_of_length_pos h1
    have hne : spM l ≠ [] := List.ne_nil_of_mem (spM_mem.2 ⟨m, hm, rfl⟩)
    have := chosen_ne k (spM l) (spM_sorted l) (spM_ok h) hne
    obtain ⟨s, hs⟩ := List.exists_mem_of_ne_nil _ this
    obtain ⟨x, hx, rfl⟩ := spM_mem.1 ((chosen_sub k _).subset hs)
    exact List.length_pos_of_mem (List.mem_filter.2 ⟨hx, by simpa using hs⟩)
theorem choose_in (k : Int) (l : List Mt) {m : Mt} (hm : m ∈ l) : spm m ∈ (chooseM k l).map spm ↔ m ∈ chooseM k l := by
  constructor
  · intro h
    obtain ⟨n, hn, e⟩ := List.mem_map.1 h
    refine List.mem_filter.2 ⟨hm, ?_⟩
    rw [← e]; exact (List.mem_filter.1 hn).2
  · intro h; exact List.mem_map.2 ⟨m, h, rfl⟩
/-- the matches whose spans occur among the chosen -/
theorem choose_back (k : Int) (l : List Mt) : l.filter (fun m => decide (spm m ∈ (chooseM k l).map spm)) = chooseM k l := by
  conv => rhs; unfold chooseM pickM
  refine List.filter_congr fun m hm => ?_
  rw [decide_eq_decide, choose_in k l hm, chooseM, pickM, List.mem_filter]
  simp [hm]
theorem short_apart {l : List Mt} {s t : Sp} (hs : s ∈ chosenL 1 (spM l)) (ht : t ∈ chosenL 1 (spM l)) (hn : t ≠ s) : ¬ (s.1 ≤ t.1 ∧ t.2 ≤ s.2) := by
  intro ⟨h1, h2⟩
  unfold chosenL at hs ht
  rw [if_pos rfl] at hs ht
  exact hn (keepShort_iff.1 (List.mem_filter.1 hs).2 t (List.mem_filter.1 ht).1 h1 h2)
theorem long_apart {l : List Mt} {s t : Sp} (hs : s ∈ chosenL 2 (spM l)) (ht : t ∈ chosenL 2 (spM l)) (hn : t ≠ s) : ¬ (s.1 ≤ t.1 ∧ t.2 ≤ s.2) := by
  intro ⟨h1, h2⟩
  unfold chosenL at hs ht
  rw [if_neg (by omega), if_pos rfl] at hs ht
  exact hn (keepLong_iff.1 (List.mem_filter.1 ht).2 s (List.mem_filter.1 hs).1 h1 h2).symm
theorem short_in {l : List Mt} (h : ∀ m ∈ l, okS (spm m)) {m : Mt} (hm : m ∈ l) : ∃ t ∈ chosenL 1 (spM l), m.b ≤ t.1 ∧ t.2 ≤ m.e := by
  obtain ⟨t, h1, h2, h3⟩ := has_short (spM l) (fun s hs => (spM_ok h s hs).2) _ (spm m) (spM_mem.2 ⟨m, hm, rfl⟩) rfl
  exact ⟨t, by unfold chosenL; rw [if_pos rfl]; exact List.mem_filter.2 ⟨h1, h2⟩, h3⟩
theorem long_out {l : List Mt} {m : Mt} (hm : m ∈ l) : ∃ t ∈ chosenL 2 (spM l), t.1 ≤ m.b ∧ m.e ≤ t.2 := by
  obtain ⟨t, h1, h2, h3⟩ := has_long (spM l) _ (spm m) (spM_mem.2 ⟨m, hm, rfl⟩) rfl
  exact ⟨t, by unfold chosenL; rw [if_neg (by omega), if_pos rfl]; exact List.mem_filter.2 ⟨h1, h2⟩, h3⟩
theorem trad_apart {l : List Mt} (h : ∀ m ∈ l, okS (spm m)) {i : Nat} {s t : Sp} (hs : (chosenL 3 (spM l))[i]? = some s) (ht : (chosenL 3 (spM l))[i + 1]? = some t) : s.2 ≤ t.1 := by
  have := tradF_apart 0 (spM l) (fun s hs => (spM_ok h s hs).2)
  rw [chosen3] at hs ht
  obtain ⟨h1, rfl⟩ := List.getElem?_eq_some_iff.1 hs
  obtain ⟨h2, rfl⟩ := List.getElem?_eq_some_iff.1 ht
  exact List.pairwise_iff_getElem.1 this i (i + 1) h1 h2 (by omega)
theorem trad_some {l : List Mt} (h : ∀ m ∈ l, okS (spm m)) {m : Mt} (hm : m ∈ l) : ∃ t ∈ chosenL 3 (spM l), t.1 < m.e ∧ m.b < t.2 := by
  have hk := h m hm
  unfold okS at hk
  rcases trad_over 0 (spM l) (spM_sorted l) (fun s hs => (spM_ok h s hs).2) (spm m) (spM_mem.2 ⟨m, hm, rfl⟩) with h1 | ⟨t, h1, h2, h3⟩
  · exact absurd hk.1 (by omega)
  · have h2' : t.1 ≤ m.b := h2
    have hk' : m.b < m.e := hk.2
    exact ⟨t, by rw [chosen3]; exact h1, by omega, h3⟩
/-! ### two lists apart -/
theorem spM_app {x y : List Mt} (h : ∀ a ∈ x, ∀ c ∈ y, a.b < c.b) : spM (x ++ y) = spM x ++ spM y := by
  refine spansOf_eq ?_ fun s => ?_
  · rw [List.pairwise_append]
    refine ⟨spM_sorted x, spM_sorted y, fun a ha c hc => ?_⟩
    obtain ⟨m, hm, rfl⟩ := spM_mem.1 ha
    obtain ⟨n, hn, rfl⟩ := spM_mem.1 hc
    exact .inl (h m hm n hn)
  · rw [List.mem_append, List.map_append, List.mem_append, spM_mem, spM_mem, List.mem_map, List.mem_map]
theorem choose_app {k : Int} {x y : List Mt} (hx : ∀ m ∈ x, okS (spm m)) (hy : ∀ m ∈ y, okS (spm m)) (h : ∀ a ∈ x, ∀ c ∈ y, a.e ≤ c.b) : chooseM k (x ++ y) = chooseM k x ++ chooseM k y := by
  have hb : ∀ a ∈ x, ∀ c ∈ y, a.b < c.b := fun a ha c hc => by
    have h1 := h a ha c hc
    have h2 : a.b < a.e := (hx a ha).2
    omega
  unfold chooseM
  rw [spM_app hb, chosen_app k _ _ (spM_ok hx) (spM_ok hy)]
  · unfold pickM
    rw [List.filter_append]
    congr 1
    · refine List.filter_congr fun m hm => ?_
      rw [decide_eq_decide, List.mem_append]
      refine ⟨fun h1 => h1.resolve_right fun h2 => ?_, .inl⟩
      obtain ⟨n, hn, e⟩ := spM_mem.1 ((chosen_sub k _).subset h2)
      have := hb m hm n hn
      have e1 : n.b = m.b := congrArg Prod.fst e
      omega
    · refine List.filter_congr fun m hm => ?_
      rw [decide_eq_decide, List.mem_append]
      refine ⟨fun h1 => h1.resolve_left fun h2 => ?_, .inr⟩
      obtain ⟨n, hn, e⟩ := spM_mem.1 ((chosen_sub k _).subset h2)
      have := hb n hn m hm
      have e1 : n.b = m.b := congrArg Prod.fst e
      omega
  · intro s hs t ht
    obtain ⟨m, hm, rfl⟩ := spM_mem.1 hs
    obtain ⟨n, hn, rfl⟩ := spM_mem.1 ht
    exact h m hm n hn
end Go.Proofs.Ytceaicameojcaaa
