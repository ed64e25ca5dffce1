/- Plain: stable sorting by a key: what it is, that there is one result, merging in parts.
   Plain: package-merge: the sum of Kraft.
   Plain: canonical codes: no code begins another.
   Plain: reading a canonical code bit by bit.
   Plain: bits in bytes.
   Plain: numbers as bits, Elias' codes.
   Plain: numbers as bytes of seven bits.
   Plain: the lengths of package-merge give canonical codes.
   Plain: a code read bit by bit; packed blocks. -/
import Derived.WalkKit
import Derived.Test.YtecogbhbkccblaaGreatDoorG1
set_option linter.all false
namespace Go.Proofs.YtecogbhbkccblaaGreatDoor

section
variable {α : Type} (key : α → Int)
/-- ascending by the key -/
def KSorted (l : List α) : Prop := l.Pairwise fun a b => key a ≤ key b
/-- m is l, sorted by the key, elements with one key in their order -/
def StSort (l m : List α) : Prop := KSorted key m ∧ ∀ k : Int, m.filter (fun a => decide (key a = k)) = l.filter (fun a => decide (key a = k))
variable {key}
theorem filt_mem {l m : List α} (h : ∀ k : Int, m.filter (fun a => decide (key a = k)) = l.filter (fun a => decide (key a = k))) {a : α} : a ∈ m ↔ a ∈ l := by
  have := h (key a)
  constructor
  · intro ha
    have h1 : a ∈ m.filter (fun x => decide (key x = key a)) := List.mem_filter.2 ⟨ha, by simp⟩
    rw [this] at h1
    exact (List.mem_filter.1 h1).1
  · intro ha
    have h1 : a ∈ l.filter (fun x => decide (key x = key a)) := List.mem_filter.2 ⟨ha, by simp⟩
    rw [← this] at h1
    exact (List.mem_filter.1 h1).1
/-- two ascending lists with the same elements of each key are one -/
theorem ksorted_ext : ∀ {l m : List α}, KSorted key l → KSorted key m → (∀ k : Int, m.filter (fun a => decide (key a = k)) = l.filter (fun a => decide (key a = k))) → l = m
  | [], m, _, _, h => by
    cases m with
    | nil => rfl
    | cons b m =>
      have := (filt_mem h (a := b)).1 List.mem_cons_self
      cases this
  | a :: l, [], _, _, h => by
    have := (filt_mem h (a := a)).2 List.mem_cons_self
    cases this
  | a :: l, b :: m, hl, hm, h => by
    have hl' := List.pairwise_cons.1 hl
    have hm' := List.pairwise_cons.1 hm
    have hab : key a = key b := by
      have h1 : key a ≤ key b := by
        rcases List.mem_cons.1 ((filt_mem h (a := b)).1 List.mem_cons_self) with e | hb
        · exact Int.le_of_eq (by rw [e])
        · exact hl'.1 b hb
      have h2 : key b ≤ key a := by
        rcases List.mem_cons.1 ((filt_mem h (a := a)).2 List.mem_cons_self) with e | hb
        · exact Int.le_of_eq (by rw [e])
        · exact hm'.1 a hb
      omega
    have hh := h (key a)
    rw [List.filter_cons_of_pos (by simp [hab]), List.filter_cons_of_pos (by simp)] at hh
    injection hh with e1 e2
    subst e1
    congr 1
    refine ksorted_ext hl'.2 hm'.2 fun k => ?_
    have := h k
    by_cases hk : key b = k
    · rw [List.filter_cons_of_pos (by simpa using hk), List.filter_cons_of_pos (by simpa using hk)] at this
      injection this
    · rw [List.filter_cons_of_neg (by simpa using hk), List.filter_cons_of_neg (by simpa using hk)] at this
      exact this
theorem StSort.eq {l m m' : List α} (h : StSort key l m) (h' : StSort key l m') : m = m' := ksorted_ext h.1 h'.1 fun k => (h'.2 k).trans (h.2 k).symm
theorem filt_len : ∀ (n : Nat) {l m : List α}, l.length ≤ n → (∀ k : Int, m.filter (fun a => decide (key a = k)) = l.filter (fun a => decide (key a = k))) → m.length = l.length
  | _, [], m, _, h => by
    cases m with
    | nil => rfl
    | cons b m => cases (filt_mem h (a := b)).1 List.mem_cons_self
  | 0, a :: l, _, hn, _ => by simp at hn
  | n + 1, a :: l, m, hn, h => by
    have e : ∀ x : List α, x.length = (x.filter fun b => decide (key b = key a)).length + (x.filter fun b => !decide (key b = key a)).length := fun x => by
      induction x with
      | nil => rfl
      | cons y x ih =>
        by_cases hy : key y = key a
        · rw [List.filter_cons_of_pos (by simpa using hy), List.filter_cons_of_neg (by simpa using hy), List.length_cons, List.length_cons, ih]; omega
        · rw [List.filter_cons_of_neg (by simpa using hy), List.filter_cons_of_pos (by simpa using hy), List.length_cons, List.length_cons, ih]; omega
    rw [e m, e (a :: l), h (key a)]
    congr 1
    refine filt_len n ?_ fun k => ?_
    · rw [List.filter_cons_of_neg (by simp)]
      have := List.length_filter_le (fun b => !decide (key b = key a)) l
      simp at hn; omega
    · rw [List.filter_filter, List.filter_filter]
      by_cases hk : k = key a
      · subst hk
        rw [List.filter_eq_nil_iff.2, List.filter_eq_nil_iff.2] <;> (intro x _; simp)
      · have : (fun x => decide (key x = k) && !decide (key x = key a)) = fun x => decide (key x = k) := by
          funext x
          by_cases hx : key x = k
          · simp [hx, hk]
          · simp [hx]
        rw [this]; exact h k
/-- stable merging -/
def mrg (key : α → Int) : List α → List α → List α
  | [], ys => ys
  | x :: xs, [] => x :: xs
  | x :: xs, y :: ys => if key x ≤ key y then x :: mrg key xs (y :: ys) else y :: mrg key (x :: xs) ys
termination_by xs ys => xs.length + ys.length
theorem mrg_nil (xs : List α) : mrg key xs [] = xs := by cases xs <;> simp [mrg]
theorem mrg_nil' (ys : List α) : mrg key [] ys = ys := by simp [mrg]
/-- what lies below a cut on both sides is merged by itself, and so is the rest -/
theorem mrg_parts : ∀ (x1 x2 y1 y2 : List α), (∀ x ∈ x1, ∀ y ∈ y2, key x ≤ key y) → (∀ x ∈ x2, ∀ y ∈ y1, key y < key x) → mrg key (x1 ++ x2) (y1 ++ y2) = mrg key x1 y1 ++ mrg key x2 y2
  | [], x2, [], y2, _, _ => by simp [mrg]
  | [], x2, y :: y1, y2, h1, h2 => by
    rw [mrg_nil', List.nil_append]
    cases x2 with
    | nil => rw [mrg_nil', mrg_nil']
    | cons x x2 =>
      have hxy := h2 x List.mem_cons_self y List.mem_cons_self
      rw [List.cons_append, mrg, if_neg zO, List.cons_append]
      have := mrg_parts [] (x :: x2) y1 y2 (by simp) (fun a ha b hb => h2 a ha b (List.mem_cons_of_mem _ hb))
      rw [List.nil_append, mrg_nil'] at this
      rw [this]
  | x :: x1, x2, [], y2, h1, h2 => by
    rw [mrg_nil, List.nil_append]
    cases y2 with
    | nil => rw [mrg_nil, mrg_nil]
    | cons y y2 =>
      have hxy := h1 x List.mem_cons_self y List.mem_cons_self
      rw [List.cons_append, mrg, if_pos hxy, List.cons_append]
      have := mrg_parts x1 x2 [] (y :: y2) (fun a ha b hb => h1 a (List.mem_cons_of_mem _ ha) b hb) (by simp)
      rw [List.nil_append, mrg_nil] at this
      rw [this]
  | x :: x1, x2, y :: y1, y2, h1, h2 => by
    rw [List.cons_append, List.cons_append, mrg, mrg]
    by_cases hxy : key x ≤ key y
    · rw [if_pos hxy, if_pos hxy, List.cons_append]
      have := mrg_parts x1 x2 (y :: y1) y2 (fun a ha b hb => h1 a (List.mem_cons_of_mem _ ha) b hb) h2
      rw [List.cons_append] at this
      rw [this]
    · rw [if_neg hxy, if_neg hxy, List.cons_append]
      have := mrg_parts (x :: x1) x2 y1 y2 h1 (fun a ha b hb => h2 a ha b (List.mem_cons_of_mem _ hb))
      rw [List.cons_append] at this
      rw [this]
termination_by x1 _ y1 _ => x1.length + y1.length
theorem mrg_mem : ∀ (xs ys : List α) {a : α}, a ∈ mrg key xs ys ↔ a ∈ xs ∨ a ∈ ys
  | [], ys, a => by simp [mrg]
  | x :: xs, [], a => by simp [mrg]
  | x :: xs, y :: ys, a => by
    rw [mrg]
    split
    · rw [List.mem_cons, mrg_mem xs (y :: ys), List.mem_cons (a := a) (b := x) (l := xs), or_assoc]
    · rw [List.mem_cons, mrg_mem (x :: xs) ys, List.mem_cons (a := a) (b := y) (l := ys)]
      constructor
      · rintro (h | h | h) <;> simp [h]
      · rintro (h | h | h) <;> simp [h]
termination_by xs ys => xs.length + ys.length
theorem mrg_sorted : ∀ (xs ys : List α), KSorted key xs → KSorted key ys → KSorted key (mrg key xs ys)
  | [], ys, _, h => by rw [mrg_nil']; exact h
  | x :: xs, [], h, _ => by rw [mrg_nil]; exact h
  | x :: xs, y :: ys, hx, hy => by
    have hx' := List.pairwise_cons.1 hx
    have hy' := List.pairwise_cons.1 hy
    rw [mrg]
    split
    · rename_i hxy
      refine List.pairwise_cons.2 ⟨fun a ha => ?_, mrg_sorted xs (y :: ys) hx'.2 hy⟩
      rcases (mrg_mem xs (y :: ys)).1 ha with h | h
      · exact hx'.1 a h
      · rcases List.mem_cons.1 h with rfl | h
        · exact hxy
        · exact Int.le_trans hxy (hy'.1 a h)
    · rename_i hxy
      refine List.pairwise_cons.2 ⟨fun a ha => ?_, mrg_sorted (x :: xs) ys hx hy'.2⟩
      rcases (mrg_mem (x :: xs) ys).1 ha with h | h
      · rcases List.mem_cons.1 h with rfl | h
        · omega
        · exact Int.le_trans zO (hx'.1 a h)
      · exact hy'.1 a h
termination_by xs ys => xs.length + ys.length
theorem mrg_filter (k : Int) : ∀ (xs ys : List α), KSorted key xs → KSorted key ys → (mrg key xs ys).filter (fun a => decide (key a = k)) = xs.filter (fun a => decide (key a = k)) ++ ys.filter (fun a => decide (key a = k))
  | [], ys, _, _ => by rw [mrg_nil']; rfl
  | x :: xs, [], _, _ => by rw [mrg_nil]; simp
  | x :: xs, y :: ys, hx, hy => by
    have hx' := List.pairwise_cons.1 hx
    have hy' := List.pairwise_cons.1 hy
    rw [mrg]
    split
    · rw [List.filter_cons, mrg_filter k xs (y :: ys) hx'.2 hy, List.filter_cons (x := x)]
      split <;> simp
    · rename_i hxy
      rw [List.filter_cons, mrg_filter k (x :: xs) ys hx hy'.2, List.filter_cons (x := y)]
      by_cases hk : key y = k
      · have : (x :: xs).filter (fun a => decide (key a = k)) = [] := by
          rw [List.filter_eq_nil_iff]
          intro a ha
          rcases List.mem_cons.1 ha with rfl | ha
          · simp; omega
          · have := hx'.1 a ha; simp; omega
        rw [this]; simp [hk]
      · simp [hk]
termination_by xs ys => xs.length + ys.length
theorem mrg_stSort {xs ys : List α} (hx : KSorted key xs) (hy : KSorted key ys) : StSort key (xs ++ ys) (mrg key xs ys) := ⟨mrg_sorted xs ys hx hy, fun k => by rw [mrg_filter k xs ys hx hy, List.filter_append]⟩
/-- there is a stably sorted list -/
def insK (key : α → Int) (x : α) (l : List α) : List α := mrg key [x] l
def stS (key : α → Int) : List α → List α
  | [] => []
  | x :: l => insK key x (stS key l)
theorem stS_ok : ∀ l : List α, StSort key l (stS key l)
  | [] => ⟨List.Pairwise.nil, fun _ => rfl⟩
  | x :: l => by
    have h := stS_ok l
    refine ⟨mrg_sorted [x] _ (List.pairwise_singleton _ _) h.1, fun k => ?_⟩
    show (mrg key [x] (stS key l)).filter _ = _
    rw [mrg_filter k [x] _ (List.pairwise_singleton _ _) h.1, h.2 k, ← List.filter_append]
    rfl
theorem StSort.is {l m : List α} (h : StSort key l m) : m = stS key l := h.eq (stS_ok l)
end
end Go.Proofs.YtecogbhbkccblaaGreatDoor
namespace Go.Proofs.YtecogbhbkccblaaGreatDoor

/-- an item of package-merge: its weight, its symbol (-1: a package), the two below it -/
structure Hi where
  w : Int
  s : Int
  l : Int
  r : Int
deriving DecidableEq
def Hi.leaf (x : Hi) : Bool := decide (0 ≤ x.s)
def hi0 : Hi := ⟨0, 0, 0, 0⟩
def pkg (b : List Hi) (j : Nat) : Hi := ⟨((b[2 * j]?).getD hi0).w + ((b[2 * j + 1]?).getD hi0).w, -1, (2 * j : Nat), (2 * j + 1 : Nat)⟩
def pkgs (b : List Hi) : List Hi := (List.range (b.length / 2)).map (pkg b)
def lstH (L : List Hi) : Nat → List Hi
  | 0 => L
  | k + 1 => stS Hi.w (L ++ pkgs (lstH L k))
/-- packages in a list -/
def pkN (l : List Hi) : Nat := l.countP fun x => !x.leaf
def lfN (l : List Hi) : Nat := l.countP Hi.leaf
/-- what is taken of list k, of list k - 1, .. -/
def runH (L : List Hi) : Nat → Nat → List (List Hi)
  | 0, t => [L.take t]
  | k + 1, t => (lstH L (k + 1)).take t :: runH L k (2 * pkN ((lstH L (k + 1)).take t))
def valR (c : List Hi → Nat) : List (List Hi) → Nat
  | [] => 0
  | T :: R => c T * 2 ^ R.length + valR c R
def sumR (c : List Hi → Nat) : List (List Hi) → Nat
  | [] => 0
  | T :: R => c T + sumR c R
def sumN {α : Type} (f : α → Nat) : List α → Nat
  | [] => 0
  | x :: l => f x + sumN f l

/-- leaves, in order -/
structure LfOk (L : List Hi) : Prop where
  pos : ∀ x ∈ L, 0 < x.w
  lf : ∀ x ∈ L, x.leaf = true
  nd : L.Nodup
  st : KSorted Hi.w L

theorem nd_count {x : Hi} : ∀ {L : List Hi}, L.Nodup → x ∈ L → L.count x = 1
  | [], _, h => by cases h
  | y :: L, hn, h => by
    have hn' := List.nodup_cons.1 hn
    rw [List.count_cons]
    by_cases e : y = x
    · subst e
      rw [List.count_eq_zero_of_not_mem hn'.1]; simp
    · have hx : x ∈ L := by
        rcases List.mem_cons.1 h with h | h
        · exact absurd h.symm e
        · exact h
      rw [nd_count hn'.2 hx, if_neg (by simpa using e)]
theorem stSort_perm {l m : List Hi} (h : StSort Hi.w l m) : m.Perm l := by
  rw [List.perm_iff_count]
  intro a
  have := congrArg (List.count a) (h.2 a.w)
  rwa [List.count_filter (by simp), List.count_filter (by simp)] at this
theorem pkgs_len (b : List Hi) : (pkgs b).length = b.length / 2 := by unfold pkgs; simp
theorem pkgs_leaf {b : List Hi} {x : Hi} (h : x ∈ pkgs b) : x.leaf = false := by
  unfold pkgs at h
  obtain ⟨j, _, rfl⟩ := List.mem_map.1 h
  rfl
theorem lstH_perm (L : List Hi) (k : Nat) : (lstH L (k + 1)).Perm (L ++ pkgs (lstH L k)) := stSort_perm (stS_ok _)
theorem lstH_len (L : List Hi) (k : Nat) : (lstH L (k + 1)).length = L.length + (lstH L k).length / 2 := by
  rw [(lstH_perm L k).length_eq, List.length_append, pkgs_len]
theorem lstH_sorted {L : List Hi} (h : LfOk L) : ∀ k, KSorted Hi.w (lstH L k)
  | 0 => h.st
  | k + 1 => (stS_ok _).1
theorem pkg_pos {b : List Hi} (h : ∀ x ∈ b, 0 < x.w) {j : Nat} (hj : j < b.length / 2) : 0 < (pkg b j).w := by
  unfold pkg
  rw [List.getElem?_eq_getElem (show 2 * j < b.length by omega), List.getElem?_eq_getElem (show 2 * j + 1 < b.length by omega)]
  have h1 := h _ (List.getElem_mem (show 2 * j < b.length by omega))
  have h2 := h _ (List.getElem_mem (show 2 * j + 1 < b.length by omega))
  simp only [Option.getD_some]
  omega
theorem lstH_pos {L : List Hi} (h : LfOk L) : ∀ k, ∀ x ∈ lstH L k, 0 < x.w
  | 0 => h.pos
  | k + 1 => by
    intro x hx
    rcases List.mem_append.1 ((lstH_perm L k).mem_iff.1 hx) with hx | hx
    · exact h.pos x hx
    · unfold pkgs at hx
      obtain ⟨j, hj, rfl⟩ := List.mem_map.1 hx
      exact pkg_pos (lstH_pos h k) (List.mem_range.1 hj)
/-- a leaf stands in each list once -/
theorem lstH_count {L : List Hi} (h : LfOk L) {x : Hi} (hx : x ∈ L) : ∀ k, (lstH L k).count x = 1
  | 0 => nd_count h.nd hx
  | k + 1 => by
    rw [(lstH_perm L k).count_eq, List.count_append, nd_count h.nd hx, List.count_eq_zero_of_not_mem]
    intro hp
    have := pkgs_leaf hp
    rw [h.lf x hx] at this
    cases this
theorem lstH_leaf {L : List Hi} {k : Nat} {x : Hi} (hx : x ∈ lstH L k) (hl : x.leaf = true) : x ∈ L := by
  cases k with
  | zero => exact hx
  | succ k =>
    rcases List.mem_append.1 ((lstH_perm L k).mem_iff.1 hx) with hx | hx
    · exact hx
    · rw [pkgs_leaf hx] at hl; cases hl
theorem countP_le_of {α : Type} (p q : α → Bool) : ∀ l : List α, (∀ x ∈ l, p x = true → q x = true) → l.countP p ≤ l.countP q
  | [], _ => Nat.le_refl _
  | x :: l, h => by
    have ih := countP_le_of p q l fun y hy => h y (List.mem_cons_of_mem _ hy)
    rw [List.countP_cons, List.countP_cons]
    have := h x List.mem_cons_self
    by_cases hp : p x = true
    · rw [if_pos hp, if_pos (this hp)]; omega
    · rw [if_neg hp]; omega
/-- packages below the weight of package j are fewer than j -/
theorem pkgs_below {b : List Hi} (hs : KSorted Hi.w b) {j : Nat} (hj : j < b.length / 2) {c : Int} (hc : c < (pkg b j).w) : (pkgs b).countP (fun x => decide (x.w ≤ c)) ≤ j := by
  have hmono : ∀ i k : Nat, i ≤ k → k < b.length / 2 → (pkg b i).w ≤ (pkg b k).w := by
    intro i k hik hk
    have hg : ∀ a d : Nat, (had : a ≤ d) → (hd : d < b.length) → (b[a]'zO).w ≤ (b[d]'hd).w := by
      intro a d had hd
      rcases Nat.lt_or_eq_of_le had with h | h
      · exact (List.pairwise_iff_getElem.1 hs) a d zO hd h
      · subst h; exact Int.le_refl _
    unfold pkg
    rw [List.getElem?_eq_getElem (show 2 * i < b.length by omega), List.getElem?_eq_getElem (show 2 * i + 1 < b.length by omega), List.getElem?_eq_getElem (show 2 * k < b.length by omega), List.getElem?_eq_getElem (show 2 * k + 1 < b.length by omega)]
    simp only [Option.getD_some]
    have h1 := hg (2 * i) (2 * k) zO zO
    have h2 := hg (2 * i + 1) (2 * k + 1) zO zO
    omega
  unfold pkgs
  rw [List.countP_map]
  have hle : ∀ n, n ≤ b.length / 2 → (List.range n).countP ((fun x : Hi => decide (x.w ≤ c)) ∘ pkg b) ≤ j := by
    intro n
    induction n with
    | zero => intro _; simp
    | succ n ih =>
      intro hn
      rw [List.range_succ, List.countP_append]
      by_cases hnj : n < j
      · have : (List.range n).countP ((fun x : Hi => decide (x.w ≤ c)) ∘ pkg b) ≤ n := by
          have := List.countP_le_length (p := (fun x : Hi => decide (x.w ≤ c)) ∘ pkg b) (l := List.range n)
          rwa [List.length_range] at this
        have h1 : List.countP ((fun x : Hi => decide (x.w ≤ c)) ∘ pkg b) [n] ≤ 1 := by
          have := List.countP_le_length (p := (fun x : Hi => decide (x.w ≤ c)) ∘ pkg b) (l := [n])
          simpa using this
        omega
      · have := hmono j n zO zO
        have h0 : List.countP ((fun x : Hi => decide (x.w ≤ c)) ∘ pkg b) [n] = 0 := by
          rw [List.countP_eq_zero]
          intro a ha
          rw [List.mem_singleton] at ha
          subst ha
          simp
          omega
        have := ih zO
        omega
  exact hle _ (Nat.le_refl _)
/-- what is taken below is taken above -/
theorem taken_up {L : List Hi} (h : LfOk L) (k t : Nat) {x : Hi} (hx : x ∈ L) (hq : x ∈ (lstH L k).take (2 * pkN ((lstH L (k + 1)).take t))) : x ∈ (lstH L (k + 1)).take t := by
  apply Classical.byContradiction
  intro hn
  obtain ⟨q, hq1, hqx⟩ := List.getElem_of_mem hq
  rw [List.length_take] at hq1
  have hqb : q < (lstH L k).length := by omega
  rw [List.getElem_take] at hqx
  have hpn : q < 2 * pkN ((lstH L (k + 1)).take t) := by omega
  have hxM : x ∈ lstH L (k + 1) := (lstH_perm L k).mem_iff.2 (List.mem_append_left _ hx)
  have hxd : x ∈ (lstH L (k + 1)).drop t := by
    rw [← List.take_append_drop t (lstH L (k + 1))] at hxM
    rcases List.mem_append.1 hxM with h1 | h1
    · exact absurd h1 hn
    · exact h1
  have hsM := lstH_sorted h (k + 1)
  rw [← List.take_append_drop t (lstH L (k + 1))] at hsM
  have hle : ∀ y ∈ (lstH L (k + 1)).take t, y.w ≤ x.w := fun y hy => (List.pairwise_append.1 hsM).2.2 y hy x hxd
  have hpk : pkN ((lstH L (k + 1)).take t) ≤ (pkgs (lstH L k)).countP (fun y => decide (y.w ≤ x.w)) := by
    have h1 : pkN ((lstH L (k + 1)).take t) ≤ ((lstH L (k + 1)).take t).countP (fun y => !y.leaf && decide (y.w ≤ x.w)) := by
      refine countP_le_of _ _ _ fun y hy hp => ?_
      rw [hp]
      simpa using hle y hy
    have h2 : ((lstH L (k + 1)).take t).countP (fun y => !y.leaf && decide (y.w ≤ x.w)) ≤ (lstH L (k + 1)).countP (fun y => !y.leaf && decide (y.w ≤ x.w)) := (List.take_sublist _ _).countP_le
    have h3 : (lstH L (k + 1)).countP (fun y => !y.leaf && decide (y.w ≤ x.w)) = (L ++ pkgs (lstH L k)).countP (fun y => !y.leaf && decide (y.w ≤ x.w)) := (lstH_perm L k).countP_eq _
    have h4 : L.countP (fun y => !y.leaf && decide (y.w ≤ x.w)) = 0 := by
      rw [List.countP_eq_zero]
      intro y hy
      simp [h.lf y hy]
    have h5 : (pkgs (lstH L k)).countP (fun y => !y.leaf && decide (y.w ≤ x.w)) ≤ (pkgs (lstH L k)).countP (fun y => decide (y.w ≤ x.w)) := countP_le_of _ _ _ fun y _ hp => by
      simp only [Bool.and_eq_true] at hp
      exact hp.2
    rw [List.countP_append, h4] at h3
    omega
  have hjb : pkN ((lstH L (k + 1)).take t) ≤ (lstH L k).length / 2 := by
    have := List.countP_le_length (p := fun y : Hi => decide (y.w ≤ x.w)) (l := pkgs (lstH L k))
    rw [pkgs_len] at this
    omega
  have hj : q / 2 < (lstH L k).length / 2 := by omega
  have hw : x.w < (pkg (lstH L k) (q / 2)).w := by
    have hp := lstH_pos h k
    have e1 : 2 * (q / 2) < (lstH L k).length := by omega
    have e2 : 2 * (q / 2) + 1 < (lstH L k).length := by omega
    have p1 := hp _ (List.getElem_mem e1)
    have p2 := hp _ (List.getElem_mem e2)
    unfold pkg
    rw [List.getElem?_eq_getElem e1, List.getElem?_eq_getElem e2]
    simp only [Option.getD_some]
    rcases Nat.mod_two_eq_zero_or_one q with h0 | h0
    · have : (lstH L k)[2 * (q / 2)] = x := by rw [← hqx]; congr 1; omega
      rw [this]; omega
    · have : (lstH L k)[2 * (q / 2) + 1] = x := by rw [← hqx]; congr 1; omega
      rw [this]; omega
  have := pkgs_below (lstH_sorted h k) hj hw
  omega
theorem runH_length (L : List Hi) : ∀ k t, (runH L k t).length = k + 1
  | 0, _ => rfl
  | k + 1, t => by unfold runH; rw [List.length_cons, runH_length]
theorem pk_lf (l : List Hi) : lfN l + pkN l = l.length := by
  unfold lfN pkN
  have := List.length_eq_countP_add_countP Hi.leaf (l := l)
  rw [this]
  congr 1
  refine List.countP_congr fun x _ => ?_
  simp
theorem runH_val {L : List Hi} (h : LfOk L) : ∀ k t, t ≤ (lstH L k).length → valR lfN (runH L k t) = t * 2 ^ k
  | 0, t, ht => by
    have : lfN (L.take t) = t := by
      have h1 := pk_lf (L.take t)
      have h2 : pkN (L.take t) = 0 := by
        unfold pkN
        rw [List.countP_eq_zero]
        intro x hx
        simp [h.lf x (List.mem_of_mem_take hx)]
      have h3 : t ≤ L.length := ht
      rw [List.length_take] at h1
      omega
    simp [runH, valR, this]
  | k + 1, t, ht => by
    unfold runH valR
    have hp : pkN ((lstH L (k + 1)).take t) ≤ (lstH L k).length / 2 := by
      have h2 : pkN ((lstH L (k + 1)).take t) ≤ pkN (lstH L (k + 1)) := (List.take_sublist _ _).countP_le
      have h3 : pkN (lstH L (k + 1)) = pkN (L ++ pkgs (lstH L k)) := (lstH_perm L k).countP_eq _
      have h4 : pkN L = 0 := by
        unfold pkN
        rw [List.countP_eq_zero]
        intro x hx
        simp [h.lf x hx]
      have h5 : pkN (pkgs (lstH L k)) ≤ (pkgs (lstH L k)).length := List.countP_le_length
      rw [pkgs_len] at h5
      unfold pkN at h2 h3 h4 h5 ⊢
      rw [List.countP_append, h4] at h3
      omega
    rw [runH_val h k _ zO, runH_length]
    have := pk_lf ((lstH L (k + 1)).take t)
    rw [List.length_take, Nat.min_eq_left ht] at this
    clear hp
    revert this
    generalize lfN ((lstH L (k + 1)).take t) = A
    generalize pkN ((lstH L (k + 1)).take t) = B
    intro this
    rw [← this, Nat.pow_succ, Nat.add_mul]
    congr 1
    rw [Nat.mul_comm (2 ^ k) 2, ← Nat.mul_assoc, Nat.mul_comm B 2]
theorem runH_dec {L : List Hi} (h : LfOk L) {x : Hi} (hx : x ∈ L) : ∀ k t, (runH L k t).Pairwise (fun T T' => T'.count x ≤ T.count x) ∧ ∀ T ∈ runH L k t, T.count x ≤ ((lstH L k).take t).count x
  | 0, t => by simp [runH, lstH]
  | k + 1, t => by
    have ih := runH_dec h hx k (2 * pkN ((lstH L (k + 1)).take t))
    have hup : ((lstH L k).take (2 * pkN ((lstH L (k + 1)).take t))).count x ≤ ((lstH L (k + 1)).take t).count x := by
      by_cases hm : x ∈ (lstH L k).take (2 * pkN ((lstH L (k + 1)).take t))
      · have h1 := List.count_pos_iff.2 (taken_up h k t hx hm)
        have h2 : ((lstH L k).take (2 * pkN ((lstH L (k + 1)).take t))).count x ≤ (lstH L k).count x := (List.take_sublist _ _).count_le x
        rw [lstH_count h hx] at h2
        omega
      · rw [List.count_eq_zero_of_not_mem hm]; omega
    unfold runH
    refine ⟨List.pairwise_cons.2 ⟨fun T hT => Nat.le_trans (ih.2 T hT) hup, ih.1⟩, ?_⟩
    intro T hT
    rcases List.mem_cons.1 hT with rfl | hT
    · exact Nat.le_refl _
    · exact Nat.le_trans (ih.2 T hT) hup
theorem runH_le1 {L : List Hi} (h : LfOk L) {x : Hi} (hx : x ∈ L) (k t : Nat) : ∀ T ∈ runH L k t, T.count x ≤ 1 := by
  intro T hT
  have h1 := (runH_dec h hx k t).2 T hT
  have h2 : ((lstH L k).take t).count x ≤ (lstH L k).count x := (List.take_sublist _ _).count_le x
  rw [lstH_count h hx] at h2
  omega
theorem val_one (c : List Hi → Nat) : ∀ R : List (List Hi), (∀ T ∈ R, c T ≤ 1) → R.Pairwise (fun T T' => c T' ≤ c T) → sumR c R ≤ R.length ∧ valR c R + 2 ^ (R.length - sumR c R) = 2 ^ R.length
  | [], _, _ => by simp [sumR, valR]
  | T :: R, h1, h2 => by
    have hp := List.pairwise_cons.1 h2
    have ih := val_one c R (fun X hX => h1 X (List.mem_cons_of_mem _ hX)) hp.2
    have hT := h1 T List.mem_cons_self
    unfold sumR valR
    rw [List.length_cons]
    rcases Nat.lt_or_ge 0 (c T) with h0 | h0
    · have e : c T = 1 := by omega
      rw [e, show R.length + 1 - (1 + sumR c R) = R.length - sumR c R by omega, Nat.pow_succ]
      have := ih.1
      exact ⟨by omega, by have := ih.2; omega⟩
    · have hz : ∀ X ∈ R, c X = 0 := fun X hX => by have := hp.1 X hX; omega
      have hs : ∀ Q : List (List Hi), (∀ X ∈ Q, c X = 0) → sumR c Q = 0 ∧ valR c Q = 0 := by
        intro Q
        induction Q with
        | nil => intro _; exact ⟨rfl, rfl⟩
        | cons X Q ihq =>
          intro hq
          have := ihq fun Y hY => hq Y (List.mem_cons_of_mem _ hY)
          unfold sumR valR
          rw [this.1, this.2, hq X List.mem_cons_self]
          simp
      obtain ⟨s1, s2⟩ := hs R hz
      rw [s1, s2, show c T = 0 by omega]
      simp
theorem sumN_add {α : Type} (f g : α → Nat) : ∀ l : List α, sumN (fun x => f x + g x) l = sumN f l + sumN g l
  | [] => rfl
  | x :: l => by unfold sumN; rw [sumN_add f g l]; omega
theorem sumN_congr {α : Type} {f g : α → Nat} : ∀ l : List α, (∀ x ∈ l, f x = g x) → sumN f l = sumN g l
  | [], _ => rfl
  | x :: l, h => by unfold sumN; rw [h x List.mem_cons_self, sumN_congr l fun y hy => h y (List.mem_cons_of_mem _ hy)]
theorem sumN_mul {α : Type} (f : α → Nat) (c : Nat) : ∀ l : List α, sumN (fun x => f x * c) l = sumN f l * c
  | [] => by simp [sumN]
  | x :: l => by unfold sumN; rw [sumN_mul f c l, Nat.add_mul]
theorem sumN_const {α : Type} (c : Nat) : ∀ l : List α, sumN (fun _ => c) l = l.length * c
  | [] => by simp [sumN]
  | x :: l => by unfold sumN; rw [sumN_const c l, List.length_cons, Nat.succ_mul]; omega
theorem sumN_zero {α : Type} {f : α → Nat} : ∀ l : List α, (∀ x ∈ l, f x = 0) → sumN f l = 0
  | [], _ => rfl
  | x :: l, h => by unfold sumN; rw [h x List.mem_cons_self, sumN_zero l fun y hy => h y (List.mem_cons_of_mem _ hy)]
theorem sumN_one {L : List Hi} (hn : L.Nodup) (y : Hi) : sumN (fun x => if y = x then 1 else 0) L = L.count y := by
  induction L with
  | nil => rfl
  | cons z L ih =>
    unfold sumN
    rw [ih (List.nodup_cons.1 hn).2, List.count_cons]
    by_cases e : y = z
    · subst e; simp; omega
    · rw [if_neg e, if_neg (by simpa using fun h => e h.symm)]; omega
theorem sumN_count {L : List Hi} (h : LfOk L) : ∀ T : List Hi, (∀ y ∈ T, y.leaf = true → y ∈ L) → sumN (fun x => T.count x) L = lfN T
  | [], _ => by rw [sumN_zero L fun x _ => by simp]; rfl
  | y :: T, hT => by
    have ih := sumN_count h T fun z hz => hT z (List.mem_cons_of_mem _ hz)
    have e : sumN (fun x => (y :: T).count x) L = sumN (fun x => T.count x + (if y = x then 1 else 0)) L := sumN_congr L fun x _ => by
      rw [List.count_cons]
      by_cases e : y = x <;> simp [e]
    rw [e, sumN_add, ih, sumN_one h.nd]
    unfold lfN
    rw [List.countP_cons]
    by_cases hl : y.leaf = true
    · rw [nd_count h.nd (hT y List.mem_cons_self hl), if_pos hl]
    · rw [if_neg hl, List.count_eq_zero_of_not_mem fun hy => hl (h.lf y hy)]
theorem sumN_val {L : List Hi} (h : LfOk L) : ∀ R : List (List Hi), (∀ T ∈ R, ∀ y ∈ T, y.leaf = true → y ∈ L) → sumN (fun x => valR (fun T => T.count x) R) L = valR lfN R
  | [], _ => by unfold valR; exact sumN_zero L fun _ _ => rfl
  | T :: R, hR => by
    unfold valR
    rw [sumN_add, sumN_mul, sumN_count h T (hR T List.mem_cons_self), sumN_val h R fun X hX => hR X (List.mem_cons_of_mem _ hX)]
theorem runH_leaf {L : List Hi} : ∀ k t, ∀ T ∈ runH L k t, ∀ y ∈ T, y.leaf = true → y ∈ L
  | 0, t => by
    intro T hT y hy _
    rw [runH, List.mem_singleton] at hT
    subst hT
    exact List.mem_of_mem_take hy
  | k + 1, t => by
    intro T hT y hy hl
    rcases List.mem_cons.1 hT with rfl | hT
    · exact lstH_leaf (List.mem_of_mem_take hy) hl
    · exact runH_leaf k _ T hT y hy hl
/-- the length of a leaf's code -/
def lenH (L : List Hi) (k : Nat) (x : Hi) : Nat := sumR (fun T => T.count x) (runH L k (2 * L.length - 2))
theorem lenH_le {L : List Hi} (h : LfOk L) (k : Nat) {x : Hi} (hx : x ∈ L) : lenH L k x ≤ k + 1 := by
  have := (val_one (fun T => T.count x) _ (runH_le1 h hx k _) (runH_dec h hx k (2 * L.length - 2)).1).1
  rwa [runH_length] at this
theorem lstH_long (L : List Hi) : ∀ k, 2 * L.length ≤ (lstH L k).length + 1 + L.length / 2 ^ k
  | 0 => by simp [lstH]; omega
  | k + 1 => by
    have := lstH_long L k
    rw [lstH_len, Nat.pow_succ, ← Nat.div_div_eq_div_mul]
    generalize L.length / 2 ^ k = q at this ⊢
    omega
/-- the sum of Kraft -/
theorem kraft {L : List Hi} (h : LfOk L) (k : Nat) (hm : 2 ≤ L.length) (hk : L.length < 2 ^ k) : sumN (fun x => 2 ^ (k + 1 - lenH L k x)) L = 2 ^ (k + 1) := by
  have hlong := lstH_long L k
  rw [Nat.div_eq_of_lt hk] at hlong
  have hv := runH_val h k (2 * L.length - 2) zO
  have h1 := sumN_val h (runH L k (2 * L.length - 2)) (runH_leaf k _)
  have h2 : sumN (fun x => valR (fun T => T.count x) (runH L k (2 * L.length - 2)) + 2 ^ (k + 1 - lenH L k x)) L = sumN (fun _ => 2 ^ (k + 1)) L := sumN_congr L fun x hx => by
    have := (val_one (fun T => T.count x) _ (runH_le1 h hx k _) (runH_dec h hx k (2 * L.length - 2)).1).2
    rwa [runH_length] at this
  rw [sumN_add, h1, hv, sumN_const] at h2
  generalize sumN (fun x => 2 ^ (k + 1 - lenH L k x)) L = S at h2 ⊢
  obtain ⟨n, hn⟩ : ∃ n, L.length = n + 2 := ⟨L.length - 2, by omega⟩
  rw [hn] at h2
  have e : (2 * (n + 2) - 2) * 2 ^ k = (n + 1) * 2 ^ (k + 1) := by
    rw [Nat.pow_succ, Nat.mul_comm (2 ^ k) 2, ← Nat.mul_assoc]
    congr 1
    omega
  rw [e, show n + 2 = (n + 1) + 1 from rfl, Nat.add_mul (n + 1) 1, Nat.one_mul] at h2
  omega
theorem sumN_big {f : Hi → Nat} {L : List Hi} (hf : ∀ x ∈ L, 1 ≤ f x) {x : Hi} (hx : x ∈ L) : f x + L.length ≤ sumN f L + 1 := by
  induction L with
  | nil => cases hx
  | cons y L ih =>
    unfold sumN
    rw [List.length_cons]
    have hlen : ∀ Q : List Hi, (∀ z ∈ Q, 1 ≤ f z) → Q.length ≤ sumN f Q := by
      intro Q
      induction Q with
      | nil => intro _; exact Nat.zero_le _
      | cons z Q ihq =>
        intro hq
        unfold sumN
        have := ihq fun w hw => hq w (List.mem_cons_of_mem _ hw)
        have := hq z List.mem_cons_self
        rw [List.length_cons]; omega
    rcases List.mem_cons.1 hx with e | hx
    · subst e
      have := hlen L fun z hz => hf z (List.mem_cons_of_mem _ hz)
      omega
    · have := ih (fun z hz => hf z (List.mem_cons_of_mem _ hz)) hx
      have := hf y List.mem_cons_self
      omega
theorem lenH_pos {L : List Hi} (h : LfOk L) (k : Nat) (hm : 2 ≤ L.length) (hk : L.length < 2 ^ k) {x : Hi} (hx : x ∈ L) : 1 ≤ lenH L k x := by
  have hK := kraft h k hm hk
  have := sumN_big (f := fun x => 2 ^ (k + 1 - lenH L k x)) (fun y _ => Nat.one_le_two_pow) hx
  rw [hK] at this
  rcases Nat.lt_or_ge 0 (lenH L k x) with h0 | h0
  · exact h0
  · rw [show lenH L k x = 0 by omega] at this
    simp at this
    omega
end Go.Proofs.YtecogbhbkccblaaGreatDoor
namespace Go.Proofs.YtecogbhbkccblaaGreatDoor

/-- the parts of 2^15 that the first k codes take -/
def sqQ (q : Nat → Nat) : Nat → Nat
  | 0 => 0
  | k + 1 => sqQ q k + 2 ^ (15 - q k)
/-- lengths in order whose codes have room -/
structure Can (q : Nat → Nat) (n : Nat) : Prop where
  mono : ∀ i j, i ≤ j → j < n → q i ≤ q j
  pos : ∀ i, i < n → 1 ≤ q i
  top : ∀ i, i < n → q i ≤ 15
  kr : sqQ q n ≤ 2 ^ 15
def cdQ (q : Nat → Nat) (k : Nat) : Nat := sqQ q k / 2 ^ (15 - q k)

theorem sqQ_mono (q : Nat → Nat) {a b : Nat} (h : a ≤ b) : sqQ q a ≤ sqQ q b := by
  induction h with
  | refl => exact Nat.le_refl _
  | step _ ih => exact Nat.le_trans ih (Nat.le_add_right _ _)
theorem sqQ_dvd {q : Nat → Nat} {n : Nat} (h : Can q n) {k : Nat} (hk : k < n) : 2 ^ (15 - q k) ∣ sqQ q k := by
  have : ∀ m, m ≤ k → 2 ^ (15 - q k) ∣ sqQ q m := by
    intro m
    induction m with
    | zero => intro _; exact Nat.dvd_zero _
    | succ m ih =>
      intro hm
      refine Nat.dvd_add (ih zO) (Nat.pow_dvd_pow 2 ?_)
      have := h.mono m k zO hk
      omega
  exact this k (Nat.le_refl _)
theorem cdQ_mul {q : Nat → Nat} {n : Nat} (h : Can q n) {k : Nat} (hk : k < n) : cdQ q k * 2 ^ (15 - q k) = sqQ q k := Nat.div_mul_cancel (sqQ_dvd h hk)
theorem cdQ_step {q : Nat → Nat} {n : Nat} (h : Can q n) {k : Nat} (hk : k + 1 < n) : cdQ q (k + 1) = (cdQ q k + 1) * 2 ^ (q (k + 1) - q k) := by
  have h1 := cdQ_mul h hk
  have h2 := cdQ_mul h (show k < n by omega)
  have hm := h.mono k (k + 1) zO hk
  have ht := h.top (k + 1) hk
  have e : 2 ^ (15 - q k) = 2 ^ (q (k + 1) - q k) * 2 ^ (15 - q (k + 1)) := by rw [← Nat.pow_add]; congr 1; omega
  have : cdQ q (k + 1) * 2 ^ (15 - q (k + 1)) = (cdQ q k + 1) * 2 ^ (q (k + 1) - q k) * 2 ^ (15 - q (k + 1)) := by
    rw [h1, Nat.mul_assoc, ← e, Nat.add_mul, h2, Nat.one_mul]; rfl
  exact Nat.eq_of_mul_eq_mul_right (Nat.two_pow_pos _) this
theorem cdQ_pre {q : Nat → Nat} {n : Nat} (h : Can q n) {j k : Nat} (hj : j < k) (hk : k < n) : (cdQ q j + 1) * 2 ^ (q k - q j) ≤ cdQ q k := by
  have h1 := cdQ_mul h hk
  have h2 := cdQ_mul h (show j < n by omega)
  have hm := h.mono j k zO hk
  have ht := h.top k hk
  have e : 2 ^ (15 - q j) = 2 ^ (q k - q j) * 2 ^ (15 - q k) := by rw [← Nat.pow_add]; congr 1; omega
  have hs : sqQ q (j + 1) ≤ sqQ q k := sqQ_mono q hj
  have : (cdQ q j + 1) * 2 ^ (q k - q j) * 2 ^ (15 - q k) ≤ cdQ q k * 2 ^ (15 - q k) := by
    rw [h1, Nat.mul_assoc, ← e, Nat.add_mul, h2, Nat.one_mul]; exact hs
  exact Nat.le_of_mul_le_mul_right this (Nat.two_pow_pos _)
theorem cdQ_lt {q : Nat → Nat} {n : Nat} (h : Can q n) {k : Nat} (hk : k < n) : cdQ q k < 2 ^ q k := by
  have h2 := cdQ_mul h hk
  have ht := h.top k hk
  have hs : sqQ q (k + 1) ≤ 2 ^ 15 := Nat.le_trans (sqQ_mono q hk) h.kr
  have e : 2 ^ 15 = 2 ^ q k * 2 ^ (15 - q k) := by rw [← Nat.pow_add]; congr 1; omega
  have : (cdQ q k + 1) * 2 ^ (15 - q k) ≤ 2 ^ q k * 2 ^ (15 - q k) := by
    rw [← e, Nat.add_mul, h2, Nat.one_mul]; exact hs
  exact Nat.le_of_mul_le_mul_right this (Nat.two_pow_pos _)
/-- within one length the codes are one behind the other -/
theorem cdQ_same {q : Nat → Nat} {n : Nat} (h : Can q n) {j : Nat} : ∀ d, j + d < n → q j = q (j + d) → cdQ q (j + d) = cdQ q j + d
  | 0, _, _ => rfl
  | d + 1, hd, he => by
    have h1 := h.mono j (j + d) zO zO
    have h2 := h.mono (j + d) (j + (d + 1)) zO hd
    have hjd := h.mono j (j + d) zO zO
    have ih := cdQ_same (j := j) h d zO zO
    have hs := cdQ_step h (k := j + d) hd
    rw [show j + (d + 1) = (j + d) + 1 by omega, hs, show q (j + d + 1) - q (j + d) = 0 by rw [show j + d + 1 = j + (d + 1) by omega]; omega, ih]
    simp
    omega
/-- the first p bits of a code are no code of length p -/
theorem cdQ_no {q : Nat → Nat} {n : Nat} (h : Can q n) {k i : Nat} (hk : k < n) (hi : i < n) (hq : q i < q k) : cdQ q i ≠ cdQ q k / 2 ^ (q k - q i) := by
  intro e
  have hik : i < k := by
    rcases Nat.lt_or_ge i k with h1 | h1
    · exact h1
    · have := h.mono k i h1 hi; omega
  have h1 := cdQ_pre h hik hk
  have h2 : cdQ q k < (cdQ q k / 2 ^ (q k - q i) + 1) * 2 ^ (q k - q i) := by
    have := Nat.lt_div_mul_add (a := cdQ q k) (Nat.two_pow_pos (q k - q i))
    rw [Nat.add_mul, Nat.one_mul]
    exact this
  rw [← e] at h2
  omega
end Go.Proofs.YtecogbhbkccblaaGreatDoor
namespace Go.Proofs.YtecogbhbkccblaaGreatDoor

theorem seg {α : Type} {key : α → Int} (n : Int) : ∀ {l : List α}, KSorted key l → l = l.filter (fun a => decide (key a < n)) ++ (l.filter (fun a => decide (key a = n)) ++ l.filter (fun a => decide (n < key a)))
  | [], _ => rfl
  | a :: l, h => by
    have h' := List.pairwise_cons.1 h
    have ih := seg n h'.2
    rcases Int.lt_trichotomy (key a) n with h1 | h1 | h1
    · rw [List.filter_cons_of_pos (by simpa using h1), List.filter_cons_of_neg (by simp; omega), List.filter_cons_of_neg (by simp; omega), List.cons_append, ← ih]
    · have h0 : l.filter (fun a => decide (key a < n)) = [] := List.filter_eq_nil_iff.2 fun b hb => by have := h'.1 b hb; simp; omega
      rw [List.filter_cons_of_neg (by simp; omega), List.filter_cons_of_pos (by simpa using h1), List.filter_cons_of_neg (by simp; omega), h0, List.nil_append, List.cons_append]
      rw [h0, List.nil_append] at ih
      rw [← ih]
    · have h0 : l.filter (fun a => decide (key a < n)) = [] := List.filter_eq_nil_iff.2 fun b hb => by have := h'.1 b hb; simp; omega
      have h2 : l.filter (fun a => decide (key a = n)) = [] := List.filter_eq_nil_iff.2 fun b hb => by have := h'.1 b hb; simp; omega
      rw [List.filter_cons_of_neg (by simp; omega), List.filter_cons_of_neg (by simp; omega), List.filter_cons_of_pos (by simpa using h1), h0, h2, List.nil_append, List.nil_append]
      rw [h0, h2, List.nil_append, List.nil_append] at ih
      rw [← ih]

/-- symbols in the order of their lengths -/
structure Ord (f : Nat → Nat) (o : List Nat) : Prop where
  st : KSorted (fun s => (f s : Int)) o
  can : Can (fun k => f (o[k]?.getD 0)) o.length
/-- the code at a place -/
def cdO (f : Nat → Nat) (o : List Nat) (k : Nat) : Nat := cdQ (fun k => f (o[k]?.getD 0)) k
/-- the symbols of one length -/
def syO (f : Nat → Nat) (o : List Nat) (n : Nat) : List Nat := o.filter fun s => decide (f s = n)
/-- how many are shorter -/
def loO (f : Nat → Nat) (o : List Nat) (n : Nat) : Nat := (o.filter fun s => decide (f s < n)).length
/-- the first code of one length -/
def fiO (f : Nat → Nat) (o : List Nat) (n : Nat) : Nat := if (syO f o n).length = 0 then 0 else cdO f o (loO f o n)

theorem ord_seg {f : Nat → Nat} {o : List Nat} (h : Ord f o) (n : Nat) : ∃ C, o = (o.filter fun s => decide (f s < n)) ++ (syO f o n ++ C) ∧ ∀ s ∈ C, n < f s := by
  refine ⟨o.filter fun s => decide ((n : Int) < f s), ?_, fun s hs => by have := (List.mem_filter.1 hs).2; simp at this; exact this⟩
  have := seg (n : Int) h.st
  unfold syO
  have e1 : (o.filter fun s => decide (f s < n)) = o.filter fun s => decide ((f s : Int) < (n : Int)) := List.filter_congr fun s _ => by simp
  have e2 : (o.filter fun s => decide (f s = n)) = o.filter fun s => decide ((f s : Int) = (n : Int)) := List.filter_congr fun s _ => by rw [decide_eq_decide]; omega
  rw [e1, e2]
  exact this
theorem sy_get {f : Nat → Nat} {o : List Nat} (h : Ord f o) (n : Nat) {t : Nat} (ht : t < (syO f o n).length) : (syO f o n)[t]? = o[loO f o n + t]? ∧ loO f o n + t < o.length ∧ f (o[loO f o n + t]?.getD 0) = n := by
  obtain ⟨C, e, _⟩ := ord_seg h n
  have e1 : o[loO f o n + t]? = (syO f o n)[t]? := by
    have : o[loO f o n + t]? = ((o.filter fun s => decide (f s < n)) ++ (syO f o n ++ C))[loO f o n + t]? := by rw [← e]
    rw [this, List.getElem?_append_right (by unfold loO; omega)]
    unfold loO
    rw [Nat.add_sub_cancel_left, List.getElem?_append_left ht]
  have e2 : loO f o n + t < o.length := by
    have := congrArg List.length e
    rw [List.length_append, List.length_append] at this
    unfold loO
    omega
  refine ⟨e1.symm, e2, ?_⟩
  rw [e1, List.getElem?_eq_getElem ht]
  have := (List.mem_filter.1 (List.getElem_mem ht)).2
  simpa using this
/-- where a symbol stands -/
theorem sy_pos {f : Nat → Nat} {o : List Nat} (h : Ord f o) {k : Nat} (hk : k < o.length) : loO f o (f (o[k]?.getD 0)) ≤ k ∧ k - loO f o (f (o[k]?.getD 0)) < (syO f o (f (o[k]?.getD 0))).length := by
  generalize hn : f (o[k]?.getD 0) = n
  obtain ⟨C, e, hC⟩ := ord_seg h n
  have hlen := congrArg List.length e
  rw [List.length_append, List.length_append] at hlen
  have hA : ∀ i, i < loO f o n → f (o[i]?.getD 0) < n := by
    intro i hi
    have : o[i]? = (o.filter fun s => decide (f s < n))[i]? := by
      have : o[i]? = ((o.filter fun s => decide (f s < n)) ++ (syO f o n ++ C))[i]? := by rw [← e]
      rw [this, List.getElem?_append_left hi]
    rw [this, List.getElem?_eq_getElem hi]
    have := (List.mem_filter.1 (List.getElem_mem hi)).2
    simpa using this
  have hB : ∀ i, loO f o n + (syO f o n).length ≤ i → i < o.length → n < f (o[i]?.getD 0) := by
    intro i hi hi2
    have h1 : i - loO f o n - (syO f o n).length < C.length := by unfold loO at hi ⊢; omega
    have : o[i]? = C[i - loO f o n - (syO f o n).length]? := by
      have : o[i]? = ((o.filter fun s => decide (f s < n)) ++ (syO f o n ++ C))[i]? := by rw [← e]
      rw [this, List.getElem?_append_right (by unfold loO at hi; omega), List.getElem?_append_right (by unfold loO at hi; omega)]
      rfl
    rw [this, List.getElem?_eq_getElem h1]
    exact hC _ (List.getElem_mem h1)
  constructor
  · rcases Nat.lt_or_ge k (loO f o n) with h1 | h1
    · have := hA k h1; omega
    · exact h1
  · rcases Nat.lt_or_ge (k - loO f o n) (syO f o n).length with h1 | h1
    · exact h1
    · rcases Nat.lt_or_ge k (loO f o n) with h2 | h2
      · have := hA k h2; omega
      · have := hB k zO hk; omega
theorem cd_sy {f : Nat → Nat} {o : List Nat} (h : Ord f o) (n : Nat) {t : Nat} (ht : t < (syO f o n).length) : cdO f o (loO f o n + t) = fiO f o n + t := by
  unfold fiO
  rw [if_neg zO]
  have h1 := sy_get h n ht
  have h0 := sy_get h n (t := 0) zO
  unfold cdO
  refine cdQ_same h.can t h1.2.1 ?_
  rw [h1.2.2]
  exact h0.2.2
/-- a whole code is read -/
theorem read_at {f : Nat → Nat} {o : List Nat} (h : Ord f o) {k : Nat} (hk : k < o.length) {n : Nat} (hn : f (o[k]?.getD 0) = n) :
    fiO f o n ≤ cdO f o k ∧ cdO f o k - fiO f o n < (syO f o n).length ∧ (syO f o n)[cdO f o k - fiO f o n]? = o[k]? := by
  have hp := sy_pos h hk
  rw [hn] at hp
  have hc := cd_sy h n hp.2
  rw [show loO f o n + (k - loO f o n) = k by omega] at hc
  rw [hc, Nat.add_sub_cancel_left]
  have hg := (sy_get h n hp.2).1
  rw [show loO f o n + (k - loO f o n) = k by omega] at hg
  exact ⟨by omega, hp.2, hg⟩
/-- a beginning of a code is not read as one -/
theorem read_no {f : Nat → Nat} {o : List Nat} (h : Ord f o) {k : Nat} (hk : k < o.length) {p : Nat} (hp : p < f (o[k]?.getD 0)) :
    ¬ (fiO f o p ≤ cdO f o k / 2 ^ (f (o[k]?.getD 0) - p) ∧ cdO f o k / 2 ^ (f (o[k]?.getD 0) - p) - fiO f o p < (syO f o p).length) := by
  rintro ⟨h1, h2⟩
  have hc := cd_sy h p h2
  have hg := sy_get h p h2
  rw [show fiO f o p + (cdO f o k / 2 ^ (f (o[k]?.getD 0) - p) - fiO f o p) = cdO f o k / 2 ^ (f (o[k]?.getD 0) - p) by omega] at hc
  have := cdQ_no h.can hk hg.2.1 (by rw [hg.2.2]; exact hp)
  rw [hg.2.2] at this
  exact this hc
/-- each beginning of a code is known as one -/
theorem read_begins {f : Nat → Nat} {o : List Nat} (h : Ord f o) {k : Nat} (hk : k < o.length) {n : Nat} (hn : f (o[k]?.getD 0) = n) (p : Nat) :
    0 < (syO f o n).length ∧ cdO f o k / 2 ^ (n - p) ≤ (fiO f o n + (syO f o n).length - 1) / 2 ^ (n - p) ∧ fiO f o n / 2 ^ (n - p) ≤ cdO f o k / 2 ^ (n - p) := by
  obtain ⟨h1, h2, _⟩ := read_at h hk hn
  exact ⟨by omega, Nat.div_le_div_right zO, Nat.div_le_div_right h1⟩
theorem cdO_lt {f : Nat → Nat} {o : List Nat} (h : Ord f o) {k : Nat} (hk : k < o.length) : cdO f o k < 2 ^ f (o[k]?.getD 0) := cdQ_lt h.can hk
end Go.Proofs.YtecogbhbkccblaaGreatDoor
namespace Go.Proofs.YtecogbhbkccblaaGreatDoor

/-- a byte of eight bits -/
def byB (b0 b1 b2 b3 b4 b5 b6 b7 : Bool) : Nat := b0.toNat * 128 + b1.toNat * 64 + b2.toNat * 32 + b3.toNat * 16 + b4.toNat * 8 + b5.toNat * 4 + b6.toNat * 2 + b7.toNat
def gB (bs : List Bool) (i : Nat) : Bool := bs[i]?.getD false
/-- byte i of a list of bits, filled up with zeros -/
def byteB (bs : List Bool) (i : Nat) : Nat := byB (gB bs (8 * i + 0)) (gB bs (8 * i + 1)) (gB bs (8 * i + 2)) (gB bs (8 * i + 3)) (gB bs (8 * i + 4)) (gB bs (8 * i + 5)) (gB bs (8 * i + 6)) (gB bs (8 * i + 7))
def packB (bs : List Bool) : List Nat := (List.range ((bs.length + 7) / 8)).map (byteB bs)

theorem byB_lt (b0 b1 b2 b3 b4 b5 b6 b7 : Bool) : byB b0 b1 b2 b3 b4 b5 b6 b7 < 256 := by
  cases b0 <;> cases b1 <;> cases b2 <;> cases b3 <;> cases b4 <;> cases b5 <;> cases b6 <;> cases b7 <;> decide
theorem byB_bit (b : Fin 8 → Bool) : ∀ j : Fin 8, (byB (b 0) (b 1) (b 2) (b 3) (b 4) (b 5) (b 6) (b 7) >>> (7 - j.val)) % 2 = (b j).toNat := by
  generalize e0 : b 0 = b0
  generalize e1 : b 1 = b1
  generalize e2 : b 2 = b2
  generalize e3 : b 3 = b3
  generalize e4 : b 4 = b4
  generalize e5 : b 5 = b5
  generalize e6 : b 6 = b6
  generalize e7 : b 7 = b7
  intro j
  have key : ∀ j : Fin 8, (byB b0 b1 b2 b3 b4 b5 b6 b7 >>> (7 - j.val)) % 2 = ([b0, b1, b2, b3, b4, b5, b6, b7][j.val]?.getD false).toNat := by
    revert b0 b1 b2 b3 b4 b5 b6 b7
    intro b0 _ b1 _ b2 _ b3 _ b4 _ b5 _ b6 _ b7 _
    cases b0 <;> cases b1 <;> cases b2 <;> cases b3 <;> cases b4 <;> cases b5 <;> cases b6 <;> cases b7 <;> decide
  rw [key]
  match j with
  | 0 => rw [← e0]; rfl
  | 1 => rw [← e1]; rfl
  | 2 => rw [← e2]; rfl
  | 3 => rw [← e3]; rfl
  | 4 => rw [← e4]; rfl
  | 5 => rw [← e5]; rfl
  | 6 => rw [← e6]; rfl
  | 7 => rw [← e7]; rfl
theorem packB_len (bs : List Bool) : (packB bs).length = (bs.length + 7) / 8 := by unfold packB; simp
theorem packB_get {bs : List Bool} {i : Nat} (h : i < (bs.length + 7) / 8) : (packB bs)[i]? = some (byteB bs i) := by
  unfold packB
  rw [List.getElem?_map, List.getElem?_range h]
  rfl
theorem byteB_lt (bs : List Bool) (i : Nat) : byteB bs i < 256 := byB_lt _ _ _ _ _ _ _ _
theorem packB_lt {bs : List Bool} {x : Nat} (h : x ∈ packB bs) : x < 256 := by
  unfold packB at h
  obtain ⟨i, _, rfl⟩ := List.mem_map.1 h
  exact byteB_lt bs i
/-- a bit of a byte -/
theorem byteB_bit (bs : List Bool) (at_ : Nat) : (byteB bs (at_ / 8) >>> (7 - at_ % 8)) % 2 = (gB bs at_).toNat := by
  have h := byB_bit (fun j => gB bs (8 * (at_ / 8) + j.val)) ⟨at_ % 8, Nat.mod_lt _ zD⟩
  dsimp only at h
  rw [show 8 * (at_ / 8) + at_ % 8 = at_ by omega] at h
  exact h
/-- one more bit -/
theorem byteB_old {bs : List Bool} {x : Bool} {i : Nat} (h : i ≠ bs.length / 8) : byteB (bs ++ [x]) i = byteB bs i := by
  have e : ∀ j, j < 8 → gB (bs ++ [x]) (8 * i + j) = gB bs (8 * i + j) := by
    intro j hj
    unfold gB
    rcases Nat.lt_or_ge (8 * i + j) bs.length with h1 | h1
    · rw [List.getElem?_append_left h1]
    · rw [List.getElem?_append_right h1, List.getElem?_eq_none (show [x].length ≤ 8 * i + j - bs.length by simp; omega), List.getElem?_eq_none h1]
  unfold byteB
  rw [e 0 zO, e 1 zO, e 2 zO, e 3 zO, e 4 zO, e 5 zO, e 6 zO, e 7 zO]
theorem gB_new {bs : List Bool} {x : Bool} (i : Nat) : gB (bs ++ [x]) i = if i = bs.length then x else gB bs i := by
  unfold gB
  rcases Nat.lt_trichotomy i bs.length with h1 | h1 | h1
  · rw [List.getElem?_append_left h1, if_neg zO]
  · subst h1; rw [List.getElem?_append_right (Nat.le_refl _), if_pos rfl]; simp
  · rw [List.getElem?_append_right zO, List.getElem?_eq_none (show [x].length ≤ i - bs.length by simp; omega), List.getElem?_eq_none zO, if_neg zO]
theorem gB_over {bs : List Bool} {i : Nat} (h : bs.length ≤ i) : gB bs i = false := by unfold gB; rw [List.getElem?_eq_none h]; rfl
theorem byteB_new (bs : List Bool) (x : Bool) : byteB (bs ++ [x]) (bs.length / 8) = if x = true then byteB bs (bs.length / 8) ||| (128 >>> (bs.length % 8)) else byteB bs (bs.length / 8) := by
  obtain ⟨n, m, hn, hm⟩ : ∃ n m, bs.length = 8 * n + m ∧ m < 8 := ⟨bs.length / 8, bs.length % 8, by omega, by omega⟩
  have hd : bs.length / 8 = n := by omega
  have hr : bs.length % 8 = m := by omega
  rw [hd, hr]
  unfold byteB
  rw [gB_new, gB_new, gB_new, gB_new, gB_new, gB_new, gB_new, gB_new, hn]
  have z : ∀ j k : Nat, (8 * n + j = 8 * n + k) = (j = k) := fun j k => propext zO
  have ho : ∀ j, m ≤ j → gB bs (8 * n + j) = false := fun j hj => gB_over zO
  rcases (show m = 0 ∨ m = 1 ∨ m = 2 ∨ m = 3 ∨ m = 4 ∨ m = 5 ∨ m = 6 ∨ m = 7 by omega) with h | h | h | h | h | h | h | h <;> subst h
  · rw [ho 0 zD, ho 1 zD, ho 2 zD, ho 3 zD, ho 4 zD, ho 5 zD, ho 6 zD, ho 7 zD]
    simp only [z]
    revert x
    decide
  · rw [ho 1 zD, ho 2 zD, ho 3 zD, ho 4 zD, ho 5 zD, ho 6 zD, ho 7 zD]
    simp only [z]
    generalize gB bs (8 * n + 0) = a0
    revert x a0
    decide
  · rw [ho 2 zD, ho 3 zD, ho 4 zD, ho 5 zD, ho 6 zD, ho 7 zD]
    simp only [z]
    generalize gB bs (8 * n + 0) = a0
    generalize gB bs (8 * n + 1) = a1
    revert x a0 a1
    decide
  · rw [ho 3 zD, ho 4 zD, ho 5 zD, ho 6 zD, ho 7 zD]
    simp only [z]
    generalize gB bs (8 * n + 0) = a0
    generalize gB bs (8 * n + 1) = a1
    generalize gB bs (8 * n + 2) = a2
    revert x a0 a1 a2
    decide
  · rw [ho 4 zD, ho 5 zD, ho 6 zD, ho 7 zD]
    simp only [z]
    generalize gB bs (8 * n + 0) = a0
    generalize gB bs (8 * n + 1) = a1
    generalize gB bs (8 * n + 2) = a2
    generalize gB bs (8 * n + 3) = a3
    revert x a0 a1 a2 a3
    decide
  · rw [ho 5 zD, ho 6 zD, ho 7 zD]
    simp only [z]
    generalize gB bs (8 * n + 0) = a0
    generalize gB bs (8 * n + 1) = a1
    generalize gB bs (8 * n + 2) = a2
    generalize gB bs (8 * n + 3) = a3
    generalize gB bs (8 * n + 4) = a4
    revert x a0 a1 a2 a3 a4
    decide
  · rw [ho 6 zD, ho 7 zD]
    simp only [z]
    generalize gB bs (8 * n + 0) = a0
    generalize gB bs (8 * n + 1) = a1
    generalize gB bs (8 * n + 2) = a2
    generalize gB bs (8 * n + 3) = a3
    generalize gB bs (8 * n + 4) = a4
    generalize gB bs (8 * n + 5) = a5
    revert x a0 a1 a2 a3 a4 a5
    decide
  · rw [ho 7 zD]
    simp only [z]
    generalize gB bs (8 * n + 0) = a0
    generalize gB bs (8 * n + 1) = a1
    generalize gB bs (8 * n + 2) = a2
    generalize gB bs (8 * n + 3) = a3
    generalize gB bs (8 * n + 4) = a4
    generalize gB bs (8 * n + 5) = a5
    generalize gB bs (8 * n + 6) = a6
    revert x a0 a1 a2 a3 a4 a5 a6
    decide
end Go.Proofs.YtecogbhbkccblaaGreatDoor
namespace Go.Proofs.YtecogbhbkccblaaGreatDoor

/-- the lowest n bits of v, the highest first -/
def bitsOf (v n : Nat) : List Bool := (List.range n).map fun i => v.testBit (n - 1 - i)
theorem bitsOf_len (v n : Nat) : (bitsOf v n).length = n := by unfold bitsOf; simp
theorem bitsOf_get {v n i : Nat} (h : i < n) : (bitsOf v n)[i]? = some (v.testBit (n - 1 - i)) := by
  unfold bitsOf
  rw [List.getElem?_map, List.getElem?_range h]
  rfl
def gammaB (v : Nat) : List Bool := List.replicate v.log2 false ++ bitsOf v (v.log2 + 1)
def deltaB (v : Nat) : List Bool := gammaB (v.log2 + 1) ++ bitsOf v v.log2
theorem gammaB_len (v : Nat) : (gammaB v).length = 2 * v.log2 + 1 := by unfold gammaB; rw [List.length_append, List.length_replicate, bitsOf_len]; omega
theorem deltaB_len (v : Nat) : (deltaB v).length = 2 * (v.log2 + 1).log2 + 1 + v.log2 := by unfold deltaB; rw [List.length_append, gammaB_len, bitsOf_len]
theorem gammaB_zero {v i : Nat} (h : i < v.log2) : (gammaB v)[i]? = some false := by
  unfold gammaB
  rw [List.getElem?_append_left (by rw [List.length_replicate]; exact h), List.getElem?_replicate, if_pos h]
theorem gammaB_one {v : Nat} (hv : v ≠ 0) : (gammaB v)[v.log2]? = some true := by
  unfold gammaB
  rw [List.getElem?_append_right (by rw [List.length_replicate]; exact Nat.le_refl _), List.length_replicate, Nat.sub_self, bitsOf_get zO]
  congr 1
  rw [show v.log2 + 1 - 1 - 0 = v.log2 by omega]
  exact Nat.testBit_log2 hv
theorem top_log2 {v : Nat} (hv : v ≠ 0) : 2 ^ v.log2 + v % 2 ^ v.log2 = v := by
  have h1 := Nat.log2_self_le hv
  have h2 : v < 2 ^ (v.log2 + 1) := Nat.lt_log2_self
  rw [Nat.pow_succ] at h2
  rw [Nat.mod_eq_sub_mod h1, Nat.mod_eq_of_lt zO]
  omega
theorem log2_le {v k : Nat} (h : v < 2 ^ (k + 1)) : v.log2 ≤ k := by
  rcases Nat.eq_zero_or_pos v with h0 | h0
  · subst h0; simp
  · have := (Nat.log2_lt (show v ≠ 0 by omega)).2 h
    omega
end Go.Proofs.YtecogbhbkccblaaGreatDoor
namespace Go.Proofs.YtecogbhbkccblaaGreatDoor

def putV (v : Nat) : List Nat := if h : v < 128 then [v] else (v % 128 + 128) :: putV (v / 128)
termination_by v
decreasing_by omega
theorem putV_lo {v : Nat} (h : v < 128) : putV v = [v] := by rw [putV, dif_pos h]
theorem putV_hi {v : Nat} (h : 128 ≤ v) : putV v = (v % 128 + 128) :: putV (v / 128) := by rw [putV, dif_neg zO]
theorem putV_ne (v : Nat) : putV v ≠ [] := by
  rcases Nat.lt_or_ge v 128 with h | h
  · rw [putV_lo h]; simp
  · rw [putV_hi h]; simp
theorem putV_lt : ∀ (v : Nat) {x : Nat}, x ∈ putV v → x < 256 := by
  intro v
  induction v using Nat.strongRecOn with
  | ind v ih =>
    intro x hx
    rcases Nat.lt_or_ge v 128 with h | h
    · rw [putV_lo h, List.mem_singleton] at hx; omega
    · rw [putV_hi h] at hx
      rcases List.mem_cons.1 hx with rfl | hx
      · omega
      · exact ih _ zO hx
theorem putV_len : ∀ (k : Nat) {v : Nat}, v < 128 ^ (k + 1) → (putV v).length ≤ k + 1
  | 0, v, h => by rw [putV_lo (by simpa using h)]; simp
  | k + 1, v, h => by
    rcases Nat.lt_or_ge v 128 with h1 | h1
    · rw [putV_lo h1]; simp
    · rw [putV_hi h1, List.length_cons]
      have := putV_len k (v := v / 128) (by rw [Nat.div_lt_iff_lt_mul zD, ← Nat.pow_succ]; exact h)
      omega
/-- the bytes of a number: what stands at i, and whether more comes -/
theorem putV_get : ∀ (i : Nat) (v : Nat), i < (putV v).length → (putV v)[i]? = some (v / 128 ^ i % 128 + if 128 ≤ v / 128 ^ i then 128 else 0) ∧ (v / 128 ^ i < 128 ↔ i + 1 = (putV v).length)
  | 0, v, _ => by
    rcases Nat.lt_or_ge v 128 with h | h
    · have hn : ¬ 128 ≤ v := by omega
      rw [putV_lo h]
      simp only [Nat.pow_zero, Nat.div_one, List.length_singleton, List.getElem?_cons_zero, if_neg hn, Nat.mod_eq_of_lt h, Nat.add_zero]
      exact ⟨trivial, by simp [h]⟩
    · rw [putV_hi h]
      have := List.length_pos_iff.2 (putV_ne (v / 128))
      simp only [Nat.pow_zero, Nat.div_one, List.length_cons, List.getElem?_cons_zero, if_pos h]
      exact ⟨trivial, by omega⟩
  | i + 1, v, hi => by
    rcases Nat.lt_or_ge v 128 with h | h
    · rw [putV_lo h] at hi; simp at hi
    · rw [putV_hi h] at hi ⊢
      rw [List.length_cons] at hi
      have ih := putV_get i (v / 128) zO
      rw [List.getElem?_cons_succ, ih.1, List.length_cons, show v / 128 ^ (i + 1) = v / 128 / 128 ^ i by rw [Nat.pow_succ, Nat.mul_comm, ← Nat.div_div_eq_div_mul]]
      refine ⟨rfl, ?_⟩
      rw [ih.2]
      omega
/-- the number so far -/
theorem putV_acc (v i : Nat) : v % 128 ^ i + (v / 128 ^ i % 128) * 128 ^ i = v % 128 ^ (i + 1) := by
  rw [Nat.pow_succ, Nat.mod_mul, Nat.mul_comm (128 ^ i)]
theorem putV_end {v i : Nat} (h : v / 128 ^ i < 128) : v % 128 ^ (i + 1) = v := by
  apply Nat.mod_eq_of_lt
  rw [Nat.pow_succ, Nat.mul_comm]
  exact (Nat.div_lt_iff_lt_mul (Nat.pow_pos zD)).1 h
/-- the last byte is not zero, but for a single one -/
theorem putV_last {v i : Nat} (hi : i < (putV v).length) (h0 : 0 < i) : v / 128 ^ i ≠ 0 := by
  intro e
  obtain ⟨j, rfl⟩ : ∃ j, i = j + 1 := ⟨i - 1, by omega⟩
  have h1 := (putV_get j v zO).2
  rw [Nat.pow_succ, ← Nat.div_div_eq_div_mul] at e
  have : v / 128 ^ j < 128 := by omega
  have := h1.1 this
  omega
end Go.Proofs.YtecogbhbkccblaaGreatDoor
namespace Go.Proofs.YtecogbhbkccblaaGreatDoor

theorem sumN_app {α : Type} (f : α → Nat) : ∀ l m : List α, sumN f (l ++ m) = sumN f l + sumN f m
  | [], m => by simp [sumN]
  | x :: l, m => by
    have e : sumN f (x :: (l ++ m)) = f x + sumN f (l ++ m) := rfl
    have e2 : sumN f (x :: l) = f x + sumN f l := rfl
    rw [List.cons_append, e, e2, sumN_app f l m]; omega
theorem sumN_perm {α : Type} (f : α → Nat) {l m : List α} (h : l.Perm m) : sumN f l = sumN f m := by
  induction h with
  | nil => rfl
  | cons x _ ih => unfold sumN; rw [ih]
  | swap x y l => unfold sumN; unfold sumN; omega
  | trans _ _ ih1 ih2 => exact ih1.trans ih2
theorem sumN_map {α β : Type} (f : β → Nat) (g : α → β) : ∀ l : List α, sumN f (l.map g) = sumN (fun x => f (g x)) l
  | [] => rfl
  | x :: l => by rw [List.map_cons]; unfold sumN; rw [sumN_map f g l]
theorem sqQ_sum (f : Nat → Nat) (o : List Nat) : ∀ n, n ≤ o.length → sqQ (fun k => f (o[k]?.getD 0)) n = sumN (fun s => 2 ^ (15 - f s)) (o.take n)
  | 0, _ => rfl
  | n + 1, h => by
    unfold sqQ
    rw [sqQ_sum f o n zO, List.take_add_one, sumN_app, List.getElem?_eq_getElem (show n < o.length by omega)]
    rfl
theorem ord_of {f : Nat → Nat} {o : List Nat} (hs : KSorted (fun s => (f s : Int)) o) (hp : ∀ s ∈ o, 1 ≤ f s ∧ f s ≤ 15) (hk : sumN (fun s => 2 ^ (15 - f s)) o ≤ 2 ^ 15) : Ord f o := by
  have hg : ∀ i, (hi : i < o.length) → o[i]?.getD 0 = o[i] := fun i hi => by rw [List.getElem?_eq_getElem hi]; rfl
  refine ⟨hs, ⟨fun i j hij hj => ?_, fun i hi => ?_, fun i hi => ?_, ?_⟩⟩
  · rcases Nat.lt_or_eq_of_le hij with h | h
    · rw [hg i zO, hg j hj]
      have : ((f o[i] : Nat) : Int) ≤ (f o[j] : Nat) := (List.pairwise_iff_getElem.1 hs) i j zO hj h
      omega
    · subst h; exact Nat.le_refl _
  · rw [hg i hi]; exact (hp _ (List.getElem_mem hi)).1
  · rw [hg i hi]; exact (hp _ (List.getElem_mem hi)).2
  · rw [sqQ_sum f o _ (Nat.le_refl _), List.take_length]; exact hk

/-- the leaves of counts, before they are sorted -/
def lvsH (c : List Nat) : List Hi := (List.range c.length).filterMap fun i : Nat => if 0 < c[i]?.getD 0 then some ⟨((c[i]?.getD 0 : Nat) : Int), (i : Int), 0, 0⟩ else none
def leavesH (c : List Nat) : List Hi := stS Hi.w (lvsH c)
/-- how often a symbol is taken -/
def lenS (L : List Hi) (k s : Nat) : Nat := sumR (fun T => T.countP fun x => decide (x.s = (s : Int))) (runH L k (2 * L.length - 2))
/-- the lengths -/
def lensH (c : List Nat) (s : Nat) : Nat := if (leavesH c).length < 2 then (if 0 < c[s]?.getD 0 then 1 else 0) else lenS (leavesH c) 14 s
/-- the symbols in the order of their lengths -/
def ordH (n : Nat) (f : Nat → Nat) : List Nat := stS (fun s => (f s : Int)) ((List.range n).filter fun s => decide (0 < f s))

theorem lvsH_mem {c : List Nat} {x : Hi} (h : x ∈ lvsH c) : ∃ i, i < c.length ∧ 0 < c[i]?.getD 0 ∧ x = ⟨((c[i]?.getD 0 : Nat) : Int), (i : Int), 0, 0⟩ := by
  unfold lvsH at h
  obtain ⟨i, hi, he⟩ := List.mem_filterMap.1 h
  by_cases h0 : 0 < c[i]?.getD 0
  · rw [if_pos h0] at he
    exact ⟨i, List.mem_range.1 hi, h0, (Option.some.inj he).symm⟩
  · rw [if_neg h0] at he; cases he
theorem lvsH_pw (c : List Nat) : (lvsH c).Pairwise fun a b => a.s < b.s := by
  unfold lvsH
  rw [List.pairwise_filterMap]
  refine List.Pairwise.imp ?_ List.pairwise_lt_range
  intro a b hab x hx y hy
  by_cases h1 : 0 < c[a]?.getD 0
  · by_cases h2 : 0 < c[b]?.getD 0
    · rw [if_pos h1] at hx
      rw [if_pos h2] at hy
      cases hx; cases hy
      dsimp only
      omega
    · rw [if_neg h2] at hy; cases hy
  · rw [if_neg h1] at hx; cases hx
theorem leavesH_perm (c : List Nat) : (leavesH c).Perm (lvsH c) := stSort_perm (stS_ok _)
theorem leavesH_ok (c : List Nat) : LfOk (leavesH c) := by
  have hp := leavesH_perm c
  refine ⟨fun x hx => ?_, fun x hx => ?_, ?_, (stS_ok _).1⟩
  · obtain ⟨i, _, h0, rfl⟩ := lvsH_mem (hp.mem_iff.1 hx)
    dsimp only; omega
  · obtain ⟨i, _, h0, rfl⟩ := lvsH_mem (hp.mem_iff.1 hx)
    unfold Hi.leaf
    simp
  · exact hp.nodup_iff.2 ((lvsH_pw c).imp fun {a b} h e => by subst e; omega)
theorem leavesH_inj {c : List Nat} {x y : Hi} (hx : x ∈ leavesH c) (hy : y ∈ leavesH c) (h : x.s = y.s) : x = y := by
  obtain ⟨i, _, _, rfl⟩ := lvsH_mem ((leavesH_perm c).mem_iff.1 hx)
  obtain ⟨j, _, _, rfl⟩ := lvsH_mem ((leavesH_perm c).mem_iff.1 hy)
  have : i = j := by dsimp only at h; omega
  subst this
  rfl
theorem sumR_congr {c d : List Hi → Nat} : ∀ R : List (List Hi), (∀ T ∈ R, c T = d T) → sumR c R = sumR d R
  | [], _ => rfl
  | T :: R, h => by unfold sumR; rw [h T List.mem_cons_self, sumR_congr R fun X hX => h X (List.mem_cons_of_mem _ hX)]
theorem lenS_leaf {c : List Nat} (k : Nat) {x : Hi} (hx : x ∈ leavesH c) {s : Nat} (hs : x.s = (s : Int)) : lenS (leavesH c) k s = lenH (leavesH c) k x := by
  unfold lenS lenH
  refine sumR_congr _ fun T hT => ?_
  rw [List.count]
  refine List.countP_congr fun y hy => ?_
  constructor
  · intro h
    have h1 : y.s = (s : Int) := by simpa using h
    have hl : y.leaf = true := by unfold Hi.leaf; rw [h1]; simp
    have := leavesH_inj (runH_leaf k _ T hT y hy hl) hx (by rw [h1, hs])
    simp [this]
  · intro h
    have : y = x := by simpa using h
    subst this
    simpa using hs
theorem lenS_none {c : List Nat} (k : Nat) {s : Nat} (hs : ∀ x ∈ leavesH c, x.s ≠ (s : Int)) : lenS (leavesH c) k s = 0 := by
  unfold lenS
  rw [sumR_congr (d := fun _ => 0) _ fun T hT => ?_]
  · generalize runH (leavesH c) k (2 * (leavesH c).length - 2) = R
    induction R with
    | nil => rfl
    | cons T R ih => unfold sumR; rw [ih]
  · rw [List.countP_eq_zero]
    intro y hy h
    have h1 : y.s = (s : Int) := by simpa using h
    have hl : y.leaf = true := by unfold Hi.leaf; rw [h1]; simp
    exact hs y (runH_leaf k _ T hT y hy hl) h1
theorem leavesH_sym {c : List Nat} {s : Nat} (h : s < c.length) (h0 : 0 < c[s]?.getD 0) : (⟨((c[s]?.getD 0 : Nat) : Int), (s : Int), 0, 0⟩ : Hi) ∈ leavesH c := by
  refine (leavesH_perm c).mem_iff.2 ?_
  unfold lvsH
  refine List.mem_filterMap.2 ⟨s, List.mem_range.2 h, ?_⟩
  rw [if_pos h0]
theorem lensH_pos {c : List Nat} (hc : c.length < 2 ^ 14) {s : Nat} : 0 < lensH c s ↔ 0 < c[s]?.getD 0 := by
  unfold lensH
  have hlen : (leavesH c).length ≤ c.length := by
    rw [(leavesH_perm c).length_eq]
    unfold lvsH
    have := List.length_filterMap_le (fun i : Nat => if 0 < c[i]?.getD 0 then some (⟨((c[i]?.getD 0 : Nat) : Int), (i : Int), 0, 0⟩ : Hi) else none) (List.range c.length)
    rwa [List.length_range] at this
  by_cases h2 : (leavesH c).length < 2
  · rw [if_pos h2]
    by_cases h0 : 0 < c[s]?.getD 0
    · rw [if_pos h0]; simp [h0]
    · rw [if_neg h0]; simp [h0]
  · rw [if_neg h2]
    by_cases h0 : 0 < c[s]?.getD 0
    · have hs : s < c.length := by
        rcases Nat.lt_or_ge s c.length with h | h
        · exact h
        · rw [List.getElem?_eq_none h] at h0; simp at h0
      rw [lenS_leaf 14 (leavesH_sym hs h0) rfl]
      have := lenH_pos (leavesH_ok c) 14 zO zO (leavesH_sym hs h0)
      simp only [h0, iff_true]
      omega
    · rw [lenS_none 14 fun x hx e => ?_]
      · simp [h0]
      · obtain ⟨i, _, h1, rfl⟩ := lvsH_mem ((leavesH_perm c).mem_iff.1 hx)
        dsimp only at e
        have : i = s := by omega
        subst this
        exact h0 h1
theorem stSort_permD {α : Type} [DecidableEq α] {key : α → Int} {l m : List α} (h : StSort key l m) : m.Perm l := by
  rw [List.perm_iff_count]
  intro a
  have := congrArg (List.count a) (h.2 (key a))
  rwa [List.count_filter (by simp), List.count_filter (by simp)] at this
theorem fm_filter {α β γ : Type} (p : α → Bool) (g : α → β) (h : β → γ) (e : α → γ) (he : ∀ a, h (g a) = e a) : ∀ l : List α, (l.filterMap fun a => if p a = true then some (g a) else none).map h = (l.filter p).map e
  | [] => rfl
  | a :: l => by
    have ih := fm_filter p g h e he l
    by_cases hp : p a = true
    · rw [List.filterMap_cons_some (b := g a) (by simp [hp]), List.filter_cons_of_pos hp, List.map_cons, List.map_cons, ih, he]
    · rw [List.filterMap_cons_none (by simp [hp]), List.filter_cons_of_neg hp, ih]
theorem ordH_mem {n : Nat} {f : Nat → Nat} {s : Nat} : s ∈ ordH n f ↔ s < n ∧ 0 < f s := by
  unfold ordH
  rw [(stSort_permD (stS_ok _)).mem_iff, List.mem_filter, List.mem_range]
  simp
theorem ordH_perm {c : List Nat} (hc : c.length < 2 ^ 14) : (ordH c.length (lensH c)).Perm ((leavesH c).map fun x => x.s.toNat) := by
  refine (stSort_permD (stS_ok _)).trans ?_
  have e : ((List.range c.length).filter fun s => decide (0 < lensH c s)) = (lvsH c).map fun x => x.s.toNat := by
    have h1 := fm_filter (fun i : Nat => decide (0 < c[i]?.getD 0)) (fun i : Nat => (⟨((c[i]?.getD 0 : Nat) : Int), (i : Int), 0, 0⟩ : Hi)) (fun x => x.s.toNat) id (fun i => by simp) (List.range c.length)
    rw [List.map_id] at h1
    have h2 : (fun i : Nat => if decide (0 < c[i]?.getD 0) = true then some (⟨((c[i]?.getD 0 : Nat) : Int), (i : Int), 0, 0⟩ : Hi) else none) = fun i : Nat => if 0 < c[i]?.getD 0 then some ⟨((c[i]?.getD 0 : Nat) : Int), (i : Int), 0, 0⟩ else none := by
      funext i
      simp
    rw [h2] at h1
    unfold lvsH
    rw [h1]
    refine List.filter_congr fun s _ => ?_
    rw [decide_eq_decide]
    exact lensH_pos hc
  rw [e]
  exact (leavesH_perm c).symm.map _
/-- the lengths leave room, each is 15 at most -/
theorem lensH_ord {c : List Nat} (hc : c.length < 2 ^ 14) : Ord (lensH c) (ordH c.length (lensH c)) := by
  have hlen : (leavesH c).length ≤ c.length := by
    rw [(leavesH_perm c).length_eq]
    unfold lvsH
    have := List.length_filterMap_le (fun i : Nat => if 0 < c[i]?.getD 0 then some (⟨((c[i]?.getD 0 : Nat) : Int), (i : Int), 0, 0⟩ : Hi) else none) (List.range c.length)
    rwa [List.length_range] at this
  have hsum := sumN_perm (fun s => 2 ^ (15 - lensH c s)) (ordH_perm hc)
  rw [sumN_map] at hsum
  refine ord_of (stS_ok _).1 (fun s hs => ?_) ?_
  · obtain ⟨h1, h2⟩ := ordH_mem.1 hs
    refine ⟨h2, ?_⟩
    have h0 := (lensH_pos hc).1 h2
    unfold lensH
    by_cases h3 : (leavesH c).length < 2
    · rw [if_pos h3, if_pos h0]; omega
    · rw [if_neg h3, lenS_leaf 14 (leavesH_sym h1 h0) rfl]
      exact lenH_le (leavesH_ok c) 14 (leavesH_sym h1 h0)
  · rw [hsum]
    by_cases h3 : (leavesH c).length < 2
    · have : ∀ l : List Hi, l.length < 2 → (∀ x ∈ l, 0 < lensH c x.s.toNat) → sumN (fun x => 2 ^ (15 - lensH c x.s.toNat)) l ≤ 2 ^ 15 := by
        intro l hl hx
        match l, hl, hx with
        | [], _, _ => simp [sumN]
        | [x], _, _ =>
          simp only [sumN, Nat.add_zero]
          exact Nat.pow_le_pow_right zD zO
      refine this _ h3 fun x hx => ?_
      have := (ordH_perm hc).mem_iff.2 (List.mem_map_of_mem hx)
      exact (ordH_mem.1 this).2
    · have hk := kraft (leavesH_ok c) 14 zO zO
      rw [sumN_congr (g := fun x => 2 ^ (14 + 1 - lenH (leavesH c) 14 x)) _ fun x hx => ?_, hk]
      · exact Nat.le_refl _
      · obtain ⟨i, _, _, rfl⟩ := lvsH_mem ((leavesH_perm c).mem_iff.1 hx)
        unfold lensH
        rw [if_neg h3, lenS_leaf 14 hx (by simp)]
end Go.Proofs.YtecogbhbkccblaaGreatDoor
namespace Go.Proofs.YtecogbhbkccblaaGreatDoor

/-- one more bit of a code -/
theorem code_bit {v q n : Nat} (h : n < q) : v / 2 ^ (q - (n + 1)) = 2 * (v / 2 ^ (q - n)) + (v.testBit (q - 1 - n)).toNat := by
  have e : q - n = (q - (n + 1)) + 1 := by omega
  rw [e, Nat.pow_succ, ← Nat.div_div_eq_div_mul, Nat.testBit_eq_decide_div_mod_eq, show q - 1 - n = q - (n + 1) by omega]
  generalize v / 2 ^ (q - (n + 1)) = u
  rcases Nat.mod_two_eq_zero_or_one u with h | h <;> simp [h] <;> omega

/-- the places whose numbers do not fit -/
def exI (vs : List Nat) (w i : Nat) : List Nat := (List.range i).filter fun k => decide (0 < vs[k]?.getD 0 / 2 ^ w)
/-- the bytes of what does not fit -/
def gapB (vs : List Nat) (w : Nat) : Nat → List Nat → List Nat
  | _, [] => []
  | b, e :: l => putV (e + 1 - b) ++ (putV (vs[e]?.getD 0 / 2 ^ w) ++ gapB vs w (e + 1) l)
def lastB : Nat → List Nat → Nat
  | b, [] => b
  | _, e :: l => lastB (e + 1) l
theorem gapB_snoc (vs : List Nat) (w : Nat) (e : Nat) : ∀ (b : Nat) (l : List Nat), gapB vs w b (l ++ [e]) = gapB vs w b l ++ (putV (e + 1 - lastB b l) ++ putV (vs[e]?.getD 0 / 2 ^ w))
  | b, [] => by simp [gapB, lastB]
  | b, x :: l => by
    rw [List.cons_append]
    unfold gapB lastB
    rw [gapB_snoc vs w e (x + 1) l]
    simp [List.append_assoc]
theorem lastB_snoc (e : Nat) : ∀ (b : Nat) (l : List Nat), lastB b (l ++ [e]) = e + 1
  | _, [] => rfl
  | b, x :: l => by rw [List.cons_append]; unfold lastB; exact lastB_snoc e (x + 1) l
theorem exI_succ (vs : List Nat) (w i : Nat) : exI vs w (i + 1) = exI vs w i ++ (if 0 < vs[i]?.getD 0 / 2 ^ w then [i] else []) := by
  unfold exI
  rw [List.range_succ, List.filter_append]
  congr 1
  by_cases h : 0 < vs[i]?.getD 0 / 2 ^ w
  · rw [if_pos h, List.filter_cons_of_pos (by simpa using h)]; rfl
  · rw [if_neg h, List.filter_cons_of_neg (by simpa using h)]; rfl
theorem exI_lt {vs : List Nat} {w i k : Nat} (h : k ∈ exI vs w i) : k < i ∧ 0 < vs[k]?.getD 0 / 2 ^ w := by
  unfold exI at h
  rw [List.mem_filter, List.mem_range] at h
  exact ⟨h.1, by simpa using h.2⟩
theorem exI_pw (vs : List Nat) (w i : Nat) : (exI vs w i).Pairwise (· < ·) := List.Pairwise.filter _ List.pairwise_lt_range
theorem exI_len (vs : List Nat) (w i : Nat) : (exI vs w i).length ≤ i := by
  have := List.length_filter_le (fun k => decide (0 < vs[k]?.getD 0 / 2 ^ w)) (List.range i)
  rwa [List.length_range] at this
/-- the numbers when k of those that do not fit are mended -/
def mendB (vs : List Nat) (w k : Nat) : List Nat := (List.range vs.length).map fun i => if i ∈ (exI vs w vs.length).take k then vs[i]?.getD 0 else vs[i]?.getD 0 % 2 ^ w
theorem mendB_len (vs : List Nat) (w k : Nat) : (mendB vs w k).length = vs.length := by unfold mendB; simp
theorem mendB_all (vs : List Nat) (w : Nat) {k : Nat} (hk : (exI vs w vs.length).length ≤ k) : mendB vs w k = vs := by
  apply List.ext_getElem?
  intro i
  unfold mendB
  rw [List.take_of_length_le hk, List.getElem?_map]
  rcases Nat.lt_or_ge i vs.length with h | h
  · rw [List.getElem?_range h, List.getElem?_eq_getElem h]
    simp only [Option.map_some]
    by_cases hm : i ∈ exI vs w vs.length
    · rw [if_pos hm, List.getElem?_eq_getElem h]; rfl
    · rw [if_neg hm, List.getElem?_eq_getElem h]
      have : ¬ 0 < vs[i]?.getD 0 / 2 ^ w := fun h0 => hm (by unfold exI; rw [List.mem_filter, List.mem_range]; exact ⟨h, by simpa using h0⟩)
      rw [List.getElem?_eq_getElem h] at this
      simp only [Option.getD_some] at this ⊢
      congr 1
      apply Nat.mod_eq_of_lt
      rcases Nat.lt_or_ge vs[i] (2 ^ w) with h1 | h1
      · exact h1
      · exact absurd (Nat.div_pos h1 (Nat.two_pow_pos w)) this
  · rw [List.getElem?_eq_none (by simpa using h), List.getElem?_eq_none h]; rfl
/-- mending one more -/
theorem mendB_succ (vs : List Nat) (w : Nat) {k e : Nat} (he : (exI vs w vs.length)[k]? = some e) :
    e < vs.length ∧ (mendB vs w k)[e]? = some (vs[e]?.getD 0 % 2 ^ w) ∧ mendB vs w (k + 1) = (mendB vs w k).set e (vs[e]?.getD 0) := by
  have hm := List.mem_of_getElem? he
  have hlt := (exI_lt hm).1
  have hk : k < (exI vs w vs.length).length := by
    rcases Nat.lt_or_ge k (exI vs w vs.length).length with h | h
    · exact h
    · rw [List.getElem?_eq_none h] at he; cases he
  have hno : e ∉ (exI vs w vs.length).take k := by
    intro h
    obtain ⟨j, hj, hje⟩ := List.getElem_of_mem h
    rw [List.length_take] at hj
    rw [List.getElem_take] at hje
    rw [List.getElem?_eq_getElem hk] at he
    have hee := Option.some.inj he
    have := (List.pairwise_iff_getElem.1 (exI_pw vs w vs.length)) j k zO hk zO
    omega
  refine ⟨hlt, ?_, ?_⟩
  · unfold mendB
    rw [List.getElem?_map, List.getElem?_range hlt]
    simp only [Option.map_some]
    rw [if_neg hno]
  · apply List.ext_getElem?
    intro i
    rw [List.getElem?_set]
    unfold mendB
    rw [List.take_add_one, he, List.getElem?_map, List.getElem?_map, List.length_map, List.length_range]
    by_cases hi : e = i
    · subst hi
      rw [if_pos rfl, if_pos hlt, List.getElem?_range hlt]
      simp
    · rw [if_neg hi]
      rcases Nat.lt_or_ge i vs.length with h | h
      · rw [List.getElem?_range h]
        simp only [Option.map_some, Option.toList_some, List.mem_append, List.mem_singleton]
        congr 1
        by_cases h1 : i ∈ (exI vs w vs.length).take k
        · rw [if_pos h1, if_pos (Or.inl h1)]
        · rw [if_neg h1, if_neg (by rintro (h2 | h2); exact h1 h2; exact hi h2.symm)]
      · rw [List.getElem?_eq_none (by simpa using h)]; rfl
theorem mend_or {v w : Nat} : v % 2 ^ w + v / 2 ^ w * 2 ^ w = v := by rw [Nat.mul_comm]; exact Nat.mod_add_div v (2 ^ w)
end Go.Proofs.YtecogbhbkccblaaGreatDoor
