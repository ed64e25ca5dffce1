/- Plain: positions in a text, and the order of texts. -/
import Derived.Test.YteanijikhogijaaXW
namespace Go.Proofs.Yteanijikhogijaa

/-! ### positions -/
def posB (at_ : Int) : List (Nat × List UInt8) → Int → Int → Int → Int × Int
  | [], _, line, col => (line, col)
  | x :: l, off, line, col => if at_ ≤ off then (line, col) else if x.1 = 10 then posB at_ l (off + x.2.length) (line + 1) 1 else posB at_ l (off + x.2.length) line (col + 1)
theorem posL_ub (s : ByteArray) (at_ : Int) : ∀ (n p : Nat) (line col : Int), posL at_ (unitsFrom s n p) line col = posB at_ (ubF n (s.data.toList.drop p)) p line col
  | 0, p, line, col => rfl
  | n + 1, p, line, col => by
    rw [unitsFrom]
    by_cases h : p < s.size
    · have hne : s.data.toList.drop p ≠ [] := by
        intro he
        have := congrArg List.length he
        rw [List.length_drop, size_list, List.length_nil] at this
        omega
      obtain ⟨b, t, hbt⟩ : ∃ b t, s.data.toList.drop p = b :: t := List.exists_cons_of_ne_nil hne
      obtain ⟨d1, d2, d3⟩ := decode_width s p h
      have hl : ((b :: t).take (decB (b :: t)).2).length = (decB (b :: t)).2 := by
        rw [List.length_take, ← hbt, ← decode_B, List.length_drop, size_list]; omega
      rw [if_pos h, posL, posL_ub s at_ n, posL_ub s at_ n, decode_B, hbt, ubF, posB]
      dsimp only
      rw [hl, ← hbt, List.drop_drop, Int.natCast_add]
    · rw [if_neg h, List.drop_of_length_le (by rw [size_list]; omega)]; rfl
theorem posOf_ub (s : ByteArray) (at_ : Int) : posOf s at_ = posB at_ (ub s.data.toList) 0 1 1 := by
  rw [posOf, units, posL_ub, List.drop_zero, ubF_ub]
  · rfl
  · exact Nat.le_of_eq (size_list s)
theorem posB_shift (at_ d k : Int) : ∀ (L : List (Nat × List UInt8)) (off line col : Int), posB (at_ + d) L (off + d) (line + k) col = ((posB at_ L off line col).1 + k, (posB at_ L off line col).2)
  | [], _, _, _ => rfl
  | x :: L, off, line, col => by
    have e1 : off + d + (x.2.length : Int) = off + x.2.length + d := by omega
    have e2 : line + k + 1 = line + 1 + k := by omega
    rw [posB, posB, e1, e2, posB_shift at_ d k L, posB_shift at_ d k L]
    by_cases h : at_ ≤ off
    · rw [if_pos h, if_pos (by omega)]
    · rw [if_neg h, if_neg (by omega)]
      split <;> rfl
def lf (l : List UInt8) : Nat := (l.filter (fun b => decide (b.toNat = 10))).length
theorem lf_append (l m : List UInt8) : lf (l ++ m) = lf l + lf m := by simp [lf]
theorem lf_encB {r : Nat} (h : sc r) : lf (encB r) = if r = 10 then 1 else 0 := by
  obtain ⟨h1, h2⟩ := h
  have hb : ∀ n, n < 256 → (if decide ((UInt8.ofNat n).toNat = 10) = true then 1 else 0) = (if n = 10 then 1 else 0 : Nat) := by
    intro n hn; rw [toNat_of hn]; by_cases h : n = 10 <;> simp [h]
  have hc : ∀ (b : UInt8) (l : List UInt8), lf (b :: l) = (if decide (b.toNat = 10) = true then 1 else 0) + lf l := by
    intro b l
    unfold lf
    rw [List.filter_cons]
    split
    · rw [List.length_cons]; omega
    · omega
  have hn : lf [] = 0 := rfl
  unfold encB
  split
  · rw [hc, hn, hb _ (by omega), Nat.add_zero]
  · split
    · rw [hc, hc, hn, hb _ (by omega), hb _ (by omega), if_neg (by omega), if_neg (by omega), if_neg (by omega)]
    · split
      · rw [hc, hc, hc, hn, hb _ (by omega), hb _ (by omega), hb _ (by omega), if_neg (by omega), if_neg (by omega), if_neg (by omega), if_neg (by omega)]
      · rw [hc, hc, hc, hc, hn, hb _ (by omega), hb _ (by omega), hb _ (by omega), hb _ (by omega), if_neg (by omega), if_neg (by omega), if_neg (by omega), if_neg (by omega), if_neg (by omega)]
theorem bad_no_lf {b : UInt8} {t : List UInt8} (h : decB (b :: t) = (65533, 1)) : b.toNat ≠ 10 := by
  intro hb
  have : decB (b :: t) = (10, 1) := by
    show dec b.toNat _ _ _ _ _ _ = _
    rw [hb, dec, if_pos (by omega)]
  rw [this] at h
  cases h
theorem posB_pass (at_ : Int) (M : List (Nat × List UInt8)) (l : List UInt8) : ∀ (off line col : Int), off + l.length ≤ at_ → ∃ col', posB at_ (ub l ++ M) off line col = posB at_ M (off + l.length) (line + lf l) col' := by
  induction l using ub_induct with
  | h0 => intro off line col _; exact ⟨col, by show posB at_ M off line col = posB at_ M (off + 0) (line + 0) col; rw [Int.add_zero, Int.add_zero]⟩
  | h1 r t hr hu ih =>
    intro off line col h
    have hl := (encB_len r).1
    rw [List.length_append] at h ⊢
    rw [hu, List.cons_append, posB, if_neg (by omega), lf_append, lf_encB hr]
    by_cases h10 : r = 10
    · obtain ⟨c, hc⟩ := ih (off + (encB r).length) (line + 1) 1 (by omega)
      refine ⟨c, ?_⟩
      rw [if_pos h10, if_pos h10]
      dsimp only
      rw [hc]
      congr 1 <;> omega
    · obtain ⟨c, hc⟩ := ih (off + (encB r).length) line (col + 1) (by omega)
      refine ⟨c, ?_⟩
      rw [if_neg h10, if_neg h10]
      dsimp only
      rw [hc]
      congr 1 <;> omega
  | h2 b t hb hu ih =>
    intro off line col h
    have hlf : lf (b :: t) = lf t := by
      unfold lf
      rw [List.filter_cons, if_neg (by simpa using bad_no_lf hb)]
    rw [List.length_cons] at h ⊢
    obtain ⟨c, hc⟩ := ih (off + 1) line (col + 1) (by omega)
    refine ⟨c, ?_⟩
    rw [hu, List.cons_append, posB, if_neg (by omega), if_neg (by show ¬ (65533 = 10); omega), hlf]
    show posB at_ (ub t ++ M) (off + ((1 : Nat) : Int)) line (col + 1) = _
    have : off + ((1 : Nat) : Int) = off + 1 := rfl
    rw [this, hc]
    congr 1; omega
theorem tw_append {t u : List UInt8} (h : tw u = []) : tw (t ++ u) = tw t := by
  induction t with
  | nil => exact h
  | cons b t ih =>
    rw [List.cons_append]
    by_cases hb : isC b = true
    · rw [tw_yes hb, tw_yes hb, ih]
    · rw [tw_no (Bool.eq_false_iff.2 hb), tw_no (Bool.eq_false_iff.2 hb)]
theorem ub_apart (l u : List UInt8) (h : tw u = []) : ub (l ++ u) = ub l ++ ub u := by
  induction l using ub_induct with
  | h0 => rfl
  | h1 r t hr hu ih => rw [List.append_assoc, ub_enc hr, hu, ih]; rfl
  | h2 b t hb hu ih =>
    have : decB (b :: (t ++ u)) = (65533, 1) := by rw [decB_tw, tw_append h, ← decB_tw, hb]
    rw [List.cons_append, ub_bad this, hu, ih]; rfl
theorem ub_lf (t : List UInt8) : ub (10 :: t) = (10, [10]) :: ub t := by
  have := ub_enc (r := 10) ⟨by omega, by omega⟩ t
  exact this
/-- The position behind a line feed. -/
theorem posB_lines (s t : List UInt8) (at_ : Int) (h : 0 ≤ at_) :
    posB (s.length + 1 + at_) (ub (s ++ 10 :: t)) 0 1 1 = ((posB at_ (ub t) 0 1 1).1 + (1 + lf s : Nat), (posB at_ (ub t) 0 1 1).2) := by
  have h10 : tw (10 :: t) = [] := tw_no (by decide)
  rw [ub_apart s _ h10, ub_lf]
  obtain ⟨c, hc⟩ := posB_pass (s.length + 1 + at_) ((10, [10]) :: ub t) s 0 1 1 (by omega)
  rw [hc, posB, if_neg (by omega), if_pos (show (10 : Nat) = 10 from rfl)]
  have e1 : (0 + (s.length : Int) + (([10] : List UInt8).length : Int)) = 0 + (s.length + 1 : Int) := by
    show 0 + (s.length : Int) + ((1 : Nat) : Int) = _
    omega
  have e2 : (s.length : Int) + 1 + at_ = at_ + (s.length + 1 : Int) := by omega
  have e3 : (1 + (lf s : Int) + 1) = 1 + ((1 + lf s : Nat) : Int) := by omega
  dsimp only
  rw [e1, e2, e3, posB_shift]
theorem getElem?_append_enc {r k : Nat} {t : List UInt8} (h : (encB r).length ≤ k) : (encB r ++ t)[k]? = t[k - (encB r).length]? := List.getElem?_append_right h
theorem encB_later {r k : Nat} (h : sc r) (h1 : 1 ≤ k) {b : UInt8} (hb : (encB r)[k]? = some b) : b.toNat ≠ 10 := by
  obtain ⟨h2, h3⟩ := h
  have key : ∀ n : Nat, 128 ≤ n → n < 256 → (UInt8.ofNat n).toNat ≠ 10 := by intro n g1 g2; rw [toNat_of g2]; omega
  obtain ⟨k, rfl⟩ : ∃ j, k = j + 1 := ⟨k - 1, by omega⟩
  unfold encB at hb
  split at hb
  · simp at hb
  · split at hb
    · match k with
      | 0 => cases hb; exact key _ (by omega) (by omega)
      | k + 1 => simp at hb
    · split at hb
      · match k with
        | 0 => cases hb; exact key _ (by omega) (by omega)
        | 1 => cases hb; exact key _ (by omega) (by omega)
        | k + 2 => simp at hb
      · match k with
        | 0 => cases hb; exact key _ (by omega) (by omega)
        | 1 => cases hb; exact key _ (by omega) (by omega)
        | 2 => cases hb; exact key _ (by omega) (by omega)
        | k + 3 => simp at hb
theorem encB_first {r : Nat} (h : sc r) : ∃ b l, encB r = b :: l ∧ (b.toNat = 10 ↔ r = 10) := by
  obtain ⟨h2, h3⟩ := h
  unfold encB
  split
  · exact ⟨_, _, rfl, by rw [toNat_of (by omega)]⟩
  · split
    · exact ⟨_, _, rfl, by rw [toNat_of (by omega)]; omega⟩
    · split
      · exact ⟨_, _, rfl, by rw [toNat_of (by omega)]; omega⟩
      · exact ⟨_, _, rfl, by rw [toNat_of (by omega)]; omega⟩
theorem posB_stop {at_ off line col : Int} (h : at_ ≤ off) (L : List (Nat × List UInt8)) : posB at_ L off line col = (line, col) := by
  cases L with
  | nil => rfl
  | cons x L => rw [posB, if_pos h]
theorem posB_go {at_ off line col : Int} {x : Nat × List UInt8} {L : List (Nat × List UInt8)} {n : Nat} (hn : x.2.length = n) (h : off < at_) : posB at_ (x :: L) off line col = if x.1 = 10 then posB at_ L (off + n) (line + 1) 1 else posB at_ L (off + n) line (col + 1) := by
  rw [posB, if_neg (by omega), hn]
/-- The position of the next offset. -/
theorem posB_next (l : List UInt8) : ∀ (j : Nat) (b : UInt8) (off line col : Int), l[j]? = some b →
    (b.toNat = 10 → posB (off + j + 1) (ub l) off line col = ((posB (off + j) (ub l) off line col).1 + 1, 1)) ∧
    (b.toNat ≠ 10 → (posB (off + j + 1) (ub l) off line col).1 = (posB (off + j) (ub l) off line col).1 ∧ ((posB (off + j + 1) (ub l) off line col).2 = (posB (off + j) (ub l) off line col).2 ∨ (posB (off + j + 1) (ub l) off line col).2 = (posB (off + j) (ub l) off line col).2 + 1)) := by
  induction l using ub_induct with
  | h0 => intro j b off line col h; simp at h
  | h1 r t hr hu ih =>
    intro j b off line col h
    have hl := (encB_len r).1
    obtain ⟨b0, l0, he, hf⟩ := encB_first hr
    rw [hu]
    have g1 : posB (off + j + 1) ((r, encB r) :: ub t) off line col = if r = 10 then posB (off + j + 1) (ub t) (off + (encB r).length) (line + 1) 1 else posB (off + j + 1) (ub t) (off + (encB r).length) line (col + 1) := posB_go rfl (by omega)
    rw [g1]
    by_cases hj : j < (encB r).length
    · rw [List.getElem?_append_left hj] at h
      have s1 : ∀ a c : Int, posB (off + j + 1) (ub t) (off + (encB r).length) a c = (a, c) := fun a c => posB_stop (by omega) _
      rw [s1, s1]
      by_cases hj0 : j = 0
      · subst hj0
        have hbb : b = b0 := by rw [he] at h; simpa using h.symm
        subst hbb
        have s2 : posB (off + ((0 : Nat) : Int)) ((r, encB r) :: ub t) off line col = (line, col) := posB_stop (by omega) _
        rw [s2]
        refine ⟨fun h10 => ?_, fun h10 => ?_⟩
        · rw [if_pos (hf.1 h10)]
        · rw [if_neg (fun e => h10 (hf.2 e))]; exact ⟨rfl, .inr rfl⟩
      · have hne := encB_later hr (by omega) h
        refine ⟨fun h10 => absurd h10 hne, fun _ => ?_⟩
        have g2 : posB (off + j) ((r, encB r) :: ub t) off line col = if r = 10 then posB (off + j) (ub t) (off + (encB r).length) (line + 1) 1 else posB (off + j) (ub t) (off + (encB r).length) line (col + 1) := posB_go rfl (by omega)
        have s2 : ∀ a c : Int, posB (off + j) (ub t) (off + (encB r).length) a c = (a, c) := fun a c => posB_stop (by omega) _
        rw [g2, s2, s2]
        exact ⟨rfl, .inl rfl⟩
    · rw [getElem?_append_enc (by omega)] at h
      have g2 : posB (off + j) ((r, encB r) :: ub t) off line col = if r = 10 then posB (off + j) (ub t) (off + (encB r).length) (line + 1) 1 else posB (off + j) (ub t) (off + (encB r).length) line (col + 1) := posB_go rfl (by omega)
      rw [g2]
      have e1 : off + (j : Int) = off + ((encB r).length : Int) + ((j - (encB r).length : Nat) : Int) := by omega
      rw [e1]
      by_cases h10 : r = 10
      · rw [if_pos h10, if_pos h10]; exact ih _ b _ _ _ h
      · rw [if_neg h10, if_neg h10]; exact ih _ b _ _ _ h
  | h2 c t hb hu ih =>
    intro j b off line col h
    have hc := bad_no_lf hb
    have n10 : ¬ (65533 : Nat) = 10 := by omega
    rw [hu]
    have g1 : posB (off + j + 1) ((65533, [c]) :: ub t) off line col = if 65533 = 10 then posB (off + j + 1) (ub t) (off + (1 : Nat)) (line + 1) 1 else posB (off + j + 1) (ub t) (off + (1 : Nat)) line (col + 1) := posB_go rfl (by omega)
    rw [g1, if_neg n10]
    cases j with
    | zero =>
      obtain rfl : c = b := by simpa using h
      refine ⟨fun h10 => absurd h10 hc, fun _ => ?_⟩
      have s1 : posB (off + ((0 : Nat) : Int) + 1) (ub t) (off + ((1 : Nat) : Int)) line (col + 1) = (line, col + 1) := posB_stop (by omega) _
      have s2 : posB (off + ((0 : Nat) : Int)) ((65533, [c]) :: ub t) off line col = (line, col) := posB_stop (by omega) _
      rw [s1, s2]
      exact ⟨rfl, .inr rfl⟩
    | succ j =>
      rw [List.getElem?_cons_succ] at h
      have g2 : posB (off + ((j + 1 : Nat) : Int)) ((65533, [c]) :: ub t) off line col = if 65533 = 10 then posB (off + ((j + 1 : Nat) : Int)) (ub t) (off + (1 : Nat)) (line + 1) 1 else posB (off + ((j + 1 : Nat) : Int)) (ub t) (off + (1 : Nat)) line (col + 1) := posB_go rfl (by omega)
      rw [g2, if_neg n10]
      have e1 : off + ((j + 1 : Nat) : Int) = off + ((1 : Nat) : Int) + (j : Int) := by omega
      rw [e1]
      exact ih j b _ _ _ h

/-! ### order -/
def lexN : List Nat → List Nat → Int
  | [], [] => 0
  | [], _ :: _ => -1
  | _ :: _, [] => 1
  | a :: x, b :: y => if a < b then -1 else if b < a then 1 else lexN x y
theorem lexN_range : ∀ x y, lexN x y = -1 ∨ lexN x y = 0 ∨ lexN x y = 1
  | [], [] => .inr (.inl rfl)
  | [], _ :: _ => .inl rfl
  | _ :: _, [] => .inr (.inr rfl)
  | a :: x, b :: y => by
    rw [lexN]; split
    · exact .inl rfl
    · split
      · exact .inr (.inr rfl)
      · exact lexN_range x y
theorem lexN_self : ∀ x, lexN x x = 0
  | [] => rfl
  | a :: x => by rw [lexN, if_neg (by omega), if_neg (by omega), lexN_self x]
theorem lexN_eq : ∀ x y, lexN x y = 0 → x = y
  | [], [], _ => rfl
  | [], _ :: _, h => by simp [lexN] at h
  | _ :: _, [], h => by simp [lexN] at h
  | a :: x, b :: y, h => by
    rw [lexN] at h
    split at h
    · simp at h
    · split at h
      · simp at h
      · rw [lexN_eq x y h, show a = b by omega]
theorem lexN_anti : ∀ x y, lexN y x = - lexN x y
  | [], [] => rfl
  | [], _ :: _ => rfl
  | _ :: _, [] => rfl
  | a :: x, b :: y => by
    rw [lexN, lexN, lexN_anti x y]
    by_cases h1 : a < b
    · rw [if_pos h1, if_neg (by omega), if_pos h1]; rfl
    · rw [if_neg h1]
      by_cases h2 : b < a
      · rw [if_pos h2, if_pos h2, if_neg h1]
      · rw [if_neg h2, if_neg h2, if_neg h1]
theorem lexN_trans : ∀ x y z, lexN x y ≤ 0 → lexN y z ≤ 0 → lexN x z ≤ 0
  | [], _, [], _, _ => by simp [lexN]
  | [], _, _ :: _, _, _ => by simp [lexN]
  | _ :: _, [], _, h, _ => by simp [lexN] at h
  | _ :: _, _ :: _, [], _, h => by simp [lexN] at h
  | a :: x, b :: y, c :: z, h1, h2 => by
    rw [lexN] at h1 h2 ⊢
    by_cases g1 : a < b
    · by_cases g2 : b < c
      · rw [if_pos (by omega)]; omega
      · rw [if_neg g2] at h2
        by_cases g3 : c < b
        · rw [if_pos g3] at h2; omega
        · rw [if_pos (by omega)]; omega
    · rw [if_neg g1] at h1
      by_cases g2 : b < a
      · rw [if_pos g2] at h1; omega
      · rw [if_neg g2] at h1
        by_cases g3 : b < c
        · rw [if_pos (by omega)]; omega
        · rw [if_neg g3] at h2
          by_cases g4 : c < b
          · rw [if_pos g4] at h2; omega
          · rw [if_neg g4] at h2
            rw [if_neg (by omega), if_neg (by omega)]
            exact lexN_trans x y z h1 h2
theorem lexN_same (p x y : List Nat) : lexN (p ++ x) (p ++ y) = lexN x y := by
  induction p with
  | nil => rfl
  | cons a p ih => rw [List.cons_append, List.cons_append, lexN, if_neg (by omega), if_neg (by omega), ih]
def nums (l : List UInt8) : List Nat := l.map (·.toNat)
theorem nums_eq {l m : List UInt8} (h : nums l = nums m) : l = m := by
  have : ∀ l m : List UInt8, nums l = nums m → l = m := by
    intro l
    induction l with
    | nil => intro m h; cases m with
      | nil => rfl
      | cons b m => simp [nums] at h
    | cons a l ih => intro m h; cases m with
      | nil => simp [nums] at h
      | cons b m =>
        simp only [nums, List.map_cons, List.cons.injEq] at h
        rw [UInt8.toNat_inj.1 h.1, ih m h.2]
  exact this l m h
theorem bytesLess_lex : ∀ l m : List UInt8, Op.bytesLess l m = decide (lexN (nums l) (nums m) < 0)
  | [], [] => rfl
  | [], _ :: _ => rfl
  | _ :: _, [] => rfl
  | a :: l, b :: m => by
    rw [Op.bytesLess, bytesLess_lex l m]
    show _ = decide (lexN (a.toNat :: nums l) (b.toNat :: nums m) < 0)
    rw [lexN]
    have e1 : (decide (a < b)) = decide (a.toNat < b.toNat) := by rw [decide_eq_decide]; exact UInt8.lt_iff_toNat_lt
    have e2 : (a == b) = decide (a.toNat = b.toNat) := by
      rw [Bool.eq_iff_iff, beq_iff_eq, decide_eq_true_iff, UInt8.toNat_inj]
    rw [e1, e2]
    by_cases h1 : a.toNat < b.toNat
    · simp [h1]
    · by_cases h2 : b.toNat < a.toNat
      · have : ¬ a.toNat = b.toNat := by omega
        simp [h1, h2, this]
      · have : a.toNat = b.toNat := by omega
        simp [this]
def runes (l : List UInt8) : List Nat := (ub l).map (·.1)
def cmpB (l m : List UInt8) : Int := if lexN (runes l) (runes m) ≠ 0 then lexN (runes l) (runes m) else lexN (nums l) (nums m)
theorem cmpB_anti (l m : List UInt8) : cmpB m l = - cmpB l m := by
  unfold cmpB
  rw [lexN_anti (runes l), lexN_anti (nums l)]
  by_cases h : lexN (runes l) (runes m) = 0
  · rw [h]; rfl
  · rw [if_pos (by omega), if_pos h]
theorem cmpB_self (l : List UInt8) : cmpB l l = 0 := by unfold cmpB; rw [lexN_self, lexN_self]; rfl
theorem cmpB_eq {l m : List UInt8} (h : cmpB l m = 0) : l = m := by
  unfold cmpB at h
  split at h
  · rename_i h1; exact absurd h h1
  · exact nums_eq (lexN_eq _ _ h)
theorem cmpB_trans {a b c : List UInt8} (h1 : cmpB a b ≤ 0) (h2 : cmpB b c ≤ 0) : cmpB a c ≤ 0 := by
  unfold cmpB at h1 h2 ⊢
  have g1 : lexN (runes a) (runes b) ≤ 0 := by split at h1 <;> omega
  have g2 : lexN (runes b) (runes c) ≤ 0 := by split at h2 <;> omega
  have g3 := lexN_trans _ _ _ g1 g2
  by_cases h : lexN (runes a) (runes c) = 0
  · have e := lexN_eq _ _ h
    rw [← e] at g2 h2
    have e2 := lexN_anti (runes a) (runes b)
    have e3 : lexN (runes a) (runes b) = 0 := by omega
    rw [e3] at h1 e2
    rw [e2] at h2
    rw [h]
    exact lexN_trans _ _ _ h1 h2
  · rw [if_pos h]; exact g3
theorem encN_lt {r q : Nat} (hr : sc r) (hq : sc q) (h : r < q) (t u : List UInt8) : lexN (nums (encB r ++ t)) (nums (encB q ++ u)) = -1 := by
  obtain ⟨h1, h2⟩ := hr
  obtain ⟨h3, h4⟩ := hq
  have nc : ∀ (n : Nat) (l : List UInt8), nums (UInt8.ofNat n :: l) = (n % 256) :: nums l := by
    intro n l
    show (UInt8.ofNat n).toNat :: nums l = _
    simp
  have lt : ∀ (a b : Nat) (x y : List Nat), a < b → lexN (a :: x) (b :: y) = -1 := by intro a b x y h; rw [lexN, if_pos h]
  have le : ∀ (a b : Nat) (x y : List Nat), a ≤ b → (a = b → lexN x y = -1) → lexN (a :: x) (b :: y) = -1 := by
    intro a b x y h h'
    by_cases e : a = b
    · rw [lexN, if_neg (by omega), if_neg (by omega), h' e]
    · exact lt _ _ _ _ (by omega)
  unfold encB
  by_cases r1 : r < 128
  · rw [if_pos r1]
    by_cases q1 : q < 128
    · rw [if_pos q1]
      simp only [List.cons_append, nc]
      exact lt _ _ _ _ (by omega)
    · rw [if_neg q1]
      by_cases q2 : q < 2048
      · rw [if_pos q2]; simp only [List.cons_append, nc]; exact lt _ _ _ _ (by omega)
      · rw [if_neg q2]
        by_cases q3 : q < 65536
        · rw [if_pos q3]; simp only [List.cons_append, nc]; exact lt _ _ _ _ (by omega)
        · rw [if_neg q3]; simp only [List.cons_append, nc]; exact lt _ _ _ _ (by omega)
  · rw [if_neg r1, if_neg (show ¬ q < 128 by omega)]
    by_cases r2 : r < 2048
    · rw [if_pos r2]
      by_cases q2 : q < 2048
      · rw [if_pos q2]
        simp only [List.cons_append, nc]
        refine le _ _ _ _ (by omega) (fun e => ?_)
        exact lt _ _ _ _ (by omega)
      · rw [if_neg q2]
        by_cases q3 : q < 65536
        · rw [if_pos q3]; simp only [List.cons_append, nc]; exact lt _ _ _ _ (by omega)
        · rw [if_neg q3]; simp only [List.cons_append, nc]; exact lt _ _ _ _ (by omega)
    · rw [if_neg r2, if_neg (show ¬ q < 2048 by omega)]
      by_cases r3 : r < 65536
      · rw [if_pos r3]
        by_cases q3 : q < 65536
        · rw [if_pos q3]
          simp only [List.cons_append, nc]
          refine le _ _ _ _ (by omega) (fun e => ?_)
          refine le _ _ _ _ (by omega) (fun e => ?_)
          exact lt _ _ _ _ (by omega)
        · rw [if_neg q3]; simp only [List.cons_append, nc]; exact lt _ _ _ _ (by omega)
      · rw [if_neg r3, if_neg (show ¬ q < 65536 by omega)]
        simp only [List.cons_append, nc]
        refine le _ _ _ _ (by omega) (fun e => ?_)
        refine le _ _ _ _ (by omega) (fun e => ?_)
        refine le _ _ _ _ (by omega) (fun e => ?_)
        exact lt _ _ _ _ (by omega)
theorem nums_append (l m : List UInt8) : nums (l ++ m) = nums l ++ nums m := by simp [nums]
theorem runes_enc {r : Nat} (h : sc r) (t : List UInt8) : runes (encB r ++ t) = r :: runes t := by rw [runes, ub_enc h]; rfl
theorem enc_ne (r : Nat) (t : List UInt8) : ∃ b l, encB r ++ t = b :: l := by
  have := (encB_len r).1
  cases h : encB r with
  | nil => rw [h] at this; simp at this
  | cons b l => exact ⟨b, l ++ t, rfl⟩
theorem lex_valid (l : List UInt8) : ∀ m, validB l = true → validB m = true → lexN (runes l) (runes m) = lexN (nums l) (nums m) := by
  induction l using ub_induct with
  | h0 =>
    intro m _ _
    cases m with
    | nil => rfl
    | cons b m => rw [runes, runes, ub_cons]; rfl
  | h1 r t hr hu ih =>
    intro m hl hm
    rw [validB_enc hr] at hl
    cases m with
    | nil =>
      obtain ⟨b, l, he⟩ := enc_ne r t
      rw [runes_enc hr, he]; rfl
    | cons c m =>
      rcases decB_view c m with ⟨q, u, hq, he⟩ | hb
      · rw [he] at hm ⊢
        rw [validB_enc hq] at hm
        rw [runes_enc hr, runes_enc hq]
        rcases Nat.lt_trichotomy r q with h | h | h
        · rw [encN_lt hr hq h, lexN, if_pos h]
        · subst h
          rw [nums_append, nums_append, lexN_same, ← ih u hl hm, lexN, if_neg (by omega), if_neg (by omega)]
        · rw [lexN_anti (nums (encB q ++ u)), encN_lt hq hr h, lexN, if_neg (by omega), if_pos h]; rfl
      · rw [validB_bad hb] at hm; cases hm
  | h2 b t hb hu ih => intro m hl _; rw [validB_bad hb] at hl; cases hl
theorem cmpB_valid {l m : List UInt8} (hl : validB l = true) (hm : validB m = true) : cmpB l m = lexN (nums l) (nums m) := by
  unfold cmpB
  rw [lex_valid l m hl hm]
  by_cases h : lexN (nums l) (nums m) = 0
  · rw [h]; rfl
  · rw [if_pos h]
end Go.Proofs.Yteanijikhogijaa
