/- the library's merging in place: one element into a list.
   the library's merging in place: one element into a list. -/
import Derived.Test.YtecogbhbkccblaaGreatDoorGX
set_option maxRecDepth 4000
set_option maxHeartbeats 40000000
set_option linter.all false
namespace Go.Proofs.YtecogbhbkccblaaGreatDoor
open Go.RowKit


structure SyIG where
  i : Nat
  j : Nat
theorem symLI_fn (key : Hi → Int) (Ok : Hi → Prop) (P Y Q : List Hi) (x : Hi) (N b capv : Nat) (tl : List Value) (gf : FuncId) [hE : Ent Tryz.prog gf] (cap : List Value) (H : Hp) (hN : N = P.length + 1 + Y.length + Q.length) (hs : N ≤ 1000000) (hY : KSorted key Y) (hxo : Ok x) (hyo : ∀ y ∈ Y, Ok y)
    (hg : ∀ x y, Ok x → Ok y → Fn Tryz.prog gf (hiV x :: hiV y :: cap).toArray H (fun u _ => u = .int .i64 (key x - key y))) :
    FnW Tryz.prog 227 #[.slice (some ⟨b, 0, none⟩) N capv, .int .i64 (P.length : Int), .int .i64 ((P.length + 1 : Nat) : Int), .int .i64 ((P.length + 1 + Y.length : Nat) : Int), .func (.func gf) #[] cap.toArray] H [BlkI b tl (P ++ ([x] ++ (Y ++ Q)))] (fun u H' l' => u = .tuple #[] ∧ H' = H ∧ l' = [BlkI b tl (P ++ (mrg key [x] Y ++ Q))]) := by
  obtain ⟨m, hm⟩ : ∃ m, m = P.length + 1 := ⟨_, rfl⟩
  obtain ⟨b2, hb2⟩ : ∃ b2, b2 = m + Y.length := ⟨_, rfl⟩
  rw [← hm, ← hb2]
  refine FnW.of_T (vs := [.slice (some ⟨b, 0, none⟩) N capv, .int .i64 (P.length : Int), .int .i64 (m : Int), .int .i64 (b2 : Int), .func (.func gf) #[] cap.toArray]) Tryz.func227 rfl rfl fun w => ?_
  have hd1 : decide ((m : Int) - (P.length : Int) = 1) = true := decide_eq_true zO
  refine J8 ?_; refine yq9 ?_; refine J12 ?_; refine T.loopK [(0, Value.slice (some { block := b, off := 0 }) N capv), (1, Value.int IntKind.i64 (↑P.length : Int)), (2, Value.int IntKind.i64 (↑m : Int)), (3, Value.int IntKind.i64 (↑b2 : Int)), (4, Value.func (Fn.func gf) #[] cap.toArray)] zq8 (γ := SyIG) (fun g => m ≤ g.i ∧ g.i ≤ g.j ∧ g.j ≤ b2 ∧ (∀ (q : Nat) (hq : q < Y.length), q + 1 + m = g.i → key Y[q] < key x) ∧ (∀ (hq : g.j - m < Y.length), key x ≤ key Y[g.j - m])) (fun g => [(10, .int .i64 (g.i : Int)), (11, .int .i64 (g.j : Int))]) (fun _ => [BlkI b tl (P ++ ([x] ++ (Y ++ Q)))]) (fun _ => H) (fun g => g.j - g.i) ⟨m, b2⟩ ⟨Nat.le_refl _, by dsimp only; omega, Nat.le_refl _, fun q hq h => by dsimp only at h; omega, fun hq => by dsimp only at hq; omega⟩ zq8 zq23 rfl ?_
  rintro ⟨i, j⟩ ⟨c1, c2, c3, c4, c5⟩
  dsimp only at c1 c2 c3 c4 c5 ⊢
  by_cases hij : i < j
  · have hd2 : decide ((i : Int) < (j : Int)) = true := decide_eq_true zO
    obtain ⟨h, hh⟩ : ∃ h, h = (i + j) / 2 := ⟨_, rfl⟩
    have hq : h - m < Y.length := by omega
    obtain ⟨y, hy⟩ : ∃ y, y = Y[h - m] := ⟨_, rfl⟩
    have hcall := hg y x (by rw [hy]; exact hyo _ (List.getElem_mem hq)) hxo
    have g1 : (P ++ ([x] ++ (Y ++ Q)))[h]? = some y := by
      have := getY P [x] Y Q hq
      rw [List.length_singleton, ← hm, show m + (h - m) = h by omega, ← hy] at this
      exact this
    have g2 : (P ++ ([x] ++ (Y ++ Q)))[P.length]? = some x := getX P [x] (Y ++ Q) (q := 0) (by simp)
    have l1 : (((P ++ ([x] ++ (Y ++ Q))).flatMap encHi ++ tl).drop (0 + ((h : Int)).toNat * 4)).take 4 = encHi y := ldI g1 rfl
    have l2 : (((P ++ ([x] ++ (Y ++ Q))).flatMap encHi ++ tl).drop (0 + ((P.length : Int)).toNat * 4)).take 4 = encHi x := ldI g2 rfl
    have hsh : shrI .u64 ((i : Int) + (j : Int)) 1 = (h : Int) := by
      have := shr64 (x := i + j) (i := 1) zO
      rw [Nat.shiftRight_eq_div_pow, Nat.pow_one, ← hh] at this
      exact this
    by_cases hlt : key y < key x
    · have hdc : decide (key y - key x < 0) = true := decide_eq_true zO
      have hsh := hsh
      refine yq59 ?_; refine J7 ?_; refine yq25 ?_; refine J3 ?_
      (repeat refine sq ?_)
      refine yq64 ?_; refine yq111 ?_; refine yq36 ?_; refine yq84 ?_; (refine T.callQ (cap := cap) Wanted.none rfl rfl rfl hcall ?_; rintro _ rfl); refine yq50 ?_; refine yq37 ?_; refine yq110 ?_
      exact T.nextP ⟨h + 1, j⟩ ⟨by dsimp only; omega, by dsimp only; omega, c3, fun q hq2 he => by
        dsimp only at he
        obtain rfl : q = h - m := by omega
        rw [← hy]; exact hlt, c5⟩ zE zq8 zq23 rfl
    · have hdc : decide (key y - key x < 0) = false := decide_eq_false zO
      have hsh := hsh
      refine yq59 ?_; refine J7 ?_; refine yq25 ?_; refine J3 ?_
      (repeat refine sq ?_)
      refine yq64 ?_; refine yq111 ?_; refine yq36 ?_; refine yq84 ?_; (refine T.callQ (cap := cap) Wanted.none rfl rfl rfl hcall ?_; rintro _ rfl); refine yq50 ?_; refine yq37 ?_; refine yq6 ?_; refine J5 ?_
      exact T.nextP ⟨i, h⟩ ⟨c1, by dsimp only; omega, by dsimp only; omega, c4, fun hq2 => by
        dsimp only
        rw [← hy]; omega⟩ zE zq8 zq23 rfl
  · have hd2 : decide ((i : Int) < (j : Int)) = false := decide_eq_false zO
    obtain rfl : i = j := by omega
    obtain ⟨t, ht⟩ : ∃ t, t = i - m := ⟨_, rfl⟩
    have htl : t ≤ Y.length := by omega
    have hmg : mrg key [x] Y = Y.take t ++ x :: Y.drop t := mrg_oneL hY t htl (fun hy => by
      have := c5 (by rw [← ht]; exact hy)
      simp only [← ht] at this
      exact this) (fun q hq he => c4 q hq zO)
    refine yq66 ?_; refine J8 ?_; refine T.ownEq (l' := [BlkI b tl (P ++ (Y.take 0 ++ x :: (Y.drop 0 ++ Q)))]) rfl ?_; refine T.loopK [(10, Value.int IntKind.i64 (↑i : Int)), (0, Value.slice (some { block := b, off := 0 }) N capv), (1, Value.int IntKind.i64 (↑P.length : Int)), (2, Value.int IntKind.i64 (↑m : Int)), (3, Value.int IntKind.i64 (↑b2 : Int)), (4, Value.func (Fn.func gf) #[] cap.toArray)] zq8 (γ := Nat) (fun k => k ≤ t) (fun k => [(13, .int .i64 ((P.length + k : Nat) : Int))]) (fun k => [BlkI b tl (P ++ (Y.take k ++ x :: (Y.drop k ++ Q)))]) (fun _ => H) (fun k => t - k) 0 (Nat.zero_le _) ⟨rfl, trivial⟩ zq23 rfl ?_
    rintro k hk
    by_cases hkt : k < t
    · have hd3 : decide (((P.length + k : Nat) : Int) < (i : Int) - 1) = true := decide_eq_true zO
      obtain ⟨y, hy⟩ : ∃ y, Y[k]? = some y := ⟨_, List.getElem?_eq_getElem zO⟩
      have hy2 := (List.getElem?_eq_some_iff.1 hy).2
      obtain ⟨L, hL⟩ : ∃ L, L = P ++ Y.take k := ⟨_, rfl⟩
      have hLl : L.length = P.length + k := by rw [hL, List.length_append, List.length_take]; omega
      have e1 : P ++ (Y.take k ++ x :: (Y.drop k ++ Q)) = L ++ x :: y :: (Y.drop (k + 1) ++ Q) := by
        rw [hL, List.drop_eq_getElem_cons (show k < Y.length by omega), hy2]
        simp only [List.append_assoc, List.cons_append]
      have e2 : P ++ (Y.take (k + 1) ++ x :: (Y.drop (k + 1) ++ Q)) = L ++ y :: x :: (Y.drop (k + 1) ++ Q) := by
        rw [hL, List.take_add_one, hy]
        simp only [Option.toList_some, List.append_assoc, List.cons_append, List.nil_append]
      have hDl : (L ++ x :: y :: (Y.drop (k + 1) ++ Q)).length = N := by
        simp only [List.length_append, List.length_cons, List.length_drop]
        omega
      obtain ⟨ga, gb⟩ := adj_get L (Y.drop (k + 1) ++ Q) x y
      have l1 : (((L ++ x :: y :: (Y.drop (k + 1) ++ Q)).flatMap encHi ++ tl).drop (0 + (((P.length + k : Nat) : Int) + 1).toNat * 4)).take 4 = encHi y := ldI gb zO
      have l2 : (((L ++ x :: y :: (Y.drop (k + 1) ++ Q)).flatMap encHi ++ tl).drop (0 + (((P.length + k : Nat) : Int)).toNat * 4)).take 4 = encHi x := ldI ga zO
      have s1 := spI (d := L ++ x :: y :: (Y.drop (k + 1) ++ Q)) (tl := tl) (i := L.length) (z := ((P.length + k : Nat) : Int)) y zO zO
      have s2 := spI (d := (L ++ x :: y :: (Y.drop (k + 1) ++ Q)).set L.length y) (tl := tl) (i := L.length + 1) (z := ((P.length + k : Nat) : Int) + 1) x (by rw [List.length_set]; omega) zO
      rw [adj_up, ← e2] at s2
      rw [e1]
      refine J8 ?_; refine yq9 ?_; refine J3 ?_
      (repeat refine sq ?_)
      refine T.regionS [] 17 zK ?_; refine yq7 ?_; refine yq21 ?_; refine TS.take 4 rfl zK zK zK zK (PV.add rfl rfl zO) Wanted.none rfl rfl ?_; refine yq113 ?_; refine yq33 ?_; refine yq32 ?_
      refine TS.ways [9, 13] zK rfl zq20 ⟨⟨_, rfl, ?_⟩, ⟨_, rfl, ?_⟩, trivial⟩
      · refine yq72 ?_; refine yq4 ?_
        refine yq81 ?_
        refine yq72 ?_; refine yq18 ?_
        refine yq55 ?_
        (refine T.storeA Wanted.none rfl rfl zq8 zX .head s1 ?_); refine yq19 ?_
        refine yq45 ?_
        (refine T.storeA Wanted.none rfl rfl zq8 zX .head s2 ?_); refine yq11 ?_; refine J6 ?_; (exact T.nextP (k + 1) zO zO zq8 zq23 rfl)
      · refine yq72 ?_; refine yq4 ?_
        refine yq68 ?_
        refine yq72 ?_; refine yq18 ?_
        refine yq55 ?_
        (refine T.storeA Wanted.none rfl rfl zq8 zX .head s1 ?_); refine yq19 ?_
        refine yq45 ?_
        (refine T.storeA Wanted.none rfl rfl zq8 zX .head s2 ?_); refine yq11 ?_; refine J6 ?_; (exact T.nextP (k + 1) zO zO zq8 zq23 rfl)
    · have hd3 : decide (((P.length + k : Nat) : Int) < (i : Int) - 1) = false := decide_eq_false zO
      obtain rfl : k = t := by omega
      refine J8 ?_; refine yq6 ?_; refine T.exit rfl ?_
      exact T.retW (Lv.finW _ (List.Sublist.refl _) (RV.none rfl) ⟨rfl, rfl, by rw [hmg]; simp only [List.append_assoc, List.cons_append]⟩)
theorem symRI_fn (key : Hi → Int) (Ok : Hi → Prop) (P X' Q : List Hi) (y : Hi) (N b capv : Nat) (tl : List Value) (gf : FuncId) [hE : Ent Tryz.prog gf] (cap : List Value) (H : Hp) (hN : N = P.length + X'.length + 1 + Q.length) (hs : N ≤ 1000000) (h1X : X'.length ≠ 1) (hX : KSorted key X') (hyo : Ok y) (hxo : ∀ x ∈ X', Ok x)
    (hg : ∀ x y, Ok x → Ok y → Fn Tryz.prog gf (hiV x :: hiV y :: cap).toArray H (fun u _ => u = .int .i64 (key x - key y))) :
    FnW Tryz.prog 227 #[.slice (some ⟨b, 0, none⟩) N capv, .int .i64 (P.length : Int), .int .i64 ((P.length + X'.length : Nat) : Int), .int .i64 ((P.length + X'.length + 1 : Nat) : Int), .func (.func gf) #[] cap.toArray] H [BlkI b tl (P ++ (X' ++ ([y] ++ Q)))] (fun u H' l' => u = .tuple #[] ∧ H' = H ∧ l' = [BlkI b tl (P ++ (mrg key X' [y] ++ Q))]) := by
  obtain ⟨a, ha⟩ : ∃ a, a = P.length := ⟨_, rfl⟩
  obtain ⟨m, hm⟩ : ∃ m, m = a + X'.length := ⟨_, rfl⟩
  rw [← ha, ← hm]
  refine FnW.of_T (vs := [.slice (some ⟨b, 0, none⟩) N capv, .int .i64 (a : Int), .int .i64 (m : Int), .int .i64 ((m + 1 : Nat) : Int), .func (.func gf) #[] cap.toArray]) Tryz.func227 rfl rfl fun w => ?_
  have hd1 : decide ((m : Int) - (a : Int) = 1) = false := decide_eq_false zO
  have hd2 : decide (((m + 1 : Nat) : Int) - (m : Int) = 1) = true := decide_eq_true zO
  refine J8 ?_; refine yq6 ?_; refine J9 ?_; refine yq9 ?_; refine J12 ?_; refine T.loopK [(0, Value.slice (some { block := b, off := 0 }) N capv), (1, Value.int IntKind.i64 (↑a : Int)), (2, Value.int IntKind.i64 (↑m : Int)), (3, Value.int IntKind.i64 (↑(m + 1) : Int)), (4, Value.func (Fn.func gf) #[] cap.toArray)] zq8 (γ := SyIG) (fun g => a ≤ g.i ∧ g.i ≤ g.j ∧ g.j ≤ m ∧ (∀ (q : Nat) (hq : q < X'.length), q + 1 + a = g.i → key X'[q] ≤ key y) ∧ (∀ (hq : g.j - a < X'.length), key y < key X'[g.j - a])) (fun g => [(14, .int .i64 (g.i : Int)), (15, .int .i64 (g.j : Int))]) (fun _ => [BlkI b tl (P ++ (X' ++ ([y] ++ Q)))]) (fun _ => H) (fun g => g.j - g.i) ⟨a, m⟩ ⟨Nat.le_refl _, by dsimp only; omega, Nat.le_refl _, fun q hq h => by dsimp only at h; omega, fun hq => by dsimp only at hq; omega⟩ zq8 zq23 rfl ?_
  rintro ⟨i, j⟩ ⟨c1, c2, c3, c4, c5⟩
  dsimp only at c1 c2 c3 c4 c5 ⊢
  by_cases hij : i < j
  · have hd3 : decide ((i : Int) < (j : Int)) = true := decide_eq_true zO
    obtain ⟨h, hh⟩ : ∃ h, h = (i + j) / 2 := ⟨_, rfl⟩
    have hq : h - a < X'.length := by omega
    obtain ⟨x, hx⟩ : ∃ x, x = X'[h - a] := ⟨_, rfl⟩
    have hcall := hg y x hyo (by rw [hx]; exact hxo _ (List.getElem_mem hq))
    have g1 : (P ++ (X' ++ ([y] ++ Q)))[h]? = some x := by
      have := getX P X' ([y] ++ Q) hq
      rw [← ha, show a + (h - a) = h by omega, ← hx] at this
      exact this
    have g2 : (P ++ (X' ++ ([y] ++ Q)))[m]? = some y := by
      have := getY P X' [y] Q (q := 0) (by simp)
      rw [← ha, ← hm] at this
      exact this
    have l1 : (((P ++ (X' ++ ([y] ++ Q))).flatMap encHi ++ tl).drop (0 + ((h : Int)).toNat * 4)).take 4 = encHi x := ldI g1 rfl
    have l2 : (((P ++ (X' ++ ([y] ++ Q))).flatMap encHi ++ tl).drop (0 + ((m : Int)).toNat * 4)).take 4 = encHi y := ldI g2 rfl
    have hsh : shrI .u64 ((i : Int) + (j : Int)) 1 = (h : Int) := by
      have := shr64 (x := i + j) (i := 1) zO
      rw [Nat.shiftRight_eq_div_pow, Nat.pow_one, ← hh] at this
      exact this
    by_cases hlt : key y < key x
    · have hdc : (!decide (key y - key x < 0)) = false := by rw [decide_eq_true zO]; rfl
      have hsh := hsh
      refine yq59 ?_; refine J7 ?_; refine yq25 ?_; refine J3 ?_
      (repeat refine sq ?_)
      refine yq64 ?_; refine yq111 ?_; refine yq36 ?_; refine yq84 ?_; (refine T.callQ (cap := cap) Wanted.none rfl rfl rfl hcall ?_; rintro _ rfl); refine yq50 ?_; refine TO.take 11 rfl zK zK zK (PV.not rfl) Wanted.none rfl rfl ?_; refine yq37 ?_; refine yq6 ?_; refine J5 ?_
      exact T.nextP ⟨i, h⟩ ⟨c1, by dsimp only; omega, by dsimp only; omega, c4, fun hq2 => by
        dsimp only
        rw [← hx]; exact hlt⟩ zE zq8 zq23 rfl
    · have hdc : (!decide (key y - key x < 0)) = true := by rw [decide_eq_false zO]; rfl
      have hsh := hsh
      refine yq59 ?_; refine J7 ?_; refine yq25 ?_; refine J3 ?_
      (repeat refine sq ?_)
      refine yq64 ?_; refine yq111 ?_; refine yq36 ?_; refine yq84 ?_; (refine T.callQ (cap := cap) Wanted.none rfl rfl rfl hcall ?_; rintro _ rfl); refine yq50 ?_; refine TO.take 11 rfl zK zK zK (PV.not rfl) Wanted.none rfl rfl ?_; refine yq37 ?_; refine yq110 ?_
      exact T.nextP ⟨h + 1, j⟩ ⟨by dsimp only; omega, by dsimp only; omega, c3, fun q hq2 he => by
        dsimp only at he
        obtain rfl : q = h - a := by omega
        rw [← hx]; omega, c5⟩ zE zq8 zq23 rfl
  · have hd3 : decide ((i : Int) < (j : Int)) = false := decide_eq_false zO
    obtain rfl : i = j := by omega
    obtain ⟨t, ht⟩ : ∃ t, t = i - a := ⟨_, rfl⟩
    have htl : t ≤ X'.length := by omega
    have hmg : mrg key X' [y] = X'.take t ++ y :: X'.drop t := mrg_oneR hX t htl (fun q hq he => c4 q hq zO) (fun hx => by
      have := c5 (by rw [← ht]; exact hx)
      simp only [← ht] at this
      exact this)
    refine yq66 ?_; refine J8 ?_; refine T.ownEq (l' := [BlkI b tl (P ++ (X'.take X'.length ++ y :: (X'.drop X'.length ++ Q)))]) (by rw [List.take_length, List.drop_length]; rfl) ?_
    rw [hm]
    refine T.loopK [(14, Value.int IntKind.i64 (↑i : Int)), (0, Value.slice (some { block := b, off := 0 }) N capv), (1, Value.int IntKind.i64 (↑a : Int)), (2, Value.int IntKind.i64 (↑(a + X'.length) : Int)), (3, Value.int IntKind.i64 (↑(a + X'.length + 1) : Int)), (4, Value.func (Fn.func gf) #[] cap.toArray)] zq8 (γ := Nat) (fun k => t ≤ k ∧ k ≤ X'.length) (fun k => [(17, .int .i64 ((a + k : Nat) : Int))]) (fun k => [BlkI b tl (P ++ (X'.take k ++ y :: (X'.drop k ++ Q)))]) (fun _ => H) (fun k => k) X'.length ⟨htl, Nat.le_refl _⟩ ⟨rfl, trivial⟩ zq23 rfl ?_
    rintro k ⟨hk1, hk2⟩
    by_cases hkt : t < k
    · have hd4 : decide ((i : Int) < ((a + k : Nat) : Int)) = true := decide_eq_true zO
      cases k with
      | zero => omega
      | succ k =>
        obtain ⟨z, hz⟩ : ∃ z, X'[k]? = some z := ⟨_, List.getElem?_eq_getElem zO⟩
        have hz2 := (List.getElem?_eq_some_iff.1 hz).2
        obtain ⟨L, hL⟩ : ∃ L, L = P ++ X'.take k := ⟨_, rfl⟩
        have hLl : L.length = a + k := by rw [hL, List.length_append, List.length_take]; omega
        have e2 : P ++ (X'.take k ++ y :: (X'.drop k ++ Q)) = L ++ y :: z :: (X'.drop (k + 1) ++ Q) := by
          rw [hL, List.drop_eq_getElem_cons (show k < X'.length by omega), hz2]
          simp only [List.append_assoc, List.cons_append]
        have e1 : P ++ (X'.take (k + 1) ++ y :: (X'.drop (k + 1) ++ Q)) = L ++ z :: y :: (X'.drop (k + 1) ++ Q) := by
          rw [hL, List.take_add_one, hz]
          simp only [Option.toList_some, List.append_assoc, List.cons_append, List.nil_append]
        have hDl : (L ++ z :: y :: (X'.drop (k + 1) ++ Q)).length = N := by
          simp only [List.length_append, List.length_cons, List.length_drop]
          omega
        obtain ⟨ga, gb⟩ := adj_get L (X'.drop (k + 1) ++ Q) z y
        have l1 : (((L ++ z :: y :: (X'.drop (k + 1) ++ Q)).flatMap encHi ++ tl).drop (0 + (((a + (k + 1) : Nat) : Int)).toNat * 4)).take 4 = encHi y := ldI gb zO
        have l2 : (((L ++ z :: y :: (X'.drop (k + 1) ++ Q)).flatMap encHi ++ tl).drop (0 + (((a + (k + 1) : Nat) : Int) - 1).toNat * 4)).take 4 = encHi z := ldI ga zO
        have s1 := spI (d := L ++ z :: y :: (X'.drop (k + 1) ++ Q)) (tl := tl) (i := L.length + 1) (z := ((a + (k + 1) : Nat) : Int)) z zO zO
        have s2 := spI (d := (L ++ z :: y :: (X'.drop (k + 1) ++ Q)).set (L.length + 1) z) (tl := tl) (i := L.length) (z := ((a + (k + 1) : Nat) : Int) - 1) y (by rw [List.length_set]; omega) zO
        rw [adj_dn, ← e2] at s2
        rw [e1]
        refine yq59 ?_; refine J3 ?_
        (repeat refine sq ?_)
        refine T.regionS [] 17 zK ?_; refine yq7 ?_; refine yq114 ?_; refine yq115 ?_; refine yq33 ?_; refine yq32 ?_
        refine TS.ways [9, 13] zK rfl zq20 ⟨⟨_, rfl, ?_⟩, ⟨_, rfl, ?_⟩, trivial⟩
        · refine yq72 ?_; refine yq4 ?_
          refine yq81 ?_
          refine yq72 ?_; refine yq18 ?_
          refine yq55 ?_
          (refine T.storeA Wanted.none rfl rfl zq8 zX .head s1 ?_); refine yq19 ?_
          refine yq45 ?_
          (refine T.storeA Wanted.none rfl rfl zq8 zX .head s2 ?_); refine yq11 ?_; refine J6 ?_
          ((rw [show ((a + (k + 1) : Nat) : Int) - 1 = ((a + k : Nat) : Int) by omega]; exact T.nextP k zO zO zq8 zq23 rfl))
        · refine yq72 ?_; refine yq4 ?_
          refine yq68 ?_
          refine yq72 ?_; refine yq18 ?_
          refine yq55 ?_
          (refine T.storeA Wanted.none rfl rfl zq8 zX .head s1 ?_); refine yq19 ?_
          refine yq45 ?_
          (refine T.storeA Wanted.none rfl rfl zq8 zX .head s2 ?_); refine yq11 ?_; refine J6 ?_
          ((rw [show ((a + (k + 1) : Nat) : Int) - 1 = ((a + k : Nat) : Int) by omega]; exact T.nextP k zO zO zq8 zq23 rfl))
    · have hd4 : decide ((i : Int) < ((a + k : Nat) : Int)) = false := decide_eq_false zO
      obtain rfl : k = t := by omega
      refine yq66 ?_; refine T.exit rfl ?_
      exact T.retW (Lv.finW _ (List.Sublist.refl _) (RV.none rfl) ⟨rfl, rfl, by rw [hmg]; simp only [List.append_assoc, List.cons_append]⟩)

end Go.Proofs.YtecogbhbkccblaaGreatDoor
namespace Go.Proofs.YtecogbhbkccblaaGreatDoor
open Go.RowKit


structure SyZG where
  i : Nat
  j : Nat
theorem symLZ_fn (key : Nat → Int) (Ok : Nat → Prop) (P Y Q : List Nat) (x : Nat) (N b capv : Nat) (tl : List Value) (gf : FuncId) [hE : Ent Tryz.prog gf] (cap : List Value) (H : Hp) (hN : N = P.length + 1 + Y.length + Q.length) (hs : N ≤ 1000000) (hY : KSorted key Y) (hxo : Ok x) (hyo : ∀ y ∈ Y, Ok y)
    (hg : ∀ x y, Ok x → Ok y → Fn Tryz.prog gf (zV x :: zV y :: cap).toArray H (fun u _ => u = .int .i64 (key x - key y))) :
    FnW Tryz.prog 238 #[.slice (some ⟨b, 0, none⟩) N capv, .int .i64 (P.length : Int), .int .i64 ((P.length + 1 : Nat) : Int), .int .i64 ((P.length + 1 + Y.length : Nat) : Int), .func (.func gf) #[] cap.toArray] H [BlkZ b tl (P ++ ([x] ++ (Y ++ Q)))] (fun u H' l' => u = .tuple #[] ∧ H' = H ∧ l' = [BlkZ b tl (P ++ (mrg key [x] Y ++ Q))]) := by
  obtain ⟨m, hm⟩ : ∃ m, m = P.length + 1 := ⟨_, rfl⟩
  obtain ⟨b2, hb2⟩ : ∃ b2, b2 = m + Y.length := ⟨_, rfl⟩
  rw [← hm, ← hb2]
  refine FnW.of_T (vs := [.slice (some ⟨b, 0, none⟩) N capv, .int .i64 (P.length : Int), .int .i64 (m : Int), .int .i64 (b2 : Int), .func (.func gf) #[] cap.toArray]) Tryz.func238 rfl rfl fun w => ?_
  have hd1 : decide ((m : Int) - (P.length : Int) = 1) = true := decide_eq_true zO
  refine J8 ?_; refine yq9 ?_; refine J12 ?_; refine T.loopK [(0, Value.slice (some { block := b, off := 0 }) N capv), (1, Value.int IntKind.i64 (↑P.length : Int)), (2, Value.int IntKind.i64 (↑m : Int)), (3, Value.int IntKind.i64 (↑b2 : Int)), (4, Value.func (Fn.func gf) #[] cap.toArray)] zq8 (γ := SyZG) (fun g => m ≤ g.i ∧ g.i ≤ g.j ∧ g.j ≤ b2 ∧ (∀ (q : Nat) (hq : q < Y.length), q + 1 + m = g.i → key Y[q] < key x) ∧ (∀ (hq : g.j - m < Y.length), key x ≤ key Y[g.j - m])) (fun g => [(10, .int .i64 (g.i : Int)), (11, .int .i64 (g.j : Int))]) (fun _ => [BlkZ b tl (P ++ ([x] ++ (Y ++ Q)))]) (fun _ => H) (fun g => g.j - g.i) ⟨m, b2⟩ ⟨Nat.le_refl _, by dsimp only; omega, Nat.le_refl _, fun q hq h => by dsimp only at h; omega, fun hq => by dsimp only at hq; omega⟩ zq8 zq23 rfl ?_
  rintro ⟨i, j⟩ ⟨c1, c2, c3, c4, c5⟩
  dsimp only at c1 c2 c3 c4 c5 ⊢
  by_cases hij : i < j
  · have hd2 : decide ((i : Int) < (j : Int)) = true := decide_eq_true zO
    obtain ⟨h, hh⟩ : ∃ h, h = (i + j) / 2 := ⟨_, rfl⟩
    have hq : h - m < Y.length := by omega
    obtain ⟨y, hy⟩ : ∃ y, y = Y[h - m] := ⟨_, rfl⟩
    have hcall := hg y x (by rw [hy]; exact hyo _ (List.getElem_mem hq)) hxo
    have g1 : (P ++ ([x] ++ (Y ++ Q)))[h]? = some y := by
      have := getY P [x] Y Q hq
      rw [List.length_singleton, ← hm, show m + (h - m) = h by omega, ← hy] at this
      exact this
    have g2 : (P ++ ([x] ++ (Y ++ Q)))[P.length]? = some x := getX P [x] (Y ++ Q) (q := 0) (by simp)
    have l1 : ((P ++ ([x] ++ (Y ++ Q))).flatMap encZi ++ tl)[0 + ((h : Int)).toNat * 1]? = some (.int .i64 (y : Int)) := ldZ g1 rfl
    have l2 : ((P ++ ([x] ++ (Y ++ Q))).flatMap encZi ++ tl)[0 + ((P.length : Int)).toNat * 1]? = some (.int .i64 (x : Int)) := ldZ g2 rfl
    have hsh : shrI .u64 ((i : Int) + (j : Int)) 1 = (h : Int) := by
      have := shr64 (x := i + j) (i := 1) zO
      rw [Nat.shiftRight_eq_div_pow, Nat.pow_one, ← hh] at this
      exact this
    by_cases hlt : key y < key x
    · have hdc : decide (key y - key x < 0) = true := decide_eq_true zO
      have hsh := hsh
      refine yq59 ?_; refine J7 ?_; refine yq25 ?_; refine J3 ?_
      (repeat refine sq ?_)
      refine yq64 ?_; refine yq118 ?_; refine yq36 ?_; refine yq86 ?_; (refine T.callQ (cap := cap) Wanted.none rfl rfl rfl hcall ?_; rintro _ rfl); refine yq50 ?_; refine yq37 ?_; refine yq110 ?_
      exact T.nextP ⟨h + 1, j⟩ ⟨by dsimp only; omega, by dsimp only; omega, c3, fun q hq2 he => by
        dsimp only at he
        obtain rfl : q = h - m := by omega
        rw [← hy]; exact hlt, c5⟩ zE zq8 zq23 rfl
    · have hdc : decide (key y - key x < 0) = false := decide_eq_false zO
      have hsh := hsh
      refine yq59 ?_; refine J7 ?_; refine yq25 ?_; refine J3 ?_
      (repeat refine sq ?_)
      refine yq64 ?_; refine yq118 ?_; refine yq36 ?_; refine yq86 ?_; (refine T.callQ (cap := cap) Wanted.none rfl rfl rfl hcall ?_; rintro _ rfl); refine yq50 ?_; refine yq37 ?_; refine yq6 ?_; refine J5 ?_
      exact T.nextP ⟨i, h⟩ ⟨c1, by dsimp only; omega, by dsimp only; omega, c4, fun hq2 => by
        dsimp only
        rw [← hy]; omega⟩ zE zq8 zq23 rfl
  · have hd2 : decide ((i : Int) < (j : Int)) = false := decide_eq_false zO
    obtain rfl : i = j := by omega
    obtain ⟨t, ht⟩ : ∃ t, t = i - m := ⟨_, rfl⟩
    have htl : t ≤ Y.length := by omega
    have hmg : mrg key [x] Y = Y.take t ++ x :: Y.drop t := mrg_oneL hY t htl (fun hy => by
      have := c5 (by rw [← ht]; exact hy)
      simp only [← ht] at this
      exact this) (fun q hq he => c4 q hq zO)
    refine yq66 ?_; refine J8 ?_; refine T.ownEq (l' := [BlkZ b tl (P ++ (Y.take 0 ++ x :: (Y.drop 0 ++ Q)))]) rfl ?_; refine T.loopK [(10, Value.int IntKind.i64 (↑i : Int)), (0, Value.slice (some { block := b, off := 0 }) N capv), (1, Value.int IntKind.i64 (↑P.length : Int)), (2, Value.int IntKind.i64 (↑m : Int)), (3, Value.int IntKind.i64 (↑b2 : Int)), (4, Value.func (Fn.func gf) #[] cap.toArray)] zq8 (γ := Nat) (fun k => k ≤ t) (fun k => [(13, .int .i64 ((P.length + k : Nat) : Int))]) (fun k => [BlkZ b tl (P ++ (Y.take k ++ x :: (Y.drop k ++ Q)))]) (fun _ => H) (fun k => t - k) 0 (Nat.zero_le _) ⟨rfl, trivial⟩ zq23 rfl ?_
    rintro k hk
    by_cases hkt : k < t
    · have hd3 : decide (((P.length + k : Nat) : Int) < (i : Int) - 1) = true := decide_eq_true zO
      obtain ⟨y, hy⟩ : ∃ y, Y[k]? = some y := ⟨_, List.getElem?_eq_getElem zO⟩
      have hy2 := (List.getElem?_eq_some_iff.1 hy).2
      obtain ⟨L, hL⟩ : ∃ L, L = P ++ Y.take k := ⟨_, rfl⟩
      have hLl : L.length = P.length + k := by rw [hL, List.length_append, List.length_take]; omega
      have e1 : P ++ (Y.take k ++ x :: (Y.drop k ++ Q)) = L ++ x :: y :: (Y.drop (k + 1) ++ Q) := by
        rw [hL, List.drop_eq_getElem_cons (show k < Y.length by omega), hy2]
        simp only [List.append_assoc, List.cons_append]
      have e2 : P ++ (Y.take (k + 1) ++ x :: (Y.drop (k + 1) ++ Q)) = L ++ y :: x :: (Y.drop (k + 1) ++ Q) := by
        rw [hL, List.take_add_one, hy]
        simp only [Option.toList_some, List.append_assoc, List.cons_append, List.nil_append]
      have hDl : (L ++ x :: y :: (Y.drop (k + 1) ++ Q)).length = N := by
        simp only [List.length_append, List.length_cons, List.length_drop]
        omega
      obtain ⟨ga, gb⟩ := adj_get L (Y.drop (k + 1) ++ Q) x y
      have l1 : ((L ++ x :: y :: (Y.drop (k + 1) ++ Q)).flatMap encZi ++ tl)[0 + (((P.length + k : Nat) : Int) + 1).toNat * 1]? = some (.int .i64 (y : Int)) := ldZ gb zO
      have l2 : ((L ++ x :: y :: (Y.drop (k + 1) ++ Q)).flatMap encZi ++ tl)[0 + (((P.length + k : Nat) : Int)).toNat * 1]? = some (.int .i64 (x : Int)) := ldZ ga zO
      have s1 := spZ (d := L ++ x :: y :: (Y.drop (k + 1) ++ Q)) (tl := tl) (i := L.length) (z := ((P.length + k : Nat) : Int)) y zO zO
      have s2 := spZ (d := (L ++ x :: y :: (Y.drop (k + 1) ++ Q)).set L.length y) (tl := tl) (i := L.length + 1) (z := ((P.length + k : Nat) : Int) + 1) x (by rw [List.length_set]; omega) zO
      rw [adj_up, ← e2] at s2
      rw [e1]
      refine J8 ?_; refine yq9 ?_; refine J3 ?_
      (repeat refine sq ?_)
      refine T.regionS [] 17 zK ?_; refine yq7 ?_; refine yq21 ?_; refine TS.take 4 rfl zK zK zK zK (PV.add rfl rfl zO) Wanted.none rfl rfl ?_; refine yq113 ?_; refine yq33 ?_; refine yq32 ?_
      refine TS.ways [9, 13] zK rfl zq20 ⟨⟨_, rfl, ?_⟩, ⟨_, rfl, ?_⟩, trivial⟩
      · refine yq43 ?_; refine yq4 ?_
        refine yq81 ?_
        refine yq43 ?_; refine yq18 ?_
        refine yq55 ?_
        (refine T.store1 Wanted.none rfl rfl rfl .head s1 ?_); refine yq19 ?_
        refine yq45 ?_
        (refine T.store1 Wanted.none rfl rfl rfl .head s2 ?_); refine yq11 ?_; refine J6 ?_; (exact T.nextP (k + 1) zO zO zq8 zq23 rfl)
      · refine yq43 ?_; refine yq4 ?_
        refine yq68 ?_
        refine yq43 ?_; refine yq18 ?_
        refine yq55 ?_
        (refine T.store1 Wanted.none rfl rfl rfl .head s1 ?_); refine yq19 ?_
        refine yq45 ?_
        (refine T.store1 Wanted.none rfl rfl rfl .head s2 ?_); refine yq11 ?_; refine J6 ?_; (exact T.nextP (k + 1) zO zO zq8 zq23 rfl)
    · have hd3 : decide (((P.length + k : Nat) : Int) < (i : Int) - 1) = false := decide_eq_false zO
      obtain rfl : k = t := by omega
      refine J8 ?_; refine yq6 ?_; refine T.exit rfl ?_
      exact T.retW (Lv.finW _ (List.Sublist.refl _) (RV.none rfl) ⟨rfl, rfl, by rw [hmg]; simp only [List.append_assoc, List.cons_append]⟩)
theorem symRZ_fn (key : Nat → Int) (Ok : Nat → Prop) (P X' Q : List Nat) (y : Nat) (N b capv : Nat) (tl : List Value) (gf : FuncId) [hE : Ent Tryz.prog gf] (cap : List Value) (H : Hp) (hN : N = P.length + X'.length + 1 + Q.length) (hs : N ≤ 1000000) (h1X : X'.length ≠ 1) (hX : KSorted key X') (hyo : Ok y) (hxo : ∀ x ∈ X', Ok x)
    (hg : ∀ x y, Ok x → Ok y → Fn Tryz.prog gf (zV x :: zV y :: cap).toArray H (fun u _ => u = .int .i64 (key x - key y))) :
    FnW Tryz.prog 238 #[.slice (some ⟨b, 0, none⟩) N capv, .int .i64 (P.length : Int), .int .i64 ((P.length + X'.length : Nat) : Int), .int .i64 ((P.length + X'.length + 1 : Nat) : Int), .func (.func gf) #[] cap.toArray] H [BlkZ b tl (P ++ (X' ++ ([y] ++ Q)))] (fun u H' l' => u = .tuple #[] ∧ H' = H ∧ l' = [BlkZ b tl (P ++ (mrg key X' [y] ++ Q))]) := by
  obtain ⟨a, ha⟩ : ∃ a, a = P.length := ⟨_, rfl⟩
  obtain ⟨m, hm⟩ : ∃ m, m = a + X'.length := ⟨_, rfl⟩
  rw [← ha, ← hm]
  refine FnW.of_T (vs := [.slice (some ⟨b, 0, none⟩) N capv, .int .i64 (a : Int), .int .i64 (m : Int), .int .i64 ((m + 1 : Nat) : Int), .func (.func gf) #[] cap.toArray]) Tryz.func238 rfl rfl fun w => ?_
  have hd1 : decide ((m : Int) - (a : Int) = 1) = false := decide_eq_false zO
  have hd2 : decide (((m + 1 : Nat) : Int) - (m : Int) = 1) = true := decide_eq_true zO
  refine J8 ?_; refine yq6 ?_; refine J9 ?_; refine yq9 ?_; refine J12 ?_; refine T.loopK [(0, Value.slice (some { block := b, off := 0 }) N capv), (1, Value.int IntKind.i64 (↑a : Int)), (2, Value.int IntKind.i64 (↑m : Int)), (3, Value.int IntKind.i64 (↑(m + 1) : Int)), (4, Value.func (Fn.func gf) #[] cap.toArray)] zq8 (γ := SyZG) (fun g => a ≤ g.i ∧ g.i ≤ g.j ∧ g.j ≤ m ∧ (∀ (q : Nat) (hq : q < X'.length), q + 1 + a = g.i → key X'[q] ≤ key y) ∧ (∀ (hq : g.j - a < X'.length), key y < key X'[g.j - a])) (fun g => [(14, .int .i64 (g.i : Int)), (15, .int .i64 (g.j : Int))]) (fun _ => [BlkZ b tl (P ++ (X' ++ ([y] ++ Q)))]) (fun _ => H) (fun g => g.j - g.i) ⟨a, m⟩ ⟨Nat.le_refl _, by dsimp only; omega, Nat.le_refl _, fun q hq h => by dsimp only at h; omega, fun hq => by dsimp only at hq; omega⟩ zq8 zq23 rfl ?_
  rintro ⟨i, j⟩ ⟨c1, c2, c3, c4, c5⟩
  dsimp only at c1 c2 c3 c4 c5 ⊢
  by_cases hij : i < j
  · have hd3 : decide ((i : Int) < (j : Int)) = true := decide_eq_true zO
    obtain ⟨h, hh⟩ : ∃ h, h = (i + j) / 2 := ⟨_, rfl⟩
    have hq : h - a < X'.length := by omega
    obtain ⟨x, hx⟩ : ∃ x, x = X'[h - a] := ⟨_, rfl⟩
    have hcall := hg y x hyo (by rw [hx]; exact hxo _ (List.getElem_mem hq))
    have g1 : (P ++ (X' ++ ([y] ++ Q)))[h]? = some x := by
      have := getX P X' ([y] ++ Q) hq
      rw [← ha, show a + (h - a) = h by omega, ← hx] at this
      exact this
    have g2 : (P ++ (X' ++ ([y] ++ Q)))[m]? = some y := by
      have := getY P X' [y] Q (q := 0) (by simp)
      rw [← ha, ← hm] at this
      exact this
    have l1 : ((P ++ (X' ++ ([y] ++ Q))).flatMap encZi ++ tl)[0 + ((h : Int)).toNat * 1]? = some (.int .i64 (x : Int)) := ldZ g1 rfl
    have l2 : ((P ++ (X' ++ ([y] ++ Q))).flatMap encZi ++ tl)[0 + ((m : Int)).toNat * 1]? = some (.int .i64 (y : Int)) := ldZ g2 rfl
    have hsh : shrI .u64 ((i : Int) + (j : Int)) 1 = (h : Int) := by
      have := shr64 (x := i + j) (i := 1) zO
      rw [Nat.shiftRight_eq_div_pow, Nat.pow_one, ← hh] at this
      exact this
    by_cases hlt : key y < key x
    · have hdc : (!decide (key y - key x < 0)) = false := by rw [decide_eq_true zO]; rfl
      have hsh := hsh
      refine yq59 ?_; refine J7 ?_; refine yq25 ?_; refine J3 ?_
      (repeat refine sq ?_)
      refine yq64 ?_; refine yq118 ?_; refine yq36 ?_; refine yq86 ?_; (refine T.callQ (cap := cap) Wanted.none rfl rfl rfl hcall ?_; rintro _ rfl); refine yq50 ?_; refine TO.take 11 rfl zK zK zK (PV.not rfl) Wanted.none rfl rfl ?_; refine yq37 ?_; refine yq6 ?_; refine J5 ?_
      exact T.nextP ⟨i, h⟩ ⟨c1, by dsimp only; omega, by dsimp only; omega, c4, fun hq2 => by
        dsimp only
        rw [← hx]; exact hlt⟩ zE zq8 zq23 rfl
    · have hdc : (!decide (key y - key x < 0)) = true := by rw [decide_eq_false zO]; rfl
      have hsh := hsh
      refine yq59 ?_; refine J7 ?_; refine yq25 ?_; refine J3 ?_
      (repeat refine sq ?_)
      refine yq64 ?_; refine yq118 ?_; refine yq36 ?_; refine yq86 ?_; (refine T.callQ (cap := cap) Wanted.none rfl rfl rfl hcall ?_; rintro _ rfl); refine yq50 ?_; refine TO.take 11 rfl zK zK zK (PV.not rfl) Wanted.none rfl rfl ?_; refine yq37 ?_; refine yq110 ?_
      exact T.nextP ⟨h + 1, j⟩ ⟨by dsimp only; omega, by dsimp only; omega, c3, fun q hq2 he => by
        dsimp only at he
        obtain rfl : q = h - a := by omega
        rw [← hx]; omega, c5⟩ zE zq8 zq23 rfl
  · have hd3 : decide ((i : Int) < (j : Int)) = false := decide_eq_false zO
    obtain rfl : i = j := by omega
    obtain ⟨t, ht⟩ : ∃ t, t = i - a := ⟨_, rfl⟩
    have htl : t ≤ X'.length := by omega
    have hmg : mrg key X' [y] = X'.take t ++ y :: X'.drop t := mrg_oneR hX t htl (fun q hq he => c4 q hq zO) (fun hx => by
      have := c5 (by rw [← ht]; exact hx)
      simp only [← ht] at this
      exact this)
    refine yq66 ?_; refine J8 ?_; refine T.ownEq (l' := [BlkZ b tl (P ++ (X'.take X'.length ++ y :: (X'.drop X'.length ++ Q)))]) (by rw [List.take_length, List.drop_length]; rfl) ?_
    rw [hm]
    refine T.loopK [(14, Value.int IntKind.i64 (↑i : Int)), (0, Value.slice (some { block := b, off := 0 }) N capv), (1, Value.int IntKind.i64 (↑a : Int)), (2, Value.int IntKind.i64 (↑(a + X'.length) : Int)), (3, Value.int IntKind.i64 (↑(a + X'.length + 1) : Int)), (4, Value.func (Fn.func gf) #[] cap.toArray)] zq8 (γ := Nat) (fun k => t ≤ k ∧ k ≤ X'.length) (fun k => [(17, .int .i64 ((a + k : Nat) : Int))]) (fun k => [BlkZ b tl (P ++ (X'.take k ++ y :: (X'.drop k ++ Q)))]) (fun _ => H) (fun k => k) X'.length ⟨htl, Nat.le_refl _⟩ ⟨rfl, trivial⟩ zq23 rfl ?_
    rintro k ⟨hk1, hk2⟩
    by_cases hkt : t < k
    · have hd4 : decide ((i : Int) < ((a + k : Nat) : Int)) = true := decide_eq_true zO
      cases k with
      | zero => omega
      | succ k =>
        obtain ⟨z, hz⟩ : ∃ z, X'[k]? = some z := ⟨_, List.getElem?_eq_getElem zO⟩
        have hz2 := (List.getElem?_eq_some_iff.1 hz).2
        obtain ⟨L, hL⟩ : ∃ L, L = P ++ X'.take k := ⟨_, rfl⟩
        have hLl : L.length = a + k := by rw [hL, List.length_append, List.length_take]; omega
        have e2 : P ++ (X'.take k ++ y :: (X'.drop k ++ Q)) = L ++ y :: z :: (X'.drop (k + 1) ++ Q) := by
          rw [hL, List.drop_eq_getElem_cons (show k < X'.length by omega), hz2]
          simp only [List.append_assoc, List.cons_append]
        have e1 : P ++ (X'.take (k + 1) ++ y :: (X'.drop (k + 1) ++ Q)) = L ++ z :: y :: (X'.drop (k + 1) ++ Q) := by
          rw [hL, List.take_add_one, hz]
          simp only [Option.toList_some, List.append_assoc, List.cons_append, List.nil_append]
        have hDl : (L ++ z :: y :: (X'.drop (k + 1) ++ Q)).length = N := by
          simp only [List.length_append, List.length_cons, List.length_drop]
          omega
        obtain ⟨ga, gb⟩ := adj_get L (X'.drop (k + 1) ++ Q) z y
        have l1 : ((L ++ z :: y :: (X'.drop (k + 1) ++ Q)).flatMap encZi ++ tl)[0 + (((a + (k + 1) : Nat) : Int)).toNat * 1]? = some (.int .i64 (y : Int)) := ldZ gb zO
        have l2 : ((L ++ z :: y :: (X'.drop (k + 1) ++ Q)).flatMap encZi ++ tl)[0 + (((a + (k + 1) : Nat) : Int) - 1).toNat * 1]? = some (.int .i64 (z : Int)) := ldZ ga zO
        have s1 := spZ (d := L ++ z :: y :: (X'.drop (k + 1) ++ Q)) (tl := tl) (i := L.length + 1) (z := ((a + (k + 1) : Nat) : Int)) z zO zO
        have s2 := spZ (d := (L ++ z :: y :: (X'.drop (k + 1) ++ Q)).set (L.length + 1) z) (tl := tl) (i := L.length) (z := ((a + (k + 1) : Nat) : Int) - 1) y (by rw [List.length_set]; omega) zO
        rw [adj_dn, ← e2] at s2
        rw [e1]
        refine yq59 ?_; refine J3 ?_
        (repeat refine sq ?_)
        refine T.regionS [] 17 zK ?_; refine yq7 ?_; refine yq114 ?_; refine yq115 ?_; refine yq33 ?_; refine yq32 ?_
        refine TS.ways [9, 13] zK rfl zq20 ⟨⟨_, rfl, ?_⟩, ⟨_, rfl, ?_⟩, trivial⟩
        · refine yq43 ?_; refine yq4 ?_
          refine yq81 ?_
          refine yq43 ?_; refine yq18 ?_
          refine yq55 ?_
          (refine T.store1 Wanted.none rfl rfl rfl .head s1 ?_); refine yq19 ?_
          refine yq45 ?_
          (refine T.store1 Wanted.none rfl rfl rfl .head s2 ?_); refine yq11 ?_; refine J6 ?_
          ((rw [show ((a + (k + 1) : Nat) : Int) - 1 = ((a + k : Nat) : Int) by omega]; exact T.nextP k zO zO zq8 zq23 rfl))
        · refine yq43 ?_; refine yq4 ?_
          refine yq68 ?_
          refine yq43 ?_; refine yq18 ?_
          refine yq55 ?_
          (refine T.store1 Wanted.none rfl rfl rfl .head s1 ?_); refine yq19 ?_
          refine yq45 ?_
          (refine T.store1 Wanted.none rfl rfl rfl .head s2 ?_); refine yq11 ?_; refine J6 ?_
          ((rw [show ((a + (k + 1) : Nat) : Int) - 1 = ((a + k : Nat) : Int) by omega]; exact T.nextP k zO zO zq8 zq23 rfl))
    · have hd4 : decide ((i : Int) < ((a + k : Nat) : Int)) = false := decide_eq_false zO
      obtain rfl : k = t := by omega
      refine yq66 ?_; refine T.exit rfl ?_
      exact T.retW (Lv.finW _ (List.Sublist.refl _) (RV.none rfl) ⟨rfl, rfl, by rw [hmg]; simp only [List.append_assoc, List.cons_append]⟩)

end Go.Proofs.YtecogbhbkccblaaGreatDoor
