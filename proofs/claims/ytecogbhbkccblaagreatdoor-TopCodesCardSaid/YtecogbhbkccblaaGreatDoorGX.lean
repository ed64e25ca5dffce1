/- the library's stable sort: places that change; ranges that change; rotation.
   the library's stable sort: places that change; ranges that change; rotation.
   the library's insertion sort.
   the library's insertion sort. -/
import Derived.Test.YtecogbhbkccblaaGreatDoorGW
set_option maxRecDepth 4000
set_option maxHeartbeats 40000000
set_option linter.all false
namespace Go.Proofs.YtecogbhbkccblaaGreatDoor
open Go.RowKit


def encHi (x : Hi) : List Value := [.int .i64 x.w, .int .i64 x.s, .int .i64 x.l, .int .i64 x.r]
def hiV (x : Hi) : Value := .agg (encHi x).toArray
theorem lenI (x : Hi) : (encHi x).length = 4 := rfl
theorem ldI {d : List Hi} {tl : List Value} {i : Nat} {x : Hi} {z : Int} (h : d[i]? = some x) (hz : z = (i : Int)) : ((d.flatMap encHi ++ tl).drop (0 + z.toNat * 4)).take 4 = encHi x := by
  subst hz; exact getRow lenI tl h
theorem spI {d : List Hi} {tl : List Value} {i : Nat} {z : Int} (x : Hi) (h : i < d.length) (hz : z = (i : Int)) : Splice (d.flatMap encHi ++ tl) (0 + z.toNat * 4) (encHi x) ((d.set i x).flatMap encHi ++ tl) := by
  subst hz; exact splice_row lenI x tl h
/-- the block of a row -/
abbrev BlkI (b : Nat) (tl : List Value) (d : List Hi) : Nat × Obj := (b, .cells (d.flatMap encHi ++ tl).toArray 192 (0, 0))
theorem swapI_fn (P A M B Q : List Hi) (n N b capv : Nat) (tl : List Value) (g : Value) (H : Hp) (hA : A.length = n) (hB : B.length = n) (hN : N = P.length + n + M.length + n + Q.length) (hs : N ≤ 1000000) :
    FnW Tryz.prog 242 #[.slice (some ⟨b, 0, none⟩) N capv, .int .i64 (P.length : Int), .int .i64 ((P.length + n + M.length : Nat) : Int), .int .i64 (n : Int), g] H [BlkI b tl (P ++ (A ++ (M ++ (B ++ Q))))] (fun u H' l' => u = .tuple #[] ∧ H' = H ∧ l' = [BlkI b tl (P ++ (B ++ (M ++ (A ++ Q))))]) := by
  have h0 := swK_zero P A M B Q
  have hall := swK_all P A M B Q hA hB
  have hlen : ∀ k, k ≤ n → (swK P A M B Q k).length = N := fun k hk => by
    unfold swK
    simp only [List.length_append, List.length_take, List.length_drop]
    omega
  rw [← h0, ← hall]
  refine FnW.of_T (vs := [.slice (some ⟨b, 0, none⟩) N capv, .int .i64 (P.length : Int), .int .i64 ((P.length + n + M.length : Nat) : Int), .int .i64 (n : Int), g]) Tryz.func242 rfl rfl fun w => ?_; refine J5 ?_; refine T.loopK [(0, Value.slice (some { block := b, off := 0 }) N capv), (1, Value.int IntKind.i64 (↑P.length : Int)), (2, Value.int IntKind.i64 (↑(P.length + n + M.length) : Int)), (3, Value.int IntKind.i64 (↑n : Int))] zq8 (γ := Nat) (fun k => k ≤ n) (fun k => [(10, .int .i64 (k : Int))]) (fun k => [BlkI b tl (swK P A M B Q k)]) (fun _ => H) (fun k => n - k) 0 (Nat.zero_le _) ⟨rfl, trivial⟩ zq23 rfl ?_
  rintro k hk
  have hlk := hlen k hk
  by_cases h : k < n
  · obtain ⟨x, y, g1, g2, g3⟩ := swK_step P A M B Q hA hB h
    have hd : decide ((k : Int) < (n : Int)) = true := decide_eq_true zO
    have l1 : (((swK P A M B Q k).flatMap encHi ++ tl).drop (0 + ((P.length : Int) + (k : Int)).toNat * 4)).take 4 = encHi x := ldI g1 zO
    have l2 : (((swK P A M B Q k).flatMap encHi ++ tl).drop (0 + (((P.length + n + M.length : Nat) : Int) + (k : Int)).toNat * 4)).take 4 = encHi y := ldI g2 zO
    have s1 := spI (d := swK P A M B Q k) (tl := tl) (i := P.length + k) (z := (P.length : Int) + (k : Int)) y zO zO
    have s2 := spI (d := (swK P A M B Q k).set (P.length + k) y) (tl := tl) (i := P.length + n + M.length + k) (z := ((P.length + n + M.length : Nat) : Int) + (k : Int)) x (by rw [List.length_set]; omega) zO
    rw [g3] at s2
    refine yq59 ?_; refine J3 ?_
    (repeat refine sq ?_)
    refine T.regionS [] 23 zK ?_; refine yq7 ?_; refine TS.take 2 rfl zK zK zK zK (PV.move rfl) Wanted.none rfl rfl ?_; refine TS.take 3 rfl zK zK zK zK (PV.add rfl rfl zO) Wanted.none rfl rfl ?_; refine TS.take 4 rfl zK zK zK zK (PV.move rfl) Wanted.none rfl rfl ?_; refine yq113 ?_; refine TS.take 8 rfl zK zK zK zK (PV.move rfl) Wanted.none rfl rfl ?_; refine TS.take 9 rfl zK zK zK zK (PV.move rfl) Wanted.none rfl rfl ?_; refine TS.take 10 rfl zK zK zK zK (PV.move rfl) Wanted.none rfl rfl ?_; refine TS.take 11 rfl zK zK zK zK (PV.add rfl rfl zO) Wanted.none rfl rfl ?_; refine TS.take 12 rfl zK zK zK zK (PV.indexAddr rfl rfl zO) Wanted.none rfl rfl ?_; refine TS.take 14 rfl zK zK zK zK (PV.move rfl) Wanted.none rfl rfl ?_; refine TS.take 15 rfl zK zK zK zK (PV.move rfl) Wanted.none rfl rfl ?_; refine TS.take 16 rfl zK zK zK zK (PV.move rfl) Wanted.none rfl rfl ?_; refine TS.take 17 rfl zK zK zK zK (PV.add rfl rfl zO) Wanted.none rfl rfl ?_; refine TS.take 18 rfl zK zK zK zK (PV.indexAddr rfl rfl zO) Wanted.none rfl rfl ?_
    refine TS.ways [13, 19] zK rfl zq20 ⟨⟨_, rfl, ?_⟩, ⟨_, rfl, ?_⟩, trivial⟩
    · refine yq72 ?_; refine yq4 ?_
      refine TS.ways [19] zK rfl zq20 ⟨⟨_, rfl, ?_⟩, trivial⟩
      refine yq72 ?_; refine yq107 ?_
      refine TS.ways [21] zK rfl zq20 ⟨⟨_, rfl, ?_⟩, trivial⟩
      (refine T.storeA Wanted.none rfl rfl zq8 zX .head s1 ?_); refine yq108 ?_
      refine TS.ways [23] zK rfl zq20 ⟨⟨_, rfl, ?_⟩, trivial⟩
      (refine T.storeA Wanted.none rfl rfl zq8 zX .head s2 ?_); refine yq11 ?_; refine J6 ?_; (exact T.nextP (k + 1) zO zO zq8 zq23 rfl)
    · refine yq72 ?_; refine yq4 ?_
      refine yq81 ?_
      refine yq72 ?_; refine yq107 ?_
      refine TS.ways [21] zK rfl zq20 ⟨⟨_, rfl, ?_⟩, trivial⟩
      (refine T.storeA Wanted.none rfl rfl zq8 zX .head s1 ?_); refine yq108 ?_
      refine TS.ways [23] zK rfl zq20 ⟨⟨_, rfl, ?_⟩, trivial⟩
      (refine T.storeA Wanted.none rfl rfl zq8 zX .head s2 ?_); refine yq11 ?_; refine J6 ?_; (exact T.nextP (k + 1) zO zO zq8 zq23 rfl)
  · have hd : decide ((k : Int) < (n : Int)) = false := decide_eq_false zO
    obtain rfl : k = n := by omega
    refine yq66 ?_; refine T.exit rfl ?_
    exact T.fallW (Lv.finW _ (List.Sublist.refl _) (RV.none rfl) ⟨rfl, rfl, rfl⟩)
structure RoIG where
  i : Nat
  j : Nat
  P : List Hi
  A : List Hi
  B : List Hi
  Q : List Hi
theorem rotateI_fn (P A B Q : List Hi) (N b capv : Nat) (tl : List Value) (g : Value) (H : Hp) (hA : A ≠ []) (hB : B ≠ []) (hN : N = P.length + A.length + B.length + Q.length) (hs : N ≤ 1000000) :
    FnW Tryz.prog 237 #[.slice (some ⟨b, 0, none⟩) N capv, .int .i64 (P.length : Int), .int .i64 ((P.length + A.length : Nat) : Int), .int .i64 ((P.length + A.length + B.length : Nat) : Int), g] H [BlkI b tl (P ++ (A ++ (B ++ Q)))] (fun u H' l' => u = .tuple #[] ∧ H' = H ∧ l' = [BlkI b tl (P ++ (B ++ (A ++ Q)))]) := by
  have hA0 : 0 < A.length := List.length_pos_iff.2 hA
  have hB0 : 0 < B.length := List.length_pos_iff.2 hB
  obtain ⟨m, hm⟩ : ∃ m, m = P.length + A.length := ⟨_, rfl⟩
  obtain ⟨F, hF⟩ : ∃ F, F = P ++ (B ++ (A ++ Q)) := ⟨_, rfl⟩
  rw [← hm, ← hF]
  refine FnW.of_T (vs := [.slice (some ⟨b, 0, none⟩) N capv, .int .i64 (P.length : Int), .int .i64 (m : Int), .int .i64 ((m + B.length : Nat) : Int), g]) Tryz.func237 rfl rfl fun w => ?_; refine J16 ?_
  rw [show (m : Int) - (P.length : Int) = (A.length : Int) by omega, show ((m + B.length : Nat) : Int) - (m : Int) = (B.length : Int) by omega]
  refine T.loopK [(0, Value.slice (some { block := b, off := 0 }) N capv), (2, Value.int IntKind.i64 (↑m : Int)), (4, g)] zq8 (γ := RoIG) (fun g => g.i = g.A.length ∧ g.j = g.B.length ∧ 0 < g.i ∧ 0 < g.j ∧ g.P.length + g.i = m ∧ N = m + g.j + g.Q.length ∧ F = g.P ++ (g.B ++ (g.A ++ g.Q))) (fun g => [(10, .int .i64 (g.i : Int)), (11, .int .i64 (g.j : Int))]) (fun g => [BlkI b tl (g.P ++ (g.A ++ (g.B ++ g.Q)))]) (fun _ => H) (fun g => g.i + g.j) ⟨A.length, B.length, P, A, B, Q⟩ ⟨rfl, rfl, hA0, hB0, hm.symm, by dsimp only; omega, hF⟩ zq8 zq23 rfl ?_
  rintro ⟨i, j, P1, A1, B1, Q1⟩ ⟨hi, hj, hi0, hj0, hP, hNN, hFF⟩
  dsimp only at hi hj hi0 hj0 hP hNN hFF ⊢
  by_cases hij : i = j
  · have hd : decide ((i : Int) ≠ (j : Int)) = false := decide_eq_false zO
    have hsw := swapI_fn P1 A1 [] B1 Q1 i N b capv tl g H hi.symm zO (by simp only [List.length_nil]; omega) hs
    rw [List.nil_append, List.nil_append, show P1.length + i + ([] : List Hi).length = m by simp only [List.length_nil]; omega, show (P1.length : Int) = (m : Int) - (i : Int) by omega, ← hFF] at hsw
    refine yq66 ?_; refine J9 ?_; refine T.callWV Wanted.none rfl rfl hsw zq1 ?_; refine so ?_
    exact T.fallW (Lv.finW _ zq4 (RV.none rfl) ⟨rfl, rfl, rfl⟩)
  · have hd : decide ((i : Int) ≠ (j : Int)) = true := decide_eq_true zO
    by_cases hgt : j < i
    · have hd2 : decide ((j : Int) < (i : Int)) = true := decide_eq_true zO
      obtain ⟨C1, hC1⟩ : ∃ C1, C1 = A1.take j := ⟨_, rfl⟩
      obtain ⟨C2, hC2⟩ : ∃ C2, C2 = A1.drop j := ⟨_, rfl⟩
      have hC : A1 = C1 ++ C2 := by rw [hC1, hC2, List.take_append_drop]
      have l1 : C1.length = j := by rw [hC1, List.length_take]; omega
      have l2 : C2.length = i - j := by rw [hC2, List.length_drop]; omega
      have hsw := swapI_fn P1 C1 C2 B1 Q1 j N b capv tl g H l1 hj.symm zO hs
      rw [show P1.length + j + C2.length = m by omega, show (P1.length : Int) = (m : Int) - (i : Int) by omega, ← List.append_assoc C1, ← hC] at hsw
      refine yq59 ?_; refine J8 ?_; refine yq9 ?_; refine J9 ?_; refine T.callWV Wanted.none rfl rfl hsw zq1 ?_; refine J8 ?_
      refine T.nextP ⟨i - j, j, P1 ++ B1, C2, C1, Q1⟩ ⟨l2.symm, l1.symm, by dsimp only; omega, hj0, by dsimp only; rw [List.length_append]; omega, hNN, by dsimp only; rw [hFF, hC, rot_left]⟩ zE ⟨by dsimp only; rw [show ((i - j : Nat) : Int) = (i : Int) - (j : Int) by omega]; exact rfl, by repeat (first | exact trivial | refine And.intro rfl ?_)⟩ ?_ rfl
      dsimp only
      rw [List.append_assoc P1 B1]
      exact zq23
    · have hd2 : decide ((j : Int) < (i : Int)) = false := decide_eq_false zO
      obtain ⟨C1, hC1⟩ : ∃ C1, C1 = B1.take (j - i) := ⟨_, rfl⟩
      obtain ⟨C2, hC2⟩ : ∃ C2, C2 = B1.drop (j - i) := ⟨_, rfl⟩
      have hC : B1 = C1 ++ C2 := by rw [hC1, hC2, List.take_append_drop]
      have l1 : C1.length = j - i := by rw [hC1, List.length_take]; omega
      have l2 : C2.length = i := by rw [hC2, List.length_drop]; omega
      have hsw := swapI_fn P1 A1 C1 C2 Q1 i N b capv tl g H hi.symm l2 zO hs
      rw [show ((P1.length + i + C1.length : Nat) : Int) = (m : Int) + (j : Int) - (i : Int) by omega, show (P1.length : Int) = (m : Int) - (i : Int) by omega, ← List.append_assoc C1, ← hC] at hsw
      refine yq59 ?_; refine J8 ?_; refine yq6 ?_; refine J13 ?_; refine T.callWV Wanted.none rfl rfl hsw zq1 ?_; refine J8 ?_
      exact T.nextP ⟨i, j - i, P1, C2, C1, A1 ++ Q1⟩ ⟨l2.symm, l1.symm, hi0, by dsimp only; omega, hP, by dsimp only; rw [List.length_append]; omega, by dsimp only; rw [hFF, hC]; simp only [List.append_assoc]⟩ zE ⟨rfl, by dsimp only; rw [show ((j - i : Nat) : Int) = (j : Int) - (i : Int) by omega]; exact rfl, by repeat (first | exact trivial | refine And.intro rfl ?_)⟩ zq23 rfl

end Go.Proofs.YtecogbhbkccblaaGreatDoor
namespace Go.Proofs.YtecogbhbkccblaaGreatDoor
open Go.RowKit


def encZi (x : Nat) : List Value := [.int .i64 (x : Int)]
def zV (x : Nat) : Value := .int .i64 (x : Int)
theorem lenZ (x : Nat) : (encZi x).length = 1 := rfl
theorem ldZ {d : List Nat} {tl : List Value} {i : Nat} {x : Nat} {z : Int} (h : d[i]? = some x) (hz : z = (i : Int)) : (d.flatMap encZi ++ tl)[0 + z.toNat * 1]? = some (.int .i64 (x : Int)) := by
  subst hz
  have h1 := getRow lenZ tl h
  have h2 := congrArg (fun l : List Value => l[0]?) h1
  simpa [List.getElem?_take, List.getElem?_drop, encZi] using h2
theorem spZ {d : List Nat} {tl : List Value} {i : Nat} {z : Int} (x : Nat) (h : i < d.length) (hz : z = (i : Int)) : Splice (d.flatMap encZi ++ tl) (0 + z.toNat * 1) (encZi x) ((d.set i x).flatMap encZi ++ tl) := by
  subst hz; exact splice_row lenZ x tl h
/-- the block of a row -/
abbrev BlkZ (b : Nat) (tl : List Value) (d : List Nat) : Nat × Obj := (b, .cells (d.flatMap encZi ++ tl).toArray 3 (0, 0))
theorem swapZ_fn (P A M B Q : List Nat) (n N b capv : Nat) (tl : List Value) (g : Value) (H : Hp) (hA : A.length = n) (hB : B.length = n) (hN : N = P.length + n + M.length + n + Q.length) (hs : N ≤ 1000000) :
    FnW Tryz.prog 245 #[.slice (some ⟨b, 0, none⟩) N capv, .int .i64 (P.length : Int), .int .i64 ((P.length + n + M.length : Nat) : Int), .int .i64 (n : Int), g] H [BlkZ b tl (P ++ (A ++ (M ++ (B ++ Q))))] (fun u H' l' => u = .tuple #[] ∧ H' = H ∧ l' = [BlkZ b tl (P ++ (B ++ (M ++ (A ++ Q))))]) := by
  have h0 := swK_zero P A M B Q
  have hall := swK_all P A M B Q hA hB
  have hlen : ∀ k, k ≤ n → (swK P A M B Q k).length = N := fun k hk => by
    unfold swK
    simp only [List.length_append, List.length_take, List.length_drop]
    omega
  rw [← h0, ← hall]
  refine FnW.of_T (vs := [.slice (some ⟨b, 0, none⟩) N capv, .int .i64 (P.length : Int), .int .i64 ((P.length + n + M.length : Nat) : Int), .int .i64 (n : Int), g]) Tryz.func245 rfl rfl fun w => ?_; refine J5 ?_; refine T.loopK [(0, Value.slice (some { block := b, off := 0 }) N capv), (1, Value.int IntKind.i64 (↑P.length : Int)), (2, Value.int IntKind.i64 (↑(P.length + n + M.length) : Int)), (3, Value.int IntKind.i64 (↑n : Int))] zq8 (γ := Nat) (fun k => k ≤ n) (fun k => [(10, .int .i64 (k : Int))]) (fun k => [BlkZ b tl (swK P A M B Q k)]) (fun _ => H) (fun k => n - k) 0 (Nat.zero_le _) ⟨rfl, trivial⟩ zq23 rfl ?_
  rintro k hk
  have hlk := hlen k hk
  by_cases h : k < n
  · obtain ⟨x, y, g1, g2, g3⟩ := swK_step P A M B Q hA hB h
    have hd : decide ((k : Int) < (n : Int)) = true := decide_eq_true zO
    have l1 : ((swK P A M B Q k).flatMap encZi ++ tl)[0 + ((P.length : Int) + (k : Int)).toNat * 1]? = some (.int .i64 (x : Int)) := ldZ g1 zO
    have l2 : ((swK P A M B Q k).flatMap encZi ++ tl)[0 + (((P.length + n + M.length : Nat) : Int) + (k : Int)).toNat * 1]? = some (.int .i64 (y : Int)) := ldZ g2 zO
    have s1 := spZ (d := swK P A M B Q k) (tl := tl) (i := P.length + k) (z := (P.length : Int) + (k : Int)) y zO zO
    have s2 := spZ (d := (swK P A M B Q k).set (P.length + k) y) (tl := tl) (i := P.length + n + M.length + k) (z := ((P.length + n + M.length : Nat) : Int) + (k : Int)) x (by rw [List.length_set]; omega) zO
    rw [g3] at s2
    refine yq59 ?_; refine J3 ?_
    (repeat refine sq ?_)
    refine T.regionS [] 23 zK ?_; refine yq7 ?_; refine TS.take 2 rfl zK zK zK zK (PV.move rfl) Wanted.none rfl rfl ?_; refine TS.take 3 rfl zK zK zK zK (PV.add rfl rfl zO) Wanted.none rfl rfl ?_; refine TS.take 4 rfl zK zK zK zK (PV.move rfl) Wanted.none rfl rfl ?_; refine yq113 ?_; refine TS.take 8 rfl zK zK zK zK (PV.move rfl) Wanted.none rfl rfl ?_; refine TS.take 9 rfl zK zK zK zK (PV.move rfl) Wanted.none rfl rfl ?_; refine TS.take 10 rfl zK zK zK zK (PV.move rfl) Wanted.none rfl rfl ?_; refine TS.take 11 rfl zK zK zK zK (PV.add rfl rfl zO) Wanted.none rfl rfl ?_; refine TS.take 12 rfl zK zK zK zK (PV.indexAddr rfl rfl zO) Wanted.none rfl rfl ?_; refine TS.take 14 rfl zK zK zK zK (PV.move rfl) Wanted.none rfl rfl ?_; refine TS.take 15 rfl zK zK zK zK (PV.move rfl) Wanted.none rfl rfl ?_; refine TS.take 16 rfl zK zK zK zK (PV.move rfl) Wanted.none rfl rfl ?_; refine TS.take 17 rfl zK zK zK zK (PV.add rfl rfl zO) Wanted.none rfl rfl ?_; refine TS.take 18 rfl zK zK zK zK (PV.indexAddr rfl rfl zO) Wanted.none rfl rfl ?_
    refine TS.ways [13, 19] zK rfl zq20 ⟨⟨_, rfl, ?_⟩, ⟨_, rfl, ?_⟩, trivial⟩
    · refine yq43 ?_; refine yq4 ?_
      refine TS.ways [19] zK rfl zq20 ⟨⟨_, rfl, ?_⟩, trivial⟩
      refine yq43 ?_; refine yq107 ?_
      refine TS.ways [21] zK rfl zq20 ⟨⟨_, rfl, ?_⟩, trivial⟩
      (refine T.store1 Wanted.none rfl rfl rfl .head s1 ?_); refine yq108 ?_
      refine TS.ways [23] zK rfl zq20 ⟨⟨_, rfl, ?_⟩, trivial⟩
      (refine T.store1 Wanted.none rfl rfl rfl .head s2 ?_); refine yq11 ?_; refine J6 ?_; (exact T.nextP (k + 1) zO zO zq8 zq23 rfl)
    · refine yq43 ?_; refine yq4 ?_
      refine yq81 ?_
      refine yq43 ?_; refine yq107 ?_
      refine TS.ways [21] zK rfl zq20 ⟨⟨_, rfl, ?_⟩, trivial⟩
      (refine T.store1 Wanted.none rfl rfl rfl .head s1 ?_); refine yq108 ?_
      refine TS.ways [23] zK rfl zq20 ⟨⟨_, rfl, ?_⟩, trivial⟩
      (refine T.store1 Wanted.none rfl rfl rfl .head s2 ?_); refine yq11 ?_; refine J6 ?_; (exact T.nextP (k + 1) zO zO zq8 zq23 rfl)
  · have hd : decide ((k : Int) < (n : Int)) = false := decide_eq_false zO
    obtain rfl : k = n := by omega
    refine yq66 ?_; refine T.exit rfl ?_
    exact T.fallW (Lv.finW _ (List.Sublist.refl _) (RV.none rfl) ⟨rfl, rfl, rfl⟩)
structure RoZG where
  i : Nat
  j : Nat
  P : List Nat
  A : List Nat
  B : List Nat
  Q : List Nat
theorem rotateZ_fn (P A B Q : List Nat) (N b capv : Nat) (tl : List Value) (g : Value) (H : Hp) (hA : A ≠ []) (hB : B ≠ []) (hN : N = P.length + A.length + B.length + Q.length) (hs : N ≤ 1000000) :
    FnW Tryz.prog 243 #[.slice (some ⟨b, 0, none⟩) N capv, .int .i64 (P.length : Int), .int .i64 ((P.length + A.length : Nat) : Int), .int .i64 ((P.length + A.length + B.length : Nat) : Int), g] H [BlkZ b tl (P ++ (A ++ (B ++ Q)))] (fun u H' l' => u = .tuple #[] ∧ H' = H ∧ l' = [BlkZ b tl (P ++ (B ++ (A ++ Q)))]) := by
  have hA0 : 0 < A.length := List.length_pos_iff.2 hA
  have hB0 : 0 < B.length := List.length_pos_iff.2 hB
  obtain ⟨m, hm⟩ : ∃ m, m = P.length + A.length := ⟨_, rfl⟩
  obtain ⟨F, hF⟩ : ∃ F, F = P ++ (B ++ (A ++ Q)) := ⟨_, rfl⟩
  rw [← hm, ← hF]
  refine FnW.of_T (vs := [.slice (some ⟨b, 0, none⟩) N capv, .int .i64 (P.length : Int), .int .i64 (m : Int), .int .i64 ((m + B.length : Nat) : Int), g]) Tryz.func243 rfl rfl fun w => ?_; refine J16 ?_
  rw [show (m : Int) - (P.length : Int) = (A.length : Int) by omega, show ((m + B.length : Nat) : Int) - (m : Int) = (B.length : Int) by omega]
  refine T.loopK [(0, Value.slice (some { block := b, off := 0 }) N capv), (2, Value.int IntKind.i64 (↑m : Int)), (4, g)] zq8 (γ := RoZG) (fun g => g.i = g.A.length ∧ g.j = g.B.length ∧ 0 < g.i ∧ 0 < g.j ∧ g.P.length + g.i = m ∧ N = m + g.j + g.Q.length ∧ F = g.P ++ (g.B ++ (g.A ++ g.Q))) (fun g => [(10, .int .i64 (g.i : Int)), (11, .int .i64 (g.j : Int))]) (fun g => [BlkZ b tl (g.P ++ (g.A ++ (g.B ++ g.Q)))]) (fun _ => H) (fun g => g.i + g.j) ⟨A.length, B.length, P, A, B, Q⟩ ⟨rfl, rfl, hA0, hB0, hm.symm, by dsimp only; omega, hF⟩ zq8 zq23 rfl ?_
  rintro ⟨i, j, P1, A1, B1, Q1⟩ ⟨hi, hj, hi0, hj0, hP, hNN, hFF⟩
  dsimp only at hi hj hi0 hj0 hP hNN hFF ⊢
  by_cases hij : i = j
  · have hd : decide ((i : Int) ≠ (j : Int)) = false := decide_eq_false zO
    have hsw := swapZ_fn P1 A1 [] B1 Q1 i N b capv tl g H hi.symm zO (by simp only [List.length_nil]; omega) hs
    rw [List.nil_append, List.nil_append, show P1.length + i + ([] : List Nat).length = m by simp only [List.length_nil]; omega, show (P1.length : Int) = (m : Int) - (i : Int) by omega, ← hFF] at hsw
    refine yq66 ?_; refine J9 ?_; refine T.callWV Wanted.none rfl rfl hsw zq1 ?_; refine so ?_
    exact T.fallW (Lv.finW _ zq4 (RV.none rfl) ⟨rfl, rfl, rfl⟩)
  · have hd : decide ((i : Int) ≠ (j : Int)) = true := decide_eq_true zO
    by_cases hgt : j < i
    · have hd2 : decide ((j : Int) < (i : Int)) = true := decide_eq_true zO
      obtain ⟨C1, hC1⟩ : ∃ C1, C1 = A1.take j := ⟨_, rfl⟩
      obtain ⟨C2, hC2⟩ : ∃ C2, C2 = A1.drop j := ⟨_, rfl⟩
      have hC : A1 = C1 ++ C2 := by rw [hC1, hC2, List.take_append_drop]
      have l1 : C1.length = j := by rw [hC1, List.length_take]; omega
      have l2 : C2.length = i - j := by rw [hC2, List.length_drop]; omega
      have hsw := swapZ_fn P1 C1 C2 B1 Q1 j N b capv tl g H l1 hj.symm zO hs
      rw [show P1.length + j + C2.length = m by omega, show (P1.length : Int) = (m : Int) - (i : Int) by omega, ← List.append_assoc C1, ← hC] at hsw
      refine yq59 ?_; refine J8 ?_; refine yq9 ?_; refine J9 ?_; refine T.callWV Wanted.none rfl rfl hsw zq1 ?_; refine J8 ?_
      refine T.nextP ⟨i - j, j, P1 ++ B1, C2, C1, Q1⟩ ⟨l2.symm, l1.symm, by dsimp only; omega, hj0, by dsimp only; rw [List.length_append]; omega, hNN, by dsimp only; rw [hFF, hC, rot_left]⟩ zE ⟨by dsimp only; rw [show ((i - j : Nat) : Int) = (i : Int) - (j : Int) by omega]; exact rfl, by repeat (first | exact trivial | refine And.intro rfl ?_)⟩ ?_ rfl
      dsimp only
      rw [List.append_assoc P1 B1]
      exact zq23
    · have hd2 : decide ((j : Int) < (i : Int)) = false := decide_eq_false zO
      obtain ⟨C1, hC1⟩ : ∃ C1, C1 = B1.take (j - i) := ⟨_, rfl⟩
      obtain ⟨C2, hC2⟩ : ∃ C2, C2 = B1.drop (j - i) := ⟨_, rfl⟩
      have hC : B1 = C1 ++ C2 := by rw [hC1, hC2, List.take_append_drop]
      have l1 : C1.length = j - i := by rw [hC1, List.length_take]; omega
      have l2 : C2.length = i := by rw [hC2, List.length_drop]; omega
      have hsw := swapZ_fn P1 A1 C1 C2 Q1 i N b capv tl g H hi.symm l2 zO hs
      rw [show ((P1.length + i + C1.length : Nat) : Int) = (m : Int) + (j : Int) - (i : Int) by omega, show (P1.length : Int) = (m : Int) - (i : Int) by omega, ← List.append_assoc C1, ← hC] at hsw
      refine yq59 ?_; refine J8 ?_; refine yq6 ?_; refine J13 ?_; refine T.callWV Wanted.none rfl rfl hsw zq1 ?_; refine J8 ?_
      exact T.nextP ⟨i, j - i, P1, C2, C1, A1 ++ Q1⟩ ⟨l2.symm, l1.symm, hi0, by dsimp only; omega, hP, by dsimp only; rw [List.length_append]; omega, by dsimp only; rw [hFF, hC]; simp only [List.append_assoc]⟩ zE ⟨rfl, by dsimp only; rw [show ((j - i : Nat) : Int) = (j : Int) - (i : Int) by omega]; exact rfl, by repeat (first | exact trivial | refine And.intro rfl ?_)⟩ zq23 rfl

end Go.Proofs.YtecogbhbkccblaaGreatDoor
namespace Go.Proofs.YtecogbhbkccblaaGreatDoor
open Go.RowKit


section
variable {P : Program} {X : Cx} {e : Env} {l : List (Nat × Obj)} {H : Hp} {D : List Deferred} {k : List It} {ty : TypeId} {pos : String} {after : Array Edge} {gd : Option (Nat × Bool)} {all : Array Oper} {rest : List Oper}
/-- A call of a function value of whose result alone something is known. -/
theorem T.callQ {d : Nat} {f : FuncId} [hE : Ent P f] {x : Operand} {xs : List Operand} {ts : Array TypeId} {vs cap : List Value} {R : Value → Prop} (hw : Wanted e all ⟨some d, .call ⟨.value x, xs.toArray, ts⟩, ty, pos, after, gd⟩) (hN : Nat.blt d X.N = true)
    (hx : evE e x = some (.func (.func f) #[] cap.toArray)) (hv : evL e xs = some vs) (hf : Fn P f (vs ++ cap).toArray H (fun u _ => R u))
    (h : ∀ v, R v → T P X ((d, v) :: e) l H D (.ops all rest :: k)) :
    T P X e l H D (.ops all (⟨some d, .call ⟨.value x, xs.toArray, ts⟩, ty, pos, after, gd⟩ :: rest) :: k) := T.mk fun a w ha hw' => by
  refine wpList_cons (hw.get X D a ha) ?_
  have hrun : (execOp a.eval ⟨some d, .call ⟨.value x, xs.toArray, ts⟩, ty, pos, after, gd⟩).run P w = .ok (.enter f (vs ++ cap).toArray) w := by
    have := evL_map ha xs vs hv
    have hE' := hE.h (vs ++ cap).toArray w
    simp [execOp, resolve, ha.eval hx, Deferred.ofValue, invoke, List.map_toArray, this]
    simpa using hE'
  rw [run_semAt hrun (fun _ => by simp), Oper.uponIn_enter]
  refine ⟨fun hd => by simp [Fw, Fence.wide] at hd, ?_⟩
  have hc : CallsIn (Fw X.ro) 0 P f (vs ++ cap).toArray w (FnR w H (fun u _ => R u)) := hf.get w hw'.fro
  refine hc.mono ?_
  rintro en w' ⟨u, H', rfl, h2, h3, h4, h5⟩
  exact (h _ h5).get _ w' (ha.put (by simpa using hN) u) (hw'.callV h4)
end
structure InIG where
  i : Nat
  S : List Hi
theorem insertI_fn (key : Hi → Int) (Ok : Hi → Prop) (P M Q : List Hi) (N b capv : Nat) (tl : List Value) (gf : FuncId) [hE : Ent Tryz.prog gf] (cap : List Value) (H : Hp) (hN : N = P.length + M.length + Q.length) (hs : N ≤ 1000000) (hok : ∀ x ∈ M, Ok x)
    (hg : ∀ x y, Ok x → Ok y → Fn Tryz.prog gf (hiV x :: hiV y :: cap).toArray H (fun u _ => u = .int .i64 (key x - key y))) :
    FnW Tryz.prog 226 #[.slice (some ⟨b, 0, none⟩) N capv, .int .i64 (P.length : Int), .int .i64 ((P.length + M.length : Nat) : Int), .func (.func gf) #[] cap.toArray] H [BlkI b tl (P ++ (M ++ Q))] (fun u H' l' => u = .tuple #[] ∧ H' = H ∧ l' = [BlkI b tl (P ++ (stS key M ++ Q))]) := by
  refine FnW.of_T (vs := [.slice (some ⟨b, 0, none⟩) N capv, .int .i64 (P.length : Int), .int .i64 ((P.length + M.length : Nat) : Int), .func (.func gf) #[] cap.toArray]) Tryz.func226 rfl rfl fun w => ?_; refine J7 ?_; refine T.ownEq (l' := [BlkI b tl (P ++ (M.take 1 ++ (M.drop 1 ++ Q)))]) (by rw [← List.append_assoc (M.take 1), List.take_append_drop]) ?_; refine T.loopK [(0, Value.slice (some { block := b, off := 0 }) N capv), (1, Value.int IntKind.i64 (↑P.length : Int)), (2, Value.int IntKind.i64 (↑(P.length + M.length) : Int)), (3, Value.func (Fn.func gf) #[] cap.toArray)] zq8 (γ := InIG) (fun g => 1 ≤ g.i ∧ KSorted key g.S ∧ FEq key (M.take g.i) g.S) (fun g => [(8, .int .i64 ((P.length + g.i : Nat) : Int))]) (fun g => [BlkI b tl (P ++ (g.S ++ (M.drop g.i ++ Q)))]) (fun _ => H) (fun g => M.length - g.i) ⟨1, M.take 1⟩ ⟨Nat.le_refl 1, List.Pairwise.sublist (l₂ := M.take 1) (List.Sublist.refl _) (by match M with | [] => exact List.Pairwise.nil | x :: _ => exact List.pairwise_singleton _ _), FEq.refl _⟩ zq8 zq23 rfl ?_
  rintro ⟨i, S⟩ ⟨g1, g2, g3⟩
  dsimp only at g1 g2 g3 ⊢
  by_cases hi : i < M.length
  · obtain ⟨x, hx⟩ : ∃ x, M[i]? = some x := ⟨_, List.getElem?_eq_getElem hi⟩
    have hSl : S.length = i := by rw [g3.len, List.length_take]; omega
    have hdr : M.drop i = x :: M.drop (i + 1) := by rw [List.drop_eq_getElem_cons hi, (List.getElem?_eq_some_iff.1 hx).2]
    have hSm : ∀ y ∈ S, Ok y := fun y hy => hok y (List.mem_of_mem_take (g3.mem.1 hy))
    have hxo : Ok x := hok x (List.mem_of_getElem? hx)
    obtain ⟨R, hR⟩ : ∃ R, R = M.drop (i + 1) ++ Q := ⟨_, rfl⟩
    have hRl : R.length = M.length - (i + 1) + Q.length := by rw [hR, List.length_append, List.length_drop]
    obtain ⟨hn1, hn2⟩ := ins_step hx g2 g3
    have hd : decide (((P.length + i : Nat) : Int) < ((P.length + M.length : Nat) : Int)) = true := decide_eq_true zO
    rw [show P ++ (S ++ (M.drop i ++ Q)) = P ++ (S.take i ++ x :: (S.drop i ++ R)) by rw [← hSl, List.take_length, List.drop_length, hSl, hdr, hR]; rfl]
    refine yq59 ?_; refine J9 ?_; refine T.loopK [(8, Value.int IntKind.i64 (↑(P.length + i) : Int)), (0, Value.slice (some { block := b, off := 0 }) N capv), (1, Value.int IntKind.i64 (↑P.length : Int)), (2, Value.int IntKind.i64 (↑(P.length + M.length) : Int)), (3, Value.func (Fn.func gf) #[] cap.toArray)] zq8 (γ := Nat) (fun j => j ≤ i ∧ ∀ (q : Nat) (hq : q < S.length), q = j → key x < key S[q]) (fun j => [(9, .int .i64 ((P.length + j : Nat) : Int))]) (fun j => [BlkI b tl (P ++ (S.take j ++ x :: (S.drop j ++ R)))]) (fun _ => H) (fun j => j) i ⟨Nat.le_refl _, fun q hq hqi => by omega⟩ zq8 zq23 rfl ?_
    rintro j ⟨j1, j2⟩
    have hfin : (∀ (q : Nat) (hq : q < S.length), q + 1 = j → key S[q] ≤ key x) → P ++ (S.take j ++ x :: (S.drop j ++ R)) = P ++ (mrg key S [x] ++ (M.drop (i + 1) ++ Q)) := fun h1 => by
      rw [mrg_oneR g2 j zO h1 (fun hx => j2 j hx rfl), hR]
      simp only [List.append_assoc, List.cons_append]
    cases j with
    | zero =>
      have hd0 : decide ((P.length : Int) < ((P.length + 0 : Nat) : Int)) = false := decide_eq_false zO
      rw [hfin (fun q hq h => by omega)]
      skip
      (repeat refine sq ?_)
      refine yq76 ?_; refine yq22 ?_; refine TO.pass 4 rfl zK zK zK (Unwanted.guard rfl rfl zA) rfl rfl ?_; refine TO.pass 5 rfl zK zK zK (Unwanted.guard rfl rfl zA) rfl rfl ?_; refine TO.pass 6 rfl zK zK zK (Unwanted.guard rfl rfl zA) rfl rfl ?_; refine TO.pass 7 rfl zK zK zK (Unwanted.guard rfl rfl zA) rfl rfl ?_; refine TO.pass 8 rfl zK zK zK (Unwanted.guard rfl rfl zA) rfl rfl ?_; refine TO.pass 9 rfl zK zK zK (Unwanted.guard rfl rfl zA) rfl rfl ?_; refine TO.pass 10 rfl zK zK zK (Unwanted.guard rfl rfl zA) rfl rfl ?_; refine TO.pass 11 rfl zK zK zK (Unwanted.guard rfl rfl zA) rfl rfl ?_; refine TO.pass 12 rfl zK zK zK (Unwanted.guard rfl rfl zA) rfl rfl ?_; refine TO.pass 13 rfl zK zK zK (Unwanted.guard rfl rfl zA) rfl rfl ?_; refine TO.pass 14 rfl zK zK zK (Unwanted.guard rfl rfl zA) rfl rfl ?_; refine TO.pass 15 rfl zK zK zK (Unwanted.guard rfl rfl zA) rfl rfl ?_; refine TO.take 16 rfl zK zK zK (PV.pickF rfl zA rfl) Wanted.none rfl rfl ?_; refine yq37 ?_; refine J8 ?_
      exact T.nextP ⟨i + 1, mrg key S [x]⟩ ⟨by dsimp only; omega, hn1, hn2⟩ zE zq8 zq23 rfl
    | succ j0 =>
      obtain ⟨y, hy⟩ : ∃ y, S[j0]? = some y := ⟨_, List.getElem?_eq_getElem zO⟩
      have hy2 := (List.getElem?_eq_some_iff.1 hy).2
      have hyo := hSm y (List.mem_of_getElem? hy)
      have hcall := hg x y hxo hyo
      obtain ⟨L, hL⟩ : ∃ L, L = P ++ S.take j0 := ⟨_, rfl⟩
      have hLl : L.length = P.length + j0 := by rw [hL, List.length_append, List.length_take]; omega
      have e1 : P ++ (S.take (j0 + 1) ++ x :: (S.drop (j0 + 1) ++ R)) = L ++ y :: x :: (S.drop (j0 + 1) ++ R) := by
        rw [hL, List.take_add_one, hy]
        simp only [Option.toList_some, List.append_assoc, List.cons_append, List.nil_append]
      have e2 : P ++ (S.take j0 ++ x :: (S.drop j0 ++ R)) = L ++ x :: y :: (S.drop (j0 + 1) ++ R) := by
        rw [hL, List.drop_eq_getElem_cons (show j0 < S.length by omega), hy2]
        simp only [List.append_assoc, List.cons_append]
      have hDl : (L ++ y :: x :: (S.drop (j0 + 1) ++ R)).length = N := by
        simp only [List.length_append, List.length_cons, List.length_drop]
        omega
      obtain ⟨ga, gb⟩ := adj_get L (S.drop (j0 + 1) ++ R) y x
      have hd0 : decide ((P.length : Int) < ((P.length + (j0 + 1) : Nat) : Int)) = true := decide_eq_true zO
      have l1 : (((L ++ y :: x :: (S.drop (j0 + 1) ++ R)).flatMap encHi ++ tl).drop (0 + (((P.length + (j0 + 1) : Nat) : Int)).toNat * 4)).take 4 = encHi x := ldI gb zO
      have l2 : (((L ++ y :: x :: (S.drop (j0 + 1) ++ R)).flatMap encHi ++ tl).drop (0 + (((P.length + (j0 + 1) : Nat) : Int) - 1).toNat * 4)).take 4 = encHi y := ldI ga zO
      by_cases hlt : key x < key y
      · have hdc : decide (key x - key y < 0) = true := decide_eq_true zO
        rw [e1]
        skip
        (repeat refine sq ?_)
        refine yq76 ?_; refine yq22 ?_; refine yq58 ?_; refine yq53 ?_; refine TO.take 8 rfl zK zK zK (PV.loadAgg rfl zq0 zA zX) (Wanted.guard rfl rfl zA) rfl rfl ?_; refine yq56 ?_; refine yq51 ?_; refine TO.take 13 rfl zK zK zK (PV.loadAgg rfl zq0 zA zX) (Wanted.guard rfl rfl zA) rfl rfl ?_; refine TO.step 14 rfl zK zq4 zq19 ?_; (refine T.callQ (cap := cap) (Wanted.guard rfl rfl zA) rfl rfl rfl hcall ?_; rintro _ rfl); refine yq30 ?_; refine yq60 ?_; refine yq37 ?_; refine yq9 ?_; refine J3 ?_
        (repeat refine sq ?_)
        have s1 := spI (d := L ++ y :: x :: (S.drop (j0 + 1) ++ R)) (tl := tl) (i := L.length + 1) (z := ((P.length + (j0 + 1) : Nat) : Int)) y zO zO
        have s2 := spI (d := (L ++ y :: x :: (S.drop (j0 + 1) ++ R)).set (L.length + 1) y) (tl := tl) (i := L.length) (z := ((P.length + (j0 + 1) : Nat) : Int) - 1) x (by rw [List.length_set]; omega) zO
        rw [adj_dn, ← e2] at s2
        refine T.regionS [] 17 zK ?_; refine yq7 ?_; refine yq114 ?_; refine yq115 ?_; refine yq33 ?_; refine yq32 ?_
        refine TS.ways [9, 13] zK rfl zq20 ⟨⟨_, rfl, ?_⟩, ⟨_, rfl, ?_⟩, trivial⟩
        · refine yq72 ?_; refine yq4 ?_
          refine yq81 ?_
          refine yq72 ?_; refine yq18 ?_
          refine yq55 ?_
          (refine T.storeA Wanted.none rfl rfl zq8 zX .head s1 ?_); refine yq19 ?_
          refine yq45 ?_
          (refine T.storeA Wanted.none rfl rfl zq8 zX .head s2 ?_); refine yq11 ?_; refine J6 ?_
          ((rw [show ((P.length + (j0 + 1) : Nat) : Int) - 1 = ((P.length + j0 : Nat) : Int) by omega]; exact T.nextP j0 ⟨by omega, fun q hq hqj => by subst hqj; rw [hy2]; exact hlt⟩ zO zq8 zq23 rfl))
        · refine yq72 ?_; refine yq4 ?_
          refine yq68 ?_
          refine yq72 ?_; refine yq18 ?_
          refine yq55 ?_
          (refine T.storeA Wanted.none rfl rfl zq8 zX .head s1 ?_); refine yq19 ?_
          refine yq45 ?_
          (refine T.storeA Wanted.none rfl rfl zq8 zX .head s2 ?_); refine yq11 ?_; refine J6 ?_
          ((rw [show ((P.length + (j0 + 1) : Nat) : Int) - 1 = ((P.length + j0 : Nat) : Int) by omega]; exact T.nextP j0 ⟨by omega, fun q hq hqj => by subst hqj; rw [hy2]; exact hlt⟩ zO zq8 zq23 rfl))
      · have hdc : decide (key x - key y < 0) = false := decide_eq_false zO
        rw [e1]
        skip
        (repeat refine sq ?_)
        refine yq76 ?_; refine yq22 ?_; refine yq58 ?_; refine yq53 ?_; refine TO.take 8 rfl zK zK zK (PV.loadAgg rfl zq0 zA zX) (Wanted.guard rfl rfl zA) rfl rfl ?_; refine yq56 ?_; refine yq51 ?_; refine TO.take 13 rfl zK zK zK (PV.loadAgg rfl zq0 zA zX) (Wanted.guard rfl rfl zA) rfl rfl ?_; refine TO.step 14 rfl zK zq4 zq19 ?_; (refine T.callQ (cap := cap) (Wanted.guard rfl rfl zA) rfl rfl rfl hcall ?_; rintro _ rfl); refine yq30 ?_; refine yq60 ?_; refine yq37 ?_; refine yq6 ?_; refine J7 ?_
        rw [← e1, hfin (fun q hq h => by obtain rfl : q = j0 := by omega
                                         rw [hy2]; omega)]
        exact T.nextP ⟨i + 1, mrg key S [x]⟩ ⟨by dsimp only; omega, hn1, hn2⟩ zE zq8 zq23 rfl
  · have hd : decide (((P.length + i : Nat) : Int) < ((P.length + M.length : Nat) : Int)) = false := decide_eq_false zO
    rw [List.take_of_length_le zO] at g3
    rw [List.drop_of_length_le zO, List.nil_append, ins_end g2 g3]
    refine yq66 ?_; refine T.exit rfl ?_
    exact T.fallW (Lv.finW _ (List.Sublist.refl _) (RV.none rfl) ⟨rfl, rfl, rfl⟩)

end Go.Proofs.YtecogbhbkccblaaGreatDoor
namespace Go.Proofs.YtecogbhbkccblaaGreatDoor
open Go.RowKit


structure InZG where
  i : Nat
  S : List Nat
theorem insertZ_fn (key : Nat → Int) (Ok : Nat → Prop) (P M Q : List Nat) (N b capv : Nat) (tl : List Value) (gf : FuncId) [hE : Ent Tryz.prog gf] (cap : List Value) (H : Hp) (hN : N = P.length + M.length + Q.length) (hs : N ≤ 1000000) (hok : ∀ x ∈ M, Ok x)
    (hg : ∀ x y, Ok x → Ok y → Fn Tryz.prog gf (zV x :: zV y :: cap).toArray H (fun u _ => u = .int .i64 (key x - key y))) :
    FnW Tryz.prog 165 #[.slice (some ⟨b, 0, none⟩) N capv, .int .i64 (P.length : Int), .int .i64 ((P.length + M.length : Nat) : Int), .func (.func gf) #[] cap.toArray] H [BlkZ b tl (P ++ (M ++ Q))] (fun u H' l' => u = .tuple #[] ∧ H' = H ∧ l' = [BlkZ b tl (P ++ (stS key M ++ Q))]) := by
  refine FnW.of_T (vs := [.slice (some ⟨b, 0, none⟩) N capv, .int .i64 (P.length : Int), .int .i64 ((P.length + M.length : Nat) : Int), .func (.func gf) #[] cap.toArray]) Tryz.func165 rfl rfl fun w => ?_; refine J7 ?_; refine T.ownEq (l' := [BlkZ b tl (P ++ (M.take 1 ++ (M.drop 1 ++ Q)))]) (by rw [← List.append_assoc (M.take 1), List.take_append_drop]) ?_; refine T.loopK [(0, Value.slice (some { block := b, off := 0 }) N capv), (1, Value.int IntKind.i64 (↑P.length : Int)), (2, Value.int IntKind.i64 (↑(P.length + M.length) : Int)), (3, Value.func (Fn.func gf) #[] cap.toArray)] zq8 (γ := InZG) (fun g => 1 ≤ g.i ∧ KSorted key g.S ∧ FEq key (M.take g.i) g.S) (fun g => [(8, .int .i64 ((P.length + g.i : Nat) : Int))]) (fun g => [BlkZ b tl (P ++ (g.S ++ (M.drop g.i ++ Q)))]) (fun _ => H) (fun g => M.length - g.i) ⟨1, M.take 1⟩ ⟨Nat.le_refl 1, List.Pairwise.sublist (l₂ := M.take 1) (List.Sublist.refl _) (by match M with | [] => exact List.Pairwise.nil | x :: _ => exact List.pairwise_singleton _ _), FEq.refl _⟩ zq8 zq23 rfl ?_
  rintro ⟨i, S⟩ ⟨g1, g2, g3⟩
  dsimp only at g1 g2 g3 ⊢
  by_cases hi : i < M.length
  · obtain ⟨x, hx⟩ : ∃ x, M[i]? = some x := ⟨_, List.getElem?_eq_getElem hi⟩
    have hSl : S.length = i := by rw [g3.len, List.length_take]; omega
    have hdr : M.drop i = x :: M.drop (i + 1) := by rw [List.drop_eq_getElem_cons hi, (List.getElem?_eq_some_iff.1 hx).2]
    have hSm : ∀ y ∈ S, Ok y := fun y hy => hok y (List.mem_of_mem_take (g3.mem.1 hy))
    have hxo : Ok x := hok x (List.mem_of_getElem? hx)
    obtain ⟨R, hR⟩ : ∃ R, R = M.drop (i + 1) ++ Q := ⟨_, rfl⟩
    have hRl : R.length = M.length - (i + 1) + Q.length := by rw [hR, List.length_append, List.length_drop]
    obtain ⟨hn1, hn2⟩ := ins_step hx g2 g3
    have hd : decide (((P.length + i : Nat) : Int) < ((P.length + M.length : Nat) : Int)) = true := decide_eq_true zO
    rw [show P ++ (S ++ (M.drop i ++ Q)) = P ++ (S.take i ++ x :: (S.drop i ++ R)) by rw [← hSl, List.take_length, List.drop_length, hSl, hdr, hR]; rfl]
    refine yq59 ?_; refine J9 ?_; refine T.loopK [(8, Value.int IntKind.i64 (↑(P.length + i) : Int)), (0, Value.slice (some { block := b, off := 0 }) N capv), (1, Value.int IntKind.i64 (↑P.length : Int)), (2, Value.int IntKind.i64 (↑(P.length + M.length) : Int)), (3, Value.func (Fn.func gf) #[] cap.toArray)] zq8 (γ := Nat) (fun j => j ≤ i ∧ ∀ (q : Nat) (hq : q < S.length), q = j → key x < key S[q]) (fun j => [(9, .int .i64 ((P.length + j : Nat) : Int))]) (fun j => [BlkZ b tl (P ++ (S.take j ++ x :: (S.drop j ++ R)))]) (fun _ => H) (fun j => j) i ⟨Nat.le_refl _, fun q hq hqi => by omega⟩ zq8 zq23 rfl ?_
    rintro j ⟨j1, j2⟩
    have hfin : (∀ (q : Nat) (hq : q < S.length), q + 1 = j → key S[q] ≤ key x) → P ++ (S.take j ++ x :: (S.drop j ++ R)) = P ++ (mrg key S [x] ++ (M.drop (i + 1) ++ Q)) := fun h1 => by
      rw [mrg_oneR g2 j zO h1 (fun hx => j2 j hx rfl), hR]
      simp only [List.append_assoc, List.cons_append]
    cases j with
    | zero =>
      have hd0 : decide ((P.length : Int) < ((P.length + 0 : Nat) : Int)) = false := decide_eq_false zO
      rw [hfin (fun q hq h => by omega)]
      skip
      (repeat refine sq ?_)
      refine yq76 ?_; refine yq22 ?_; refine TO.pass 4 rfl zK zK zK (Unwanted.guard rfl rfl zA) rfl rfl ?_; refine TO.pass 5 rfl zK zK zK (Unwanted.guard rfl rfl zA) rfl rfl ?_; refine TO.pass 6 rfl zK zK zK (Unwanted.guard rfl rfl zA) rfl rfl ?_; refine TO.pass 7 rfl zK zK zK (Unwanted.guard rfl rfl zA) rfl rfl ?_; refine TO.pass 8 rfl zK zK zK (Unwanted.guard rfl rfl zA) rfl rfl ?_; refine TO.pass 9 rfl zK zK zK (Unwanted.guard rfl rfl zA) rfl rfl ?_; refine TO.pass 10 rfl zK zK zK (Unwanted.guard rfl rfl zA) rfl rfl ?_; refine TO.pass 11 rfl zK zK zK (Unwanted.guard rfl rfl zA) rfl rfl ?_; refine TO.pass 12 rfl zK zK zK (Unwanted.guard rfl rfl zA) rfl rfl ?_; refine TO.pass 13 rfl zK zK zK (Unwanted.guard rfl rfl zA) rfl rfl ?_; refine TO.pass 14 rfl zK zK zK (Unwanted.guard rfl rfl zA) rfl rfl ?_; refine TO.pass 15 rfl zK zK zK (Unwanted.guard rfl rfl zA) rfl rfl ?_; refine TO.take 16 rfl zK zK zK (PV.pickF rfl zA rfl) Wanted.none rfl rfl ?_; refine yq37 ?_; refine J8 ?_
      exact T.nextP ⟨i + 1, mrg key S [x]⟩ ⟨by dsimp only; omega, hn1, hn2⟩ zE zq8 zq23 rfl
    | succ j0 =>
      obtain ⟨y, hy⟩ : ∃ y, S[j0]? = some y := ⟨_, List.getElem?_eq_getElem zO⟩
      have hy2 := (List.getElem?_eq_some_iff.1 hy).2
      have hyo := hSm y (List.mem_of_getElem? hy)
      have hcall := hg x y hxo hyo
      obtain ⟨L, hL⟩ : ∃ L, L = P ++ S.take j0 := ⟨_, rfl⟩
      have hLl : L.length = P.length + j0 := by rw [hL, List.length_append, List.length_take]; omega
      have e1 : P ++ (S.take (j0 + 1) ++ x :: (S.drop (j0 + 1) ++ R)) = L ++ y :: x :: (S.drop (j0 + 1) ++ R) := by
        rw [hL, List.take_add_one, hy]
        simp only [Option.toList_some, List.append_assoc, List.cons_append, List.nil_append]
      have e2 : P ++ (S.take j0 ++ x :: (S.drop j0 ++ R)) = L ++ x :: y :: (S.drop (j0 + 1) ++ R) := by
        rw [hL, List.drop_eq_getElem_cons (show j0 < S.length by omega), hy2]
        simp only [List.append_assoc, List.cons_append]
      have hDl : (L ++ y :: x :: (S.drop (j0 + 1) ++ R)).length = N := by
        simp only [List.length_append, List.length_cons, List.length_drop]
        omega
      obtain ⟨ga, gb⟩ := adj_get L (S.drop (j0 + 1) ++ R) y x
      have hd0 : decide ((P.length : Int) < ((P.length + (j0 + 1) : Nat) : Int)) = true := decide_eq_true zO
      have l1 : ((L ++ y :: x :: (S.drop (j0 + 1) ++ R)).flatMap encZi ++ tl)[0 + (((P.length + (j0 + 1) : Nat) : Int)).toNat * 1]? = some (.int .i64 (x : Int)) := ldZ gb zO
      have l2 : ((L ++ y :: x :: (S.drop (j0 + 1) ++ R)).flatMap encZi ++ tl)[0 + (((P.length + (j0 + 1) : Nat) : Int) - 1).toNat * 1]? = some (.int .i64 (y : Int)) := ldZ ga zO
      by_cases hlt : key x < key y
      · have hdc : decide (key x - key y < 0) = true := decide_eq_true zO
        rw [e1]
        skip
        (repeat refine sq ?_)
        refine yq76 ?_; refine yq22 ?_; refine yq58 ?_; refine yq53 ?_; refine TO.take 8 rfl zK zK zK (PV.load1 rfl zq0 zA) (Wanted.guard rfl rfl zA) rfl rfl ?_; refine yq56 ?_; refine yq51 ?_; refine TO.take 13 rfl zK zK zK (PV.load1 rfl zq0 zA) (Wanted.guard rfl rfl zA) rfl rfl ?_; refine TO.step 14 rfl zK zq4 zq19 ?_; (refine T.callQ (cap := cap) (Wanted.guard rfl rfl zA) rfl rfl rfl hcall ?_; rintro _ rfl); refine yq30 ?_; refine yq60 ?_; refine yq37 ?_; refine yq9 ?_; refine J3 ?_
        (repeat refine sq ?_)
        have s1 := spZ (d := L ++ y :: x :: (S.drop (j0 + 1) ++ R)) (tl := tl) (i := L.length + 1) (z := ((P.length + (j0 + 1) : Nat) : Int)) y zO zO
        have s2 := spZ (d := (L ++ y :: x :: (S.drop (j0 + 1) ++ R)).set (L.length + 1) y) (tl := tl) (i := L.length) (z := ((P.length + (j0 + 1) : Nat) : Int) - 1) x (by rw [List.length_set]; omega) zO
        rw [adj_dn, ← e2] at s2
        refine T.regionS [] 17 zK ?_; refine yq7 ?_; refine yq114 ?_; refine yq115 ?_; refine yq33 ?_; refine yq32 ?_
        refine TS.ways [9, 13] zK rfl zq20 ⟨⟨_, rfl, ?_⟩, ⟨_, rfl, ?_⟩, trivial⟩
        · refine yq43 ?_; refine yq4 ?_
          refine yq81 ?_
          refine yq43 ?_; refine yq18 ?_
          refine yq55 ?_
          (refine T.store1 Wanted.none rfl rfl rfl .head s1 ?_); refine yq19 ?_
          refine yq45 ?_
          (refine T.store1 Wanted.none rfl rfl rfl .head s2 ?_); refine yq11 ?_; refine J6 ?_
          ((rw [show ((P.length + (j0 + 1) : Nat) : Int) - 1 = ((P.length + j0 : Nat) : Int) by omega]; exact T.nextP j0 ⟨by omega, fun q hq hqj => by subst hqj; rw [hy2]; exact hlt⟩ zO zq8 zq23 rfl))
        · refine yq43 ?_; refine yq4 ?_
          refine yq68 ?_
          refine yq43 ?_; refine yq18 ?_
          refine yq55 ?_
          (refine T.store1 Wanted.none rfl rfl rfl .head s1 ?_); refine yq19 ?_
          refine yq45 ?_
          (refine T.store1 Wanted.none rfl rfl rfl .head s2 ?_); refine yq11 ?_; refine J6 ?_
          ((rw [show ((P.length + (j0 + 1) : Nat) : Int) - 1 = ((P.length + j0 : Nat) : Int) by omega]; exact T.nextP j0 ⟨by omega, fun q hq hqj => by subst hqj; rw [hy2]; exact hlt⟩ zO zq8 zq23 rfl))
      · have hdc : decide (key x - key y < 0) = false := decide_eq_false zO
        rw [e1]
        skip
        (repeat refine sq ?_)
        refine yq76 ?_; refine yq22 ?_; refine yq58 ?_; refine yq53 ?_; refine TO.take 8 rfl zK zK zK (PV.load1 rfl zq0 zA) (Wanted.guard rfl rfl zA) rfl rfl ?_; refine yq56 ?_; refine yq51 ?_; refine TO.take 13 rfl zK zK zK (PV.load1 rfl zq0 zA) (Wanted.guard rfl rfl zA) rfl rfl ?_; refine TO.step 14 rfl zK zq4 zq19 ?_; (refine T.callQ (cap := cap) (Wanted.guard rfl rfl zA) rfl rfl rfl hcall ?_; rintro _ rfl); refine yq30 ?_; refine yq60 ?_; refine yq37 ?_; refine yq6 ?_; refine J7 ?_
        rw [← e1, hfin (fun q hq h => by obtain rfl : q = j0 := by omega
                                         rw [hy2]; omega)]
        exact T.nextP ⟨i + 1, mrg key S [x]⟩ ⟨by dsimp only; omega, hn1, hn2⟩ zE zq8 zq23 rfl
  · have hd : decide (((P.length + i : Nat) : Int) < ((P.length + M.length : Nat) : Int)) = false := decide_eq_false zO
    rw [List.take_of_length_le zO] at g3
    rw [List.drop_of_length_le zO, List.nil_append, ins_end g2 g3]
    refine yq66 ?_; refine T.exit rfl ?_
    exact T.fallW (Lv.finW _ (List.Sublist.refl _) (RV.none rfl) ⟨rfl, rfl, rfl⟩)

end Go.Proofs.YtecogbhbkccblaaGreatDoor
