/- the library's stable sort.
   the library's stable sort. -/
import Derived.Test.YtecogbhbkccblaaGreatDoorGZ
set_option maxRecDepth 4000
set_option maxHeartbeats 40000000
set_option linter.all false
namespace Go.Proofs.YtecogbhbkccblaaGreatDoor
open Go.RowKit


theorem symI_fn (key : Hi → Int) (Ok : Hi → Prop) (gf : FuncId) [hE : Ent Tryz.prog gf] (cap : List Value) (H : Hp) (b N capv : Nat) (tl : List Value) (hs : N ≤ 1000000)
    (hg : ∀ x y, Ok x → Ok y → Fn Tryz.prog gf (hiV x :: hiV y :: cap).toArray H (fun u _ => u = .int .i64 (key x - key y))) : ∀ (n0 : Nat) (P X Y Q : List Hi), X.length + Y.length ≤ n0 → X ≠ [] → Y ≠ [] → KSorted key X → KSorted key Y → (∀ x ∈ X, Ok x) → (∀ y ∈ Y, Ok y) → N = P.length + X.length + Y.length + Q.length →
      FnW Tryz.prog 227 #[.slice (some ⟨b, 0, none⟩) N capv, .int .i64 (P.length : Int), .int .i64 ((P.length + X.length : Nat) : Int), .int .i64 ((P.length + X.length + Y.length : Nat) : Int), .func (.func gf) #[] cap.toArray] H [BlkI b tl (P ++ (X ++ (Y ++ Q)))] (fun u H' l' => u = .tuple #[] ∧ H' = H ∧ l' = [BlkI b tl (P ++ (mrg key X Y ++ Q))]) := by
  intro n0
  induction n0 with
  | zero =>
    intro P X Y Q h hX
    exact absurd (List.eq_nil_of_length_eq_zero zO) hX
  | succ n0 ih =>
    intro P X Y Q h hX hY sX sY oX oY hN
    have lX := List.length_pos_iff.2 hX
    have lY := List.length_pos_iff.2 hY
    by_cases h1 : X.length = 1
    · match X, h1 with
      | [x], _ => exact symLI_fn key Ok P Y Q x N b capv tl gf cap H hN hs sY (oX x List.mem_cons_self) oY hg
    · by_cases h2 : Y.length = 1
      · match Y, h2 with
        | [y], _ => exact symRI_fn key Ok P X Q y N b capv tl gf cap H hN hs h1 sX (oY y List.mem_cons_self) oX hg
      · exact symGI_fn key Ok gf cap H b N capv tl hs hg n0 ih P X Y Q h zO zO sX sY oX oY hN
structure SbIG where
  a : Nat
  d : List Hi
theorem stableI_fn (key : Hi → Int) (Ok : Hi → Prop) (gf : FuncId) [hE : Ent Tryz.prog gf] (cap : List Value) (H : Hp) (b N capv : Nat) (tl : List Value) (l : List Hi) (hN : l.length = N) (hs : N ≤ 1000000) (hok : ∀ x ∈ l, Ok x)
    (hg : ∀ x y, Ok x → Ok y → Fn Tryz.prog gf (hiV x :: hiV y :: cap).toArray H (fun u _ => u = .int .i64 (key x - key y))) :
    FnW Tryz.prog 210 #[.slice (some ⟨b, 0, none⟩) N capv, .int .i64 (N : Int), .func (.func gf) #[] cap.toArray] H [BlkI b tl l] (fun u H' l' => u = .tuple #[] ∧ H' = H ∧ l' = [BlkI b tl (stS key l)]) := by
  have hins : ∀ (d : List Hi) (p q : Nat), d.length = N → FEq key l d → p ≤ q → q ≤ N → FnW Tryz.prog 226 #[.slice (some ⟨b, 0, none⟩) N capv, .int .i64 (p : Int), .int .i64 (q : Int), .func (.func gf) #[] cap.toArray] H [BlkI b tl d] (fun u H' l' => u = .tuple #[] ∧ H' = H ∧ l' = [BlkI b tl (putM d p q (stS key ((d.drop p).take (q - p))))]) := fun d p q hd hf hpq hq => by
    have l1 : (d.take p).length = p := by rw [List.length_take]; omega
    have l2 : ((d.drop p).take (q - p)).length = q - p := by rw [List.length_take, List.length_drop]; omega
    have := insertI_fn key Ok (d.take p) ((d.drop p).take (q - p)) (d.drop q) N b capv tl gf cap H (by rw [l1, l2, List.length_drop]; omega) hs (fun x hx => hok x (hf.mem.1 (List.mem_of_mem_drop (List.mem_of_mem_take hx)))) hg
    rw [← cutD d hpq, l1, l2, show p + (q - p) = q by omega] at this
    exact this
  have hsym : ∀ (d : List Hi) (p B q : Nat), d.length = N → FEq key l d → 0 < B → p + B < q → q ≤ N → KSorted key ((d.drop p).take B) → KSorted key ((d.drop (p + B)).take (q - p - B)) → FnW Tryz.prog 227 #[.slice (some ⟨b, 0, none⟩) N capv, .int .i64 (p : Int), .int .i64 ((p + B : Nat) : Int), .int .i64 (q : Int), .func (.func gf) #[] cap.toArray] H [BlkI b tl d] (fun u H' l' => u = .tuple #[] ∧ H' = H ∧ l' = [BlkI b tl (putM d p q (mrg key ((d.drop p).take B) ((d.drop (p + B)).take (q - p - B))))]) := fun d p B q hd hf hB hpq hq s1 s2 => by
    have l1 : (d.take p).length = p := by rw [List.length_take]; omega
    have l2 : ((d.drop p).take B).length = B := by rw [List.length_take, List.length_drop]; omega
    have l3 : ((d.drop (p + B)).take (q - p - B)).length = q - p - B := by rw [List.length_take, List.length_drop]; omega
    have := symI_fn key Ok gf cap H b N capv tl hs hg _ (d.take p) ((d.drop p).take B) ((d.drop (p + B)).take (q - p - B)) (d.drop q) (Nat.le_refl _) (by intro h; rw [h] at l2; simp at l2; omega) (by intro h; rw [h] at l3; simp at l3; omega) s1 s2 (fun x hx => hok x (hf.mem.1 (List.mem_of_mem_drop (List.mem_of_mem_take hx)))) (fun x hx => hok x (hf.mem.1 (List.mem_of_mem_drop (List.mem_of_mem_take hx)))) (by rw [l1, l2, l3, List.length_drop]; omega)
    have hcut := cutD d (show p ≤ q by omega)
    rw [two_blocks d p B (q - p) zO, List.append_assoc] at hcut
    rw [← hcut, l1, l2, l3, show p + B + (q - p - B) = q by omega] at this
    exact this
  refine FnW.of_T (vs := [.slice (some ⟨b, 0, none⟩) N capv, .int .i64 (N : Int), .func (.func gf) #[] cap.toArray]) Tryz.func210 rfl rfl fun w => ?_; refine J12 ?_; refine T.loopK [(6, Value.int IntKind.i64 20), (0, Value.slice (some { block := b, off := 0 }) N capv), (1, Value.int IntKind.i64 (↑N : Int)), (2, Value.func (Fn.func gf) #[] cap.toArray)] zq8 (γ := SbIG) (fun g => (∃ i, g.a = i * 20) ∧ g.a ≤ N ∧ g.d.length = N ∧ FEq key l g.d ∧ BlkS key 20 0 g.a g.d) (fun g => [(7, .int .i64 (g.a : Int)), (8, .int .i64 ((g.a + 20 : Nat) : Int))]) (fun g => [BlkI b tl g.d]) (fun _ => H) (fun g => N - g.a) ⟨0, l⟩ ⟨⟨0, rfl⟩, Nat.zero_le _, hN, FEq.refl _, fun j _ hj => by dsimp only at hj; omega⟩ zq8 zq23 rfl ?_
  rintro ⟨a, d⟩ ⟨⟨i0, hi0⟩, ha, hd, hf, hbl⟩
  dsimp only at hi0 ha hd hf hbl ⊢
  by_cases h : a + 20 ≤ N
  · have hdd : decide (((a + 20 : Nat) : Int) ≤ (N : Int)) = true := decide_eq_true zO
    have hc := hins d a (a + 20) hd hf zO h
    obtain ⟨M, hM⟩ : ∃ M, M = stS key ((d.drop a).take (a + 20 - a)) := ⟨_, rfl⟩
    have hMl : M.length = a + 20 - a := by rw [hM, stS_len, List.length_take, List.length_drop]; omega
    rw [← hM] at hc
    refine yq59 ?_; refine J8 ?_; refine T.callWV Wanted.none rfl rfl hc zq1 ?_; refine J13 ?_
    exact T.nextP ⟨a + 20, putM d a (a + 20) M⟩ ⟨⟨i0 + 1, by dsimp only; omega⟩, by dsimp only; omega, by dsimp only; rw [putM_len zO zO hMl]; exact hd, hf.trans (putM_feq (show a ≤ a + 20 by omega) (by rw [hM]; exact FEq.stS _)), BlkS.step (b := a + 20) hbl zD ⟨i0, hi0⟩ zO zO hMl (.inl rfl) (by rw [hM]; exact (stS_ok _).1)⟩ zE zq8 zq23 rfl
  · have hdd : decide (((a + 20 : Nat) : Int) ≤ (N : Int)) = false := decide_eq_false zO
    have hc := hins d a N hd hf ha (Nat.le_refl _)
    obtain ⟨M, hM⟩ : ∃ M, M = stS key ((d.drop a).take (N - a)) := ⟨_, rfl⟩
    have hMl : M.length = N - a := by rw [hM, stS_len, List.length_take, List.length_drop]; omega
    rw [← hM] at hc
    have hd1 : (putM d a N M).length = N := by rw [putM_len ha zO hMl]; exact hd
    have hf1 : FEq key l (putM d a N M) := hf.trans (putM_feq ha (by rw [hM]; exact FEq.stS _))
    have hb1 : BlkS key 20 0 N (putM d a N M) := hbl.step zD ⟨i0, hi0⟩ ha zO hMl (.inr ⟨hd.symm, by omega⟩) (by rw [hM]; exact (stS_ok _).1)
    obtain ⟨d0, hd0⟩ : ∃ d0, d0 = putM d a N M := ⟨_, rfl⟩
    rw [← hd0] at hc hd1 hf1 hb1
    refine yq66 ?_; refine J7 ?_; refine T.callWV Wanted.none rfl rfl hc zq1 ?_; refine J2 ?_; refine T.loopK [(0, Value.slice (some { block := b, off := 0 }) N capv), (1, Value.int IntKind.i64 (↑N : Int)), (2, Value.func (Fn.func gf) #[] cap.toArray)] zq8 (γ := SbIG) (fun g => 0 < g.a ∧ g.a ≤ 2 * N + 40 ∧ g.d.length = N ∧ FEq key l g.d ∧ BlkS key g.a 0 N g.d) (fun g => [(6, .int .i64 (g.a : Int))]) (fun g => [BlkI b tl g.d]) (fun _ => H) (fun g => 2 * N + 41 - g.a) ⟨20, d0⟩ ⟨Nat.zero_lt_succ 19, by dsimp only; omega, hd1, hf1, hb1⟩ zq8 zq23 rfl ?_
    rintro ⟨B, d⟩ ⟨hB, hB2, hd, hf, hbl⟩
    dsimp only at hB hB2 hd hf hbl ⊢
    by_cases hBN : B < N
    · have hdB : decide ((B : Int) < (N : Int)) = true := decide_eq_true zO
      refine yq59 ?_; refine J11 ?_; refine T.ownEq (l' := [BlkI b tl d]) rfl ?_; refine T.loopK [(6, Value.int IntKind.i64 (↑B : Int)), (0, Value.slice (some { block := b, off := 0 }) N capv), (1, Value.int IntKind.i64 (↑N : Int)), (2, Value.func (Fn.func gf) #[] cap.toArray)] zq8 (γ := SbIG) (fun g => (∃ i, g.a = i * (B * 2)) ∧ g.a ≤ N ∧ g.d.length = N ∧ FEq key l g.d ∧ BlkS key (B * 2) 0 g.a g.d ∧ BlkS key B g.a N g.d) (fun g => [(7, .int .i64 (g.a : Int)), (8, .int .i64 ((g.a + 2 * B : Nat) : Int))]) (fun g => [BlkI b tl g.d]) (fun _ => H) (fun g => N - g.a) ⟨0, d⟩ ⟨⟨0, by simp⟩, Nat.zero_le _, hd, hf, (fun j _ hj => by dsimp only at hj; omega), hbl⟩ ⟨rfl, by dsimp only; rw [Nat.zero_add]; exact rfl, by repeat (first | exact trivial | refine And.intro rfl ?_)⟩ zq23 rfl ?_
      rintro ⟨p, d2⟩ ⟨⟨j0, hj0⟩, hp, hd2, hf2, hb2, hb3⟩
      dsimp only at hj0 hp hd2 hf2 hb2 hb3 ⊢
      have hpB : p = (j0 * 2) * B := by rw [hj0, Nat.mul_assoc, Nat.mul_comm 2 B]
      by_cases hq : p + 2 * B ≤ N
      · have hdq : decide (((p + 2 * B : Nat) : Int) ≤ (N : Int)) = true := decide_eq_true zO
        have s1 : KSorted key ((d2.drop p).take B) := hb3.at ⟨j0 * 2, hpB⟩ (Nat.le_refl _) zO (Nat.le_refl _)
        have s2 : KSorted key ((d2.drop (p + B)).take (p + 2 * B - p - B)) := hb3.at ⟨j0 * 2 + 1, by rw [Nat.add_mul, ← hpB, Nat.one_mul]⟩ zO zO zO
        have hc := hsym d2 p B (p + 2 * B) hd2 hf2 hB zO hq s1 s2
        obtain ⟨M, hM⟩ : ∃ M, M = mrg key ((d2.drop p).take B) ((d2.drop (p + B)).take (p + 2 * B - p - B)) := ⟨_, rfl⟩
        have hMl : M.length = p + 2 * B - p := by rw [hM, mrg_len _ _ s1 s2, List.length_take, List.length_take, List.length_drop, List.length_drop]; omega
        have hMf : FEq key ((d2.drop p).take (p + 2 * B - p)) M := by
          rw [two_blocks d2 p B _ zO, hM]
          exact FEq.mrg s1 s2
        have hMs : KSorted key M := by rw [hM]; exact mrg_sorted _ _ s1 s2
        rw [← hM] at hc
        refine yq59 ?_; refine J11 ?_; refine T.callWV Wanted.none rfl rfl hc zq1 ?_; refine J14 ?_
        exact T.nextP ⟨p + 2 * B, putM d2 p (p + 2 * B) M⟩ ⟨⟨j0 + 1, by dsimp only; rw [Nat.add_mul, ← hj0, Nat.one_mul, Nat.mul_comm 2 B]⟩, hq, by dsimp only; rw [putM_len zO zO hMl]; exact hd2, hf2.trans (putM_feq (show p ≤ p + 2 * B by omega) hMf), BlkS.step (b := p + 2 * B) hb2 zO ⟨j0, hj0⟩ zO zO hMl (.inl zO) hMs, BlkS.rest (b := p + 2 * B) hb3 zO zO hMl⟩ zE zq8 zq23 rfl
      · have hdq : decide (((p + 2 * B : Nat) : Int) ≤ (N : Int)) = false := decide_eq_false zO
        by_cases hm : p + B < N
        · have hdm : decide (((p + B : Nat) : Int) < (N : Int)) = true := decide_eq_true zO
          have s1 : KSorted key ((d2.drop p).take B) := hb3.at ⟨j0 * 2, hpB⟩ (Nat.le_refl _) zO (Nat.le_refl _)
          have s2 : KSorted key ((d2.drop (p + B)).take (N - p - B)) := hb3.at ⟨j0 * 2 + 1, by rw [Nat.add_mul, ← hpB, Nat.one_mul]⟩ zO zO zO
          have hc := hsym d2 p B N hd2 hf2 hB zO (Nat.le_refl _) s1 s2
          obtain ⟨M, hM⟩ : ∃ M, M = mrg key ((d2.drop p).take B) ((d2.drop (p + B)).take (N - p - B)) := ⟨_, rfl⟩
          have hMl : M.length = N - p := by rw [hM, mrg_len _ _ s1 s2, List.length_take, List.length_take, List.length_drop, List.length_drop]; omega
          have hMf : FEq key ((d2.drop p).take (N - p)) M := by
            rw [two_blocks d2 p B _ zO, hM]
            exact FEq.mrg s1 s2
          have hMs : KSorted key M := by rw [hM]; exact mrg_sorted _ _ s1 s2
          rw [← hM] at hc
          refine yq66 ?_; refine J15 ?_; refine yq110 ?_; refine T.callWV Wanted.none rfl rfl hc zq1 ?_; refine J7 ?_
          exact T.nextP ⟨B * 2, putM d2 p N M⟩ ⟨by dsimp only; omega, by dsimp only; omega, by dsimp only; rw [putM_len hp zO hMl]; exact hd2, hf2.trans (putM_feq hp hMf), BlkS.step (B := B * 2) (b := N) hb2 zO ⟨j0, hj0⟩ hp zO hMl (.inr ⟨hd2.symm, by omega⟩) hMs⟩ zE zq8 zq23 rfl
        · have hdm : decide (((p + B : Nat) : Int) < (N : Int)) = false := decide_eq_false zO
          refine yq66 ?_; refine J15 ?_; refine yq6 ?_; refine J7 ?_
          exact T.nextP ⟨B * 2, d2⟩ ⟨by dsimp only; omega, by dsimp only; omega, hd2, hf2, by dsimp only; rw [← hd2]; exact hb2.last (hd2 ▸ hb3) ⟨j0, hj0⟩ zO⟩ zE zq8 zq23 rfl
    · have hdB : decide ((B : Int) < (N : Int)) = false := decide_eq_false zO
      have hfin : d = stS key l := StSort.is ⟨BlkS.all (hd ▸ hbl) zO, hf⟩
      rw [hfin]
      refine yq66 ?_; refine T.exit rfl ?_
      exact T.fallW (Lv.finW _ (List.Sublist.refl _) (RV.none rfl) ⟨rfl, rfl, rfl⟩)
theorem sortI_fn (key : Hi → Int) (Ok : Hi → Prop) (gf : FuncId) [hE : Ent Tryz.prog gf] (cap : List Value) (H : Hp) (v : Value) (lv : List (Nat × Obj)) (l : List Hi) (hv : RowV 192 encHi 4 v lv l) (hs : l.length ≤ 1000000) (hok : ∀ x ∈ l, Ok x)
    (hg : ∀ x y, Ok x → Ok y → Fn Tryz.prog gf (hiV x :: hiV y :: cap).toArray H (fun u _ => u = .int .i64 (key x - key y))) :
    FnW Tryz.prog 175 #[v, .func (.func gf) #[] cap.toArray] H lv (fun u H' l' => u = .tuple #[] ∧ H' = H ∧ RowV 192 encHi 4 v l' (stS key l)) := by
  by_cases h0 : l.length = 0
  · have hl : l = [] := List.eq_nil_of_length_eq_zero h0
    subst hl
    obtain ⟨ad, cp, rfl⟩ := hv.val
    rw [show stS key [] = [] from rfl]
    have hi : FnW Tryz.prog 226 #[.slice ad 0 cp, .int .i64 0, .int .i64 0, .func (.func gf) #[] cap.toArray] H lv (fun u H' l' => u = .tuple #[] ∧ H' = H ∧ l' = lv) := by
      refine FnW.of_T (vs := [.slice ad 0 cp, .int .i64 0, .int .i64 0, .func (.func gf) #[] cap.toArray]) Tryz.func226 rfl rfl fun w => ?_; refine J7 ?_; refine T.loopK [(0, Value.slice ad 0 cp), (1, Value.int IntKind.i64 0), (2, Value.int IntKind.i64 0), (3, Value.func (Fn.func gf) #[] cap.toArray)] zq8 (γ := Unit) (fun _ => True) (fun _ => [(8, .int .i64 1)]) (fun _ => lv) (fun _ => H) (fun _ => 0) () trivial zq8 zq23 rfl ?_
      rintro ⟨⟩ -
      refine J9 ?_
      exact T.fallW (Lv.finW _ (List.Sublist.refl _) (RV.none rfl) ⟨rfl, rfl, rfl⟩)
    have hst : FnW Tryz.prog 210 #[.slice ad 0 cp, .int .i64 0, .func (.func gf) #[] cap.toArray] H lv (fun u H' l' => u = .tuple #[] ∧ H' = H ∧ l' = lv) := by
      refine FnW.of_T (vs := [.slice ad 0 cp, .int .i64 0, .func (.func gf) #[] cap.toArray]) Tryz.func210 rfl rfl fun w => ?_; refine J12 ?_; refine T.loopK [(6, Value.int IntKind.i64 20), (0, Value.slice ad 0 cp), (1, Value.int IntKind.i64 0), (2, Value.func (Fn.func gf) #[] cap.toArray)] zq8 (γ := Unit) (fun _ => True) (fun _ => [(7, .int .i64 0), (8, .int .i64 20)]) (fun _ => lv) (fun _ => H) (fun _ => 0) () trivial zq8 zq23 rfl ?_
      rintro ⟨⟩ -
      refine J15 ?_; refine T.callWV Wanted.none rfl rfl hi zq1 ?_; refine J2 ?_; refine T.loopK [(0, Value.slice ad 0 cp), (1, Value.int IntKind.i64 0), (2, Value.func (Fn.func gf) #[] cap.toArray)] zq8 (γ := Unit) (fun _ => True) (fun _ => [(6, .int .i64 20)]) (fun _ => lv) (fun _ => H) (fun _ => 0) () trivial zq8 zq23 rfl ?_
      rintro ⟨⟩ -
      refine J9 ?_
      exact T.fallW (Lv.finW lv zq4 (RV.none rfl) ⟨rfl, rfl, rfl⟩)
    refine FnW.of_T (vs := [.slice ad 0 cp, .func (.func gf) #[] cap.toArray]) Tryz.func175 rfl rfl fun w => ?_; refine J5 ?_; refine T.callWV Wanted.none rfl rfl hst zq1 ?_; refine so ?_
    exact T.fallW (Lv.finW lv zq4 (RV.none rfl) ⟨rfl, rfl, hv⟩)
  · obtain ⟨b, cp, tl, rfl, rfl, hback⟩ := RowV.open lenI zD hv zO
    have hst := stableI_fn key Ok gf cap H b l.length cp tl l rfl hs hok hg
    refine FnW.of_T (vs := [.slice (some ⟨b, 0, none⟩) l.length cp, .func (.func gf) #[] cap.toArray]) Tryz.func175 rfl rfl fun w => ?_; refine J5 ?_; refine T.callWV Wanted.none rfl rfl hst zq1 ?_; refine so ?_
    exact T.fallW (Lv.finW [BlkI b tl (stS key l)] zq4 (RV.none rfl) ⟨rfl, rfl, hback _ (stS_len l)⟩)

end Go.Proofs.YtecogbhbkccblaaGreatDoor
namespace Go.Proofs.YtecogbhbkccblaaGreatDoor
open Go.RowKit


theorem symZ_fn (key : Nat → Int) (Ok : Nat → Prop) (gf : FuncId) [hE : Ent Tryz.prog gf] (cap : List Value) (H : Hp) (b N capv : Nat) (tl : List Value) (hs : N ≤ 1000000)
    (hg : ∀ x y, Ok x → Ok y → Fn Tryz.prog gf (zV x :: zV y :: cap).toArray H (fun u _ => u = .int .i64 (key x - key y))) : ∀ (n0 : Nat) (P X Y Q : List Nat), X.length + Y.length ≤ n0 → X ≠ [] → Y ≠ [] → KSorted key X → KSorted key Y → (∀ x ∈ X, Ok x) → (∀ y ∈ Y, Ok y) → N = P.length + X.length + Y.length + Q.length →
      FnW Tryz.prog 238 #[.slice (some ⟨b, 0, none⟩) N capv, .int .i64 (P.length : Int), .int .i64 ((P.length + X.length : Nat) : Int), .int .i64 ((P.length + X.length + Y.length : Nat) : Int), .func (.func gf) #[] cap.toArray] H [BlkZ b tl (P ++ (X ++ (Y ++ Q)))] (fun u H' l' => u = .tuple #[] ∧ H' = H ∧ l' = [BlkZ b tl (P ++ (mrg key X Y ++ Q))]) := by
  intro n0
  induction n0 with
  | zero =>
    intro P X Y Q h hX
    exact absurd (List.eq_nil_of_length_eq_zero zO) hX
  | succ n0 ih =>
    intro P X Y Q h hX hY sX sY oX oY hN
    have lX := List.length_pos_iff.2 hX
    have lY := List.length_pos_iff.2 hY
    by_cases h1 : X.length = 1
    · match X, h1 with
      | [x], _ => exact symLZ_fn key Ok P Y Q x N b capv tl gf cap H hN hs sY (oX x List.mem_cons_self) oY hg
    · by_cases h2 : Y.length = 1
      · match Y, h2 with
        | [y], _ => exact symRZ_fn key Ok P X Q y N b capv tl gf cap H hN hs h1 sX (oY y List.mem_cons_self) oX hg
      · exact symGZ_fn key Ok gf cap H b N capv tl hs hg n0 ih P X Y Q h zO zO sX sY oX oY hN
structure SbZG where
  a : Nat
  d : List Nat
theorem stableZ_fn (key : Nat → Int) (Ok : Nat → Prop) (gf : FuncId) [hE : Ent Tryz.prog gf] (cap : List Value) (H : Hp) (b N capv : Nat) (tl : List Value) (l : List Nat) (hN : l.length = N) (hs : N ≤ 1000000) (hok : ∀ x ∈ l, Ok x)
    (hg : ∀ x y, Ok x → Ok y → Fn Tryz.prog gf (zV x :: zV y :: cap).toArray H (fun u _ => u = .int .i64 (key x - key y))) :
    FnW Tryz.prog 228 #[.slice (some ⟨b, 0, none⟩) N capv, .int .i64 (N : Int), .func (.func gf) #[] cap.toArray] H [BlkZ b tl l] (fun u H' l' => u = .tuple #[] ∧ H' = H ∧ l' = [BlkZ b tl (stS key l)]) := by
  have hins : ∀ (d : List Nat) (p q : Nat), d.length = N → FEq key l d → p ≤ q → q ≤ N → FnW Tryz.prog 165 #[.slice (some ⟨b, 0, none⟩) N capv, .int .i64 (p : Int), .int .i64 (q : Int), .func (.func gf) #[] cap.toArray] H [BlkZ b tl d] (fun u H' l' => u = .tuple #[] ∧ H' = H ∧ l' = [BlkZ b tl (putM d p q (stS key ((d.drop p).take (q - p))))]) := fun d p q hd hf hpq hq => by
    have l1 : (d.take p).length = p := by rw [List.length_take]; omega
    have l2 : ((d.drop p).take (q - p)).length = q - p := by rw [List.length_take, List.length_drop]; omega
    have := insertZ_fn key Ok (d.take p) ((d.drop p).take (q - p)) (d.drop q) N b capv tl gf cap H (by rw [l1, l2, List.length_drop]; omega) hs (fun x hx => hok x (hf.mem.1 (List.mem_of_mem_drop (List.mem_of_mem_take hx)))) hg
    rw [← cutD d hpq, l1, l2, show p + (q - p) = q by omega] at this
    exact this
  have hsym : ∀ (d : List Nat) (p B q : Nat), d.length = N → FEq key l d → 0 < B → p + B < q → q ≤ N → KSorted key ((d.drop p).take B) → KSorted key ((d.drop (p + B)).take (q - p - B)) → FnW Tryz.prog 238 #[.slice (some ⟨b, 0, none⟩) N capv, .int .i64 (p : Int), .int .i64 ((p + B : Nat) : Int), .int .i64 (q : Int), .func (.func gf) #[] cap.toArray] H [BlkZ b tl d] (fun u H' l' => u = .tuple #[] ∧ H' = H ∧ l' = [BlkZ b tl (putM d p q (mrg key ((d.drop p).take B) ((d.drop (p + B)).take (q - p - B))))]) := fun d p B q hd hf hB hpq hq s1 s2 => by
    have l1 : (d.take p).length = p := by rw [List.length_take]; omega
    have l2 : ((d.drop p).take B).length = B := by rw [List.length_take, List.length_drop]; omega
    have l3 : ((d.drop (p + B)).take (q - p - B)).length = q - p - B := by rw [List.length_take, List.length_drop]; omega
    have := symZ_fn key Ok gf cap H b N capv tl hs hg _ (d.take p) ((d.drop p).take B) ((d.drop (p + B)).take (q - p - B)) (d.drop q) (Nat.le_refl _) (by intro h; rw [h] at l2; simp at l2; omega) (by intro h; rw [h] at l3; simp at l3; omega) s1 s2 (fun x hx => hok x (hf.mem.1 (List.mem_of_mem_drop (List.mem_of_mem_take hx)))) (fun x hx => hok x (hf.mem.1 (List.mem_of_mem_drop (List.mem_of_mem_take hx)))) (by rw [l1, l2, l3, List.length_drop]; omega)
    have hcut := cutD d (show p ≤ q by omega)
    rw [two_blocks d p B (q - p) zO, List.append_assoc] at hcut
    rw [← hcut, l1, l2, l3, show p + B + (q - p - B) = q by omega] at this
    exact this
  refine FnW.of_T (vs := [.slice (some ⟨b, 0, none⟩) N capv, .int .i64 (N : Int), .func (.func gf) #[] cap.toArray]) Tryz.func228 rfl rfl fun w => ?_; refine J12 ?_; refine T.loopK [(6, Value.int IntKind.i64 20), (0, Value.slice (some { block := b, off := 0 }) N capv), (1, Value.int IntKind.i64 (↑N : Int)), (2, Value.func (Fn.func gf) #[] cap.toArray)] zq8 (γ := SbZG) (fun g => (∃ i, g.a = i * 20) ∧ g.a ≤ N ∧ g.d.length = N ∧ FEq key l g.d ∧ BlkS key 20 0 g.a g.d) (fun g => [(7, .int .i64 (g.a : Int)), (8, .int .i64 ((g.a + 20 : Nat) : Int))]) (fun g => [BlkZ b tl g.d]) (fun _ => H) (fun g => N - g.a) ⟨0, l⟩ ⟨⟨0, rfl⟩, Nat.zero_le _, hN, FEq.refl _, fun j _ hj => by dsimp only at hj; omega⟩ zq8 zq23 rfl ?_
  rintro ⟨a, d⟩ ⟨⟨i0, hi0⟩, ha, hd, hf, hbl⟩
  dsimp only at hi0 ha hd hf hbl ⊢
  by_cases h : a + 20 ≤ N
  · have hdd : decide (((a + 20 : Nat) : Int) ≤ (N : Int)) = true := decide_eq_true zO
    have hc := hins d a (a + 20) hd hf zO h
    obtain ⟨M, hM⟩ : ∃ M, M = stS key ((d.drop a).take (a + 20 - a)) := ⟨_, rfl⟩
    have hMl : M.length = a + 20 - a := by rw [hM, stS_len, List.length_take, List.length_drop]; omega
    rw [← hM] at hc
    refine yq59 ?_; refine J8 ?_; refine T.callWV Wanted.none rfl rfl hc zq1 ?_; refine J13 ?_
    exact T.nextP ⟨a + 20, putM d a (a + 20) M⟩ ⟨⟨i0 + 1, by dsimp only; omega⟩, by dsimp only; omega, by dsimp only; rw [putM_len zO zO hMl]; exact hd, hf.trans (putM_feq (show a ≤ a + 20 by omega) (by rw [hM]; exact FEq.stS _)), BlkS.step (b := a + 20) hbl zD ⟨i0, hi0⟩ zO zO hMl (.inl rfl) (by rw [hM]; exact (stS_ok _).1)⟩ zE zq8 zq23 rfl
  · have hdd : decide (((a + 20 : Nat) : Int) ≤ (N : Int)) = false := decide_eq_false zO
    have hc := hins d a N hd hf ha (Nat.le_refl _)
    obtain ⟨M, hM⟩ : ∃ M, M = stS key ((d.drop a).take (N - a)) := ⟨_, rfl⟩
    have hMl : M.length = N - a := by rw [hM, stS_len, List.length_take, List.length_drop]; omega
    rw [← hM] at hc
    have hd1 : (putM d a N M).length = N := by rw [putM_len ha zO hMl]; exact hd
    have hf1 : FEq key l (putM d a N M) := hf.trans (putM_feq ha (by rw [hM]; exact FEq.stS _))
    have hb1 : BlkS key 20 0 N (putM d a N M) := hbl.step zD ⟨i0, hi0⟩ ha zO hMl (.inr ⟨hd.symm, by omega⟩) (by rw [hM]; exact (stS_ok _).1)
    obtain ⟨d0, hd0⟩ : ∃ d0, d0 = putM d a N M := ⟨_, rfl⟩
    rw [← hd0] at hc hd1 hf1 hb1
    refine yq66 ?_; refine J7 ?_; refine T.callWV Wanted.none rfl rfl hc zq1 ?_; refine J2 ?_; refine T.loopK [(0, Value.slice (some { block := b, off := 0 }) N capv), (1, Value.int IntKind.i64 (↑N : Int)), (2, Value.func (Fn.func gf) #[] cap.toArray)] zq8 (γ := SbZG) (fun g => 0 < g.a ∧ g.a ≤ 2 * N + 40 ∧ g.d.length = N ∧ FEq key l g.d ∧ BlkS key g.a 0 N g.d) (fun g => [(6, .int .i64 (g.a : Int))]) (fun g => [BlkZ b tl g.d]) (fun _ => H) (fun g => 2 * N + 41 - g.a) ⟨20, d0⟩ ⟨Nat.zero_lt_succ 19, by dsimp only; omega, hd1, hf1, hb1⟩ zq8 zq23 rfl ?_
    rintro ⟨B, d⟩ ⟨hB, hB2, hd, hf, hbl⟩
    dsimp only at hB hB2 hd hf hbl ⊢
    by_cases hBN : B < N
    · have hdB : decide ((B : Int) < (N : Int)) = true := decide_eq_true zO
      refine yq59 ?_; refine J11 ?_; refine T.ownEq (l' := [BlkZ b tl d]) rfl ?_; refine T.loopK [(6, Value.int IntKind.i64 (↑B : Int)), (0, Value.slice (some { block := b, off := 0 }) N capv), (1, Value.int IntKind.i64 (↑N : Int)), (2, Value.func (Fn.func gf) #[] cap.toArray)] zq8 (γ := SbZG) (fun g => (∃ i, g.a = i * (B * 2)) ∧ g.a ≤ N ∧ g.d.length = N ∧ FEq key l g.d ∧ BlkS key (B * 2) 0 g.a g.d ∧ BlkS key B g.a N g.d) (fun g => [(7, .int .i64 (g.a : Int)), (8, .int .i64 ((g.a + 2 * B : Nat) : Int))]) (fun g => [BlkZ b tl g.d]) (fun _ => H) (fun g => N - g.a) ⟨0, d⟩ ⟨⟨0, by simp⟩, Nat.zero_le _, hd, hf, (fun j _ hj => by dsimp only at hj; omega), hbl⟩ ⟨rfl, by dsimp only; rw [Nat.zero_add]; exact rfl, by repeat (first | exact trivial | refine And.intro rfl ?_)⟩ zq23 rfl ?_
      rintro ⟨p, d2⟩ ⟨⟨j0, hj0⟩, hp, hd2, hf2, hb2, hb3⟩
      dsimp only at hj0 hp hd2 hf2 hb2 hb3 ⊢
      have hpB : p = (j0 * 2) * B := by rw [hj0, Nat.mul_assoc, Nat.mul_comm 2 B]
      by_cases hq : p + 2 * B ≤ N
      · have hdq : decide (((p + 2 * B : Nat) : Int) ≤ (N : Int)) = true := decide_eq_true zO
        have s1 : KSorted key ((d2.drop p).take B) := hb3.at ⟨j0 * 2, hpB⟩ (Nat.le_refl _) zO (Nat.le_refl _)
        have s2 : KSorted key ((d2.drop (p + B)).take (p + 2 * B - p - B)) := hb3.at ⟨j0 * 2 + 1, by rw [Nat.add_mul, ← hpB, Nat.one_mul]⟩ zO zO zO
        have hc := hsym d2 p B (p + 2 * B) hd2 hf2 hB zO hq s1 s2
        obtain ⟨M, hM⟩ : ∃ M, M = mrg key ((d2.drop p).take B) ((d2.drop (p + B)).take (p + 2 * B - p - B)) := ⟨_, rfl⟩
        have hMl : M.length = p + 2 * B - p := by rw [hM, mrg_len _ _ s1 s2, List.length_take, List.length_take, List.length_drop, List.length_drop]; omega
        have hMf : FEq key ((d2.drop p).take (p + 2 * B - p)) M := by
          rw [two_blocks d2 p B _ zO, hM]
          exact FEq.mrg s1 s2
        have hMs : KSorted key M := by rw [hM]; exact mrg_sorted _ _ s1 s2
        rw [← hM] at hc
        refine yq59 ?_; refine J11 ?_; refine T.callWV Wanted.none rfl rfl hc zq1 ?_; refine J14 ?_
        exact T.nextP ⟨p + 2 * B, putM d2 p (p + 2 * B) M⟩ ⟨⟨j0 + 1, by dsimp only; rw [Nat.add_mul, ← hj0, Nat.one_mul, Nat.mul_comm 2 B]⟩, hq, by dsimp only; rw [putM_len zO zO hMl]; exact hd2, hf2.trans (putM_feq (show p ≤ p + 2 * B by omega) hMf), BlkS.step (b := p + 2 * B) hb2 zO ⟨j0, hj0⟩ zO zO hMl (.inl zO) hMs, BlkS.rest (b := p + 2 * B) hb3 zO zO hMl⟩ zE zq8 zq23 rfl
      · have hdq : decide (((p + 2 * B : Nat) : Int) ≤ (N : Int)) = false := decide_eq_false zO
        by_cases hm : p + B < N
        · have hdm : decide (((p + B : Nat) : Int) < (N : Int)) = true := decide_eq_true zO
          have s1 : KSorted key ((d2.drop p).take B) := hb3.at ⟨j0 * 2, hpB⟩ (Nat.le_refl _) zO (Nat.le_refl _)
          have s2 : KSorted key ((d2.drop (p + B)).take (N - p - B)) := hb3.at ⟨j0 * 2 + 1, by rw [Nat.add_mul, ← hpB, Nat.one_mul]⟩ zO zO zO
          have hc := hsym d2 p B N hd2 hf2 hB zO (Nat.le_refl _) s1 s2
          obtain ⟨M, hM⟩ : ∃ M, M = mrg key ((d2.drop p).take B) ((d2.drop (p + B)).take (N - p - B)) := ⟨_, rfl⟩
          have hMl : M.length = N - p := by rw [hM, mrg_len _ _ s1 s2, List.length_take, List.length_take, List.length_drop, List.length_drop]; omega
          have hMf : FEq key ((d2.drop p).take (N - p)) M := by
            rw [two_blocks d2 p B _ zO, hM]
            exact FEq.mrg s1 s2
          have hMs : KSorted key M := by rw [hM]; exact mrg_sorted _ _ s1 s2
          rw [← hM] at hc
          refine yq66 ?_; refine J15 ?_; refine yq110 ?_; refine T.callWV Wanted.none rfl rfl hc zq1 ?_; refine J7 ?_
          exact T.nextP ⟨B * 2, putM d2 p N M⟩ ⟨by dsimp only; omega, by dsimp only; omega, by dsimp only; rw [putM_len hp zO hMl]; exact hd2, hf2.trans (putM_feq hp hMf), BlkS.step (B := B * 2) (b := N) hb2 zO ⟨j0, hj0⟩ hp zO hMl (.inr ⟨hd2.symm, by omega⟩) hMs⟩ zE zq8 zq23 rfl
        · have hdm : decide (((p + B : Nat) : Int) < (N : Int)) = false := decide_eq_false zO
          refine yq66 ?_; refine J15 ?_; refine yq6 ?_; refine J7 ?_
          exact T.nextP ⟨B * 2, d2⟩ ⟨by dsimp only; omega, by dsimp only; omega, hd2, hf2, by dsimp only; rw [← hd2]; exact hb2.last (hd2 ▸ hb3) ⟨j0, hj0⟩ zO⟩ zE zq8 zq23 rfl
    · have hdB : decide ((B : Int) < (N : Int)) = false := decide_eq_false zO
      have hfin : d = stS key l := StSort.is ⟨BlkS.all (hd ▸ hbl) zO, hf⟩
      rw [hfin]
      refine yq66 ?_; refine T.exit rfl ?_
      exact T.fallW (Lv.finW _ (List.Sublist.refl _) (RV.none rfl) ⟨rfl, rfl, rfl⟩)
theorem sortZ_fn (key : Nat → Int) (Ok : Nat → Prop) (gf : FuncId) [hE : Ent Tryz.prog gf] (cap : List Value) (H : Hp) (v : Value) (lv : List (Nat × Obj)) (l : List Nat) (hv : RowV 3 encZi 1 v lv l) (hs : l.length ≤ 1000000) (hok : ∀ x ∈ l, Ok x)
    (hg : ∀ x y, Ok x → Ok y → Fn Tryz.prog gf (zV x :: zV y :: cap).toArray H (fun u _ => u = .int .i64 (key x - key y))) :
    FnW Tryz.prog 211 #[v, .func (.func gf) #[] cap.toArray] H lv (fun u H' l' => u = .tuple #[] ∧ H' = H ∧ RowV 3 encZi 1 v l' (stS key l)) := by
  by_cases h0 : l.length = 0
  · have hl : l = [] := List.eq_nil_of_length_eq_zero h0
    subst hl
    obtain ⟨ad, cp, rfl⟩ := hv.val
    rw [show stS key [] = [] from rfl]
    have hi : FnW Tryz.prog 165 #[.slice ad 0 cp, .int .i64 0, .int .i64 0, .func (.func gf) #[] cap.toArray] H lv (fun u H' l' => u = .tuple #[] ∧ H' = H ∧ l' = lv) := by
      refine FnW.of_T (vs := [.slice ad 0 cp, .int .i64 0, .int .i64 0, .func (.func gf) #[] cap.toArray]) Tryz.func165 rfl rfl fun w => ?_; refine J7 ?_; refine T.loopK [(0, Value.slice ad 0 cp), (1, Value.int IntKind.i64 0), (2, Value.int IntKind.i64 0), (3, Value.func (Fn.func gf) #[] cap.toArray)] zq8 (γ := Unit) (fun _ => True) (fun _ => [(8, .int .i64 1)]) (fun _ => lv) (fun _ => H) (fun _ => 0) () trivial zq8 zq23 rfl ?_
      rintro ⟨⟩ -
      refine J9 ?_
      exact T.fallW (Lv.finW _ (List.Sublist.refl _) (RV.none rfl) ⟨rfl, rfl, rfl⟩)
    have hst : FnW Tryz.prog 228 #[.slice ad 0 cp, .int .i64 0, .func (.func gf) #[] cap.toArray] H lv (fun u H' l' => u = .tuple #[] ∧ H' = H ∧ l' = lv) := by
      refine FnW.of_T (vs := [.slice ad 0 cp, .int .i64 0, .func (.func gf) #[] cap.toArray]) Tryz.func228 rfl rfl fun w => ?_; refine J12 ?_; refine T.loopK [(6, Value.int IntKind.i64 20), (0, Value.slice ad 0 cp), (1, Value.int IntKind.i64 0), (2, Value.func (Fn.func gf) #[] cap.toArray)] zq8 (γ := Unit) (fun _ => True) (fun _ => [(7, .int .i64 0), (8, .int .i64 20)]) (fun _ => lv) (fun _ => H) (fun _ => 0) () trivial zq8 zq23 rfl ?_
      rintro ⟨⟩ -
      refine J15 ?_; refine T.callWV Wanted.none rfl rfl hi zq1 ?_; refine J2 ?_; refine T.loopK [(0, Value.slice ad 0 cp), (1, Value.int IntKind.i64 0), (2, Value.func (Fn.func gf) #[] cap.toArray)] zq8 (γ := Unit) (fun _ => True) (fun _ => [(6, .int .i64 20)]) (fun _ => lv) (fun _ => H) (fun _ => 0) () trivial zq8 zq23 rfl ?_
      rintro ⟨⟩ -
      refine J9 ?_
      exact T.fallW (Lv.finW lv zq4 (RV.none rfl) ⟨rfl, rfl, rfl⟩)
    refine FnW.of_T (vs := [.slice ad 0 cp, .func (.func gf) #[] cap.toArray]) Tryz.func211 rfl rfl fun w => ?_; refine J5 ?_; refine T.callWV Wanted.none rfl rfl hst zq1 ?_; refine so ?_
    exact T.fallW (Lv.finW lv zq4 (RV.none rfl) ⟨rfl, rfl, hv⟩)
  · obtain ⟨b, cp, tl, rfl, rfl, hback⟩ := RowV.open lenZ zD hv zO
    have hst := stableZ_fn key Ok gf cap H b l.length cp tl l rfl hs hok hg
    refine FnW.of_T (vs := [.slice (some ⟨b, 0, none⟩) l.length cp, .func (.func gf) #[] cap.toArray]) Tryz.func211 rfl rfl fun w => ?_; refine J5 ?_; refine T.callWV Wanted.none rfl rfl hst zq1 ?_; refine so ?_
    exact T.fallW (Lv.finW [BlkZ b tl (stS key l)] zq4 (RV.none rfl) ⟨rfl, rfl, hback _ (stS_len l)⟩)

end Go.Proofs.YtecogbhbkccblaaGreatDoor
