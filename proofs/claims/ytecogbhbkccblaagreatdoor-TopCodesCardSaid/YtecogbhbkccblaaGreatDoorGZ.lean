/- the library's merging in place: two lists.
   the library's merging in place: two lists. -/
import Derived.Test.YtecogbhbkccblaaGreatDoorGY
set_option maxRecDepth 4000
set_option maxHeartbeats 40000000
set_option linter.all false
namespace Go.Proofs.YtecogbhbkccblaaGreatDoor
open Go.RowKit


/-- The rest once, behind two items. -/
theorem T.cutK2 {P : Program} {X : Cx} {e : Env} {l : List (Nat × Obj)} {H : Hp} {D : List Deferred} {k : List It} {a b : It} {γ : Type} (ek : Env) (C : γ → Prop) (ch : γ → Env) (lg : γ → List (Nat × Obj)) (K : ∀ g, C g → T P X (ch g ++ ek) (lg g) H D k)
    (h : (∀ g e' l', C g → Env.Sub (ch g ++ ek) e' → Sel l' (lg g) → T P X e' l' H D k) → T P X e l H D (a :: b :: k)) : T P X e l H D (a :: b :: k) :=
  h fun g _ _ hc he hl => T.sel hl (T.weak he (List.Sublist.refl _) (K g hc))
theorem symGI_fn (key : Hi → Int) (Ok : Hi → Prop) (gf : FuncId) [hE : Ent Tryz.prog gf] (cap : List Value) (H : Hp) (b N capv : Nat) (tl : List Value) (hs : N ≤ 1000000)
    (hg : ∀ x y, Ok x → Ok y → Fn Tryz.prog gf (hiV x :: hiV y :: cap).toArray H (fun u _ => u = .int .i64 (key x - key y))) (n0 : Nat)
    (ih : ∀ (P X Y Q : List Hi), X.length + Y.length ≤ n0 → X ≠ [] → Y ≠ [] → KSorted key X → KSorted key Y → (∀ x ∈ X, Ok x) → (∀ y ∈ Y, Ok y) → N = P.length + X.length + Y.length + Q.length →
      FnW Tryz.prog 227 #[.slice (some ⟨b, 0, none⟩) N capv, .int .i64 (P.length : Int), .int .i64 ((P.length + X.length : Nat) : Int), .int .i64 ((P.length + X.length + Y.length : Nat) : Int), .func (.func gf) #[] cap.toArray] H [BlkI b tl (P ++ (X ++ (Y ++ Q)))] (fun u H' l' => u = .tuple #[] ∧ H' = H ∧ l' = [BlkI b tl (P ++ (mrg key X Y ++ Q))]))
    (P X' Y Q : List Hi) (hn : X'.length + Y.length ≤ n0 + 1) (hX2 : 2 ≤ X'.length) (hY2 : 2 ≤ Y.length) (hX : KSorted key X') (hY : KSorted key Y) (hxo : ∀ x ∈ X', Ok x) (hyo : ∀ y ∈ Y, Ok y) (hN : N = P.length + X'.length + Y.length + Q.length) :
    FnW Tryz.prog 227 #[.slice (some ⟨b, 0, none⟩) N capv, .int .i64 (P.length : Int), .int .i64 ((P.length + X'.length : Nat) : Int), .int .i64 ((P.length + X'.length + Y.length : Nat) : Int), .func (.func gf) #[] cap.toArray] H [BlkI b tl (P ++ (X' ++ (Y ++ Q)))] (fun u H' l' => u = .tuple #[] ∧ H' = H ∧ l' = [BlkI b tl (P ++ (mrg key X' Y ++ Q))]) := by
  obtain ⟨a, ha⟩ : ∃ a, a = P.length := ⟨_, rfl⟩
  obtain ⟨m, hm⟩ : ∃ m, m = a + X'.length := ⟨_, rfl⟩
  obtain ⟨b2, hb2⟩ : ∃ b2, b2 = m + Y.length := ⟨_, rfl⟩
  obtain ⟨mid, hmid⟩ : ∃ mid, mid = (a + b2) / 2 := ⟨_, rfl⟩
  rw [← ha, ← hm, ← hb2]
  refine FnW.of_T (vs := [.slice (some ⟨b, 0, none⟩) N capv, .int .i64 (a : Int), .int .i64 (m : Int), .int .i64 (b2 : Int), .func (.func gf) #[] cap.toArray]) Tryz.func227 rfl rfl fun w => ?_
  have hd1 : decide ((m : Int) - (a : Int) = 1) = false := decide_eq_false zO
  have hd2 : decide ((b2 : Int) - (m : Int) = 1) = false := decide_eq_false zO
  have hshm : shrI .u64 ((a : Int) + (b2 : Int)) 1 = (mid : Int) := by
    have := shr64 (x := a + b2) (i := 1) zO
    rw [Nat.shiftRight_eq_div_pow, Nat.pow_one, ← hmid] at this
    exact this
  refine J8 ?_; refine yq6 ?_; refine J9 ?_; refine yq85 ?_; refine yq25 ?_; refine J21 ?_
  refine so ?_
  refine T.cutK (γ := Nat × Nat) [(0, .slice (some ⟨b, 0, none⟩) N capv), (1, .int .i64 (a : Int)), (2, .int .i64 (m : Int)), (3, .int .i64 (b2 : Int)), (4, .func (.func gf) #[] cap.toArray), (18, .int .i64 (mid : Int)), (19, .int .i64 ((mid : Int) + (m : Int)))] (fun g => a ≤ g.1 ∧ g.1 ≤ g.2 ∧ g.2 ≤ m ∧ g.2 ≤ mid ∧ mid + m ≤ g.1 + b2 ∧ (g.1 = a ∨ g.1 + b2 = mid + m) ∧ (g.2 = m ∨ g.2 = mid)) (fun g => [(20, .int .i64 (g.1 : Int)), (21, .int .i64 (g.2 : Int))]) (fun _ => [BlkI b tl (P ++ (X' ++ (Y ++ Q)))]) (fun g hg0 => ?_) (fun KK => ?_)
  · obtain ⟨s0, r0⟩ := g
    obtain ⟨k1, k2, k3, k4, k5, k6, k7⟩ := hg0
    dsimp only at k1 k2 k3 k4 k5 k6 k7 ⊢
    refine J8 ?_; refine T.loopK [(22, Value.int IntKind.i64 ((↑mid : Int) + (↑m : Int) - 1)), (0, Value.slice (some { block := b, off := 0 }) N capv), (1, Value.int IntKind.i64 (↑a : Int)), (2, Value.int IntKind.i64 (↑m : Int)), (3, Value.int IntKind.i64 (↑b2 : Int)), (4, Value.func (Fn.func gf) #[] cap.toArray), (18, Value.int IntKind.i64 (↑mid : Int)), (19, Value.int IntKind.i64 ((↑mid : Int) + (↑m : Int)))] zq8 (γ := SyIG) (fun g => s0 ≤ g.i ∧ g.i ≤ g.j ∧ g.j ≤ r0 ∧ (∀ (q : Nat) (hq : q < X'.length) (hy : mid + m - g.i - m < Y.length), q + 1 + a = g.i → key X'[q] ≤ key Y[mid + m - g.i - m]) ∧ (∀ (q : Nat) (hq : q < Y.length) (hx : g.j - a < X'.length), q + 1 + m + g.j = mid + m → key Y[q] < key X'[g.j - a])) (fun g => [(20, .int .i64 (g.i : Int)), (21, .int .i64 (g.j : Int))]) (fun _ => [BlkI b tl (P ++ (X' ++ (Y ++ Q)))]) (fun _ => H) (fun g => g.j - g.i) ⟨s0, r0⟩ ⟨Nat.le_refl _, k2, Nat.le_refl _, fun q hq hy h => by dsimp only at hy h; omega, fun q hq hx h => by dsimp only at hx h; omega⟩ zq8 zq23 rfl ?_
    rintro ⟨i, j⟩ ⟨c1, c2, c3, c4, c5⟩
    dsimp only at c1 c2 c3 c4 c5 ⊢
    by_cases hij : i < j
    · have hd3 : decide ((i : Int) < (j : Int)) = true := decide_eq_true zO
      obtain ⟨c, hc⟩ : ∃ c, c = (i + j) / 2 := ⟨_, rfl⟩
      have hqx : c - a < X'.length := by omega
      have hqy : mid - 1 - c < Y.length := by omega
      obtain ⟨x, hx⟩ : ∃ x, x = X'[c - a] := ⟨_, rfl⟩
      obtain ⟨y, hy⟩ : ∃ y, y = Y[mid - 1 - c] := ⟨_, rfl⟩
      have hcall := hg y x (by rw [hy]; exact hyo _ (List.getElem_mem hqy)) (by rw [hx]; exact hxo _ (List.getElem_mem hqx))
      have g1 : (P ++ (X' ++ (Y ++ Q)))[c]? = some x := by
        have := getX P X' (Y ++ Q) hqx
        rw [← ha, show a + (c - a) = c by omega, ← hx] at this
        exact this
      have g2 : (P ++ (X' ++ (Y ++ Q)))[m + (mid - 1 - c)]? = some y := by
        have := getY P X' Y Q hqy
        rw [← ha, ← hm, ← hy] at this
        exact this
      have l1 : (((P ++ (X' ++ (Y ++ Q))).flatMap encHi ++ tl).drop (0 + ((c : Int)).toNat * 4)).take 4 = encHi x := ldI g1 rfl
      have l2 : (((P ++ (X' ++ (Y ++ Q))).flatMap encHi ++ tl).drop (0 + ((mid : Int) + (m : Int) - 1 - (c : Int)).toNat * 4)).take 4 = encHi y := ldI g2 zO
      have hsh : shrI .u64 ((i : Int) + (j : Int)) 1 = (c : Int) := by
        have := shr64 (x := i + j) (i := 1) zO
        rw [Nat.shiftRight_eq_div_pow, Nat.pow_one, ← hc] at this
        exact this
      by_cases hlt : key y < key x
      · have hdc : (!decide (key y - key x < 0)) = false := by rw [decide_eq_true zO]; rfl
        have hsh := hsh
        refine yq59 ?_; refine J7 ?_; refine yq25 ?_; refine J3 ?_
        (repeat refine sq ?_)
        refine yq64 ?_; refine yq95 ?_; refine yq63 ?_; refine TO.take 6 rfl zK zK zK (PV.loadAgg rfl zq0 zA zX) Wanted.none rfl rfl ?_; refine yq83 ?_; refine yq46 ?_; refine TO.take 10 rfl zK zK zK (PV.loadAgg rfl zq0 zA zX) Wanted.none rfl rfl ?_; refine TO.step 11 rfl zK zq4 zq19 ?_; (refine T.callQ (cap := cap) Wanted.none rfl rfl rfl hcall ?_; rintro _ rfl); refine yq30 ?_; refine yq73 ?_; refine yq37 ?_; refine yq6 ?_; refine J5 ?_
        exact T.nextP ⟨i, c⟩ ⟨c1, by dsimp only; omega, by dsimp only; omega, c4, fun q hq hx2 he => by
          dsimp only at he ⊢
          obtain rfl : q = mid - 1 - c := by omega
          rw [← hx, ← hy]; exact hlt⟩ zE zq8 zq23 rfl
      · have hdc : (!decide (key y - key x < 0)) = true := by rw [decide_eq_false zO]; rfl
        have hsh := hsh
        refine yq59 ?_; refine J7 ?_; refine yq25 ?_; refine J3 ?_
        (repeat refine sq ?_)
        refine yq64 ?_; refine yq95 ?_; refine yq63 ?_; refine TO.take 6 rfl zK zK zK (PV.loadAgg rfl zq0 zA zX) Wanted.none rfl rfl ?_; refine yq83 ?_; refine yq46 ?_; refine TO.take 10 rfl zK zK zK (PV.loadAgg rfl zq0 zA zX) Wanted.none rfl rfl ?_; refine TO.step 11 rfl zK zq4 zq19 ?_; (refine T.callQ (cap := cap) Wanted.none rfl rfl rfl hcall ?_; rintro _ rfl); refine yq30 ?_; refine yq73 ?_; refine yq37 ?_; refine yq110 ?_
        exact T.nextP ⟨c + 1, j⟩ ⟨by dsimp only; omega, by dsimp only; omega, c3, fun q hq hy2 he => by
          dsimp only at he ⊢
          obtain rfl : q = c - a := by omega
          have e1 : mid + m - (c + 1) - m = mid - 1 - c := by omega
          simp only [e1]
          rw [← hx, ← hy]; omega, c5⟩ zE zq8 zq23 rfl
    · have hd3 : decide ((i : Int) < (j : Int)) = false := decide_eq_false zO
      obtain rfl : i = j := by omega
      obtain ⟨t, ht⟩ : ∃ t, t = i - a := ⟨_, rfl⟩
      obtain ⟨e, he⟩ : ∃ e, e = mid + m - i := ⟨_, rfl⟩
      have htl : t ≤ X'.length := by omega
      have hel : e - m ≤ Y.length := by omega
      have hcut := mrg_cut hX hY t (e - m) htl hel (fun q hq hy h => by
        have := c4 q hq zO zO
        simp only [show mid + m - i - m = e - m by omega] at this
        exact this) (fun q hq hx h => by
        have := c5 q hq zO zO
        simp only [show i - a = t by omega] at this
        exact this)
      obtain ⟨X1, hX1⟩ : ∃ X1, X1 = X'.take t := ⟨_, rfl⟩
      obtain ⟨X2, hX2e⟩ : ∃ X2, X2 = X'.drop t := ⟨_, rfl⟩
      obtain ⟨Y1, hY1⟩ : ∃ Y1, Y1 = Y.take (e - m) := ⟨_, rfl⟩
      obtain ⟨Y2, hY2e⟩ : ∃ Y2, Y2 = Y.drop (e - m) := ⟨_, rfl⟩
      have hXX : X' = X1 ++ X2 := by rw [hX1, hX2e, List.take_append_drop]
      have hYY : Y = Y1 ++ Y2 := by rw [hY1, hY2e, List.take_append_drop]
      have lX1 : X1.length = t := by rw [hX1, List.length_take]; omega
      have lX2 : X2.length = m - i := by rw [hX2e, List.length_drop]; omega
      have lY1 : Y1.length = e - m := by rw [hY1, List.length_take]; omega
      have lY2 : Y2.length = b2 - e := by rw [hY2e, List.length_drop]; omega
      have sX1 : KSorted key X1 := by rw [hX1]; exact List.Pairwise.sublist (List.take_sublist _ _) hX
      have sX2 : KSorted key X2 := by rw [hX2e]; exact List.Pairwise.sublist (List.drop_sublist _ _) hX
      have sY1 : KSorted key Y1 := by rw [hY1]; exact List.Pairwise.sublist (List.take_sublist _ _) hY
      have sY2 : KSorted key Y2 := by rw [hY2e]; exact List.Pairwise.sublist (List.drop_sublist _ _) hY
      have oX : ∀ x ∈ X1 ++ X2, Ok x := hXX ▸ hxo
      have oY : ∀ x ∈ Y1 ++ Y2, Ok x := hYY ▸ hyo
      rw [← hX1, ← hX2e, ← hY1, ← hY2e] at hcut
      obtain ⟨D1, hD1⟩ : ∃ D1, D1 = P ++ (X1 ++ (Y1 ++ (X2 ++ (Y2 ++ Q)))) := ⟨_, rfl⟩
      obtain ⟨D2, hD2⟩ : ∃ D2, D2 = P ++ (mrg key X1 Y1 ++ (X2 ++ (Y2 ++ Q))) := ⟨_, rfl⟩
      have hmX1 : (mrg key X1 Y1).length = X1.length + Y1.length := mrg_len X1 Y1 sX1 sY1
      refine yq66 ?_; refine J8 ?_
      rw [show (mid : Int) + (m : Int) - (i : Int) = (e : Int) by omega]
      (repeat refine sq ?_)
      refine T.cutK2 (γ := Unit) [(0, .slice (some ⟨b, 0, none⟩) N capv), (1, .int .i64 (a : Int)), (3, .int .i64 (b2 : Int)), (4, .func (.func gf) #[] cap.toArray), (18, .int .i64 (mid : Int)), (20, .int .i64 (i : Int)), (24, .int .i64 (e : Int))] (fun _ => True) (fun _ => []) (fun _ => [BlkI b tl D1]) (fun _ _ => ?_) (fun K2 => ?_)
      · (repeat refine sq ?_)
        refine T.cutK2 (γ := Unit) [(0, .slice (some ⟨b, 0, none⟩) N capv), (3, .int .i64 (b2 : Int)), (4, .func (.func gf) #[] cap.toArray), (18, .int .i64 (mid : Int)), (24, .int .i64 (e : Int))] (fun _ => True) (fun _ => []) (fun _ => [BlkI b tl D2]) (fun _ _ => ?_) (fun K3 => ?_)
        · by_cases hc : mid < e ∧ e < b2
          · have hda : decide ((mid : Int) < (e : Int)) = true := decide_eq_true zO
            have hdb : decide ((e : Int) < (b2 : Int)) = true := decide_eq_true zO
            have hrec := ih (P ++ mrg key X1 Y1) X2 Y2 Q zO (by intro h; rw [h] at lX2; simp at lX2; omega) (by intro h; rw [h] at lY2; simp at lY2; omega) sX2 sY2 (fun x hx => oX x (List.mem_append_right _ hx)) (fun x hx => oY x (List.mem_append_right _ hx)) (by rw [List.length_append, hmX1]; omega)
            rw [List.length_append, hmX1, show P.length + (X1.length + Y1.length) = mid by omega, show mid + X2.length = e by omega, show e + Y2.length = b2 by omega, List.append_assoc P, List.append_assoc P, ← hD2] at hrec
            refine J6 ?_; refine yq69 ?_; refine yq17 ?_; refine so ?_; refine yq110 ?_; refine T.callWV Wanted.none rfl rfl hrec zq1 ?_; refine so ?_
            exact T.fallW (Lv.finW [BlkI b tl (P ++ (mrg key X1 Y1 ++ (mrg key X2 Y2 ++ Q)))] zq4 (RV.none rfl) ⟨rfl, rfl, by simp only [hcut, List.append_assoc]⟩)
          · have hmm : mrg key X2 Y2 = X2 ++ Y2 := by
              by_cases h1 : mid < e
              · have : Y2 = [] := List.eq_nil_of_length_eq_zero zO
                rw [this, mrg_nil, List.append_nil]
              · have : X2 = [] := List.eq_nil_of_length_eq_zero zO
                rw [this, mrg_nil', List.nil_append]
            have hres : D2 = P ++ (mrg key X' Y ++ Q) := by rw [hD2, hcut, hmm]; simp only [List.append_assoc]
            by_cases h1 : mid < e
            · have hda : decide ((mid : Int) < (e : Int)) = true := decide_eq_true zO
              have hdb : decide ((e : Int) < (b2 : Int)) = false := decide_eq_false zO
              refine J6 ?_; refine yq69 ?_; refine yq17 ?_; refine so ?_; refine yq6 ?_; refine T.skip ?_
              exact T.fallW (Lv.finW _ (List.Sublist.refl _) (RV.none rfl) ⟨rfl, rfl, by rw [hres]⟩)
            · have hda : decide ((mid : Int) < (e : Int)) = false := decide_eq_false zO
              refine J6 ?_; refine yq5 ?_; refine yq48 ?_; refine J3 ?_
              exact T.fallW (Lv.finW _ (List.Sublist.refl _) (RV.none rfl) ⟨rfl, rfl, by rw [hres]⟩)
        · by_cases hc : a < i ∧ i < mid
          · have hda : decide ((a : Int) < (i : Int)) = true := decide_eq_true zO
            have hdb : decide ((i : Int) < (mid : Int)) = true := decide_eq_true zO
            have hrec := ih P X1 Y1 (X2 ++ (Y2 ++ Q)) zO (by intro h; rw [h] at lX1; simp at lX1; omega) (by intro h; rw [h] at lY1; simp at lY1; omega) sX1 sY1 (fun x hx => oX x (List.mem_append_left _ hx)) (fun x hx => oY x (List.mem_append_left _ hx)) (by rw [List.length_append, List.length_append]; omega)
            rw [← ha, show a + X1.length = i by omega, show i + Y1.length = mid by omega, ← hD1, ← hD2] at hrec
            refine J5 ?_; refine yq69 ?_; refine yq17 ?_; refine so ?_; refine yq110 ?_; refine T.callWV Wanted.none rfl rfl hrec zq1 ?_; refine so ?_
            exact K3 () _ _ trivial zq8 zq23
          · have hres : D1 = D2 := by
              rw [hD1, hD2]
              by_cases h1 : a < i
              · have : Y1 = [] := List.eq_nil_of_length_eq_zero zO
                rw [this, mrg_nil, List.nil_append]
              · have : X1 = [] := List.eq_nil_of_length_eq_zero zO
                rw [this, mrg_nil', List.nil_append]
            rw [hres]
            by_cases h1 : a < i
            · have hda : decide ((a : Int) < (i : Int)) = true := decide_eq_true zO
              have hdb : decide ((i : Int) < (mid : Int)) = false := decide_eq_false zO
              refine J5 ?_; refine yq69 ?_; refine yq17 ?_; refine so ?_; refine yq6 ?_; refine T.skip ?_
              exact K3 () _ _ trivial zq8 zq23
            · have hda : decide ((a : Int) < (i : Int)) = false := decide_eq_false zO
              refine J5 ?_; refine yq5 ?_; refine yq48 ?_; refine J3 ?_
              exact K3 () _ _ trivial zq8 zq23
      · by_cases hc : i < m ∧ m < e
        · have hda : decide ((i : Int) < (m : Int)) = true := decide_eq_true zO
          have hdb : decide ((m : Int) < (e : Int)) = true := decide_eq_true zO
          have hrot := rotateI_fn (P ++ X1) X2 Y1 (Y2 ++ Q) N b capv tl (.func (.func gf) #[] cap.toArray) H (by intro h; rw [h] at lX2; simp at lX2; omega) (by intro h; rw [h] at lY1; simp at lY1; omega) (by rw [List.length_append, List.length_append]; omega) hs
          rw [show (P ++ X1).length = i by rw [List.length_append]; omega, show i + X2.length = m by omega, show m + Y1.length = e by omega, show (P ++ X1) ++ (X2 ++ (Y1 ++ (Y2 ++ Q))) = P ++ (X' ++ (Y ++ Q)) by rw [hXX, hYY]; simp only [List.append_assoc], show (P ++ X1) ++ (Y1 ++ (X2 ++ (Y2 ++ Q))) = D1 by rw [hD1]; simp only [List.append_assoc]] at hrot
          refine J5 ?_; refine yq69 ?_; refine yq17 ?_; refine so ?_; refine yq110 ?_; refine T.callWV Wanted.none rfl rfl hrot zq1 ?_; refine so ?_
          exact K2 () _ _ trivial zq8 zq23
        · have hres : P ++ (X' ++ (Y ++ Q)) = D1 := by
            rw [hD1, hXX, hYY]
            by_cases h1 : i < m
            · have : Y1 = [] := List.eq_nil_of_length_eq_zero zO
              rw [this]; simp only [List.append_assoc, List.nil_append]
            · have : X2 = [] := List.eq_nil_of_length_eq_zero zO
              rw [this]; simp only [List.append_assoc, List.nil_append]
          rw [hres]
          by_cases h1 : i < m
          · have hda : decide ((i : Int) < (m : Int)) = true := decide_eq_true zO
            have hdb : decide ((m : Int) < (e : Int)) = false := decide_eq_false zO
            refine J5 ?_; refine yq69 ?_; refine yq17 ?_; refine so ?_; refine yq6 ?_; refine T.skip ?_
            exact K2 () _ _ trivial zq8 zq23
          · have hda : decide ((i : Int) < (m : Int)) = false := decide_eq_false zO
            refine J5 ?_; refine yq5 ?_; refine yq48 ?_; refine J3 ?_
            exact K2 () _ _ trivial zq8 zq23
  · by_cases hmm : mid < m
    · have hd4 : decide ((mid : Int) < (m : Int)) = true := decide_eq_true zO
      refine yq9 ?_; refine J11 ?_
      rw [show (mid : Int) + (m : Int) - (b2 : Int) = ((mid + m - b2 : Nat) : Int) by omega]
      exact KK (mid + m - b2, mid) _ _ ⟨by dsimp only; omega, by dsimp only; omega, by dsimp only; omega, by dsimp only; omega, by dsimp only; omega, by dsimp only; omega, by dsimp only; omega⟩ zq8 zq23
    · have hd4 : decide ((mid : Int) < (m : Int)) = false := decide_eq_false zO
      refine yq6 ?_; refine J9 ?_
      exact KK (a, m) _ _ ⟨by dsimp only; omega, by dsimp only; omega, by dsimp only; omega, by dsimp only; omega, by dsimp only; omega, by dsimp only; omega, by dsimp only; omega⟩ zq8 zq23

end Go.Proofs.YtecogbhbkccblaaGreatDoor
namespace Go.Proofs.YtecogbhbkccblaaGreatDoor
open Go.RowKit


theorem symGZ_fn (key : Nat → Int) (Ok : Nat → Prop) (gf : FuncId) [hE : Ent Tryz.prog gf] (cap : List Value) (H : Hp) (b N capv : Nat) (tl : List Value) (hs : N ≤ 1000000)
    (hg : ∀ x y, Ok x → Ok y → Fn Tryz.prog gf (zV x :: zV y :: cap).toArray H (fun u _ => u = .int .i64 (key x - key y))) (n0 : Nat)
    (ih : ∀ (P X Y Q : List Nat), X.length + Y.length ≤ n0 → X ≠ [] → Y ≠ [] → KSorted key X → KSorted key Y → (∀ x ∈ X, Ok x) → (∀ y ∈ Y, Ok y) → N = P.length + X.length + Y.length + Q.length →
      FnW Tryz.prog 238 #[.slice (some ⟨b, 0, none⟩) N capv, .int .i64 (P.length : Int), .int .i64 ((P.length + X.length : Nat) : Int), .int .i64 ((P.length + X.length + Y.length : Nat) : Int), .func (.func gf) #[] cap.toArray] H [BlkZ b tl (P ++ (X ++ (Y ++ Q)))] (fun u H' l' => u = .tuple #[] ∧ H' = H ∧ l' = [BlkZ b tl (P ++ (mrg key X Y ++ Q))]))
    (P X' Y Q : List Nat) (hn : X'.length + Y.length ≤ n0 + 1) (hX2 : 2 ≤ X'.length) (hY2 : 2 ≤ Y.length) (hX : KSorted key X') (hY : KSorted key Y) (hxo : ∀ x ∈ X', Ok x) (hyo : ∀ y ∈ Y, Ok y) (hN : N = P.length + X'.length + Y.length + Q.length) :
    FnW Tryz.prog 238 #[.slice (some ⟨b, 0, none⟩) N capv, .int .i64 (P.length : Int), .int .i64 ((P.length + X'.length : Nat) : Int), .int .i64 ((P.length + X'.length + Y.length : Nat) : Int), .func (.func gf) #[] cap.toArray] H [BlkZ b tl (P ++ (X' ++ (Y ++ Q)))] (fun u H' l' => u = .tuple #[] ∧ H' = H ∧ l' = [BlkZ b tl (P ++ (mrg key X' Y ++ Q))]) := by
  obtain ⟨a, ha⟩ : ∃ a, a = P.length := ⟨_, rfl⟩
  obtain ⟨m, hm⟩ : ∃ m, m = a + X'.length := ⟨_, rfl⟩
  obtain ⟨b2, hb2⟩ : ∃ b2, b2 = m + Y.length := ⟨_, rfl⟩
  obtain ⟨mid, hmid⟩ : ∃ mid, mid = (a + b2) / 2 := ⟨_, rfl⟩
  rw [← ha, ← hm, ← hb2]
  refine FnW.of_T (vs := [.slice (some ⟨b, 0, none⟩) N capv, .int .i64 (a : Int), .int .i64 (m : Int), .int .i64 (b2 : Int), .func (.func gf) #[] cap.toArray]) Tryz.func238 rfl rfl fun w => ?_
  have hd1 : decide ((m : Int) - (a : Int) = 1) = false := decide_eq_false zO
  have hd2 : decide ((b2 : Int) - (m : Int) = 1) = false := decide_eq_false zO
  have hshm : shrI .u64 ((a : Int) + (b2 : Int)) 1 = (mid : Int) := by
    have := shr64 (x := a + b2) (i := 1) zO
    rw [Nat.shiftRight_eq_div_pow, Nat.pow_one, ← hmid] at this
    exact this
  refine J8 ?_; refine yq6 ?_; refine J9 ?_; refine yq85 ?_; refine yq25 ?_; refine J21 ?_
  refine so ?_
  refine T.cutK (γ := Nat × Nat) [(0, .slice (some ⟨b, 0, none⟩) N capv), (1, .int .i64 (a : Int)), (2, .int .i64 (m : Int)), (3, .int .i64 (b2 : Int)), (4, .func (.func gf) #[] cap.toArray), (18, .int .i64 (mid : Int)), (19, .int .i64 ((mid : Int) + (m : Int)))] (fun g => a ≤ g.1 ∧ g.1 ≤ g.2 ∧ g.2 ≤ m ∧ g.2 ≤ mid ∧ mid + m ≤ g.1 + b2 ∧ (g.1 = a ∨ g.1 + b2 = mid + m) ∧ (g.2 = m ∨ g.2 = mid)) (fun g => [(20, .int .i64 (g.1 : Int)), (21, .int .i64 (g.2 : Int))]) (fun _ => [BlkZ b tl (P ++ (X' ++ (Y ++ Q)))]) (fun g hg0 => ?_) (fun KK => ?_)
  · obtain ⟨s0, r0⟩ := g
    obtain ⟨k1, k2, k3, k4, k5, k6, k7⟩ := hg0
    dsimp only at k1 k2 k3 k4 k5 k6 k7 ⊢
    refine J8 ?_; refine T.loopK [(22, Value.int IntKind.i64 ((↑mid : Int) + (↑m : Int) - 1)), (0, Value.slice (some { block := b, off := 0 }) N capv), (1, Value.int IntKind.i64 (↑a : Int)), (2, Value.int IntKind.i64 (↑m : Int)), (3, Value.int IntKind.i64 (↑b2 : Int)), (4, Value.func (Fn.func gf) #[] cap.toArray), (18, Value.int IntKind.i64 (↑mid : Int)), (19, Value.int IntKind.i64 ((↑mid : Int) + (↑m : Int)))] zq8 (γ := SyZG) (fun g => s0 ≤ g.i ∧ g.i ≤ g.j ∧ g.j ≤ r0 ∧ (∀ (q : Nat) (hq : q < X'.length) (hy : mid + m - g.i - m < Y.length), q + 1 + a = g.i → key X'[q] ≤ key Y[mid + m - g.i - m]) ∧ (∀ (q : Nat) (hq : q < Y.length) (hx : g.j - a < X'.length), q + 1 + m + g.j = mid + m → key Y[q] < key X'[g.j - a])) (fun g => [(20, .int .i64 (g.i : Int)), (21, .int .i64 (g.j : Int))]) (fun _ => [BlkZ b tl (P ++ (X' ++ (Y ++ Q)))]) (fun _ => H) (fun g => g.j - g.i) ⟨s0, r0⟩ ⟨Nat.le_refl _, k2, Nat.le_refl _, fun q hq hy h => by dsimp only at hy h; omega, fun q hq hx h => by dsimp only at hx h; omega⟩ zq8 zq23 rfl ?_
    rintro ⟨i, j⟩ ⟨c1, c2, c3, c4, c5⟩
    dsimp only at c1 c2 c3 c4 c5 ⊢
    by_cases hij : i < j
    · have hd3 : decide ((i : Int) < (j : Int)) = true := decide_eq_true zO
      obtain ⟨c, hc⟩ : ∃ c, c = (i + j) / 2 := ⟨_, rfl⟩
      have hqx : c - a < X'.length := by omega
      have hqy : mid - 1 - c < Y.length := by omega
      obtain ⟨x, hx⟩ : ∃ x, x = X'[c - a] := ⟨_, rfl⟩
      obtain ⟨y, hy⟩ : ∃ y, y = Y[mid - 1 - c] := ⟨_, rfl⟩
      have hcall := hg y x (by rw [hy]; exact hyo _ (List.getElem_mem hqy)) (by rw [hx]; exact hxo _ (List.getElem_mem hqx))
      have g1 : (P ++ (X' ++ (Y ++ Q)))[c]? = some x := by
        have := getX P X' (Y ++ Q) hqx
        rw [← ha, show a + (c - a) = c by omega, ← hx] at this
        exact this
      have g2 : (P ++ (X' ++ (Y ++ Q)))[m + (mid - 1 - c)]? = some y := by
        have := getY P X' Y Q hqy
        rw [← ha, ← hm, ← hy] at this
        exact this
      have l1 : ((P ++ (X' ++ (Y ++ Q))).flatMap encZi ++ tl)[0 + ((c : Int)).toNat * 1]? = some (.int .i64 (x : Int)) := ldZ g1 rfl
      have l2 : ((P ++ (X' ++ (Y ++ Q))).flatMap encZi ++ tl)[0 + ((mid : Int) + (m : Int) - 1 - (c : Int)).toNat * 1]? = some (.int .i64 (y : Int)) := ldZ g2 zO
      have hsh : shrI .u64 ((i : Int) + (j : Int)) 1 = (c : Int) := by
        have := shr64 (x := i + j) (i := 1) zO
        rw [Nat.shiftRight_eq_div_pow, Nat.pow_one, ← hc] at this
        exact this
      by_cases hlt : key y < key x
      · have hdc : (!decide (key y - key x < 0)) = false := by rw [decide_eq_true zO]; rfl
        have hsh := hsh
        refine yq59 ?_; refine J7 ?_; refine yq25 ?_; refine J3 ?_
        (repeat refine sq ?_)
        refine yq64 ?_; refine yq95 ?_; refine yq63 ?_; refine TO.take 6 rfl zK zK zK (PV.load1 rfl zq0 zA) Wanted.none rfl rfl ?_; refine yq83 ?_; refine yq46 ?_; refine TO.take 10 rfl zK zK zK (PV.load1 rfl zq0 zA) Wanted.none rfl rfl ?_; refine TO.step 11 rfl zK zq4 zq19 ?_; (refine T.callQ (cap := cap) Wanted.none rfl rfl rfl hcall ?_; rintro _ rfl); refine yq30 ?_; refine yq73 ?_; refine yq37 ?_; refine yq6 ?_; refine J5 ?_
        exact T.nextP ⟨i, c⟩ ⟨c1, by dsimp only; omega, by dsimp only; omega, c4, fun q hq hx2 he => by
          dsimp only at he ⊢
          obtain rfl : q = mid - 1 - c := by omega
          rw [← hx, ← hy]; exact hlt⟩ zE zq8 zq23 rfl
      · have hdc : (!decide (key y - key x < 0)) = true := by rw [decide_eq_false zO]; rfl
        have hsh := hsh
        refine yq59 ?_; refine J7 ?_; refine yq25 ?_; refine J3 ?_
        (repeat refine sq ?_)
        refine yq64 ?_; refine yq95 ?_; refine yq63 ?_; refine TO.take 6 rfl zK zK zK (PV.load1 rfl zq0 zA) Wanted.none rfl rfl ?_; refine yq83 ?_; refine yq46 ?_; refine TO.take 10 rfl zK zK zK (PV.load1 rfl zq0 zA) Wanted.none rfl rfl ?_; refine TO.step 11 rfl zK zq4 zq19 ?_; (refine T.callQ (cap := cap) Wanted.none rfl rfl rfl hcall ?_; rintro _ rfl); refine yq30 ?_; refine yq73 ?_; refine yq37 ?_; refine yq110 ?_
        exact T.nextP ⟨c + 1, j⟩ ⟨by dsimp only; omega, by dsimp only; omega, c3, fun q hq hy2 he => by
          dsimp only at he ⊢
          obtain rfl : q = c - a := by omega
          have e1 : mid + m - (c + 1) - m = mid - 1 - c := by omega
          simp only [e1]
          rw [← hx, ← hy]; omega, c5⟩ zE zq8 zq23 rfl
    · have hd3 : decide ((i : Int) < (j : Int)) = false := decide_eq_false zO
      obtain rfl : i = j := by omega
      obtain ⟨t, ht⟩ : ∃ t, t = i - a := ⟨_, rfl⟩
      obtain ⟨e, he⟩ : ∃ e, e = mid + m - i := ⟨_, rfl⟩
      have htl : t ≤ X'.length := by omega
      have hel : e - m ≤ Y.length := by omega
      have hcut := mrg_cut hX hY t (e - m) htl hel (fun q hq hy h => by
        have := c4 q hq zO zO
        simp only [show mid + m - i - m = e - m by omega] at this
        exact this) (fun q hq hx h => by
        have := c5 q hq zO zO
        simp only [show i - a = t by omega] at this
        exact this)
      obtain ⟨X1, hX1⟩ : ∃ X1, X1 = X'.take t := ⟨_, rfl⟩
      obtain ⟨X2, hX2e⟩ : ∃ X2, X2 = X'.drop t := ⟨_, rfl⟩
      obtain ⟨Y1, hY1⟩ : ∃ Y1, Y1 = Y.take (e - m) := ⟨_, rfl⟩
      obtain ⟨Y2, hY2e⟩ : ∃ Y2, Y2 = Y.drop (e - m) := ⟨_, rfl⟩
      have hXX : X' = X1 ++ X2 := by rw [hX1, hX2e, List.take_append_drop]
      have hYY : Y = Y1 ++ Y2 := by rw [hY1, hY2e, List.take_append_drop]
      have lX1 : X1.length = t := by rw [hX1, List.length_take]; omega
      have lX2 : X2.length = m - i := by rw [hX2e, List.length_drop]; omega
      have lY1 : Y1.length = e - m := by rw [hY1, List.length_take]; omega
      have lY2 : Y2.length = b2 - e := by rw [hY2e, List.length_drop]; omega
      have sX1 : KSorted key X1 := by rw [hX1]; exact List.Pairwise.sublist (List.take_sublist _ _) hX
      have sX2 : KSorted key X2 := by rw [hX2e]; exact List.Pairwise.sublist (List.drop_sublist _ _) hX
      have sY1 : KSorted key Y1 := by rw [hY1]; exact List.Pairwise.sublist (List.take_sublist _ _) hY
      have sY2 : KSorted key Y2 := by rw [hY2e]; exact List.Pairwise.sublist (List.drop_sublist _ _) hY
      have oX : ∀ x ∈ X1 ++ X2, Ok x := hXX ▸ hxo
      have oY : ∀ x ∈ Y1 ++ Y2, Ok x := hYY ▸ hyo
      rw [← hX1, ← hX2e, ← hY1, ← hY2e] at hcut
      obtain ⟨D1, hD1⟩ : ∃ D1, D1 = P ++ (X1 ++ (Y1 ++ (X2 ++ (Y2 ++ Q)))) := ⟨_, rfl⟩
      obtain ⟨D2, hD2⟩ : ∃ D2, D2 = P ++ (mrg key X1 Y1 ++ (X2 ++ (Y2 ++ Q))) := ⟨_, rfl⟩
      have hmX1 : (mrg key X1 Y1).length = X1.length + Y1.length := mrg_len X1 Y1 sX1 sY1
      refine yq66 ?_; refine J8 ?_
      rw [show (mid : Int) + (m : Int) - (i : Int) = (e : Int) by omega]
      (repeat refine sq ?_)
      refine T.cutK2 (γ := Unit) [(0, .slice (some ⟨b, 0, none⟩) N capv), (1, .int .i64 (a : Int)), (3, .int .i64 (b2 : Int)), (4, .func (.func gf) #[] cap.toArray), (18, .int .i64 (mid : Int)), (20, .int .i64 (i : Int)), (24, .int .i64 (e : Int))] (fun _ => True) (fun _ => []) (fun _ => [BlkZ b tl D1]) (fun _ _ => ?_) (fun K2 => ?_)
      · (repeat refine sq ?_)
        refine T.cutK2 (γ := Unit) [(0, .slice (some ⟨b, 0, none⟩) N capv), (3, .int .i64 (b2 : Int)), (4, .func (.func gf) #[] cap.toArray), (18, .int .i64 (mid : Int)), (24, .int .i64 (e : Int))] (fun _ => True) (fun _ => []) (fun _ => [BlkZ b tl D2]) (fun _ _ => ?_) (fun K3 => ?_)
        · by_cases hc : mid < e ∧ e < b2
          · have hda : decide ((mid : Int) < (e : Int)) = true := decide_eq_true zO
            have hdb : decide ((e : Int) < (b2 : Int)) = true := decide_eq_true zO
            have hrec := ih (P ++ mrg key X1 Y1) X2 Y2 Q zO (by intro h; rw [h] at lX2; simp at lX2; omega) (by intro h; rw [h] at lY2; simp at lY2; omega) sX2 sY2 (fun x hx => oX x (List.mem_append_right _ hx)) (fun x hx => oY x (List.mem_append_right _ hx)) (by rw [List.length_append, hmX1]; omega)
            rw [List.length_append, hmX1, show P.length + (X1.length + Y1.length) = mid by omega, show mid + X2.length = e by omega, show e + Y2.length = b2 by omega, List.append_assoc P, List.append_assoc P, ← hD2] at hrec
            refine J6 ?_; refine yq69 ?_; refine yq17 ?_; refine so ?_; refine yq110 ?_; refine T.callWV Wanted.none rfl rfl hrec zq1 ?_; refine so ?_
            exact T.fallW (Lv.finW [BlkZ b tl (P ++ (mrg key X1 Y1 ++ (mrg key X2 Y2 ++ Q)))] zq4 (RV.none rfl) ⟨rfl, rfl, by simp only [hcut, List.append_assoc]⟩)
          · have hmm : mrg key X2 Y2 = X2 ++ Y2 := by
              by_cases h1 : mid < e
              · have : Y2 = [] := List.eq_nil_of_length_eq_zero zO
                rw [this, mrg_nil, List.append_nil]
              · have : X2 = [] := List.eq_nil_of_length_eq_zero zO
                rw [this, mrg_nil', List.nil_append]
            have hres : D2 = P ++ (mrg key X' Y ++ Q) := by rw [hD2, hcut, hmm]; simp only [List.append_assoc]
            by_cases h1 : mid < e
            · have hda : decide ((mid : Int) < (e : Int)) = true := decide_eq_true zO
              have hdb : decide ((e : Int) < (b2 : Int)) = false := decide_eq_false zO
              refine J6 ?_; refine yq69 ?_; refine yq17 ?_; refine so ?_; refine yq6 ?_; refine T.skip ?_
              exact T.fallW (Lv.finW _ (List.Sublist.refl _) (RV.none rfl) ⟨rfl, rfl, by rw [hres]⟩)
            · have hda : decide ((mid : Int) < (e : Int)) = false := decide_eq_false zO
              refine J6 ?_; refine yq5 ?_; refine yq48 ?_; refine J3 ?_
              exact T.fallW (Lv.finW _ (List.Sublist.refl _) (RV.none rfl) ⟨rfl, rfl, by rw [hres]⟩)
        · by_cases hc : a < i ∧ i < mid
          · have hda : decide ((a : Int) < (i : Int)) = true := decide_eq_true zO
            have hdb : decide ((i : Int) < (mid : Int)) = true := decide_eq_true zO
            have hrec := ih P X1 Y1 (X2 ++ (Y2 ++ Q)) zO (by intro h; rw [h] at lX1; simp at lX1; omega) (by intro h; rw [h] at lY1; simp at lY1; omega) sX1 sY1 (fun x hx => oX x (List.mem_append_left _ hx)) (fun x hx => oY x (List.mem_append_left _ hx)) (by rw [List.length_append, List.length_append]; omega)
            rw [← ha, show a + X1.length = i by omega, show i + Y1.length = mid by omega, ← hD1, ← hD2] at hrec
            refine J5 ?_; refine yq69 ?_; refine yq17 ?_; refine so ?_; refine yq110 ?_; refine T.callWV Wanted.none rfl rfl hrec zq1 ?_; refine so ?_
            exact K3 () _ _ trivial zq8 zq23
          · have hres : D1 = D2 := by
              rw [hD1, hD2]
              by_cases h1 : a < i
              · have : Y1 = [] := List.eq_nil_of_length_eq_zero zO
                rw [this, mrg_nil, List.nil_append]
              · have : X1 = [] := List.eq_nil_of_length_eq_zero zO
                rw [this, mrg_nil', List.nil_append]
            rw [hres]
            by_cases h1 : a < i
            · have hda : decide ((a : Int) < (i : Int)) = true := decide_eq_true zO
              have hdb : decide ((i : Int) < (mid : Int)) = false := decide_eq_false zO
              refine J5 ?_; refine yq69 ?_; refine yq17 ?_; refine so ?_; refine yq6 ?_; refine T.skip ?_
              exact K3 () _ _ trivial zq8 zq23
            · have hda : decide ((a : Int) < (i : Int)) = false := decide_eq_false zO
              refine J5 ?_; refine yq5 ?_; refine yq48 ?_; refine J3 ?_
              exact K3 () _ _ trivial zq8 zq23
      · by_cases hc : i < m ∧ m < e
        · have hda : decide ((i : Int) < (m : Int)) = true := decide_eq_true zO
          have hdb : decide ((m : Int) < (e : Int)) = true := decide_eq_true zO
          have hrot := rotateZ_fn (P ++ X1) X2 Y1 (Y2 ++ Q) N b capv tl (.func (.func gf) #[] cap.toArray) H (by intro h; rw [h] at lX2; simp at lX2; omega) (by intro h; rw [h] at lY1; simp at lY1; omega) (by rw [List.length_append, List.length_append]; omega) hs
          rw [show (P ++ X1).length = i by rw [List.length_append]; omega, show i + X2.length = m by omega, show m + Y1.length = e by omega, show (P ++ X1) ++ (X2 ++ (Y1 ++ (Y2 ++ Q))) = P ++ (X' ++ (Y ++ Q)) by rw [hXX, hYY]; simp only [List.append_assoc], show (P ++ X1) ++ (Y1 ++ (X2 ++ (Y2 ++ Q))) = D1 by rw [hD1]; simp only [List.append_assoc]] at hrot
          refine J5 ?_; refine yq69 ?_; refine yq17 ?_; refine so ?_; refine yq110 ?_; refine T.callWV Wanted.none rfl rfl hrot zq1 ?_; refine so ?_
          exact K2 () _ _ trivial zq8 zq23
        · have hres : P ++ (X' ++ (Y ++ Q)) = D1 := by
            rw [hD1, hXX, hYY]
            by_cases h1 : i < m
            · have : Y1 = [] := List.eq_nil_of_length_eq_zero zO
              rw [this]; simp only [List.append_assoc, List.nil_append]
            · have : X2 = [] := List.eq_nil_of_length_eq_zero zO
              rw [this]; simp only [List.append_assoc, List.nil_append]
          rw [hres]
          by_cases h1 : i < m
          · have hda : decide ((i : Int) < (m : Int)) = true := decide_eq_true zO
            have hdb : decide ((m : Int) < (e : Int)) = false := decide_eq_false zO
            refine J5 ?_; refine yq69 ?_; refine yq17 ?_; refine so ?_; refine yq6 ?_; refine T.skip ?_
            exact K2 () _ _ trivial zq8 zq23
          · have hda : decide ((i : Int) < (m : Int)) = false := decide_eq_false zO
            refine J5 ?_; refine yq5 ?_; refine yq48 ?_; refine J3 ?_
            exact K2 () _ _ trivial zq8 zq23
  · by_cases hmm : mid < m
    · have hd4 : decide ((mid : Int) < (m : Int)) = true := decide_eq_true zO
      refine yq9 ?_; refine J11 ?_
      rw [show (mid : Int) + (m : Int) - (b2 : Int) = ((mid + m - b2 : Nat) : Int) by omega]
      exact KK (mid + m - b2, mid) _ _ ⟨by dsimp only; omega, by dsimp only; omega, by dsimp only; omega, by dsimp only; omega, by dsimp only; omega, by dsimp only; omega, by dsimp only; omega⟩ zq8 zq23
    · have hd4 : decide ((mid : Int) < (m : Int)) = false := decide_eq_false zO
      refine yq6 ?_; refine J9 ?_
      exact KK (a, m) _ _ ⟨by dsimp only; omega, by dsimp only; omega, by dsimp only; omega, by dsimp only; omega, by dsimp only; omega, by dsimp only; omega, by dsimp only; omega⟩ zq8 zq23

end Go.Proofs.YtecogbhbkccblaaGreatDoor
