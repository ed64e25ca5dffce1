/- codepoint: the laws. -/
import Derived.Test.YteanijikhogijaaX10
namespace Go.Proofs.Yteanijikhogijaa
open Go.RowKit

theorem slR_lit {H : Hp} {b t n : Nat} {fz : Nat × Nat} {xs : List Value} (h : H b = some (.cells xs.toArray t fz)) (hn : xs.length = n) : SlR H 1 (.slice (some ⟨b, 0, none⟩) n n) n xs :=
  ⟨by rw [hn]; simp, .inr ⟨b, 0, n, xs, t, fz, rfl, h, by rw [List.drop_zero, List.take_of_length_le (by omega)]⟩⟩
theorem T.freezeLit {P : Program} {X : Cx} {e : Env} {l : List (Nat × Obj)} {H : Hp} {D : List Deferred} {k : List It} {b : Nat} {o : Obj} (h : ∀ H1, H.le H1 → H1 b = some o → T P X e l H1 D k) : T P X e ((b, o) :: l) H D k :=
  T.mk fun a w ha hw => (h (H.put b o) (Hp.le_put (hw.own _ List.mem_cons_self).2.1) Hp.put_same).get a w ha hw.freeze
theorem i64_range {i : Int} (h : (Lit.int .i64 i).wf = true) : -9223372036854775808 ≤ i ∧ i ≤ 9223372036854775807 := by
  simp only [Lit.wf, Bool.and_eq_true, decide_eq_true_eq] at h
  exact h
theorem longL_false' {l : List ByteArray} (h : longL l = false) : ∀ s ∈ l, s.size ≤ 400 := by
  intro s hs
  rw [longL, List.any_eq_false] at h
  have := h s hs
  simpa using this
theorem longL_false {l : List ByteArray} (h : longL l = false) : ∀ s ∈ l, s.size ≤ 4000 := fun s hs => Nat.le_trans (longL_false' h s hs) (by omega)

set_option maxHeartbeats 1000000 in
theorem lawFolds (s : ByteArray) (H : Hp) : Fn Try.prog 8 #[.string s] H (fun v _ => v = .bool true) := by
  refine Fn.of_T (vs := [.string s]) Try.func8 rfl rfl fun w => ?_
  refine T.seq ?_
  refine T.region ?_
  refine T.pv (PV.assign rfl) Wanted.none rfl rfl ?_
  refine T.opsNil ?_
  refine T.seq ?_
  refine T.seq ?_
  refine T.region ?_
  refine T.pv (PV.move rfl) Wanted.none rfl rfl ?_
  (refine T.buildSlice Wanted.none rfl rfl (by repeat (first | exact FillAll.nil | (apply FillAll.cons; (first | exact CellsR.one rfl | exact CellsR.agg); exact rfl))) (by exact rfl) (by exact rfl) ?_; intro b4)
  refine T.freezeLit ?_
  intro H1 hle1 hH1
  have hsl : SlR H1 1 _ _ (List.map Value.string [s]) := slR_lit hH1 rfl
  refine T.callV Wanted.none rfl rfl (long_fn [s] _ H1 hsl (Nat.le_of_ble_eq_true rfl)) ?_
  refine T.opsNil ?_
  refine T.cond rfl (fun hc => ?_) (fun hc => ?_)
  · refine T.seq ?_
    refine T.region ?_
    refine T.pv (PV.assign rfl) Wanted.none rfl rfl ?_
    refine T.opsNil ?_
    exact T.retF (Lv.fin (RV.tmp rfl rfl) rfl)
  · have hs := longL_false hc s (by simp)
    have hd : decide ((⟨(foldL s).toArray⟩ : ByteArray) = ⟨(foldL s).toArray⟩) = true := decide_eq_true rfl
    refine T.skip ?_
    refine T.seq ?_
    refine T.region ?_
    refine T.pv (PV.move rfl) Wanted.none rfl rfl ?_
    refine T.callV Wanted.none rfl rfl (fold_fn s H1 hs) ?_
    refine T.pv (PV.move rfl) Wanted.none rfl rfl ?_
    refine T.callV Wanted.none rfl rfl (refFold_fn s H1 hs) ?_
    refine T.pv (PV.seql rfl rfl) Wanted.none rfl rfl ?_
    refine T.pv (PV.move rfl) Wanted.none rfl rfl ?_
    refine T.callV (Wanted.guard rfl rfl (by assumption)) rfl rfl (awake_fn H1) ?_
    refine T.pv (PV.pickT rfl (by assumption) rfl) Wanted.none rfl rfl ?_
    refine T.pv (PV.assign rfl) Wanted.none rfl rfl ?_
    refine T.opsNil ?_
    exact T.retF (Lv.fin (RV.tmp rfl rfl) rfl)

set_option maxHeartbeats 1000000 in
theorem lawReverses (s : ByteArray) (H : Hp) : Fn Try.prog 5 #[.string s] H (fun v _ => v = .bool true) := by
  refine Fn.of_T (vs := [.string s]) Try.func5 rfl rfl fun w => ?_
  refine T.seq ?_
  refine T.region ?_
  refine T.pv (PV.assign rfl) Wanted.none rfl rfl ?_
  refine T.opsNil ?_
  refine T.seq ?_
  refine T.seq ?_
  refine T.region ?_
  refine T.pv (PV.move rfl) Wanted.none rfl rfl ?_
  (refine T.buildSlice Wanted.none rfl rfl (by repeat (first | exact FillAll.nil | (apply FillAll.cons; (first | exact CellsR.one rfl | exact CellsR.agg); exact rfl))) (by exact rfl) (by exact rfl) ?_; intro b4)
  refine T.freezeLit ?_
  intro H1 hle1 hH1
  have hsl : SlR H1 1 _ _ (List.map Value.string [s]) := slR_lit hH1 rfl
  refine T.callV Wanted.none rfl rfl (long_fn [s] _ H1 hsl (Nat.le_of_ble_eq_true rfl)) ?_
  refine T.opsNil ?_
  refine T.cond rfl (fun hc => ?_) (fun hc => ?_)
  · refine T.seq ?_
    refine T.region ?_
    refine T.pv (PV.assign rfl) Wanted.none rfl rfl ?_
    refine T.opsNil ?_
    exact T.retF (Lv.fin (RV.tmp rfl rfl) rfl)
  · have hs := longL_false hc s (by simp)
    have hd : decide ((⟨(revL s).toArray⟩ : ByteArray) = ⟨(revL s).toArray⟩) = true := decide_eq_true rfl
    refine T.skip ?_
    refine T.seq ?_
    refine T.region ?_
    refine T.pv (PV.move rfl) Wanted.none rfl rfl ?_
    refine T.callV Wanted.none rfl rfl (reverse_fn s H1 hs) ?_
    refine T.pv (PV.move rfl) Wanted.none rfl rfl ?_
    refine T.callV Wanted.none rfl rfl (refReverse_fn s H1 hs) ?_
    refine T.pv (PV.seql rfl rfl) Wanted.none rfl rfl ?_
    refine T.pv (PV.move rfl) Wanted.none rfl rfl ?_
    refine T.callV (Wanted.guard rfl rfl (by assumption)) rfl rfl (awake_fn H1) ?_
    refine T.pv (PV.pickT rfl (by assumption) rfl) Wanted.none rfl rfl ?_
    refine T.pv (PV.assign rfl) Wanted.none rfl rfl ?_
    refine T.opsNil ?_
    exact T.retF (Lv.fin (RV.tmp rfl rfl) rfl)

set_option maxHeartbeats 1000000 in
theorem lawCompares (a : ByteArray) (b : ByteArray) (H : Hp) : Fn Try.prog 9 #[.string a, .string b] H (fun v _ => v = .bool true) := by
  refine Fn.of_T (vs := [.string a, .string b]) Try.func9 rfl rfl fun w => ?_
  refine T.seq ?_
  refine T.region ?_
  refine T.pv (PV.assign rfl) Wanted.none rfl rfl ?_
  refine T.opsNil ?_
  refine T.seq ?_
  refine T.seq ?_
  refine T.region ?_
  refine T.pv (PV.move rfl) Wanted.none rfl rfl ?_
  refine T.pv (PV.move rfl) Wanted.none rfl rfl ?_
  (refine T.buildSlice Wanted.none rfl rfl (by repeat (first | exact FillAll.nil | (apply FillAll.cons; (first | exact CellsR.one rfl | exact CellsR.agg); exact rfl))) (by exact rfl) (by exact rfl) ?_; intro b7)
  refine T.freezeLit ?_
  intro H1 hle1 hH1
  have hsl : SlR H1 1 _ _ (List.map Value.string [a, b]) := slR_lit hH1 rfl
  refine T.callV Wanted.none rfl rfl (long_fn [a, b] _ H1 hsl (Nat.le_of_ble_eq_true rfl)) ?_
  refine T.opsNil ?_
  refine T.cond rfl (fun hc => ?_) (fun hc => ?_)
  · refine T.seq ?_
    refine T.region ?_
    refine T.pv (PV.assign rfl) Wanted.none rfl rfl ?_
    refine T.opsNil ?_
    exact T.retF (Lv.fin (RV.tmp rfl rfl) rfl)
  · have ha := longL_false hc a (by simp)
    have hb := longL_false hc b (by simp)
    refine T.skip ?_
    refine T.seq ?_
    refine T.region ?_
    refine T.pv (PV.move rfl) Wanted.none rfl rfl ?_
    refine T.pv (PV.move rfl) Wanted.none rfl rfl ?_
    refine T.callV Wanted.none rfl rfl (compare_fn a b H1 ha hb) ?_
    refine T.pv (PV.move rfl) Wanted.none rfl rfl ?_
    refine T.pv (PV.move rfl) Wanted.none rfl rfl ?_
    refine T.callV Wanted.none rfl rfl (refCompare_fn a b H1 ha hb) ?_
    refine T.pv (PV.eql rfl rfl) Wanted.none rfl rfl ?_
    refine T.pv (PV.move rfl) Wanted.none rfl rfl ?_
    refine T.setT (d := 16) rfl (by omega) ?_
    refine T.callV (Wanted.guard rfl rfl rfl) rfl rfl (awake_fn H1) ?_
    refine T.pv (PV.pickT rfl rfl rfl) Wanted.none rfl rfl ?_
    refine T.pv (PV.assign rfl) Wanted.none rfl rfl ?_
    refine T.opsNil ?_
    exact T.retF (Lv.fin (RV.tmp rfl rfl) rfl)

set_option maxHeartbeats 1000000 in
theorem lawPositions (s : ByteArray) (i : Int) (H : Hp) (hi : -9223372036854775808 ≤ i ∧ i ≤ 9223372036854775807) : Fn Try.prog 3 #[.string s, .int .i64 i] H (fun v _ => v = .bool true) := by
  refine Fn.of_T (vs := [.string s, .int .i64 i]) Try.func3 rfl rfl fun w => ?_
  refine T.seq ?_
  refine T.region ?_
  refine T.pv (PV.assign rfl) Wanted.none rfl rfl ?_
  refine T.opsNil ?_
  refine T.seq ?_
  refine T.seq ?_
  refine T.region ?_
  refine T.pv (PV.move rfl) Wanted.none rfl rfl ?_
  (refine T.buildSlice Wanted.none rfl rfl (by repeat (first | exact FillAll.nil | (apply FillAll.cons; (first | exact CellsR.one rfl | exact CellsR.agg); exact rfl))) (by exact rfl) (by exact rfl) ?_; intro b7)
  refine T.freezeLit ?_
  intro H1 hle1 hH1
  have hsl : SlR H1 1 _ _ (List.map Value.string [s]) := slR_lit hH1 rfl
  refine T.callV Wanted.none rfl rfl (long_fn [s] _ H1 hsl (Nat.le_of_ble_eq_true rfl)) ?_
  refine T.opsNil ?_
  refine T.cond rfl (fun hc => ?_) (fun hc => ?_)
  · refine T.seq ?_
    refine T.region ?_
    refine T.pv (PV.assign rfl) Wanted.none rfl rfl ?_
    refine T.opsNil ?_
    exact T.retF (Lv.fin (RV.tmp rfl rfl) rfl)
  · have hs := longL_false hc s (by simp)
    refine T.skip ?_
    refine T.seq ?_
    refine T.seq ?_
    refine T.region ?_
    refine T.pv (PV.assign rfl) Wanted.none rfl rfl ?_
    refine T.opsNil ?_
    refine T.block ?_
    refine T.loop (γ := Int) (fun k => -1 ≤ k ∧ k ≤ s.size + 2)
      (fun k => [(0, .string s), (1, .int .i64 i), (5, .int .i64 k), (4, .bool false)])
      (fun _ => []) (fun _ => H1) (fun k => (s.size + 2 - k).toNat) (-1) ⟨by omega, by omega⟩ (by repeat (first | exact trivial | refine And.intro rfl ?_)) (by repeat (first | exact List.Sublist.slnil | exact List.nil_sublist _ | exact List.Sublist.refl _ | exact List.sublist_append_left _ [] | apply List.Sublist.cons_cons | apply List.Sublist.cons | refine List.Sublist.append_left ?_ _)) rfl ?_
    rintro k ⟨h1, h2⟩
    have hd : ∀ k, (!eqCells [.int .i64 (posOf s k).1, .int .i64 (posOf s k).2] [.int .i64 (posOf s k).1, .int .i64 (posOf s k).2]) = false := by intro k; simp [eqCells, cellEq]
    have hd2 : ∀ k, eqCells [.int .i64 (posOf s k).1, .int .i64 (posOf s k).2] [.int .i64 (posOf s k).1, .int .i64 (posOf s k).2] = true := by intro k; simp [eqCells, cellEq]
    by_cases hk : k ≤ s.size + 1
    · have hdk := hd k
      refine T.seq ?_
      refine T.seq ?_
      refine T.region ?_
      refine T.pv (PV.move rfl) Wanted.none rfl rfl ?_
      refine T.pv (PV.move rfl) Wanted.none rfl rfl ?_
      refine T.pv (PV.lenStr rfl) Wanted.none rfl rfl ?_
      refine T.pv (PV.add rfl rfl (by omega)) Wanted.none rfl rfl ?_
      refine T.pv (PV.leq rfl rfl) Wanted.none rfl rfl ?_
      refine T.opsNil ?_
      refine T.condT rfl (decide_eq_true (by omega)) ?_
      refine T.skip ?_
      refine T.seq ?_
      refine T.block ?_
      refine T.seq ?_
      refine T.region ?_
      refine T.pv (PV.move rfl) Wanted.none rfl rfl ?_
      refine T.pv (PV.move rfl) Wanted.none rfl rfl ?_
      refine T.callV Wanted.none rfl rfl (position_fn s k H1 (by omega)) ?_
      refine T.pv (PV.move rfl) Wanted.none rfl rfl ?_
      refine T.pv (PV.move rfl) Wanted.none rfl rfl ?_
      refine T.callV Wanted.none rfl rfl (refPosition_fn s k H1 hs) ?_
      refine T.pv (PV.aneq rfl rfl rfl rfl) Wanted.none rfl rfl ?_
      refine T.opsNil ?_
      refine T.condF rfl (by assumption) ?_
      refine T.skip ?_
      refine T.blkEnd ?_
      refine T.region ?_
      refine T.pv (PV.move rfl) Wanted.none rfl rfl ?_
      refine T.pv (PV.add rfl rfl (by omega)) Wanted.none rfl rfl ?_
      refine T.pv (PV.assign rfl) Wanted.none rfl rfl ?_
      refine T.opsNil ?_
      exact T.next (k + 1) ⟨by omega, by omega⟩ (by omega) (by repeat (first | exact trivial | refine And.intro rfl ?_)) (by repeat (first | exact List.Sublist.slnil | exact List.nil_sublist _ | exact List.Sublist.refl _ | exact List.sublist_append_left _ [] | apply List.Sublist.cons_cons | apply List.Sublist.cons | refine List.Sublist.append_left ?_ _)) rfl
    · have hdk := hd2 i
      refine T.seq ?_
      refine T.seq ?_
      refine T.region ?_
      refine T.pv (PV.move rfl) Wanted.none rfl rfl ?_
      refine T.pv (PV.move rfl) Wanted.none rfl rfl ?_
      refine T.pv (PV.lenStr rfl) Wanted.none rfl rfl ?_
      refine T.pv (PV.add rfl rfl (by omega)) Wanted.none rfl rfl ?_
      refine T.pv (PV.leq rfl rfl) Wanted.none rfl rfl ?_
      refine T.opsNil ?_
      refine T.condF rfl (decide_eq_false (by omega)) ?_
      refine T.exit rfl ?_
      refine T.seq ?_
      refine T.region ?_
      refine T.pv (PV.move rfl) Wanted.none rfl rfl ?_
      refine T.pv (PV.move rfl) Wanted.none rfl rfl ?_
      refine T.callV Wanted.none rfl rfl (position_fn s i H1 (by omega)) ?_
      refine T.pv (PV.move rfl) Wanted.none rfl rfl ?_
      refine T.pv (PV.move rfl) Wanted.none rfl rfl ?_
      refine T.callV Wanted.none rfl rfl (refPosition_fn s i H1 hs) ?_
      refine T.pv (PV.aeql rfl rfl rfl rfl) Wanted.none rfl rfl ?_
      refine T.pv (PV.move rfl) Wanted.none rfl rfl ?_
      refine T.callV (Wanted.guard rfl rfl (by assumption)) rfl rfl (awake_fn H1) ?_
      refine T.pv (PV.pickT rfl (by assumption) rfl) Wanted.none rfl rfl ?_
      refine T.pv (PV.assign rfl) Wanted.none rfl rfl ?_
      refine T.opsNil ?_
      exact T.retF (Lv.fin (RV.tmp rfl rfl) rfl)
end Go.Proofs.Yteanijikhogijaa
