/- codepoint: more laws. -/
import Derived.Test.YteanijikhogijaaX11
import Derived.Test.YteanijikhogijaaXY
namespace Go.Proofs.Yteanijikhogijaa
open Go.RowKit
theorem atL_form (l : List U) (i : Int) : ∃ r a z ok, atL l i = .tuple #[.int .i32 r, .int .i64 a, .int .i64 z, .bool ok] := by
  unfold atL
  split
  · exact ⟨_, _, _, _, rfl⟩
  · exact ⟨_, _, _, _, rfl⟩
theorem validS_ub (s : ByteArray) : validS s = validB s.data.toList := by
  rw [validB, ← units_ub, validS, List.all_map, Bool.eq_iff_iff, List.all_eq_true, List.all_eq_true]
  have : ∀ u ∈ units s, okU u = (ok1 ∘ fun u => (u.r, piece s u)) u := fun u hu => by
    show okU u = ok1 (u.r, piece s u)
    unfold okU ok1
    dsimp only
    rw [piece_len hu]
  constructor
  · intro h u hu; rw [← this u hu]; exact h u hu
  · intro h u hu; rw [this u hu]; exact h u hu
theorem extract_list (s : ByteArray) (a b : Nat) : (s.extract a b).data.toList = (s.data.toList.drop a).take (b - a) := by
  have : (s.extract a b).data = s.data.extract a b := by simp
  rw [this]; simp [List.drop_take]
theorem valid_cut (s : ByteArray) (k : Nat) (hk : k ≤ s.size) (h : validS (s.extract 0 ((k : Nat) : Int).toNat) = true) : validS (s.extract ((k : Nat) : Int).toNat s.size) = validS s := by
  rw [validS_ub, extract_list, Int.toNat_natCast, List.drop_zero, Nat.sub_zero] at h
  rw [validS_ub, validS_ub, extract_list, Int.toNat_natCast, List.take_of_length_le (by rw [List.length_drop, size_list]; omega)]
  have e : s.data.toList = s.data.toList.take k ++ s.data.toList.drop k := (List.take_append_drop _ _).symm
  conv => rhs; rw [e]
  have hall := h
  unfold validB at hall
  unfold validB
  rw [ub_join _ h, List.all_append, hall, Bool.true_and]
theorem ne_self (a : Int) : decide (a ≠ a) = false := by simp
theorem eq_self' (a : Int) : decide (a = a) = true := by simp

set_option maxHeartbeats 1000000 in
theorem lawUnits (s : ByteArray) (i : Int) (H : Hp) (hi : -9223372036854775808 ≤ i ∧ i ≤ 9223372036854775807) : Fn Try.prog 6 #[.string s, .int .i64 i] H (fun v _ => v = .bool true) := by
  refine Fn.of_T (vs := [.string s, .int .i64 i]) Try.func6 rfl rfl fun w => ?_
  refine T.seq ?_
  refine T.region ?_
  refine T.pv (PV.assign rfl) Wanted.none rfl rfl ?_
  refine T.opsNil ?_
  refine T.seq ?_
  refine T.seq ?_
  refine T.region ?_
  refine T.pv (PV.move rfl) Wanted.none rfl rfl ?_
  (refine T.buildSlice Wanted.none rfl rfl (by repeat (first | exact FillAll.nil | (apply FillAll.cons; (first | exact CellsR.one rfl | exact CellsR.agg); exact rfl))) (by exact rfl) (by exact rfl) ?_; intro b24)
  refine T.freezeLit ?_
  intro H1 hle1 hH1
  have hsl : SlR H1 1 _ _ (List.map Value.string [s]) := slR_lit hH1 rfl
  refine T.callV Wanted.none rfl rfl (long_fn [s] _ H1 hsl (Nat.le_of_ble_eq_true rfl)) ?_
  refine T.opsNil ?_
  refine T.cond rfl (fun hc => ?_) (fun hc => ?_)
  · refine T.seq ?_
    refine T.region ?_
    refine T.pv (PV.assign rfl) Wanted.none rfl rfl ?_
    refine T.opsNil ?_
    exact T.retF (Lv.fin (RV.tmp rfl rfl) rfl)
  · have hs := longL_false hc s (by simp)
    have hul := units_len s
    refine T.skip ?_
    refine T.seq ?_
    refine T.region ?_
    refine T.pv (PV.move rfl) Wanted.none rfl rfl ?_
    refine T.call Wanted.none rfl rfl (refUnits_fn s H1 hs) ?_
    intro vl H2 hle2 hl
    obtain ⟨adl, capl, rfl⟩ := hl.len
    refine T.pv (PV.assign rfl) Wanted.none rfl rfl ?_
    refine T.opsNil ?_
    refine T.seq ?_
    refine T.seq ?_
    refine T.region ?_
    refine T.pv (PV.assign rfl) Wanted.none rfl rfl ?_
    refine T.opsNil ?_
    refine T.block ?_
    refine T.loop (γ := Int) (fun k => -1 ≤ k ∧ k ≤ (units s).length + 1)
      (fun k => [(0, .string s), (1, .int .i64 i), (6, .int .i64 k), (5, .slice adl (units s).length capl), (4, .bool false)])
      (fun _ => []) (fun _ => H2) (fun k => ((units s).length + 1 - k).toNat) (-1) ⟨by omega, by omega⟩ (by repeat (first | exact trivial | refine And.intro rfl ?_)) (by repeat (first | exact List.Sublist.slnil | exact List.nil_sublist _ | exact List.Sublist.refl _ | exact List.sublist_append_left _ [] | apply List.Sublist.cons_cons | apply List.Sublist.cons | refine List.Sublist.append_left ?_ _)) rfl ?_
    rintro k ⟨h1, h2⟩
    by_cases hk : k ≤ (units s).length
    · obtain ⟨r, a, z, ok, hat⟩ := atL_form (units s) k
      have g1 := ne_self r
      have g2 := ne_self a
      have g3 := ne_self z
      have f1 : Fn Try.prog 20 #[.string s, .int .i64 k] H2 (fun v _ => v = .tuple #[.int .i32 r, .int .i64 a, .int .i64 z, .bool ok]) := by rw [← hat]; exact at_fn s k H2 hs (by omega)
      have f2 : Fn Try.prog 21 #[.string s, .int .i64 k] H2 (fun v _ => v = .tuple #[.int .i32 r, .int .i64 a, .int .i64 z, .bool ok]) := by rw [← hat]; exact refAt_fn s k H2 hs (by omega)
      have g4 : (ok != ok) = false := by simp
      refine T.seq ?_
      refine T.seq ?_
      refine T.region ?_
      refine T.pv (PV.move rfl) Wanted.none rfl rfl ?_
      refine T.pv (PV.move rfl) Wanted.none rfl rfl ?_
      refine T.pv (PV.lenSl rfl) Wanted.none rfl rfl ?_
      refine T.pv (PV.leq rfl rfl) Wanted.none rfl rfl ?_
      refine T.opsNil ?_
      refine T.condT rfl (decide_eq_true (by omega)) ?_
      refine T.skip ?_
      refine T.seq ?_
      refine T.block ?_
      refine T.seq ?_
      refine T.region ?_
      refine T.pv (PV.move rfl) Wanted.none rfl rfl ?_
      refine T.pv (PV.move rfl) Wanted.none rfl rfl ?_
      refine T.callV Wanted.none rfl rfl (f1) ?_
      refine T.pv (PV.move rfl) Wanted.none rfl rfl ?_
      refine T.pv (PV.extract rfl rfl) Wanted.none rfl rfl ?_
      refine T.pv (PV.extract rfl rfl) Wanted.none rfl rfl ?_
      refine T.pv (PV.extract rfl rfl) Wanted.none rfl rfl ?_
      refine T.pv (PV.extract rfl rfl) Wanted.none rfl rfl ?_
      refine T.pv (PV.assign rfl) Wanted.none rfl rfl ?_
      refine T.pv (PV.assign rfl) Wanted.none rfl rfl ?_
      refine T.pv (PV.assign rfl) Wanted.none rfl rfl ?_
      refine T.pv (PV.assign rfl) Wanted.none rfl rfl ?_
      refine T.opsNil ?_
      refine T.seq ?_
      refine T.region ?_
      refine T.pv (PV.move rfl) Wanted.none rfl rfl ?_
      refine T.pv (PV.move rfl) Wanted.none rfl rfl ?_
      refine T.callV Wanted.none rfl rfl (f2) ?_
      refine T.pv (PV.move rfl) Wanted.none rfl rfl ?_
      refine T.pv (PV.extract rfl rfl) Wanted.none rfl rfl ?_
      refine T.pv (PV.extract rfl rfl) Wanted.none rfl rfl ?_
      refine T.pv (PV.extract rfl rfl) Wanted.none rfl rfl ?_
      refine T.pv (PV.extract rfl rfl) Wanted.none rfl rfl ?_
      refine T.pv (PV.assign rfl) Wanted.none rfl rfl ?_
      refine T.pv (PV.assign rfl) Wanted.none rfl rfl ?_
      refine T.pv (PV.assign rfl) Wanted.none rfl rfl ?_
      refine T.pv (PV.assign rfl) Wanted.none rfl rfl ?_
      refine T.opsNil ?_
      refine T.seq ?_
      refine T.region ?_
      refine T.pv (PV.move rfl) Wanted.none rfl rfl ?_
      refine T.pv (PV.move rfl) Wanted.none rfl rfl ?_
      refine T.pv (PV.neq rfl rfl) Wanted.none rfl rfl ?_
      refine T.pv (PV.move rfl) Wanted.none rfl rfl ?_
      refine T.pv (PV.move rfl) (Wanted.guard rfl rfl (by assumption)) rfl rfl ?_
      refine T.pv (PV.move rfl) (Wanted.guard rfl rfl (by assumption)) rfl rfl ?_
      refine T.pv (PV.neq rfl rfl) (Wanted.guard rfl rfl (by assumption)) rfl rfl ?_
      refine T.pv (PV.pickF rfl (by assumption) rfl) Wanted.none rfl rfl ?_
      refine T.pv (PV.move rfl) Wanted.none rfl rfl ?_
      refine T.pv (PV.move rfl) (Wanted.guard rfl rfl (by assumption)) rfl rfl ?_
      refine T.pv (PV.move rfl) (Wanted.guard rfl rfl (by assumption)) rfl rfl ?_
      refine T.pv (PV.neq rfl rfl) (Wanted.guard rfl rfl (by assumption)) rfl rfl ?_
      refine T.pv (PV.pickF rfl (by assumption) rfl) Wanted.none rfl rfl ?_
      refine T.pv (PV.move rfl) Wanted.none rfl rfl ?_
      refine T.pv (PV.move rfl) (Wanted.guard rfl rfl (by assumption)) rfl rfl ?_
      refine T.pv (PV.move rfl) (Wanted.guard rfl rfl (by assumption)) rfl rfl ?_
      refine T.pv (PV.bneq rfl rfl) (Wanted.guard rfl rfl (by assumption)) rfl rfl ?_
      refine T.pv (PV.pickF rfl (by assumption) rfl) Wanted.none rfl rfl ?_
      refine T.opsNil ?_
      refine T.condF rfl (by assumption) ?_
      refine T.skip ?_
      refine T.blkEnd ?_
      refine T.region ?_
      refine T.pv (PV.move rfl) Wanted.none rfl rfl ?_
      refine T.pv (PV.add rfl rfl (by omega)) Wanted.none rfl rfl ?_
      refine T.pv (PV.assign rfl) Wanted.none rfl rfl ?_
      refine T.opsNil ?_
      exact T.next (k + 1) ⟨by omega, by omega⟩ (by omega) (by repeat (first | exact trivial | refine And.intro rfl ?_)) (by repeat (first | exact List.Sublist.slnil | exact List.nil_sublist _ | exact List.Sublist.refl _ | exact List.sublist_append_left _ [] | apply List.Sublist.cons_cons | apply List.Sublist.cons | refine List.Sublist.append_left ?_ _)) rfl
    · obtain ⟨r, a, z, ok, hat⟩ := atL_form (units s) i
      have g1 := eq_self' r
      have g2 := eq_self' a
      have g3 := eq_self' z
      have g5 := eq_self' ((units s).length : Int)
      have f1 : Fn Try.prog 20 #[.string s, .int .i64 i] H2 (fun v _ => v = .tuple #[.int .i32 r, .int .i64 a, .int .i64 z, .bool ok]) := by rw [← hat]; exact at_fn s i H2 hs hi
      have f2 : Fn Try.prog 21 #[.string s, .int .i64 i] H2 (fun v _ => v = .tuple #[.int .i32 r, .int .i64 a, .int .i64 z, .bool ok]) := by rw [← hat]; exact refAt_fn s i H2 hs hi
      have g4 : (ok == ok) = true := by simp
      refine T.seq ?_
      refine T.seq ?_
      refine T.region ?_
      refine T.pv (PV.move rfl) Wanted.none rfl rfl ?_
      refine T.pv (PV.move rfl) Wanted.none rfl rfl ?_
      refine T.pv (PV.lenSl rfl) Wanted.none rfl rfl ?_
      refine T.pv (PV.leq rfl rfl) Wanted.none rfl rfl ?_
      refine T.opsNil ?_
      refine T.condF rfl (decide_eq_false (by omega)) ?_
      refine T.exit rfl ?_
      refine T.seq ?_
      refine T.region ?_
      refine T.pv (PV.move rfl) Wanted.none rfl rfl ?_
      refine T.pv (PV.move rfl) Wanted.none rfl rfl ?_
      refine T.callV Wanted.none rfl rfl (f1) ?_
      refine T.pv (PV.move rfl) Wanted.none rfl rfl ?_
      refine T.pv (PV.extract rfl rfl) Wanted.none rfl rfl ?_
      refine T.pv (PV.extract rfl rfl) Wanted.none rfl rfl ?_
      refine T.pv (PV.extract rfl rfl) Wanted.none rfl rfl ?_
      refine T.pv (PV.extract rfl rfl) Wanted.none rfl rfl ?_
      refine T.pv (PV.assign rfl) Wanted.none rfl rfl ?_
      refine T.pv (PV.assign rfl) Wanted.none rfl rfl ?_
      refine T.pv (PV.assign rfl) Wanted.none rfl rfl ?_
      refine T.pv (PV.assign rfl) Wanted.none rfl rfl ?_
      refine T.opsNil ?_
      refine T.seq ?_
      refine T.region ?_
      refine T.pv (PV.move rfl) Wanted.none rfl rfl ?_
      refine T.pv (PV.move rfl) Wanted.none rfl rfl ?_
      refine T.callV Wanted.none rfl rfl (f2) ?_
      refine T.pv (PV.move rfl) Wanted.none rfl rfl ?_
      refine T.pv (PV.extract rfl rfl) Wanted.none rfl rfl ?_
      refine T.pv (PV.extract rfl rfl) Wanted.none rfl rfl ?_
      refine T.pv (PV.extract rfl rfl) Wanted.none rfl rfl ?_
      refine T.pv (PV.extract rfl rfl) Wanted.none rfl rfl ?_
      refine T.pv (PV.assign rfl) Wanted.none rfl rfl ?_
      refine T.pv (PV.assign rfl) Wanted.none rfl rfl ?_
      refine T.pv (PV.assign rfl) Wanted.none rfl rfl ?_
      refine T.pv (PV.assign rfl) Wanted.none rfl rfl ?_
      refine T.opsNil ?_
      refine T.seq ?_
      refine T.region ?_
      refine T.pv (PV.move rfl) Wanted.none rfl rfl ?_
      refine T.callV Wanted.none rfl rfl (count_fn s H2 (by omega)) ?_
      refine T.pv (PV.move rfl) Wanted.none rfl rfl ?_
      refine T.pv (PV.lenSl rfl) Wanted.none rfl rfl ?_
      refine T.pv (PV.eql rfl rfl) Wanted.none rfl rfl ?_
      refine T.pv (PV.move rfl) Wanted.none rfl rfl ?_
      refine T.pv (PV.move rfl) (Wanted.guard rfl rfl (by assumption)) rfl rfl ?_
      refine T.pv (PV.move rfl) (Wanted.guard rfl rfl (by assumption)) rfl rfl ?_
      refine T.pv (PV.eql rfl rfl) (Wanted.guard rfl rfl (by assumption)) rfl rfl ?_
      refine T.pv (PV.pickT rfl (by assumption) rfl) Wanted.none rfl rfl ?_
      refine T.pv (PV.move rfl) Wanted.none rfl rfl ?_
      refine T.pv (PV.move rfl) (Wanted.guard rfl rfl (by assumption)) rfl rfl ?_
      refine T.pv (PV.move rfl) (Wanted.guard rfl rfl (by assumption)) rfl rfl ?_
      refine T.pv (PV.eql rfl rfl) (Wanted.guard rfl rfl (by assumption)) rfl rfl ?_
      refine T.pv (PV.pickT rfl (by assumption) rfl) Wanted.none rfl rfl ?_
      refine T.pv (PV.move rfl) Wanted.none rfl rfl ?_
      refine T.pv (PV.move rfl) (Wanted.guard rfl rfl (by assumption)) rfl rfl ?_
      refine T.pv (PV.move rfl) (Wanted.guard rfl rfl (by assumption)) rfl rfl ?_
      refine T.pv (PV.eql rfl rfl) (Wanted.guard rfl rfl (by assumption)) rfl rfl ?_
      refine T.pv (PV.pickT rfl (by assumption) rfl) Wanted.none rfl rfl ?_
      refine T.pv (PV.move rfl) Wanted.none rfl rfl ?_
      refine T.pv (PV.move rfl) (Wanted.guard rfl rfl (by assumption)) rfl rfl ?_
      refine T.pv (PV.move rfl) (Wanted.guard rfl rfl (by assumption)) rfl rfl ?_
      refine T.pv (PV.beql rfl rfl) (Wanted.guard rfl rfl (by assumption)) rfl rfl ?_
      refine T.pv (PV.pickT rfl (by assumption) rfl) Wanted.none rfl rfl ?_
      refine T.pv (PV.move rfl) Wanted.none rfl rfl ?_
      refine T.callV (Wanted.guard rfl rfl (by assumption)) rfl rfl (awake_fn H2) ?_
      refine T.pv (PV.pickT rfl (by assumption) rfl) Wanted.none rfl rfl ?_
      refine T.pv (PV.assign rfl) Wanted.none rfl rfl ?_
      refine T.opsNil ?_
      exact T.retF (Lv.fin (RV.tmp rfl rfl) rfl)

set_option maxHeartbeats 1000000 in
theorem lawValid (s : ByteArray) (i : Int) (H : Hp) (hi : -9223372036854775808 ≤ i ∧ i ≤ 9223372036854775807) : Fn Try.prog 7 #[.string s, .int .i64 i] H (fun v _ => v = .bool true) := by
  refine Fn.of_T (vs := [.string s, .int .i64 i]) Try.func7 rfl rfl fun w => ?_
  refine T.seq ?_
  refine T.region ?_
  refine T.pv (PV.assign rfl) Wanted.none rfl rfl ?_
  refine T.opsNil ?_
  refine T.seq ?_
  refine T.seq ?_
  refine T.region ?_
  refine T.pv (PV.move rfl) Wanted.none rfl rfl ?_
  (refine T.buildSlice Wanted.none rfl rfl (by repeat (first | exact FillAll.nil | (apply FillAll.cons; (first | exact CellsR.one rfl | exact CellsR.agg); exact rfl))) (by exact rfl) (by exact rfl) ?_; intro b11)
  refine T.freezeLit ?_
  intro H1 hle1 hH1
  have hsl : SlR H1 1 _ _ (List.map Value.string [s]) := slR_lit hH1 rfl
  refine T.callV Wanted.none rfl rfl (long_fn [s] _ H1 hsl (Nat.le_of_ble_eq_true rfl)) ?_
  refine T.opsNil ?_
  refine T.cond rfl (fun hc => ?_) (fun hc => ?_)
  · refine T.seq ?_
    refine T.region ?_
    refine T.pv (PV.assign rfl) Wanted.none rfl rfl ?_
    refine T.opsNil ?_
    exact T.retF (Lv.fin (RV.tmp rfl rfl) rfl)
  · have hs := longL_false hc s (by simp)
    have g6 : (validS s == validS s) = true := by simp
    by_cases h : 0 ≤ i ∧ i < (units s).length
    · obtain ⟨x, hx⟩ : ∃ x, (units s)[i.toNat]? = some x := ⟨_, List.getElem?_eq_getElem (by omega)⟩
      obtain ⟨m1, m2, m3, m4, m5⟩ := units_mem (List.mem_of_getElem? hx)
      have hat : atL (units s) i = .tuple #[.int .i32 (x.r : Int), .int .i64 (x.at_ : Int), .int .i64 (x.sz : Int), .bool true] := by unfold atL; rw [if_neg (by omega), hx]
      have f2 : Fn Try.prog 21 #[.string s, .int .i64 i] H1 (fun v _ => v = .tuple #[.int .i32 (x.r : Int), .int .i64 (x.at_ : Int), .int .i64 (x.sz : Int), .bool true]) := by rw [← hat]; exact refAt_fn s i H1 hs hi
      have z1 : (s.extract 0 ((x.at_ : Nat) : Int).toNat).size ≤ 140737488355328 := by rw [ByteArray.size_extract]; omega
      have z2 : (s.extract ((x.at_ : Nat) : Int).toNat s.size).size ≤ 140737488355328 := by rw [ByteArray.size_extract]; omega
      cases hv : validS (s.extract 0 ((x.at_ : Nat) : Int).toNat) with
      | false =>
        have f3 : Fn Try.prog 23 #[.string (s.extract 0 ((x.at_ : Nat) : Int).toNat)] H1 (fun v _ => v = .bool false) := by rw [← hv]; exact validS_fn _ H1 z1
        refine T.skip ?_
        refine T.seq ?_
        refine T.region ?_
        refine T.pv (PV.move rfl) Wanted.none rfl rfl ?_
        refine T.callV Wanted.none rfl rfl (validS_fn s H1 (by omega)) ?_
        refine T.pv (PV.assign rfl) Wanted.none rfl rfl ?_
        refine T.opsNil ?_
        refine T.seq ?_
        refine T.region ?_
        refine T.pv (PV.move rfl) Wanted.none rfl rfl ?_
        refine T.pv (PV.move rfl) Wanted.none rfl rfl ?_
        refine T.callV Wanted.none rfl rfl (f2) ?_
        refine T.pv (PV.move rfl) Wanted.none rfl rfl ?_
        refine T.pv (PV.extract rfl rfl) Wanted.none rfl rfl ?_
        refine T.pv (PV.extract rfl rfl) Wanted.none rfl rfl ?_
        refine T.pv (PV.extract rfl rfl) Wanted.none rfl rfl ?_
        refine T.pv (PV.extract rfl rfl) Wanted.none rfl rfl ?_
        refine T.pv (PV.assign rfl) Wanted.none rfl rfl ?_
        refine T.pv (PV.assign rfl) Wanted.none rfl rfl ?_
        refine T.pv (PV.assign rfl) Wanted.none rfl rfl ?_
        refine T.pv (PV.assign rfl) Wanted.none rfl rfl ?_
        refine T.opsNil ?_
        refine T.seq ?_
        refine T.seq ?_
        refine T.region ?_
        refine T.pv (PV.move rfl) Wanted.none rfl rfl ?_
        refine T.pv (PV.move rfl) Wanted.none rfl rfl ?_
        refine T.pv (PV.move rfl) (Wanted.guard rfl rfl rfl) rfl rfl ?_
        refine T.pv (PV.move rfl) (Wanted.guard rfl rfl rfl) rfl rfl ?_
        refine T.pv (PV.sliceStrH rfl rfl (by omega)) (Wanted.guard rfl rfl rfl) rfl rfl ?_
        refine T.callV (Wanted.guard rfl rfl rfl) rfl rfl (f3) ?_
        refine T.pv (PV.pickT rfl rfl rfl) Wanted.none rfl rfl ?_
        refine T.pv (PV.move rfl) Wanted.none rfl rfl ?_
        refine T.pass (Unwanted.guard rfl rfl rfl) rfl rfl ?_
        refine T.pass (Unwanted.guard rfl rfl rfl) rfl rfl ?_
        refine T.pass (Unwanted.guard rfl rfl rfl) rfl rfl ?_
        refine T.pass (Unwanted.guard rfl rfl rfl) rfl rfl ?_
        refine T.pass (Unwanted.guard rfl rfl rfl) rfl rfl ?_
        refine T.pass (Unwanted.guard rfl rfl rfl) rfl rfl ?_
        refine T.pv (PV.pickF rfl rfl rfl) Wanted.none rfl rfl ?_
        refine T.opsNil ?_
        refine T.condF rfl rfl ?_
        refine T.skip ?_
        refine T.seq ?_
        refine T.region ?_
        refine T.pv (PV.move rfl) Wanted.none rfl rfl ?_
        refine T.pv (PV.move rfl) Wanted.none rfl rfl ?_
        refine T.callV Wanted.none rfl rfl (refValid_fn s H1 hs) ?_
        refine T.pv (PV.beql rfl rfl) Wanted.none rfl rfl ?_
        refine T.pv (PV.move rfl) Wanted.none rfl rfl ?_
        refine T.callV (Wanted.guard rfl rfl (by assumption)) rfl rfl (awake_fn H1) ?_
        refine T.pv (PV.pickT rfl (by assumption) rfl) Wanted.none rfl rfl ?_
        refine T.pv (PV.assign rfl) Wanted.none rfl rfl ?_
        refine T.opsNil ?_
        exact T.retF (Lv.fin (RV.tmp rfl rfl) rfl)
      | true =>
        have hv2 := valid_cut s x.at_ (by omega) hv
        have g7 : (validS s != validS s) = false := by simp
        have f3 : Fn Try.prog 23 #[.string (s.extract 0 ((x.at_ : Nat) : Int).toNat)] H1 (fun v _ => v = .bool true) := by rw [← hv]; exact validS_fn _ H1 z1
        have f4 : Fn Try.prog 23 #[.string (s.extract ((x.at_ : Nat) : Int).toNat s.size)] H1 (fun v _ => v = .bool (validS s)) := by rw [← hv2]; exact validS_fn _ H1 z2
        refine T.skip ?_
        refine T.seq ?_
        refine T.region ?_
        refine T.pv (PV.move rfl) Wanted.none rfl rfl ?_
        refine T.callV Wanted.none rfl rfl (validS_fn s H1 (by omega)) ?_
        refine T.pv (PV.assign rfl) Wanted.none rfl rfl ?_
        refine T.opsNil ?_
        refine T.seq ?_
        refine T.region ?_
        refine T.pv (PV.move rfl) Wanted.none rfl rfl ?_
        refine T.pv (PV.move rfl) Wanted.none rfl rfl ?_
        refine T.callV Wanted.none rfl rfl (f2) ?_
        refine T.pv (PV.move rfl) Wanted.none rfl rfl ?_
        refine T.pv (PV.extract rfl rfl) Wanted.none rfl rfl ?_
        refine T.pv (PV.extract rfl rfl) Wanted.none rfl rfl ?_
        refine T.pv (PV.extract rfl rfl) Wanted.none rfl rfl ?_
        refine T.pv (PV.extract rfl rfl) Wanted.none rfl rfl ?_
        refine T.pv (PV.assign rfl) Wanted.none rfl rfl ?_
        refine T.pv (PV.assign rfl) Wanted.none rfl rfl ?_
        refine T.pv (PV.assign rfl) Wanted.none rfl rfl ?_
        refine T.pv (PV.assign rfl) Wanted.none rfl rfl ?_
        refine T.opsNil ?_
        refine T.seq ?_
        refine T.seq ?_
        refine T.region ?_
        refine T.pv (PV.move rfl) Wanted.none rfl rfl ?_
        refine T.pv (PV.move rfl) Wanted.none rfl rfl ?_
        refine T.pv (PV.move rfl) (Wanted.guard rfl rfl rfl) rfl rfl ?_
        refine T.pv (PV.move rfl) (Wanted.guard rfl rfl rfl) rfl rfl ?_
        refine T.pv (PV.sliceStrH rfl rfl (by omega)) (Wanted.guard rfl rfl rfl) rfl rfl ?_
        refine T.callV (Wanted.guard rfl rfl rfl) rfl rfl (f3) ?_
        refine T.pv (PV.pickT rfl rfl rfl) Wanted.none rfl rfl ?_
        refine T.pv (PV.move rfl) Wanted.none rfl rfl ?_
        refine T.pv (PV.move rfl) (Wanted.guard rfl rfl rfl) rfl rfl ?_
        refine T.pv (PV.move rfl) (Wanted.guard rfl rfl rfl) rfl rfl ?_
        refine T.pv (PV.sliceStrL rfl rfl (by omega)) (Wanted.guard rfl rfl rfl) rfl rfl ?_
        refine T.callV (Wanted.guard rfl rfl rfl) rfl rfl (f4) ?_
        refine T.pv (PV.move rfl) (Wanted.guard rfl rfl rfl) rfl rfl ?_
        refine T.pv (PV.bneq rfl rfl) (Wanted.guard rfl rfl rfl) rfl rfl ?_
        refine T.pv (PV.pickT rfl rfl rfl) Wanted.none rfl rfl ?_
        refine T.opsNil ?_
        refine T.condF rfl (by assumption) ?_
        refine T.skip ?_
        refine T.seq ?_
        refine T.region ?_
        refine T.pv (PV.move rfl) Wanted.none rfl rfl ?_
        refine T.pv (PV.move rfl) Wanted.none rfl rfl ?_
        refine T.callV Wanted.none rfl rfl (refValid_fn s H1 hs) ?_
        refine T.pv (PV.beql rfl rfl) Wanted.none rfl rfl ?_
        refine T.pv (PV.move rfl) Wanted.none rfl rfl ?_
        refine T.callV (Wanted.guard rfl rfl (by assumption)) rfl rfl (awake_fn H1) ?_
        refine T.pv (PV.pickT rfl (by assumption) rfl) Wanted.none rfl rfl ?_
        refine T.pv (PV.assign rfl) Wanted.none rfl rfl ?_
        refine T.opsNil ?_
        exact T.retF (Lv.fin (RV.tmp rfl rfl) rfl)
    · have hat : atL (units s) i = .tuple #[.int .i32 0, .int .i64 0, .int .i64 0, .bool false] := by
        unfold atL
        by_cases h0 : i < 0
        · rw [if_pos h0]
        · rw [if_neg h0, List.getElem?_eq_none (by omega)]
      have f2 : Fn Try.prog 21 #[.string s, .int .i64 i] H1 (fun v _ => v = .tuple #[.int .i32 0, .int .i64 0, .int .i64 0, .bool false]) := by rw [← hat]; exact refAt_fn s i H1 hs hi
      refine T.skip ?_
      refine T.seq ?_
      refine T.region ?_
      refine T.pv (PV.move rfl) Wanted.none rfl rfl ?_
      refine T.callV Wanted.none rfl rfl (validS_fn s H1 (by omega)) ?_
      refine T.pv (PV.assign rfl) Wanted.none rfl rfl ?_
      refine T.opsNil ?_
      refine T.seq ?_
      refine T.region ?_
      refine T.pv (PV.move rfl) Wanted.none rfl rfl ?_
      refine T.pv (PV.move rfl) Wanted.none rfl rfl ?_
      refine T.callV Wanted.none rfl rfl (f2) ?_
      refine T.pv (PV.move rfl) Wanted.none rfl rfl ?_
      refine T.pv (PV.extract rfl rfl) Wanted.none rfl rfl ?_
      refine T.pv (PV.extract rfl rfl) Wanted.none rfl rfl ?_
      refine T.pv (PV.extract rfl rfl) Wanted.none rfl rfl ?_
      refine T.pv (PV.extract rfl rfl) Wanted.none rfl rfl ?_
      refine T.pv (PV.assign rfl) Wanted.none rfl rfl ?_
      refine T.pv (PV.assign rfl) Wanted.none rfl rfl ?_
      refine T.pv (PV.assign rfl) Wanted.none rfl rfl ?_
      refine T.pv (PV.assign rfl) Wanted.none rfl rfl ?_
      refine T.opsNil ?_
      refine T.seq ?_
      refine T.seq ?_
      refine T.region ?_
      refine T.pv (PV.move rfl) Wanted.none rfl rfl ?_
      refine T.pv (PV.move rfl) Wanted.none rfl rfl ?_
      refine T.pass (Unwanted.guard rfl rfl rfl) rfl rfl ?_
      refine T.pass (Unwanted.guard rfl rfl rfl) rfl rfl ?_
      refine T.pass (Unwanted.guard rfl rfl rfl) rfl rfl ?_
      refine T.pass (Unwanted.guard rfl rfl rfl) rfl rfl ?_
      refine T.pv (PV.pickF rfl rfl rfl) Wanted.none rfl rfl ?_
      refine T.pv (PV.move rfl) Wanted.none rfl rfl ?_
      refine T.pass (Unwanted.guard rfl rfl rfl) rfl rfl ?_
      refine T.pass (Unwanted.guard rfl rfl rfl) rfl rfl ?_
      refine T.pass (Unwanted.guard rfl rfl rfl) rfl rfl ?_
      refine T.pass (Unwanted.guard rfl rfl rfl) rfl rfl ?_
      refine T.pass (Unwanted.guard rfl rfl rfl) rfl rfl ?_
      refine T.pass (Unwanted.guard rfl rfl rfl) rfl rfl ?_
      refine T.pv (PV.pickF rfl rfl rfl) Wanted.none rfl rfl ?_
      refine T.opsNil ?_
      refine T.condF rfl rfl ?_
      refine T.skip ?_
      refine T.seq ?_
      refine T.region ?_
      refine T.pv (PV.move rfl) Wanted.none rfl rfl ?_
      refine T.pv (PV.move rfl) Wanted.none rfl rfl ?_
      refine T.callV Wanted.none rfl rfl (refValid_fn s H1 hs) ?_
      refine T.pv (PV.beql rfl rfl) Wanted.none rfl rfl ?_
      refine T.pv (PV.move rfl) Wanted.none rfl rfl ?_
      refine T.callV (Wanted.guard rfl rfl (by assumption)) rfl rfl (awake_fn H1) ?_
      refine T.pv (PV.pickT rfl (by assumption) rfl) Wanted.none rfl rfl ?_
      refine T.pv (PV.assign rfl) Wanted.none rfl rfl ?_
      refine T.opsNil ?_
      exact T.retF (Lv.fin (RV.tmp rfl rfl) rfl)
end Go.Proofs.Yteanijikhogijaa
