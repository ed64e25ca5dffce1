/- codepoint: the laws without the reference. -/
import Derived.Test.YteanijikhogijaaX12
namespace Go.Proofs.Yteanijikhogijaa
open Go.RowKit

theorem foldL_B (s : ByteArray) : foldL s = foldB s.data.toList := foldL_ub s
def foldS (s : ByteArray) : ByteArray := ⟨(foldL s).toArray⟩
theorem foldS_list (s : ByteArray) : (foldS s).data.toList = foldB s.data.toList := foldL_B s
theorem foldS_size (s : ByteArray) : (foldS s).size = s.size := by rw [← size_list, foldS_list, fold_size, size_list]
theorem foldS_foldS (s : ByteArray) : foldS (foldS s) = foldS s := by
  show ByteArray.mk (foldL (foldS s)).toArray = ByteArray.mk (foldL s).toArray
  rw [foldL_B, foldS_list, fold_twice, ← foldL_B]
theorem foldS_count (s : ByteArray) : (units (foldS s)).length = (units s).length := by rw [units_length, foldS_list, fold_count, ← units_length]
theorem foldS_valid (s : ByteArray) : validS (foldS s) = validS s := by rw [validS_ub, foldS_list, fold_valid, ← validS_ub]
def revS (s : ByteArray) : ByteArray := ⟨(revL s).toArray⟩
theorem revS_list (s : ByteArray) : (revS s).data.toList = revB s.data.toList := revL_ub s
theorem revS_size (s : ByteArray) : (revS s).size = s.size := by rw [← size_list, revS_list, rev_size, size_list]
theorem app_list (a b : ByteArray) : (a ++ b).data.toList = a.data.toList ++ b.data.toList := by simp
theorem ba_ext {a b : ByteArray} (h : a.data.toList = b.data.toList) : a = b := by
  cases a; cases b
  congr 1
  exact Array.ext' h
theorem app_size (a b : ByteArray) : (a ++ b).size = a.size + b.size := by rw [← size_list, app_list, List.length_append, size_list, size_list]
theorem valid_app {a b : ByteArray} (ha : validS a = true) (hb : validS b = true) : validS (a ++ b) = true := by
  rw [validS_ub] at ha hb ⊢
  rw [app_list]; exact valid_join ha hb
theorem count_app {a : ByteArray} (b : ByteArray) (ha : validS a = true) : (units (a ++ b)).length = (units a).length + (units b).length := by
  rw [validS_ub] at ha
  rw [units_length, app_list, ub_join _ ha, List.length_append, ← units_length, ← units_length]
theorem rev_app {a : ByteArray} (b : ByteArray) (ha : validS a = true) : revS (a ++ b) = revS b ++ revS a := by
  rw [validS_ub] at ha
  exact ba_ext (by rw [revS_list, app_list, rev_join _ ha, app_list, revS_list, revS_list])
theorem fold_app {a : ByteArray} (b : ByteArray) (ha : validS a = true) : foldS (a ++ b) = foldS a ++ foldS b := by
  rw [validS_ub] at ha
  exact ba_ext (by rw [foldS_list, app_list, fold_join _ ha, app_list, foldS_list, foldS_list])
theorem rev_rev {a : ByteArray} (ha : validS a = true) : revS (revS a) = a := by
  rw [validS_ub] at ha
  exact ba_ext (by rw [revS_list, revS_list, rev_twice ha])
theorem str_self (a : ByteArray) : decide (a = a) = true := by simp
theorem cmpU_lex : ∀ L M : List U, lexN (L.map (·.r)) (M.map (·.r)) = if cmpU L M ≠ 0 then cmpU L M else if L.length < M.length then -1 else if M.length < L.length then 1 else 0
  | [], [] => rfl
  | [], _ :: _ => by simp [lexN, cmpU]
  | _ :: _, [] => by simp [lexN, cmpU]
  | u :: L, v :: M => by
    rw [List.map_cons, List.map_cons, lexN, cmpU, cmpU_lex L M, List.length_cons, List.length_cons]
    by_cases h1 : u.r < v.r
    · rw [if_pos h1, if_pos (show (u.r : Int) < v.r by omega), if_pos (by omega)]
    · rw [if_neg h1, if_neg (show ¬ (u.r : Int) < v.r by omega)]
      by_cases h2 : v.r < u.r
      · rw [if_pos h2, if_pos (show (v.r : Int) < u.r by omega), if_pos (by omega)]
      · rw [if_neg h2, if_neg (show ¬ (v.r : Int) < u.r by omega)]
        have e1 : (L.length + 1 < M.length + 1) = (L.length < M.length) := by rw [eq_iff_iff]; omega
        have e2 : (M.length + 1 < L.length + 1) = (M.length < L.length) := by rw [eq_iff_iff]; omega
        simp only [e1, e2]
theorem runes_units (s : ByteArray) : (units s).map (·.r) = runes s.data.toList := by rw [runes, ← units_ub, List.map_map]; rfl
theorem strI_lex (a b : ByteArray) : strI a b = lexN (nums a.data.toList) (nums b.data.toList) := by
  unfold strI
  rw [bytesLess_lex]
  rcases lexN_range (nums a.data.toList) (nums b.data.toList) with h | h | h
  · rw [h]; rfl
  · have : a = b := ba_ext (nums_eq (lexN_eq _ _ h))
    rw [h, decide_eq_true this]; rfl
  · have : ¬ a = b := fun e => by subst e; rw [lexN_self] at h; omega
    rw [h, decide_eq_false this]; rfl
theorem cmpS_B (a b : ByteArray) : cmpS a b = cmpB a.data.toList b.data.toList := by
  unfold cmpS cmpB
  rw [← runes_units, ← runes_units, cmpU_lex, strI_lex]
  by_cases h : cmpU (units a) (units b) = 0
  · rw [h]
    simp only [ne_eq, not_true_eq_false, if_false]
    by_cases h1 : (units a).length < (units b).length
    · simp [h1]
    · by_cases h2 : (units b).length < (units a).length
      · simp [h1, h2]
      · simp [h1, h2]
  · simp [h]
theorem cmpS_range (a b : ByteArray) : cmpS a b = -1 ∨ cmpS a b = 0 ∨ cmpS a b = 1 := by
  rw [cmpS_B, cmpB]
  split
  · exact lexN_range _ _
  · exact lexN_range _ _
theorem cmpS_anti (a b : ByteArray) : cmpS b a = - cmpS a b := by rw [cmpS_B, cmpS_B, cmpB_anti]
theorem cmpS_zero (a b : ByteArray) : decide (a = b) = decide (cmpS a b = 0) := by
  rw [decide_eq_decide, cmpS_B]
  constructor
  · rintro rfl; exact cmpB_self _
  · intro h; exact ba_ext (cmpB_eq h)
theorem cmpS_le {a b c : ByteArray} (h1 : cmpS a b ≤ 0) (h2 : cmpS b c ≤ 0) : cmpS a c ≤ 0 := by
  rw [cmpS_B] at h1 h2 ⊢; exact cmpB_trans h1 h2
theorem cmpS_ge {a b c : ByteArray} (h1 : 0 ≤ cmpS a b) (h2 : 0 ≤ cmpS b c) : 0 ≤ cmpS a c := by
  have g1 := cmpS_anti a b
  have g2 := cmpS_anti b c
  have g3 := cmpS_anti a c
  have := cmpS_le (a := c) (b := b) (c := a) (by omega) (by omega)
  omega
theorem cmpS_valid {a b : ByteArray} (ha : validS a = true) (hb : validS b = true) : Op.bytesLess a.data.toList b.data.toList = decide (cmpS a b < 0) := by
  rw [validS_ub] at ha hb
  rw [bytesLess_lex, cmpS_B, cmpB_valid ha hb]

set_option maxHeartbeats 1000000 in
theorem lawSettles (s : ByteArray) (H : Hp) : Fn Try.prog 10 #[.string s] H (fun v _ => v = .bool true) := by
  refine Fn.of_T (vs := [.string s]) Try.func10 rfl rfl fun w => ?_
  refine T.seq ?_
  refine T.region ?_
  refine T.pv (PV.assign rfl) Wanted.none rfl rfl ?_
  refine T.opsNil ?_
  refine T.seq ?_
  refine T.seq ?_
  refine T.region ?_
  refine T.pv (PV.move rfl) Wanted.none rfl rfl ?_
  (refine T.buildSlice Wanted.none rfl rfl (by repeat (first | exact FillAll.nil | (apply FillAll.cons; (first | exact CellsR.one rfl | exact CellsR.agg); exact rfl))) (by exact rfl) (by exact rfl) ?_; intro b5)
  refine T.freezeLit ?_
  intro H1 hle1 hH1
  have hsl : SlR H1 1 _ _ (List.map Value.string [s]) := slR_lit hH1 rfl
  refine T.callV Wanted.none rfl rfl (long_fn [s] _ H1 hsl (Nat.le_of_ble_eq_true rfl)) ?_
  refine T.opsNil ?_
  refine T.cond rfl (fun hc => ?_) (fun hc => ?_)
  · refine T.seq ?_
    refine T.region ?_
    refine T.pv (PV.assign rfl) Wanted.none rfl rfl ?_
    refine T.opsNil ?_
    exact T.retF (Lv.fin (RV.tmp rfl rfl) rfl)
  · have hs := longL_false hc s (by simp)
    have hz := foldS_size s
    have f1 : Fn Try.prog 25 #[.string s] H1 (fun v _ => v = .string (foldS s)) := fold_fn s H1 hs
    have f2 : Fn Try.prog 25 #[.string (foldS s)] H1 (fun v _ => v = .string (foldS s)) := by
      have : Fn Try.prog 25 #[.string (foldS s)] H1 (fun v _ => v = .string (foldS (foldS s))) := fold_fn (foldS s) H1 (by omega)
      rw [foldS_foldS] at this; exact this
    have f3 : Fn Try.prog 22 #[.string (foldS s)] H1 (fun v _ => v = .int .i64 ((units s).length : Int)) := by
      have := count_fn (foldS s) H1 (by omega)
      rw [foldS_count] at this; exact this
    have f4 : Fn Try.prog 23 #[.string (foldS s)] H1 (fun v _ => v = .bool (validS s)) := by
      have := validS_fn (foldS s) H1 (by omega)
      rw [foldS_valid] at this; exact this
    have g1 := str_self (foldS s)
    have g2 := eq_self' ((units s).length : Int)
    have g3 : (validS s == validS s) = true := by simp
    refine T.skip ?_
    refine T.seq ?_
    refine T.region ?_
    refine T.pv (PV.move rfl) Wanted.none rfl rfl ?_
    refine T.callV Wanted.none rfl rfl (f1) ?_
    refine T.pv (PV.assign rfl) Wanted.none rfl rfl ?_
    refine T.opsNil ?_
    refine T.seq ?_
    refine T.region ?_
    refine T.pv (PV.move rfl) Wanted.none rfl rfl ?_
    refine T.callV Wanted.none rfl rfl (f2) ?_
    refine T.pv (PV.move rfl) Wanted.none rfl rfl ?_
    refine T.pv (PV.seql rfl rfl) Wanted.none rfl rfl ?_
    refine T.pv (PV.move rfl) Wanted.none rfl rfl ?_
    refine T.pv (PV.move rfl) (Wanted.guard rfl rfl (by assumption)) rfl rfl ?_
    refine T.callV (Wanted.guard rfl rfl (by assumption)) rfl rfl (f3) ?_
    refine T.pv (PV.move rfl) (Wanted.guard rfl rfl (by assumption)) rfl rfl ?_
    refine T.callV (Wanted.guard rfl rfl (by assumption)) rfl rfl (count_fn s H1 (by omega)) ?_
    refine T.pv (PV.eql rfl rfl) (Wanted.guard rfl rfl (by assumption)) rfl rfl ?_
    refine T.pv (PV.pickT rfl (by assumption) rfl) Wanted.none rfl rfl ?_
    refine T.pv (PV.move rfl) Wanted.none rfl rfl ?_
    refine T.pv (PV.move rfl) (Wanted.guard rfl rfl (by assumption)) rfl rfl ?_
    refine T.callV (Wanted.guard rfl rfl (by assumption)) rfl rfl (f4) ?_
    refine T.pv (PV.move rfl) (Wanted.guard rfl rfl (by assumption)) rfl rfl ?_
    refine T.callV (Wanted.guard rfl rfl (by assumption)) rfl rfl (validS_fn s H1 (by omega)) ?_
    refine T.pv (PV.beql rfl rfl) (Wanted.guard rfl rfl (by assumption)) rfl rfl ?_
    refine T.pv (PV.pickT rfl (by assumption) rfl) Wanted.none rfl rfl ?_
    refine T.pv (PV.move rfl) Wanted.none rfl rfl ?_
    refine T.callV (Wanted.guard rfl rfl (by assumption)) rfl rfl (awake_fn H1) ?_
    refine T.pv (PV.pickT rfl (by assumption) rfl) Wanted.none rfl rfl ?_
    refine T.pv (PV.assign rfl) Wanted.none rfl rfl ?_
    refine T.opsNil ?_
    exact T.retF (Lv.fin (RV.tmp rfl rfl) rfl)

set_option maxHeartbeats 1000000 in
theorem lawJoins (a : ByteArray) (b : ByteArray) (H : Hp) : Fn Try.prog 11 #[.string a, .string b] H (fun v _ => v = .bool true) := by
  refine Fn.of_T (vs := [.string a, .string b]) Try.func11 rfl rfl fun w => ?_
  refine T.seq ?_
  refine T.region ?_
  refine T.pv (PV.assign rfl) Wanted.none rfl rfl ?_
  refine T.opsNil ?_
  refine T.seq ?_
  refine T.seq ?_
  refine T.region ?_
  refine T.pv (PV.move rfl) Wanted.none rfl rfl ?_
  refine T.pv (PV.move rfl) Wanted.none rfl rfl ?_
  (refine T.buildSlice Wanted.none rfl rfl (by repeat (first | exact FillAll.nil | (apply FillAll.cons; (first | exact CellsR.one rfl | exact CellsR.agg); exact rfl))) (by exact rfl) (by exact rfl) ?_; intro b7)
  refine T.freezeLit ?_
  intro H1 hle1 hH1
  have hsl : SlR H1 1 _ _ (List.map Value.string [a, b]) := slR_lit hH1 rfl
  have hlong := long_fn [a, b] _ H1 hsl (Nat.le_of_ble_eq_true rfl)
  by_cases hc : longL [a, b] = true
  · rw [hc] at hlong
    refine T.callV Wanted.none rfl rfl (hlong) ?_
    refine T.pv (PV.move rfl) Wanted.none rfl rfl ?_
    refine T.pass (Unwanted.guard rfl rfl rfl) rfl rfl ?_
    refine T.pass (Unwanted.guard rfl rfl rfl) rfl rfl ?_
    refine T.pass (Unwanted.guard rfl rfl rfl) rfl rfl ?_
    refine T.pv (PV.pickT rfl rfl rfl) Wanted.none rfl rfl ?_
    refine T.pv (PV.move rfl) Wanted.none rfl rfl ?_
    refine T.pass (Unwanted.guard rfl rfl rfl) rfl rfl ?_
    refine T.pass (Unwanted.guard rfl rfl rfl) rfl rfl ?_
    refine T.pass (Unwanted.guard rfl rfl rfl) rfl rfl ?_
    refine T.pv (PV.pickT rfl rfl rfl) Wanted.none rfl rfl ?_
    refine T.opsNil ?_
    refine T.condT rfl rfl ?_
    refine T.seq ?_
    refine T.region ?_
    refine T.pv (PV.assign rfl) Wanted.none rfl rfl ?_
    refine T.opsNil ?_
    exact T.retF (Lv.fin (RV.tmp rfl rfl) rfl)
  · have hc := Bool.eq_false_iff.2 hc
    rw [hc] at hlong
    have ha := longL_false' hc a (by simp)
    have hb := longL_false' hc b (by simp)
    cases hva : validS a with
    | false =>
      have v1 : Fn Try.prog 24 #[.string a] H1 (fun v _ => v = .bool false) := by rw [← hva]; exact refValid_fn a H1 (by omega)
      refine T.callV Wanted.none rfl rfl (hlong) ?_
      refine T.pv (PV.move rfl) Wanted.none rfl rfl ?_
      refine T.pv (PV.move rfl) (Wanted.guard rfl rfl rfl) rfl rfl ?_
      refine T.callV (Wanted.guard rfl rfl rfl) rfl rfl (v1) ?_
      refine T.pv (PV.not rfl) (Wanted.guard rfl rfl rfl) rfl rfl ?_
      refine T.pv (PV.pickF rfl rfl rfl) Wanted.none rfl rfl ?_
      refine T.pv (PV.move rfl) Wanted.none rfl rfl ?_
      refine T.pass (Unwanted.guard rfl rfl rfl) rfl rfl ?_
      refine T.pass (Unwanted.guard rfl rfl rfl) rfl rfl ?_
      refine T.pass (Unwanted.guard rfl rfl rfl) rfl rfl ?_
      refine T.pv (PV.pickT rfl rfl rfl) Wanted.none rfl rfl ?_
      refine T.opsNil ?_
      refine T.condT rfl rfl ?_
      refine T.seq ?_
      refine T.region ?_
      refine T.pv (PV.assign rfl) Wanted.none rfl rfl ?_
      refine T.opsNil ?_
      exact T.retF (Lv.fin (RV.tmp rfl rfl) rfl)
    | true =>
    have v1 : Fn Try.prog 24 #[.string a] H1 (fun v _ => v = .bool true) := by rw [← hva]; exact refValid_fn a H1 (by omega)
    cases hvb : validS b with
    | false =>
      have v2 : Fn Try.prog 24 #[.string b] H1 (fun v _ => v = .bool false) := by rw [← hvb]; exact refValid_fn b H1 (by omega)
      refine T.callV Wanted.none rfl rfl (hlong) ?_
      refine T.pv (PV.move rfl) Wanted.none rfl rfl ?_
      refine T.pv (PV.move rfl) (Wanted.guard rfl rfl rfl) rfl rfl ?_
      refine T.callV (Wanted.guard rfl rfl rfl) rfl rfl (v1) ?_
      refine T.pv (PV.not rfl) (Wanted.guard rfl rfl rfl) rfl rfl ?_
      refine T.pv (PV.pickF rfl rfl rfl) Wanted.none rfl rfl ?_
      refine T.pv (PV.move rfl) Wanted.none rfl rfl ?_
      refine T.pv (PV.move rfl) (Wanted.guard rfl rfl rfl) rfl rfl ?_
      refine T.callV (Wanted.guard rfl rfl rfl) rfl rfl (v2) ?_
      refine T.pv (PV.not rfl) (Wanted.guard rfl rfl rfl) rfl rfl ?_
      refine T.pv (PV.pickF rfl rfl rfl) Wanted.none rfl rfl ?_
      refine T.opsNil ?_
      refine T.condT rfl rfl ?_
      refine T.seq ?_
      refine T.region ?_
      refine T.pv (PV.assign rfl) Wanted.none rfl rfl ?_
      refine T.opsNil ?_
      exact T.retF (Lv.fin (RV.tmp rfl rfl) rfl)
    | true =>
    have v2 : Fn Try.prog 24 #[.string b] H1 (fun v _ => v = .bool true) := by rw [← hvb]; exact refValid_fn b H1 (by omega)
    have hz := app_size a b
    have z1 := foldS_size a
    have z2 := foldS_size b
    have z3 := revS_size a
    have z4 := revS_size b
    have hca := units_len a
    have hcb := units_len b
    have c1 : Fn Try.prog 23 #[.string (a ++ b)] H1 (fun v _ => v = .bool true) := by
      have := validS_fn (a ++ b) H1 (by omega)
      rw [valid_app hva hvb] at this; exact this
    have c2 : Fn Try.prog 22 #[.string (a ++ b)] H1 (fun v _ => v = .int .i64 ((units a).length + (units b).length : Int)) := by
      have := count_fn (a ++ b) H1 (by omega)
      rw [count_app b hva, Int.natCast_add] at this; exact this
    have c3 : Fn Try.prog 17 #[.string (a ++ b)] H1 (fun v _ => v = .string (revS b ++ revS a)) := by
      have : Fn Try.prog 17 #[.string (a ++ b)] H1 (fun v _ => v = .string (revS (a ++ b))) := reverse_fn (a ++ b) H1 (by omega)
      rw [rev_app b hva] at this; exact this
    have c4 : Fn Try.prog 17 #[.string a] H1 (fun v _ => v = .string (revS a)) := reverse_fn a H1 (by omega)
    have c5 : Fn Try.prog 17 #[.string b] H1 (fun v _ => v = .string (revS b)) := reverse_fn b H1 (by omega)
    have c6 : Fn Try.prog 17 #[.string (revS a)] H1 (fun v _ => v = .string a) := by
      have : Fn Try.prog 17 #[.string (revS a)] H1 (fun v _ => v = .string (revS (revS a))) := reverse_fn (revS a) H1 (by omega)
      rw [rev_rev hva] at this; exact this
    have c7 : Fn Try.prog 25 #[.string (a ++ b)] H1 (fun v _ => v = .string (foldS a ++ foldS b)) := by
      have : Fn Try.prog 25 #[.string (a ++ b)] H1 (fun v _ => v = .string (foldS (a ++ b))) := fold_fn (a ++ b) H1 (by omega)
      rw [fold_app b hva] at this; exact this
    have c8 : Fn Try.prog 25 #[.string a] H1 (fun v _ => v = .string (foldS a)) := fold_fn a H1 (by omega)
    have c9 : Fn Try.prog 25 #[.string b] H1 (fun v _ => v = .string (foldS b)) := fold_fn b H1 (by omega)
    have g1 := str_self (revS b ++ revS a)
    have g2 := str_self (foldS a ++ foldS b)
    have g3 := str_self a
    have g4 := eq_self' ((units a).length + (units b).length : Int)
    refine T.callV Wanted.none rfl rfl (hlong) ?_
    refine T.pv (PV.move rfl) Wanted.none rfl rfl ?_
    refine T.pv (PV.move rfl) (Wanted.guard rfl rfl rfl) rfl rfl ?_
    refine T.callV (Wanted.guard rfl rfl rfl) rfl rfl (v1) ?_
    refine T.pv (PV.not rfl) (Wanted.guard rfl rfl rfl) rfl rfl ?_
    refine T.pv (PV.pickF rfl rfl rfl) Wanted.none rfl rfl ?_
    refine T.pv (PV.move rfl) Wanted.none rfl rfl ?_
    refine T.pv (PV.move rfl) (Wanted.guard rfl rfl rfl) rfl rfl ?_
    refine T.callV (Wanted.guard rfl rfl rfl) rfl rfl (v2) ?_
    refine T.pv (PV.not rfl) (Wanted.guard rfl rfl rfl) rfl rfl ?_
    refine T.pv (PV.pickF rfl rfl rfl) Wanted.none rfl rfl ?_
    refine T.opsNil ?_
    refine T.condF rfl rfl ?_
    refine T.skip ?_
    refine T.seq ?_
    refine T.region ?_
    refine T.pv (PV.move rfl) Wanted.none rfl rfl ?_
    refine T.pv (PV.move rfl) Wanted.none rfl rfl ?_
    refine T.pv (PV.sadd rfl rfl (by omega)) Wanted.none rfl rfl ?_
    refine T.callV Wanted.none rfl rfl (c1) ?_
    refine T.pv (PV.move rfl) Wanted.none rfl rfl ?_
    refine T.pv (PV.move rfl) (Wanted.guard rfl rfl rfl) rfl rfl ?_
    refine T.pv (PV.move rfl) (Wanted.guard rfl rfl rfl) rfl rfl ?_
    refine T.pv (PV.sadd rfl rfl (by omega)) (Wanted.guard rfl rfl rfl) rfl rfl ?_
    refine T.callV (Wanted.guard rfl rfl rfl) rfl rfl (c2) ?_
    refine T.pv (PV.move rfl) (Wanted.guard rfl rfl rfl) rfl rfl ?_
    refine T.callV (Wanted.guard rfl rfl rfl) rfl rfl (count_fn a H1 (by omega)) ?_
    refine T.pv (PV.move rfl) (Wanted.guard rfl rfl rfl) rfl rfl ?_
    refine T.callV (Wanted.guard rfl rfl rfl) rfl rfl (count_fn b H1 (by omega)) ?_
    refine T.pv (PV.add rfl rfl (by omega)) (Wanted.guard rfl rfl rfl) rfl rfl ?_
    refine T.pv (PV.eql rfl rfl) (Wanted.guard rfl rfl rfl) rfl rfl ?_
    refine T.pv (PV.pickT rfl rfl rfl) Wanted.none rfl rfl ?_
    refine T.pv (PV.move rfl) Wanted.none rfl rfl ?_
    refine T.pv (PV.move rfl) (Wanted.guard rfl rfl (by assumption)) rfl rfl ?_
    refine T.pv (PV.move rfl) (Wanted.guard rfl rfl (by assumption)) rfl rfl ?_
    refine T.pv (PV.sadd rfl rfl (by omega)) (Wanted.guard rfl rfl (by assumption)) rfl rfl ?_
    refine T.callV (Wanted.guard rfl rfl (by assumption)) rfl rfl (c3) ?_
    refine T.pv (PV.move rfl) (Wanted.guard rfl rfl (by assumption)) rfl rfl ?_
    refine T.callV (Wanted.guard rfl rfl (by assumption)) rfl rfl (c5) ?_
    refine T.pv (PV.move rfl) (Wanted.guard rfl rfl (by assumption)) rfl rfl ?_
    refine T.callV (Wanted.guard rfl rfl (by assumption)) rfl rfl (c4) ?_
    refine T.pv (PV.sadd rfl rfl (by omega)) (Wanted.guard rfl rfl (by assumption)) rfl rfl ?_
    refine T.pv (PV.seql rfl rfl) (Wanted.guard rfl rfl (by assumption)) rfl rfl ?_
    refine T.pv (PV.pickT rfl (by assumption) rfl) Wanted.none rfl rfl ?_
    refine T.pv (PV.move rfl) Wanted.none rfl rfl ?_
    refine T.pv (PV.move rfl) (Wanted.guard rfl rfl (by assumption)) rfl rfl ?_
    refine T.pv (PV.move rfl) (Wanted.guard rfl rfl (by assumption)) rfl rfl ?_
    refine T.pv (PV.sadd rfl rfl (by omega)) (Wanted.guard rfl rfl (by assumption)) rfl rfl ?_
    refine T.callV (Wanted.guard rfl rfl (by assumption)) rfl rfl (c7) ?_
    refine T.pv (PV.move rfl) (Wanted.guard rfl rfl (by assumption)) rfl rfl ?_
    refine T.callV (Wanted.guard rfl rfl (by assumption)) rfl rfl (c8) ?_
    refine T.pv (PV.move rfl) (Wanted.guard rfl rfl (by assumption)) rfl rfl ?_
    refine T.callV (Wanted.guard rfl rfl (by assumption)) rfl rfl (c9) ?_
    refine T.pv (PV.sadd rfl rfl (by omega)) (Wanted.guard rfl rfl (by assumption)) rfl rfl ?_
    refine T.pv (PV.seql rfl rfl) (Wanted.guard rfl rfl (by assumption)) rfl rfl ?_
    refine T.pv (PV.pickT rfl (by assumption) rfl) Wanted.none rfl rfl ?_
    refine T.pv (PV.move rfl) Wanted.none rfl rfl ?_
    refine T.pv (PV.move rfl) (Wanted.guard rfl rfl (by assumption)) rfl rfl ?_
    refine T.callV (Wanted.guard rfl rfl (by assumption)) rfl rfl (c4) ?_
    refine T.callV (Wanted.guard rfl rfl (by assumption)) rfl rfl (c6) ?_
    refine T.pv (PV.move rfl) (Wanted.guard rfl rfl (by assumption)) rfl rfl ?_
    refine T.pv (PV.seql rfl rfl) (Wanted.guard rfl rfl (by assumption)) rfl rfl ?_
    refine T.pv (PV.pickT rfl (by assumption) rfl) Wanted.none rfl rfl ?_
    refine T.pv (PV.move rfl) Wanted.none rfl rfl ?_
    refine T.callV (Wanted.guard rfl rfl (by assumption)) rfl rfl (awake_fn H1) ?_
    refine T.pv (PV.pickT rfl (by assumption) rfl) Wanted.none rfl rfl ?_
    refine T.pv (PV.assign rfl) Wanted.none rfl rfl ?_
    refine T.opsNil ?_
    exact T.retF (Lv.fin (RV.tmp rfl rfl) rfl)

set_option maxHeartbeats 1000000 in
theorem lawOrders (a : ByteArray) (b : ByteArray) (c : ByteArray) (H : Hp) : Fn Try.prog 12 #[.string a, .string b, .string c] H (fun v _ => v = .bool true) := by
  refine Fn.of_T (vs := [.string a, .string b, .string c]) Try.func12 rfl rfl fun w => ?_
  refine T.seq ?_
  refine T.region ?_
  refine T.pv (PV.assign rfl) Wanted.none rfl rfl ?_
  refine T.opsNil ?_
  refine T.seq ?_
  refine T.seq ?_
  refine T.region ?_
  refine T.pv (PV.move rfl) Wanted.none rfl rfl ?_
  refine T.pv (PV.move rfl) Wanted.none rfl rfl ?_
  refine T.pv (PV.move rfl) Wanted.none rfl rfl ?_
  (refine T.buildSlice Wanted.none rfl rfl (by repeat (first | exact FillAll.nil | (apply FillAll.cons; (first | exact CellsR.one rfl | exact CellsR.agg); exact rfl))) (by exact rfl) (by exact rfl) ?_; intro b13)
  refine T.freezeLit ?_
  intro H1 hle1 hH1
  have hsl : SlR H1 1 _ _ (List.map Value.string [a, b, c]) := slR_lit hH1 rfl
  refine T.callV Wanted.none rfl rfl (long_fn [a, b, c] _ H1 hsl (Nat.le_of_ble_eq_true rfl)) ?_
  refine T.opsNil ?_
  refine T.cond rfl (fun hc => ?_) (fun hc => ?_)
  · refine T.seq ?_
    refine T.region ?_
    refine T.pv (PV.assign rfl) Wanted.none rfl rfl ?_
    refine T.opsNil ?_
    exact T.retF (Lv.fin (RV.tmp rfl rfl) rfl)
  · have ha := longL_false hc a (by simp)
    have hb := longL_false hc b (by simp)
    have hcc := longL_false hc c (by simp)
    have r1 := cmpS_range a b
    have r2 := cmpS_range b c
    have r3 := cmpS_range a c
    have t1 := cmpS_le (a := a) (b := b) (c := c)
    have t2 := cmpS_ge (a := a) (b := b) (c := c)
    have e1 := cmpS_zero a b
    have e3 := cmpS_anti a b
    have c1 := compare_fn a b H1 ha hb
    have c2 := compare_fn b c H1 hb hcc
    have c3 := compare_fn a c H1 ha hcc
    have c4 := compare_fn b a H1 hb ha
    have v1 := validS_fn a H1 (by omega)
    have v2 := validS_fn b H1 (by omega)
    have e2 : validS a = true → validS b = true → Op.bytesLess a.data.toList b.data.toList = decide (cmpS a b < 0) := cmpS_valid
    rw [e3] at c4
    generalize cmpS a b = x at *
    generalize cmpS b c = y at *
    generalize cmpS a c = z at *
    clear e3
    have g1 := ne_self (-x)
    have g2 : (decide (x = 0) != decide (a = b)) = false := by rw [e1]; simp
    clear e1
    cases hva : validS a with
    | false =>
      rw [hva] at v1
      clear e2
      refine T.skip ?_
      refine T.seq ?_
      refine T.region ?_
      refine T.pv (PV.move rfl) Wanted.none rfl rfl ?_
      refine T.pv (PV.move rfl) Wanted.none rfl rfl ?_
      refine T.callV Wanted.none rfl rfl (c1) ?_
      refine T.pv (PV.move rfl) Wanted.none rfl rfl ?_
      refine T.pv (PV.move rfl) Wanted.none rfl rfl ?_
      refine T.callV Wanted.none rfl rfl (c2) ?_
      refine T.pv (PV.move rfl) Wanted.none rfl rfl ?_
      refine T.pv (PV.move rfl) Wanted.none rfl rfl ?_
      refine T.callV Wanted.none rfl rfl (c3) ?_
      refine T.pv (PV.assign rfl) Wanted.none rfl rfl ?_
      refine T.pv (PV.assign rfl) Wanted.none rfl rfl ?_
      refine T.pv (PV.assign rfl) Wanted.none rfl rfl ?_
      refine T.opsNil ?_
      refine T.seq ?_
      refine T.seq ?_
      refine T.region ?_
      refine T.pv (PV.move rfl) Wanted.none rfl rfl ?_
      refine T.pv (PV.move rfl) Wanted.none rfl rfl ?_
      refine T.callV Wanted.none rfl rfl (c4) ?_
      refine T.pv (PV.move rfl) Wanted.none rfl rfl ?_
      refine T.pv (PV.neg rfl (by omega)) Wanted.none rfl rfl ?_
      refine T.pv (PV.neq rfl rfl) Wanted.none rfl rfl ?_
      refine T.pv (PV.move rfl) Wanted.none rfl rfl ?_
      refine T.pv (PV.move rfl) (Wanted.guard rfl rfl (by assumption)) rfl rfl ?_
      refine T.pv (PV.eql rfl rfl) (Wanted.guard rfl rfl (by assumption)) rfl rfl ?_
      refine T.pv (PV.move rfl) (Wanted.guard rfl rfl (by assumption)) rfl rfl ?_
      refine T.pv (PV.move rfl) (Wanted.guard rfl rfl (by assumption)) rfl rfl ?_
      refine T.pv (PV.seql rfl rfl) (Wanted.guard rfl rfl (by assumption)) rfl rfl ?_
      refine T.pv (PV.bneq rfl rfl) (Wanted.guard rfl rfl (by assumption)) rfl rfl ?_
      refine T.pv (PV.pickF rfl (by assumption) rfl) Wanted.none rfl rfl ?_
      refine T.pv (PV.move rfl) Wanted.none rfl rfl ?_
      refine T.pv (PV.move rfl) (Wanted.guard rfl rfl (by assumption)) rfl rfl ?_
      refine T.pv (PV.leq rfl rfl) (Wanted.guard rfl rfl (by assumption)) rfl rfl ?_
      refine T.pv (PV.move rfl) (Wanted.guard rfl rfl (by assumption)) rfl rfl ?_
      refine T.splitD (d := 41) rfl (fun h0 => ?_) (fun h0 => ?_)
      · refine T.pv (PV.move rfl) (Wanted.guard rfl rfl rfl) rfl rfl ?_
        refine T.pv (PV.leq rfl rfl) (Wanted.guard rfl rfl rfl) rfl rfl ?_
        refine T.pv (PV.pickT rfl rfl rfl) (Wanted.guard rfl rfl (by assumption)) rfl rfl ?_
        refine T.pv (PV.move rfl) (Wanted.guard rfl rfl (by assumption)) rfl rfl ?_
        refine T.splitD (d := 45) rfl (fun h1 => ?_) (fun h1 => ?_)
        · refine T.pv (PV.move rfl) (Wanted.guard rfl rfl rfl) rfl rfl ?_
          refine T.pv (PV.gtr rfl rfl) (Wanted.guard rfl rfl rfl) rfl rfl ?_
          refine T.pv (PV.pickT rfl rfl rfl) (Wanted.guard rfl rfl (by assumption)) rfl rfl ?_
          refine T.pv (PV.pickF rfl (by assumption) rfl) Wanted.none rfl rfl ?_
          refine T.pv (PV.move rfl) Wanted.none rfl rfl ?_
          refine T.setF (d := 50) rfl (by omega) ?_
          refine T.pv (PV.move rfl) (Wanted.guard rfl rfl rfl) rfl rfl ?_
          refine T.pv (PV.geq rfl rfl) (Wanted.guard rfl rfl rfl) rfl rfl ?_
          refine T.pv (PV.move rfl) (Wanted.guard rfl rfl rfl) rfl rfl ?_
          refine T.splitD (d := 53) rfl (fun h2 => ?_) (fun h2 => ?_)
          · refine T.pv (PV.move rfl) (Wanted.guard rfl rfl rfl) rfl rfl ?_
            refine T.pv (PV.geq rfl rfl) (Wanted.guard rfl rfl rfl) rfl rfl ?_
            refine T.pv (PV.pickT rfl rfl rfl) (Wanted.guard rfl rfl rfl) rfl rfl ?_
            refine T.pv (PV.move rfl) (Wanted.guard rfl rfl rfl) rfl rfl ?_
            refine T.splitD (d := 57) rfl (fun h3 => ?_) (fun h3 => ?_)
            · refine T.pv (PV.move rfl) (Wanted.guard rfl rfl rfl) rfl rfl ?_
              refine T.pv (PV.lss rfl rfl) (Wanted.guard rfl rfl rfl) rfl rfl ?_
              refine T.pv (PV.pickT rfl rfl rfl) (Wanted.guard rfl rfl rfl) rfl rfl ?_
              refine T.pv (PV.pickF rfl rfl rfl) Wanted.none rfl rfl ?_
              refine T.opsNil ?_
              refine T.condF rfl (decide_eq_false (by omega)) ?_
              refine T.skip ?_
              refine T.seq ?_
              refine T.seq ?_
              refine T.region ?_
              refine T.pv (PV.move rfl) Wanted.none rfl rfl ?_
              refine T.callV Wanted.none rfl rfl (v1) ?_
              refine T.pv (PV.move rfl) Wanted.none rfl rfl ?_
              refine T.pass (Unwanted.guard rfl rfl rfl) rfl rfl ?_
              refine T.pass (Unwanted.guard rfl rfl rfl) rfl rfl ?_
              refine T.pv (PV.pickF rfl rfl rfl) Wanted.none rfl rfl ?_
              refine T.pv (PV.move rfl) Wanted.none rfl rfl ?_
              refine T.pass (Unwanted.guard rfl rfl rfl) rfl rfl ?_
              refine T.pass (Unwanted.guard rfl rfl rfl) rfl rfl ?_
              refine T.pass (Unwanted.guard rfl rfl rfl) rfl rfl ?_
              refine T.pass (Unwanted.guard rfl rfl rfl) rfl rfl ?_
              refine T.pass (Unwanted.guard rfl rfl rfl) rfl rfl ?_
              refine T.pass (Unwanted.guard rfl rfl rfl) rfl rfl ?_
              refine T.pv (PV.pickF rfl rfl rfl) Wanted.none rfl rfl ?_
              refine T.opsNil ?_
              refine T.condF rfl rfl ?_
              refine T.skip ?_
              refine T.seq ?_
              refine T.region ?_
              refine T.callV Wanted.none rfl rfl (awake_fn H1) ?_
              refine T.pv (PV.assign rfl) Wanted.none rfl rfl ?_
              refine T.opsNil ?_
              (exact T.retF (Lv.fin (RV.tmp rfl rfl) rfl))
            · refine T.pass (Unwanted.guard rfl rfl rfl) rfl rfl ?_
              refine T.pass (Unwanted.guard rfl rfl rfl) rfl rfl ?_
              refine T.pv (PV.pickF rfl rfl rfl) (Wanted.guard rfl rfl rfl) rfl rfl ?_
              refine T.pv (PV.pickF rfl rfl rfl) Wanted.none rfl rfl ?_
              refine T.opsNil ?_
              refine T.condF rfl rfl ?_
              refine T.skip ?_
              refine T.seq ?_
              refine T.seq ?_
              refine T.region ?_
              refine T.pv (PV.move rfl) Wanted.none rfl rfl ?_
              refine T.callV Wanted.none rfl rfl (v1) ?_
              refine T.pv (PV.move rfl) Wanted.none rfl rfl ?_
              refine T.pass (Unwanted.guard rfl rfl rfl) rfl rfl ?_
              refine T.pass (Unwanted.guard rfl rfl rfl) rfl rfl ?_
              refine T.pv (PV.pickF rfl rfl rfl) Wanted.none rfl rfl ?_
              refine T.pv (PV.move rfl) Wanted.none rfl rfl ?_
              refine T.pass (Unwanted.guard rfl rfl rfl) rfl rfl ?_
              refine T.pass (Unwanted.guard rfl rfl rfl) rfl rfl ?_
              refine T.pass (Unwanted.guard rfl rfl rfl) rfl rfl ?_
              refine T.pass (Unwanted.guard rfl rfl rfl) rfl rfl ?_
              refine T.pass (Unwanted.guard rfl rfl rfl) rfl rfl ?_
              refine T.pass (Unwanted.guard rfl rfl rfl) rfl rfl ?_
              refine T.pv (PV.pickF rfl rfl rfl) Wanted.none rfl rfl ?_
              refine T.opsNil ?_
              refine T.condF rfl rfl ?_
              refine T.skip ?_
              refine T.seq ?_
              refine T.region ?_
              refine T.callV Wanted.none rfl rfl (awake_fn H1) ?_
              refine T.pv (PV.assign rfl) Wanted.none rfl rfl ?_
              refine T.opsNil ?_
              (exact T.retF (Lv.fin (RV.tmp rfl rfl) rfl))
          · refine T.pass (Unwanted.guard rfl rfl rfl) rfl rfl ?_
            refine T.pass (Unwanted.guard rfl rfl rfl) rfl rfl ?_
            refine T.pv (PV.pickF rfl rfl rfl) (Wanted.guard rfl rfl rfl) rfl rfl ?_
            refine T.pv (PV.move rfl) (Wanted.guard rfl rfl rfl) rfl rfl ?_
            refine T.pass (Unwanted.guard rfl rfl rfl) rfl rfl ?_
            refine T.pass (Unwanted.guard rfl rfl rfl) rfl rfl ?_
            refine T.pv (PV.pickF rfl rfl rfl) (Wanted.guard rfl rfl rfl) rfl rfl ?_
            refine T.pv (PV.pickF rfl rfl rfl) Wanted.none rfl rfl ?_
            refine T.opsNil ?_
            refine T.condF rfl rfl ?_
            refine T.skip ?_
            refine T.seq ?_
            refine T.seq ?_
            refine T.region ?_
            refine T.pv (PV.move rfl) Wanted.none rfl rfl ?_
            refine T.callV Wanted.none rfl rfl (v1) ?_
            refine T.pv (PV.move rfl) Wanted.none rfl rfl ?_
            refine T.pass (Unwanted.guard rfl rfl rfl) rfl rfl ?_
            refine T.pass (Unwanted.guard rfl rfl rfl) rfl rfl ?_
            refine T.pv (PV.pickF rfl rfl rfl) Wanted.none rfl rfl ?_
            refine T.pv (PV.move rfl) Wanted.none rfl rfl ?_
            refine T.pass (Unwanted.guard rfl rfl rfl) rfl rfl ?_
            refine T.pass (Unwanted.guard rfl rfl rfl) rfl rfl ?_
            refine T.pass (Unwanted.guard rfl rfl rfl) rfl rfl ?_
            refine T.pass (Unwanted.guard rfl rfl rfl) rfl rfl ?_
            refine T.pass (Unwanted.guard rfl rfl rfl) rfl rfl ?_
            refine T.pass (Unwanted.guard rfl rfl rfl) rfl rfl ?_
            refine T.pv (PV.pickF rfl rfl rfl) Wanted.none rfl rfl ?_
            refine T.opsNil ?_
            refine T.condF rfl rfl ?_
            refine T.skip ?_
            refine T.seq ?_
            refine T.region ?_
            refine T.callV Wanted.none rfl rfl (awake_fn H1) ?_
            refine T.pv (PV.assign rfl) Wanted.none rfl rfl ?_
            refine T.opsNil ?_
            (exact T.retF (Lv.fin (RV.tmp rfl rfl) rfl))
        · refine T.pass (Unwanted.guard rfl rfl rfl) rfl rfl ?_
          refine T.pass (Unwanted.guard rfl rfl rfl) rfl rfl ?_
          refine T.pv (PV.pickF rfl rfl rfl) (Wanted.guard rfl rfl (by assumption)) rfl rfl ?_
          refine T.pv (PV.pickF rfl (by assumption) rfl) Wanted.none rfl rfl ?_
          refine T.pv (PV.move rfl) Wanted.none rfl rfl ?_
          refine T.pv (PV.move rfl) (Wanted.guard rfl rfl rfl) rfl rfl ?_
          refine T.pv (PV.geq rfl rfl) (Wanted.guard rfl rfl rfl) rfl rfl ?_
          refine T.pv (PV.move rfl) (Wanted.guard rfl rfl rfl) rfl rfl ?_
          refine T.splitD (d := 53) rfl (fun h2 => ?_) (fun h2 => ?_)
          · refine T.pv (PV.move rfl) (Wanted.guard rfl rfl rfl) rfl rfl ?_
            refine T.pv (PV.geq rfl rfl) (Wanted.guard rfl rfl rfl) rfl rfl ?_
            refine T.pv (PV.pickT rfl rfl rfl) (Wanted.guard rfl rfl rfl) rfl rfl ?_
            refine T.pv (PV.move rfl) (Wanted.guard rfl rfl rfl) rfl rfl ?_
            refine T.setT (d := 57) rfl (by omega) ?_
            refine T.pv (PV.move rfl) (Wanted.guard rfl rfl rfl) rfl rfl ?_
            refine T.pv (PV.lss rfl rfl) (Wanted.guard rfl rfl rfl) rfl rfl ?_
            refine T.pv (PV.pickT rfl rfl rfl) (Wanted.guard rfl rfl rfl) rfl rfl ?_
            refine T.pv (PV.pickF rfl rfl rfl) Wanted.none rfl rfl ?_
            refine T.opsNil ?_
            refine T.condF rfl (decide_eq_false (by omega)) ?_
            refine T.skip ?_
            refine T.seq ?_
            refine T.seq ?_
            refine T.region ?_
            refine T.pv (PV.move rfl) Wanted.none rfl rfl ?_
            refine T.callV Wanted.none rfl rfl (v1) ?_
            refine T.pv (PV.move rfl) Wanted.none rfl rfl ?_
            refine T.pass (Unwanted.guard rfl rfl rfl) rfl rfl ?_
            refine T.pass (Unwanted.guard rfl rfl rfl) rfl rfl ?_
            refine T.pv (PV.pickF rfl rfl rfl) Wanted.none rfl rfl ?_
            refine T.pv (PV.move rfl) Wanted.none rfl rfl ?_
            refine T.pass (Unwanted.guard rfl rfl rfl) rfl rfl ?_
            refine T.pass (Unwanted.guard rfl rfl rfl) rfl rfl ?_
            refine T.pass (Unwanted.guard rfl rfl rfl) rfl rfl ?_
            refine T.pass (Unwanted.guard rfl rfl rfl) rfl rfl ?_
            refine T.pass (Unwanted.guard rfl rfl rfl) rfl rfl ?_
            refine T.pass (Unwanted.guard rfl rfl rfl) rfl rfl ?_
            refine T.pv (PV.pickF rfl rfl rfl) Wanted.none rfl rfl ?_
            refine T.opsNil ?_
            refine T.condF rfl rfl ?_
            refine T.skip ?_
            refine T.seq ?_
            refine T.region ?_
            refine T.callV Wanted.none rfl rfl (awake_fn H1) ?_
            refine T.pv (PV.assign rfl) Wanted.none rfl rfl ?_
            refine T.opsNil ?_
            (exact T.retF (Lv.fin (RV.tmp rfl rfl) rfl))
          · refine T.pass (Unwanted.guard rfl rfl rfl) rfl rfl ?_
            refine T.pass (Unwanted.guard rfl rfl rfl) rfl rfl ?_
            refine T.pv (PV.pickF rfl rfl rfl) (Wanted.guard rfl rfl rfl) rfl rfl ?_
            refine T.pv (PV.move rfl) (Wanted.guard rfl rfl rfl) rfl rfl ?_
            refine T.pass (Unwanted.guard rfl rfl rfl) rfl rfl ?_
            refine T.pass (Unwanted.guard rfl rfl rfl) rfl rfl ?_
            refine T.pv (PV.pickF rfl rfl rfl) (Wanted.guard rfl rfl rfl) rfl rfl ?_
            refine T.pv (PV.pickF rfl rfl rfl) Wanted.none rfl rfl ?_
            refine T.opsNil ?_
            refine T.condF rfl rfl ?_
            refine T.skip ?_
            refine T.seq ?_
            refine T.seq ?_
            refine T.region ?_
            refine T.pv (PV.move rfl) Wanted.none rfl rfl ?_
            refine T.callV Wanted.none rfl rfl (v1) ?_
            refine T.pv (PV.move rfl) Wanted.none rfl rfl ?_
            refine T.pass (Unwanted.guard rfl rfl rfl) rfl rfl ?_
            refine T.pass (Unwanted.guard rfl rfl rfl) rfl rfl ?_
            refine T.pv (PV.pickF rfl rfl rfl) Wanted.none rfl rfl ?_
            refine T.pv (PV.move rfl) Wanted.none rfl rfl ?_
            refine T.pass (Unwanted.guard rfl rfl rfl) rfl rfl ?_
            refine T.pass (Unwanted.guard rfl rfl rfl) rfl rfl ?_
            refine T.pass (Unwanted.guard rfl rfl rfl) rfl rfl ?_
            refine T.pass (Unwanted.guard rfl rfl rfl) rfl rfl ?_
            refine T.pass (Unwanted.guard rfl rfl rfl) rfl rfl ?_
            refine T.pass (Unwanted.guard rfl rfl rfl) rfl rfl ?_
            refine T.pv (PV.pickF rfl rfl rfl) Wanted.none rfl rfl ?_
            refine T.opsNil ?_
            refine T.condF rfl rfl ?_
            refine T.skip ?_
            refine T.seq ?_
            refine T.region ?_
            refine T.callV Wanted.none rfl rfl (awake_fn H1) ?_
            refine T.pv (PV.assign rfl) Wanted.none rfl rfl ?_
            refine T.opsNil ?_
            (exact T.retF (Lv.fin (RV.tmp rfl rfl) rfl))
      · refine T.pass (Unwanted.guard rfl rfl rfl) rfl rfl ?_
        refine T.pass (Unwanted.guard rfl rfl rfl) rfl rfl ?_
        refine T.pv (PV.pickF rfl rfl rfl) (Wanted.guard rfl rfl (by assumption)) rfl rfl ?_
        refine T.pv (PV.move rfl) (Wanted.guard rfl rfl (by assumption)) rfl rfl ?_
        refine T.pass (Unwanted.guard rfl rfl rfl) rfl rfl ?_
        refine T.pass (Unwanted.guard rfl rfl rfl) rfl rfl ?_
        refine T.pv (PV.pickF rfl rfl rfl) (Wanted.guard rfl rfl (by assumption)) rfl rfl ?_
        refine T.pv (PV.pickF rfl (by assumption) rfl) Wanted.none rfl rfl ?_
        refine T.pv (PV.move rfl) Wanted.none rfl rfl ?_
        refine T.pv (PV.move rfl) (Wanted.guard rfl rfl rfl) rfl rfl ?_
        refine T.pv (PV.geq rfl rfl) (Wanted.guard rfl rfl rfl) rfl rfl ?_
        refine T.pv (PV.move rfl) (Wanted.guard rfl rfl rfl) rfl rfl ?_
        refine T.setT (d := 53) rfl (by omega) ?_
        refine T.pv (PV.move rfl) (Wanted.guard rfl rfl rfl) rfl rfl ?_
        refine T.pv (PV.geq rfl rfl) (Wanted.guard rfl rfl rfl) rfl rfl ?_
        refine T.pv (PV.pickT rfl rfl rfl) (Wanted.guard rfl rfl rfl) rfl rfl ?_
        refine T.pv (PV.move rfl) (Wanted.guard rfl rfl rfl) rfl rfl ?_
        refine T.splitD (d := 57) rfl (fun h1 => ?_) (fun h1 => ?_)
        · refine T.pv (PV.move rfl) (Wanted.guard rfl rfl rfl) rfl rfl ?_
          refine T.pv (PV.lss rfl rfl) (Wanted.guard rfl rfl rfl) rfl rfl ?_
          refine T.pv (PV.pickT rfl rfl rfl) (Wanted.guard rfl rfl rfl) rfl rfl ?_
          refine T.pv (PV.pickF rfl rfl rfl) Wanted.none rfl rfl ?_
          refine T.opsNil ?_
          refine T.condF rfl (decide_eq_false (by omega)) ?_
          refine T.skip ?_
          refine T.seq ?_
          refine T.seq ?_
          refine T.region ?_
          refine T.pv (PV.move rfl) Wanted.none rfl rfl ?_
          refine T.callV Wanted.none rfl rfl (v1) ?_
          refine T.pv (PV.move rfl) Wanted.none rfl rfl ?_
          refine T.pass (Unwanted.guard rfl rfl rfl) rfl rfl ?_
          refine T.pass (Unwanted.guard rfl rfl rfl) rfl rfl ?_
          refine T.pv (PV.pickF rfl rfl rfl) Wanted.none rfl rfl ?_
          refine T.pv (PV.move rfl) Wanted.none rfl rfl ?_
          refine T.pass (Unwanted.guard rfl rfl rfl) rfl rfl ?_
          refine T.pass (Unwanted.guard rfl rfl rfl) rfl rfl ?_
          refine T.pass (Unwanted.guard rfl rfl rfl) rfl rfl ?_
          refine T.pass (Unwanted.guard rfl rfl rfl) rfl rfl ?_
          refine T.pass (Unwanted.guard rfl rfl rfl) rfl rfl ?_
          refine T.pass (Unwanted.guard rfl rfl rfl) rfl rfl ?_
          refine T.pv (PV.pickF rfl rfl rfl) Wanted.none rfl rfl ?_
          refine T.opsNil ?_
          refine T.condF rfl rfl ?_
          refine T.skip ?_
          refine T.seq ?_
          refine T.region ?_
          refine T.callV Wanted.none rfl rfl (awake_fn H1) ?_
          refine T.pv (PV.assign rfl) Wanted.none rfl rfl ?_
          refine T.opsNil ?_
          (exact T.retF (Lv.fin (RV.tmp rfl rfl) rfl))
        · refine T.pass (Unwanted.guard rfl rfl rfl) rfl rfl ?_
          refine T.pass (Unwanted.guard rfl rfl rfl) rfl rfl ?_
          refine T.pv (PV.pickF rfl rfl rfl) (Wanted.guard rfl rfl rfl) rfl rfl ?_
          refine T.pv (PV.pickF rfl rfl rfl) Wanted.none rfl rfl ?_
          refine T.opsNil ?_
          refine T.condF rfl rfl ?_
          refine T.skip ?_
          refine T.seq ?_
          refine T.seq ?_
          refine T.region ?_
          refine T.pv (PV.move rfl) Wanted.none rfl rfl ?_
          refine T.callV Wanted.none rfl rfl (v1) ?_
          refine T.pv (PV.move rfl) Wanted.none rfl rfl ?_
          refine T.pass (Unwanted.guard rfl rfl rfl) rfl rfl ?_
          refine T.pass (Unwanted.guard rfl rfl rfl) rfl rfl ?_
          refine T.pv (PV.pickF rfl rfl rfl) Wanted.none rfl rfl ?_
          refine T.pv (PV.move rfl) Wanted.none rfl rfl ?_
          refine T.pass (Unwanted.guard rfl rfl rfl) rfl rfl ?_
          refine T.pass (Unwanted.guard rfl rfl rfl) rfl rfl ?_
          refine T.pass (Unwanted.guard rfl rfl rfl) rfl rfl ?_
          refine T.pass (Unwanted.guard rfl rfl rfl) rfl rfl ?_
          refine T.pass (Unwanted.guard rfl rfl rfl) rfl rfl ?_
          refine T.pass (Unwanted.guard rfl rfl rfl) rfl rfl ?_
          refine T.pv (PV.pickF rfl rfl rfl) Wanted.none rfl rfl ?_
          refine T.opsNil ?_
          refine T.condF rfl rfl ?_
          refine T.skip ?_
          refine T.seq ?_
          refine T.region ?_
          refine T.callV Wanted.none rfl rfl (awake_fn H1) ?_
          refine T.pv (PV.assign rfl) Wanted.none rfl rfl ?_
          refine T.opsNil ?_
          (exact T.retF (Lv.fin (RV.tmp rfl rfl) rfl))
    | true =>
    cases hvb : validS b with
    | false =>
      rw [hva] at v1
      rw [hvb] at v2
      clear e2
      refine T.skip ?_
      refine T.seq ?_
      refine T.region ?_
      refine T.pv (PV.move rfl) Wanted.none rfl rfl ?_
      refine T.pv (PV.move rfl) Wanted.none rfl rfl ?_
      refine T.callV Wanted.none rfl rfl (c1) ?_
      refine T.pv (PV.move rfl) Wanted.none rfl rfl ?_
      refine T.pv (PV.move rfl) Wanted.none rfl rfl ?_
      refine T.callV Wanted.none rfl rfl (c2) ?_
      refine T.pv (PV.move rfl) Wanted.none rfl rfl ?_
      refine T.pv (PV.move rfl) Wanted.none rfl rfl ?_
      refine T.callV Wanted.none rfl rfl (c3) ?_
      refine T.pv (PV.assign rfl) Wanted.none rfl rfl ?_
      refine T.pv (PV.assign rfl) Wanted.none rfl rfl ?_
      refine T.pv (PV.assign rfl) Wanted.none rfl rfl ?_
      refine T.opsNil ?_
      refine T.seq ?_
      refine T.seq ?_
      refine T.region ?_
      refine T.pv (PV.move rfl) Wanted.none rfl rfl ?_
      refine T.pv (PV.move rfl) Wanted.none rfl rfl ?_
      refine T.callV Wanted.none rfl rfl (c4) ?_
      refine T.pv (PV.move rfl) Wanted.none rfl rfl ?_
      refine T.pv (PV.neg rfl (by omega)) Wanted.none rfl rfl ?_
      refine T.pv (PV.neq rfl rfl) Wanted.none rfl rfl ?_
      refine T.pv (PV.move rfl) Wanted.none rfl rfl ?_
      refine T.pv (PV.move rfl) (Wanted.guard rfl rfl (by assumption)) rfl rfl ?_
      refine T.pv (PV.eql rfl rfl) (Wanted.guard rfl rfl (by assumption)) rfl rfl ?_
      refine T.pv (PV.move rfl) (Wanted.guard rfl rfl (by assumption)) rfl rfl ?_
      refine T.pv (PV.move rfl) (Wanted.guard rfl rfl (by assumption)) rfl rfl ?_
      refine T.pv (PV.seql rfl rfl) (Wanted.guard rfl rfl (by assumption)) rfl rfl ?_
      refine T.pv (PV.bneq rfl rfl) (Wanted.guard rfl rfl (by assumption)) rfl rfl ?_
      refine T.pv (PV.pickF rfl (by assumption) rfl) Wanted.none rfl rfl ?_
      refine T.pv (PV.move rfl) Wanted.none rfl rfl ?_
      refine T.pv (PV.move rfl) (Wanted.guard rfl rfl (by assumption)) rfl rfl ?_
      refine T.pv (PV.leq rfl rfl) (Wanted.guard rfl rfl (by assumption)) rfl rfl ?_
      refine T.pv (PV.move rfl) (Wanted.guard rfl rfl (by assumption)) rfl rfl ?_
      refine T.splitD (d := 41) rfl (fun h0 => ?_) (fun h0 => ?_)
      · refine T.pv (PV.move rfl) (Wanted.guard rfl rfl rfl) rfl rfl ?_
        refine T.pv (PV.leq rfl rfl) (Wanted.guard rfl rfl rfl) rfl rfl ?_
        refine T.pv (PV.pickT rfl rfl rfl) (Wanted.guard rfl rfl (by assumption)) rfl rfl ?_
        refine T.pv (PV.move rfl) (Wanted.guard rfl rfl (by assumption)) rfl rfl ?_
        refine T.splitD (d := 45) rfl (fun h1 => ?_) (fun h1 => ?_)
        · refine T.pv (PV.move rfl) (Wanted.guard rfl rfl rfl) rfl rfl ?_
          refine T.pv (PV.gtr rfl rfl) (Wanted.guard rfl rfl rfl) rfl rfl ?_
          refine T.pv (PV.pickT rfl rfl rfl) (Wanted.guard rfl rfl (by assumption)) rfl rfl ?_
          refine T.pv (PV.pickF rfl (by assumption) rfl) Wanted.none rfl rfl ?_
          refine T.pv (PV.move rfl) Wanted.none rfl rfl ?_
          refine T.setF (d := 50) rfl (by omega) ?_
          refine T.pv (PV.move rfl) (Wanted.guard rfl rfl rfl) rfl rfl ?_
          refine T.pv (PV.geq rfl rfl) (Wanted.guard rfl rfl rfl) rfl rfl ?_
          refine T.pv (PV.move rfl) (Wanted.guard rfl rfl rfl) rfl rfl ?_
          refine T.splitD (d := 53) rfl (fun h2 => ?_) (fun h2 => ?_)
          · refine T.pv (PV.move rfl) (Wanted.guard rfl rfl rfl) rfl rfl ?_
            refine T.pv (PV.geq rfl rfl) (Wanted.guard rfl rfl rfl) rfl rfl ?_
            refine T.pv (PV.pickT rfl rfl rfl) (Wanted.guard rfl rfl rfl) rfl rfl ?_
            refine T.pv (PV.move rfl) (Wanted.guard rfl rfl rfl) rfl rfl ?_
            refine T.splitD (d := 57) rfl (fun h3 => ?_) (fun h3 => ?_)
            · refine T.pv (PV.move rfl) (Wanted.guard rfl rfl rfl) rfl rfl ?_
              refine T.pv (PV.lss rfl rfl) (Wanted.guard rfl rfl rfl) rfl rfl ?_
              refine T.pv (PV.pickT rfl rfl rfl) (Wanted.guard rfl rfl rfl) rfl rfl ?_
              refine T.pv (PV.pickF rfl rfl rfl) Wanted.none rfl rfl ?_
              refine T.opsNil ?_
              refine T.condF rfl (decide_eq_false (by omega)) ?_
              refine T.skip ?_
              refine T.seq ?_
              refine T.seq ?_
              refine T.region ?_
              refine T.pv (PV.move rfl) Wanted.none rfl rfl ?_
              refine T.callV Wanted.none rfl rfl (v1) ?_
              refine T.pv (PV.move rfl) Wanted.none rfl rfl ?_
              refine T.pv (PV.move rfl) (Wanted.guard rfl rfl rfl) rfl rfl ?_
              refine T.callV (Wanted.guard rfl rfl rfl) rfl rfl (v2) ?_
              refine T.pv (PV.pickT rfl rfl rfl) Wanted.none rfl rfl ?_
              refine T.pv (PV.move rfl) Wanted.none rfl rfl ?_
              refine T.pass (Unwanted.guard rfl rfl rfl) rfl rfl ?_
              refine T.pass (Unwanted.guard rfl rfl rfl) rfl rfl ?_
              refine T.pass (Unwanted.guard rfl rfl rfl) rfl rfl ?_
              refine T.pass (Unwanted.guard rfl rfl rfl) rfl rfl ?_
              refine T.pass (Unwanted.guard rfl rfl rfl) rfl rfl ?_
              refine T.pass (Unwanted.guard rfl rfl rfl) rfl rfl ?_
              refine T.pv (PV.pickF rfl rfl rfl) Wanted.none rfl rfl ?_
              refine T.opsNil ?_
              refine T.condF rfl rfl ?_
              refine T.skip ?_
              refine T.seq ?_
              refine T.region ?_
              refine T.callV Wanted.none rfl rfl (awake_fn H1) ?_
              refine T.pv (PV.assign rfl) Wanted.none rfl rfl ?_
              refine T.opsNil ?_
              (exact T.retF (Lv.fin (RV.tmp rfl rfl) rfl))
            · refine T.pass (Unwanted.guard rfl rfl rfl) rfl rfl ?_
              refine T.pass (Unwanted.guard rfl rfl rfl) rfl rfl ?_
              refine T.pv (PV.pickF rfl rfl rfl) (Wanted.guard rfl rfl rfl) rfl rfl ?_
              refine T.pv (PV.pickF rfl rfl rfl) Wanted.none rfl rfl ?_
              refine T.opsNil ?_
              refine T.condF rfl rfl ?_
              refine T.skip ?_
              refine T.seq ?_
              refine T.seq ?_
              refine T.region ?_
              refine T.pv (PV.move rfl) Wanted.none rfl rfl ?_
              refine T.callV Wanted.none rfl rfl (v1) ?_
              refine T.pv (PV.move rfl) Wanted.none rfl rfl ?_
              refine T.pv (PV.move rfl) (Wanted.guard rfl rfl rfl) rfl rfl ?_
              refine T.callV (Wanted.guard rfl rfl rfl) rfl rfl (v2) ?_
              refine T.pv (PV.pickT rfl rfl rfl) Wanted.none rfl rfl ?_
              refine T.pv (PV.move rfl) Wanted.none rfl rfl ?_
              refine T.pass (Unwanted.guard rfl rfl rfl) rfl rfl ?_
              refine T.pass (Unwanted.guard rfl rfl rfl) rfl rfl ?_
              refine T.pass (Unwanted.guard rfl rfl rfl) rfl rfl ?_
              refine T.pass (Unwanted.guard rfl rfl rfl) rfl rfl ?_
              refine T.pass (Unwanted.guard rfl rfl rfl) rfl rfl ?_
              refine T.pass (Unwanted.guard rfl rfl rfl) rfl rfl ?_
              refine T.pv (PV.pickF rfl rfl rfl) Wanted.none rfl rfl ?_
              refine T.opsNil ?_
              refine T.condF rfl rfl ?_
              refine T.skip ?_
              refine T.seq ?_
              refine T.region ?_
              refine T.callV Wanted.none rfl rfl (awake_fn H1) ?_
              refine T.pv (PV.assign rfl) Wanted.none rfl rfl ?_
              refine T.opsNil ?_
              (exact T.retF (Lv.fin (RV.tmp rfl rfl) rfl))
          · refine T.pass (Unwanted.guard rfl rfl rfl) rfl rfl ?_
            refine T.pass (Unwanted.guard rfl rfl rfl) rfl rfl ?_
            refine T.pv (PV.pickF rfl rfl rfl) (Wanted.guard rfl rfl rfl) rfl rfl ?_
            refine T.pv (PV.move rfl) (Wanted.guard rfl rfl rfl) rfl rfl ?_
            refine T.pass (Unwanted.guard rfl rfl rfl) rfl rfl ?_
            refine T.pass (Unwanted.guard rfl rfl rfl) rfl rfl ?_
            refine T.pv (PV.pickF rfl rfl rfl) (Wanted.guard rfl rfl rfl) rfl rfl ?_
            refine T.pv (PV.pickF rfl rfl rfl) Wanted.none rfl rfl ?_
            refine T.opsNil ?_
            refine T.condF rfl rfl ?_
            refine T.skip ?_
            refine T.seq ?_
            refine T.seq ?_
            refine T.region ?_
            refine T.pv (PV.move rfl) Wanted.none rfl rfl ?_
            refine T.callV Wanted.none rfl rfl (v1) ?_
            refine T.pv (PV.move rfl) Wanted.none rfl rfl ?_
            refine T.pv (PV.move rfl) (Wanted.guard rfl rfl rfl) rfl rfl ?_
            refine T.callV (Wanted.guard rfl rfl rfl) rfl rfl (v2) ?_
            refine T.pv (PV.pickT rfl rfl rfl) Wanted.none rfl rfl ?_
            refine T.pv (PV.move rfl) Wanted.none rfl rfl ?_
            refine T.pass (Unwanted.guard rfl rfl rfl) rfl rfl ?_
            refine T.pass (Unwanted.guard rfl rfl rfl) rfl rfl ?_
            refine T.pass (Unwanted.guard rfl rfl rfl) rfl rfl ?_
            refine T.pass (Unwanted.guard rfl rfl rfl) rfl rfl ?_
            refine T.pass (Unwanted.guard rfl rfl rfl) rfl rfl ?_
            refine T.pass (Unwanted.guard rfl rfl rfl) rfl rfl ?_
            refine T.pv (PV.pickF rfl rfl rfl) Wanted.none rfl rfl ?_
            refine T.opsNil ?_
            refine T.condF rfl rfl ?_
            refine T.skip ?_
            refine T.seq ?_
            refine T.region ?_
            refine T.callV Wanted.none rfl rfl (awake_fn H1) ?_
            refine T.pv (PV.assign rfl) Wanted.none rfl rfl ?_
            refine T.opsNil ?_
            (exact T.retF (Lv.fin (RV.tmp rfl rfl) rfl))
        · refine T.pass (Unwanted.guard rfl rfl rfl) rfl rfl ?_
          refine T.pass (Unwanted.guard rfl rfl rfl) rfl rfl ?_
          refine T.pv (PV.pickF rfl rfl rfl) (Wanted.guard rfl rfl (by assumption)) rfl rfl ?_
          refine T.pv (PV.pickF rfl (by assumption) rfl) Wanted.none rfl rfl ?_
          refine T.pv (PV.move rfl) Wanted.none rfl rfl ?_
          refine T.pv (PV.move rfl) (Wanted.guard rfl rfl rfl) rfl rfl ?_
          refine T.pv (PV.geq rfl rfl) (Wanted.guard rfl rfl rfl) rfl rfl ?_
          refine T.pv (PV.move rfl) (Wanted.guard rfl rfl rfl) rfl rfl ?_
          refine T.splitD (d := 53) rfl (fun h2 => ?_) (fun h2 => ?_)
          · refine T.pv (PV.move rfl) (Wanted.guard rfl rfl rfl) rfl rfl ?_
            refine T.pv (PV.geq rfl rfl) (Wanted.guard rfl rfl rfl) rfl rfl ?_
            refine T.pv (PV.pickT rfl rfl rfl) (Wanted.guard rfl rfl rfl) rfl rfl ?_
            refine T.pv (PV.move rfl) (Wanted.guard rfl rfl rfl) rfl rfl ?_
            refine T.setT (d := 57) rfl (by omega) ?_
            refine T.pv (PV.move rfl) (Wanted.guard rfl rfl rfl) rfl rfl ?_
            refine T.pv (PV.lss rfl rfl) (Wanted.guard rfl rfl rfl) rfl rfl ?_
            refine T.pv (PV.pickT rfl rfl rfl) (Wanted.guard rfl rfl rfl) rfl rfl ?_
            refine T.pv (PV.pickF rfl rfl rfl) Wanted.none rfl rfl ?_
            refine T.opsNil ?_
            refine T.condF rfl (decide_eq_false (by omega)) ?_
            refine T.skip ?_
            refine T.seq ?_
            refine T.seq ?_
            refine T.region ?_
            refine T.pv (PV.move rfl) Wanted.none rfl rfl ?_
            refine T.callV Wanted.none rfl rfl (v1) ?_
            refine T.pv (PV.move rfl) Wanted.none rfl rfl ?_
            refine T.pv (PV.move rfl) (Wanted.guard rfl rfl rfl) rfl rfl ?_
            refine T.callV (Wanted.guard rfl rfl rfl) rfl rfl (v2) ?_
            refine T.pv (PV.pickT rfl rfl rfl) Wanted.none rfl rfl ?_
            refine T.pv (PV.move rfl) Wanted.none rfl rfl ?_
            refine T.pass (Unwanted.guard rfl rfl rfl) rfl rfl ?_
            refine T.pass (Unwanted.guard rfl rfl rfl) rfl rfl ?_
            refine T.pass (Unwanted.guard rfl rfl rfl) rfl rfl ?_
            refine T.pass (Unwanted.guard rfl rfl rfl) rfl rfl ?_
            refine T.pass (Unwanted.guard rfl rfl rfl) rfl rfl ?_
            refine T.pass (Unwanted.guard rfl rfl rfl) rfl rfl ?_
            refine T.pv (PV.pickF rfl rfl rfl) Wanted.none rfl rfl ?_
            refine T.opsNil ?_
            refine T.condF rfl rfl ?_
            refine T.skip ?_
            refine T.seq ?_
            refine T.region ?_
            refine T.callV Wanted.none rfl rfl (awake_fn H1) ?_
            refine T.pv (PV.assign rfl) Wanted.none rfl rfl ?_
            refine T.opsNil ?_
            (exact T.retF (Lv.fin (RV.tmp rfl rfl) rfl))
          · refine T.pass (Unwanted.guard rfl rfl rfl) rfl rfl ?_
            refine T.pass (Unwanted.guard rfl rfl rfl) rfl rfl ?_
            refine T.pv (PV.pickF rfl rfl rfl) (Wanted.guard rfl rfl rfl) rfl rfl ?_
            refine T.pv (PV.move rfl) (Wanted.guard rfl rfl rfl) rfl rfl ?_
            refine T.pass (Unwanted.guard rfl rfl rfl) rfl rfl ?_
            refine T.pass (Unwanted.guard rfl rfl rfl) rfl rfl ?_
            refine T.pv (PV.pickF rfl rfl rfl) (Wanted.guard rfl rfl rfl) rfl rfl ?_
            refine T.pv (PV.pickF rfl rfl rfl) Wanted.none rfl rfl ?_
            refine T.opsNil ?_
            refine T.condF rfl rfl ?_
            refine T.skip ?_
            refine T.seq ?_
            refine T.seq ?_
            refine T.region ?_
            refine T.pv (PV.move rfl) Wanted.none rfl rfl ?_
            refine T.callV Wanted.none rfl rfl (v1) ?_
            refine T.pv (PV.move rfl) Wanted.none rfl rfl ?_
            refine T.pv (PV.move rfl) (Wanted.guard rfl rfl rfl) rfl rfl ?_
            refine T.callV (Wanted.guard rfl rfl rfl) rfl rfl (v2) ?_
            refine T.pv (PV.pickT rfl rfl rfl) Wanted.none rfl rfl ?_
            refine T.pv (PV.move rfl) Wanted.none rfl rfl ?_
            refine T.pass (Unwanted.guard rfl rfl rfl) rfl rfl ?_
            refine T.pass (Unwanted.guard rfl rfl rfl) rfl rfl ?_
            refine T.pass (Unwanted.guard rfl rfl rfl) rfl rfl ?_
            refine T.pass (Unwanted.guard rfl rfl rfl) rfl rfl ?_
            refine T.pass (Unwanted.guard rfl rfl rfl) rfl rfl ?_
            refine T.pass (Unwanted.guard rfl rfl rfl) rfl rfl ?_
            refine T.pv (PV.pickF rfl rfl rfl) Wanted.none rfl rfl ?_
            refine T.opsNil ?_
            refine T.condF rfl rfl ?_
            refine T.skip ?_
            refine T.seq ?_
            refine T.region ?_
            refine T.callV Wanted.none rfl rfl (awake_fn H1) ?_
            refine T.pv (PV.assign rfl) Wanted.none rfl rfl ?_
            refine T.opsNil ?_
            (exact T.retF (Lv.fin (RV.tmp rfl rfl) rfl))
      · refine T.pass (Unwanted.guard rfl rfl rfl) rfl rfl ?_
        refine T.pass (Unwanted.guard rfl rfl rfl) rfl rfl ?_
        refine T.pv (PV.pickF rfl rfl rfl) (Wanted.guard rfl rfl (by assumption)) rfl rfl ?_
        refine T.pv (PV.move rfl) (Wanted.guard rfl rfl (by assumption)) rfl rfl ?_
        refine T.pass (Unwanted.guard rfl rfl rfl) rfl rfl ?_
        refine T.pass (Unwanted.guard rfl rfl rfl) rfl rfl ?_
        refine T.pv (PV.pickF rfl rfl rfl) (Wanted.guard rfl rfl (by assumption)) rfl rfl ?_
        refine T.pv (PV.pickF rfl (by assumption) rfl) Wanted.none rfl rfl ?_
        refine T.pv (PV.move rfl) Wanted.none rfl rfl ?_
        refine T.pv (PV.move rfl) (Wanted.guard rfl rfl rfl) rfl rfl ?_
        refine T.pv (PV.geq rfl rfl) (Wanted.guard rfl rfl rfl) rfl rfl ?_
        refine T.pv (PV.move rfl) (Wanted.guard rfl rfl rfl) rfl rfl ?_
        refine T.setT (d := 53) rfl (by omega) ?_
        refine T.pv (PV.move rfl) (Wanted.guard rfl rfl rfl) rfl rfl ?_
        refine T.pv (PV.geq rfl rfl) (Wanted.guard rfl rfl rfl) rfl rfl ?_
        refine T.pv (PV.pickT rfl rfl rfl) (Wanted.guard rfl rfl rfl) rfl rfl ?_
        refine T.pv (PV.move rfl) (Wanted.guard rfl rfl rfl) rfl rfl ?_
        refine T.splitD (d := 57) rfl (fun h1 => ?_) (fun h1 => ?_)
        · refine T.pv (PV.move rfl) (Wanted.guard rfl rfl rfl) rfl rfl ?_
          refine T.pv (PV.lss rfl rfl) (Wanted.guard rfl rfl rfl) rfl rfl ?_
          refine T.pv (PV.pickT rfl rfl rfl) (Wanted.guard rfl rfl rfl) rfl rfl ?_
          refine T.pv (PV.pickF rfl rfl rfl) Wanted.none rfl rfl ?_
          refine T.opsNil ?_
          refine T.condF rfl (decide_eq_false (by omega)) ?_
          refine T.skip ?_
          refine T.seq ?_
          refine T.seq ?_
          refine T.region ?_
          refine T.pv (PV.move rfl) Wanted.none rfl rfl ?_
          refine T.callV Wanted.none rfl rfl (v1) ?_
          refine T.pv (PV.move rfl) Wanted.none rfl rfl ?_
          refine T.pv (PV.move rfl) (Wanted.guard rfl rfl rfl) rfl rfl ?_
          refine T.callV (Wanted.guard rfl rfl rfl) rfl rfl (v2) ?_
          refine T.pv (PV.pickT rfl rfl rfl) Wanted.none rfl rfl ?_
          refine T.pv (PV.move rfl) Wanted.none rfl rfl ?_
          refine T.pass (Unwanted.guard rfl rfl rfl) rfl rfl ?_
          refine T.pass (Unwanted.guard rfl rfl rfl) rfl rfl ?_
          refine T.pass (Unwanted.guard rfl rfl rfl) rfl rfl ?_
          refine T.pass (Unwanted.guard rfl rfl rfl) rfl rfl ?_
          refine T.pass (Unwanted.guard rfl rfl rfl) rfl rfl ?_
          refine T.pass (Unwanted.guard rfl rfl rfl) rfl rfl ?_
          refine T.pv (PV.pickF rfl rfl rfl) Wanted.none rfl rfl ?_
          refine T.opsNil ?_
          refine T.condF rfl rfl ?_
          refine T.skip ?_
          refine T.seq ?_
          refine T.region ?_
          refine T.callV Wanted.none rfl rfl (awake_fn H1) ?_
          refine T.pv (PV.assign rfl) Wanted.none rfl rfl ?_
          refine T.opsNil ?_
          (exact T.retF (Lv.fin (RV.tmp rfl rfl) rfl))
        · refine T.pass (Unwanted.guard rfl rfl rfl) rfl rfl ?_
          refine T.pass (Unwanted.guard rfl rfl rfl) rfl rfl ?_
          refine T.pv (PV.pickF rfl rfl rfl) (Wanted.guard rfl rfl rfl) rfl rfl ?_
          refine T.pv (PV.pickF rfl rfl rfl) Wanted.none rfl rfl ?_
          refine T.opsNil ?_
          refine T.condF rfl rfl ?_
          refine T.skip ?_
          refine T.seq ?_
          refine T.seq ?_
          refine T.region ?_
          refine T.pv (PV.move rfl) Wanted.none rfl rfl ?_
          refine T.callV Wanted.none rfl rfl (v1) ?_
          refine T.pv (PV.move rfl) Wanted.none rfl rfl ?_
          refine T.pv (PV.move rfl) (Wanted.guard rfl rfl rfl) rfl rfl ?_
          refine T.callV (Wanted.guard rfl rfl rfl) rfl rfl (v2) ?_
          refine T.pv (PV.pickT rfl rfl rfl) Wanted.none rfl rfl ?_
          refine T.pv (PV.move rfl) Wanted.none rfl rfl ?_
          refine T.pass (Unwanted.guard rfl rfl rfl) rfl rfl ?_
          refine T.pass (Unwanted.guard rfl rfl rfl) rfl rfl ?_
          refine T.pass (Unwanted.guard rfl rfl rfl) rfl rfl ?_
          refine T.pass (Unwanted.guard rfl rfl rfl) rfl rfl ?_
          refine T.pass (Unwanted.guard rfl rfl rfl) rfl rfl ?_
          refine T.pass (Unwanted.guard rfl rfl rfl) rfl rfl ?_
          refine T.pv (PV.pickF rfl rfl rfl) Wanted.none rfl rfl ?_
          refine T.opsNil ?_
          refine T.condF rfl rfl ?_
          refine T.skip ?_
          refine T.seq ?_
          refine T.region ?_
          refine T.callV Wanted.none rfl rfl (awake_fn H1) ?_
          refine T.pv (PV.assign rfl) Wanted.none rfl rfl ?_
          refine T.opsNil ?_
          (exact T.retF (Lv.fin (RV.tmp rfl rfl) rfl))
    | true =>
      have g3 : (decide (x < 0) != Op.bytesLess a.data.toList b.data.toList) = false := by rw [e2 hva hvb]; simp
      rw [hva] at v1
      rw [hvb] at v2
      clear e2
      refine T.skip ?_
      refine T.seq ?_
      refine T.region ?_
      refine T.pv (PV.move rfl) Wanted.none rfl rfl ?_
      refine T.pv (PV.move rfl) Wanted.none rfl rfl ?_
      refine T.callV Wanted.none rfl rfl (c1) ?_
      refine T.pv (PV.move rfl) Wanted.none rfl rfl ?_
      refine T.pv (PV.move rfl) Wanted.none rfl rfl ?_
      refine T.callV Wanted.none rfl rfl (c2) ?_
      refine T.pv (PV.move rfl) Wanted.none rfl rfl ?_
      refine T.pv (PV.move rfl) Wanted.none rfl rfl ?_
      refine T.callV Wanted.none rfl rfl (c3) ?_
      refine T.pv (PV.assign rfl) Wanted.none rfl rfl ?_
      refine T.pv (PV.assign rfl) Wanted.none rfl rfl ?_
      refine T.pv (PV.assign rfl) Wanted.none rfl rfl ?_
      refine T.opsNil ?_
      refine T.seq ?_
      refine T.seq ?_
      refine T.region ?_
      refine T.pv (PV.move rfl) Wanted.none rfl rfl ?_
      refine T.pv (PV.move rfl) Wanted.none rfl rfl ?_
      refine T.callV Wanted.none rfl rfl (c4) ?_
      refine T.pv (PV.move rfl) Wanted.none rfl rfl ?_
      refine T.pv (PV.neg rfl (by omega)) Wanted.none rfl rfl ?_
      refine T.pv (PV.neq rfl rfl) Wanted.none rfl rfl ?_
      refine T.pv (PV.move rfl) Wanted.none rfl rfl ?_
      refine T.pv (PV.move rfl) (Wanted.guard rfl rfl (by assumption)) rfl rfl ?_
      refine T.pv (PV.eql rfl rfl) (Wanted.guard rfl rfl (by assumption)) rfl rfl ?_
      refine T.pv (PV.move rfl) (Wanted.guard rfl rfl (by assumption)) rfl rfl ?_
      refine T.pv (PV.move rfl) (Wanted.guard rfl rfl (by assumption)) rfl rfl ?_
      refine T.pv (PV.seql rfl rfl) (Wanted.guard rfl rfl (by assumption)) rfl rfl ?_
      refine T.pv (PV.bneq rfl rfl) (Wanted.guard rfl rfl (by assumption)) rfl rfl ?_
      refine T.pv (PV.pickF rfl (by assumption) rfl) Wanted.none rfl rfl ?_
      refine T.pv (PV.move rfl) Wanted.none rfl rfl ?_
      refine T.pv (PV.move rfl) (Wanted.guard rfl rfl (by assumption)) rfl rfl ?_
      refine T.pv (PV.leq rfl rfl) (Wanted.guard rfl rfl (by assumption)) rfl rfl ?_
      refine T.pv (PV.move rfl) (Wanted.guard rfl rfl (by assumption)) rfl rfl ?_
      refine T.splitD (d := 41) rfl (fun h0 => ?_) (fun h0 => ?_)
      · refine T.pv (PV.move rfl) (Wanted.guard rfl rfl rfl) rfl rfl ?_
        refine T.pv (PV.leq rfl rfl) (Wanted.guard rfl rfl rfl) rfl rfl ?_
        refine T.pv (PV.pickT rfl rfl rfl) (Wanted.guard rfl rfl (by assumption)) rfl rfl ?_
        refine T.pv (PV.move rfl) (Wanted.guard rfl rfl (by assumption)) rfl rfl ?_
        refine T.splitD (d := 45) rfl (fun h1 => ?_) (fun h1 => ?_)
        · refine T.pv (PV.move rfl) (Wanted.guard rfl rfl rfl) rfl rfl ?_
          refine T.pv (PV.gtr rfl rfl) (Wanted.guard rfl rfl rfl) rfl rfl ?_
          refine T.pv (PV.pickT rfl rfl rfl) (Wanted.guard rfl rfl (by assumption)) rfl rfl ?_
          refine T.pv (PV.pickF rfl (by assumption) rfl) Wanted.none rfl rfl ?_
          refine T.pv (PV.move rfl) Wanted.none rfl rfl ?_
          refine T.setF (d := 50) rfl (by omega) ?_
          refine T.pv (PV.move rfl) (Wanted.guard rfl rfl rfl) rfl rfl ?_
          refine T.pv (PV.geq rfl rfl) (Wanted.guard rfl rfl rfl) rfl rfl ?_
          refine T.pv (PV.move rfl) (Wanted.guard rfl rfl rfl) rfl rfl ?_
          refine T.splitD (d := 53) rfl (fun h2 => ?_) (fun h2 => ?_)
          · refine T.pv (PV.move rfl) (Wanted.guard rfl rfl rfl) rfl rfl ?_
            refine T.pv (PV.geq rfl rfl) (Wanted.guard rfl rfl rfl) rfl rfl ?_
            refine T.pv (PV.pickT rfl rfl rfl) (Wanted.guard rfl rfl rfl) rfl rfl ?_
            refine T.pv (PV.move rfl) (Wanted.guard rfl rfl rfl) rfl rfl ?_
            refine T.splitD (d := 57) rfl (fun h3 => ?_) (fun h3 => ?_)
            · refine T.pv (PV.move rfl) (Wanted.guard rfl rfl rfl) rfl rfl ?_
              refine T.pv (PV.lss rfl rfl) (Wanted.guard rfl rfl rfl) rfl rfl ?_
              refine T.pv (PV.pickT rfl rfl rfl) (Wanted.guard rfl rfl rfl) rfl rfl ?_
              refine T.pv (PV.pickF rfl rfl rfl) Wanted.none rfl rfl ?_
              refine T.opsNil ?_
              refine T.condF rfl (decide_eq_false (by omega)) ?_
              refine T.skip ?_
              refine T.seq ?_
              refine T.seq ?_
              refine T.region ?_
              refine T.pv (PV.move rfl) Wanted.none rfl rfl ?_
              refine T.callV Wanted.none rfl rfl (v1) ?_
              refine T.pv (PV.move rfl) Wanted.none rfl rfl ?_
              refine T.pv (PV.move rfl) (Wanted.guard rfl rfl rfl) rfl rfl ?_
              refine T.callV (Wanted.guard rfl rfl rfl) rfl rfl (v2) ?_
              refine T.pv (PV.pickT rfl rfl rfl) Wanted.none rfl rfl ?_
              refine T.pv (PV.move rfl) Wanted.none rfl rfl ?_
              refine T.pv (PV.move rfl) (Wanted.guard rfl rfl rfl) rfl rfl ?_
              refine T.pv (PV.lss rfl rfl) (Wanted.guard rfl rfl rfl) rfl rfl ?_
              refine T.pv (PV.move rfl) (Wanted.guard rfl rfl rfl) rfl rfl ?_
              refine T.pv (PV.move rfl) (Wanted.guard rfl rfl rfl) rfl rfl ?_
              refine T.pv (PV.slss rfl rfl) (Wanted.guard rfl rfl rfl) rfl rfl ?_
              refine T.pv (PV.bneq rfl rfl) (Wanted.guard rfl rfl rfl) rfl rfl ?_
              refine T.pv (PV.pickT rfl rfl rfl) Wanted.none rfl rfl ?_
              refine T.opsNil ?_
              refine T.condF rfl (by assumption) ?_
              refine T.skip ?_
              refine T.seq ?_
              refine T.region ?_
              refine T.callV Wanted.none rfl rfl (awake_fn H1) ?_
              refine T.pv (PV.assign rfl) Wanted.none rfl rfl ?_
              refine T.opsNil ?_
              (exact T.retF (Lv.fin (RV.tmp rfl rfl) rfl))
            · refine T.pass (Unwanted.guard rfl rfl rfl) rfl rfl ?_
              refine T.pass (Unwanted.guard rfl rfl rfl) rfl rfl ?_
              refine T.pv (PV.pickF rfl rfl rfl) (Wanted.guard rfl rfl rfl) rfl rfl ?_
              refine T.pv (PV.pickF rfl rfl rfl) Wanted.none rfl rfl ?_
              refine T.opsNil ?_
              refine T.condF rfl rfl ?_
              refine T.skip ?_
              refine T.seq ?_
              refine T.seq ?_
              refine T.region ?_
              refine T.pv (PV.move rfl) Wanted.none rfl rfl ?_
              refine T.callV Wanted.none rfl rfl (v1) ?_
              refine T.pv (PV.move rfl) Wanted.none rfl rfl ?_
              refine T.pv (PV.move rfl) (Wanted.guard rfl rfl rfl) rfl rfl ?_
              refine T.callV (Wanted.guard rfl rfl rfl) rfl rfl (v2) ?_
              refine T.pv (PV.pickT rfl rfl rfl) Wanted.none rfl rfl ?_
              refine T.pv (PV.move rfl) Wanted.none rfl rfl ?_
              refine T.pv (PV.move rfl) (Wanted.guard rfl rfl rfl) rfl rfl ?_
              refine T.pv (PV.lss rfl rfl) (Wanted.guard rfl rfl rfl) rfl rfl ?_
              refine T.pv (PV.move rfl) (Wanted.guard rfl rfl rfl) rfl rfl ?_
              refine T.pv (PV.move rfl) (Wanted.guard rfl rfl rfl) rfl rfl ?_
              refine T.pv (PV.slss rfl rfl) (Wanted.guard rfl rfl rfl) rfl rfl ?_
              refine T.pv (PV.bneq rfl rfl) (Wanted.guard rfl rfl rfl) rfl rfl ?_
              refine T.pv (PV.pickT rfl rfl rfl) Wanted.none rfl rfl ?_
              refine T.opsNil ?_
              refine T.condF rfl (by assumption) ?_
              refine T.skip ?_
              refine T.seq ?_
              refine T.region ?_
              refine T.callV Wanted.none rfl rfl (awake_fn H1) ?_
              refine T.pv (PV.assign rfl) Wanted.none rfl rfl ?_
              refine T.opsNil ?_
              (exact T.retF (Lv.fin (RV.tmp rfl rfl) rfl))
          · refine T.pass (Unwanted.guard rfl rfl rfl) rfl rfl ?_
            refine T.pass (Unwanted.guard rfl rfl rfl) rfl rfl ?_
            refine T.pv (PV.pickF rfl rfl rfl) (Wanted.guard rfl rfl rfl) rfl rfl ?_
            refine T.pv (PV.move rfl) (Wanted.guard rfl rfl rfl) rfl rfl ?_
            refine T.pass (Unwanted.guard rfl rfl rfl) rfl rfl ?_
            refine T.pass (Unwanted.guard rfl rfl rfl) rfl rfl ?_
            refine T.pv (PV.pickF rfl rfl rfl) (Wanted.guard rfl rfl rfl) rfl rfl ?_
            refine T.pv (PV.pickF rfl rfl rfl) Wanted.none rfl rfl ?_
            refine T.opsNil ?_
            refine T.condF rfl rfl ?_
            refine T.skip ?_
            refine T.seq ?_
            refine T.seq ?_
            refine T.region ?_
            refine T.pv (PV.move rfl) Wanted.none rfl rfl ?_
            refine T.callV Wanted.none rfl rfl (v1) ?_
            refine T.pv (PV.move rfl) Wanted.none rfl rfl ?_
            refine T.pv (PV.move rfl) (Wanted.guard rfl rfl rfl) rfl rfl ?_
            refine T.callV (Wanted.guard rfl rfl rfl) rfl rfl (v2) ?_
            refine T.pv (PV.pickT rfl rfl rfl) Wanted.none rfl rfl ?_
            refine T.pv (PV.move rfl) Wanted.none rfl rfl ?_
            refine T.pv (PV.move rfl) (Wanted.guard rfl rfl rfl) rfl rfl ?_
            refine T.pv (PV.lss rfl rfl) (Wanted.guard rfl rfl rfl) rfl rfl ?_
            refine T.pv (PV.move rfl) (Wanted.guard rfl rfl rfl) rfl rfl ?_
            refine T.pv (PV.move rfl) (Wanted.guard rfl rfl rfl) rfl rfl ?_
            refine T.pv (PV.slss rfl rfl) (Wanted.guard rfl rfl rfl) rfl rfl ?_
            refine T.pv (PV.bneq rfl rfl) (Wanted.guard rfl rfl rfl) rfl rfl ?_
            refine T.pv (PV.pickT rfl rfl rfl) Wanted.none rfl rfl ?_
            refine T.opsNil ?_
            refine T.condF rfl (by assumption) ?_
            refine T.skip ?_
            refine T.seq ?_
            refine T.region ?_
            refine T.callV Wanted.none rfl rfl (awake_fn H1) ?_
            refine T.pv (PV.assign rfl) Wanted.none rfl rfl ?_
            refine T.opsNil ?_
            (exact T.retF (Lv.fin (RV.tmp rfl rfl) rfl))
        · refine T.pass (Unwanted.guard rfl rfl rfl) rfl rfl ?_
          refine T.pass (Unwanted.guard rfl rfl rfl) rfl rfl ?_
          refine T.pv (PV.pickF rfl rfl rfl) (Wanted.guard rfl rfl (by assumption)) rfl rfl ?_
          refine T.pv (PV.pickF rfl (by assumption) rfl) Wanted.none rfl rfl ?_
          refine T.pv (PV.move rfl) Wanted.none rfl rfl ?_
          refine T.pv (PV.move rfl) (Wanted.guard rfl rfl rfl) rfl rfl ?_
          refine T.pv (PV.geq rfl rfl) (Wanted.guard rfl rfl rfl) rfl rfl ?_
          refine T.pv (PV.move rfl) (Wanted.guard rfl rfl rfl) rfl rfl ?_
          refine T.splitD (d := 53) rfl (fun h2 => ?_) (fun h2 => ?_)
          · refine T.pv (PV.move rfl) (Wanted.guard rfl rfl rfl) rfl rfl ?_
            refine T.pv (PV.geq rfl rfl) (Wanted.guard rfl rfl rfl) rfl rfl ?_
            refine T.pv (PV.pickT rfl rfl rfl) (Wanted.guard rfl rfl rfl) rfl rfl ?_
            refine T.pv (PV.move rfl) (Wanted.guard rfl rfl rfl) rfl rfl ?_
            refine T.setT (d := 57) rfl (by omega) ?_
            refine T.pv (PV.move rfl) (Wanted.guard rfl rfl rfl) rfl rfl ?_
            refine T.pv (PV.lss rfl rfl) (Wanted.guard rfl rfl rfl) rfl rfl ?_
            refine T.pv (PV.pickT rfl rfl rfl) (Wanted.guard rfl rfl rfl) rfl rfl ?_
            refine T.pv (PV.pickF rfl rfl rfl) Wanted.none rfl rfl ?_
            refine T.opsNil ?_
            refine T.condF rfl (decide_eq_false (by omega)) ?_
            refine T.skip ?_
            refine T.seq ?_
            refine T.seq ?_
            refine T.region ?_
            refine T.pv (PV.move rfl) Wanted.none rfl rfl ?_
            refine T.callV Wanted.none rfl rfl (v1) ?_
            refine T.pv (PV.move rfl) Wanted.none rfl rfl ?_
            refine T.pv (PV.move rfl) (Wanted.guard rfl rfl rfl) rfl rfl ?_
            refine T.callV (Wanted.guard rfl rfl rfl) rfl rfl (v2) ?_
            refine T.pv (PV.pickT rfl rfl rfl) Wanted.none rfl rfl ?_
            refine T.pv (PV.move rfl) Wanted.none rfl rfl ?_
            refine T.pv (PV.move rfl) (Wanted.guard rfl rfl rfl) rfl rfl ?_
            refine T.pv (PV.lss rfl rfl) (Wanted.guard rfl rfl rfl) rfl rfl ?_
            refine T.pv (PV.move rfl) (Wanted.guard rfl rfl rfl) rfl rfl ?_
            refine T.pv (PV.move rfl) (Wanted.guard rfl rfl rfl) rfl rfl ?_
            refine T.pv (PV.slss rfl rfl) (Wanted.guard rfl rfl rfl) rfl rfl ?_
            refine T.pv (PV.bneq rfl rfl) (Wanted.guard rfl rfl rfl) rfl rfl ?_
            refine T.pv (PV.pickT rfl rfl rfl) Wanted.none rfl rfl ?_
            refine T.opsNil ?_
            refine T.condF rfl (by assumption) ?_
            refine T.skip ?_
            refine T.seq ?_
            refine T.region ?_
            refine T.callV Wanted.none rfl rfl (awake_fn H1) ?_
            refine T.pv (PV.assign rfl) Wanted.none rfl rfl ?_
            refine T.opsNil ?_
            (exact T.retF (Lv.fin (RV.tmp rfl rfl) rfl))
          · refine T.pass (Unwanted.guard rfl rfl rfl) rfl rfl ?_
            refine T.pass (Unwanted.guard rfl rfl rfl) rfl rfl ?_
            refine T.pv (PV.pickF rfl rfl rfl) (Wanted.guard rfl rfl rfl) rfl rfl ?_
            refine T.pv (PV.move rfl) (Wanted.guard rfl rfl rfl) rfl rfl ?_
            refine T.pass (Unwanted.guard rfl rfl rfl) rfl rfl ?_
            refine T.pass (Unwanted.guard rfl rfl rfl) rfl rfl ?_
            refine T.pv (PV.pickF rfl rfl rfl) (Wanted.guard rfl rfl rfl) rfl rfl ?_
            refine T.pv (PV.pickF rfl rfl rfl) Wanted.none rfl rfl ?_
            refine T.opsNil ?_
            refine T.condF rfl rfl ?_
            refine T.skip ?_
            refine T.seq ?_
            refine T.seq ?_
            refine T.region ?_
            refine T.pv (PV.move rfl) Wanted.none rfl rfl ?_
            refine T.callV Wanted.none rfl rfl (v1) ?_
            refine T.pv (PV.move rfl) Wanted.none rfl rfl ?_
            refine T.pv (PV.move rfl) (Wanted.guard rfl rfl rfl) rfl rfl ?_
            refine T.callV (Wanted.guard rfl rfl rfl) rfl rfl (v2) ?_
            refine T.pv (PV.pickT rfl rfl rfl) Wanted.none rfl rfl ?_
            refine T.pv (PV.move rfl) Wanted.none rfl rfl ?_
            refine T.pv (PV.move rfl) (Wanted.guard rfl rfl rfl) rfl rfl ?_
            refine T.pv (PV.lss rfl rfl) (Wanted.guard rfl rfl rfl) rfl rfl ?_
            refine T.pv (PV.move rfl) (Wanted.guard rfl rfl rfl) rfl rfl ?_
            refine T.pv (PV.move rfl) (Wanted.guard rfl rfl rfl) rfl rfl ?_
            refine T.pv (PV.slss rfl rfl) (Wanted.guard rfl rfl rfl) rfl rfl ?_
            refine T.pv (PV.bneq rfl rfl) (Wanted.guard rfl rfl rfl) rfl rfl ?_
            refine T.pv (PV.pickT rfl rfl rfl) Wanted.none rfl rfl ?_
            refine T.opsNil ?_
            refine T.condF rfl (by assumption) ?_
            refine T.skip ?_
            refine T.seq ?_
            refine T.region ?_
            refine T.callV Wanted.none rfl rfl (awake_fn H1) ?_
            refine T.pv (PV.assign rfl) Wanted.none rfl rfl ?_
            refine T.opsNil ?_
            (exact T.retF (Lv.fin (RV.tmp rfl rfl) rfl))
      · refine T.pass (Unwanted.guard rfl rfl rfl) rfl rfl ?_
        refine T.pass (Unwanted.guard rfl rfl rfl) rfl rfl ?_
        refine T.pv (PV.pickF rfl rfl rfl) (Wanted.guard rfl rfl (by assumption)) rfl rfl ?_
        refine T.pv (PV.move rfl) (Wanted.guard rfl rfl (by assumption)) rfl rfl ?_
        refine T.pass (Unwanted.guard rfl rfl rfl) rfl rfl ?_
        refine T.pass (Unwanted.guard rfl rfl rfl) rfl rfl ?_
        refine T.pv (PV.pickF rfl rfl rfl) (Wanted.guard rfl rfl (by assumption)) rfl rfl ?_
        refine T.pv (PV.pickF rfl (by assumption) rfl) Wanted.none rfl rfl ?_
        refine T.pv (PV.move rfl) Wanted.none rfl rfl ?_
        refine T.pv (PV.move rfl) (Wanted.guard rfl rfl rfl) rfl rfl ?_
        refine T.pv (PV.geq rfl rfl) (Wanted.guard rfl rfl rfl) rfl rfl ?_
        refine T.pv (PV.move rfl) (Wanted.guard rfl rfl rfl) rfl rfl ?_
        refine T.setT (d := 53) rfl (by omega) ?_
        refine T.pv (PV.move rfl) (Wanted.guard rfl rfl rfl) rfl rfl ?_
        refine T.pv (PV.geq rfl rfl) (Wanted.guard rfl rfl rfl) rfl rfl ?_
        refine T.pv (PV.pickT rfl rfl rfl) (Wanted.guard rfl rfl rfl) rfl rfl ?_
        refine T.pv (PV.move rfl) (Wanted.guard rfl rfl rfl) rfl rfl ?_
        refine T.splitD (d := 57) rfl (fun h1 => ?_) (fun h1 => ?_)
        · refine T.pv (PV.move rfl) (Wanted.guard rfl rfl rfl) rfl rfl ?_
          refine T.pv (PV.lss rfl rfl) (Wanted.guard rfl rfl rfl) rfl rfl ?_
          refine T.pv (PV.pickT rfl rfl rfl) (Wanted.guard rfl rfl rfl) rfl rfl ?_
          refine T.pv (PV.pickF rfl rfl rfl) Wanted.none rfl rfl ?_
          refine T.opsNil ?_
          refine T.condF rfl (decide_eq_false (by omega)) ?_
          refine T.skip ?_
          refine T.seq ?_
          refine T.seq ?_
          refine T.region ?_
          refine T.pv (PV.move rfl) Wanted.none rfl rfl ?_
          refine T.callV Wanted.none rfl rfl (v1) ?_
          refine T.pv (PV.move rfl) Wanted.none rfl rfl ?_
          refine T.pv (PV.move rfl) (Wanted.guard rfl rfl rfl) rfl rfl ?_
          refine T.callV (Wanted.guard rfl rfl rfl) rfl rfl (v2) ?_
          refine T.pv (PV.pickT rfl rfl rfl) Wanted.none rfl rfl ?_
          refine T.pv (PV.move rfl) Wanted.none rfl rfl ?_
          refine T.pv (PV.move rfl) (Wanted.guard rfl rfl rfl) rfl rfl ?_
          refine T.pv (PV.lss rfl rfl) (Wanted.guard rfl rfl rfl) rfl rfl ?_
          refine T.pv (PV.move rfl) (Wanted.guard rfl rfl rfl) rfl rfl ?_
          refine T.pv (PV.move rfl) (Wanted.guard rfl rfl rfl) rfl rfl ?_
          refine T.pv (PV.slss rfl rfl) (Wanted.guard rfl rfl rfl) rfl rfl ?_
          refine T.pv (PV.bneq rfl rfl) (Wanted.guard rfl rfl rfl) rfl rfl ?_
          refine T.pv (PV.pickT rfl rfl rfl) Wanted.none rfl rfl ?_
          refine T.opsNil ?_
          refine T.condF rfl (by assumption) ?_
          refine T.skip ?_
          refine T.seq ?_
          refine T.region ?_
          refine T.callV Wanted.none rfl rfl (awake_fn H1) ?_
          refine T.pv (PV.assign rfl) Wanted.none rfl rfl ?_
          refine T.opsNil ?_
          (exact T.retF (Lv.fin (RV.tmp rfl rfl) rfl))
        · refine T.pass (Unwanted.guard rfl rfl rfl) rfl rfl ?_
          refine T.pass (Unwanted.guard rfl rfl rfl) rfl rfl ?_
          refine T.pv (PV.pickF rfl rfl rfl) (Wanted.guard rfl rfl rfl) rfl rfl ?_
          refine T.pv (PV.pickF rfl rfl rfl) Wanted.none rfl rfl ?_
          refine T.opsNil ?_
          refine T.condF rfl rfl ?_
          refine T.skip ?_
          refine T.seq ?_
          refine T.seq ?_
          refine T.region ?_
          refine T.pv (PV.move rfl) Wanted.none rfl rfl ?_
          refine T.callV Wanted.none rfl rfl (v1) ?_
          refine T.pv (PV.move rfl) Wanted.none rfl rfl ?_
          refine T.pv (PV.move rfl) (Wanted.guard rfl rfl rfl) rfl rfl ?_
          refine T.callV (Wanted.guard rfl rfl rfl) rfl rfl (v2) ?_
          refine T.pv (PV.pickT rfl rfl rfl) Wanted.none rfl rfl ?_
          refine T.pv (PV.move rfl) Wanted.none rfl rfl ?_
          refine T.pv (PV.move rfl) (Wanted.guard rfl rfl rfl) rfl rfl ?_
          refine T.pv (PV.lss rfl rfl) (Wanted.guard rfl rfl rfl) rfl rfl ?_
          refine T.pv (PV.move rfl) (Wanted.guard rfl rfl rfl) rfl rfl ?_
          refine T.pv (PV.move rfl) (Wanted.guard rfl rfl rfl) rfl rfl ?_
          refine T.pv (PV.slss rfl rfl) (Wanted.guard rfl rfl rfl) rfl rfl ?_
          refine T.pv (PV.bneq rfl rfl) (Wanted.guard rfl rfl rfl) rfl rfl ?_
          refine T.pv (PV.pickT rfl rfl rfl) Wanted.none rfl rfl ?_
          refine T.opsNil ?_
          refine T.condF rfl (by assumption) ?_
          refine T.skip ?_
          refine T.seq ?_
          refine T.region ?_
          refine T.callV Wanted.none rfl rfl (awake_fn H1) ?_
          refine T.pv (PV.assign rfl) Wanted.none rfl rfl ?_
          refine T.opsNil ?_
          (exact T.retF (Lv.fin (RV.tmp rfl rfl) rfl))
end Go.Proofs.Yteanijikhogijaa
