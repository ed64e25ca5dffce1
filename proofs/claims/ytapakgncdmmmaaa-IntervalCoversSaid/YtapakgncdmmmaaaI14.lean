/- interval: the laws Orders, Limits. -/
import Derived.Test.YtapakgncdmmmaaaI13
namespace Go.Proofs.Ytapakgncdmmmaaa
open Go.RowKit

theorem turnL_len (l : List Sp) (k : Nat) : (turnL l k).length ≤ l.length + 1 := by
  unfold turnL
  rw [List.length_append, List.length_map, List.length_range, List.length_take]; omega
theorem turnL_mem (l : List Sp) (k : Nat) (x : Sp) : x ∈ turnL l k ↔ x ∈ l := by
  unfold turnL
  rw [List.mem_append, List.mem_map]
  constructor
  · rintro (⟨i, hi, rfl⟩ | h)
    · have hi := List.mem_range.1 hi
      have hm : (i + k) % l.length < l.length := Nat.mod_lt _ (by omega)
      rw [List.getElem?_eq_getElem hm]
      exact List.getElem_mem hm
    · exact List.mem_of_mem_take h
  · intro hx
    left
    obtain ⟨j, hj, rfl⟩ := List.mem_iff_getElem.1 hx
    have hr : k % l.length < l.length := Nat.mod_lt _ (by omega)
    refine ⟨(j + (l.length - k % l.length)) % l.length, List.mem_range.2 (Nat.mod_lt _ (by omega)), ?_⟩
    have e : ((j + (l.length - k % l.length)) % l.length + k) % l.length = j := by
      rw [Nat.mod_add_mod]
      have hk := Nat.div_add_mod k l.length
      have : j + (l.length - k % l.length) + k = j + l.length * (1 + k / l.length) := by rw [Nat.mul_add, Nat.mul_one]; omega
      rw [this, Nat.add_mul_mod_self_left, Nat.mod_eq_of_lt hj]
    rw [e, List.getElem?_eq_getElem hj]; rfl
theorem turn_norm (l : List Sp) (k : Nat) : normS (turnL l k) = normS l :=
  sorted_ext ltS_sto _ _ (normS_sorted _) (normS_sorted _) fun x => by rw [normS_mem, normS_mem, turnL_mem]
theorem turn_chk {l : List Sp} {k : Nat} (h : l.length ≤ 60) : chk1 (turnL l k) = chk1 l := by
  have := turnL_len l k
  have e1 : ¬ 4096 < (turnL l k).length := by omega
  have e2 : ¬ 4096 < l.length := by omega
  unfold chk1
  rw [if_neg e1, if_neg e2]
  have e : (turnL l k).all okS = l.all okS := by
    rw [Bool.eq_iff_iff, List.all_eq_true, List.all_eq_true]
    exact ⟨fun h x hx => h x ((turnL_mem l k x).2 hx), fun h x hx => h x ((turnL_mem l k x).1 hx)⟩
  rw [e]
theorem turn_chk2 {a b : List Sp} {k : Nat} (h : a.length ≤ 60) (h' : b.length ≤ 60) : chk2 (turnL a k) (turnL b k) = chk2 a b := by
  unfold chk2; rw [turn_chk h, turn_chk h']
set_option maxHeartbeats 2000000 in
theorem orders_fn (a b : List Sp) (turn : Int) (u v : Value) (H : Hp) (hu : SpL H u a) (hv : SpL H v b) (ha : a.length ≤ maxLen) (hb : b.length ≤ maxLen) (hm : ∀ t ∈ b, t.2 ≤ 9223372036854775807) : Fn Try.prog 8 #[u, v, .int .i64 turn] H (fun v _ => v = .bool true) := by
  obtain ⟨ada, capa, rfl⟩ := hu.len
  obtain ⟨adb, capb, rfl⟩ := hv.len
  refine Fn.of_T (vs := [.slice ada a.length capa, .slice adb b.length capb, .int .i64 turn]) Try.func8 rfl rfl fun w => ?_
  refine T.seq ?_
  refine T.region ?_
  refine T.pv (PV.assign rfl) Wanted.none rfl rfl ?_
  refine T.opsNil ?_
  refine T.seq ?_
  refine T.seq ?_
  refine T.region ?_
  refine T.pv (PV.move rfl) Wanted.none rfl rfl ?_
  refine T.pv (PV.move rfl) Wanted.none rfl rfl ?_
  (refine T.buildSlice Wanted.none rfl rfl (by repeat (first | exact FillAll.nil | (apply FillAll.cons; (first | exact CellsR.one rfl | exact CellsR.agg); exact rfl))) (by exact rfl) (by exact rfl) ?_; intro b23)
  refine T.freezeLit ?_
  intro H1 hle1 hH1
  have hu1 := hu.mono hle1
  have hv1 := hv.mono hle1
  have hg := long2 hH1 hu1 hv1 ha hb
  cases h60 : (decide (60 < a.length) || decide (60 < b.length)) with
  | true =>
    rw [h60] at hg
    refine T.callV Wanted.none rfl rfl (hg) ?_
    refine T.pv (PV.move rfl) Wanted.none rfl rfl ?_
    refine T.pass (Unwanted.guard rfl rfl rfl) rfl rfl ?_
    refine T.pass (Unwanted.guard rfl rfl rfl) rfl rfl ?_
    refine T.pv (PV.pickT rfl rfl rfl) Wanted.none rfl rfl ?_
    refine T.pv (PV.move rfl) Wanted.none rfl rfl ?_
    refine T.pass (Unwanted.guard rfl rfl rfl) rfl rfl ?_
    refine T.pass (Unwanted.guard rfl rfl rfl) rfl rfl ?_
    refine T.pv (PV.pickT rfl rfl rfl) Wanted.none rfl rfl ?_
    refine T.opsNil ?_
    refine T.condT rfl rfl ?_
    refine T.seq ?_
    refine T.region ?_
    refine T.pv (PV.assign rfl) Wanted.none rfl rfl ?_
    refine T.opsNil ?_
    exact T.retF (Lv.fin (RV.tmp rfl rfl) rfl)
  | false =>
    rw [h60] at hg
    have hla : a.length ≤ 60 := by
      have := (Bool.or_eq_false_iff.1 h60).1
      simpa using this
    have hlb : b.length ≤ 60 := by
      have := (Bool.or_eq_false_iff.1 h60).2
      simpa using this
    by_cases ht : turn < 0
    · refine T.callV Wanted.none rfl rfl (hg) ?_
      refine T.pv (PV.move rfl) Wanted.none rfl rfl ?_
      refine T.pv (PV.move rfl) (Wanted.guard rfl rfl rfl) rfl rfl ?_
      refine T.pv (PV.lss rfl rfl) (Wanted.guard rfl rfl rfl) rfl rfl ?_
      refine T.pv (PV.pickF rfl rfl rfl) Wanted.none rfl rfl ?_
      refine T.pv (PV.move rfl) Wanted.none rfl rfl ?_
      refine T.setT (d := 29) rfl (by omega) ?_
      refine T.pass (Unwanted.guard rfl rfl rfl) rfl rfl ?_
      refine T.pass (Unwanted.guard rfl rfl rfl) rfl rfl ?_
      refine T.pv (PV.pickT rfl rfl rfl) Wanted.none rfl rfl ?_
      refine T.opsNil ?_
      refine T.condT rfl rfl ?_
      refine T.seq ?_
      refine T.region ?_
      refine T.pv (PV.assign rfl) Wanted.none rfl rfl ?_
      refine T.opsNil ?_
      exact T.retF (Lv.fin (RV.tmp rfl rfl) rfl)
    · by_cases ht2 : 100 < turn
      · refine T.callV Wanted.none rfl rfl (hg) ?_
        refine T.pv (PV.move rfl) Wanted.none rfl rfl ?_
        refine T.pv (PV.move rfl) (Wanted.guard rfl rfl rfl) rfl rfl ?_
        refine T.pv (PV.lss rfl rfl) (Wanted.guard rfl rfl rfl) rfl rfl ?_
        refine T.pv (PV.pickF rfl rfl rfl) Wanted.none rfl rfl ?_
        refine T.pv (PV.move rfl) Wanted.none rfl rfl ?_
        refine T.setF (d := 29) rfl (by omega) ?_
        refine T.pv (PV.move rfl) (Wanted.guard rfl rfl rfl) rfl rfl ?_
        refine T.pv (PV.gtr rfl rfl) (Wanted.guard rfl rfl rfl) rfl rfl ?_
        refine T.pv (PV.pickF rfl rfl rfl) Wanted.none rfl rfl ?_
        refine T.opsNil ?_
        refine T.condT rfl (decide_eq_true (by omega)) ?_
        refine T.seq ?_
        refine T.region ?_
        refine T.pv (PV.assign rfl) Wanted.none rfl rfl ?_
        refine T.opsNil ?_
        exact T.retF (Lv.fin (RV.tmp rfl rfl) rfl)
      · obtain ⟨k, rfl⟩ : ∃ k : Nat, turn = k := ⟨turn.toNat, by omega⟩
        have hlx := turnL_len a k
        have hly := turnL_len b k
        have hmy : ∀ t ∈ turnL b k, t.2 ≤ 9223372036854775807 := fun t ht => hm t ((turnL_mem b k t).1 ht)
        refine T.callV Wanted.none rfl rfl (hg) ?_
        refine T.pv (PV.move rfl) Wanted.none rfl rfl ?_
        refine T.pv (PV.move rfl) (Wanted.guard rfl rfl rfl) rfl rfl ?_
        refine T.pv (PV.lss rfl rfl) (Wanted.guard rfl rfl rfl) rfl rfl ?_
        refine T.pv (PV.pickF rfl rfl rfl) Wanted.none rfl rfl ?_
        refine T.pv (PV.move rfl) Wanted.none rfl rfl ?_
        refine T.pv (PV.move rfl) (Wanted.guard rfl rfl rfl) rfl rfl ?_
        refine T.pv (PV.gtr rfl rfl) (Wanted.guard rfl rfl rfl) rfl rfl ?_
        refine T.pv (PV.pickF rfl rfl rfl) Wanted.none rfl rfl ?_
        refine T.opsNil ?_
        refine T.condF rfl (decide_eq_false (by omega)) ?_
        refine T.skip ?_
        refine T.seq ?_
        refine T.region ?_
        refine T.pv (PV.move rfl) Wanted.none rfl rfl ?_
        refine T.pv (PV.move rfl) Wanted.none rfl rfl ?_
        refine T.call Wanted.none rfl rfl (turned_fn a k _ H1 hu1 (by omega) (by omega)) ?_
        intro x H2 hle2 hx2
        have hu2 := hu1.mono hle2
        have hv2 := hv1.mono hle2
        refine T.pv (PV.move rfl) Wanted.none rfl rfl ?_
        refine T.pv (PV.move rfl) Wanted.none rfl rfl ?_
        refine T.call Wanted.none rfl rfl (turned_fn b k _ H2 hv2 (by omega) (by omega)) ?_
        intro y H3 hle3 hy3
        have hu3 := hu2.mono hle3
        have hv3 := hv2.mono hle3
        have hx3 := SlR.mono hx2 hle3
        refine T.pv (PV.assign rfl) Wanted.none rfl rfl ?_
        refine T.pv (PV.assign rfl) Wanted.none rfl rfl ?_
        refine T.opsNil ?_
        refine T.seq ?_
        refine T.region ?_
        refine T.pv (PV.move rfl) Wanted.none rfl rfl ?_
        refine T.call Wanted.none rfl rfl (normalize_fn a _ H3 hu3 ha) ?_
        rintro _ H4 hle4 ⟨r4, rfl, hr4⟩
        have hu4 := hu3.mono hle4
        have hv4 := hv3.mono hle4
        have hx4 := hx3.mono hle4
        have hy4 := SlR.mono hy3 hle4
        refine T.pv (PV.move rfl) Wanted.none rfl rfl ?_
        refine T.pv (PV.extract rfl rfl) Wanted.none rfl rfl ?_
        refine T.pv (PV.extract rfl rfl) Wanted.none rfl rfl ?_
        refine T.pv (PV.assign rfl) Wanted.none rfl rfl ?_
        refine T.pv (PV.assign rfl) Wanted.none rfl rfl ?_
        refine T.opsNil ?_
        refine T.seq ?_
        refine T.region ?_
        refine T.pv (PV.move rfl) Wanted.none rfl rfl ?_
        refine T.call Wanted.none rfl rfl (normalize_fn _ _ H4 hx4 (by unfold maxLen; omega)) ?_
        rintro _ H5 hle5 ⟨r5, rfl, hr5⟩
        rw [turn_norm, turn_chk hla] at hr5
        rw [turn_chk hla]
        have hu5 := hu4.mono hle5
        have hv5 := hv4.mono hle5
        have hx5 := hx4.mono hle5
        have hy5 := hy4.mono hle5
        refine T.pv (PV.move rfl) Wanted.none rfl rfl ?_
        refine T.pv (PV.extract rfl rfl) Wanted.none rfl rfl ?_
        refine T.pv (PV.extract rfl rfl) Wanted.none rfl rfl ?_
        refine T.pv (PV.assign rfl) Wanted.none rfl rfl ?_
        refine T.pv (PV.assign rfl) Wanted.none rfl rfl ?_
        refine T.opsNil ?_
        refine T.seq ?_
        refine T.region ?_
        refine T.pv (PV.move rfl) Wanted.none rfl rfl ?_
        refine T.pv (PV.move rfl) Wanted.none rfl rfl ?_
        refine T.call Wanted.none rfl rfl (within_fn a b _ _ H5 hu5 hv5 ha hb) ?_
        rintro _ H6 hle6 ⟨r6, rfl, hr6⟩
        have hu6 := hu5.mono hle6
        have hv6 := hv5.mono hle6
        have hx6 := hx5.mono hle6
        have hy6 := hy5.mono hle6
        refine T.pv (PV.move rfl) Wanted.none rfl rfl ?_
        refine T.pv (PV.extract rfl rfl) Wanted.none rfl rfl ?_
        refine T.pv (PV.extract rfl rfl) Wanted.none rfl rfl ?_
        refine T.pv (PV.assign rfl) Wanted.none rfl rfl ?_
        refine T.pv (PV.assign rfl) Wanted.none rfl rfl ?_
        refine T.opsNil ?_
        refine T.seq ?_
        refine T.region ?_
        refine T.pv (PV.move rfl) Wanted.none rfl rfl ?_
        refine T.pv (PV.move rfl) Wanted.none rfl rfl ?_
        refine T.call Wanted.none rfl rfl (within_fn _ _ _ _ H6 hx6 hy6 (by unfold maxLen; omega) (by unfold maxLen; omega)) ?_
        rintro _ H7 hle7 ⟨r7, rfl, hr7⟩
        rw [turn_norm, turn_norm, turn_chk2 hla hlb] at hr7
        rw [turn_chk2 hla hlb]
        have hu7 := hu6.mono hle7
        have hv7 := hv6.mono hle7
        have hx7 := hx6.mono hle7
        have hy7 := hy6.mono hle7
        refine T.pv (PV.move rfl) Wanted.none rfl rfl ?_
        refine T.pv (PV.extract rfl rfl) Wanted.none rfl rfl ?_
        refine T.pv (PV.extract rfl rfl) Wanted.none rfl rfl ?_
        refine T.pv (PV.assign rfl) Wanted.none rfl rfl ?_
        refine T.pv (PV.assign rfl) Wanted.none rfl rfl ?_
        refine T.opsNil ?_
        refine T.seq ?_
        refine T.region ?_
        refine T.pv (PV.move rfl) Wanted.none rfl rfl ?_
        refine T.pv (PV.move rfl) Wanted.none rfl rfl ?_
        refine T.call Wanted.none rfl rfl (containing_fn a b _ _ H7 hu7 hv7 ha hb hm) ?_
        rintro _ H8 hle8 ⟨r8, rfl, hr8⟩
        have hx8 := hx7.mono hle8
        have hy8 := hy7.mono hle8
        refine T.pv (PV.move rfl) Wanted.none rfl rfl ?_
        refine T.pv (PV.extract rfl rfl) Wanted.none rfl rfl ?_
        refine T.pv (PV.extract rfl rfl) Wanted.none rfl rfl ?_
        refine T.pv (PV.assign rfl) Wanted.none rfl rfl ?_
        refine T.pv (PV.assign rfl) Wanted.none rfl rfl ?_
        refine T.opsNil ?_
        refine T.seq ?_
        refine T.region ?_
        refine T.pv (PV.move rfl) Wanted.none rfl rfl ?_
        refine T.pv (PV.move rfl) Wanted.none rfl rfl ?_
        refine T.call Wanted.none rfl rfl (containing_fn _ _ _ _ H8 hx8 hy8 (by unfold maxLen; omega) (by unfold maxLen; omega) hmy) ?_
        rintro _ H9 hle9 ⟨r9, rfl, hr9⟩
        rw [turn_norm, turn_norm, turn_chk2 hla hlb] at hr9
        rw [turn_chk2 hla hlb]
        have hnl := normS_len a
        have hf1 := List.length_filter_le (inW (normS b)) (normS a)
        have hf2 := List.length_filter_le (inC (normS b)) (normS a)
        have s1 := same_eq _ _ _ H9 (((((hr4.mono hle5).mono hle6).mono hle7).mono hle8).mono hle9) ((((hr5.mono hle6).mono hle7).mono hle8).mono hle9) (by unfold maxLen; exact ite_len (by omega))
        have s2 := same_eq _ _ _ H9 (((hr6.mono hle7).mono hle8).mono hle9) ((hr7.mono hle8).mono hle9) (by unfold maxLen; exact ite_len (by omega))
        have s3 := same_eq _ _ _ H9 (hr8.mono hle9) hr9 (by unfold maxLen; exact ite_len (by omega))
        have hw := awake_fn H9
        refine T.pv (PV.move rfl) Wanted.none rfl rfl ?_
        refine T.pv (PV.extract rfl rfl) Wanted.none rfl rfl ?_
        refine T.pv (PV.extract rfl rfl) Wanted.none rfl rfl ?_
        refine T.pv (PV.assign rfl) Wanted.none rfl rfl ?_
        refine T.pv (PV.assign rfl) Wanted.none rfl rfl ?_
        refine T.opsNil ?_
        refine T.seq ?_
        refine T.region ?_
        refine T.pv (PV.move rfl) Wanted.none rfl rfl ?_
        refine T.pv (PV.move rfl) Wanted.none rfl rfl ?_
        refine T.pv (PV.eql rfl rfl) Wanted.none rfl rfl ?_
        refine T.pv (PV.move rfl) Wanted.none rfl rfl ?_
        refine T.setT (d := 76) rfl (by omega) ?_
        refine T.pv (PV.move rfl) (Wanted.guard rfl rfl rfl) rfl rfl ?_
        refine T.pv (PV.move rfl) (Wanted.guard rfl rfl rfl) rfl rfl ?_
        refine T.callV (Wanted.guard rfl rfl rfl) rfl rfl (s1) ?_
        refine T.pv (PV.pickT rfl rfl rfl) Wanted.none rfl rfl ?_
        refine T.pv (PV.move rfl) Wanted.none rfl rfl ?_
        refine T.pv (PV.move rfl) (Wanted.guard rfl rfl rfl) rfl rfl ?_
        refine T.pv (PV.move rfl) (Wanted.guard rfl rfl rfl) rfl rfl ?_
        refine T.pv (PV.eql rfl rfl) (Wanted.guard rfl rfl rfl) rfl rfl ?_
        refine T.pv (PV.pickT rfl rfl rfl) Wanted.none rfl rfl ?_
        refine T.pv (PV.move rfl) Wanted.none rfl rfl ?_
        refine T.setT (d := 86) rfl (by omega) ?_
        refine T.pv (PV.move rfl) (Wanted.guard rfl rfl rfl) rfl rfl ?_
        refine T.pv (PV.move rfl) (Wanted.guard rfl rfl rfl) rfl rfl ?_
        refine T.callV (Wanted.guard rfl rfl rfl) rfl rfl (s2) ?_
        refine T.pv (PV.pickT rfl rfl rfl) Wanted.none rfl rfl ?_
        refine T.pv (PV.move rfl) Wanted.none rfl rfl ?_
        refine T.pv (PV.move rfl) (Wanted.guard rfl rfl rfl) rfl rfl ?_
        refine T.pv (PV.move rfl) (Wanted.guard rfl rfl rfl) rfl rfl ?_
        refine T.pv (PV.eql rfl rfl) (Wanted.guard rfl rfl rfl) rfl rfl ?_
        refine T.pv (PV.pickT rfl rfl rfl) Wanted.none rfl rfl ?_
        refine T.pv (PV.move rfl) Wanted.none rfl rfl ?_
        refine T.setT (d := 96) rfl (by omega) ?_
        refine T.pv (PV.move rfl) (Wanted.guard rfl rfl rfl) rfl rfl ?_
        refine T.pv (PV.move rfl) (Wanted.guard rfl rfl rfl) rfl rfl ?_
        refine T.callV (Wanted.guard rfl rfl rfl) rfl rfl (s3) ?_
        refine T.pv (PV.pickT rfl rfl rfl) Wanted.none rfl rfl ?_
        refine T.pv (PV.move rfl) Wanted.none rfl rfl ?_
        refine T.callV (Wanted.guard rfl rfl rfl) rfl rfl (hw) ?_
        refine T.pv (PV.pickT rfl rfl rfl) Wanted.none rfl rfl ?_
        refine T.pv (PV.assign rfl) Wanted.none rfl rfl ?_
        refine T.opsNil ?_
        exact T.retF (Lv.fin (RV.tmp rfl rfl) rfl)

/-! ### Limits -/
theorem norm_rep (n : Nat) (s : Sp) (h : 0 < n) : normS (List.replicate n s) = [s] :=
  sorted_ext ltS_sto _ _ (normS_sorted _) (List.pairwise_singleton _ _) fun x => by rw [normS_mem, List.mem_replicate, List.mem_singleton]; exact ⟨fun h => h.2, fun e => ⟨by omega, e⟩⟩
theorem chk_rep_more (s : Sp) : chk1 (List.replicate 4097 s) = 2 := by unfold chk1; rw [if_pos (by rw [List.length_replicate]; omega)]
theorem chk_rep (s : Sp) : chk1 (List.replicate 4096 s) = if okS s then 0 else 8 := by
  unfold chk1
  rw [if_neg (by rw [List.length_replicate]; omega)]
  congr 1
  rw [List.all_replicate]; simp
theorem rep_set (n j : Nat) (s z : Sp) (h : j < n) : (List.replicate j s ++ List.replicate (n - j) z).set j s = List.replicate (j + 1) s ++ List.replicate (n - (j + 1)) z := by
  rw [List.set_append_right _ _ (by simp), List.length_replicate, Nat.sub_self, show n - j = (n - (j + 1)) + 1 by omega, List.replicate_succ, List.set_cons_zero, List.replicate_succ', List.append_assoc]
  rfl
theorem T.cut1 {P : Program} {X : Cx} {e : Env} {l : List (Nat × Obj)} {H : Hp} {D : List Deferred} {a : It} {k : List It} (e' : Env) (l' : List (Nat × Obj)) (K : T P X e' l' H D k)
    (h : (∀ e l, Env.Sub e' e → List.Sublist l' l → T P X e l H D k) → T P X e l H D (a :: k)) : T P X e l H D (a :: k) := h fun _ _ he hl => T.weak he hl K
set_option maxHeartbeats 2000000 in
theorem limits_fn (more : Bool) (s : Sp) (H : Hp) : Fn Try.prog 6 #[.bool more, spV s] H (fun v _ => v = .bool true) := by
  refine Fn.of_T (vs := [.bool more, spV s]) Try.func6 rfl rfl fun w => ?_
  unfold spV
  refine T.seq ?_
  refine T.region ?_
  (refine T.box Wanted.none rfl rfl (by first | exact CellsR.one rfl | exact CellsR.agg) ?_; intro b3)
  refine T.pv (PV.assign rfl) Wanted.none rfl rfl ?_
  refine T.opsNil ?_
  refine T.seq ?_
  refine T.region ?_
  refine T.pv (PV.assign rfl) Wanted.none rfl rfl ?_
  refine T.opsNil ?_
  refine T.seq ?_
  refine T.seq ?_
  generalize hn : (if more then 4097 else 4096 : Nat) = n
  have hn1 : n = 4096 ∨ n = 4097 := by cases more <;> simp at hn <;> omega
  refine T.cut2 [(5, .int .i64 (n : Int)), (3, .pointer (some ⟨b3, 0, none⟩)), (0, .bool more)] [(b3, .cells #[.int .i64 s.1, .int .i64 s.2] 23 (0, 0))] ?_ fun K => ?_
  rotate_left
  · cases more with
    | true =>
      obtain rfl : n = 4097 := by simpa using hn.symm
      refine T.region ?_
      refine T.pv (PV.move rfl) Wanted.none rfl rfl ?_
      refine T.opsNil ?_
      refine T.condT rfl rfl ?_
      refine T.region ?_
      refine T.pv (PV.move rfl) Wanted.none rfl rfl ?_
      refine T.pv (PV.add rfl rfl (by omega)) Wanted.none rfl rfl ?_
      refine T.pv (PV.assign rfl) Wanted.none rfl rfl ?_
      refine T.opsNil ?_
      exact K _ _ (by repeat (first | exact trivial | refine And.intro rfl ?_)) (by repeat (first | exact List.Sublist.slnil | exact List.nil_sublist _ | exact List.Sublist.refl _ | exact List.sublist_append_left _ [] | apply List.Sublist.cons_cons | apply List.Sublist.cons | refine List.Sublist.append_left ?_ _ | refine List.sublist_append_of_sublist_right ?_))
    | false =>
      obtain rfl : n = 4096 := by simpa using hn.symm
      refine T.region ?_
      refine T.pv (PV.move rfl) Wanted.none rfl rfl ?_
      refine T.opsNil ?_
      refine T.condF rfl rfl ?_
      refine T.skip ?_
      exact K _ _ (by repeat (first | exact trivial | refine And.intro rfl ?_)) (by repeat (first | exact List.Sublist.slnil | exact List.nil_sublist _ | exact List.Sublist.refl _ | exact List.sublist_append_left _ [] | apply List.Sublist.cons_cons | apply List.Sublist.cons | refine List.Sublist.append_left ?_ _ | refine List.sublist_append_of_sublist_right ?_))
  refine T.seq ?_
  refine T.region ?_
  refine T.pv (PV.move rfl) Wanted.none rfl rfl ?_
  refine T.makeSliceN (n := n) (z := [.int .i64 0, .int .i64 0]) Wanted.none rfl rfl rfl (by omega) ?_
  intro v0 lv0 hv0
  obtain ⟨b, cap, rfl⟩ := hv0.ptr (by omega)
  have hz : (List.replicate n [Value.int .i64 0, .int .i64 0]).flatten = (List.replicate n ((0, 0) : Sp)).flatMap encS := by
    rw [List.flatMap_replicate]; rfl
  rw [hz] at hv0
  obtain ⟨_, r1, r2, tl, rfl, r3⟩ := hv0.row (by
    intro h
    have := congrArg List.length h
    rw [flatS_len, List.length_replicate] at this
    simp at this; omega)
  refine T.pv (PV.assign rfl) Wanted.none rfl rfl ?_
  refine T.opsNil ?_
  refine T.seq ?_
  refine T.seq ?_
  refine T.region ?_
  refine T.pv (PV.move rfl) Wanted.none rfl rfl ?_
  refine T.pv (PV.lenSl rfl) Wanted.none rfl rfl ?_
  refine T.pv (PV.move rfl) Wanted.none rfl rfl ?_
  refine T.opsNil ?_
  refine T.block ?_
  refine T.loop (γ := Nat) (fun j => j ≤ n)
    (fun j => [(19, .int .i64 (j : Int)), (18, .int .i64 (n : Int)), (6, .slice (some ⟨b, 0, none⟩) n cap), (3, .pointer (some ⟨b3, 0, none⟩)), (0, .bool more)])
    (fun j => [(b, .cells ((List.replicate j s ++ List.replicate (n - j) (0, 0)).flatMap encS ++ tl).toArray 23 (0, 0)), (b3, .cells #[.int .i64 s.1, .int .i64 s.2] 23 (0, 0))]) (fun _ => H) (fun j => n - j) 0 (by omega) (by repeat (first | exact trivial | refine And.intro rfl ?_)) (by repeat (first | exact List.Sublist.slnil | exact List.nil_sublist _ | exact List.Sublist.refl _ | exact List.sublist_append_left _ [] | apply List.Sublist.cons_cons | apply List.Sublist.cons | refine List.Sublist.append_left ?_ _ | refine List.sublist_append_of_sublist_right ?_)) rfl ?_
  intro j hj0
  by_cases hj : j < n
  · refine T.seq ?_
    refine T.region ?_
    refine T.pv (PV.lss rfl rfl) Wanted.none rfl rfl ?_
    refine T.opsNil ?_
    refine T.seq ?_
    refine T.condT rfl (decide_eq_true (by omega)) ?_
    refine T.skip ?_
    refine T.seq ?_
    refine T.block ?_
    refine T.seq ?_
    refine T.region ?_
    refine T.pv (PV.move rfl) Wanted.none rfl rfl ?_
    refine T.pv (PV.assign rfl) Wanted.none rfl rfl ?_
    refine T.opsNil ?_
    refine T.region ?_
    refine T.pv (PV.move rfl) Wanted.none rfl rfl ?_
    refine T.pv (PV.move rfl) Wanted.none rfl rfl ?_
    refine T.pv (PV.loadAll rfl (by first | exact .fro (by assumption) | exact .own (by repeat (first | exact List.Mem.head _ | apply List.Mem.tail | apply List.mem_append_right))) (by exact rfl)) Wanted.none rfl rfl ?_
    refine T.pv (PV.indexAddr rfl rfl (by omega)) Wanted.none rfl rfl ?_
    refine T.storeA Wanted.none rfl rfl ⟨rfl, rfl, trivial⟩ (by exact rfl) Upd.head (splice_set s tl (by simp; omega)) ?_
    rw [rep_set n j s (0, 0) hj]
    refine T.opsNil ?_
    refine T.blkEnd ?_
    refine T.region ?_
    refine T.pv (PV.add rfl rfl (by omega)) Wanted.none rfl rfl ?_
    refine T.pv (PV.move rfl) Wanted.none rfl rfl ?_
    refine T.opsNil ?_
    exact T.next (j + 1) (by omega) (by omega) (by repeat (first | exact trivial | refine And.intro rfl ?_)) (by repeat (first | exact List.Sublist.slnil | exact List.nil_sublist _ | exact List.Sublist.refl _ | exact List.sublist_append_left _ [] | apply List.Sublist.cons_cons | apply List.Sublist.cons | refine List.Sublist.append_left ?_ _ | refine List.sublist_append_of_sublist_right ?_)) rfl
  · obtain rfl : j = n := by omega
    rw [Nat.sub_self, List.replicate_zero, List.append_nil]
    refine T.seq ?_
    refine T.region ?_
    refine T.pv (PV.lss rfl rfl) Wanted.none rfl rfl ?_
    refine T.opsNil ?_
    refine T.seq ?_
    refine T.condF rfl (decide_eq_false (by omega)) ?_
    refine T.exit rfl ?_
    refine T.seq ?_
    refine T.region ?_
    refine T.pv (PV.move rfl) Wanted.none rfl rfl ?_
    refine T.freezeLit ?_
    intro H1 hle1 hH1
    have hv1 : SpL H1 (.slice (some ⟨b, 0, none⟩) j cap) (List.replicate j s) := by
      show SlR H1 2 _ (List.replicate j s).length _
      have hfl : ((List.replicate j s).flatMap encS).length = j * 2 := by rw [flatS_len, List.length_replicate]
      rw [List.length_replicate]
      refine ⟨hfl, .inr ⟨b, 0, cap, _, _, _, rfl, hH1, ?_, r1⟩⟩
      rw [List.drop_zero, ← hfl, List.take_left]
    have hlen : (List.replicate j s).length ≤ maxLen := by rw [List.length_replicate]; unfold maxLen; omega
    refine T.call Wanted.none rfl rfl (normalize_fn _ _ H1 hv1 hlen) ?_
    rintro _ H2 hle2 ⟨r, rfl, hr⟩
    have hv2 := SlR.mono hv1 hle2
    refine T.pv (PV.move rfl) Wanted.none rfl rfl ?_
    refine T.pv (PV.extract rfl rfl) Wanted.none rfl rfl ?_
    refine T.pv (PV.extract rfl rfl) Wanted.none rfl rfl ?_
    refine T.pv (PV.assign rfl) Wanted.none rfl rfl ?_
    refine T.pv (PV.assign rfl) Wanted.none rfl rfl ?_
    refine T.opsNil ?_
    refine T.seq ?_
    refine T.region ?_
    refine T.pv (PV.move rfl) Wanted.none rfl rfl ?_
    refine T.call Wanted.none rfl rfl (coverC_fn _ _ H2 hv2 hlen) ?_
    rintro _ H3 hle3 ⟨q, rfl, hq⟩
    have hr3 := SlR.mono hr hle3
    have hw := awake_fn H3
    rw [norm_rep j s (by omega)] at hr3 hq
    cases more with
    | true =>
      obtain rfl : j = 4097 := by simpa using hn.symm
      rw [chk_rep_more, if_neg (by omega)] at hr3 hq
      rw [chk_rep_more]
      have hr3 : SlR H3 2 r 0 [] := hr3
      have hq : SlR H3 2 q 0 [] := hq
      obtain ⟨ad1, cap1, rfl⟩ := hr3.len
      obtain ⟨ad2, cap2, rfl⟩ := hq.len
      refine T.pv (PV.move rfl) Wanted.none rfl rfl ?_
      refine T.pv (PV.extract rfl rfl) Wanted.none rfl rfl ?_
      refine T.pv (PV.extract rfl rfl) Wanted.none rfl rfl ?_
      refine T.pv (PV.assign rfl) Wanted.none rfl rfl ?_
      refine T.pv (PV.assign rfl) Wanted.none rfl rfl ?_
      refine T.opsNil ?_
      refine T.seq ?_
      refine T.seq ?_
      refine T.region ?_
      refine T.pv (PV.move rfl) Wanted.none rfl rfl ?_
      refine T.opsNil ?_
      refine T.condT rfl rfl ?_
      refine T.seq ?_
      refine T.region ?_
      refine T.pv (PV.move rfl) Wanted.none rfl rfl ?_
      refine T.pv (PV.eql rfl rfl) Wanted.none rfl rfl ?_
      refine T.pv (PV.move rfl) Wanted.none rfl rfl ?_
      refine T.pv (PV.move rfl) (Wanted.guard rfl rfl rfl) rfl rfl ?_
      refine T.pv (PV.eql rfl rfl) (Wanted.guard rfl rfl rfl) rfl rfl ?_
      refine T.pv (PV.pickT rfl rfl rfl) Wanted.none rfl rfl ?_
      refine T.pv (PV.move rfl) Wanted.none rfl rfl ?_
      refine T.pv (PV.move rfl) (Wanted.guard rfl rfl rfl) rfl rfl ?_
      refine T.pv (PV.lenSl rfl) (Wanted.guard rfl rfl rfl) rfl rfl ?_
      refine T.pv (PV.move rfl) (Wanted.guard rfl rfl rfl) rfl rfl ?_
      refine T.pv (PV.lenSl rfl) (Wanted.guard rfl rfl rfl) rfl rfl ?_
      refine T.pv (PV.add rfl rfl (by omega)) (Wanted.guard rfl rfl rfl) rfl rfl ?_
      refine T.pv (PV.eql rfl rfl) (Wanted.guard rfl rfl rfl) rfl rfl ?_
      refine T.pv (PV.pickT rfl rfl rfl) Wanted.none rfl rfl ?_
      refine T.pv (PV.move rfl) Wanted.none rfl rfl ?_
      refine T.callV (Wanted.guard rfl rfl rfl) rfl rfl (hw) ?_
      refine T.pv (PV.pickT rfl rfl rfl) Wanted.none rfl rfl ?_
      refine T.pv (PV.assign rfl) Wanted.none rfl rfl ?_
      refine T.opsNil ?_
      exact T.retF (Lv.fin (RV.tmp rfl rfl) rfl)
    | false =>
      obtain rfl : j = 4096 := by simpa using hn.symm
      have hvf := refValid_fn s H3
      unfold spV at hvf
      rw [chk_rep] at hr3 hq ⊢
      cases hok : okS s with
      | true =>
        have hok' : decide (0 ≤ s.1 ∧ s.1 < s.2) = true := hok
        rw [hok'] at hvf
        rw [hok, if_pos rfl, if_pos rfl] at hr3 hq
        rw [if_pos rfl]
        have hcl : covL [s] = [s] := rfl
        rw [hcl] at hq
        have hr3 : SlR H3 2 r 1 ([s].flatMap encS) := hr3
        have hq : SlR H3 2 q 1 ([s].flatMap encS) := hq
        obtain ⟨ad1, cap1, rfl⟩ := hr3.len
        obtain ⟨ad2, cap2, rfl⟩ := hq.len
        obtain ⟨b1, off1, rfl, hs1⟩ := SlR.span (l := [s]) hr3 (i := 0) rfl
        obtain ⟨b2, off2, rfl, hs2⟩ := SlR.span (l := [s]) hq (i := 0) rfl
        have he := eqS_true (a := s) (b := s) ⟨rfl, rfl⟩
        refine T.pv (PV.move rfl) Wanted.none rfl rfl ?_
        refine T.pv (PV.extract rfl rfl) Wanted.none rfl rfl ?_
        refine T.pv (PV.extract rfl rfl) Wanted.none rfl rfl ?_
        refine T.pv (PV.assign rfl) Wanted.none rfl rfl ?_
        refine T.pv (PV.assign rfl) Wanted.none rfl rfl ?_
        refine T.opsNil ?_
        refine T.seq ?_
        refine T.seq ?_
        refine T.region ?_
        refine T.pv (PV.move rfl) Wanted.none rfl rfl ?_
        refine T.opsNil ?_
        refine T.condF rfl rfl ?_
        refine T.skip ?_
        refine T.seq ?_
        refine T.seq ?_
        refine T.region ?_
        refine T.pv (PV.loadAll rfl (by first | exact .fro (by assumption) | exact .own (by repeat (first | exact List.Mem.head _ | apply List.Mem.tail | apply List.mem_append_right))) (by exact rfl)) Wanted.none rfl rfl ?_
        refine T.callV Wanted.none rfl rfl (hvf) ?_
        refine T.pv (PV.not rfl) Wanted.none rfl rfl ?_
        refine T.opsNil ?_
        refine T.condF rfl rfl ?_
        refine T.skip ?_
        refine T.seq ?_
        refine T.regionQ (by kernel_rfl) ?_
        refine TQ.pv (PV.move rfl) Wanted.none rfl rfl ?_
        refine TQ.pv (PV.eql rfl rfl) Wanted.none rfl rfl ?_
        refine TQ.pv (PV.move rfl) Wanted.none rfl rfl ?_
        refine TQ.pv (PV.move rfl) (Wanted.guard rfl rfl rfl) rfl rfl ?_
        refine TQ.pv (PV.eql rfl rfl) (Wanted.guard rfl rfl rfl) rfl rfl ?_
        refine TQ.pv (PV.pickT rfl rfl rfl) Wanted.none rfl rfl ?_
        refine TQ.pv (PV.move rfl) Wanted.none rfl rfl ?_
        refine TQ.pv (PV.move rfl) (Wanted.guard rfl rfl rfl) rfl rfl ?_
        refine TQ.pv (PV.lenSl rfl) (Wanted.guard rfl rfl rfl) rfl rfl ?_
        refine TQ.pv (PV.eql rfl rfl) (Wanted.guard rfl rfl rfl) rfl rfl ?_
        refine TQ.pv (PV.pickT rfl rfl rfl) Wanted.none rfl rfl ?_
        refine TQ.pv (PV.move rfl) Wanted.none rfl rfl ?_
        refine TQ.pv (PV.move rfl) (Wanted.guard rfl rfl rfl) rfl rfl ?_
        refine TQ.pv (PV.lenSl rfl) (Wanted.guard rfl rfl rfl) rfl rfl ?_
        refine TQ.pv (PV.eql rfl rfl) (Wanted.guard rfl rfl rfl) rfl rfl ?_
        refine TQ.pv (PV.pickT rfl rfl rfl) Wanted.none rfl rfl ?_
        refine TQ.pv (PV.move rfl) Wanted.none rfl rfl ?_
        refine TQ.pv (PV.move rfl) (Wanted.guard rfl rfl rfl) rfl rfl ?_
        refine TQ.pv (PV.indexAddr rfl rfl (by omega)) (Wanted.guard rfl rfl rfl) rfl rfl ?_
        refine TQ.pv (PV.loadSubAll rfl (by assumption) (by exact rfl)) (Wanted.guard rfl rfl rfl) rfl rfl ?_
        refine TQ.pv (PV.loadAll rfl (by first | exact .fro (by assumption) | exact .own (by repeat (first | exact List.Mem.head _ | apply List.Mem.tail | apply List.mem_append_right))) (by exact rfl)) (Wanted.guard rfl rfl rfl) rfl rfl ?_
        refine TQ.pv (PV.aeql rfl rfl rfl rfl) (Wanted.guard rfl rfl rfl) rfl rfl ?_
        refine TQ.pv (PV.pickT rfl rfl rfl) Wanted.none rfl rfl ?_
        refine TQ.pv (PV.move rfl) Wanted.none rfl rfl ?_
        refine TQ.pv (PV.move rfl) (Wanted.guard rfl rfl (by assumption)) rfl rfl ?_
        refine TQ.pv (PV.indexAddr rfl rfl (by omega)) (Wanted.guard rfl rfl (by assumption)) rfl rfl ?_
        refine TQ.pv (PV.loadSubAll rfl (by assumption) (by exact rfl)) (Wanted.guard rfl rfl (by assumption)) rfl rfl ?_
        refine TQ.pv (PV.loadAll rfl (by first | exact .fro (by assumption) | exact .own (by repeat (first | exact List.Mem.head _ | apply List.Mem.tail | apply List.mem_append_right))) (by exact rfl)) (Wanted.guard rfl rfl (by assumption)) rfl rfl ?_
        refine TQ.pv (PV.aeql rfl rfl rfl rfl) (Wanted.guard rfl rfl (by assumption)) rfl rfl ?_
        refine TQ.pv (PV.pickT rfl (by assumption) rfl) Wanted.none rfl rfl ?_
        refine TQ.pv (PV.move rfl) Wanted.none rfl rfl ?_
        refine TQ.callV (Wanted.guard rfl rfl (by assumption)) rfl rfl (hw) ?_
        refine TQ.pv (PV.pickT rfl (by assumption) rfl) Wanted.none rfl rfl ?_
        refine TQ.pv (PV.assign rfl) Wanted.none rfl rfl ?_
        refine TQ.nil ?_
        exact T.retF (Lv.fin (RV.tmp rfl rfl) rfl)
      | false =>
        have hok' : decide (0 ≤ s.1 ∧ s.1 < s.2) = false := hok
        rw [hok'] at hvf
        rw [hok] at hr3 hq
        rw [if_neg (by simp)] at hr3 hq
        rw [if_neg (by simp)]
        have hr3 : SlR H3 2 r 0 [] := hr3
        have hq : SlR H3 2 q 0 [] := hq
        obtain ⟨ad1, cap1, rfl⟩ := hr3.len
        obtain ⟨ad2, cap2, rfl⟩ := hq.len
        refine T.pv (PV.move rfl) Wanted.none rfl rfl ?_
        refine T.pv (PV.extract rfl rfl) Wanted.none rfl rfl ?_
        refine T.pv (PV.extract rfl rfl) Wanted.none rfl rfl ?_
        refine T.pv (PV.assign rfl) Wanted.none rfl rfl ?_
        refine T.pv (PV.assign rfl) Wanted.none rfl rfl ?_
        refine T.opsNil ?_
        refine T.seq ?_
        refine T.seq ?_
        refine T.region ?_
        refine T.pv (PV.move rfl) Wanted.none rfl rfl ?_
        refine T.opsNil ?_
        refine T.condF rfl rfl ?_
        refine T.skip ?_
        refine T.seq ?_
        refine T.seq ?_
        refine T.region ?_
        refine T.pv (PV.loadAll rfl (by first | exact .fro (by assumption) | exact .own (by repeat (first | exact List.Mem.head _ | apply List.Mem.tail | apply List.mem_append_right))) (by exact rfl)) Wanted.none rfl rfl ?_
        refine T.callV Wanted.none rfl rfl (hvf) ?_
        refine T.pv (PV.not rfl) Wanted.none rfl rfl ?_
        refine T.opsNil ?_
        refine T.condT rfl rfl ?_
        refine T.seq ?_
        refine T.region ?_
        refine T.pv (PV.move rfl) Wanted.none rfl rfl ?_
        refine T.pv (PV.eql rfl rfl) Wanted.none rfl rfl ?_
        refine T.pv (PV.move rfl) Wanted.none rfl rfl ?_
        refine T.pv (PV.move rfl) (Wanted.guard rfl rfl rfl) rfl rfl ?_
        refine T.pv (PV.eql rfl rfl) (Wanted.guard rfl rfl rfl) rfl rfl ?_
        refine T.pv (PV.pickT rfl rfl rfl) Wanted.none rfl rfl ?_
        refine T.pv (PV.move rfl) Wanted.none rfl rfl ?_
        refine T.pv (PV.move rfl) (Wanted.guard rfl rfl rfl) rfl rfl ?_
        refine T.pv (PV.lenSl rfl) (Wanted.guard rfl rfl rfl) rfl rfl ?_
        refine T.pv (PV.move rfl) (Wanted.guard rfl rfl rfl) rfl rfl ?_
        refine T.pv (PV.lenSl rfl) (Wanted.guard rfl rfl rfl) rfl rfl ?_
        refine T.pv (PV.add rfl rfl (by omega)) (Wanted.guard rfl rfl rfl) rfl rfl ?_
        refine T.pv (PV.eql rfl rfl) (Wanted.guard rfl rfl rfl) rfl rfl ?_
        refine T.pv (PV.pickT rfl rfl rfl) Wanted.none rfl rfl ?_
        refine T.pv (PV.move rfl) Wanted.none rfl rfl ?_
        refine T.callV (Wanted.guard rfl rfl rfl) rfl rfl (hw) ?_
        refine T.pv (PV.pickT rfl rfl rfl) Wanted.none rfl rfl ?_
        refine T.pv (PV.assign rfl) Wanted.none rfl rfl ?_
        refine T.opsNil ?_
        exact T.retF (Lv.fin (RV.tmp rfl rfl) rfl)
end Go.Proofs.Ytapakgncdmmmaaa
