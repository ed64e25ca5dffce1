/- interval: the laws Normalizes, Chooses. -/
import Derived.Test.YtapakgncdmmmaaaI12
namespace Go.Proofs.Ytapakgncdmmmaaa
open Go.RowKit

theorem long1 {v : Value} {l : List Sp} {H : Hp} {b t : Nat} {fz : Nat × Nat} (h : H b = some (.cells ([v] ++ []).toArray t fz)) (hv : SpL H v l) (hl : l.length ≤ maxLen) : Fn Try.prog 14 #[.slice (some ⟨b, 0, none⟩) 1 1] H (fun u _ => u = .bool (decide (60 < l.length))) := by
  have := long_fn [(v, l)] _ H (list1_slr h) (by intro p hp; obtain rfl := List.mem_singleton.1 hp; exact hv) (by simp) (by intro p hp; obtain rfl := List.mem_singleton.1 hp; exact hl)
  have e : (([(v, l)].map (·.2)).any fun l => decide (60 < l.length)) = decide (60 < l.length) := by simp
  rw [e] at this
  exact this
theorem long2 {u v : Value} {a b : List Sp} {H : Hp} {bl t : Nat} {fz : Nat × Nat} (h : H bl = some (.cells ([u] ++ ([v] ++ [])).toArray t fz)) (hu : SpL H u a) (hv : SpL H v b) (ha : a.length ≤ maxLen) (hb : b.length ≤ maxLen) : Fn Try.prog 14 #[.slice (some ⟨bl, 0, none⟩) 2 2] H (fun u _ => u = .bool (decide (60 < a.length) || decide (60 < b.length))) := by
  have := long_fn [(u, a), (v, b)] (.slice (some ⟨bl, 0, none⟩) 2 2) H (SlR.lit (n := 2) h rfl)
    (by intro p hp; rcases List.mem_cons.1 hp with rfl | hp
        · exact hu
        · obtain rfl := List.mem_singleton.1 hp; exact hv) (by simp)
    (by intro p hp; rcases List.mem_cons.1 hp with rfl | hp
        · exact ha
        · obtain rfl := List.mem_singleton.1 hp; exact hb)
  have e : (([(u, a), (v, b)].map (·.2)).any fun l => decide (60 < l.length)) = (decide (60 < a.length) || decide (60 < b.length)) := by simp
  rw [e] at this
  exact this
theorem ite_len {c : Int} {m : List Sp} {n : Nat} (h : m.length ≤ n) : (if c = 0 then m else []).length ≤ n := by split <;> first | exact h | simp
theorem same_eq (L : List Sp) (u v : Value) (H : Hp) (hu : SpL H u L) (hv : SpL H v L) (hl : L.length ≤ maxLen) : Fn Try.prog 19 #[u, v] H (fun v _ => v = .bool true) := by
  have := same_fn L L u v H hu hv hl
  rwa [decide_eq_true rfl] at this
set_option maxHeartbeats 1000000 in
theorem normalizes_fn (l : List Sp) (v : Value) (H : Hp) (hv : SpL H v l) (hl : l.length ≤ maxLen) : Fn Try.prog 5 #[v] H (fun v _ => v = .bool true) := by
  obtain ⟨ad, cap, rfl⟩ := hv.len
  refine Fn.of_T (vs := [.slice ad l.length cap]) Try.func5 rfl rfl fun w => ?_
  refine T.seq ?_
  refine T.region ?_
  refine T.pv (PV.assign rfl) Wanted.none rfl rfl ?_
  refine T.opsNil ?_
  refine T.seq ?_
  refine T.seq ?_
  refine T.region ?_
  refine T.pv (PV.move rfl) Wanted.none rfl rfl ?_
  (refine T.buildSlice Wanted.none rfl rfl (by repeat (first | exact FillAll.nil | (apply FillAll.cons; (first | exact CellsR.one rfl | exact CellsR.agg); exact rfl))) (by exact rfl) (by exact rfl) ?_; intro b12)
  refine T.freezeLit ?_
  intro H1 hle1 hH1
  have hv1 := hv.mono hle1
  have hg := long1 hH1 hv1 hl
  by_cases h60 : 60 < l.length
  · rw [decide_eq_true h60] at hg
    refine T.callV Wanted.none rfl rfl (hg) ?_
    refine T.opsNil ?_
    refine T.condT rfl rfl ?_
    refine T.seq ?_
    refine T.region ?_
    refine T.pv (PV.assign rfl) Wanted.none rfl rfl ?_
    refine T.opsNil ?_
    exact T.retF (Lv.fin (RV.tmp rfl rfl) rfl)
  · rw [decide_eq_false h60] at hg
    refine T.callV Wanted.none rfl rfl (hg) ?_
    refine T.opsNil ?_
    refine T.condF rfl rfl ?_
    refine T.skip ?_
    refine T.seq ?_
    refine T.region ?_
    refine T.pv (PV.move rfl) Wanted.none rfl rfl ?_
    refine T.call Wanted.none rfl rfl (normalize_fn l _ H1 hv1 hl) ?_
    rintro _ H2 hle2 ⟨r, rfl, hr⟩
    refine T.pv (PV.move rfl) Wanted.none rfl rfl ?_
    refine T.pv (PV.extract rfl rfl) Wanted.none rfl rfl ?_
    refine T.pv (PV.extract rfl rfl) Wanted.none rfl rfl ?_
    refine T.pv (PV.assign rfl) Wanted.none rfl rfl ?_
    refine T.pv (PV.assign rfl) Wanted.none rfl rfl ?_
    refine T.opsNil ?_
    refine T.seq ?_
    refine T.region ?_
    refine T.pv (PV.move rfl) Wanted.none rfl rfl ?_
    refine T.call Wanted.none rfl rfl (refNormalize_fn l _ H2 (hv1.mono hle2) hl) ?_
    rintro _ H3 hle3 ⟨r2, rfl, hr2⟩
    rw [refNorm_eq] at hr2
    refine T.pv (PV.move rfl) Wanted.none rfl rfl ?_
    refine T.pv (PV.extract rfl rfl) Wanted.none rfl rfl ?_
    refine T.pv (PV.extract rfl rfl) Wanted.none rfl rfl ?_
    refine T.pv (PV.assign rfl) Wanted.none rfl rfl ?_
    refine T.pv (PV.assign rfl) Wanted.none rfl rfl ?_
    refine T.opsNil ?_
    refine T.seq ?_
    refine T.region ?_
    refine T.pv (PV.move rfl) Wanted.none rfl rfl ?_
    refine T.call Wanted.none rfl rfl (coverC_fn l _ H3 ((hv1.mono hle2).mono hle3) hl) ?_
    rintro _ H4 hle4 ⟨r3, rfl, hr3⟩
    refine T.pv (PV.move rfl) Wanted.none rfl rfl ?_
    refine T.pv (PV.extract rfl rfl) Wanted.none rfl rfl ?_
    refine T.pv (PV.extract rfl rfl) Wanted.none rfl rfl ?_
    refine T.pv (PV.assign rfl) Wanted.none rfl rfl ?_
    refine T.pv (PV.assign rfl) Wanted.none rfl rfl ?_
    refine T.opsNil ?_
    refine T.seq ?_
    refine T.region ?_
    refine T.pv (PV.move rfl) Wanted.none rfl rfl ?_
    refine T.call Wanted.none rfl rfl (refCover_fn l _ H4 (((hv1.mono hle2).mono hle3).mono hle4) hl) ?_
    rintro _ H5 hle5 ⟨r4, rfl, hr4⟩
    rw [refNorm_eq] at hr4
    have hnl := normS_len l
    have hcl := covL_len2 (normS l)
    have s1 := same_eq _ _ _ H5 (((hr.mono hle3).mono hle4).mono hle5) ((hr2.mono hle4).mono hle5) (by unfold maxLen; exact ite_len (by omega))
    have s2 := same_eq _ _ _ H5 (hr3.mono hle5) hr4 (by unfold maxLen; exact ite_len (by omega))
    have ha := awake_fn H5
    refine T.pv (PV.move rfl) Wanted.none rfl rfl ?_
    refine T.pv (PV.extract rfl rfl) Wanted.none rfl rfl ?_
    refine T.pv (PV.extract rfl rfl) Wanted.none rfl rfl ?_
    refine T.pv (PV.assign rfl) Wanted.none rfl rfl ?_
    refine T.pv (PV.assign rfl) Wanted.none rfl rfl ?_
    refine T.opsNil ?_
    refine T.seq ?_
    refine T.region ?_
    refine T.pv (PV.move rfl) Wanted.none rfl rfl ?_
    refine T.pv (PV.move rfl) Wanted.none rfl rfl ?_
    refine T.callV Wanted.none rfl rfl (s1) ?_
    refine T.pv (PV.move rfl) Wanted.none rfl rfl ?_
    refine T.pv (PV.move rfl) (Wanted.guard rfl rfl rfl) rfl rfl ?_
    refine T.pv (PV.move rfl) (Wanted.guard rfl rfl rfl) rfl rfl ?_
    refine T.pv (PV.eql rfl rfl) (Wanted.guard rfl rfl rfl) rfl rfl ?_
    refine T.pv (PV.pickT rfl rfl rfl) Wanted.none rfl rfl ?_
    refine T.pv (PV.move rfl) Wanted.none rfl rfl ?_
    refine T.setT (d := 42) rfl (by omega) ?_
    refine T.pv (PV.move rfl) (Wanted.guard rfl rfl rfl) rfl rfl ?_
    refine T.pv (PV.move rfl) (Wanted.guard rfl rfl rfl) rfl rfl ?_
    refine T.callV (Wanted.guard rfl rfl rfl) rfl rfl (s2) ?_
    refine T.pv (PV.pickT rfl rfl rfl) Wanted.none rfl rfl ?_
    refine T.pv (PV.move rfl) Wanted.none rfl rfl ?_
    refine T.pv (PV.move rfl) (Wanted.guard rfl rfl rfl) rfl rfl ?_
    refine T.pv (PV.move rfl) (Wanted.guard rfl rfl rfl) rfl rfl ?_
    refine T.pv (PV.eql rfl rfl) (Wanted.guard rfl rfl rfl) rfl rfl ?_
    refine T.pv (PV.pickT rfl rfl rfl) Wanted.none rfl rfl ?_
    refine T.pv (PV.move rfl) Wanted.none rfl rfl ?_
    refine T.setT (d := 52) rfl (by omega) ?_
    refine T.callV (Wanted.guard rfl rfl rfl) rfl rfl (ha) ?_
    refine T.pv (PV.pickT rfl rfl rfl) Wanted.none rfl rfl ?_
    refine T.pv (PV.assign rfl) Wanted.none rfl rfl ?_
    refine T.opsNil ?_
    exact T.retF (Lv.fin (RV.tmp rfl rfl) rfl)
theorem resS {c : Int} {L M : List Sp} {u : Value} {H : Hp} (h : ResL c L u H) (e : c = 0 → L = M) : ResL c M u H := by
  obtain ⟨r, rfl, hr⟩ := h
  refine ⟨r, rfl, ?_⟩
  by_cases hc : c = 0
  · rw [e hc] at hr; exact hr
  · rw [if_neg hc] at hr ⊢; exact hr
theorem chooseL_le (k : Int) (a b : List Sp) : (chooseL k a b).length ≤ a.length := by
  have := chooseL_len k b a []
  simpa [chooseL] using this
set_option maxHeartbeats 2000000 in
theorem chooses_fn (a b : List Sp) (u v : Value) (H : Hp) (hu : SpL H u a) (hv : SpL H v b) (ha : a.length ≤ maxLen) (hb : b.length ≤ maxLen) (hm : ∀ t ∈ b, t.2 ≤ 9223372036854775807) : Fn Try.prog 9 #[u, v] H (fun v _ => v = .bool true) := by
  obtain ⟨ada, capa, rfl⟩ := hu.len
  obtain ⟨adb, capb, rfl⟩ := hv.len
  refine Fn.of_T (vs := [.slice ada a.length capa, .slice adb b.length capb]) Try.func9 rfl rfl fun w => ?_
  refine T.seq ?_
  refine T.region ?_
  refine T.pv (PV.assign rfl) Wanted.none rfl rfl ?_
  refine T.opsNil ?_
  refine T.seq ?_
  refine T.seq ?_
  refine T.region ?_
  refine T.pv (PV.move rfl) Wanted.none rfl rfl ?_
  refine T.pv (PV.move rfl) Wanted.none rfl rfl ?_
  (refine T.buildSlice Wanted.none rfl rfl (by repeat (first | exact FillAll.nil | (apply FillAll.cons; (first | exact CellsR.one rfl | exact CellsR.agg); exact rfl))) (by exact rfl) (by exact rfl) ?_; intro b11)
  refine T.freezeLit ?_
  intro H1 hle1 hH1
  have hu1 := hu.mono hle1
  have hv1 := hv.mono hle1
  have hg := long2 hH1 hu1 hv1 ha hb
  cases h60 : (decide (60 < a.length) || decide (60 < b.length)) with
  | true =>
    rw [h60] at hg
    refine T.callV Wanted.none rfl rfl (hg) ?_
    refine T.opsNil ?_
    refine T.condT rfl rfl ?_
    refine T.seq ?_
    refine T.region ?_
    refine T.pv (PV.assign rfl) Wanted.none rfl rfl ?_
    refine T.opsNil ?_
    exact T.retF (Lv.fin (RV.tmp rfl rfl) rfl)
  | false =>
    rw [h60] at hg
    have hla : a.length ≤ 60 := by
      have := (Bool.or_eq_false_iff.1 h60).1
      simpa using this
    refine T.callV Wanted.none rfl rfl (hg) ?_
    refine T.opsNil ?_
    refine T.condF rfl rfl ?_
    refine T.skip ?_
    refine T.seq ?_
    refine T.region ?_
    refine T.pv (PV.move rfl) Wanted.none rfl rfl ?_
    refine T.pv (PV.move rfl) Wanted.none rfl rfl ?_
    refine T.call Wanted.none rfl rfl (within_fn a b _ _ H1 hu1 hv1 ha hb) ?_
    rintro _ H2 hle2 hr0
    obtain ⟨r, rfl, hr⟩ := resS hr0 fun _ => within_eq a b
    have hu2 := hu1.mono hle2
    have hv2 := hv1.mono hle2
    refine T.pv (PV.move rfl) Wanted.none rfl rfl ?_
    refine T.pv (PV.extract rfl rfl) Wanted.none rfl rfl ?_
    refine T.pv (PV.extract rfl rfl) Wanted.none rfl rfl ?_
    refine T.pv (PV.assign rfl) Wanted.none rfl rfl ?_
    refine T.pv (PV.assign rfl) Wanted.none rfl rfl ?_
    refine T.opsNil ?_
    refine T.seq ?_
    refine T.region ?_
    refine T.pv (PV.move rfl) Wanted.none rfl rfl ?_
    refine T.pv (PV.move rfl) Wanted.none rfl rfl ?_
    refine T.call Wanted.none rfl rfl (choose_fn a b 1 _ _ H2 hu2 hv2 ha hb) ?_
    rintro _ H3 hle3 ⟨r2, rfl, hr2⟩
    have hu3 := hu2.mono hle3
    have hv3 := hv2.mono hle3
    have hcl := chooseL_le 1 a b
    have s1 := same_eq _ _ _ H3 (hr.mono hle3) hr2 (by unfold maxLen; exact ite_len (by omega))
    refine T.pv (PV.move rfl) Wanted.none rfl rfl ?_
    refine T.pv (PV.extract rfl rfl) Wanted.none rfl rfl ?_
    refine T.pv (PV.extract rfl rfl) Wanted.none rfl rfl ?_
    refine T.pv (PV.assign rfl) Wanted.none rfl rfl ?_
    refine T.pv (PV.assign rfl) Wanted.none rfl rfl ?_
    refine T.opsNil ?_
    refine T.seq ?_
    refine T.seq ?_
    refine T.region ?_
    refine T.pv (PV.move rfl) Wanted.none rfl rfl ?_
    refine T.pv (PV.move rfl) Wanted.none rfl rfl ?_
    refine T.callV Wanted.none rfl rfl (s1) ?_
    refine T.pv (PV.not rfl) Wanted.none rfl rfl ?_
    refine T.pv (PV.move rfl) Wanted.none rfl rfl ?_
    refine T.pv (PV.move rfl) (Wanted.guard rfl rfl rfl) rfl rfl ?_
    refine T.pv (PV.move rfl) (Wanted.guard rfl rfl rfl) rfl rfl ?_
    refine T.pv (PV.neq rfl rfl) (Wanted.guard rfl rfl rfl) rfl rfl ?_
    refine T.pv (PV.pickF rfl rfl rfl) Wanted.none rfl rfl ?_
    refine T.opsNil ?_
    refine T.condF rfl (decide_eq_false (by omega)) ?_
    refine T.skip ?_
    refine T.seq ?_
    refine T.region ?_
    refine T.pv (PV.move rfl) Wanted.none rfl rfl ?_
    refine T.pv (PV.move rfl) Wanted.none rfl rfl ?_
    refine T.call Wanted.none rfl rfl (containing_fn a b _ _ H3 hu3 hv3 ha hb hm) ?_
    rintro _ H4 hle4 hr0
    obtain ⟨r3, rfl, hr3⟩ := resS hr0 fun _ => containing_eq a b
    have hu4 := hu3.mono hle4
    have hv4 := hv3.mono hle4
    refine T.pv (PV.move rfl) Wanted.none rfl rfl ?_
    refine T.pv (PV.extract rfl rfl) Wanted.none rfl rfl ?_
    refine T.pv (PV.extract rfl rfl) Wanted.none rfl rfl ?_
    refine T.pv (PV.assign rfl) Wanted.none rfl rfl ?_
    refine T.pv (PV.assign rfl) Wanted.none rfl rfl ?_
    refine T.opsNil ?_
    refine T.seq ?_
    refine T.region ?_
    refine T.pv (PV.move rfl) Wanted.none rfl rfl ?_
    refine T.pv (PV.move rfl) Wanted.none rfl rfl ?_
    refine T.call Wanted.none rfl rfl (choose_fn a b 2 _ _ H4 hu4 hv4 ha hb) ?_
    rintro _ H5 hle5 ⟨r4, rfl, hr4⟩
    have hu5 := hu4.mono hle5
    have hv5 := hv4.mono hle5
    have hcl2 := chooseL_le 2 a b
    have s2 := same_eq _ _ _ H5 (hr3.mono hle5) hr4 (by unfold maxLen; exact ite_len (by omega))
    refine T.pv (PV.move rfl) Wanted.none rfl rfl ?_
    refine T.pv (PV.extract rfl rfl) Wanted.none rfl rfl ?_
    refine T.pv (PV.extract rfl rfl) Wanted.none rfl rfl ?_
    refine T.pv (PV.assign rfl) Wanted.none rfl rfl ?_
    refine T.pv (PV.assign rfl) Wanted.none rfl rfl ?_
    refine T.opsNil ?_
    refine T.seq ?_
    refine T.seq ?_
    refine T.region ?_
    refine T.pv (PV.move rfl) Wanted.none rfl rfl ?_
    refine T.pv (PV.move rfl) Wanted.none rfl rfl ?_
    refine T.callV Wanted.none rfl rfl (s2) ?_
    refine T.pv (PV.not rfl) Wanted.none rfl rfl ?_
    refine T.pv (PV.move rfl) Wanted.none rfl rfl ?_
    refine T.pv (PV.move rfl) (Wanted.guard rfl rfl rfl) rfl rfl ?_
    refine T.pv (PV.move rfl) (Wanted.guard rfl rfl rfl) rfl rfl ?_
    refine T.pv (PV.neq rfl rfl) (Wanted.guard rfl rfl rfl) rfl rfl ?_
    refine T.pv (PV.pickF rfl rfl rfl) Wanted.none rfl rfl ?_
    refine T.opsNil ?_
    refine T.condF rfl (decide_eq_false (by omega)) ?_
    refine T.skip ?_
    refine T.seq ?_
    refine T.region ?_
    refine T.pv (PV.move rfl) Wanted.none rfl rfl ?_
    refine T.pv (PV.move rfl) Wanted.none rfl rfl ?_
    refine T.call Wanted.none rfl rfl (overlapping_fn a b _ _ H5 hu5 hv5 ha hb) ?_
    rintro _ H6 hle6 hr0
    obtain ⟨r5, rfl, hr5⟩ := resS hr0 fun hc => overlapping_eq a b (fun s hs => (chk1_zero (chk2_zero hc).1).2 s hs |>.2) (fun s hs => (chk1_zero (chk2_zero hc).2).2 s hs |>.2)
    have hu6 := hu5.mono hle6
    have hv6 := hv5.mono hle6
    refine T.pv (PV.move rfl) Wanted.none rfl rfl ?_
    refine T.pv (PV.extract rfl rfl) Wanted.none rfl rfl ?_
    refine T.pv (PV.extract rfl rfl) Wanted.none rfl rfl ?_
    refine T.pv (PV.assign rfl) Wanted.none rfl rfl ?_
    refine T.pv (PV.assign rfl) Wanted.none rfl rfl ?_
    refine T.opsNil ?_
    refine T.seq ?_
    refine T.region ?_
    refine T.pv (PV.move rfl) Wanted.none rfl rfl ?_
    refine T.pv (PV.move rfl) Wanted.none rfl rfl ?_
    refine T.call Wanted.none rfl rfl (choose_fn a b 3 _ _ H6 hu6 hv6 ha hb) ?_
    rintro _ H7 hle7 ⟨r6, rfl, hr6⟩
    have hcl3 := chooseL_le 3 a b
    have s3 := same_eq _ _ _ H7 (hr5.mono hle7) hr6 (by unfold maxLen; exact ite_len (by omega))
    have ha := awake_fn H7
    refine T.pv (PV.move rfl) Wanted.none rfl rfl ?_
    refine T.pv (PV.extract rfl rfl) Wanted.none rfl rfl ?_
    refine T.pv (PV.extract rfl rfl) Wanted.none rfl rfl ?_
    refine T.pv (PV.assign rfl) Wanted.none rfl rfl ?_
    refine T.pv (PV.assign rfl) Wanted.none rfl rfl ?_
    refine T.opsNil ?_
    refine T.seq ?_
    refine T.region ?_
    refine T.pv (PV.move rfl) Wanted.none rfl rfl ?_
    refine T.pv (PV.move rfl) Wanted.none rfl rfl ?_
    refine T.callV Wanted.none rfl rfl (s3) ?_
    refine T.pv (PV.move rfl) Wanted.none rfl rfl ?_
    refine T.pv (PV.move rfl) (Wanted.guard rfl rfl rfl) rfl rfl ?_
    refine T.pv (PV.move rfl) (Wanted.guard rfl rfl rfl) rfl rfl ?_
    refine T.pv (PV.eql rfl rfl) (Wanted.guard rfl rfl rfl) rfl rfl ?_
    refine T.pv (PV.pickT rfl rfl rfl) Wanted.none rfl rfl ?_
    refine T.pv (PV.move rfl) Wanted.none rfl rfl ?_
    refine T.setT (d := 75) rfl (by omega) ?_
    refine T.callV (Wanted.guard rfl rfl rfl) rfl rfl (ha) ?_
    refine T.pv (PV.pickT rfl rfl rfl) Wanted.none rfl rfl ?_
    refine T.pv (PV.assign rfl) Wanted.none rfl rfl ?_
    refine T.opsNil ?_
    exact T.retF (Lv.fin (RV.tmp rfl rfl) rfl)
end Go.Proofs.Ytapakgncdmmmaaa
