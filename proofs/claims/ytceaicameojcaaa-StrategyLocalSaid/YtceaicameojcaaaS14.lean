/- strategy: the laws Chooses, Twice, Raw. -/
import Derived.Test.YtceaicameojcaaaS13
import Derived.Test.YtceaicameojcaaaXI
namespace Go.Proofs.Ytceaicameojcaaa
open Go.RowKit

theorem ChooseR.keys {k : Int} {l : List Mt} {u u' : Value} {H1 H2 : Hp} (h1 : ChooseR k l u H1) (h2 : ChooseR k l u' H2) (hl : l.length ≤ 1000000) : ∃ v1 v2 a1 a2 e, u = .tuple #[v1, .int .i64 e] ∧ u' = .tuple #[v2, .int .i64 e] ∧ MtL H1 v1 a1 ∧ MtL H2 v2 a2 ∧ a1.map keyM = a2.map keyM ∧ a1.length ≤ 1000000 := by
  obtain ⟨v1, a1, e1, m1, k1⟩ := h1
  obtain ⟨v2, a2, e2, m2, k2⟩ := h2
  refine ⟨v1, v2, a1, a2, _, e1, e2, m1, m2, k1.trans k2.symm, ?_⟩
  rw [map_len k1]
  split
  · exact Nat.le_trans (choose_sub k l).length_le hl
  · simp
set_option maxHeartbeats 1000000 in
theorem raw_fn (x : List Mt) (v : Value) (s : Int) (H : Hp) (hv : MtL H v x) (hx : x.length ≤ 9223372036854775807) : Fn Try.prog 4 #[v, .int .i64 s] H (fun u _ => u = .bool true) := by
  obtain ⟨ad, cap, rfl⟩ := hv.1.len
  refine Fn.of_T (vs := [.slice ad x.length cap, .int .i64 s]) Try.func4 rfl rfl fun w => ?_
  by_cases hlen : 12 < x.length
  · refine T.seq ?_
    refine T.region ?_
    refine T.pv (PV.assign rfl) Wanted.none rfl rfl ?_
    refine T.opsNil ?_
    refine T.seq ?_
    refine T.seq ?_
    refine T.region ?_
    refine T.pv (PV.move rfl) Wanted.none rfl rfl ?_
    refine T.pv (PV.lenSl rfl) Wanted.none rfl rfl ?_
    refine T.pv (PV.gtr rfl rfl) Wanted.none rfl rfl ?_
    refine T.opsNil ?_
    refine T.condT rfl (decide_eq_true (by omega)) ?_
    refine T.seq ?_
    refine T.region ?_
    refine T.pv (PV.assign rfl) Wanted.none rfl rfl ?_
    refine T.opsNil ?_
    exact T.retF (Lv.fin (RV.tmp rfl rfl) rfl)
  refine T.seq ?_
  refine T.region ?_
  refine T.pv (PV.assign rfl) Wanted.none rfl rfl ?_
  refine T.opsNil ?_
  refine T.seq ?_
  refine T.seq ?_
  refine T.region ?_
  refine T.pv (PV.move rfl) Wanted.none rfl rfl ?_
  refine T.pv (PV.lenSl rfl) Wanted.none rfl rfl ?_
  refine T.pv (PV.gtr rfl rfl) Wanted.none rfl rfl ?_
  refine T.opsNil ?_
  refine T.condF rfl (decide_eq_false (by omega)) ?_
  refine T.skip ?_
  refine T.seq ?_
  refine T.region ?_
  refine T.pv (PV.move rfl) Wanted.none rfl rfl ?_
  refine T.pv (PV.move rfl) Wanted.none rfl rfl ?_
  refine T.call Wanted.none rfl rfl (choose_fn s x _ H hv (by omega)) ?_
  intro u2 H2 hle2 h2
  have h20 := h2
  obtain ⟨v2, a2, rfl, -⟩ := h20
  refine T.pv (PV.move rfl) Wanted.none rfl rfl ?_
  refine T.pv (PV.extract rfl rfl) Wanted.none rfl rfl ?_
  refine T.pv (PV.extract rfl rfl) Wanted.none rfl rfl ?_
  refine T.pv (PV.assign rfl) Wanted.none rfl rfl ?_
  refine T.pv (PV.assign rfl) Wanted.none rfl rfl ?_
  refine T.opsNil ?_
  refine T.seq ?_
  refine T.region ?_
  refine T.pv (PV.move rfl) Wanted.none rfl rfl ?_
  refine T.pv (PV.move rfl) Wanted.none rfl rfl ?_
  refine T.call Wanted.none rfl rfl (refChoose_fn s x _ H2 (hv.mono hle2) (by omega)) ?_
  intro u3 H3 hle3 h3
  obtain ⟨v2', v3, a2, a3, e, q1, rfl, m2, m3, hk, hl2⟩ := h2.keys h3 (by omega)
  injection q1 with q1
  have q1 := congrArg Array.toList q1
  simp only [List.cons.injEq, and_true] at q1
  obtain ⟨rfl, q2⟩ := q1
  have q3 : errM s x 1 8 6 = e := by injection q2
  have hsame := same24_fn a2 a3 v2 v3 H3 (m2.mono hle3) m3 hl2
  rw [decide_eq_true hk] at hsame
  have hee : decide (errM s x 1 8 6 = e) = true := decide_eq_true q3
  refine T.pv (PV.move rfl) Wanted.none rfl rfl ?_
  refine T.pv (PV.extract rfl rfl) Wanted.none rfl rfl ?_
  refine T.pv (PV.extract rfl rfl) Wanted.none rfl rfl ?_
  refine T.pv (PV.assign rfl) Wanted.none rfl rfl ?_
  refine T.pv (PV.assign rfl) Wanted.none rfl rfl ?_
  refine T.opsNil ?_
  refine T.seq ?_
  refine T.region ?_
  refine T.pv (PV.move rfl) Wanted.none rfl rfl ?_
  refine T.pv (PV.move rfl) Wanted.none rfl rfl ?_
  refine T.pv (PV.eql rfl rfl) Wanted.none rfl rfl ?_
  refine T.pv (PV.move rfl) Wanted.none rfl rfl ?_
  refine T.pv (PV.move rfl) (Wanted.guard rfl rfl (by assumption)) rfl rfl ?_
  refine T.pv (PV.move rfl) (Wanted.guard rfl rfl (by assumption)) rfl rfl ?_
  refine T.callV (Wanted.guard rfl rfl (by assumption)) rfl rfl (hsame) ?_
  refine T.pv (PV.pickT rfl (by assumption) rfl) Wanted.none rfl rfl ?_
  refine T.pv (PV.move rfl) Wanted.none rfl rfl ?_
  refine T.pv (PV.move rfl) (Wanted.guard rfl rfl rfl) rfl rfl ?_
  refine T.call (by first | exact Wanted.guard rfl rfl rfl | exact Wanted.guard rfl rfl (by assumption)) rfl rfl (spans_fn x _ _ (hv.mono (hle2.trans hle3)) (by omega)) ?_
  intro u4 H4 hle4 h4
  refine T.pv (PV.move rfl) (Wanted.guard rfl rfl rfl) rfl rfl ?_
  refine T.call (Wanted.guard rfl rfl rfl) rfl rfl (refSpans_fn x _ _ (hv.mono ((hle2.trans hle3).trans hle4)) (by omega)) ?_
  intro u5 H5 hle5 h5
  have hsp := spM_len x
  have hs27 := same27_fn _ _ _ _ _ (h4.mono hle5) h5 (by omega)
  rw [decide_eq_true rfl] at hs27
  refine T.callV (Wanted.guard rfl rfl rfl) rfl rfl (hs27) ?_
  refine T.pv (PV.pickT rfl rfl rfl) Wanted.none rfl rfl ?_
  refine T.pv (PV.move rfl) Wanted.none rfl rfl ?_
  refine T.callV (Wanted.guard rfl rfl rfl) rfl rfl (known_fn _) ?_
  refine T.pv (PV.pickT rfl rfl rfl) Wanted.none rfl rfl ?_
  refine T.pv (PV.assign rfl) Wanted.none rfl rfl ?_
  refine T.opsNil ?_
  exact T.retF (Lv.fin (RV.tmp rfl rfl) rfl)
set_option maxHeartbeats 1000000 in
theorem chooses_fn (l : List Int) (v : Value) (s : Int) (H : Hp) (hv : InL H v l) (hl : l.length ≤ 9223372036854775807) (hr : ∀ x ∈ l, inI64 x) (hs : inI64 s) : Fn Try.prog 3 #[v, .int .i64 s] H (fun u _ => u = .bool true) := by
  refine Fn.of_T (vs := [v, .int .i64 s]) Try.func3 rfl rfl fun w => ?_
  refine T.seq ?_
  refine T.region ?_
  refine T.pv (PV.assign rfl) Wanted.none rfl rfl ?_
  refine T.opsNil ?_
  refine T.seq ?_
  refine T.region ?_
  refine T.pv (PV.move rfl) Wanted.none rfl rfl ?_
  refine T.call Wanted.none rfl rfl (list_fn l v H hv hl hr) ?_
  rintro u1 H1 hle1 ⟨x, L, hx, hg⟩
  have hxl : x.length ≤ 13 := hg.2.1
  refine T.pv (PV.assign rfl) Wanted.none rfl rfl ?_
  refine T.opsNil ?_
  refine T.seq ?_
  refine T.region ?_
  refine T.pv (PV.move rfl) Wanted.none rfl rfl ?_
  refine T.callV Wanted.none rfl rfl (mod_fn s 4 H1 hs (by omega)) ?_
  have hk : 0 ≤ s % 4 ∧ s % 4 ≤ 3 := by omega
  generalize s % 4 = k at hk ⊢
  have hgood := hg.good hk
  refine T.pv (PV.assign rfl) Wanted.none rfl rfl ?_
  refine T.opsNil ?_
  refine T.seq ?_
  refine T.region ?_
  refine T.pv (PV.move rfl) Wanted.none rfl rfl ?_
  refine T.pv (PV.move rfl) Wanted.none rfl rfl ?_
  refine T.call Wanted.none rfl rfl (choose_fn k x u1 H1 hx (by omega)) ?_
  intro u2 H2 hle2 h2
  obtain ⟨v2, a2, rfl, h2, k2⟩ := choose_ok hgood h2
  refine T.pv (PV.move rfl) Wanted.none rfl rfl ?_
  refine T.pv (PV.extract rfl rfl) Wanted.none rfl rfl ?_
  refine T.pv (PV.extract rfl rfl) Wanted.none rfl rfl ?_
  refine T.pv (PV.assign rfl) Wanted.none rfl rfl ?_
  refine T.pv (PV.assign rfl) Wanted.none rfl rfl ?_
  refine T.opsNil ?_
  refine T.seq ?_
  refine T.region ?_
  refine T.pv (PV.move rfl) Wanted.none rfl rfl ?_
  refine T.pv (PV.move rfl) Wanted.none rfl rfl ?_
  refine T.call Wanted.none rfl rfl (refChoose_fn k x u1 H2 (hx.mono hle2) (by omega)) ?_
  intro u3 H3 hle3 h3
  obtain ⟨v3, a3, rfl, h3, k3⟩ := choose_ok hgood h3
  have l2 : a2.length ≤ 13 := by rw [map_len k2]; exact Nat.le_trans (choose_sub k x).length_le hxl
  have hsame := same24_fn a2 a3 v2 v3 H3 (h2.mono hle3) h3 (by omega)
  rw [decide_eq_true (k2.trans k3.symm)] at hsame
  refine T.pv (PV.move rfl) Wanted.none rfl rfl ?_
  refine T.pv (PV.extract rfl rfl) Wanted.none rfl rfl ?_
  refine T.pv (PV.extract rfl rfl) Wanted.none rfl rfl ?_
  refine T.pv (PV.assign rfl) Wanted.none rfl rfl ?_
  refine T.pv (PV.assign rfl) Wanted.none rfl rfl ?_
  refine T.opsNil ?_
  refine T.seq ?_
  refine T.region ?_
  refine T.pv (PV.move rfl) Wanted.none rfl rfl ?_
  refine T.pv (PV.move rfl) Wanted.none rfl rfl ?_
  refine T.pv (PV.eql rfl rfl) Wanted.none rfl rfl ?_
  refine T.pv (PV.move rfl) Wanted.none rfl rfl ?_
  refine T.pv (PV.move rfl) (Wanted.guard rfl rfl rfl) rfl rfl ?_
  refine T.pv (PV.move rfl) (Wanted.guard rfl rfl rfl) rfl rfl ?_
  refine T.callV (Wanted.guard rfl rfl rfl) rfl rfl (hsame) ?_
  refine T.pv (PV.pickT rfl rfl rfl) Wanted.none rfl rfl ?_
  refine T.pv (PV.move rfl) Wanted.none rfl rfl ?_
  refine T.pv (PV.move rfl) (Wanted.guard rfl rfl rfl) rfl rfl ?_
  refine T.call (Wanted.guard rfl rfl rfl) rfl rfl (spans_fn x _ _ (hx.mono (hle2.trans hle3)) (by omega)) ?_
  intro u4 H4 hle4 h4
  refine T.pv (PV.move rfl) (Wanted.guard rfl rfl rfl) rfl rfl ?_
  refine T.call (Wanted.guard rfl rfl rfl) rfl rfl (refSpans_fn x _ _ (hx.mono ((hle2.trans hle3).trans hle4)) (by omega)) ?_
  intro u5 H5 hle5 h5
  have hsp := spM_len x
  have hs27 := same27_fn _ _ _ _ _ (h4.mono hle5) h5 (by omega)
  rw [decide_eq_true rfl] at hs27
  refine T.callV (Wanted.guard rfl rfl rfl) rfl rfl (hs27) ?_
  refine T.pv (PV.pickT rfl rfl rfl) Wanted.none rfl rfl ?_
  refine T.pv (PV.move rfl) Wanted.none rfl rfl ?_
  refine T.callV (Wanted.guard rfl rfl rfl) rfl rfl (known_fn _) ?_
  refine T.pv (PV.pickT rfl rfl rfl) Wanted.none rfl rfl ?_
  refine T.pv (PV.assign rfl) Wanted.none rfl rfl ?_
  refine T.opsNil ?_
  exact T.retF (Lv.fin (RV.tmp rfl rfl) rfl)
set_option maxHeartbeats 1000000 in
theorem twice_fn (l : List Int) (v : Value) (s : Int) (H : Hp) (hv : InL H v l) (hl : l.length ≤ 9223372036854775807) (hr : ∀ x ∈ l, inI64 x) (hs : inI64 s) : Fn Try.prog 5 #[v, .int .i64 s] H (fun u _ => u = .bool true) := by
  refine Fn.of_T (vs := [v, .int .i64 s]) Try.func5 rfl rfl fun w => ?_
  refine T.seq ?_
  refine T.region ?_
  refine T.pv (PV.assign rfl) Wanted.none rfl rfl ?_
  refine T.opsNil ?_
  refine T.seq ?_
  refine T.region ?_
  refine T.pv (PV.move rfl) Wanted.none rfl rfl ?_
  refine T.call Wanted.none rfl rfl (list_fn l v H hv hl hr) ?_
  rintro u1 H1 hle1 ⟨x, L, hx, hg⟩
  have hxl : x.length ≤ 13 := hg.2.1
  refine T.pv (PV.assign rfl) Wanted.none rfl rfl ?_
  refine T.opsNil ?_
  refine T.seq ?_
  refine T.region ?_
  refine T.pv (PV.move rfl) Wanted.none rfl rfl ?_
  refine T.callV Wanted.none rfl rfl (mod_fn s 4 H1 hs (by omega)) ?_
  have hk : 0 ≤ s % 4 ∧ s % 4 ≤ 3 := by omega
  generalize s % 4 = k at hk ⊢
  have hgood := hg.good hk
  refine T.pv (PV.assign rfl) Wanted.none rfl rfl ?_
  refine T.opsNil ?_
  refine T.seq ?_
  refine T.region ?_
  refine T.pv (PV.move rfl) Wanted.none rfl rfl ?_
  refine T.pv (PV.move rfl) Wanted.none rfl rfl ?_
  refine T.call Wanted.none rfl rfl (choose_fn k x u1 H1 hx (by omega)) ?_
  intro u2 H2 hle2 h2
  obtain ⟨v2, a2, rfl, h2, k2⟩ := choose_ok hgood h2
  have l2 : a2.length ≤ 13 := by rw [map_len k2]; exact Nat.le_trans (choose_sub k x).length_le hxl
  have hgood2 : goodM k a2 := (good_key k2).2 (choose_good hgood hk)
  refine T.pv (PV.move rfl) Wanted.none rfl rfl ?_
  refine T.pv (PV.extract rfl rfl) Wanted.none rfl rfl ?_
  refine T.pv (PV.extract rfl rfl) Wanted.none rfl rfl ?_
  refine T.pv (PV.assign rfl) Wanted.none rfl rfl ?_
  refine T.pv (PV.assign rfl) Wanted.none rfl rfl ?_
  refine T.opsNil ?_
  refine T.seq ?_
  refine T.region ?_
  refine T.pv (PV.move rfl) Wanted.none rfl rfl ?_
  refine T.pv (PV.move rfl) Wanted.none rfl rfl ?_
  refine T.call Wanted.none rfl rfl (choose_fn k a2 v2 H2 h2 (by omega)) ?_
  intro u3 H3 hle3 h3
  obtain ⟨v3, a3, rfl, h3, k3⟩ := choose_ok hgood2 h3
  have hkk : a2.map keyM = a3.map keyM := by rw [k3, choose_key k k2, choose_twice hgood.2.1, k2]
  have hsame := same24_fn a2 a3 v2 v3 H3 (h2.mono hle3) h3 (by omega)
  rw [decide_eq_true hkk] at hsame
  have hne : (0 < (a2.length : Int)) ↔ (0 < (x.length : Int)) := by
    have := choose_ne (k := k) hgood.2.1
    rw [← map_len k2] at this
    omega
  obtain ⟨ad2, cap2, rfl⟩ := h2.1.len
  obtain ⟨adx, capx, rfl⟩ := hx.1.len
  have hdd : (decide (0 < (a2.length : Int)) == decide (0 < (x.length : Int))) = true := by
    rw [beq_iff_eq, decide_eq_decide]; exact hne
  refine T.pv (PV.move rfl) Wanted.none rfl rfl ?_
  refine T.pv (PV.extract rfl rfl) Wanted.none rfl rfl ?_
  refine T.pv (PV.extract rfl rfl) Wanted.none rfl rfl ?_
  refine T.pv (PV.assign rfl) Wanted.none rfl rfl ?_
  refine T.pv (PV.assign rfl) Wanted.none rfl rfl ?_
  refine T.opsNil ?_
  refine T.seq ?_
  refine T.region ?_
  refine T.pv (PV.move rfl) Wanted.none rfl rfl ?_
  refine T.pv (PV.eql rfl rfl) Wanted.none rfl rfl ?_
  refine T.pv (PV.move rfl) Wanted.none rfl rfl ?_
  refine T.pv (PV.move rfl) (Wanted.guard rfl rfl rfl) rfl rfl ?_
  refine T.pv (PV.eql rfl rfl) (Wanted.guard rfl rfl rfl) rfl rfl ?_
  refine T.pv (PV.pickT rfl rfl rfl) Wanted.none rfl rfl ?_
  refine T.pv (PV.move rfl) Wanted.none rfl rfl ?_
  refine T.pv (PV.move rfl) (Wanted.guard rfl rfl rfl) rfl rfl ?_
  refine T.pv (PV.move rfl) (Wanted.guard rfl rfl rfl) rfl rfl ?_
  refine T.callV (Wanted.guard rfl rfl rfl) rfl rfl (hsame) ?_
  refine T.pv (PV.pickT rfl rfl rfl) Wanted.none rfl rfl ?_
  refine T.pv (PV.move rfl) Wanted.none rfl rfl ?_
  refine T.pv (PV.move rfl) (Wanted.guard rfl rfl rfl) rfl rfl ?_
  refine T.pv (PV.lenSl rfl) (Wanted.guard rfl rfl rfl) rfl rfl ?_
  refine T.pv (PV.gtr rfl rfl) (Wanted.guard rfl rfl rfl) rfl rfl ?_
  refine T.pv (PV.move rfl) (Wanted.guard rfl rfl rfl) rfl rfl ?_
  refine T.pv (PV.lenSl rfl) (Wanted.guard rfl rfl rfl) rfl rfl ?_
  refine T.pv (PV.gtr rfl rfl) (Wanted.guard rfl rfl rfl) rfl rfl ?_
  refine T.pv (PV.beql rfl rfl) (Wanted.guard rfl rfl rfl) rfl rfl ?_
  refine T.pv (PV.pickT rfl rfl rfl) Wanted.none rfl rfl ?_
  refine T.pv (PV.move rfl) Wanted.none rfl rfl ?_
  refine T.callV (Wanted.guard rfl rfl (by assumption)) rfl rfl (known_fn _) ?_
  refine T.pv (PV.pickT rfl (by assumption) rfl) Wanted.none rfl rfl ?_
  refine T.pv (PV.assign rfl) Wanted.none rfl rfl ?_
  refine T.opsNil ?_
  exact T.retF (Lv.fin (RV.tmp rfl rfl) rfl)
end Go.Proofs.Ytceaicameojcaaa
