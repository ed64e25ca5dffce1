/- strategy: the example. -/
import Derived.Test.YtceaicameojcaaaS12
namespace Go.Proofs.Ytceaicameojcaaa
open Go.RowKit

def mt0 (b e : Int) : Mt := ⟨b, e, .slice none 0 0, []⟩
def exA : List Mt := [mt0 0 1, mt0 0 3, mt0 1 2, mt0 2 4, mt0 5 6]
theorem mt0_ok (H : Hp) (b e : Int) : LabOk H (mt0 b e) := ⟨SlR.empty, by simp [mt0]⟩
theorem example_fn (H : Hp) : Fn Try.prog 36 #[] H (fun u H' => MtL H' u exA) := by
  refine Fn.of_T (vs := []) Try.func36 rfl rfl fun w => ?_
  refine T.seq ?_
  refine T.region ?_
  refine T.pv (PV.assign rfl) Wanted.none rfl rfl ?_
  refine T.opsNil ?_
  refine T.seq ?_
  refine T.region ?_
  refine T.pv (PV.build rfl (by repeat (first | exact FillR.nil | (apply FillR.cons rfl; (first | exact CellsR.one rfl | exact CellsR.agg); rfl; repeat (first | exact Splice.nil | apply Splice.cons | apply Splice.skip))))) Wanted.none rfl rfl ?_
  refine T.pv (PV.build rfl (by repeat (first | exact FillR.nil | (apply FillR.cons rfl; (first | exact CellsR.one rfl | exact CellsR.agg); rfl; repeat (first | exact Splice.nil | apply Splice.cons | apply Splice.skip))))) Wanted.none rfl rfl ?_
  refine T.pv (PV.build rfl (by repeat (first | exact FillR.nil | (apply FillR.cons rfl; (first | exact CellsR.one rfl | exact CellsR.agg); rfl; repeat (first | exact Splice.nil | apply Splice.cons | apply Splice.skip))))) Wanted.none rfl rfl ?_
  refine T.pv (PV.build rfl (by repeat (first | exact FillR.nil | (apply FillR.cons rfl; (first | exact CellsR.one rfl | exact CellsR.agg); rfl; repeat (first | exact Splice.nil | apply Splice.cons | apply Splice.skip))))) Wanted.none rfl rfl ?_
  refine T.pv (PV.build rfl (by repeat (first | exact FillR.nil | (apply FillR.cons rfl; (first | exact CellsR.one rfl | exact CellsR.agg); rfl; repeat (first | exact Splice.nil | apply Splice.cons | apply Splice.skip))))) Wanted.none rfl rfl ?_
  (refine T.buildSlice Wanted.none rfl rfl (by repeat (first | exact FillAll.nil | (apply FillAll.cons; (first | exact CellsR.one rfl | exact CellsR.agg); exact rfl))) (by exact rfl) (by exact rfl) ?_; intro b6)
  refine T.pv (PV.assign rfl) Wanted.none rfl rfl ?_
  refine T.opsNil ?_
  refine T.freezeLit ?_
  intro H1 hle1 hH1
  refine T.retF (Lv.fin (RV.tmp rfl rfl) ⟨SlR.lit (n := 5) hH1 rfl, fun m hm => ?_⟩)
  simp only [exA, List.mem_cons, List.not_mem_nil, or_false] at hm
  rcases hm with rfl | rfl | rfl | rfl | rfl <;> exact mt0_ok _ _ _
theorem exA_good (k : Int) (hk : 0 ≤ k ∧ k ≤ 3) : goodM k exA := ⟨hk, by decide, by decide⟩
theorem exA_1 : (chooseM 1 exA).length = 4 := by decide
theorem exA_2 : chosenL 2 (spM exA) = [(0, 3), (2, 4), (5, 6)] := by decide
theorem exA_3 : chosenL 3 (spM exA) = [(0, 3), (5, 6)] := by decide
theorem map_len {l m : List Mt} (h : l.map keyM = m.map keyM) : l.length = m.length := by
  have := congrArg List.length h
  rwa [List.length_map, List.length_map] at this
/-- What Choose returns for a list in order. -/
theorem choose_ok {k : Int} {l : List Mt} (hg : goodM k l) {u : Value} {H' : Hp} (h : ChooseR k l u H') : ∃ v' a, u = .tuple #[v', .int .i64 0] ∧ MtL H' v' a ∧ a.map keyM = (chooseM k l).map keyM := by
  obtain ⟨v', a, h1, h2, h3⟩ := h
  rw [errM_good hg] at h1
  rw [if_pos hg] at h3
  exact ⟨v', a, h1, h2, h3⟩
theorem known_fn (H : Hp) : Fn Try.prog 18 #[] H (fun u _ => u = .bool true) := by
  refine Fn.of_T (vs := []) Try.func18 rfl rfl fun w => ?_
  refine T.seq ?_
  refine T.region ?_
  refine T.pv (PV.assign rfl) Wanted.none rfl rfl ?_
  refine T.opsNil ?_
  refine T.seq ?_
  refine T.region ?_
  refine T.call Wanted.none rfl rfl (example_fn _) ?_
  intro u1 H1 hle1 h1
  skip
  refine T.call Wanted.none rfl rfl (choose_fn 1 exA u1 H1 h1 (by decide)) ?_
  intro u2 H2 hle2 h2
  obtain ⟨v2, a2, rfl, h2, k2⟩ := choose_ok (exA_good 1 (by omega)) h2
  refine T.pv (PV.move rfl) Wanted.none rfl rfl ?_
  refine T.pv (PV.extract rfl rfl) Wanted.none rfl rfl ?_
  refine T.pv (PV.extract rfl rfl) Wanted.none rfl rfl ?_
  refine T.pv (PV.assign rfl) Wanted.none rfl rfl ?_
  refine T.pv (PV.assign rfl) Wanted.none rfl rfl ?_
  refine T.opsNil ?_
  refine T.seq ?_
  refine T.region ?_
  refine T.call Wanted.none rfl rfl (example_fn _) ?_
  intro u3 H3 hle3 h3
  skip
  refine T.call Wanted.none rfl rfl (choose_fn 2 exA u3 H3 h3 (by decide)) ?_
  intro u4 H4 hle4 h4
  obtain ⟨v4, a4, rfl, h4, k4⟩ := choose_ok (exA_good 2 (by omega)) h4
  refine T.pv (PV.move rfl) Wanted.none rfl rfl ?_
  refine T.pv (PV.extract rfl rfl) Wanted.none rfl rfl ?_
  refine T.pv (PV.extract rfl rfl) Wanted.none rfl rfl ?_
  refine T.pv (PV.assign rfl) Wanted.none rfl rfl ?_
  refine T.pv (PV.assign rfl) Wanted.none rfl rfl ?_
  refine T.opsNil ?_
  refine T.seq ?_
  refine T.region ?_
  refine T.call Wanted.none rfl rfl (example_fn _) ?_
  intro u5 H5 hle5 h5
  skip
  refine T.call Wanted.none rfl rfl (choose_fn 3 exA u5 H5 h5 (by decide)) ?_
  intro u6 H6 hle6 h6
  obtain ⟨v6, a6, rfl, h6, k6⟩ := choose_ok (exA_good 3 (by omega)) h6
  have l2 : a2.length = 4 := by rw [map_len k2]; exact exA_1
  have s4 : spM a4 = [(0, 3), (2, 4), (5, 6)] := by rw [spM_key k4, choose_spans, exA_2]
  have s6 : spM a6 = [(0, 3), (5, 6)] := by rw [spM_key k6, choose_spans, exA_3]
  have l4 : a4.length ≤ 5 := by rw [map_len k4]; exact (choose_sub 2 exA).length_le
  have l6 : a6.length ≤ 5 := by rw [map_len k6]; exact (choose_sub 3 exA).length_le
  obtain ⟨ad2, cap2, rfl⟩ := h2.1.len
  have hA : decide ((a2.length : Int) = 4) = true := decide_eq_true (by omega)
  refine T.pv (PV.move rfl) Wanted.none rfl rfl ?_
  refine T.pv (PV.extract rfl rfl) Wanted.none rfl rfl ?_
  refine T.pv (PV.extract rfl rfl) Wanted.none rfl rfl ?_
  refine T.pv (PV.assign rfl) Wanted.none rfl rfl ?_
  refine T.pv (PV.assign rfl) Wanted.none rfl rfl ?_
  refine T.opsNil ?_
  refine T.seq ?_
  refine T.region ?_
  refine T.pv (PV.move rfl) Wanted.none rfl rfl ?_
  refine T.pv (PV.eql rfl rfl) Wanted.none rfl rfl ?_
  refine T.pv (PV.move rfl) Wanted.none rfl rfl ?_
  refine T.pv (PV.move rfl) (Wanted.guard rfl rfl rfl) rfl rfl ?_
  refine T.pv (PV.eql rfl rfl) (Wanted.guard rfl rfl rfl) rfl rfl ?_
  refine T.pv (PV.pickT rfl rfl rfl) Wanted.none rfl rfl ?_
  refine T.pv (PV.move rfl) Wanted.none rfl rfl ?_
  refine T.pv (PV.move rfl) (Wanted.guard rfl rfl rfl) rfl rfl ?_
  refine T.pv (PV.eql rfl rfl) (Wanted.guard rfl rfl rfl) rfl rfl ?_
  refine T.pv (PV.pickT rfl rfl rfl) Wanted.none rfl rfl ?_
  refine T.pv (PV.move rfl) Wanted.none rfl rfl ?_
  refine T.pv (PV.move rfl) (Wanted.guard rfl rfl rfl) rfl rfl ?_
  refine T.pv (PV.lenSl rfl) (Wanted.guard rfl rfl rfl) rfl rfl ?_
  refine T.pv (PV.eql rfl rfl) (Wanted.guard rfl rfl rfl) rfl rfl ?_
  refine T.pv (PV.pickT rfl rfl rfl) Wanted.none rfl rfl ?_
  refine T.pv (PV.move rfl) Wanted.none rfl rfl ?_
  refine T.pv (PV.move rfl) (Wanted.guard rfl rfl (by assumption)) rfl rfl ?_
  refine T.setT (d := 37) rfl (by omega) ?_
  refine T.call (Wanted.guard rfl rfl rfl) rfl rfl (spans_fn a4 v4 _ (h4.mono (hle5.trans hle6)) (by omega)) ?_
  intro u7 H7 hle7 h7
  rw [s4] at h7
  refine T.pv (PV.build rfl (by repeat (first | exact FillR.nil | (apply FillR.cons rfl; (first | exact CellsR.one rfl | exact CellsR.agg); rfl; repeat (first | exact Splice.nil | apply Splice.cons | apply Splice.skip))))) (Wanted.guard rfl rfl rfl) rfl rfl ?_
  refine T.pv (PV.build rfl (by repeat (first | exact FillR.nil | (apply FillR.cons rfl; (first | exact CellsR.one rfl | exact CellsR.agg); rfl; repeat (first | exact Splice.nil | apply Splice.cons | apply Splice.skip))))) (Wanted.guard rfl rfl rfl) rfl rfl ?_
  refine T.pv (PV.build rfl (by repeat (first | exact FillR.nil | (apply FillR.cons rfl; (first | exact CellsR.one rfl | exact CellsR.agg); rfl; repeat (first | exact Splice.nil | apply Splice.cons | apply Splice.skip))))) (Wanted.guard rfl rfl rfl) rfl rfl ?_
  (refine T.buildSlice (Wanted.guard rfl rfl rfl) rfl rfl (by repeat (first | exact FillAll.nil | (apply FillAll.cons; (first | exact CellsR.one rfl | exact CellsR.agg); exact rfl))) (by exact rfl) (by exact rfl) ?_; intro b43)
  refine T.freezeLit ?_
  intro H8 hle8 hH8
  have hl8 : SpL H8 _ [(0, 3), (2, 4), (5, 6)] := SlR.lit (n := 3) hH8 rfl
  skip
  refine T.callV (Wanted.guard rfl rfl rfl) rfl rfl (same27_fn _ _ _ _ _ (h7.mono hle8) hl8 (by decide)) ?_
  refine T.pv (PV.pickT rfl rfl rfl) Wanted.none rfl rfl ?_
  refine T.pv (PV.move rfl) Wanted.none rfl rfl ?_
  refine T.pv (PV.move rfl) (Wanted.guard rfl rfl rfl) rfl rfl ?_
  refine T.call (Wanted.guard rfl rfl rfl) rfl rfl (spans_fn a6 v6 _ (h6.mono (hle7.trans hle8)) (by omega)) ?_
  intro u9 H9 hle9 h9
  rw [s6] at h9
  refine T.pv (PV.build rfl (by repeat (first | exact FillR.nil | (apply FillR.cons rfl; (first | exact CellsR.one rfl | exact CellsR.agg); rfl; repeat (first | exact Splice.nil | apply Splice.cons | apply Splice.skip))))) (Wanted.guard rfl rfl rfl) rfl rfl ?_
  refine T.pv (PV.build rfl (by repeat (first | exact FillR.nil | (apply FillR.cons rfl; (first | exact CellsR.one rfl | exact CellsR.agg); rfl; repeat (first | exact Splice.nil | apply Splice.cons | apply Splice.skip))))) (Wanted.guard rfl rfl rfl) rfl rfl ?_
  (refine T.buildSlice (Wanted.guard rfl rfl rfl) rfl rfl (by repeat (first | exact FillAll.nil | (apply FillAll.cons; (first | exact CellsR.one rfl | exact CellsR.agg); exact rfl))) (by exact rfl) (by exact rfl) ?_; intro b51)
  refine T.freezeLit ?_
  intro H10 hle10 hH10
  have hl10 : SpL H10 _ [(0, 3), (5, 6)] := SlR.lit (n := 2) hH10 rfl
  skip
  refine T.callV (Wanted.guard rfl rfl rfl) rfl rfl (same27_fn _ _ _ _ _ (h9.mono hle10) hl10 (by decide)) ?_
  refine T.pv (PV.pickT rfl rfl rfl) Wanted.none rfl rfl ?_
  refine T.pv (PV.assign rfl) Wanted.none rfl rfl ?_
  refine T.opsNil ?_
  exact T.retF (Lv.fin (RV.tmp rfl rfl) rfl)
end Go.Proofs.Ytceaicameojcaaa
