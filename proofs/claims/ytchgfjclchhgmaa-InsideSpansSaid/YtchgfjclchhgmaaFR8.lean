/- regions: the statement Raw; made spans. -/
import Derived.Test.YtchgfjclchhgmaaFR7
namespace Go.Proofs.Ytchgfjclchhgmaa
open Go.RowKit

set_option maxHeartbeats 2000000 in
theorem raw_fn (l : List Int) (v : Value) (fs : List Fl) (vf : Value) (s : Sp) (H : Hp) (hv : InL H v l) (hl : l.length ≤ 9223372036854775807) (hr : ∀ x ∈ l, -9223372036854775808 ≤ x ∧ x ≤ 9223372036854775807) (hf : FlL H vf fs) :
    Fn Try.prog 3 #[v, vf, spV s] H (fun u _ => u = .bool true) := by
  obtain ⟨af, cf, rfl⟩ := hf.len
  unfold spV
  refine Fn.of_T (vs := [v, .slice af fs.length cf, .agg #[.int .i64 s.1, .int .i64 s.2]]) Try.func3 rfl rfl fun w => ?_
  by_cases h6 : 6 < fs.length
  · refine T.seq ?_
    refine T.region ?_
    (refine T.box Wanted.none rfl rfl zq15 ?_; intro b5)
    refine T.pv (PV.assign rfl) Wanted.none rfl rfl ?_
    refine T.opsNil ?_
    refine T.seq ?_
    refine T.seq ?_
    refine T.region ?_
    refine T.pv (PV.move rfl) Wanted.none rfl rfl ?_
    refine T.pv (PV.lenSl rfl) Wanted.none rfl rfl ?_
    refine T.pv (PV.gtr rfl rfl) Wanted.none rfl rfl ?_
    refine T.opsNil ?_
    refine T.condT rfl (decide_eq_true (by omega)) ?_
    refine T.seq ?_
    refine T.region ?_
    refine T.pv (PV.assign rfl) Wanted.none rfl rfl ?_
    refine T.opsNil ?_
    exact T.retF (Lv.fin (RV.tmp rfl rfl) rfl)
  refine T.seq ?_
  refine T.region ?_
  (refine T.box Wanted.none rfl rfl zq15 ?_; intro b5)
  refine T.pv (PV.assign rfl) Wanted.none rfl rfl ?_
  refine T.opsNil ?_
  refine T.seq ?_
  refine T.seq ?_
  refine T.region ?_
  refine T.pv (PV.move rfl) Wanted.none rfl rfl ?_
  refine T.pv (PV.lenSl rfl) Wanted.none rfl rfl ?_
  refine T.pv (PV.gtr rfl rfl) Wanted.none rfl rfl ?_
  refine T.opsNil ?_
  refine T.condF rfl (decide_eq_false (by omega)) ?_
  refine T.skip ?_
  refine T.seq ?_
  refine T.region ?_
  refine T.pv (PV.move rfl) Wanted.none rfl rfl ?_
  refine T.callW (l0 := []) Wanted.none rfl rfl (new_fn l v H hv hl hr) zq1 ?_
  rintro _ _ _ _ ⟨rfl, bt, t, rfl, ht, rfl⟩
  skip
  refine T.callW Wanted.none rfl rfl (corpus_fn bt t 6 H ht (by omega)) zq1 ?_
  rintro _ H1 _ hle1 ⟨t1, c, rfl, ht1, hc, hg, hb, rfl⟩
  have hf := hf.mono hle1
  have hv1 := validate_in fs _ H1 hf (by omega)
  have hv2 := validate_ref fs _ H1 hf (by omega)
  have hi := fun f => holds_in c f s H1 hc
  have hr := fun f => holds_ref c f s H1 hc
  have li := fun k => last_in c k s H1 hc
  have lr := fun k => last_ref c k s H1 hc
  unfold cpV spV at hi hr li lr
  unfold cpV
  (refine T.alloc Wanted.none rfl ?_; intro b7)
  (refine T.storeA Wanted.none rfl rfl (cp_one hc) (by exact rfl) zq14 zq13 ?_)
  refine T.opsNil ?_
  refine T.seq ?_
  refine T.seq ?_
  refine T.region ?_
  refine T.pv (PV.move rfl) Wanted.none rfl rfl ?_
  refine T.pv (PV.lenSl rfl) Wanted.none rfl rfl ?_
  refine T.pv (PV.move rfl) Wanted.none rfl rfl ?_
  refine T.opsNil ?_
  refine T.block ?_
  refine T.loopR [(17, Value.int IntKind.i64 (↑fs.length : Int)), (16, Value.slice af fs.length cf), (7, Value.pointer (some { block := b7, off := 0 })), (5, Value.pointer (some { block := b5, off := 0 })), (1, Value.slice af fs.length cf)] zq8 18 fs.length rfl ?_
  intro i hi0
  by_cases hlt : i < fs.length
  · obtain ⟨b, off, f, rfl, hix, hsub⟩ := RowL.get encFl_len hf hlt
    unfold encFl at hsub
    have k1 := hi f
    have k2 := hr f
    have k3 := li f.rg
    have k4 := lr f.rg
    unfold flV at k1 k2
    have hbb : (!(holdsB c f s == holdsB c f s)) = false := by simp
    refine T.seq ?_
    refine T.region ?_
    refine T.pv (PV.lss rfl rfl) Wanted.none rfl rfl ?_
    refine T.opsNil ?_
    refine T.seq ?_
    refine T.condT rfl (decide_eq_true (by omega)) ?_
    refine T.skip ?_
    refine T.seq ?_
    refine T.block ?_
    refine T.seq ?_
    refine T.region ?_
    refine T.pv (PV.indexAddr rfl rfl (by omega)) Wanted.none rfl rfl ?_
    refine T.pv (PV.loadSubAll rfl (by assumption) (by exact rfl)) Wanted.none rfl rfl ?_
    (refine T.alloc Wanted.none rfl ?_; intro b9)
    refine T.storeA Wanted.none rfl rfl zq8 (by exact rfl) zq14 zq13 ?_
    refine T.opsNil ?_
    refine T.seq ?_
    refine T.regionQ (by kernel_rfl) ?_
    refine TQ.pv (PV.loadAll rfl zq0 (by exact rfl)) Wanted.none rfl rfl ?_
    refine TQ.pv (PV.loadAll rfl zq0 (by exact rfl)) Wanted.none rfl rfl ?_
    refine TQ.pv (PV.loadAll rfl zq0 (by exact rfl)) Wanted.none rfl rfl ?_
    refine TQ.callV Wanted.none rfl rfl (k1) ?_
    refine TQ.pv (PV.loadAll rfl zq0 (by exact rfl)) Wanted.none rfl rfl ?_
    refine TQ.pv (PV.loadAll rfl zq0 (by exact rfl)) Wanted.none rfl rfl ?_
    refine TQ.pv (PV.loadAll rfl zq0 (by exact rfl)) Wanted.none rfl rfl ?_
    refine TQ.callV Wanted.none rfl rfl (k2) ?_
    refine TQ.pv (PV.bneq rfl rfl) Wanted.none rfl rfl ?_
    refine TQ.pv (PV.move rfl) Wanted.none rfl rfl ?_
    refine TQ.pv (PV.loadAll rfl zq0 (by exact rfl)) (Wanted.guard rfl rfl (by assumption)) rfl rfl ?_
    refine TQ.pv (PV.fieldAddr rfl) (Wanted.guard rfl rfl (by assumption)) rfl rfl ?_
    refine TQ.pv (PV.load1 rfl zq0 rfl) (Wanted.guard rfl rfl (by assumption)) rfl rfl ?_
    refine TQ.pv (PV.loadAll rfl zq0 (by exact rfl)) (Wanted.guard rfl rfl (by assumption)) rfl rfl ?_
    refine TQ.callV (Wanted.guard rfl rfl (by assumption)) rfl rfl (k3) ?_
    refine TQ.pv (PV.loadAll rfl zq0 (by exact rfl)) (Wanted.guard rfl rfl (by assumption)) rfl rfl ?_
    refine TQ.pv (PV.fieldAddr rfl) (Wanted.guard rfl rfl (by assumption)) rfl rfl ?_
    refine TQ.pv (PV.load1 rfl zq0 rfl) (Wanted.guard rfl rfl (by assumption)) rfl rfl ?_
    refine TQ.pv (PV.loadAll rfl zq0 (by exact rfl)) (Wanted.guard rfl rfl (by assumption)) rfl rfl ?_
    refine TQ.callV (Wanted.guard rfl rfl (by assumption)) rfl rfl (k4) ?_
    refine TQ.pv (PV.neq rfl rfl) (Wanted.guard rfl rfl (by assumption)) rfl rfl ?_
    refine TQ.pv (PV.pickF rfl (by assumption) rfl) Wanted.none rfl rfl ?_
    refine TQ.nil ?_
    refine T.condF rfl (decide_eq_false (by omega)) ?_
    refine T.skip ?_
    refine T.blkEnd ?_
    refine T.region ?_
    refine T.pv (PV.add rfl rfl (by omega)) Wanted.none rfl rfl ?_
    refine T.pv (PV.move rfl) Wanted.none rfl rfl ?_
    refine T.opsNil ?_
    exact T.nextR (by omega) rfl zq8 (by repeat (first | exact Sel.refl _ | exact Sel.nil | (refine Sel.cons zq1 ?_) | (refine Sel.app zq1 ?_) | exact Sel.one zq1))
  · have kn := known_fn H1
    refine T.seq ?_
    refine T.region ?_
    refine T.pv (PV.lss rfl rfl) Wanted.none rfl rfl ?_
    refine T.opsNil ?_
    refine T.seq ?_
    refine T.condF rfl (decide_eq_false (by omega)) ?_
    refine T.exit rfl ?_
    refine T.seq ?_
    refine T.region ?_
    refine T.pv (PV.move rfl) Wanted.none rfl rfl ?_
    refine T.callV Wanted.none rfl rfl (hv1) ?_
    refine T.pv (PV.move rfl) Wanted.none rfl rfl ?_
    refine T.callV Wanted.none rfl rfl (hv2) ?_
    refine T.pv (PV.eql rfl rfl) Wanted.none rfl rfl ?_
    refine T.pv (PV.move rfl) Wanted.none rfl rfl ?_
    refine T.setT (d := 50) rfl (by omega) ?_
    refine T.callV (Wanted.guard rfl rfl rfl) rfl rfl (kn) ?_
    refine T.pv (PV.pickT rfl rfl rfl) Wanted.none rfl rfl ?_
    refine T.pv (PV.assign rfl) Wanted.none rfl rfl ?_
    refine T.opsNil ?_
    exact T.retF (Lv.fin (RV.tmp rfl rfl) rfl)
end Go.Proofs.Ytchgfjclchhgmaa
