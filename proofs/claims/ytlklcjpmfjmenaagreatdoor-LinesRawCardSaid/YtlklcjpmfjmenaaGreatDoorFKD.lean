/- lines: a made key, the labels, equal lines. -/
import Derived.Test.YtlklcjpmfjmenaaGreatDoorGJ
import Derived.Test.YtlklcjpmfjmenaaGreatDoorGD
import Derived.Test.YtlklcjpmfjmenaaGreatDoorGB
namespace Go.Proofs.YtlklcjpmfjmenaaGreatDoor
open Go.RowKit

theorem labels_fn (H : Hp) : Fn Tryz.prog 11 #[] H (fun u H' => StL H' u [bs [120]]) := by
  refine Fn.of_T (vs := []) Tryz.func11 rfl rfl fun w => ?_
  refine sq ?_
  refine sr ?_
  refine sa ?_
  refine so ?_
  refine sq ?_
  refine sr ?_
  (refine T.buildSlice Wanted.none rfl rfl zq11 (by exact rfl) (by exact rfl) ?_; intro b1)
  refine sa ?_
  refine so ?_
  refine T.retF (Lv.freeze (Lv.fin (RV.tmp rfl rfl) ⟨rfl, .inr ⟨b1, 0, 1, _, _, _, rfl, Hp.put_same, rfl, Nat.le_refl 1⟩⟩))
theorem texts_same (l m : List ByteArray) (u v : Value) (H : Hp) (hu : StL H u l) (hv : StL H v m) (hl : l.length ≤ 100000) : Fn Tryz.prog 43 #[u, v] H (fun x _ => x = .bool (decide (l = m))) := by
  obtain ⟨au, cu, rfl⟩ := hu.len
  obtain ⟨av, cv, rfl⟩ := hv.len
  refine Fn.of_T (vs := [.slice au l.length cu, .slice av m.length cv]) Tryz.func43 rfl rfl fun w => ?_
  by_cases hlen : l.length = m.length
  · have hlen2 : (l.length : Int) = (m.length : Int) := by omega
    refine sq ?_
    refine sr ?_
    refine sa ?_
    refine so ?_
    refine sq ?_
    refine sq ?_
    refine sr ?_
    refine sm ?_
    refine sv (PV.lenSl rfl) ?_
    refine sm ?_
    refine sv (PV.lenSl rfl) ?_
    refine sv (PV.neq rfl rfl) ?_
    refine so ?_
    refine sd rfl (by omega) ?_
    refine T.skip ?_
    refine sq ?_
    refine sq ?_
    refine sr ?_
    refine sm ?_
    refine sv (PV.lenSl rfl) ?_
    refine sm ?_
    refine so ?_
    refine T.block ?_
    refine T.loopC [(12, Value.int IntKind.i64 (↑l.length : Int)), (0, Value.slice au l.length cu), (1, Value.slice av m.length cv)] zq8 13 l.length (fun i => l.take i = m.take i) rfl rfl ?_
    rintro i ⟨hi0, hi1⟩
    by_cases hi : i < l.length
    · obtain ⟨b1, off1, x, rfl, hix, hsub1⟩ := RowL.get encT_len hu hi
      obtain ⟨b2, off2, y, rfl, hiy, hsub2⟩ := RowL.get encT_len hv (i := i) (by omega)
      unfold encT at hsub1 hsub2
      by_cases he : x = y
      · have hst : l.take (i + 1) = m.take (i + 1) := by rw [List.take_add_one, List.take_add_one, hix, hiy, hi1, he]
        have hd : decide (x ≠ y) = false := by simp [he]
        refine sq ?_
        refine sr ?_
        refine sv (PV.lss rfl rfl) ?_
        refine so ?_
        refine sq ?_
        refine sc rfl (by omega) ?_
        refine T.skip ?_
        refine sq ?_
        refine T.block ?_
        refine sq ?_
        refine sr ?_
        refine sm ?_
        refine sa ?_
        refine so ?_
        refine sq ?_
        refine T.regionQ (by kernel_rfl) ?_
        refine TQ.pv (PV.move rfl) Wanted.none rfl rfl ?_
        refine TQ.pv (PV.move rfl) Wanted.none rfl rfl ?_
        refine TQ.pv (PV.indexAddr rfl rfl (by omega)) Wanted.none rfl rfl ?_
        refine TQ.pv (PV.loadSub0 rfl (by assumption)) Wanted.none rfl rfl ?_
        refine TQ.pv (PV.move rfl) Wanted.none rfl rfl ?_
        refine TQ.pv (PV.move rfl) Wanted.none rfl rfl ?_
        refine TQ.pv (PV.indexAddr rfl rfl (by omega)) Wanted.none rfl rfl ?_
        refine TQ.pv (PV.loadSub0 rfl (by assumption)) Wanted.none rfl rfl ?_
        refine TQ.pv (PV.sneq rfl rfl) Wanted.none rfl rfl ?_
        refine TQ.nil ?_
        refine T.condF rfl (by assumption) ?_
        refine T.skip ?_
        refine T.blkEnd ?_
        refine sr ?_
        refine sv (PV.add rfl rfl (by omega)) ?_
        refine sm ?_
        refine so ?_
        exact T.nextC hi hst rfl zq8 (by repeat (first | exact Sel.refl _ | exact Sel.nil | (refine Sel.cons zq1 ?_) | (refine Sel.app zq1 ?_) | exact Sel.one zq1))
      · have hd : decide (x ≠ y) = true := by simp [he]
        refine sq ?_
        refine sr ?_
        refine sv (PV.lss rfl rfl) ?_
        refine so ?_
        refine sq ?_
        refine sc rfl (by omega) ?_
        refine T.skip ?_
        refine sq ?_
        refine T.block ?_
        refine sq ?_
        refine sr ?_
        refine sm ?_
        refine sa ?_
        refine so ?_
        refine sq ?_
        refine T.regionQ (by kernel_rfl) ?_
        refine TQ.pv (PV.move rfl) Wanted.none rfl rfl ?_
        refine TQ.pv (PV.move rfl) Wanted.none rfl rfl ?_
        refine TQ.pv (PV.indexAddr rfl rfl (by omega)) Wanted.none rfl rfl ?_
        refine TQ.pv (PV.loadSub0 rfl (by assumption)) Wanted.none rfl rfl ?_
        refine TQ.pv (PV.move rfl) Wanted.none rfl rfl ?_
        refine TQ.pv (PV.move rfl) Wanted.none rfl rfl ?_
        refine TQ.pv (PV.indexAddr rfl rfl (by omega)) Wanted.none rfl rfl ?_
        refine TQ.pv (PV.loadSub0 rfl (by assumption)) Wanted.none rfl rfl ?_
        refine TQ.pv (PV.sneq rfl rfl) Wanted.none rfl rfl ?_
        refine TQ.nil ?_
        refine T.condT rfl (by assumption) ?_
        refine sq ?_
        refine sr ?_
        refine sa ?_
        refine so ?_
        refine T.retF (Lv.fin (RV.tmp rfl rfl) (by rw [decide_eq_false]; rintro rfl; rw [hix] at hiy; exact he (Option.some.inj hiy)))
    · rw [List.take_of_length_le (by omega), List.take_of_length_le (by omega)] at hi1
      refine sq ?_
      refine sr ?_
      refine sv (PV.lss rfl rfl) ?_
      refine so ?_
      refine sq ?_
      refine sd rfl (by omega) ?_
      refine T.exit rfl ?_
      refine sq ?_
      refine sr ?_
      refine sa ?_
      refine so ?_
      exact T.retF (Lv.fin (RV.tmp rfl rfl) (by rw [decide_eq_true hi1]))
  · have hlen2 : ¬ (l.length : Int) = (m.length : Int) := by omega
    refine sq ?_
    refine sr ?_
    refine sa ?_
    refine so ?_
    refine sq ?_
    refine sq ?_
    refine sr ?_
    refine sm ?_
    refine sv (PV.lenSl rfl) ?_
    refine sm ?_
    refine sv (PV.lenSl rfl) ?_
    refine sv (PV.neq rfl rfl) ?_
    refine so ?_
    refine sc rfl (by omega) ?_
    refine sq ?_
    refine sr ?_
    refine sa ?_
    refine so ?_
    exact T.retF (Lv.fin (RV.tmp rfl rfl) (by rw [decide_eq_false]; rintro rfl; exact hlen rfl))
def LnB (x : Ln) : Prop := x.l.length ≤ 100000 ∧ x.m.length ≤ 100000 ∧ x.r.length ≤ 100000
/-- equal lines are found equal -/
theorem same34 (x : Ln) (u v : Value) (H : Hp) (hu : LnR H u x) (hv : LnR H v x) (hb : LnB x) : Fn Tryz.prog 13 #[u, v] H (fun w _ => w = .bool true) := by
  obtain ⟨u1, u2, u3, rfl, hu1, hu2, hu3⟩ := hu
  obtain ⟨v1, v2, v3, rfl, hv1, hv2, hv3⟩ := hv
  have t1 := texts_same x.l x.l u1 v1 H hu1 hv1 hb.1
  have t2 := texts_same x.m x.m u2 v2 H hu2 hv2 hb.2.1
  have t3 := texts_same x.r x.r u3 v3 H hu3 hv3 hb.2.2
  rw [decide_eq_true rfl] at t1 t2 t3
  obtain ⟨a1, c1, rfl⟩ := hu1.len
  obtain ⟨a2, c2, rfl⟩ := hu2.len
  obtain ⟨a3, c3, rfl⟩ := hu3.len
  obtain ⟨a4, c4, rfl⟩ := hv1.len
  obtain ⟨a5, c5, rfl⟩ := hv2.len
  obtain ⟨a6, c6, rfl⟩ := hv3.len
  refine Fn.of_T (vs := [.agg #[.string x.tx, .int .i64 x.off, .slice a1 x.l.length c1, .slice a2 x.m.length c2, .slice a3 x.r.length c3], .agg #[.string x.tx, .int .i64 x.off, .slice a4 x.l.length c4, .slice a5 x.m.length c5, .slice a6 x.r.length c6]]) Tryz.func13 rfl rfl fun w => ?_
  have e1 : decide (x.tx = x.tx) = true := decide_eq_true rfl
  have e2 : decide (x.off = x.off) = true := decide_eq_true rfl
  refine sq ?_
  refine sr ?_
  (refine T.box Wanted.none rfl rfl zq15 ?_; intro b2)
  (refine T.box Wanted.none rfl rfl zq15 ?_; intro b3)
  refine sa ?_
  refine so ?_
  refine sq ?_
  refine sr ?_
  refine sf ?_
  refine sl ?_
  refine sf ?_
  refine sl ?_
  refine sv (PV.seql rfl rfl) ?_
  refine sm ?_
  refine T.pv (PV.fieldAddr rfl) (Wanted.guard rfl rfl (by assumption)) rfl rfl ?_
  refine T.pv (PV.load1 rfl zq0 rfl) (Wanted.guard rfl rfl (by assumption)) rfl rfl ?_
  refine T.pv (PV.fieldAddr rfl) (Wanted.guard rfl rfl (by assumption)) rfl rfl ?_
  refine T.pv (PV.load1 rfl zq0 rfl) (Wanted.guard rfl rfl (by assumption)) rfl rfl ?_
  refine T.pv (PV.eql rfl rfl) (Wanted.guard rfl rfl (by assumption)) rfl rfl ?_
  refine sv (PV.pickT rfl (by assumption) rfl) ?_
  refine sm ?_
  refine T.pv (PV.fieldAddr rfl) (Wanted.guard rfl rfl (by assumption)) rfl rfl ?_
  refine T.pv (PV.load1 rfl zq0 rfl) (Wanted.guard rfl rfl (by assumption)) rfl rfl ?_
  refine T.pv (PV.fieldAddr rfl) (Wanted.guard rfl rfl (by assumption)) rfl rfl ?_
  refine T.pv (PV.load1 rfl zq0 rfl) (Wanted.guard rfl rfl (by assumption)) rfl rfl ?_
  refine T.callV (Wanted.guard rfl rfl (by assumption)) rfl rfl (t1) ?_
  refine sv (PV.pickT rfl (by assumption) rfl) ?_
  refine sm ?_
  refine gf ?_
  refine gl ?_
  refine gf ?_
  refine gl ?_
  refine T.callV (Wanted.guard rfl rfl rfl) rfl rfl (t2) ?_
  refine sT ?_
  refine sm ?_
  refine gf ?_
  refine gl ?_
  refine gf ?_
  refine gl ?_
  refine T.callV (Wanted.guard rfl rfl rfl) rfl rfl (t3) ?_
  refine sT ?_
  refine sa ?_
  refine so ?_
  exact T.retF (Lv.fin (RV.tmp rfl rfl) rfl)
end Go.Proofs.YtlklcjpmfjmenaaGreatDoor
