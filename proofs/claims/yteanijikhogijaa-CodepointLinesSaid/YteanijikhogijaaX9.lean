/- codepoint: the reference's functions. -/
import Derived.Test.YteanijikhogijaaX8
namespace Go.Proofs.Yteanijikhogijaa
open Go.RowKit

theorem foldRune_fn (r : Int) (H : Hp) (hr : 0 ≤ r ∧ r ≤ 1114111) : Fn Try.prog 33 #[.int .i32 r] H (fun v _ => v = .int .i32 (lowerR r)) := by
  refine Fn.of_T (vs := [.int .i32 r]) Try.func33 rfl rfl fun w => ?_
  refine T.seq ?_
  refine T.region ?_
  refine T.pv (PV.assign rfl) Wanted.none rfl rfl ?_
  refine T.opsNil ?_
  refine T.seq ?_
  refine T.block ?_
  refine T.seq ?_
  refine T.seq ?_
  refine T.region ?_
  refine T.pv (PV.move rfl) Wanted.none rfl rfl ?_
  refine T.pv (PV.geq rfl rfl) Wanted.none rfl rfl ?_
  refine T.pv (PV.move rfl) Wanted.none rfl rfl ?_
  refine T.splitD (d := 6) rfl (fun h0 => ?_) (fun h0 => ?_)
  · refine T.pv (PV.move rfl) (Wanted.guard rfl rfl rfl) rfl rfl ?_
    refine T.pv (PV.leq rfl rfl) (Wanted.guard rfl rfl rfl) rfl rfl ?_
    refine T.pv (PV.pickT rfl rfl rfl) Wanted.none rfl rfl ?_
    refine T.pv (PV.assign rfl) Wanted.none rfl rfl ?_
    refine T.opsNil ?_
    refine T.condD rfl (fun h1 => ?_) (fun h1 => ?_)
    · refine T.skip ?_
      refine T.condT rfl (decide_eq_true (by omega)) ?_
      refine T.seq ?_
      refine T.region ?_
      refine T.pv (PV.move rfl) Wanted.none rfl rfl ?_
      refine T.pv (PV.add32 rfl rfl (by omega)) Wanted.none rfl rfl ?_
      refine T.pv (PV.assign rfl) Wanted.none rfl rfl ?_
      refine T.opsNil ?_
      (refine T.retF (Lv.fin (RV.tmp rfl rfl) ?_); congr 1; unfold lowerR; split <;> (try split) <;> omega)
    · refine T.seq ?_
      refine T.region ?_
      refine T.pv (PV.move rfl) Wanted.none rfl rfl ?_
      refine T.pv (PV.geq rfl rfl) Wanted.none rfl rfl ?_
      refine T.pv (PV.move rfl) Wanted.none rfl rfl ?_
      refine T.splitD (d := 12) rfl (fun h2 => ?_) (fun h2 => ?_)
      · refine T.pv (PV.move rfl) (Wanted.guard rfl rfl rfl) rfl rfl ?_
        refine T.pv (PV.leq rfl rfl) (Wanted.guard rfl rfl rfl) rfl rfl ?_
        refine T.pv (PV.pickT rfl rfl rfl) Wanted.none rfl rfl ?_
        refine T.pv (PV.move rfl) Wanted.none rfl rfl ?_
        refine T.splitD (d := 16) rfl (fun h3 => ?_) (fun h3 => ?_)
        · refine T.pv (PV.move rfl) (Wanted.guard rfl rfl rfl) rfl rfl ?_
          refine T.pv (PV.neq rfl rfl) (Wanted.guard rfl rfl rfl) rfl rfl ?_
          refine T.pv (PV.pickT rfl rfl rfl) Wanted.none rfl rfl ?_
          refine T.pv (PV.assign rfl) Wanted.none rfl rfl ?_
          refine T.opsNil ?_
          refine T.condD rfl (fun h4 => ?_) (fun h4 => ?_)
          · refine T.skip ?_
            refine T.condT rfl (decide_eq_true (by omega)) ?_
            refine T.seq ?_
            refine T.region ?_
            refine T.pv (PV.move rfl) Wanted.none rfl rfl ?_
            refine T.pv (PV.add32 rfl rfl (by omega)) Wanted.none rfl rfl ?_
            refine T.pv (PV.assign rfl) Wanted.none rfl rfl ?_
            refine T.opsNil ?_
            (refine T.retF (Lv.fin (RV.tmp rfl rfl) ?_); congr 1; unfold lowerR; split <;> (try split) <;> omega)
          · refine T.seq ?_
            refine T.region ?_
            refine T.pv (PV.move rfl) Wanted.none rfl rfl ?_
            refine T.pv (PV.geq rfl rfl) Wanted.none rfl rfl ?_
            refine T.pv (PV.move rfl) Wanted.none rfl rfl ?_
            refine T.setF (d := 22) rfl (by omega) ?_
            refine T.pass (Unwanted.guard rfl rfl rfl) rfl rfl ?_
            refine T.pass (Unwanted.guard rfl rfl rfl) rfl rfl ?_
            refine T.pv (PV.pickF rfl rfl rfl) Wanted.none rfl rfl ?_
            refine T.pv (PV.move rfl) Wanted.none rfl rfl ?_
            refine T.pass (Unwanted.guard rfl rfl rfl) rfl rfl ?_
            refine T.pass (Unwanted.guard rfl rfl rfl) rfl rfl ?_
            refine T.pv (PV.pickF rfl rfl rfl) Wanted.none rfl rfl ?_
            refine T.pv (PV.assign rfl) Wanted.none rfl rfl ?_
            refine T.opsNil ?_
            refine T.condF rfl rfl ?_
            refine T.region ?_
            refine T.pv (PV.move rfl) Wanted.none rfl rfl ?_
            refine T.pv (PV.geq rfl rfl) Wanted.none rfl rfl ?_
            refine T.pv (PV.move rfl) Wanted.none rfl rfl ?_
            refine T.setF (d := 32) rfl (by omega) ?_
            refine T.pass (Unwanted.guard rfl rfl rfl) rfl rfl ?_
            refine T.pass (Unwanted.guard rfl rfl rfl) rfl rfl ?_
            refine T.pv (PV.pickF rfl rfl rfl) Wanted.none rfl rfl ?_
            refine T.pv (PV.assign rfl) Wanted.none rfl rfl ?_
            refine T.opsNil ?_
            refine T.condF rfl rfl ?_
            refine T.seq ?_
            refine T.region ?_
            refine T.pv (PV.move rfl) Wanted.none rfl rfl ?_
            refine T.pv (PV.geq rfl rfl) Wanted.none rfl rfl ?_
            refine T.pv (PV.move rfl) Wanted.none rfl rfl ?_
            refine T.setF (d := 41) rfl (by omega) ?_
            refine T.pass (Unwanted.guard rfl rfl rfl) rfl rfl ?_
            refine T.pass (Unwanted.guard rfl rfl rfl) rfl rfl ?_
            refine T.pv (PV.pickF rfl rfl rfl) Wanted.none rfl rfl ?_
            refine T.pv (PV.assign rfl) Wanted.none rfl rfl ?_
            refine T.opsNil ?_
            refine T.condF rfl rfl ?_
            refine T.skip ?_
            refine T.blkEnd ?_
            refine T.seq ?_
            refine T.region ?_
            refine T.pv (PV.move rfl) Wanted.none rfl rfl ?_
            refine T.pv (PV.assign rfl) Wanted.none rfl rfl ?_
            refine T.opsNil ?_
            (refine T.retF (Lv.fin (RV.tmp rfl rfl) ?_); congr 1; unfold lowerR; split <;> (try split) <;> omega)
        · refine T.pass (Unwanted.guard rfl rfl rfl) rfl rfl ?_
          refine T.pass (Unwanted.guard rfl rfl rfl) rfl rfl ?_
          refine T.pv (PV.pickF rfl rfl rfl) Wanted.none rfl rfl ?_
          refine T.pv (PV.assign rfl) Wanted.none rfl rfl ?_
          refine T.opsNil ?_
          refine T.condF rfl rfl ?_
          refine T.seq ?_
          refine T.region ?_
          refine T.pv (PV.move rfl) Wanted.none rfl rfl ?_
          refine T.pv (PV.geq rfl rfl) Wanted.none rfl rfl ?_
          refine T.pv (PV.move rfl) Wanted.none rfl rfl ?_
          refine T.splitD (d := 22) rfl (fun h4 => ?_) (fun h4 => ?_)
          · refine T.pv (PV.move rfl) (Wanted.guard rfl rfl rfl) rfl rfl ?_
            refine T.pv (PV.leq rfl rfl) (Wanted.guard rfl rfl rfl) rfl rfl ?_
            refine T.pv (PV.pickT rfl rfl rfl) Wanted.none rfl rfl ?_
            refine T.pv (PV.move rfl) Wanted.none rfl rfl ?_
            refine T.splitD (d := 26) rfl (fun h5 => ?_) (fun h5 => ?_)
            · refine T.pv (PV.move rfl) (Wanted.guard rfl rfl rfl) rfl rfl ?_
              refine T.pv (PV.neq rfl rfl) (Wanted.guard rfl rfl rfl) rfl rfl ?_
              refine T.pv (PV.pickT rfl rfl rfl) Wanted.none rfl rfl ?_
              refine T.pv (PV.assign rfl) Wanted.none rfl rfl ?_
              refine T.opsNil ?_
              refine T.condD rfl (fun h6 => ?_) (fun h6 => ?_)
              · refine T.skip ?_
                refine T.condT rfl (decide_eq_true (by omega)) ?_
                refine T.seq ?_
                refine T.region ?_
                refine T.pv (PV.move rfl) Wanted.none rfl rfl ?_
                refine T.pv (PV.add32 rfl rfl (by omega)) Wanted.none rfl rfl ?_
                refine T.pv (PV.assign rfl) Wanted.none rfl rfl ?_
                refine T.opsNil ?_
                (refine T.retF (Lv.fin (RV.tmp rfl rfl) ?_); congr 1; unfold lowerR; split <;> (try split) <;> omega)
              · refine T.region ?_
                refine T.pv (PV.move rfl) Wanted.none rfl rfl ?_
                refine T.pv (PV.geq rfl rfl) Wanted.none rfl rfl ?_
                refine T.pv (PV.move rfl) Wanted.none rfl rfl ?_
                refine T.setF (d := 32) rfl (by omega) ?_
                refine T.pass (Unwanted.guard rfl rfl rfl) rfl rfl ?_
                refine T.pass (Unwanted.guard rfl rfl rfl) rfl rfl ?_
                refine T.pv (PV.pickF rfl rfl rfl) Wanted.none rfl rfl ?_
                refine T.pv (PV.assign rfl) Wanted.none rfl rfl ?_
                refine T.opsNil ?_
                refine T.condF rfl rfl ?_
                refine T.seq ?_
                refine T.region ?_
                refine T.pv (PV.move rfl) Wanted.none rfl rfl ?_
                refine T.pv (PV.geq rfl rfl) Wanted.none rfl rfl ?_
                refine T.pv (PV.move rfl) Wanted.none rfl rfl ?_
                refine T.setF (d := 41) rfl (by omega) ?_
                refine T.pass (Unwanted.guard rfl rfl rfl) rfl rfl ?_
                refine T.pass (Unwanted.guard rfl rfl rfl) rfl rfl ?_
                refine T.pv (PV.pickF rfl rfl rfl) Wanted.none rfl rfl ?_
                refine T.pv (PV.assign rfl) Wanted.none rfl rfl ?_
                refine T.opsNil ?_
                refine T.condF rfl rfl ?_
                refine T.skip ?_
                refine T.blkEnd ?_
                refine T.seq ?_
                refine T.region ?_
                refine T.pv (PV.move rfl) Wanted.none rfl rfl ?_
                refine T.pv (PV.assign rfl) Wanted.none rfl rfl ?_
                refine T.opsNil ?_
                (refine T.retF (Lv.fin (RV.tmp rfl rfl) ?_); congr 1; unfold lowerR; split <;> (try split) <;> omega)
            · refine T.pass (Unwanted.guard rfl rfl rfl) rfl rfl ?_
              refine T.pass (Unwanted.guard rfl rfl rfl) rfl rfl ?_
              refine T.pv (PV.pickF rfl rfl rfl) Wanted.none rfl rfl ?_
              refine T.pv (PV.assign rfl) Wanted.none rfl rfl ?_
              refine T.opsNil ?_
              refine T.condF rfl rfl ?_
              refine T.region ?_
              refine T.pv (PV.move rfl) Wanted.none rfl rfl ?_
              refine T.pv (PV.geq rfl rfl) Wanted.none rfl rfl ?_
              refine T.pv (PV.move rfl) Wanted.none rfl rfl ?_
              refine T.splitD (d := 32) rfl (fun h6 => ?_) (fun h6 => ?_)
              · refine T.pv (PV.move rfl) (Wanted.guard rfl rfl rfl) rfl rfl ?_
                refine T.pv (PV.leq rfl rfl) (Wanted.guard rfl rfl rfl) rfl rfl ?_
                refine T.pv (PV.pickT rfl rfl rfl) Wanted.none rfl rfl ?_
                refine T.pv (PV.assign rfl) Wanted.none rfl rfl ?_
                refine T.opsNil ?_
                refine T.condD rfl (fun h7 => ?_) (fun h7 => ?_)
                · refine T.seq ?_
                  refine T.region ?_
                  refine T.pv (PV.move rfl) Wanted.none rfl rfl ?_
                  refine T.pv (PV.add32 rfl rfl (by omega)) Wanted.none rfl rfl ?_
                  refine T.pv (PV.assign rfl) Wanted.none rfl rfl ?_
                  refine T.opsNil ?_
                  (refine T.retF (Lv.fin (RV.tmp rfl rfl) ?_); congr 1; unfold lowerR; split <;> (try split) <;> omega)
                · refine T.seq ?_
                  refine T.region ?_
                  refine T.pv (PV.move rfl) Wanted.none rfl rfl ?_
                  refine T.pv (PV.geq rfl rfl) Wanted.none rfl rfl ?_
                  refine T.pv (PV.move rfl) Wanted.none rfl rfl ?_
                  refine T.setT (d := 41) rfl (by omega) ?_
                  refine T.pv (PV.move rfl) (Wanted.guard rfl rfl rfl) rfl rfl ?_
                  refine T.pv (PV.leq rfl rfl) (Wanted.guard rfl rfl rfl) rfl rfl ?_
                  refine T.pv (PV.pickT rfl rfl rfl) Wanted.none rfl rfl ?_
                  refine T.pv (PV.assign rfl) Wanted.none rfl rfl ?_
                  refine T.opsNil ?_
                  refine T.condF rfl (decide_eq_false (by omega)) ?_
                  refine T.skip ?_
                  refine T.blkEnd ?_
                  refine T.seq ?_
                  refine T.region ?_
                  refine T.pv (PV.move rfl) Wanted.none rfl rfl ?_
                  refine T.pv (PV.assign rfl) Wanted.none rfl rfl ?_
                  refine T.opsNil ?_
                  (refine T.retF (Lv.fin (RV.tmp rfl rfl) ?_); congr 1; unfold lowerR; split <;> (try split) <;> omega)
              · refine T.pass (Unwanted.guard rfl rfl rfl) rfl rfl ?_
                refine T.pass (Unwanted.guard rfl rfl rfl) rfl rfl ?_
                refine T.pv (PV.pickF rfl rfl rfl) Wanted.none rfl rfl ?_
                refine T.pv (PV.assign rfl) Wanted.none rfl rfl ?_
                refine T.opsNil ?_
                refine T.condF rfl rfl ?_
                refine T.seq ?_
                refine T.region ?_
                refine T.pv (PV.move rfl) Wanted.none rfl rfl ?_
                refine T.pv (PV.geq rfl rfl) Wanted.none rfl rfl ?_
                refine T.pv (PV.move rfl) Wanted.none rfl rfl ?_
                refine T.splitD (d := 41) rfl (fun h7 => ?_) (fun h7 => ?_)
                · refine T.pv (PV.move rfl) (Wanted.guard rfl rfl rfl) rfl rfl ?_
                  refine T.pv (PV.leq rfl rfl) (Wanted.guard rfl rfl rfl) rfl rfl ?_
                  refine T.pv (PV.pickT rfl rfl rfl) Wanted.none rfl rfl ?_
                  refine T.pv (PV.assign rfl) Wanted.none rfl rfl ?_
                  refine T.opsNil ?_
                  refine T.condT rfl (decide_eq_true (by omega)) ?_
                  refine T.seq ?_
                  refine T.region ?_
                  refine T.pv (PV.move rfl) Wanted.none rfl rfl ?_
                  refine T.pv (PV.add32 rfl rfl (by omega)) Wanted.none rfl rfl ?_
                  refine T.pv (PV.assign rfl) Wanted.none rfl rfl ?_
                  refine T.opsNil ?_
                  (refine T.retF (Lv.fin (RV.tmp rfl rfl) ?_); congr 1; unfold lowerR; split <;> (try split) <;> omega)
                · refine T.pass (Unwanted.guard rfl rfl rfl) rfl rfl ?_
                  refine T.pass (Unwanted.guard rfl rfl rfl) rfl rfl ?_
                  refine T.pv (PV.pickF rfl rfl rfl) Wanted.none rfl rfl ?_
                  refine T.pv (PV.assign rfl) Wanted.none rfl rfl ?_
                  refine T.opsNil ?_
                  refine T.condF rfl rfl ?_
                  refine T.skip ?_
                  refine T.blkEnd ?_
                  refine T.seq ?_
                  refine T.region ?_
                  refine T.pv (PV.move rfl) Wanted.none rfl rfl ?_
                  refine T.pv (PV.assign rfl) Wanted.none rfl rfl ?_
                  refine T.opsNil ?_
                  (refine T.retF (Lv.fin (RV.tmp rfl rfl) ?_); congr 1; unfold lowerR; split <;> (try split) <;> omega)
          · refine T.pass (Unwanted.guard rfl rfl rfl) rfl rfl ?_
            refine T.pass (Unwanted.guard rfl rfl rfl) rfl rfl ?_
            refine T.pv (PV.pickF rfl rfl rfl) Wanted.none rfl rfl ?_
            refine T.pv (PV.move rfl) Wanted.none rfl rfl ?_
            refine T.pass (Unwanted.guard rfl rfl rfl) rfl rfl ?_
            refine T.pass (Unwanted.guard rfl rfl rfl) rfl rfl ?_
            refine T.pv (PV.pickF rfl rfl rfl) Wanted.none rfl rfl ?_
            refine T.pv (PV.assign rfl) Wanted.none rfl rfl ?_
            refine T.opsNil ?_
            refine T.condF rfl rfl ?_
            refine T.region ?_
            refine T.pv (PV.move rfl) Wanted.none rfl rfl ?_
            refine T.pv (PV.geq rfl rfl) Wanted.none rfl rfl ?_
            refine T.pv (PV.move rfl) Wanted.none rfl rfl ?_
            refine T.setF (d := 32) rfl (by omega) ?_
            refine T.pass (Unwanted.guard rfl rfl rfl) rfl rfl ?_
            refine T.pass (Unwanted.guard rfl rfl rfl) rfl rfl ?_
            refine T.pv (PV.pickF rfl rfl rfl) Wanted.none rfl rfl ?_
            refine T.pv (PV.assign rfl) Wanted.none rfl rfl ?_
            refine T.opsNil ?_
            refine T.condF rfl rfl ?_
            refine T.seq ?_
            refine T.region ?_
            refine T.pv (PV.move rfl) Wanted.none rfl rfl ?_
            refine T.pv (PV.geq rfl rfl) Wanted.none rfl rfl ?_
            refine T.pv (PV.move rfl) Wanted.none rfl rfl ?_
            refine T.setF (d := 41) rfl (by omega) ?_
            refine T.pass (Unwanted.guard rfl rfl rfl) rfl rfl ?_
            refine T.pass (Unwanted.guard rfl rfl rfl) rfl rfl ?_
            refine T.pv (PV.pickF rfl rfl rfl) Wanted.none rfl rfl ?_
            refine T.pv (PV.assign rfl) Wanted.none rfl rfl ?_
            refine T.opsNil ?_
            refine T.condF rfl rfl ?_
            refine T.skip ?_
            refine T.blkEnd ?_
            refine T.seq ?_
            refine T.region ?_
            refine T.pv (PV.move rfl) Wanted.none rfl rfl ?_
            refine T.pv (PV.assign rfl) Wanted.none rfl rfl ?_
            refine T.opsNil ?_
            (refine T.retF (Lv.fin (RV.tmp rfl rfl) ?_); congr 1; unfold lowerR; split <;> (try split) <;> omega)
      · refine T.pass (Unwanted.guard rfl rfl rfl) rfl rfl ?_
        refine T.pass (Unwanted.guard rfl rfl rfl) rfl rfl ?_
        refine T.pv (PV.pickF rfl rfl rfl) Wanted.none rfl rfl ?_
        refine T.pv (PV.move rfl) Wanted.none rfl rfl ?_
        refine T.pass (Unwanted.guard rfl rfl rfl) rfl rfl ?_
        refine T.pass (Unwanted.guard rfl rfl rfl) rfl rfl ?_
        refine T.pv (PV.pickF rfl rfl rfl) Wanted.none rfl rfl ?_
        refine T.pv (PV.assign rfl) Wanted.none rfl rfl ?_
        refine T.opsNil ?_
        refine T.condF rfl rfl ?_
        refine T.seq ?_
        refine T.region ?_
        refine T.pv (PV.move rfl) Wanted.none rfl rfl ?_
        refine T.pv (PV.geq rfl rfl) Wanted.none rfl rfl ?_
        refine T.pv (PV.move rfl) Wanted.none rfl rfl ?_
        refine T.setF (d := 22) rfl (by omega) ?_
        refine T.pass (Unwanted.guard rfl rfl rfl) rfl rfl ?_
        refine T.pass (Unwanted.guard rfl rfl rfl) rfl rfl ?_
        refine T.pv (PV.pickF rfl rfl rfl) Wanted.none rfl rfl ?_
        refine T.pv (PV.move rfl) Wanted.none rfl rfl ?_
        refine T.pass (Unwanted.guard rfl rfl rfl) rfl rfl ?_
        refine T.pass (Unwanted.guard rfl rfl rfl) rfl rfl ?_
        refine T.pv (PV.pickF rfl rfl rfl) Wanted.none rfl rfl ?_
        refine T.pv (PV.assign rfl) Wanted.none rfl rfl ?_
        refine T.opsNil ?_
        refine T.condF rfl rfl ?_
        refine T.region ?_
        refine T.pv (PV.move rfl) Wanted.none rfl rfl ?_
        refine T.pv (PV.geq rfl rfl) Wanted.none rfl rfl ?_
        refine T.pv (PV.move rfl) Wanted.none rfl rfl ?_
        refine T.setF (d := 32) rfl (by omega) ?_
        refine T.pass (Unwanted.guard rfl rfl rfl) rfl rfl ?_
        refine T.pass (Unwanted.guard rfl rfl rfl) rfl rfl ?_
        refine T.pv (PV.pickF rfl rfl rfl) Wanted.none rfl rfl ?_
        refine T.pv (PV.assign rfl) Wanted.none rfl rfl ?_
        refine T.opsNil ?_
        refine T.condF rfl rfl ?_
        refine T.seq ?_
        refine T.region ?_
        refine T.pv (PV.move rfl) Wanted.none rfl rfl ?_
        refine T.pv (PV.geq rfl rfl) Wanted.none rfl rfl ?_
        refine T.pv (PV.move rfl) Wanted.none rfl rfl ?_
        refine T.setF (d := 41) rfl (by omega) ?_
        refine T.pass (Unwanted.guard rfl rfl rfl) rfl rfl ?_
        refine T.pass (Unwanted.guard rfl rfl rfl) rfl rfl ?_
        refine T.pv (PV.pickF rfl rfl rfl) Wanted.none rfl rfl ?_
        refine T.pv (PV.assign rfl) Wanted.none rfl rfl ?_
        refine T.opsNil ?_
        refine T.condF rfl rfl ?_
        refine T.skip ?_
        refine T.blkEnd ?_
        refine T.seq ?_
        refine T.region ?_
        refine T.pv (PV.move rfl) Wanted.none rfl rfl ?_
        refine T.pv (PV.assign rfl) Wanted.none rfl rfl ?_
        refine T.opsNil ?_
        (refine T.retF (Lv.fin (RV.tmp rfl rfl) ?_); congr 1; unfold lowerR; split <;> (try split) <;> omega)
  · refine T.pass (Unwanted.guard rfl rfl rfl) rfl rfl ?_
    refine T.pass (Unwanted.guard rfl rfl rfl) rfl rfl ?_
    refine T.pv (PV.pickF rfl rfl rfl) Wanted.none rfl rfl ?_
    refine T.pv (PV.assign rfl) Wanted.none rfl rfl ?_
    refine T.opsNil ?_
    refine T.condF rfl rfl ?_
    refine T.seq ?_
    refine T.region ?_
    refine T.pv (PV.move rfl) Wanted.none rfl rfl ?_
    refine T.pv (PV.geq rfl rfl) Wanted.none rfl rfl ?_
    refine T.pv (PV.move rfl) Wanted.none rfl rfl ?_
    refine T.setF (d := 12) rfl (by omega) ?_
    refine T.pass (Unwanted.guard rfl rfl rfl) rfl rfl ?_
    refine T.pass (Unwanted.guard rfl rfl rfl) rfl rfl ?_
    refine T.pv (PV.pickF rfl rfl rfl) Wanted.none rfl rfl ?_
    refine T.pv (PV.move rfl) Wanted.none rfl rfl ?_
    refine T.pass (Unwanted.guard rfl rfl rfl) rfl rfl ?_
    refine T.pass (Unwanted.guard rfl rfl rfl) rfl rfl ?_
    refine T.pv (PV.pickF rfl rfl rfl) Wanted.none rfl rfl ?_
    refine T.pv (PV.assign rfl) Wanted.none rfl rfl ?_
    refine T.opsNil ?_
    refine T.condF rfl rfl ?_
    refine T.seq ?_
    refine T.region ?_
    refine T.pv (PV.move rfl) Wanted.none rfl rfl ?_
    refine T.pv (PV.geq rfl rfl) Wanted.none rfl rfl ?_
    refine T.pv (PV.move rfl) Wanted.none rfl rfl ?_
    refine T.setF (d := 22) rfl (by omega) ?_
    refine T.pass (Unwanted.guard rfl rfl rfl) rfl rfl ?_
    refine T.pass (Unwanted.guard rfl rfl rfl) rfl rfl ?_
    refine T.pv (PV.pickF rfl rfl rfl) Wanted.none rfl rfl ?_
    refine T.pv (PV.move rfl) Wanted.none rfl rfl ?_
    refine T.pass (Unwanted.guard rfl rfl rfl) rfl rfl ?_
    refine T.pass (Unwanted.guard rfl rfl rfl) rfl rfl ?_
    refine T.pv (PV.pickF rfl rfl rfl) Wanted.none rfl rfl ?_
    refine T.pv (PV.assign rfl) Wanted.none rfl rfl ?_
    refine T.opsNil ?_
    refine T.condF rfl rfl ?_
    refine T.region ?_
    refine T.pv (PV.move rfl) Wanted.none rfl rfl ?_
    refine T.pv (PV.geq rfl rfl) Wanted.none rfl rfl ?_
    refine T.pv (PV.move rfl) Wanted.none rfl rfl ?_
    refine T.setF (d := 32) rfl (by omega) ?_
    refine T.pass (Unwanted.guard rfl rfl rfl) rfl rfl ?_
    refine T.pass (Unwanted.guard rfl rfl rfl) rfl rfl ?_
    refine T.pv (PV.pickF rfl rfl rfl) Wanted.none rfl rfl ?_
    refine T.pv (PV.assign rfl) Wanted.none rfl rfl ?_
    refine T.opsNil ?_
    refine T.condF rfl rfl ?_
    refine T.seq ?_
    refine T.region ?_
    refine T.pv (PV.move rfl) Wanted.none rfl rfl ?_
    refine T.pv (PV.geq rfl rfl) Wanted.none rfl rfl ?_
    refine T.pv (PV.move rfl) Wanted.none rfl rfl ?_
    refine T.setF (d := 41) rfl (by omega) ?_
    refine T.pass (Unwanted.guard rfl rfl rfl) rfl rfl ?_
    refine T.pass (Unwanted.guard rfl rfl rfl) rfl rfl ?_
    refine T.pv (PV.pickF rfl rfl rfl) Wanted.none rfl rfl ?_
    refine T.pv (PV.assign rfl) Wanted.none rfl rfl ?_
    refine T.opsNil ?_
    refine T.condF rfl rfl ?_
    refine T.skip ?_
    refine T.blkEnd ?_
    refine T.seq ?_
    refine T.region ?_
    refine T.pv (PV.move rfl) Wanted.none rfl rfl ?_
    refine T.pv (PV.assign rfl) Wanted.none rfl rfl ?_
    refine T.opsNil ?_
    (refine T.retF (Lv.fin (RV.tmp rfl rfl) ?_); congr 1; unfold lowerR; split <;> (try split) <;> omega)
theorem sign_fn (n : Int) (H : Hp) : Fn Try.prog 35 #[.int .i64 n] H (fun v _ => v = .int .i64 (if n < 0 then -1 else if 0 < n then 1 else 0)) := by
  refine Fn.of_T (vs := [.int .i64 n]) Try.func35 rfl rfl fun w => ?_
  refine T.seq ?_
  refine T.region ?_
  refine T.pv (PV.assign rfl) Wanted.none rfl rfl ?_
  refine T.opsNil ?_
  refine T.seq ?_
  refine T.block ?_
  refine T.seq ?_
  refine T.region ?_
  refine T.pv (PV.move rfl) Wanted.none rfl rfl ?_
  refine T.pv (PV.lss rfl rfl) Wanted.none rfl rfl ?_
  refine T.pv (PV.assign rfl) Wanted.none rfl rfl ?_
  refine T.opsNil ?_
  refine T.condD rfl (fun h0 => ?_) (fun h0 => ?_)
  · refine T.seq ?_
    refine T.region ?_
    refine T.pv (PV.assign rfl) Wanted.none rfl rfl ?_
    refine T.opsNil ?_
    (refine T.retF (Lv.fin (RV.tmp rfl rfl) ?_); congr 1; split <;> (try split) <;> omega)
  · refine T.seq ?_
    refine T.region ?_
    refine T.pv (PV.move rfl) Wanted.none rfl rfl ?_
    refine T.pv (PV.gtr rfl rfl) Wanted.none rfl rfl ?_
    refine T.pv (PV.assign rfl) Wanted.none rfl rfl ?_
    refine T.opsNil ?_
    refine T.condD rfl (fun h1 => ?_) (fun h1 => ?_)
    · refine T.seq ?_
      refine T.region ?_
      refine T.pv (PV.assign rfl) Wanted.none rfl rfl ?_
      refine T.opsNil ?_
      (refine T.retF (Lv.fin (RV.tmp rfl rfl) ?_); congr 1; split <;> (try split) <;> omega)
    · refine T.skip ?_
      refine T.blkEnd ?_
      refine T.seq ?_
      refine T.region ?_
      refine T.pv (PV.assign rfl) Wanted.none rfl rfl ?_
      refine T.opsNil ?_
      (refine T.retF (Lv.fin (RV.tmp rfl rfl) ?_); congr 1; split <;> (try split) <;> omega)

set_option maxHeartbeats 1000000 in
theorem refValid_fn (s : ByteArray) (H : Hp) (hs : s.size ≤ 4000) : Fn Try.prog 24 #[.string s] H (fun v _ => v = .bool (validS s)) := by
  refine Fn.of_T (vs := [.string s]) Try.func24 rfl rfl fun w => ?_
  refine T.seq ?_
  refine T.region ?_
  refine T.pv (PV.assign rfl) Wanted.none rfl rfl ?_
  refine T.opsNil ?_
  refine T.seq ?_
  refine T.seq ?_
  refine T.region ?_
  refine T.pv (PV.move rfl) Wanted.none rfl rfl ?_
  refine T.call Wanted.none rfl rfl (refUnits_fn s H hs) ?_
  intro vl H1 hH1 hsl
  obtain ⟨adl, capl, rfl⟩ := hsl.len
  have hul := units_len s
  refine T.pv (PV.lenSl rfl) Wanted.none rfl rfl ?_
  refine T.pv (PV.move rfl) Wanted.none rfl rfl ?_
  refine T.opsNil ?_
  refine T.block ?_
  refine T.loop (γ := Nat) (fun i => i ≤ (units s).length ∧ ((units s).take i).all okU = true)
    (fun i => [(8, .int .i64 (i : Int)), (7, .int .i64 ((units s).length : Int)), (6, .slice adl (units s).length capl)])
    (fun _ => []) (fun _ => H1) (fun i => (units s).length - i) 0 ⟨by simp, by simp⟩ (by repeat (first | exact trivial | refine And.intro rfl ?_)) (by repeat (first | exact List.Sublist.slnil | exact List.nil_sublist _ | exact List.Sublist.refl _ | exact List.sublist_append_left _ [] | apply List.Sublist.cons_cons | apply List.Sublist.cons | refine List.Sublist.append_left ?_ _)) rfl ?_
  rintro i ⟨h1, h2⟩
  by_cases hi : i < (units s).length
  · obtain ⟨x, hx⟩ : ∃ x, (units s)[i]? = some x := ⟨_, List.getElem?_eq_getElem hi⟩
    obtain ⟨b, off, cap', hve, hsub⟩ := hsl.elem (i := i) (by omega) (flat_elem encF_len (units s) i x hx)
    injection hve with e1 e2 e3
    subst e1 e3
    refine T.seq ?_
    refine T.region ?_
    refine T.pv (PV.lss rfl rfl) Wanted.none rfl rfl ?_
    refine T.opsNil ?_
    refine T.seq ?_
    refine T.condT rfl (decide_eq_true (by omega)) ?_
    refine T.skip ?_
    refine T.seq ?_
    refine T.block ?_
    refine T.seq ?_
    refine T.region ?_
    refine T.pv (PV.indexAddr rfl rfl (by omega)) Wanted.none rfl rfl ?_
    refine T.pv (PV.loadSubAll rfl (by assumption) (by exact rfl)) Wanted.none rfl rfl ?_
    (refine T.alloc Wanted.none rfl ?_; intro b4)
    refine T.storeA Wanted.none rfl rfl (by repeat (first | exact trivial | refine And.intro rfl ?_)) (by exact rfl) (by repeat (first | exact Upd.head | apply Upd.tail | apply Upd.app)) (by repeat (first | exact Splice.nil | apply Splice.cons | apply Splice.skip)) ?_
    refine T.opsNil ?_
    refine T.seq ?_
    refine T.region ?_
    refine T.pv (PV.fieldAddr rfl) Wanted.none rfl rfl ?_
    refine T.pv (PV.load1 rfl (by first | exact .fro (by assumption) | exact .own (by repeat (first | exact List.Mem.head _ | apply List.Mem.tail | apply List.mem_append_right))) rfl) Wanted.none rfl rfl ?_
    refine T.pv (PV.not rfl) Wanted.none rfl rfl ?_
    refine T.opsNil ?_
    refine T.cond rfl (fun hc => ?_) (fun hc => ?_)
    · refine T.seq ?_
      refine T.region ?_
      refine T.pv (PV.assign rfl) Wanted.none rfl rfl ?_
      refine T.opsNil ?_
      refine T.retF (Lv.fin (RV.tmp rfl rfl) ?_)
      rw [validS]
      congr 1
      symm
      rw [Bool.eq_false_iff]
      intro hall
      rw [List.all_eq_true.1 hall x (List.mem_of_getElem? hx)] at hc
      simp at hc
    · refine T.skip ?_
      refine T.blkEnd ?_
      refine T.region ?_
      refine T.pv (PV.add rfl rfl (by omega)) Wanted.none rfl rfl ?_
      refine T.pv (PV.move rfl) Wanted.none rfl rfl ?_
      refine T.opsNil ?_
      refine T.next (i + 1) ⟨by omega, ?_⟩ (by omega) (by repeat (first | exact trivial | refine And.intro rfl ?_)) (by repeat (first | exact List.Sublist.slnil | exact List.nil_sublist _ | exact List.Sublist.refl _ | exact List.sublist_append_left _ [] | apply List.Sublist.cons_cons | apply List.Sublist.cons | refine List.Sublist.append_left ?_ _)) rfl
      rw [List.take_add_one, hx, List.all_append, h2]
      simpa using hc
  · refine T.seq ?_
    refine T.region ?_
    refine T.pv (PV.lss rfl rfl) Wanted.none rfl rfl ?_
    refine T.opsNil ?_
    refine T.seq ?_
    refine T.condF rfl (decide_eq_false (by omega)) ?_
    refine T.exit rfl ?_
    refine T.seq ?_
    refine T.region ?_
    refine T.pv (PV.assign rfl) Wanted.none rfl rfl ?_
    refine T.opsNil ?_
    refine T.retF (Lv.fin (RV.tmp rfl rfl) ?_)
    rw [List.take_of_length_le (by omega)] at h2
    rw [validS, h2]
set_option maxHeartbeats 1000000 in
theorem refAt_fn (s : ByteArray) (i : Int) (H : Hp) (hs : s.size ≤ 4000) (hi : -9223372036854775808 ≤ i ∧ i ≤ 9223372036854775807) : Fn Try.prog 21 #[.string s, .int .i64 i] H (fun v _ => v = atL (units s) i) := by
  refine Fn.of_T (vs := [.string s, .int .i64 i]) Try.func21 rfl rfl fun w => ?_
  refine T.seq ?_
  refine T.region ?_
  refine T.pv (PV.assign rfl) Wanted.none rfl rfl ?_
  refine T.pv (PV.assign rfl) Wanted.none rfl rfl ?_
  refine T.pv (PV.assign rfl) Wanted.none rfl rfl ?_
  refine T.pv (PV.assign rfl) Wanted.none rfl rfl ?_
  refine T.opsNil ?_
  refine T.seq ?_
  refine T.region ?_
  refine T.pv (PV.move rfl) Wanted.none rfl rfl ?_
  refine T.call Wanted.none rfl rfl (refUnits_fn s H hs) ?_
  intro vl H1 hH1 hsl
  obtain ⟨adl, capl, rfl⟩ := hsl.len
  have hul := units_len s
  refine T.pv (PV.assign rfl) Wanted.none rfl rfl ?_
  refine T.opsNil ?_
  refine T.seq ?_
  refine T.seq ?_
  refine T.region ?_
  refine T.pv (PV.move rfl) Wanted.none rfl rfl ?_
  refine T.pv (PV.lss rfl rfl) Wanted.none rfl rfl ?_
  refine T.pv (PV.move rfl) Wanted.none rfl rfl ?_
  by_cases h0 : i < 0
  · refine T.setT (d := 13) rfl (by omega) ?_
    refine T.pass (Unwanted.guard rfl rfl rfl) rfl rfl ?_
    refine T.pass (Unwanted.guard rfl rfl rfl) rfl rfl ?_
    refine T.pass (Unwanted.guard rfl rfl rfl) rfl rfl ?_
    refine T.pass (Unwanted.guard rfl rfl rfl) rfl rfl ?_
    refine T.pv (PV.pickT rfl rfl rfl) Wanted.none rfl rfl ?_
    refine T.opsNil ?_
    refine T.condT rfl rfl ?_
    refine T.seq ?_
    refine T.region ?_
    refine T.pv (PV.assign rfl) Wanted.none rfl rfl ?_
    refine T.pv (PV.assign rfl) Wanted.none rfl rfl ?_
    refine T.pv (PV.assign rfl) Wanted.none rfl rfl ?_
    refine T.pv (PV.assign rfl) Wanted.none rfl rfl ?_
    refine T.opsNil ?_
    refine T.retF (Lv.fin (by first | exact RV.tmp rfl rfl | exact RV.tmp2 rfl rfl rfl | exact RV.tmp3 rfl rfl rfl rfl | exact RV.tmp4 rfl rfl rfl rfl rfl | exact RV.cell rfl (by first | exact CV.agg rfl (by first | exact .fro (by assumption) | exact .own (by repeat (first | exact List.Mem.head _ | apply List.Mem.tail | apply List.mem_append_right))) (by exact rfl) | exact CV.one rfl (by first | exact .fro (by assumption) | exact .own (by repeat (first | exact List.Mem.head _ | apply List.Mem.tail | apply List.mem_append_right))) rfl) | exact RV.cell2 rfl (by first | exact CV.agg rfl (by first | exact .fro (by assumption) | exact .own (by repeat (first | exact List.Mem.head _ | apply List.Mem.tail | apply List.mem_append_right))) (by exact rfl) | exact CV.one rfl (by first | exact .fro (by assumption) | exact .own (by repeat (first | exact List.Mem.head _ | apply List.Mem.tail | apply List.mem_append_right))) rfl) (by first | exact CV.agg rfl (by first | exact .fro (by assumption) | exact .own (by repeat (first | exact List.Mem.head _ | apply List.Mem.tail | apply List.mem_append_right))) (by exact rfl) | exact CV.one rfl (by first | exact .fro (by assumption) | exact .own (by repeat (first | exact List.Mem.head _ | apply List.Mem.tail | apply List.mem_append_right))) rfl) | exact RV.cell4 rfl (by first | exact CV.agg rfl (by first | exact .fro (by assumption) | exact .own (by repeat (first | exact List.Mem.head _ | apply List.Mem.tail | apply List.mem_append_right))) (by exact rfl) | exact CV.one rfl (by first | exact .fro (by assumption) | exact .own (by repeat (first | exact List.Mem.head _ | apply List.Mem.tail | apply List.mem_append_right))) rfl) (by first | exact CV.agg rfl (by first | exact .fro (by assumption) | exact .own (by repeat (first | exact List.Mem.head _ | apply List.Mem.tail | apply List.mem_append_right))) (by exact rfl) | exact CV.one rfl (by first | exact .fro (by assumption) | exact .own (by repeat (first | exact List.Mem.head _ | apply List.Mem.tail | apply List.mem_append_right))) rfl) (by first | exact CV.agg rfl (by first | exact .fro (by assumption) | exact .own (by repeat (first | exact List.Mem.head _ | apply List.Mem.tail | apply List.mem_append_right))) (by exact rfl) | exact CV.one rfl (by first | exact .fro (by assumption) | exact .own (by repeat (first | exact List.Mem.head _ | apply List.Mem.tail | apply List.mem_append_right))) rfl) (by first | exact CV.agg rfl (by first | exact .fro (by assumption) | exact .own (by repeat (first | exact List.Mem.head _ | apply List.Mem.tail | apply List.mem_append_right))) (by exact rfl) | exact CV.one rfl (by first | exact .fro (by assumption) | exact .own (by repeat (first | exact List.Mem.head _ | apply List.Mem.tail | apply List.mem_append_right))) rfl) | exact RV.none rfl) ?_)
    unfold atL
    rw [if_pos h0]
  · by_cases h1 : i < (units s).length
    · obtain ⟨x, hx⟩ : ∃ x, (units s)[i.toNat]? = some x := ⟨_, List.getElem?_eq_getElem (by omega)⟩
      obtain ⟨b, off, cap', hve, hsub⟩ := hsl.elem (i := i.toNat) (by omega) (flat_elem encF_len (units s) i.toNat x hx)
      injection hve with e1 e2 e3
      subst e1 e3
      have hat : atL (units s) i = .tuple #[.int .i32 (x.r : Int), .int .i64 (x.at_ : Int), .int .i64 (x.sz : Int), .bool true] := by unfold atL; rw [if_neg h0, hx]
      rw [hat]
      refine T.setF (d := 13) rfl (by omega) ?_
      refine T.pv (PV.move rfl) (Wanted.guard rfl rfl rfl) rfl rfl ?_
      refine T.pv (PV.move rfl) (Wanted.guard rfl rfl rfl) rfl rfl ?_
      refine T.pv (PV.lenSl rfl) (Wanted.guard rfl rfl rfl) rfl rfl ?_
      refine T.pv (PV.geq rfl rfl) (Wanted.guard rfl rfl rfl) rfl rfl ?_
      refine T.pv (PV.pickF rfl rfl rfl) Wanted.none rfl rfl ?_
      refine T.opsNil ?_
      refine T.condF rfl (decide_eq_false (by omega)) ?_
      refine T.skip ?_
      refine T.seq ?_
      refine T.regionQ (by kernel_rfl) ?_
      refine TQ.pv (PV.move rfl) Wanted.none rfl rfl ?_
      refine TQ.pv (PV.move rfl) Wanted.none rfl rfl ?_
      refine TQ.pv (PV.indexAddr rfl rfl (by omega)) Wanted.none rfl rfl ?_
      refine TQ.pv (PV.fieldAddr rfl) Wanted.none rfl rfl ?_
      refine TQ.pv (PV.loadSub rfl (by assumption) rfl) Wanted.none rfl rfl ?_
      refine TQ.pv (PV.move rfl) Wanted.none rfl rfl ?_
      refine TQ.pv (PV.move rfl) Wanted.none rfl rfl ?_
      refine TQ.pv (PV.indexAddr rfl rfl (by omega)) Wanted.none rfl rfl ?_
      refine TQ.pv (PV.fieldAddr rfl) Wanted.none rfl rfl ?_
      refine TQ.pv (PV.loadSub rfl (by assumption) rfl) Wanted.none rfl rfl ?_
      refine TQ.pv (PV.move rfl) Wanted.none rfl rfl ?_
      refine TQ.pv (PV.move rfl) Wanted.none rfl rfl ?_
      refine TQ.pv (PV.indexAddr rfl rfl (by omega)) Wanted.none rfl rfl ?_
      refine TQ.pv (PV.fieldAddr rfl) Wanted.none rfl rfl ?_
      refine TQ.pv (PV.loadSub rfl (by assumption) rfl) Wanted.none rfl rfl ?_
      refine TQ.pv (PV.assign rfl) Wanted.none rfl rfl ?_
      refine TQ.pv (PV.assign rfl) Wanted.none rfl rfl ?_
      refine TQ.pv (PV.assign rfl) Wanted.none rfl rfl ?_
      refine TQ.pv (PV.assign rfl) Wanted.none rfl rfl ?_
      refine TQ.nil ?_
      refine T.retF (Lv.fin (by first | exact RV.tmp rfl rfl | exact RV.tmp2 rfl rfl rfl | exact RV.tmp3 rfl rfl rfl rfl | exact RV.tmp4 rfl rfl rfl rfl rfl | exact RV.cell rfl (by first | exact CV.agg rfl (by first | exact .fro (by assumption) | exact .own (by repeat (first | exact List.Mem.head _ | apply List.Mem.tail | apply List.mem_append_right))) (by exact rfl) | exact CV.one rfl (by first | exact .fro (by assumption) | exact .own (by repeat (first | exact List.Mem.head _ | apply List.Mem.tail | apply List.mem_append_right))) rfl) | exact RV.cell2 rfl (by first | exact CV.agg rfl (by first | exact .fro (by assumption) | exact .own (by repeat (first | exact List.Mem.head _ | apply List.Mem.tail | apply List.mem_append_right))) (by exact rfl) | exact CV.one rfl (by first | exact .fro (by assumption) | exact .own (by repeat (first | exact List.Mem.head _ | apply List.Mem.tail | apply List.mem_append_right))) rfl) (by first | exact CV.agg rfl (by first | exact .fro (by assumption) | exact .own (by repeat (first | exact List.Mem.head _ | apply List.Mem.tail | apply List.mem_append_right))) (by exact rfl) | exact CV.one rfl (by first | exact .fro (by assumption) | exact .own (by repeat (first | exact List.Mem.head _ | apply List.Mem.tail | apply List.mem_append_right))) rfl) | exact RV.cell4 rfl (by first | exact CV.agg rfl (by first | exact .fro (by assumption) | exact .own (by repeat (first | exact List.Mem.head _ | apply List.Mem.tail | apply List.mem_append_right))) (by exact rfl) | exact CV.one rfl (by first | exact .fro (by assumption) | exact .own (by repeat (first | exact List.Mem.head _ | apply List.Mem.tail | apply List.mem_append_right))) rfl) (by first | exact CV.agg rfl (by first | exact .fro (by assumption) | exact .own (by repeat (first | exact List.Mem.head _ | apply List.Mem.tail | apply List.mem_append_right))) (by exact rfl) | exact CV.one rfl (by first | exact .fro (by assumption) | exact .own (by repeat (first | exact List.Mem.head _ | apply List.Mem.tail | apply List.mem_append_right))) rfl) (by first | exact CV.agg rfl (by first | exact .fro (by assumption) | exact .own (by repeat (first | exact List.Mem.head _ | apply List.Mem.tail | apply List.mem_append_right))) (by exact rfl) | exact CV.one rfl (by first | exact .fro (by assumption) | exact .own (by repeat (first | exact List.Mem.head _ | apply List.Mem.tail | apply List.mem_append_right))) rfl) (by first | exact CV.agg rfl (by first | exact .fro (by assumption) | exact .own (by repeat (first | exact List.Mem.head _ | apply List.Mem.tail | apply List.mem_append_right))) (by exact rfl) | exact CV.one rfl (by first | exact .fro (by assumption) | exact .own (by repeat (first | exact List.Mem.head _ | apply List.Mem.tail | apply List.mem_append_right))) rfl) | exact RV.none rfl) rfl)
    · have hat : atL (units s) i = .tuple #[.int .i32 0, .int .i64 0, .int .i64 0, .bool false] := by unfold atL; rw [if_neg h0, List.getElem?_eq_none (by omega)]
      rw [hat]
      refine T.setF (d := 13) rfl (by omega) ?_
      refine T.pv (PV.move rfl) (Wanted.guard rfl rfl rfl) rfl rfl ?_
      refine T.pv (PV.move rfl) (Wanted.guard rfl rfl rfl) rfl rfl ?_
      refine T.pv (PV.lenSl rfl) (Wanted.guard rfl rfl rfl) rfl rfl ?_
      refine T.pv (PV.geq rfl rfl) (Wanted.guard rfl rfl rfl) rfl rfl ?_
      refine T.pv (PV.pickF rfl rfl rfl) Wanted.none rfl rfl ?_
      refine T.opsNil ?_
      refine T.condT rfl (decide_eq_true (by omega)) ?_
      refine T.seq ?_
      refine T.region ?_
      refine T.pv (PV.assign rfl) Wanted.none rfl rfl ?_
      refine T.pv (PV.assign rfl) Wanted.none rfl rfl ?_
      refine T.pv (PV.assign rfl) Wanted.none rfl rfl ?_
      refine T.pv (PV.assign rfl) Wanted.none rfl rfl ?_
      refine T.opsNil ?_
      refine T.retF (Lv.fin (by first | exact RV.tmp rfl rfl | exact RV.tmp2 rfl rfl rfl | exact RV.tmp3 rfl rfl rfl rfl | exact RV.tmp4 rfl rfl rfl rfl rfl | exact RV.cell rfl (by first | exact CV.agg rfl (by first | exact .fro (by assumption) | exact .own (by repeat (first | exact List.Mem.head _ | apply List.Mem.tail | apply List.mem_append_right))) (by exact rfl) | exact CV.one rfl (by first | exact .fro (by assumption) | exact .own (by repeat (first | exact List.Mem.head _ | apply List.Mem.tail | apply List.mem_append_right))) rfl) | exact RV.cell2 rfl (by first | exact CV.agg rfl (by first | exact .fro (by assumption) | exact .own (by repeat (first | exact List.Mem.head _ | apply List.Mem.tail | apply List.mem_append_right))) (by exact rfl) | exact CV.one rfl (by first | exact .fro (by assumption) | exact .own (by repeat (first | exact List.Mem.head _ | apply List.Mem.tail | apply List.mem_append_right))) rfl) (by first | exact CV.agg rfl (by first | exact .fro (by assumption) | exact .own (by repeat (first | exact List.Mem.head _ | apply List.Mem.tail | apply List.mem_append_right))) (by exact rfl) | exact CV.one rfl (by first | exact .fro (by assumption) | exact .own (by repeat (first | exact List.Mem.head _ | apply List.Mem.tail | apply List.mem_append_right))) rfl) | exact RV.cell4 rfl (by first | exact CV.agg rfl (by first | exact .fro (by assumption) | exact .own (by repeat (first | exact List.Mem.head _ | apply List.Mem.tail | apply List.mem_append_right))) (by exact rfl) | exact CV.one rfl (by first | exact .fro (by assumption) | exact .own (by repeat (first | exact List.Mem.head _ | apply List.Mem.tail | apply List.mem_append_right))) rfl) (by first | exact CV.agg rfl (by first | exact .fro (by assumption) | exact .own (by repeat (first | exact List.Mem.head _ | apply List.Mem.tail | apply List.mem_append_right))) (by exact rfl) | exact CV.one rfl (by first | exact .fro (by assumption) | exact .own (by repeat (first | exact List.Mem.head _ | apply List.Mem.tail | apply List.mem_append_right))) rfl) (by first | exact CV.agg rfl (by first | exact .fro (by assumption) | exact .own (by repeat (first | exact List.Mem.head _ | apply List.Mem.tail | apply List.mem_append_right))) (by exact rfl) | exact CV.one rfl (by first | exact .fro (by assumption) | exact .own (by repeat (first | exact List.Mem.head _ | apply List.Mem.tail | apply List.mem_append_right))) rfl) (by first | exact CV.agg rfl (by first | exact .fro (by assumption) | exact .own (by repeat (first | exact List.Mem.head _ | apply List.Mem.tail | apply List.mem_append_right))) (by exact rfl) | exact CV.one rfl (by first | exact .fro (by assumption) | exact .own (by repeat (first | exact List.Mem.head _ | apply List.Mem.tail | apply List.mem_append_right))) rfl) | exact RV.none rfl) rfl)
set_option maxHeartbeats 1000000 in
theorem refPosition_fn (s : ByteArray) (i : Int) (H : Hp) (hs : s.size ≤ 4000) : Fn Try.prog 15 #[.string s, .int .i64 i] H (fun v _ => v = .agg #[.int .i64 (posOf s i).1, .int .i64 (posOf s i).2]) := by
  refine Fn.of_T (vs := [.string s, .int .i64 i]) Try.func15 rfl rfl fun w => ?_
  refine T.seq ?_
  refine T.region ?_
  (refine T.alloc Wanted.none rfl ?_; intro b4)
  refine T.opsNil ?_
  refine T.seq ?_
  refine T.region ?_
  refine T.pv (PV.move rfl) Wanted.none rfl rfl ?_
  refine T.pv (PV.max2 rfl rfl) Wanted.none rfl rfl ?_
  refine T.pv (PV.move rfl) Wanted.none rfl rfl ?_
  refine T.pv (PV.lenStr rfl) Wanted.none rfl rfl ?_
  refine T.pv (PV.min2 rfl rfl) Wanted.none rfl rfl ?_
  refine T.pv (PV.assign rfl) Wanted.none rfl rfl ?_
  refine T.opsNil ?_
  refine T.seq ?_
  refine T.region ?_
  refine T.pv (PV.build rfl (by repeat (first | exact FillR.nil | (apply FillR.cons rfl; (first | exact CellsR.one rfl | exact CellsR.agg); rfl; repeat (first | exact Splice.nil | apply Splice.cons | apply Splice.skip))))) Wanted.none rfl rfl ?_
  (refine T.alloc Wanted.none rfl ?_; intro b5)
  refine T.storeA Wanted.none rfl rfl (by repeat (first | exact trivial | refine And.intro rfl ?_)) (by exact rfl) (by repeat (first | exact Upd.head | apply Upd.tail | apply Upd.app)) (by repeat (first | exact Splice.nil | apply Splice.cons | apply Splice.skip)) ?_
  refine T.opsNil ?_
  refine T.seq ?_
  refine T.seq ?_
  refine T.region ?_
  refine T.pv (PV.move rfl) Wanted.none rfl rfl ?_
  refine T.call Wanted.none rfl rfl (refUnits_fn s H hs) ?_
  intro vl H1 hH1 hsl
  obtain ⟨adl, capl, rfl⟩ := hsl.len
  have hul := units_len s
  refine T.pv (PV.lenSl rfl) Wanted.none rfl rfl ?_
  refine T.pv (PV.move rfl) Wanted.none rfl rfl ?_
  refine T.opsNil ?_
  refine T.block ?_
  refine T.loop (γ := Nat × Int × Int) (fun g => g.1 ≤ (units s).length ∧ 1 ≤ g.2.1 ∧ g.2.1 ≤ g.1 + 1 ∧ 1 ≤ g.2.2 ∧ g.2.2 ≤ g.1 + 1 ∧ posL i ((units s).drop g.1) g.2.1 g.2.2 = posOf s i)
    (fun g => [(17, .int .i64 (g.1 : Int)), (16, .int .i64 ((units s).length : Int)), (15, .slice adl (units s).length capl), (1, .int .i64 (min (max i 0) s.size)), (5, .pointer (some ⟨b5, 0, none⟩)), (4, .pointer (some ⟨b4, 0, none⟩))])
    (fun g => [(b5, .cells #[.int .i64 g.2.1, .int .i64 g.2.2] 24 (0, 0)), (b4, .cells #[.int .i64 0, .int .i64 0] 24 (0, 0))]) (fun _ => H1) (fun g => (units s).length - g.1) (0, 1, 1) ⟨by simp, by simp, by simp, by simp, by simp, by simp [posOf]⟩ (by repeat (first | exact trivial | refine And.intro rfl ?_)) (by repeat (first | exact List.Sublist.slnil | exact List.nil_sublist _ | exact List.Sublist.refl _ | exact List.sublist_append_left _ [] | apply List.Sublist.cons_cons | apply List.Sublist.cons | refine List.Sublist.append_left ?_ _)) rfl ?_
  rintro ⟨k, line, col⟩ ⟨h1, h2, h3, h4, h5, h6⟩
  dsimp only at h1 h2 h3 h4 h5 h6 ⊢
  by_cases hi : k < (units s).length
  · obtain ⟨x, hx⟩ : ∃ x, (units s)[k]? = some x := ⟨_, List.getElem?_eq_getElem hi⟩
    obtain ⟨m1, m2, m3, m4, m5⟩ := units_mem (List.mem_of_getElem? hx)
    have hdr : (units s).drop k = x :: (units s).drop (k + 1) := by
      rw [List.drop_eq_getElem_cons (by omega), (List.getElem?_eq_some_iff.1 hx).2]
    rw [hdr, posL] at h6
    obtain ⟨b, off, cap', hve, hsub⟩ := hsl.elem (i := k) (by omega) (flat_elem encF_len (units s) k x hx)
    injection hve with e1 e2 e3
    subst e1 e3
    by_cases hst : i ≤ (x.at_ : Int)
    · rw [if_pos hst] at h6
      refine T.seq ?_
      refine T.region ?_
      refine T.pv (PV.lss rfl rfl) Wanted.none rfl rfl ?_
      refine T.opsNil ?_
      refine T.seq ?_
      refine T.condT rfl (decide_eq_true (by omega)) ?_
      refine T.skip ?_
      refine T.seq ?_
      refine T.block ?_
      refine T.seq ?_
      refine T.region ?_
      refine T.pv (PV.indexAddr rfl rfl (by omega)) Wanted.none rfl rfl ?_
      refine T.pv (PV.loadSubAll rfl (by assumption) (by exact rfl)) Wanted.none rfl rfl ?_
      (refine T.alloc Wanted.none rfl ?_; intro b7)
      refine T.storeA Wanted.none rfl rfl (by repeat (first | exact trivial | refine And.intro rfl ?_)) (by exact rfl) (by repeat (first | exact Upd.head | apply Upd.tail | apply Upd.app)) (by repeat (first | exact Splice.nil | apply Splice.cons | apply Splice.skip)) ?_
      refine T.opsNil ?_
      refine T.seq ?_
      refine T.seq ?_
      refine T.region ?_
      refine T.pv (PV.fieldAddr rfl) Wanted.none rfl rfl ?_
      refine T.pv (PV.load1 rfl (by first | exact .fro (by assumption) | exact .own (by repeat (first | exact List.Mem.head _ | apply List.Mem.tail | apply List.mem_append_right))) rfl) Wanted.none rfl rfl ?_
      refine T.pv (PV.move rfl) Wanted.none rfl rfl ?_
      refine T.pv (PV.geq rfl rfl) Wanted.none rfl rfl ?_
      refine T.opsNil ?_
      refine T.condT rfl (decide_eq_true (by omega)) ?_
      refine T.exit rfl ?_
      refine T.seq ?_
      refine T.region ?_
      refine T.pv (PV.loadAll rfl (by first | exact .fro (by assumption) | exact .own (by repeat (first | exact List.Mem.head _ | apply List.Mem.tail | apply List.mem_append_right))) (by exact rfl)) Wanted.none rfl rfl ?_
      refine T.storeA Wanted.none rfl rfl (by repeat (first | exact trivial | refine And.intro rfl ?_)) (by exact rfl) (by repeat (first | exact Upd.head | apply Upd.tail | apply Upd.app)) (by repeat (first | exact Splice.nil | apply Splice.cons | apply Splice.skip)) ?_
      refine T.opsNil ?_
      refine T.retF (Lv.fin (by first | exact RV.tmp rfl rfl | exact RV.tmp2 rfl rfl rfl | exact RV.tmp3 rfl rfl rfl rfl | exact RV.tmp4 rfl rfl rfl rfl rfl | exact RV.cell rfl (by first | exact CV.agg rfl (by first | exact .fro (by assumption) | exact .own (by repeat (first | exact List.Mem.head _ | apply List.Mem.tail | apply List.mem_append_right))) (by exact rfl) | exact CV.one rfl (by first | exact .fro (by assumption) | exact .own (by repeat (first | exact List.Mem.head _ | apply List.Mem.tail | apply List.mem_append_right))) rfl) | exact RV.cell2 rfl (by first | exact CV.agg rfl (by first | exact .fro (by assumption) | exact .own (by repeat (first | exact List.Mem.head _ | apply List.Mem.tail | apply List.mem_append_right))) (by exact rfl) | exact CV.one rfl (by first | exact .fro (by assumption) | exact .own (by repeat (first | exact List.Mem.head _ | apply List.Mem.tail | apply List.mem_append_right))) rfl) (by first | exact CV.agg rfl (by first | exact .fro (by assumption) | exact .own (by repeat (first | exact List.Mem.head _ | apply List.Mem.tail | apply List.mem_append_right))) (by exact rfl) | exact CV.one rfl (by first | exact .fro (by assumption) | exact .own (by repeat (first | exact List.Mem.head _ | apply List.Mem.tail | apply List.mem_append_right))) rfl) | exact RV.cell4 rfl (by first | exact CV.agg rfl (by first | exact .fro (by assumption) | exact .own (by repeat (first | exact List.Mem.head _ | apply List.Mem.tail | apply List.mem_append_right))) (by exact rfl) | exact CV.one rfl (by first | exact .fro (by assumption) | exact .own (by repeat (first | exact List.Mem.head _ | apply List.Mem.tail | apply List.mem_append_right))) rfl) (by first | exact CV.agg rfl (by first | exact .fro (by assumption) | exact .own (by repeat (first | exact List.Mem.head _ | apply List.Mem.tail | apply List.mem_append_right))) (by exact rfl) | exact CV.one rfl (by first | exact .fro (by assumption) | exact .own (by repeat (first | exact List.Mem.head _ | apply List.Mem.tail | apply List.mem_append_right))) rfl) (by first | exact CV.agg rfl (by first | exact .fro (by assumption) | exact .own (by repeat (first | exact List.Mem.head _ | apply List.Mem.tail | apply List.mem_append_right))) (by exact rfl) | exact CV.one rfl (by first | exact .fro (by assumption) | exact .own (by repeat (first | exact List.Mem.head _ | apply List.Mem.tail | apply List.mem_append_right))) rfl) (by first | exact CV.agg rfl (by first | exact .fro (by assumption) | exact .own (by repeat (first | exact List.Mem.head _ | apply List.Mem.tail | apply List.mem_append_right))) (by exact rfl) | exact CV.one rfl (by first | exact .fro (by assumption) | exact .own (by repeat (first | exact List.Mem.head _ | apply List.Mem.tail | apply List.mem_append_right))) rfl) | exact RV.none rfl) ?_)
      rw [← h6]
    · rw [if_neg hst] at h6
      by_cases hnl : x.r = 10
      · rw [if_pos hnl] at h6
        refine T.seq ?_
        refine T.region ?_
        refine T.pv (PV.lss rfl rfl) Wanted.none rfl rfl ?_
        refine T.opsNil ?_
        refine T.seq ?_
        refine T.condT rfl (decide_eq_true (by omega)) ?_
        refine T.skip ?_
        refine T.seq ?_
        refine T.block ?_
        refine T.seq ?_
        refine T.region ?_
        refine T.pv (PV.indexAddr rfl rfl (by omega)) Wanted.none rfl rfl ?_
        refine T.pv (PV.loadSubAll rfl (by assumption) (by exact rfl)) Wanted.none rfl rfl ?_
        (refine T.alloc Wanted.none rfl ?_; intro b7)
        refine T.storeA Wanted.none rfl rfl (by repeat (first | exact trivial | refine And.intro rfl ?_)) (by exact rfl) (by repeat (first | exact Upd.head | apply Upd.tail | apply Upd.app)) (by repeat (first | exact Splice.nil | apply Splice.cons | apply Splice.skip)) ?_
        refine T.opsNil ?_
        refine T.seq ?_
        refine T.seq ?_
        refine T.region ?_
        refine T.pv (PV.fieldAddr rfl) Wanted.none rfl rfl ?_
        refine T.pv (PV.load1 rfl (by first | exact .fro (by assumption) | exact .own (by repeat (first | exact List.Mem.head _ | apply List.Mem.tail | apply List.mem_append_right))) rfl) Wanted.none rfl rfl ?_
        refine T.pv (PV.move rfl) Wanted.none rfl rfl ?_
        refine T.pv (PV.geq rfl rfl) Wanted.none rfl rfl ?_
        refine T.opsNil ?_
        refine T.condF rfl (decide_eq_false (by omega)) ?_
        refine T.skip ?_
        refine T.seq ?_
        refine T.region ?_
        refine T.pv (PV.fieldAddr rfl) Wanted.none rfl rfl ?_
        refine T.pv (PV.load1 rfl (by first | exact .fro (by assumption) | exact .own (by repeat (first | exact List.Mem.head _ | apply List.Mem.tail | apply List.mem_append_right))) rfl) Wanted.none rfl rfl ?_
        refine T.pv (PV.add rfl rfl (by omega)) Wanted.none rfl rfl ?_
        refine T.pv (PV.fieldAddr rfl) Wanted.none rfl rfl ?_
        refine T.store1 Wanted.none rfl rfl rfl (by repeat (first | exact Upd.head | apply Upd.tail | apply Upd.app)) (by repeat (first | exact Splice.nil | apply Splice.cons | apply Splice.skip)) ?_
        refine T.opsNil ?_
        refine T.seq ?_
        refine T.region ?_
        refine T.pv (PV.fieldAddr rfl) Wanted.none rfl rfl ?_
        refine T.pv (PV.load1 rfl (by first | exact .fro (by assumption) | exact .own (by repeat (first | exact List.Mem.head _ | apply List.Mem.tail | apply List.mem_append_right))) rfl) Wanted.none rfl rfl ?_
        refine T.pv (PV.eql rfl rfl) Wanted.none rfl rfl ?_
        refine T.opsNil ?_
        refine T.condT rfl (decide_eq_true (by omega)) ?_
        refine T.seq ?_
        refine T.region ?_
        refine T.pv (PV.fieldAddr rfl) Wanted.none rfl rfl ?_
        refine T.pv (PV.load1 rfl (by first | exact .fro (by assumption) | exact .own (by repeat (first | exact List.Mem.head _ | apply List.Mem.tail | apply List.mem_append_right))) rfl) Wanted.none rfl rfl ?_
        refine T.pv (PV.add rfl rfl (by omega)) Wanted.none rfl rfl ?_
        refine T.pv (PV.fieldAddr rfl) Wanted.none rfl rfl ?_
        refine T.store1 Wanted.none rfl rfl rfl (by repeat (first | exact Upd.head | apply Upd.tail | apply Upd.app)) (by repeat (first | exact Splice.nil | apply Splice.cons | apply Splice.skip)) ?_
        refine T.opsNil ?_
        refine T.region ?_
        refine T.pv (PV.fieldAddr rfl) Wanted.none rfl rfl ?_
        refine T.store1 Wanted.none rfl rfl rfl (by repeat (first | exact Upd.head | apply Upd.tail | apply Upd.app)) (by repeat (first | exact Splice.nil | apply Splice.cons | apply Splice.skip)) ?_
        refine T.opsNil ?_
        refine T.blkEnd ?_
        refine T.region ?_
        refine T.pv (PV.add rfl rfl (by omega)) Wanted.none rfl rfl ?_
        refine T.pv (PV.move rfl) Wanted.none rfl rfl ?_
        refine T.opsNil ?_
        exact T.next (k + 1, line + 1, 1) ⟨by dsimp only; omega, by dsimp only; omega, by dsimp only; omega, by dsimp only; omega, by dsimp only; omega, h6⟩ (by dsimp only; omega) (by repeat (first | exact trivial | refine And.intro rfl ?_)) (by repeat (first | exact List.Sublist.slnil | exact List.nil_sublist _ | exact List.Sublist.refl _ | exact List.sublist_append_left _ [] | apply List.Sublist.cons_cons | apply List.Sublist.cons | refine List.Sublist.append_left ?_ _)) rfl
      · rw [if_neg hnl] at h6
        refine T.seq ?_
        refine T.region ?_
        refine T.pv (PV.lss rfl rfl) Wanted.none rfl rfl ?_
        refine T.opsNil ?_
        refine T.seq ?_
        refine T.condT rfl (decide_eq_true (by omega)) ?_
        refine T.skip ?_
        refine T.seq ?_
        refine T.block ?_
        refine T.seq ?_
        refine T.region ?_
        refine T.pv (PV.indexAddr rfl rfl (by omega)) Wanted.none rfl rfl ?_
        refine T.pv (PV.loadSubAll rfl (by assumption) (by exact rfl)) Wanted.none rfl rfl ?_
        (refine T.alloc Wanted.none rfl ?_; intro b7)
        refine T.storeA Wanted.none rfl rfl (by repeat (first | exact trivial | refine And.intro rfl ?_)) (by exact rfl) (by repeat (first | exact Upd.head | apply Upd.tail | apply Upd.app)) (by repeat (first | exact Splice.nil | apply Splice.cons | apply Splice.skip)) ?_
        refine T.opsNil ?_
        refine T.seq ?_
        refine T.seq ?_
        refine T.region ?_
        refine T.pv (PV.fieldAddr rfl) Wanted.none rfl rfl ?_
        refine T.pv (PV.load1 rfl (by first | exact .fro (by assumption) | exact .own (by repeat (first | exact List.Mem.head _ | apply List.Mem.tail | apply List.mem_append_right))) rfl) Wanted.none rfl rfl ?_
        refine T.pv (PV.move rfl) Wanted.none rfl rfl ?_
        refine T.pv (PV.geq rfl rfl) Wanted.none rfl rfl ?_
        refine T.opsNil ?_
        refine T.condF rfl (decide_eq_false (by omega)) ?_
        refine T.skip ?_
        refine T.seq ?_
        refine T.region ?_
        refine T.pv (PV.fieldAddr rfl) Wanted.none rfl rfl ?_
        refine T.pv (PV.load1 rfl (by first | exact .fro (by assumption) | exact .own (by repeat (first | exact List.Mem.head _ | apply List.Mem.tail | apply List.mem_append_right))) rfl) Wanted.none rfl rfl ?_
        refine T.pv (PV.add rfl rfl (by omega)) Wanted.none rfl rfl ?_
        refine T.pv (PV.fieldAddr rfl) Wanted.none rfl rfl ?_
        refine T.store1 Wanted.none rfl rfl rfl (by repeat (first | exact Upd.head | apply Upd.tail | apply Upd.app)) (by repeat (first | exact Splice.nil | apply Splice.cons | apply Splice.skip)) ?_
        refine T.opsNil ?_
        refine T.seq ?_
        refine T.region ?_
        refine T.pv (PV.fieldAddr rfl) Wanted.none rfl rfl ?_
        refine T.pv (PV.load1 rfl (by first | exact .fro (by assumption) | exact .own (by repeat (first | exact List.Mem.head _ | apply List.Mem.tail | apply List.mem_append_right))) rfl) Wanted.none rfl rfl ?_
        refine T.pv (PV.eql rfl rfl) Wanted.none rfl rfl ?_
        refine T.opsNil ?_
        refine T.condF rfl (decide_eq_false (by omega)) ?_
        refine T.skip ?_
        refine T.blkEnd ?_
        refine T.region ?_
        refine T.pv (PV.add rfl rfl (by omega)) Wanted.none rfl rfl ?_
        refine T.pv (PV.move rfl) Wanted.none rfl rfl ?_
        refine T.opsNil ?_
        exact T.next (k + 1, line, col + 1) ⟨by dsimp only; omega, by dsimp only; omega, by dsimp only; omega, by dsimp only; omega, by dsimp only; omega, h6⟩ (by dsimp only; omega) (by repeat (first | exact trivial | refine And.intro rfl ?_)) (by repeat (first | exact List.Sublist.slnil | exact List.nil_sublist _ | exact List.Sublist.refl _ | exact List.sublist_append_left _ [] | apply List.Sublist.cons_cons | apply List.Sublist.cons | refine List.Sublist.append_left ?_ _)) rfl
  · rw [List.drop_of_length_le (by omega), posL] at h6
    refine T.seq ?_
    refine T.region ?_
    refine T.pv (PV.lss rfl rfl) Wanted.none rfl rfl ?_
    refine T.opsNil ?_
    refine T.seq ?_
    refine T.condF rfl (decide_eq_false (by omega)) ?_
    refine T.exit rfl ?_
    refine T.seq ?_
    refine T.region ?_
    refine T.pv (PV.loadAll rfl (by first | exact .fro (by assumption) | exact .own (by repeat (first | exact List.Mem.head _ | apply List.Mem.tail | apply List.mem_append_right))) (by exact rfl)) Wanted.none rfl rfl ?_
    refine T.storeA Wanted.none rfl rfl (by repeat (first | exact trivial | refine And.intro rfl ?_)) (by exact rfl) (by repeat (first | exact Upd.head | apply Upd.tail | apply Upd.app)) (by repeat (first | exact Splice.nil | apply Splice.cons | apply Splice.skip)) ?_
    refine T.opsNil ?_
    refine T.retF (Lv.fin (by first | exact RV.tmp rfl rfl | exact RV.tmp2 rfl rfl rfl | exact RV.tmp3 rfl rfl rfl rfl | exact RV.tmp4 rfl rfl rfl rfl rfl | exact RV.cell rfl (by first | exact CV.agg rfl (by first | exact .fro (by assumption) | exact .own (by repeat (first | exact List.Mem.head _ | apply List.Mem.tail | apply List.mem_append_right))) (by exact rfl) | exact CV.one rfl (by first | exact .fro (by assumption) | exact .own (by repeat (first | exact List.Mem.head _ | apply List.Mem.tail | apply List.mem_append_right))) rfl) | exact RV.cell2 rfl (by first | exact CV.agg rfl (by first | exact .fro (by assumption) | exact .own (by repeat (first | exact List.Mem.head _ | apply List.Mem.tail | apply List.mem_append_right))) (by exact rfl) | exact CV.one rfl (by first | exact .fro (by assumption) | exact .own (by repeat (first | exact List.Mem.head _ | apply List.Mem.tail | apply List.mem_append_right))) rfl) (by first | exact CV.agg rfl (by first | exact .fro (by assumption) | exact .own (by repeat (first | exact List.Mem.head _ | apply List.Mem.tail | apply List.mem_append_right))) (by exact rfl) | exact CV.one rfl (by first | exact .fro (by assumption) | exact .own (by repeat (first | exact List.Mem.head _ | apply List.Mem.tail | apply List.mem_append_right))) rfl) | exact RV.cell4 rfl (by first | exact CV.agg rfl (by first | exact .fro (by assumption) | exact .own (by repeat (first | exact List.Mem.head _ | apply List.Mem.tail | apply List.mem_append_right))) (by exact rfl) | exact CV.one rfl (by first | exact .fro (by assumption) | exact .own (by repeat (first | exact List.Mem.head _ | apply List.Mem.tail | apply List.mem_append_right))) rfl) (by first | exact CV.agg rfl (by first | exact .fro (by assumption) | exact .own (by repeat (first | exact List.Mem.head _ | apply List.Mem.tail | apply List.mem_append_right))) (by exact rfl) | exact CV.one rfl (by first | exact .fro (by assumption) | exact .own (by repeat (first | exact List.Mem.head _ | apply List.Mem.tail | apply List.mem_append_right))) rfl) (by first | exact CV.agg rfl (by first | exact .fro (by assumption) | exact .own (by repeat (first | exact List.Mem.head _ | apply List.Mem.tail | apply List.mem_append_right))) (by exact rfl) | exact CV.one rfl (by first | exact .fro (by assumption) | exact .own (by repeat (first | exact List.Mem.head _ | apply List.Mem.tail | apply List.mem_append_right))) rfl) (by first | exact CV.agg rfl (by first | exact .fro (by assumption) | exact .own (by repeat (first | exact List.Mem.head _ | apply List.Mem.tail | apply List.mem_append_right))) (by exact rfl) | exact CV.one rfl (by first | exact .fro (by assumption) | exact .own (by repeat (first | exact List.Mem.head _ | apply List.Mem.tail | apply List.mem_append_right))) rfl) | exact RV.none rfl) ?_)
    rw [← h6]
set_option maxHeartbeats 1000000 in
theorem refFold_fn (s : ByteArray) (H : Hp) (hs : s.size ≤ 4000) : Fn Try.prog 26 #[.string s] H (fun v _ => v = .string ⟨(foldL s).toArray⟩) := by
  refine Fn.of_T (vs := [.string s]) Try.func26 rfl rfl fun w => ?_
  refine T.seq ?_
  refine T.region ?_
  refine T.pv (PV.assign rfl) Wanted.none rfl rfl ?_
  refine T.opsNil ?_
  refine T.seq ?_
  refine T.region ?_
  refine T.pv (PV.assign rfl) Wanted.none rfl rfl ?_
  refine T.opsNil ?_
  refine T.seq ?_
  refine T.seq ?_
  refine T.region ?_
  refine T.pv (PV.move rfl) Wanted.none rfl rfl ?_
  refine T.call Wanted.none rfl rfl (refUnits_fn s H hs) ?_
  intro vl H1 hH1 hsl
  obtain ⟨adl, capl, rfl⟩ := hsl.len
  have hul := units_len s
  refine T.pv (PV.lenSl rfl) Wanted.none rfl rfl ?_
  refine T.pv (PV.move rfl) Wanted.none rfl rfl ?_
  refine T.opsNil ?_
  refine T.block ?_
  refine T.loop (γ := Nat) (fun i => i ≤ (units s).length)
    (fun i => [(0, .string s), (9, .int .i64 (i : Int)), (8, .int .i64 ((units s).length : Int)), (7, .slice adl (units s).length capl), (3, .string ⟨(((units s).take i).flatMap (foldU s)).toArray⟩)])
    (fun _ => []) (fun _ => H1) (fun i => (units s).length - i) 0 (by simp) (by repeat (first | exact trivial | refine And.intro rfl ?_)) (by repeat (first | exact List.Sublist.slnil | exact List.nil_sublist _ | exact List.Sublist.refl _ | exact List.sublist_append_left _ [] | apply List.Sublist.cons_cons | apply List.Sublist.cons | refine List.Sublist.append_left ?_ _)) rfl ?_
  intro i h1
  by_cases hi : i < (units s).length
  · obtain ⟨x, hx⟩ : ∃ x, (units s)[i]? = some x := ⟨_, List.getElem?_eq_getElem hi⟩
    obtain ⟨m1, m2, m3, m4, m5⟩ := units_mem (List.mem_of_getElem? hx)
    obtain ⟨b, off, cap', hve, hsub⟩ := hsl.elem (i := i) (by omega) (flat_elem encF_len (units s) i x hx)
    injection hve with e1 e2 e3
    subst e1 e3
    have hbound := fold_len s i hs
    have hel := encode_le (lowerR x.r)
    have hpl := piece_le s x
    have hz1 : ByteArray.size ⟨(((units s).take i).flatMap (foldU s)).toArray⟩ ≤ 4 * 4000 := by simpa [ByteArray.size] using hbound
    have hz2 : ByteArray.size ⟨(piece s x).toArray⟩ ≤ 4 := by
      have : ByteArray.size ⟨(piece s x).toArray⟩ = (piece s x).length := by simp [ByteArray.size]
      omega
    have hfa : ((units s).take (i + 1)).flatMap (foldU s) = ((units s).take i).flatMap (foldU s) ++ foldU s x := by rw [List.take_add_one, hx]; simp
    have happ : ∀ l : List UInt8, l = foldU s x → (⟨(((units s).take i).flatMap (foldU s)).toArray⟩ : ByteArray) ++ ⟨l.toArray⟩ = ⟨(((units s).take (i + 1)).flatMap (foldU s)).toArray⟩ := by
      rintro l rfl
      rw [hfa]
      exact congrArg ByteArray.mk (by simp)
    by_cases hok : okU x = true
    · by_cases hlo : lowerR x.r = x.r
      · have hlo' : decide (lowerR x.r ≠ x.r) = false := by simp [hlo]
        refine T.seq ?_
        refine T.region ?_
        refine T.pv (PV.lss rfl rfl) Wanted.none rfl rfl ?_
        refine T.opsNil ?_
        refine T.seq ?_
        refine T.condT rfl (decide_eq_true (by omega)) ?_
        refine T.skip ?_
        refine T.seq ?_
        refine T.block ?_
        refine T.seq ?_
        refine T.region ?_
        refine T.pv (PV.indexAddr rfl rfl (by omega)) Wanted.none rfl rfl ?_
        refine T.pv (PV.loadSubAll rfl (by assumption) (by exact rfl)) Wanted.none rfl rfl ?_
        (refine T.alloc Wanted.none rfl ?_; intro b5)
        refine T.storeA Wanted.none rfl rfl (by repeat (first | exact trivial | refine And.intro rfl ?_)) (by exact rfl) (by repeat (first | exact Upd.head | apply Upd.tail | apply Upd.app)) (by repeat (first | exact Splice.nil | apply Splice.cons | apply Splice.skip)) ?_
        refine T.opsNil ?_
        refine T.seq ?_
        refine T.regionQ (by kernel_rfl) ?_
        refine TQ.pv (PV.fieldAddr rfl) Wanted.none rfl rfl ?_
        refine TQ.pv (PV.load1 rfl (by first | exact .fro (by assumption) | exact .own (by repeat (first | exact List.Mem.head _ | apply List.Mem.tail | apply List.mem_append_right))) rfl) Wanted.none rfl rfl ?_
        refine TQ.pv (PV.move rfl) Wanted.none rfl rfl ?_
        refine TQ.pv (PV.fieldAddr rfl) (Wanted.guard rfl rfl (by assumption)) rfl rfl ?_
        refine TQ.pv (PV.load1 rfl (by first | exact .fro (by assumption) | exact .own (by repeat (first | exact List.Mem.head _ | apply List.Mem.tail | apply List.mem_append_right))) rfl) (Wanted.guard rfl rfl (by assumption)) rfl rfl ?_
        refine TQ.callV (Wanted.guard rfl rfl (by assumption)) rfl rfl (foldRune_fn x.r H1 (by omega)) ?_
        refine TQ.pv (PV.fieldAddr rfl) (Wanted.guard rfl rfl (by assumption)) rfl rfl ?_
        refine TQ.pv (PV.load1 rfl (by first | exact .fro (by assumption) | exact .own (by repeat (first | exact List.Mem.head _ | apply List.Mem.tail | apply List.mem_append_right))) rfl) (Wanted.guard rfl rfl (by assumption)) rfl rfl ?_
        refine TQ.pv (PV.neq rfl rfl) (Wanted.guard rfl rfl (by assumption)) rfl rfl ?_
        refine TQ.pv (PV.pickT rfl (by assumption) rfl) Wanted.none rfl rfl ?_
        refine TQ.nil ?_
        refine T.condF rfl (by assumption) ?_
        refine T.region ?_
        refine T.pv (PV.move rfl) Wanted.none rfl rfl ?_
        refine T.pv (PV.move rfl) Wanted.none rfl rfl ?_
        refine T.pv (PV.fieldAddr rfl) Wanted.none rfl rfl ?_
        refine T.pv (PV.load1 rfl (by first | exact .fro (by assumption) | exact .own (by repeat (first | exact List.Mem.head _ | apply List.Mem.tail | apply List.mem_append_right))) rfl) Wanted.none rfl rfl ?_
        refine T.pv (PV.fieldAddr rfl) Wanted.none rfl rfl ?_
        refine T.pv (PV.load1 rfl (by first | exact .fro (by assumption) | exact .own (by repeat (first | exact List.Mem.head _ | apply List.Mem.tail | apply List.mem_append_right))) rfl) Wanted.none rfl rfl ?_
        refine T.pv (PV.fieldAddr rfl) Wanted.none rfl rfl ?_
        refine T.pv (PV.load1 rfl (by first | exact .fro (by assumption) | exact .own (by repeat (first | exact List.Mem.head _ | apply List.Mem.tail | apply List.mem_append_right))) rfl) Wanted.none rfl rfl ?_
        refine T.pv (PV.add rfl rfl (by omega)) Wanted.none rfl rfl ?_
        refine T.pv (PV.sliceStr rfl rfl rfl (by omega)) Wanted.none rfl rfl ?_
        rw [extract_piece]
        refine T.pv (PV.sadd rfl rfl ?_) Wanted.none rfl rfl ?_
        · omega
        rw [happ _ (by unfold foldU; rw [if_neg (by simpa using hlo)])]
        refine T.pv (PV.assign rfl) Wanted.none rfl rfl ?_
        refine T.opsNil ?_
        refine T.blkEnd ?_
        refine T.region ?_
        refine T.pv (PV.add rfl rfl (by omega)) Wanted.none rfl rfl ?_
        refine T.pv (PV.move rfl) Wanted.none rfl rfl ?_
        refine T.opsNil ?_
        exact T.next (i + 1) (by omega) (by omega) (by repeat (first | exact trivial | refine And.intro rfl ?_)) (by repeat (first | exact List.Sublist.slnil | exact List.nil_sublist _ | exact List.Sublist.refl _ | exact List.sublist_append_left _ [] | apply List.Sublist.cons_cons | apply List.Sublist.cons | refine List.Sublist.append_left ?_ _)) rfl
      · have hlo' : decide (lowerR x.r ≠ x.r) = true := by simp [hlo]
        refine T.seq ?_
        refine T.region ?_
        refine T.pv (PV.lss rfl rfl) Wanted.none rfl rfl ?_
        refine T.opsNil ?_
        refine T.seq ?_
        refine T.condT rfl (decide_eq_true (by omega)) ?_
        refine T.skip ?_
        refine T.seq ?_
        refine T.block ?_
        refine T.seq ?_
        refine T.region ?_
        refine T.pv (PV.indexAddr rfl rfl (by omega)) Wanted.none rfl rfl ?_
        refine T.pv (PV.loadSubAll rfl (by assumption) (by exact rfl)) Wanted.none rfl rfl ?_
        (refine T.alloc Wanted.none rfl ?_; intro b5)
        refine T.storeA Wanted.none rfl rfl (by repeat (first | exact trivial | refine And.intro rfl ?_)) (by exact rfl) (by repeat (first | exact Upd.head | apply Upd.tail | apply Upd.app)) (by repeat (first | exact Splice.nil | apply Splice.cons | apply Splice.skip)) ?_
        refine T.opsNil ?_
        refine T.seq ?_
        refine T.regionQ (by kernel_rfl) ?_
        refine TQ.pv (PV.fieldAddr rfl) Wanted.none rfl rfl ?_
        refine TQ.pv (PV.load1 rfl (by first | exact .fro (by assumption) | exact .own (by repeat (first | exact List.Mem.head _ | apply List.Mem.tail | apply List.mem_append_right))) rfl) Wanted.none rfl rfl ?_
        refine TQ.pv (PV.move rfl) Wanted.none rfl rfl ?_
        refine TQ.pv (PV.fieldAddr rfl) (Wanted.guard rfl rfl (by assumption)) rfl rfl ?_
        refine TQ.pv (PV.load1 rfl (by first | exact .fro (by assumption) | exact .own (by repeat (first | exact List.Mem.head _ | apply List.Mem.tail | apply List.mem_append_right))) rfl) (Wanted.guard rfl rfl (by assumption)) rfl rfl ?_
        refine TQ.callV (Wanted.guard rfl rfl (by assumption)) rfl rfl (foldRune_fn x.r H1 (by omega)) ?_
        refine TQ.pv (PV.fieldAddr rfl) (Wanted.guard rfl rfl (by assumption)) rfl rfl ?_
        refine TQ.pv (PV.load1 rfl (by first | exact .fro (by assumption) | exact .own (by repeat (first | exact List.Mem.head _ | apply List.Mem.tail | apply List.mem_append_right))) rfl) (Wanted.guard rfl rfl (by assumption)) rfl rfl ?_
        refine TQ.pv (PV.neq rfl rfl) (Wanted.guard rfl rfl (by assumption)) rfl rfl ?_
        refine TQ.pv (PV.pickT rfl (by assumption) rfl) Wanted.none rfl rfl ?_
        refine TQ.nil ?_
        refine T.condT rfl (by assumption) ?_
        refine T.region ?_
        refine T.pv (PV.move rfl) Wanted.none rfl rfl ?_
        refine T.pv (PV.fieldAddr rfl) Wanted.none rfl rfl ?_
        refine T.pv (PV.load1 rfl (by first | exact .fro (by assumption) | exact .own (by repeat (first | exact List.Mem.head _ | apply List.Mem.tail | apply List.mem_append_right))) rfl) Wanted.none rfl rfl ?_
        refine T.callV Wanted.none rfl rfl (foldRune_fn x.r H1 (by omega)) ?_
        refine T.pv (PV.convRune rfl) Wanted.none rfl rfl ?_
        refine T.pv (PV.sadd rfl rfl (by omega)) Wanted.none rfl rfl ?_
        refine T.pv (PV.assign rfl) Wanted.none rfl rfl ?_
        refine T.opsNil ?_
        refine T.blkEnd ?_
        refine T.region ?_
        refine T.pv (PV.add rfl rfl (by omega)) Wanted.none rfl rfl ?_
        refine T.pv (PV.move rfl) Wanted.none rfl rfl ?_
        refine T.opsNil ?_
        have he : Utf8.encode (lowerR x.r) = ⟨(foldU s x).toArray⟩ := by unfold foldU; rw [if_pos hlo]
        rw [he, happ _ rfl]
        exact T.next (i + 1) (by omega) (by omega) (by repeat (first | exact trivial | refine And.intro rfl ?_)) (by repeat (first | exact List.Sublist.slnil | exact List.nil_sublist _ | exact List.Sublist.refl _ | exact List.sublist_append_left _ [] | apply List.Sublist.cons_cons | apply List.Sublist.cons | refine List.Sublist.append_left ?_ _)) rfl
    · have hok' : okU x = false := by simpa using hok
      refine T.seq ?_
      refine T.region ?_
      refine T.pv (PV.lss rfl rfl) Wanted.none rfl rfl ?_
      refine T.opsNil ?_
      refine T.seq ?_
      refine T.condT rfl (decide_eq_true (by omega)) ?_
      refine T.skip ?_
      refine T.seq ?_
      refine T.block ?_
      refine T.seq ?_
      refine T.region ?_
      refine T.pv (PV.indexAddr rfl rfl (by omega)) Wanted.none rfl rfl ?_
      refine T.pv (PV.loadSubAll rfl (by assumption) (by exact rfl)) Wanted.none rfl rfl ?_
      (refine T.alloc Wanted.none rfl ?_; intro b5)
      refine T.storeA Wanted.none rfl rfl (by repeat (first | exact trivial | refine And.intro rfl ?_)) (by exact rfl) (by repeat (first | exact Upd.head | apply Upd.tail | apply Upd.app)) (by repeat (first | exact Splice.nil | apply Splice.cons | apply Splice.skip)) ?_
      refine T.opsNil ?_
      refine T.seq ?_
      refine T.regionQ (by kernel_rfl) ?_
      refine TQ.pv (PV.fieldAddr rfl) Wanted.none rfl rfl ?_
      refine TQ.pv (PV.load1 rfl (by first | exact .fro (by assumption) | exact .own (by repeat (first | exact List.Mem.head _ | apply List.Mem.tail | apply List.mem_append_right))) rfl) Wanted.none rfl rfl ?_
      refine TQ.pv (PV.move rfl) Wanted.none rfl rfl ?_
      refine TQ.pass (Unwanted.guard rfl rfl (by assumption)) rfl rfl ?_
      refine TQ.pass (Unwanted.guard rfl rfl (by assumption)) rfl rfl ?_
      refine TQ.pass (Unwanted.guard rfl rfl (by assumption)) rfl rfl ?_
      refine TQ.pass (Unwanted.guard rfl rfl (by assumption)) rfl rfl ?_
      refine TQ.pass (Unwanted.guard rfl rfl (by assumption)) rfl rfl ?_
      refine TQ.pass (Unwanted.guard rfl rfl (by assumption)) rfl rfl ?_
      refine TQ.pv (PV.pickF rfl (by assumption) rfl) Wanted.none rfl rfl ?_
      refine TQ.nil ?_
      refine T.condF rfl rfl ?_
      refine T.region ?_
      refine T.pv (PV.move rfl) Wanted.none rfl rfl ?_
      refine T.pv (PV.move rfl) Wanted.none rfl rfl ?_
      refine T.pv (PV.fieldAddr rfl) Wanted.none rfl rfl ?_
      refine T.pv (PV.load1 rfl (by first | exact .fro (by assumption) | exact .own (by repeat (first | exact List.Mem.head _ | apply List.Mem.tail | apply List.mem_append_right))) rfl) Wanted.none rfl rfl ?_
      refine T.pv (PV.fieldAddr rfl) Wanted.none rfl rfl ?_
      refine T.pv (PV.load1 rfl (by first | exact .fro (by assumption) | exact .own (by repeat (first | exact List.Mem.head _ | apply List.Mem.tail | apply List.mem_append_right))) rfl) Wanted.none rfl rfl ?_
      refine T.pv (PV.fieldAddr rfl) Wanted.none rfl rfl ?_
      refine T.pv (PV.load1 rfl (by first | exact .fro (by assumption) | exact .own (by repeat (first | exact List.Mem.head _ | apply List.Mem.tail | apply List.mem_append_right))) rfl) Wanted.none rfl rfl ?_
      refine T.pv (PV.add rfl rfl (by omega)) Wanted.none rfl rfl ?_
      refine T.pv (PV.sliceStr rfl rfl rfl (by omega)) Wanted.none rfl rfl ?_
      have hlo : lowerR x.r = x.r := by
        have : x.r = 65533 := by simp [okU] at hok'; omega
        rw [this]; decide
      rw [extract_piece]
      refine T.pv (PV.sadd rfl rfl ?_) Wanted.none rfl rfl ?_
      · omega
      rw [happ _ (by unfold foldU; rw [if_neg (by simpa using hlo)])]
      refine T.pv (PV.assign rfl) Wanted.none rfl rfl ?_
      refine T.opsNil ?_
      refine T.blkEnd ?_
      refine T.region ?_
      refine T.pv (PV.add rfl rfl (by omega)) Wanted.none rfl rfl ?_
      refine T.pv (PV.move rfl) Wanted.none rfl rfl ?_
      refine T.opsNil ?_
      exact T.next (i + 1) (by omega) (by omega) (by repeat (first | exact trivial | refine And.intro rfl ?_)) (by repeat (first | exact List.Sublist.slnil | exact List.nil_sublist _ | exact List.Sublist.refl _ | exact List.sublist_append_left _ [] | apply List.Sublist.cons_cons | apply List.Sublist.cons | refine List.Sublist.append_left ?_ _)) rfl
  · refine T.seq ?_
    refine T.region ?_
    refine T.pv (PV.lss rfl rfl) Wanted.none rfl rfl ?_
    refine T.opsNil ?_
    refine T.seq ?_
    refine T.condF rfl (decide_eq_false (by omega)) ?_
    refine T.exit rfl ?_
    refine T.seq ?_
    refine T.region ?_
    refine T.pv (PV.move rfl) Wanted.none rfl rfl ?_
    refine T.pv (PV.assign rfl) Wanted.none rfl rfl ?_
    refine T.opsNil ?_
    refine T.retF (Lv.fin (RV.tmp rfl rfl) ?_)
    rw [List.take_of_length_le (by omega)]
    rfl
end Go.Proofs.Yteanijikhogijaa
