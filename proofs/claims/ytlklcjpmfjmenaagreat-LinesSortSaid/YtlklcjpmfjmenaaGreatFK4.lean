/- lines: the reference of codepoint: Fold, Reverse. -/
import Derived.Test.YtlklcjpmfjmenaaGreatFK3
namespace Go.Proofs.YtlklcjpmfjmenaaGreat
open Go.RowKit


theorem foldRune_fn (r : Int) (H : Hp) (hr : 0 ≤ r ∧ r ≤ 1114111) : Fn Tryz.prog 90 #[.int .i32 r] H (fun v _ => v = .int .i32 (lowerR r)) := by
  refine Fn.of_T (vs := [.int .i32 r]) Tryz.func90 rfl rfl fun w => ?_
  refine sq ?_
  refine sr ?_
  refine sa ?_
  refine so ?_
  refine sq ?_
  refine T.block ?_
  refine sq ?_
  refine sq ?_
  refine sr ?_
  refine sm ?_
  refine sv (PV.geq rfl rfl) ?_
  refine sm ?_
  refine T.splitD (d := 6) rfl (fun h0 => ?_) (fun h0 => ?_)
  · refine gm ?_
    refine gv (PV.leq rfl rfl) ?_
    refine sT ?_
    refine sa ?_
    refine so ?_
    refine T.condD rfl (fun h1 => ?_) (fun h1 => ?_)
    · refine T.skip ?_
      refine sc rfl (by omega) ?_
      refine sq ?_
      refine sr ?_
      refine sm ?_
      refine sv (PV.add32 rfl rfl (by omega)) ?_
      refine sa ?_
      refine so ?_
      (refine T.retF (Lv.fin (RV.tmp rfl rfl) ?_); congr 1; unfold lowerR; split <;> (try split) <;> omega)
    · refine sq ?_
      refine sr ?_
      refine sm ?_
      refine sv (PV.geq rfl rfl) ?_
      refine sm ?_
      refine T.splitD (d := 12) rfl (fun h2 => ?_) (fun h2 => ?_)
      · refine gm ?_
        refine gv (PV.leq rfl rfl) ?_
        refine sT ?_
        refine sm ?_
        refine T.splitD (d := 16) rfl (fun h3 => ?_) (fun h3 => ?_)
        · refine gm ?_
          refine gv (PV.neq rfl rfl) ?_
          refine sT ?_
          refine sa ?_
          refine so ?_
          refine T.condD rfl (fun h4 => ?_) (fun h4 => ?_)
          · refine T.skip ?_
            refine sc rfl (by omega) ?_
            refine sq ?_
            refine sr ?_
            refine sm ?_
            refine sv (PV.add32 rfl rfl (by omega)) ?_
            refine sa ?_
            refine so ?_
            (refine T.retF (Lv.fin (RV.tmp rfl rfl) ?_); congr 1; unfold lowerR; split <;> (try split) <;> omega)
          · refine sq ?_
            refine sr ?_
            refine sm ?_
            refine sv (PV.geq rfl rfl) ?_
            refine sm ?_
            refine T.setF (d := 22) rfl (by omega) ?_
            refine sp ?_
            refine sp ?_
            refine sF ?_
            refine sm ?_
            refine sp ?_
            refine sp ?_
            refine sF ?_
            refine sa ?_
            refine so ?_
            refine T.condF rfl rfl ?_
            refine sr ?_
            refine sm ?_
            refine sv (PV.geq rfl rfl) ?_
            refine sm ?_
            refine T.setF (d := 32) rfl (by omega) ?_
            refine sp ?_
            refine sp ?_
            refine sF ?_
            refine sa ?_
            refine so ?_
            refine T.condF rfl rfl ?_
            refine sq ?_
            refine sr ?_
            refine sm ?_
            refine sv (PV.geq rfl rfl) ?_
            refine sm ?_
            refine T.setF (d := 41) rfl (by omega) ?_
            refine sp ?_
            refine sp ?_
            refine sF ?_
            refine sa ?_
            refine so ?_
            refine T.condF rfl rfl ?_
            refine T.skip ?_
            refine T.blkEnd ?_
            refine sq ?_
            refine sr ?_
            refine sm ?_
            refine sa ?_
            refine so ?_
            (refine T.retF (Lv.fin (RV.tmp rfl rfl) ?_); congr 1; unfold lowerR; split <;> (try split) <;> omega)
        · refine sp ?_
          refine sp ?_
          refine sF ?_
          refine sa ?_
          refine so ?_
          refine T.condF rfl rfl ?_
          refine sq ?_
          refine sr ?_
          refine sm ?_
          refine sv (PV.geq rfl rfl) ?_
          refine sm ?_
          refine T.splitD (d := 22) rfl (fun h4 => ?_) (fun h4 => ?_)
          · refine gm ?_
            refine gv (PV.leq rfl rfl) ?_
            refine sT ?_
            refine sm ?_
            refine T.splitD (d := 26) rfl (fun h5 => ?_) (fun h5 => ?_)
            · refine gm ?_
              refine gv (PV.neq rfl rfl) ?_
              refine sT ?_
              refine sa ?_
              refine so ?_
              refine T.condD rfl (fun h6 => ?_) (fun h6 => ?_)
              · refine T.skip ?_
                refine sc rfl (by omega) ?_
                refine sq ?_
                refine sr ?_
                refine sm ?_
                refine sv (PV.add32 rfl rfl (by omega)) ?_
                refine sa ?_
                refine so ?_
                (refine T.retF (Lv.fin (RV.tmp rfl rfl) ?_); congr 1; unfold lowerR; split <;> (try split) <;> omega)
              · refine sr ?_
                refine sm ?_
                refine sv (PV.geq rfl rfl) ?_
                refine sm ?_
                refine T.setF (d := 32) rfl (by omega) ?_
                refine sp ?_
                refine sp ?_
                refine sF ?_
                refine sa ?_
                refine so ?_
                refine T.condF rfl rfl ?_
                refine sq ?_
                refine sr ?_
                refine sm ?_
                refine sv (PV.geq rfl rfl) ?_
                refine sm ?_
                refine T.setF (d := 41) rfl (by omega) ?_
                refine sp ?_
                refine sp ?_
                refine sF ?_
                refine sa ?_
                refine so ?_
                refine T.condF rfl rfl ?_
                refine T.skip ?_
                refine T.blkEnd ?_
                refine sq ?_
                refine sr ?_
                refine sm ?_
                refine sa ?_
                refine so ?_
                (refine T.retF (Lv.fin (RV.tmp rfl rfl) ?_); congr 1; unfold lowerR; split <;> (try split) <;> omega)
            · refine sp ?_
              refine sp ?_
              refine sF ?_
              refine sa ?_
              refine so ?_
              refine T.condF rfl rfl ?_
              refine sr ?_
              refine sm ?_
              refine sv (PV.geq rfl rfl) ?_
              refine sm ?_
              refine T.splitD (d := 32) rfl (fun h6 => ?_) (fun h6 => ?_)
              · refine gm ?_
                refine gv (PV.leq rfl rfl) ?_
                refine sT ?_
                refine sa ?_
                refine so ?_
                refine T.condD rfl (fun h7 => ?_) (fun h7 => ?_)
                · refine sq ?_
                  refine sr ?_
                  refine sm ?_
                  refine sv (PV.add32 rfl rfl (by omega)) ?_
                  refine sa ?_
                  refine so ?_
                  (refine T.retF (Lv.fin (RV.tmp rfl rfl) ?_); congr 1; unfold lowerR; split <;> (try split) <;> omega)
                · refine sq ?_
                  refine sr ?_
                  refine sm ?_
                  refine sv (PV.geq rfl rfl) ?_
                  refine sm ?_
                  refine T.setT (d := 41) rfl (by omega) ?_
                  refine gm ?_
                  refine gv (PV.leq rfl rfl) ?_
                  refine sT ?_
                  refine sa ?_
                  refine so ?_
                  refine sd rfl (by omega) ?_
                  refine T.skip ?_
                  refine T.blkEnd ?_
                  refine sq ?_
                  refine sr ?_
                  refine sm ?_
                  refine sa ?_
                  refine so ?_
                  (refine T.retF (Lv.fin (RV.tmp rfl rfl) ?_); congr 1; unfold lowerR; split <;> (try split) <;> omega)
              · refine sp ?_
                refine sp ?_
                refine sF ?_
                refine sa ?_
                refine so ?_
                refine T.condF rfl rfl ?_
                refine sq ?_
                refine sr ?_
                refine sm ?_
                refine sv (PV.geq rfl rfl) ?_
                refine sm ?_
                refine T.splitD (d := 41) rfl (fun h7 => ?_) (fun h7 => ?_)
                · refine gm ?_
                  refine gv (PV.leq rfl rfl) ?_
                  refine sT ?_
                  refine sa ?_
                  refine so ?_
                  refine sc rfl (by omega) ?_
                  refine sq ?_
                  refine sr ?_
                  refine sm ?_
                  refine sv (PV.add32 rfl rfl (by omega)) ?_
                  refine sa ?_
                  refine so ?_
                  (refine T.retF (Lv.fin (RV.tmp rfl rfl) ?_); congr 1; unfold lowerR; split <;> (try split) <;> omega)
                · refine sp ?_
                  refine sp ?_
                  refine sF ?_
                  refine sa ?_
                  refine so ?_
                  refine T.condF rfl rfl ?_
                  refine T.skip ?_
                  refine T.blkEnd ?_
                  refine sq ?_
                  refine sr ?_
                  refine sm ?_
                  refine sa ?_
                  refine so ?_
                  (refine T.retF (Lv.fin (RV.tmp rfl rfl) ?_); congr 1; unfold lowerR; split <;> (try split) <;> omega)
          · refine sp ?_
            refine sp ?_
            refine sF ?_
            refine sm ?_
            refine sp ?_
            refine sp ?_
            refine sF ?_
            refine sa ?_
            refine so ?_
            refine T.condF rfl rfl ?_
            refine sr ?_
            refine sm ?_
            refine sv (PV.geq rfl rfl) ?_
            refine sm ?_
            refine T.setF (d := 32) rfl (by omega) ?_
            refine sp ?_
            refine sp ?_
            refine sF ?_
            refine sa ?_
            refine so ?_
            refine T.condF rfl rfl ?_
            refine sq ?_
            refine sr ?_
            refine sm ?_
            refine sv (PV.geq rfl rfl) ?_
            refine sm ?_
            refine T.setF (d := 41) rfl (by omega) ?_
            refine sp ?_
            refine sp ?_
            refine sF ?_
            refine sa ?_
            refine so ?_
            refine T.condF rfl rfl ?_
            refine T.skip ?_
            refine T.blkEnd ?_
            refine sq ?_
            refine sr ?_
            refine sm ?_
            refine sa ?_
            refine so ?_
            (refine T.retF (Lv.fin (RV.tmp rfl rfl) ?_); congr 1; unfold lowerR; split <;> (try split) <;> omega)
      · refine sp ?_
        refine sp ?_
        refine sF ?_
        refine sm ?_
        refine sp ?_
        refine sp ?_
        refine sF ?_
        refine sa ?_
        refine so ?_
        refine T.condF rfl rfl ?_
        refine sq ?_
        refine sr ?_
        refine sm ?_
        refine sv (PV.geq rfl rfl) ?_
        refine sm ?_
        refine T.setF (d := 22) rfl (by omega) ?_
        refine sp ?_
        refine sp ?_
        refine sF ?_
        refine sm ?_
        refine sp ?_
        refine sp ?_
        refine sF ?_
        refine sa ?_
        refine so ?_
        refine T.condF rfl rfl ?_
        refine sr ?_
        refine sm ?_
        refine sv (PV.geq rfl rfl) ?_
        refine sm ?_
        refine T.setF (d := 32) rfl (by omega) ?_
        refine sp ?_
        refine sp ?_
        refine sF ?_
        refine sa ?_
        refine so ?_
        refine T.condF rfl rfl ?_
        refine sq ?_
        refine sr ?_
        refine sm ?_
        refine sv (PV.geq rfl rfl) ?_
        refine sm ?_
        refine T.setF (d := 41) rfl (by omega) ?_
        refine sp ?_
        refine sp ?_
        refine sF ?_
        refine sa ?_
        refine so ?_
        refine T.condF rfl rfl ?_
        refine T.skip ?_
        refine T.blkEnd ?_
        refine sq ?_
        refine sr ?_
        refine sm ?_
        refine sa ?_
        refine so ?_
        (refine T.retF (Lv.fin (RV.tmp rfl rfl) ?_); congr 1; unfold lowerR; split <;> (try split) <;> omega)
  · refine sp ?_
    refine sp ?_
    refine sF ?_
    refine sa ?_
    refine so ?_
    refine T.condF rfl rfl ?_
    refine sq ?_
    refine sr ?_
    refine sm ?_
    refine sv (PV.geq rfl rfl) ?_
    refine sm ?_
    refine T.setF (d := 12) rfl (by omega) ?_
    refine sp ?_
    refine sp ?_
    refine sF ?_
    refine sm ?_
    refine sp ?_
    refine sp ?_
    refine sF ?_
    refine sa ?_
    refine so ?_
    refine T.condF rfl rfl ?_
    refine sq ?_
    refine sr ?_
    refine sm ?_
    refine sv (PV.geq rfl rfl) ?_
    refine sm ?_
    refine T.setF (d := 22) rfl (by omega) ?_
    refine sp ?_
    refine sp ?_
    refine sF ?_
    refine sm ?_
    refine sp ?_
    refine sp ?_
    refine sF ?_
    refine sa ?_
    refine so ?_
    refine T.condF rfl rfl ?_
    refine sr ?_
    refine sm ?_
    refine sv (PV.geq rfl rfl) ?_
    refine sm ?_
    refine T.setF (d := 32) rfl (by omega) ?_
    refine sp ?_
    refine sp ?_
    refine sF ?_
    refine sa ?_
    refine so ?_
    refine T.condF rfl rfl ?_
    refine sq ?_
    refine sr ?_
    refine sm ?_
    refine sv (PV.geq rfl rfl) ?_
    refine sm ?_
    refine T.setF (d := 41) rfl (by omega) ?_
    refine sp ?_
    refine sp ?_
    refine sF ?_
    refine sa ?_
    refine so ?_
    refine T.condF rfl rfl ?_
    refine T.skip ?_
    refine T.blkEnd ?_
    refine sq ?_
    refine sr ?_
    refine sm ?_
    refine sa ?_
    refine so ?_
    (refine T.retF (Lv.fin (RV.tmp rfl rfl) ?_); congr 1; unfold lowerR; split <;> (try split) <;> omega)
set_option maxHeartbeats 1000000 in
theorem refFold_fn (s : ByteArray) (H : Hp) (hs : s.size ≤ 20000) : Fn Tryz.prog 76 #[.string s] H (fun v _ => v = .string ⟨(foldL s).toArray⟩) := by
  refine Fn.of_T (vs := [.string s]) Tryz.func76 rfl rfl fun w => ?_
  refine sq ?_
  refine sr ?_
  refine sa ?_
  refine so ?_
  refine sq ?_
  refine sr ?_
  refine sa ?_
  refine so ?_
  refine sq ?_
  refine sq ?_
  refine sr ?_
  refine sm ?_
  refine T.call Wanted.none rfl rfl (refUnits_fn s H hs) ?_
  intro vl H1 hH1 hsl
  obtain ⟨adl, capl, rfl⟩ := hsl.len
  have hul := units_len s
  refine sv (PV.lenSl rfl) ?_
  refine sm ?_
  refine so ?_
  refine T.block ?_
  refine T.loop (γ := Nat) (fun i => i ≤ (units s).length)
    (fun i => [(0, .string s), (9, .int .i64 (i : Int)), (8, .int .i64 ((units s).length : Int)), (7, .slice adl (units s).length capl), (3, .string ⟨(((units s).take i).flatMap (foldU s)).toArray⟩)])
    (fun _ => []) (fun _ => H1) (fun i => (units s).length - i) 0 (by simp) zq8 zq4 rfl ?_
  intro i h1
  by_cases hi : i < (units s).length
  · obtain ⟨x, hx⟩ : ∃ x, (units s)[i]? = some x := ⟨_, List.getElem?_eq_getElem hi⟩
    obtain ⟨m1, m2, m3, m4, m5⟩ := units_mem (List.mem_of_getElem? hx)
    obtain ⟨b, off, cap', hve, hsub⟩ := hsl.elem (i := i) (by omega) (flat_elem encF_len (units s) i x hx)
    injection hve with e1 e2 e3
    subst e1 e3
    have hbound := fold_len s i hs
    have hel := encode_le (lowerR x.r)
    have hpl := piece_le s x
    have hz1 : ByteArray.size ⟨(((units s).take i).flatMap (foldU s)).toArray⟩ ≤ 4 * 20000 := by simpa [ByteArray.size] using hbound
    have hz2 : ByteArray.size ⟨(piece s x).toArray⟩ ≤ 4 := by
      have : ByteArray.size ⟨(piece s x).toArray⟩ = (piece s x).length := by simp [ByteArray.size]
      omega
    have hfa : ((units s).take (i + 1)).flatMap (foldU s) = ((units s).take i).flatMap (foldU s) ++ foldU s x := by rw [List.take_add_one, hx]; simp
    have happ : ∀ l : List UInt8, l = foldU s x → (⟨(((units s).take i).flatMap (foldU s)).toArray⟩ : ByteArray) ++ ⟨l.toArray⟩ = ⟨(((units s).take (i + 1)).flatMap (foldU s)).toArray⟩ := by
      rintro l rfl
      rw [hfa]
      exact congrArg ByteArray.mk (by simp)
    by_cases hok : okU x = true
    · by_cases hlo : lowerR x.r = x.r
      · have hlo' : decide (lowerR x.r ≠ x.r) = false := by simp [hlo]
        refine sq ?_
        refine sr ?_
        refine sv (PV.lss rfl rfl) ?_
        refine so ?_
        refine sq ?_
        refine sc rfl (by omega) ?_
        refine T.skip ?_
        refine sq ?_
        refine T.block ?_
        refine sq ?_
        refine sr ?_
        refine sv (PV.indexAddr rfl rfl (by omega)) ?_
        refine sv (PV.loadSubAll rfl (by assumption) (by exact rfl)) ?_
        refine sy fun b5 => ?_
        refine T.storeA Wanted.none rfl rfl zq8 (by exact rfl) zq14 zq13 ?_
        refine so ?_
        refine sq ?_
        refine T.regionQ (by kernel_rfl) ?_
        refine TQ.pv (PV.fieldAddr rfl) Wanted.none rfl rfl ?_
        refine TQ.pv (PV.load1 rfl zq0 rfl) Wanted.none rfl rfl ?_
        refine TQ.pv (PV.move rfl) Wanted.none rfl rfl ?_
        refine TQ.pv (PV.fieldAddr rfl) (Wanted.guard rfl rfl (by assumption)) rfl rfl ?_
        refine TQ.pv (PV.load1 rfl zq0 rfl) (Wanted.guard rfl rfl (by assumption)) rfl rfl ?_
        refine TQ.callV (Wanted.guard rfl rfl (by assumption)) rfl rfl (foldRune_fn x.r H1 (by omega)) ?_
        refine TQ.pv (PV.fieldAddr rfl) (Wanted.guard rfl rfl (by assumption)) rfl rfl ?_
        refine TQ.pv (PV.load1 rfl zq0 rfl) (Wanted.guard rfl rfl (by assumption)) rfl rfl ?_
        refine TQ.pv (PV.neq rfl rfl) (Wanted.guard rfl rfl (by assumption)) rfl rfl ?_
        refine TQ.pv (PV.pickT rfl (by assumption) rfl) Wanted.none rfl rfl ?_
        refine TQ.nil ?_
        refine T.condF rfl (by assumption) ?_
        refine sr ?_
        refine sm ?_
        refine sm ?_
        refine sf ?_
        refine sl ?_
        refine sf ?_
        refine sl ?_
        refine sf ?_
        refine sl ?_
        refine sv (PV.add rfl rfl (by omega)) ?_
        refine sv (PV.sliceStr rfl rfl rfl (by omega)) ?_
        rw [extract_piece]
        refine sv (PV.sadd rfl rfl ?_) ?_
        · omega
        rw [happ _ (by unfold foldU; rw [if_neg (by simpa using hlo)])]
        refine sa ?_
        refine so ?_
        refine T.blkEnd ?_
        refine sr ?_
        refine sv (PV.add rfl rfl (by omega)) ?_
        refine sm ?_
        refine so ?_
        exact T.next (i + 1) (by omega) (by omega) zq8 zq4 rfl
      · have hlo' : decide (lowerR x.r ≠ x.r) = true := by simp [hlo]
        refine sq ?_
        refine sr ?_
        refine sv (PV.lss rfl rfl) ?_
        refine so ?_
        refine sq ?_
        refine sc rfl (by omega) ?_
        refine T.skip ?_
        refine sq ?_
        refine T.block ?_
        refine sq ?_
        refine sr ?_
        refine sv (PV.indexAddr rfl rfl (by omega)) ?_
        refine sv (PV.loadSubAll rfl (by assumption) (by exact rfl)) ?_
        refine sy fun b5 => ?_
        refine T.storeA Wanted.none rfl rfl zq8 (by exact rfl) zq14 zq13 ?_
        refine so ?_
        refine sq ?_
        refine T.regionQ (by kernel_rfl) ?_
        refine TQ.pv (PV.fieldAddr rfl) Wanted.none rfl rfl ?_
        refine TQ.pv (PV.load1 rfl zq0 rfl) Wanted.none rfl rfl ?_
        refine TQ.pv (PV.move rfl) Wanted.none rfl rfl ?_
        refine TQ.pv (PV.fieldAddr rfl) (Wanted.guard rfl rfl (by assumption)) rfl rfl ?_
        refine TQ.pv (PV.load1 rfl zq0 rfl) (Wanted.guard rfl rfl (by assumption)) rfl rfl ?_
        refine TQ.callV (Wanted.guard rfl rfl (by assumption)) rfl rfl (foldRune_fn x.r H1 (by omega)) ?_
        refine TQ.pv (PV.fieldAddr rfl) (Wanted.guard rfl rfl (by assumption)) rfl rfl ?_
        refine TQ.pv (PV.load1 rfl zq0 rfl) (Wanted.guard rfl rfl (by assumption)) rfl rfl ?_
        refine TQ.pv (PV.neq rfl rfl) (Wanted.guard rfl rfl (by assumption)) rfl rfl ?_
        refine TQ.pv (PV.pickT rfl (by assumption) rfl) Wanted.none rfl rfl ?_
        refine TQ.nil ?_
        refine T.condT rfl (by assumption) ?_
        refine sr ?_
        refine sm ?_
        refine sf ?_
        refine sl ?_
        refine T.callV Wanted.none rfl rfl (foldRune_fn x.r H1 (by omega)) ?_
        refine sv (PV.convRune rfl) ?_
        refine sv (PV.sadd rfl rfl (by omega)) ?_
        refine sa ?_
        refine so ?_
        refine T.blkEnd ?_
        refine sr ?_
        refine sv (PV.add rfl rfl (by omega)) ?_
        refine sm ?_
        refine so ?_
        have he : Utf8.encode (lowerR x.r) = ⟨(foldU s x).toArray⟩ := by unfold foldU; rw [if_pos hlo]
        rw [he, happ _ rfl]
        exact T.next (i + 1) (by omega) (by omega) zq8 zq4 rfl
    · have hok' : okU x = false := by simpa using hok
      refine sq ?_
      refine sr ?_
      refine sv (PV.lss rfl rfl) ?_
      refine so ?_
      refine sq ?_
      refine sc rfl (by omega) ?_
      refine T.skip ?_
      refine sq ?_
      refine T.block ?_
      refine sq ?_
      refine sr ?_
      refine sv (PV.indexAddr rfl rfl (by omega)) ?_
      refine sv (PV.loadSubAll rfl (by assumption) (by exact rfl)) ?_
      refine sy fun b5 => ?_
      refine T.storeA Wanted.none rfl rfl zq8 (by exact rfl) zq14 zq13 ?_
      refine so ?_
      refine sq ?_
      refine T.regionQ (by kernel_rfl) ?_
      refine TQ.pv (PV.fieldAddr rfl) Wanted.none rfl rfl ?_
      refine TQ.pv (PV.load1 rfl zq0 rfl) Wanted.none rfl rfl ?_
      refine TQ.pv (PV.move rfl) Wanted.none rfl rfl ?_
      refine TQ.pass (Unwanted.guard rfl rfl (by assumption)) rfl rfl ?_
      refine TQ.pass (Unwanted.guard rfl rfl (by assumption)) rfl rfl ?_
      refine TQ.pass (Unwanted.guard rfl rfl (by assumption)) rfl rfl ?_
      refine TQ.pass (Unwanted.guard rfl rfl (by assumption)) rfl rfl ?_
      refine TQ.pass (Unwanted.guard rfl rfl (by assumption)) rfl rfl ?_
      refine TQ.pass (Unwanted.guard rfl rfl (by assumption)) rfl rfl ?_
      refine TQ.pv (PV.pickF rfl (by assumption) rfl) Wanted.none rfl rfl ?_
      refine TQ.nil ?_
      refine T.condF rfl rfl ?_
      refine sr ?_
      refine sm ?_
      refine sm ?_
      refine sf ?_
      refine sl ?_
      refine sf ?_
      refine sl ?_
      refine sf ?_
      refine sl ?_
      refine sv (PV.add rfl rfl (by omega)) ?_
      refine sv (PV.sliceStr rfl rfl rfl (by omega)) ?_
      have hlo : lowerR x.r = x.r := by
        have : x.r = 65533 := by simp [okU] at hok'; omega
        rw [this]; decide
      rw [extract_piece]
      refine sv (PV.sadd rfl rfl ?_) ?_
      · omega
      rw [happ _ (by unfold foldU; rw [if_neg (by simpa using hlo)])]
      refine sa ?_
      refine so ?_
      refine T.blkEnd ?_
      refine sr ?_
      refine sv (PV.add rfl rfl (by omega)) ?_
      refine sm ?_
      refine so ?_
      exact T.next (i + 1) (by omega) (by omega) zq8 zq4 rfl
  · refine sq ?_
    refine sr ?_
    refine sv (PV.lss rfl rfl) ?_
    refine so ?_
    refine sq ?_
    refine sd rfl (by omega) ?_
    refine T.exit rfl ?_
    refine sq ?_
    refine sr ?_
    refine sm ?_
    refine sa ?_
    refine so ?_
    refine T.retF (Lv.fin (RV.tmp rfl rfl) ?_)
    rw [List.take_of_length_le (by omega)]
    rfl
set_option maxHeartbeats 1000000 in
theorem refReverse_fn (s : ByteArray) (H : Hp) (hs : s.size ≤ 20000) : Fn Tryz.prog 77 #[.string s] H (fun v _ => v = .string ⟨(revL s).toArray⟩) := by
  refine Fn.of_T (vs := [.string s]) Tryz.func77 rfl rfl fun w => ?_
  refine sq ?_
  refine sr ?_
  refine sa ?_
  refine so ?_
  refine sq ?_
  refine sr ?_
  refine sa ?_
  refine so ?_
  refine sq ?_
  refine sq ?_
  refine sr ?_
  refine sm ?_
  refine T.call Wanted.none rfl rfl (refUnits_fn s H hs) ?_
  intro vl H1 hH1 hsl
  obtain ⟨adl, capl, rfl⟩ := hsl.len
  have hul := units_len s
  refine sv (PV.lenSl rfl) ?_
  refine sm ?_
  refine so ?_
  refine T.block ?_
  refine T.loop (γ := Nat) (fun i => i ≤ (units s).length)
    (fun i => [(0, .string s), (9, .int .i64 (i : Int)), (8, .int .i64 ((units s).length : Int)), (7, .slice adl (units s).length capl), (3, .string ⟨(((units s).take i).reverse.flatMap (piece s)).toArray⟩)])
    (fun _ => []) (fun _ => H1) (fun i => (units s).length - i) 0 (by simp) zq8 zq4 rfl ?_
  intro i h1
  by_cases hi : i < (units s).length
  · obtain ⟨x, hx⟩ : ∃ x, (units s)[i]? = some x := ⟨_, List.getElem?_eq_getElem hi⟩
    obtain ⟨m1, m2, m3, m4, m5⟩ := units_mem (List.mem_of_getElem? hx)
    obtain ⟨b, off, cap', hve, hsub⟩ := hsl.elem (i := i) (by omega) (flat_elem encF_len (units s) i x hx)
    injection hve with e1 e2 e3
    subst e1 e3
    have hpl := piece_le s x
    have hz1 : ByteArray.size ⟨(((units s).take i).reverse.flatMap (piece s)).toArray⟩ ≤ 4 * 20000 := by
      have h2 := flat_le (f := piece s) (m := 4) ((units s).take i).reverse (fun y hy => by
        have hy := List.mem_of_mem_take (List.mem_reverse.1 hy)
        have := piece_le s y; have := (units_mem hy).2.2.1; omega)
      have h3 : ((units s).take i).reverse.length ≤ 20000 := by rw [List.length_reverse, List.length_take]; omega
      have h4 : ByteArray.size ⟨(((units s).take i).reverse.flatMap (piece s)).toArray⟩ = (((units s).take i).reverse.flatMap (piece s)).length := by simp [ByteArray.size]
      omega
    have hz2 : ByteArray.size ⟨(piece s x).toArray⟩ ≤ 4 := by
      have : ByteArray.size ⟨(piece s x).toArray⟩ = (piece s x).length := by simp [ByteArray.size]
      omega
    have happ : (⟨(piece s x).toArray⟩ : ByteArray) ++ ⟨(((units s).take i).reverse.flatMap (piece s)).toArray⟩ = ⟨(((units s).take (i + 1)).reverse.flatMap (piece s)).toArray⟩ := by
      rw [List.take_add_one, hx]
      exact congrArg ByteArray.mk (by simp)
    refine sq ?_
    refine sr ?_
    refine sv (PV.lss rfl rfl) ?_
    refine so ?_
    refine sq ?_
    refine sc rfl (by omega) ?_
    refine T.skip ?_
    refine sq ?_
    refine T.block ?_
    refine sq ?_
    refine sr ?_
    refine sv (PV.indexAddr rfl rfl (by omega)) ?_
    refine sv (PV.loadSubAll rfl (by assumption) (by exact rfl)) ?_
    refine sy fun b5 => ?_
    refine T.storeA Wanted.none rfl rfl zq8 (by exact rfl) zq14 zq13 ?_
    refine so ?_
    refine sr ?_
    refine sm ?_
    refine sf ?_
    refine sl ?_
    refine sf ?_
    refine sl ?_
    refine sf ?_
    refine sl ?_
    refine sv (PV.add rfl rfl (by omega)) ?_
    refine sv (PV.sliceStr rfl rfl rfl (by omega)) ?_
    refine sm ?_
    rw [extract_piece]
    refine sv (PV.sadd rfl rfl ?_) ?_
    · omega
    rw [happ]
    refine sa ?_
    refine so ?_
    refine T.blkEnd ?_
    refine sr ?_
    refine sv (PV.add rfl rfl (by omega)) ?_
    refine sm ?_
    refine so ?_
    exact T.next (i + 1) (by omega) (by omega) zq8 zq4 rfl
  · refine sq ?_
    refine sr ?_
    refine sv (PV.lss rfl rfl) ?_
    refine so ?_
    refine sq ?_
    refine sd rfl (by omega) ?_
    refine T.exit rfl ?_
    refine sq ?_
    refine sr ?_
    refine sm ?_
    refine sa ?_
    refine so ?_
    refine T.retF (Lv.fin (RV.tmp rfl rfl) ?_)
    rw [List.take_of_length_le (by omega)]
    rfl

end Go.Proofs.YtlklcjpmfjmenaaGreat
