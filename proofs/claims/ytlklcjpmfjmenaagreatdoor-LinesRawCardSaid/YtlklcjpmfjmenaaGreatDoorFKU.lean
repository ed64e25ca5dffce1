/- lines: the reference's Sort, the walk. -/
import Derived.Test.YtlklcjpmfjmenaaGreatDoorFKR
namespace Go.Proofs.YtlklcjpmfjmenaaGreatDoor
open Go.RowKit

structure SrG where
  i : Nat
  H : Hp
  v : Value
  A : List Mt
structure SrV where
  v : Value
  lv : List (Nat × Obj)
set_option maxHeartbeats 8000000 in
theorem sort_ref (c : Cp) (lb : List ByteArray) (L : List Mt) (ks : List Ky) (vl vm vk : Value) (H : Hp) (hc : CpL H c) (hw : CpW c) (hlb : StL H vl lb) (hL : MtL H vm L) (hk : KyL H vk ks) (hll : lb.length ≤ 1000) (hLl : L.length ≤ 1000) (hkl : ks.length ≤ 1000000) (hls : ∀ m ∈ L, m.ls.length ≤ 1000) :
    Fn Tryz.prog 12 #[cpV c, vl, vm, vk] H (fun u H' => ∃ v L', u = .tuple #[v, .int .i64 (srtE c lb ks L)] ∧ MtL H' v L' ∧ (srtE c lb ks L = 0 → L' = sortM c lb ks L) ∧ (srtE c lb ks L ≠ 0 → L' = [])) := by
  obtain ⟨ab, cb, rfl⟩ := hlb.len
  obtain ⟨am, cm, rfl⟩ := hL.1.len
  obtain ⟨ak, ck, rfl⟩ := hk.len
  unfold cpV
  refine Fn.of_T (vs := [.agg #[c.va, c.vt, c.vx, c.vr, c.vn, c.vh, c.vs], .slice ab lb.length cb, .slice am L.length cm, .slice ak ks.length ck]) Tryz.func12 rfl rfl fun w => ?_
  have hend : ∀ z : Int, z ≠ 0 → srtE c lb ks L = z → ∃ v L', (.tuple #[.slice none 0 0, .int .i64 z] : Value) = .tuple #[v, .int .i64 (srtE c lb ks L)] ∧ MtL H v L' ∧ (srtE c lb ks L = 0 → L' = sortM c lb ks L) ∧ (srtE c lb ks L ≠ 0 → L' = []) :=
    fun z hz he => ⟨_, [], by rw [he], ⟨SlR.empty, by simp⟩, fun h => absurd (he.symm.trans h) hz, fun _ => rfl⟩
  have herr : ∀ z : Int, z ≠ 0 → keyErr c lb ks = z → srtE c lb ks L = z := fun z hz he => by unfold srtE; rw [if_pos (by omega), he]
  by_cases h8 : 8 < ks.length
  · refine sq ?_
    refine sr ?_
    (refine T.box Wanted.none rfl rfl zq15 ?_; intro b4)
    refine sa ?_
    refine sa ?_
    refine so ?_
    refine sq ?_
    refine sq ?_
    refine sr ?_
    refine sm ?_
    refine sv (PV.lenSl rfl) ?_
    refine sv (PV.gtr rfl rfl) ?_
    refine so ?_
    refine sc rfl (by omega) ?_
    refine sq ?_
    refine sr ?_
    refine sa ?_
    refine sa ?_
    refine so ?_
    exact T.retF (Lv.fin (RV.tmp2 rfl rfl rfl) (hend 1 (by omega) (herr 1 (by omega) (by unfold keyErr; rw [if_pos h8]))))
  refine sq ?_
  refine sr ?_
  (refine T.box Wanted.none rfl rfl zq15 ?_; intro b4)
  refine sa ?_
  refine sa ?_
  refine so ?_
  refine sq ?_
  refine sq ?_
  refine sr ?_
  refine sm ?_
  refine sv (PV.lenSl rfl) ?_
  refine sv (PV.gtr rfl rfl) ?_
  refine so ?_
  refine sd rfl (by omega) ?_
  refine T.skip ?_
  refine sq ?_
  refine sq ?_
  refine sr ?_
  refine sm ?_
  refine sv (PV.lenSl rfl) ?_
  refine sm ?_
  refine so ?_
  refine T.block ?_
  refine T.loopC [(26, Value.int IntKind.i64 (↑ks.length : Int)), (25, Value.slice ak ks.length ck), (4, Value.pointer (some { block := b4, off := 0 })), (1, Value.slice ab lb.length cb), (2, Value.slice am L.length cm), (3, Value.slice ak ks.length ck)] zq8 27 ks.length (fun i => (ks.take i).any badK = false) rfl rfl ?_
  rintro i ⟨hi0, hi1⟩
  by_cases hi : i < ks.length
  · obtain ⟨b, off, k, rfl, hix, hsub⟩ := RowL.get encKy_len hk hi
    unfold encKy at hsub
    by_cases a1 : k.at_ < 1
    · have hb : ks.any badK = true := any_in hix (by unfold badK; rw [decide_eq_true a1]; rfl)
      refine sq ?_
      refine sr ?_
      refine sv (PV.lss rfl rfl) ?_
      refine so ?_
      refine sq ?_
      refine sc rfl (by omega) ?_
      refine T.skip ?_
      refine sq ?_
      refine T.block ?_
      refine sq ?_
      refine sr ?_
      refine sv (PV.indexAddr rfl rfl (by omega)) ?_
      refine sv (PV.loadSubAll rfl (by assumption) (by exact rfl)) ?_
      refine sy fun b11 => ?_
      refine T.storeA Wanted.none rfl rfl zq8 (by exact rfl) zq14 zq13 ?_
      refine so ?_
      refine sq ?_
      refine sr ?_
      refine sf ?_
      refine sl ?_
      refine sv (PV.lss rfl rfl) ?_
      refine sm ?_
      refine T.setT (d := 34) rfl (by omega) ?_
      refine sp ?_
      refine sp ?_
      refine sp ?_
      refine sT ?_
      refine sm ?_
      refine sp ?_
      refine sp ?_
      refine sp ?_
      refine sp ?_
      refine su ?_
      refine su ?_
      refine su ?_
      refine sp ?_
      refine sT ?_
      refine so ?_
      refine T.condT rfl rfl ?_
      refine sq ?_
      refine sr ?_
      refine sa ?_
      refine sa ?_
      refine so ?_
      exact T.retF (Lv.fin (RV.tmp2 rfl rfl rfl) (hend 1 (by omega) (herr 1 (by omega) (by unfold keyErr; rw [if_neg h8, if_pos hb]))))
    · by_cases a2 : 3 < k.at_
      · have hb : ks.any badK = true := any_in hix (by unfold badK; rw [decide_eq_true a2]; simp)
        refine sq ?_
        refine sr ?_
        refine sv (PV.lss rfl rfl) ?_
        refine so ?_
        refine sq ?_
        refine sc rfl (by omega) ?_
        refine T.skip ?_
        refine sq ?_
        refine T.block ?_
        refine sq ?_
        refine sr ?_
        refine sv (PV.indexAddr rfl rfl (by omega)) ?_
        refine sv (PV.loadSubAll rfl (by assumption) (by exact rfl)) ?_
        refine sy fun b11 => ?_
        refine T.storeA Wanted.none rfl rfl zq8 (by exact rfl) zq14 zq13 ?_
        refine so ?_
        refine sq ?_
        refine sr ?_
        refine sf ?_
        refine sl ?_
        refine sv (PV.lss rfl rfl) ?_
        refine sm ?_
        refine T.setF (d := 34) rfl (by omega) ?_
        refine gf ?_
        refine gl ?_
        refine gv (PV.gtr rfl rfl) ?_
        refine sF ?_
        refine sm ?_
        refine T.setT (d := 39) rfl (by omega) ?_
        refine sp ?_
        refine sp ?_
        refine sp ?_
        refine sp ?_
        refine su ?_
        refine su ?_
        refine su ?_
        refine sp ?_
        refine sT ?_
        refine so ?_
        refine T.condT rfl rfl ?_
        refine sq ?_
        refine sr ?_
        refine sa ?_
        refine sa ?_
        refine so ?_
        exact T.retF (Lv.fin (RV.tmp2 rfl rfl rfl) (hend 1 (by omega) (herr 1 (by omega) (by unfold keyErr; rw [if_neg h8, if_pos hb]))))
      · by_cases a3 : k.at_ = 3
        · have hb : badK k = false := by unfold badK; rw [decide_eq_false a1, decide_eq_false a2, a3]; rfl
          refine sq ?_
          refine sr ?_
          refine sv (PV.lss rfl rfl) ?_
          refine so ?_
          refine sq ?_
          refine sc rfl (by omega) ?_
          refine T.skip ?_
          refine sq ?_
          refine T.block ?_
          refine sq ?_
          refine sr ?_
          refine sv (PV.indexAddr rfl rfl (by omega)) ?_
          refine sv (PV.loadSubAll rfl (by assumption) (by exact rfl)) ?_
          refine sy fun b11 => ?_
          refine T.storeA Wanted.none rfl rfl zq8 (by exact rfl) zq14 zq13 ?_
          refine so ?_
          refine sq ?_
          refine sr ?_
          refine sf ?_
          refine sl ?_
          refine sv (PV.lss rfl rfl) ?_
          refine sm ?_
          refine T.setF (d := 34) rfl (by omega) ?_
          refine gf ?_
          refine gl ?_
          refine gv (PV.gtr rfl rfl) ?_
          refine sF ?_
          refine sm ?_
          refine T.setF (d := 39) rfl (by omega) ?_
          refine gf ?_
          refine gl ?_
          refine gv (PV.neq rfl rfl) ?_
          refine gm ?_
          refine T.setF (d := 43) rfl (by omega) ?_
          refine sp ?_
          refine sp ?_
          refine sp ?_
          refine gv (PV.pickF rfl rfl rfl) ?_
          refine sF ?_
          refine so ?_
          refine T.condF rfl rfl ?_
          refine T.skip ?_
          refine T.blkEnd ?_
          refine sr ?_
          refine sv (PV.add rfl rfl (by omega)) ?_
          refine sm ?_
          refine so ?_
          exact T.nextC hi (ixI_drop hi1 hix hb) rfl zq8 (by repeat (first | exact Sel.refl _ | exact Sel.nil | (refine Sel.cons zq1 ?_) | (refine Sel.app zq1 ?_) | exact Sel.one zq1))
        · by_cases a4 : k.lb = ⟨#[]⟩
          · have hd : decide (k.lb ≠ ⟨#[]⟩) = false := by simp [a4]
            have hb : badK k = false := by unfold badK; rw [decide_eq_false a1, decide_eq_false a2, hd]; simp
            refine sq ?_
            refine sr ?_
            refine sv (PV.lss rfl rfl) ?_
            refine so ?_
            refine sq ?_
            refine sc rfl (by omega) ?_
            refine T.skip ?_
            refine sq ?_
            refine T.block ?_
            refine sq ?_
            refine sr ?_
            refine sv (PV.indexAddr rfl rfl (by omega)) ?_
            refine sv (PV.loadSubAll rfl (by assumption) (by exact rfl)) ?_
            refine sy fun b11 => ?_
            refine T.storeA Wanted.none rfl rfl zq8 (by exact rfl) zq14 zq13 ?_
            refine so ?_
            refine sq ?_
            refine sr ?_
            refine sf ?_
            refine sl ?_
            refine sv (PV.lss rfl rfl) ?_
            refine sm ?_
            refine T.setF (d := 34) rfl (by omega) ?_
            refine gf ?_
            refine gl ?_
            refine gv (PV.gtr rfl rfl) ?_
            refine sF ?_
            refine sm ?_
            refine T.setF (d := 39) rfl (by omega) ?_
            refine gf ?_
            refine gl ?_
            refine gv (PV.neq rfl rfl) ?_
            refine gm ?_
            refine T.setT (d := 43) rfl (by omega) ?_
            refine gf ?_
            refine gl ?_
            refine gv (PV.sneq rfl rfl) ?_
            refine gv (PV.pickT rfl rfl rfl) ?_
            refine sF ?_
            refine so ?_
            refine T.condF rfl (by assumption) ?_
            refine T.skip ?_
            refine T.blkEnd ?_
            refine sr ?_
            refine sv (PV.add rfl rfl (by omega)) ?_
            refine sm ?_
            refine so ?_
            exact T.nextC hi (ixI_drop hi1 hix hb) rfl zq8 (by repeat (first | exact Sel.refl _ | exact Sel.nil | (refine Sel.cons zq1 ?_) | (refine Sel.app zq1 ?_) | exact Sel.one zq1))
          · have hd : decide (k.lb ≠ ⟨#[]⟩) = true := by simp [a4]
            have hb : ks.any badK = true := any_in hix (by unfold badK; rw [decide_eq_true (show k.at_ ≠ 3 from a3), hd]; simp)
            refine sq ?_
            refine sr ?_
            refine sv (PV.lss rfl rfl) ?_
            refine so ?_
            refine sq ?_
            refine sc rfl (by omega) ?_
            refine T.skip ?_
            refine sq ?_
            refine T.block ?_
            refine sq ?_
            refine sr ?_
            refine sv (PV.indexAddr rfl rfl (by omega)) ?_
            refine sv (PV.loadSubAll rfl (by assumption) (by exact rfl)) ?_
            refine sy fun b11 => ?_
            refine T.storeA Wanted.none rfl rfl zq8 (by exact rfl) zq14 zq13 ?_
            refine so ?_
            refine sq ?_
            refine sr ?_
            refine sf ?_
            refine sl ?_
            refine sv (PV.lss rfl rfl) ?_
            refine sm ?_
            refine T.setF (d := 34) rfl (by omega) ?_
            refine gf ?_
            refine gl ?_
            refine gv (PV.gtr rfl rfl) ?_
            refine sF ?_
            refine sm ?_
            refine T.setF (d := 39) rfl (by omega) ?_
            refine gf ?_
            refine gl ?_
            refine gv (PV.neq rfl rfl) ?_
            refine gm ?_
            refine T.setT (d := 43) rfl (by omega) ?_
            refine gf ?_
            refine gl ?_
            refine gv (PV.sneq rfl rfl) ?_
            refine gv (PV.pickT rfl rfl rfl) ?_
            refine sF ?_
            refine so ?_
            refine T.condT rfl (by assumption) ?_
            refine sq ?_
            refine sr ?_
            refine sa ?_
            refine sa ?_
            refine so ?_
            exact T.retF (Lv.fin (RV.tmp2 rfl rfl rfl) (hend 1 (by omega) (herr 1 (by omega) (by unfold keyErr; rw [if_neg h8, if_pos hb]))))
  rw [List.take_of_length_le (by omega)] at hi1
  have hb1 : ¬ ks.any badK = true := by rw [hi1]; simp
  refine sq ?_
  refine sr ?_
  refine sv (PV.lss rfl rfl) ?_
  refine so ?_
  refine sq ?_
  refine sd rfl (by omega) ?_
  refine T.exit rfl ?_
  refine sq ?_
  refine sq ?_
  refine sr ?_
  refine sm ?_
  refine sv (PV.lenSl rfl) ?_
  refine sm ?_
  refine so ?_
  refine T.block ?_
  refine T.loopC [(51, Value.int IntKind.i64 (↑ks.length : Int)), (50, Value.slice ak ks.length ck), (4, Value.pointer (some { block := b4, off := 0 })), (1, Value.slice ab lb.length cb), (2, Value.slice am L.length cm), (3, Value.slice ak ks.length ck)] zq8 52 ks.length (fun i => (ks.take i).any (nameK c) = false) rfl rfl ?_
  rintro i2 ⟨hj0, hj1⟩
  by_cases hj : i2 < ks.length
  · obtain ⟨b, off, k, rfl, hix, hsub⟩ := RowL.get encKy_len hk hj
    unfold encKy at hsub
    have hat := attribute_ref c.att c.va k.nm H hc.a hc.la
    have hatr := attI_range c.att k.nm
    by_cases a1 : attI c.att k.nm = -1
    · have hb : ks.any (nameK c) = true := any_in hix (decide_eq_true (by omega))
      refine sq ?_
      refine sr ?_
      refine sv (PV.lss rfl rfl) ?_
      refine so ?_
      refine sq ?_
      refine sc rfl (by omega) ?_
      refine T.skip ?_
      refine sq ?_
      refine T.block ?_
      refine sq ?_
      refine sr ?_
      refine sv (PV.indexAddr rfl rfl (by omega)) ?_
      refine sv (PV.loadSubAll rfl (by assumption) (by exact rfl)) ?_
      refine sy fun b13 => ?_
      refine T.storeA Wanted.none rfl rfl zq8 (by exact rfl) zq14 zq13 ?_
      refine so ?_
      refine sq ?_
      refine sr ?_
      refine sf ?_
      refine sl ?_
      refine sf ?_
      refine sl ?_
      refine T.callV Wanted.none rfl rfl (hat) ?_
      refine sv (PV.eql rfl rfl) ?_
      refine so ?_
      refine sc rfl (by omega) ?_
      refine sq ?_
      refine sr ?_
      refine sa ?_
      refine sa ?_
      refine so ?_
      exact T.retF (Lv.fin (RV.tmp2 rfl rfl rfl) (hend 4 (by omega) (herr 4 (by omega) (by unfold keyErr; rw [if_neg h8, if_neg hb1, if_pos hb]))))
    · refine sq ?_
      refine sr ?_
      refine sv (PV.lss rfl rfl) ?_
      refine so ?_
      refine sq ?_
      refine sc rfl (by omega) ?_
      refine T.skip ?_
      refine sq ?_
      refine T.block ?_
      refine sq ?_
      refine sr ?_
      refine sv (PV.indexAddr rfl rfl (by omega)) ?_
      refine sv (PV.loadSubAll rfl (by assumption) (by exact rfl)) ?_
      refine sy fun b13 => ?_
      refine T.storeA Wanted.none rfl rfl zq8 (by exact rfl) zq14 zq13 ?_
      refine so ?_
      refine sq ?_
      refine sr ?_
      refine sf ?_
      refine sl ?_
      refine sf ?_
      refine sl ?_
      refine T.callV Wanted.none rfl rfl (hat) ?_
      refine sv (PV.eql rfl rfl) ?_
      refine so ?_
      refine sd rfl (by omega) ?_
      refine T.skip ?_
      refine T.blkEnd ?_
      refine sr ?_
      refine sv (PV.add rfl rfl (by omega)) ?_
      refine sm ?_
      refine so ?_
      exact T.nextC hj (ixI_drop hj1 hix (decide_eq_false (by omega))) rfl zq8 (by repeat (first | exact Sel.refl _ | exact Sel.nil | (refine Sel.cons zq1 ?_) | (refine Sel.app zq1 ?_) | exact Sel.one zq1))
  rw [List.take_of_length_le (by omega)] at hj1
  have hb2 : ¬ ks.any (nameK c) = true := by rw [hj1]; simp
  refine sq ?_
  refine sr ?_
  refine sv (PV.lss rfl rfl) ?_
  refine so ?_
  refine sq ?_
  refine sd rfl (by omega) ?_
  refine T.exit rfl ?_
  refine sq ?_
  refine sq ?_
  refine sr ?_
  refine sm ?_
  refine sv (PV.lenSl rfl) ?_
  refine sm ?_
  refine so ?_
  refine T.block ?_
  refine T.loopC [(64, Value.int IntKind.i64 (↑ks.length : Int)), (63, Value.slice ak ks.length ck), (4, Value.pointer (some { block := b4, off := 0 })), (1, Value.slice ab lb.length cb), (2, Value.slice am L.length cm), (3, Value.slice ak ks.length ck)] zq8 65 ks.length (fun i => (ks.take i).any (lostK lb) = false) rfl rfl ?_
  rintro i3 ⟨hm0, hm1⟩
  by_cases hm : i3 < ks.length
  · obtain ⟨b, off, k, rfl, hix, hsub⟩ := RowL.get encKy_len hk hm
    unfold encKy at hsub
    have hco := knownL_fn lb k.lb (.slice ab lb.length cb) H hlb hll
    by_cases a1 : k.at_ = 3
    · cases hq : lb.any fun x => decide (x = k.lb)
      · have hb : ks.any (lostK lb) = true := any_in hix (by unfold lostK; rw [decide_eq_true a1, hq]; rfl)
        rw [hq] at hco
        refine sq ?_
        refine sr ?_
        refine sv (PV.lss rfl rfl) ?_
        refine so ?_
        refine sq ?_
        refine sc rfl (by omega) ?_
        refine T.skip ?_
        refine sq ?_
        refine T.block ?_
        refine sq ?_
        refine sr ?_
        refine sv (PV.indexAddr rfl rfl (by omega)) ?_
        refine sv (PV.loadSubAll rfl (by assumption) (by exact rfl)) ?_
        refine sy fun b15 => ?_
        refine T.storeA Wanted.none rfl rfl zq8 (by exact rfl) zq14 zq13 ?_
        refine so ?_
        refine sq ?_
        refine sr ?_
        refine sf ?_
        refine sl ?_
        refine sv (PV.eql rfl rfl) ?_
        refine sm ?_
        refine T.setT (d := 72) rfl (by omega) ?_
        refine gm ?_
        refine gf ?_
        refine gl ?_
        refine T.callV (Wanted.guard rfl rfl rfl) rfl rfl (hco) ?_
        refine gv (PV.not rfl) ?_
        refine sT ?_
        refine so ?_
        refine T.condT rfl rfl ?_
        refine sq ?_
        refine sr ?_
        refine sa ?_
        refine sa ?_
        refine so ?_
        exact T.retF (Lv.fin (RV.tmp2 rfl rfl rfl) (hend 16 (by omega) (herr 16 (by omega) (by unfold keyErr; rw [if_neg h8, if_neg hb1, if_neg hb2, if_pos hb]))))
      · have hb : lostK lb k = false := by unfold lostK; rw [hq]; simp
        rw [hq] at hco
        refine sq ?_
        refine sr ?_
        refine sv (PV.lss rfl rfl) ?_
        refine so ?_
        refine sq ?_
        refine sc rfl (by omega) ?_
        refine T.skip ?_
        refine sq ?_
        refine T.block ?_
        refine sq ?_
        refine sr ?_
        refine sv (PV.indexAddr rfl rfl (by omega)) ?_
        refine sv (PV.loadSubAll rfl (by assumption) (by exact rfl)) ?_
        refine sy fun b15 => ?_
        refine T.storeA Wanted.none rfl rfl zq8 (by exact rfl) zq14 zq13 ?_
        refine so ?_
        refine sq ?_
        refine sr ?_
        refine sf ?_
        refine sl ?_
        refine sv (PV.eql rfl rfl) ?_
        refine sm ?_
        refine T.setT (d := 72) rfl (by omega) ?_
        refine gm ?_
        refine gf ?_
        refine gl ?_
        refine T.callV (Wanted.guard rfl rfl rfl) rfl rfl (hco) ?_
        refine gv (PV.not rfl) ?_
        refine sT ?_
        refine so ?_
        refine T.condF rfl rfl ?_
        refine T.skip ?_
        refine T.blkEnd ?_
        refine sr ?_
        refine sv (PV.add rfl rfl (by omega)) ?_
        refine sm ?_
        refine so ?_
        exact T.nextC hm (ixI_drop hm1 hix hb) rfl zq8 (by repeat (first | exact Sel.refl _ | exact Sel.nil | (refine Sel.cons zq1 ?_) | (refine Sel.app zq1 ?_) | exact Sel.one zq1))
    · have hb : lostK lb k = false := by unfold lostK; rw [decide_eq_false a1]; rfl
      refine sq ?_
      refine sr ?_
      refine sv (PV.lss rfl rfl) ?_
      refine so ?_
      refine sq ?_
      refine sc rfl (by omega) ?_
      refine T.skip ?_
      refine sq ?_
      refine T.block ?_
      refine sq ?_
      refine sr ?_
      refine sv (PV.indexAddr rfl rfl (by omega)) ?_
      refine sv (PV.loadSubAll rfl (by assumption) (by exact rfl)) ?_
      refine sy fun b15 => ?_
      refine T.storeA Wanted.none rfl rfl zq8 (by exact rfl) zq14 zq13 ?_
      refine so ?_
      refine sq ?_
      refine sr ?_
      refine sf ?_
      refine sl ?_
      refine sv (PV.eql rfl rfl) ?_
      refine sm ?_
      refine T.setF (d := 72) rfl (by omega) ?_
      refine sp ?_
      refine sp ?_
      refine sp ?_
      refine sp ?_
      refine sp ?_
      refine sF ?_
      refine so ?_
      refine T.condF rfl rfl ?_
      refine T.skip ?_
      refine T.blkEnd ?_
      refine sr ?_
      refine sv (PV.add rfl rfl (by omega)) ?_
      refine sm ?_
      refine so ?_
      exact T.nextC hm (ixI_drop hm1 hix hb) rfl zq8 (by repeat (first | exact Sel.refl _ | exact Sel.nil | (refine Sel.cons zq1 ?_) | (refine Sel.app zq1 ?_) | exact Sel.one zq1))
  rw [List.take_of_length_le (by omega)] at hm1
  have hb3 : ¬ ks.any (lostK lb) = true := by rw [hm1]; simp
  have hke : keyErr c lb ks = 0 := by unfold keyErr; rw [if_neg h8, if_neg hb1, if_neg hb2, if_neg hb3]
  refine sq ?_
  refine sr ?_
  refine sv (PV.lss rfl rfl) ?_
  refine so ?_
  refine sq ?_
  refine sd rfl (by omega) ?_
  refine T.exit rfl ?_
  refine sq ?_
  refine sq ?_
  refine sr ?_
  refine sm ?_
  refine sv (PV.lenSl rfl) ?_
  refine sm ?_
  refine so ?_
  refine T.block ?_
  refine T.loopC [(81, Value.int IntKind.i64 (↑L.length : Int)), (80, Value.slice am L.length cm), (4, Value.pointer (some { block := b4, off := 0 })), (1, Value.slice ab lb.length cb), (2, Value.slice am L.length cm), (3, Value.slice ak ks.length ck)] zq8 82 L.length (fun i => (L.take i).all (fitsM c lb) = true) rfl rfl ?_
  rintro i4 ⟨hn0, hn1⟩
  by_cases hn : i4 < L.length
  · obtain ⟨bx, off, m, rfl, hix, hsub⟩ := RowL.get encM_len hL.1 hn
    have hmm := List.mem_of_getElem? hix
    have hlab := hL.2 m hmm
    obtain ⟨al, cl, hmv⟩ := hlab.1.len
    unfold encM at hsub
    rw [hmv] at hsub
    have hfi := fits_ref c m H hc hlab (hls m hmm)
    unfold cpV mtV at hfi
    rw [hmv] at hfi
    have htk : (L.take (i4 + 1)).all (fitsM c lb) = fitsM c lb m := by rw [List.take_add_one, hix, List.all_append, hn1]; simp
    have hne : ∀ (hq : fitsM c lb m = false), srtE c lb ks L = 8 := by
      intro hq
      unfold srtE
      rw [if_neg (by simpa using hke), if_neg]
      rw [List.all_eq_true]
      intro h
      have := h m hmm
      rw [hq] at this
      cases this
    cases hf : (fitO c m).isSome
    · have h8 := hne (by unfold fitsM; rw [hf]; rfl)
      rw [hf] at hfi
      refine sq ?_
      refine sr ?_
      refine sv (PV.lss rfl rfl) ?_
      refine so ?_
      refine sq ?_
      refine sc rfl (by omega) ?_
      refine T.skip ?_
      refine sq ?_
      refine T.block ?_
      refine sq ?_
      refine sr ?_
      refine sv (PV.indexAddr rfl rfl (by omega)) ?_
      refine sv (PV.loadSubAll rfl (by assumption) (by exact rfl)) ?_
      refine sy fun b17 => ?_
      refine T.storeA Wanted.none rfl rfl zq8 (by exact rfl) zq14 zq13 ?_
      refine so ?_
      refine sq ?_
      refine sr ?_
      refine sv (PV.loadAll rfl zq0 (by exact rfl)) ?_
      refine sv (PV.loadAll rfl zq0 (by exact rfl)) ?_
      refine T.callV Wanted.none rfl rfl (hfi) ?_
      refine sv (PV.not rfl) ?_
      refine sm ?_
      refine sp ?_
      refine sp ?_
      refine sp ?_
      refine sp ?_
      refine sp ?_
      refine sp ?_
      refine sT ?_
      refine so ?_
      refine T.condT rfl rfl ?_
      refine sq ?_
      refine sr ?_
      refine sa ?_
      refine sa ?_
      refine so ?_
      exact T.retF (Lv.fin (RV.tmp2 rfl rfl rfl) (hend 8 (by omega) h8))
    · rw [hf] at hfi
      by_cases hml : m.ls.length = lb.length
      · have hml2 : ((m.ls.length : Nat) : Int) = (lb.length : Nat) := by omega
        have hfit : fitsM c lb m = true := by unfold fitsM; rw [hf, decide_eq_true hml]; rfl
        refine sq ?_
        refine sr ?_
        refine sv (PV.lss rfl rfl) ?_
        refine so ?_
        refine sq ?_
        refine sc rfl (by omega) ?_
        refine T.skip ?_
        refine sq ?_
        refine T.block ?_
        refine sq ?_
        refine sr ?_
        refine sv (PV.indexAddr rfl rfl (by omega)) ?_
        refine sv (PV.loadSubAll rfl (by assumption) (by exact rfl)) ?_
        refine sy fun b17 => ?_
        refine T.storeA Wanted.none rfl rfl zq8 (by exact rfl) zq14 zq13 ?_
        refine so ?_
        refine sq ?_
        refine sr ?_
        refine sv (PV.loadAll rfl zq0 (by exact rfl)) ?_
        refine sv (PV.loadAll rfl zq0 (by exact rfl)) ?_
        refine T.callV Wanted.none rfl rfl (hfi) ?_
        refine sv (PV.not rfl) ?_
        refine sm ?_
        refine gf ?_
        refine gl ?_
        refine gv (PV.lenSl rfl) ?_
        refine gm ?_
        refine gv (PV.lenSl rfl) ?_
        refine gv (PV.neq rfl rfl) ?_
        refine sF ?_
        refine so ?_
        refine sd rfl (by omega) ?_
        refine T.skip ?_
        refine T.blkEnd ?_
        refine sr ?_
        refine sv (PV.add rfl rfl (by omega)) ?_
        refine sm ?_
        refine so ?_
        exact T.nextC hn (htk.trans hfit) rfl zq8 (by repeat (first | exact Sel.refl _ | exact Sel.nil | (refine Sel.cons zq1 ?_) | (refine Sel.app zq1 ?_) | exact Sel.one zq1))
      · have hml2 : ¬ ((m.ls.length : Nat) : Int) = (lb.length : Nat) := by omega
        have h8 := hne (by unfold fitsM; rw [hf, decide_eq_false hml]; rfl)
        refine sq ?_
        refine sr ?_
        refine sv (PV.lss rfl rfl) ?_
        refine so ?_
        refine sq ?_
        refine sc rfl (by omega) ?_
        refine T.skip ?_
        refine sq ?_
        refine T.block ?_
        refine sq ?_
        refine sr ?_
        refine sv (PV.indexAddr rfl rfl (by omega)) ?_
        refine sv (PV.loadSubAll rfl (by assumption) (by exact rfl)) ?_
        refine sy fun b17 => ?_
        refine T.storeA Wanted.none rfl rfl zq8 (by exact rfl) zq14 zq13 ?_
        refine so ?_
        refine sq ?_
        refine sr ?_
        refine sv (PV.loadAll rfl zq0 (by exact rfl)) ?_
        refine sv (PV.loadAll rfl zq0 (by exact rfl)) ?_
        refine T.callV Wanted.none rfl rfl (hfi) ?_
        refine sv (PV.not rfl) ?_
        refine sm ?_
        refine gf ?_
        refine gl ?_
        refine gv (PV.lenSl rfl) ?_
        refine gm ?_
        refine gv (PV.lenSl rfl) ?_
        refine gv (PV.neq rfl rfl) ?_
        refine sF ?_
        refine so ?_
        refine sc rfl (by omega) ?_
        refine sq ?_
        refine sr ?_
        refine sa ?_
        refine sa ?_
        refine so ?_
        exact T.retF (Lv.fin (RV.tmp2 rfl rfl rfl) (hend 8 (by omega) h8))
  rw [List.take_of_length_le (by omega)] at hn1
  have h0 : srtE c lb ks L = 0 := by unfold srtE; rw [if_neg (by simpa using hke), if_pos hn1]
  clear hend herr
  refine sq ?_
  refine sr ?_
  refine sv (PV.lss rfl rfl) ?_
  refine so ?_
  refine sq ?_
  refine sd rfl (by omega) ?_
  refine T.exit rfl ?_
  refine sq ?_
  refine sr ?_
  refine sa ?_
  refine so ?_
  refine sq ?_
  refine sq ?_
  refine sr ?_
  refine sm ?_
  refine sv (PV.lenSl rfl) ?_
  refine sm ?_
  refine so ?_
  refine T.block ?_
  refine T.loopK [(100, Value.int IntKind.i64 (↑L.length : Int)), (99, Value.slice am L.length cm), (4, Value.pointer (some { block := b4, off := 0 })), (1, Value.slice ab lb.length cb), (3, Value.slice ak ks.length ck)] zq8 (γ := SrG) (fun g => g.i ≤ L.length ∧ H.le g.H ∧ MtL g.H g.v g.A ∧ g.A = sortM c lb ks (L.take g.i)) (fun g => [(101, .int .i64 (g.i : Int)), (18, g.v)]) (fun g => [(b4, .cells #[c.va, c.vt, c.vx, c.vr, c.vn, c.vh, c.vs] 34 (0, 0))]) (fun g => g.H) (fun g => L.length - g.i) ⟨0, H, .slice none 0 0, []⟩ ⟨by simp, Hp.le.refl _, ⟨SlR.empty, by simp⟩, rfl⟩ zq8 (by repeat (first | exact Sel.refl _ | exact Sel.nil | (refine Sel.cons zq1 ?_) | (refine Sel.app zq1 ?_) | exact Sel.one zq1)) rfl ?_
  rintro ⟨i, H6, v, A⟩ ⟨g1, g2, g3, g4⟩
  dsimp only at g1 g2 g3 g4 ⊢
  obtain ⟨aA, cA, rfl⟩ := g3.1.len
  by_cases hi5 : i < L.length
  · obtain ⟨bx, off, m, rfl, hix, hsub⟩ := RowL.get encM_len (hL.1.mono g2) hi5
    have hmm := List.mem_of_getElem? hix
    have hlab := (hL.2 m hmm).mono g2
    obtain ⟨al, cl, hmv⟩ := hlab.1.len
    unfold encM at hsub
    rw [hmv] at hsub
    have hAin : ∀ y ∈ A, y ∈ L := fun y hy => List.mem_of_mem_take ((sortK_perm _ _).mem_iff.1 (g4 ▸ hy))
    have hAl : A.length = i := by rw [g4, sortM, sortK_length, List.length_take]; omega
    have hcap := g3.1.cap
    have hst : insE (fun a b => decide (cmpM c lb ks a b < 0)) A m = sortM c lb ks (L.take (i + 1)) := by
      rw [List.take_add_one, hix, g4]
      exact (sortK_snoc _ (L.take i) m).symm
    refine sq ?_
    refine sr ?_
    refine sv (PV.lss rfl rfl) ?_
    refine so ?_
    refine sq ?_
    refine sc rfl (by omega) ?_
    refine T.skip ?_
    refine sq ?_
    refine T.block ?_
    refine sq ?_
    refine sr ?_
    refine sv (PV.indexAddr rfl rfl (by omega)) ?_
    refine sv (PV.loadSubAll rfl (by assumption) (by exact rfl)) ?_
    refine sy fun b20 => ?_
    refine T.storeA Wanted.none rfl rfl zq8 (by exact rfl) zq14 zq13 ?_
    refine so ?_
    refine sq ?_
    refine sr ?_
    refine sm ?_
    refine sv (PV.lenSl rfl) ?_
    refine sa ?_
    refine so ?_
    refine sq ?_
    refine T.block ?_
    refine T.cut2G [(20, Value.pointer (some { block := b20, off := 0 })), (101, Value.int IntKind.i64 (↑i : Int)), (18, Value.slice aA A.length cA), (100, Value.int IntKind.i64 (↑L.length : Int)), (99, Value.slice (some { block := bx, off := off }) L.length cm), (4, Value.pointer (some { block := b4, off := 0 })), (1, Value.slice ab lb.length cb), (3, Value.slice ak ks.length ck)] (γ := Nat) (fun k => k = insK (fun a b => decide (cmpM c lb ks a b < 0)) A m A.length ∧ k ≤ A.length) (fun k => [(21, .int .i64 (k : Int))]) (fun _ => [(b20, .cells #[.int .i64 m.b, .int .i64 m.e, .slice al m.ls.length cl] 24 (0, 0)), (b4, .cells #[c.va, c.vt, c.vx, c.vr, c.vn, c.vh, c.vs] 34 (0, 0))]) ?_ fun K => ?_
    · rintro k ⟨hk1, hk2⟩
      dsimp only [List.cons_append, List.nil_append]
      have hone := one_encM hlab
      unfold encM at hone
      rw [hmv] at hone
      have hTo : ∀ y ∈ A.take k, LabOk H6 y := fun y hy => g3.2 y (List.mem_of_mem_take hy)
      have hDo : ∀ y ∈ A.drop k, LabOk H6 y := fun y hy => g3.2 y (List.mem_of_mem_drop hy)
      have e1 : (insE (fun a b => decide (cmpM c lb ks a b < 0)) A m).length = 0 + k + 1 + (A.length - k) := by rw [insE_length]; omega
      have e2 : (insE (fun a b => decide (cmpM c lb ks a b < 0)) A m).flatMap encM = [] ++ (A.take k).flatMap encM ++ [.int .i64 m.b, .int .i64 m.e, .slice al m.ls.length cl] ++ (A.drop k).flatMap encM := by
        unfold insE
        rw [← hk1, List.flatMap_append, List.flatMap_cons, show encM m = [.int .i64 m.b, .int .i64 m.e, .slice al m.ls.length cl] by unfold encM; rw [hmv]]
        simp
      skip
      (repeat refine sq ?_)
      refine T.cut1P (γ := SrV) (fun g => Vec 24 3 g.v g.lv (0 + k + 1 + (A.length - k)) ([] ++ (A.take k).flatMap encM ++ [.int .i64 m.b, .int .i64 m.e, .slice al m.ls.length cl] ++ (A.drop k).flatMap encM))
        (fun g => [(18, g.v), (101, .int .i64 (i : Int)), (100, .int .i64 (L.length : Int)), (99, .slice (some ⟨bx, off, none⟩) L.length cm), (4, .pointer (some ⟨b4, 0, none⟩)), (1, .slice ab lb.length cb), (3, .slice ak ks.length ck)])
        (fun g => g.lv ++ [(b4, .cells #[c.va, c.vt, c.vx, c.vr, c.vn, c.vh, c.vs] 34 (0, 0))]) ?_ fun K => ?_
      · rintro ⟨v9, lv9⟩ h9
        dsimp only at h9 ⊢
        refine T.freezeP (lv := lv9) h9 zq1 ?_
        intro H9 h69 hs9
        have hfin : MtL H9 v9 (insE (fun a b => decide (cmpM c lb ks a b < 0)) A m) := by
          refine ⟨by rw [e1, e2]; exact hs9, fun y hy => ?_⟩
          rcases List.mem_cons.1 ((insE_perm _ _ _).mem_iff.1 hy) with rfl | hy
          · exact hlab.mono h69
          · exact (g3.2 y hy).mono h69
        refine T.blkEnd ?_
        refine sr ?_
        refine sv (PV.add rfl rfl (by omega)) ?_
        refine sm ?_
        refine so ?_
        exact T.nextP ⟨i + 1, H9, _, insE (fun a b => decide (cmpM c lb ks a b < 0)) A m⟩ ⟨by dsimp only; omega, g2.trans h69, hfin, hst⟩ (by dsimp only; omega) zq8 (by repeat (first | exact Sel.refl _ | exact Sel.nil | (refine Sel.cons zq1 ?_) | (refine Sel.app zq1 ?_) | exact Sel.one zq1)) rfl
      · refine T.regionS [(b20, .cells #[.int .i64 m.b, .int .i64 m.e, .slice al m.ls.length cl] 24 (0, 0))] 12 (by kernel_rfl) ?_
        refine TS.take 1 rfl (by kernel_rfl) (by kernel_rfl) (by kernel_rfl) (by kernel_rfl) (PV.move rfl) Wanted.none rfl rfl ?_
        refine TS.take 2 rfl (by kernel_rfl) (by kernel_rfl) (by kernel_rfl) (by kernel_rfl) (PV.move rfl) Wanted.none rfl rfl ?_
        refine TS.take 3 rfl (by kernel_rfl) (by kernel_rfl) (by kernel_rfl) (by kernel_rfl) (PV.sliceH rfl rfl (by omega)) Wanted.none rfl rfl ?_
        refine TS.take 5 rfl (by kernel_rfl) (by kernel_rfl) (by kernel_rfl) (by kernel_rfl) (PV.loadAll rfl zq0 (by exact rfl)) Wanted.none rfl rfl ?_
        refine TS.take 8 rfl (by kernel_rfl) (by kernel_rfl) (by kernel_rfl) (by kernel_rfl) (PV.move rfl) Wanted.none rfl rfl ?_
        refine TS.take 9 rfl (by kernel_rfl) (by kernel_rfl) (by kernel_rfl) (by kernel_rfl) (PV.move rfl) Wanted.none rfl rfl ?_
        refine TS.take 10 rfl (by kernel_rfl) (by kernel_rfl) (by kernel_rfl) (by kernel_rfl) (PV.sliceL rfl rfl (by omega)) Wanted.none rfl rfl ?_
        refine TS.ways [0, 6] (by kernel_rfl) rfl zq18 ⟨⟨_, rfl, ?_⟩, ⟨_, rfl, ?_⟩, trivial⟩
        · (refine T.buildSlice Wanted.none rfl rfl zq11 (by exact rfl) (by exact rfl) ?_; intro b123)
          refine so ?_
          refine TS.back ?_
          refine TS.ways [4, 6] (by kernel_rfl) rfl zq18 ⟨⟨_, rfl, ?_⟩, ⟨_, rfl, ?_⟩, trivial⟩
          · (refine T.appendP (lv := []) Wanted.none rfl rfl rfl (Vec.empty 24 3 _) (MtS.pre g3.1 hk2).src (one_flatM hTo) (by omega) zq1 ?_; intro v127 lv127 hv127 _; obtain ⟨ad127, cap127, rfl⟩ := hv127.val)
            refine so ?_
            refine TS.back ?_
            refine TS.ways [6] (by kernel_rfl) rfl zq18 ⟨⟨_, rfl, ?_⟩, trivial⟩
            (refine T.buildSlice Wanted.none rfl rfl zq11 (by exact rfl) (by exact rfl) ?_; intro b129)
            refine so ?_
            refine TS.back ?_
            refine TS.ways [7] (by kernel_rfl) rfl zq18 ⟨⟨_, rfl, ?_⟩, trivial⟩
            (refine T.appendP (lv := lv127) Wanted.none rfl rfl rfl hv127 (Src.cells (m := 1) (ys := [.int .i64 m.b, .int .i64 m.e, .slice al m.ls.length cl]) (.own zq2) rfl rfl) hone (by omega) zq1 ?_; intro v130 lv130 hv130 _; obtain ⟨ad130, cap130, rfl⟩ := hv130.val)
            refine so ?_
            refine TS.back ?_
            refine TS.ways [11] (by kernel_rfl) rfl zq18 ⟨⟨_, rfl, ?_⟩, trivial⟩
            (refine T.appendP (lv := lv130) Wanted.none rfl rfl rfl hv130 (MtS.suf g3.1 hk2).src (one_flatM hDo) (by omega) zq1 ?_; intro v134 lv134 hv134 _; obtain ⟨ad134, cap134, rfl⟩ := hv134.val)
            refine so ?_
            refine TS.back ?_
            refine TS.ways [12] (by kernel_rfl) rfl zq18 ⟨⟨_, rfl, ?_⟩, trivial⟩
            refine sa ?_
            refine so ?_
            refine TS.back ?_
            refine TS.done (by kernel_rfl) (by kernel_rfl) ?_
            (exact K ⟨_, lv134⟩ _ _ hv134 zq8 (by repeat (first | exact Sel.refl _ | exact Sel.nil | (refine Sel.cons zq1 ?_) | (refine Sel.app zq1 ?_) | exact Sel.one zq1)))
          · (refine T.buildSlice Wanted.none rfl rfl zq11 (by exact rfl) (by exact rfl) ?_; intro b129)
            refine so ?_
            refine TS.back ?_
            refine TS.ways [4] (by kernel_rfl) rfl zq18 ⟨⟨_, rfl, ?_⟩, trivial⟩
            (refine T.appendP (lv := []) Wanted.none rfl rfl rfl (Vec.empty 24 3 _) (MtS.pre g3.1 hk2).src (one_flatM hTo) (by omega) zq1 ?_; intro v127 lv127 hv127 _; obtain ⟨ad127, cap127, rfl⟩ := hv127.val)
            refine so ?_
            refine TS.back ?_
            refine TS.ways [7] (by kernel_rfl) rfl zq18 ⟨⟨_, rfl, ?_⟩, trivial⟩
            (refine T.appendP (lv := lv127) Wanted.none rfl rfl rfl hv127 (Src.cells (m := 1) (ys := [.int .i64 m.b, .int .i64 m.e, .slice al m.ls.length cl]) (.own zq2) rfl rfl) hone (by omega) zq1 ?_; intro v130 lv130 hv130 _; obtain ⟨ad130, cap130, rfl⟩ := hv130.val)
            refine so ?_
            refine TS.back ?_
            refine TS.ways [11] (by kernel_rfl) rfl zq18 ⟨⟨_, rfl, ?_⟩, trivial⟩
            (refine T.appendP (lv := lv130) Wanted.none rfl rfl rfl hv130 (MtS.suf g3.1 hk2).src (one_flatM hDo) (by omega) zq1 ?_; intro v134 lv134 hv134 _; obtain ⟨ad134, cap134, rfl⟩ := hv134.val)
            refine so ?_
            refine TS.back ?_
            refine TS.ways [12] (by kernel_rfl) rfl zq18 ⟨⟨_, rfl, ?_⟩, trivial⟩
            refine sa ?_
            refine so ?_
            refine TS.back ?_
            refine TS.done (by kernel_rfl) (by kernel_rfl) ?_
            (exact K ⟨_, lv134⟩ _ _ hv134 zq8 (by repeat (first | exact Sel.refl _ | exact Sel.nil | (refine Sel.cons zq1 ?_) | (refine Sel.app zq1 ?_) | exact Sel.one zq1)))
        · (refine T.buildSlice Wanted.none rfl rfl zq11 (by exact rfl) (by exact rfl) ?_; intro b129)
          refine so ?_
          refine TS.back ?_
          refine TS.ways [0] (by kernel_rfl) rfl zq18 ⟨⟨_, rfl, ?_⟩, trivial⟩
          (refine T.buildSlice Wanted.none rfl rfl zq11 (by exact rfl) (by exact rfl) ?_; intro b123)
          refine so ?_
          refine TS.back ?_
          refine TS.ways [4] (by kernel_rfl) rfl zq18 ⟨⟨_, rfl, ?_⟩, trivial⟩
          (refine T.appendP (lv := []) Wanted.none rfl rfl rfl (Vec.empty 24 3 _) (MtS.pre g3.1 hk2).src (one_flatM hTo) (by omega) zq1 ?_; intro v127 lv127 hv127 _; obtain ⟨ad127, cap127, rfl⟩ := hv127.val)
          refine so ?_
          refine TS.back ?_
          refine TS.ways [7] (by kernel_rfl) rfl zq18 ⟨⟨_, rfl, ?_⟩, trivial⟩
          (refine T.appendP (lv := lv127) Wanted.none rfl rfl rfl hv127 (Src.cells (m := 1) (ys := [.int .i64 m.b, .int .i64 m.e, .slice al m.ls.length cl]) (.own zq2) rfl rfl) hone (by omega) zq1 ?_; intro v130 lv130 hv130 _; obtain ⟨ad130, cap130, rfl⟩ := hv130.val)
          refine so ?_
          refine TS.back ?_
          refine TS.ways [11] (by kernel_rfl) rfl zq18 ⟨⟨_, rfl, ?_⟩, trivial⟩
          (refine T.appendP (lv := lv130) Wanted.none rfl rfl rfl hv130 (MtS.suf g3.1 hk2).src (one_flatM hDo) (by omega) zq1 ?_; intro v134 lv134 hv134 _; obtain ⟨ad134, cap134, rfl⟩ := hv134.val)
          refine so ?_
          refine TS.back ?_
          refine TS.ways [12] (by kernel_rfl) rfl zq18 ⟨⟨_, rfl, ?_⟩, trivial⟩
          refine sa ?_
          refine so ?_
          refine TS.back ?_
          refine TS.done (by kernel_rfl) (by kernel_rfl) ?_
          (exact K ⟨_, lv134⟩ _ _ hv134 zq8 (by repeat (first | exact Sel.refl _ | exact Sel.nil | (refine Sel.cons zq1 ?_) | (refine Sel.app zq1 ?_) | exact Sel.one zq1)))
    · refine T.loopK [(20, Value.pointer (some { block := b20, off := 0 })), (101, Value.int IntKind.i64 (↑i : Int)), (18, Value.slice aA A.length cA), (100, Value.int IntKind.i64 (↑L.length : Int)), (99, Value.slice (some { block := bx, off := off }) L.length cm), (4, Value.pointer (some { block := b4, off := 0 })), (1, Value.slice ab lb.length cb), (3, Value.slice ak ks.length ck)] zq8 (γ := Nat) (fun k => k ≤ A.length ∧ insK (fun a b => decide (cmpM c lb ks a b < 0)) A m A.length = insK (fun a b => decide (cmpM c lb ks a b < 0)) A m k) (fun k => [(21, .int .i64 (k : Int))]) (fun _ => [(b20, .cells #[.int .i64 m.b, .int .i64 m.e, .slice al m.ls.length cl] 24 (0, 0)), (b4, .cells #[c.va, c.vt, c.vx, c.vr, c.vn, c.vh, c.vs] 34 (0, 0))]) (fun _ => H6) (fun k => k) A.length ⟨Nat.le_refl _, rfl⟩ zq8 (by repeat (first | exact Sel.refl _ | exact Sel.nil | (refine Sel.cons zq1 ?_) | (refine Sel.app zq1 ?_) | exact Sel.one zq1)) rfl ?_
      rintro k ⟨hk1, hk2⟩
      cases k with
      | zero =>
        have hj0 : decide ((0 : Int) < ((0 : Nat) : Int)) = false := rfl
        refine sq ?_
        refine sq ?_
        refine T.regionQ (by kernel_rfl) ?_
        refine TQ.pv (PV.move rfl) Wanted.none rfl rfl ?_
        refine TQ.pv (PV.gtr rfl rfl) Wanted.none rfl rfl ?_
        refine TQ.pv (PV.move rfl) Wanted.none rfl rfl ?_
        refine TQ.pass (Unwanted.guard rfl rfl rfl) rfl rfl ?_
        refine TQ.pass (Unwanted.guard rfl rfl rfl) rfl rfl ?_
        refine TQ.pass (Unwanted.guard rfl rfl rfl) rfl rfl ?_
        refine TQ.pass (Unwanted.guard rfl rfl rfl) rfl rfl ?_
        refine TQ.pass (Unwanted.guard rfl rfl rfl) rfl rfl ?_
        refine TQ.pass (Unwanted.guard rfl rfl rfl) rfl rfl ?_
        refine TQ.pass (Unwanted.guard rfl rfl rfl) rfl rfl ?_
        refine TQ.pass (Unwanted.guard rfl rfl rfl) rfl rfl ?_
        refine TQ.pass (Unwanted.guard rfl rfl rfl) rfl rfl ?_
        refine TQ.pass (Unwanted.guard rfl rfl rfl) rfl rfl ?_
        refine TQ.pv (PV.pickF rfl rfl rfl) Wanted.none rfl rfl ?_
        refine TQ.nil ?_
        refine T.condF rfl rfl ?_
        refine T.exit rfl ?_
        refine K 0 _ _ ⟨by rw [hk2]; rfl, by omega⟩ ?_ ?_; (focus exact zq8); (focus exact (by repeat (first | exact Sel.refl _ | exact Sel.nil | (refine Sel.cons zq1 ?_) | (refine Sel.app zq1 ?_) | exact Sel.one zq1)))
      | succ j0 =>
        obtain ⟨bo, oo, y, rfl, hiy, hsuby⟩ := RowL.get encM_len g3.1 (show j0 < A.length by omega)
        have hyA := List.mem_of_getElem? hiy
        have hylab := g3.2 y hyA
        obtain ⟨ay, cy, hyv⟩ := hylab.1.len
        unfold encM at hsuby
        rw [hyv] at hsuby
        have hsb : SubC H6 bo (oo + (((j0 + 1 : Nat) : Int) - 1).toNat * 3) [.int .i64 y.b, .int .i64 y.e, .slice ay y.ls.length cy] := by
          rw [show (((j0 + 1 : Nat) : Int) - 1).toNat = j0 by omega]; exact hsuby
        have hbf := before_ref c lb ks m y (.slice ab lb.length cb) (.slice ak ks.length ck) H6 (hc.mono g2) hw (hlb.mono g2) (SlR.mono hk g2) hkl hlab hylab (hls m hmm) (hls y (hAin y hyA))
        unfold cpV mtV at hbf
        rw [hmv, hyv] at hbf
        have hj0 : decide ((0 : Int) < ((j0 + 1 : Nat) : Int)) = true := decide_eq_true (by omega)
        by_cases hlt : cmpM c lb ks m y < 0
        · rw [decide_eq_true hlt] at hbf
          have hins : insK (fun a b => decide (cmpM c lb ks a b < 0)) A m (j0 + 1) = insK (fun a b => decide (cmpM c lb ks a b < 0)) A m j0 := by
            rw [insK, hiy]; simp [hlt]
          skip
          (repeat refine sq ?_)
          refine T.regionO [(b20, .cells #[.int .i64 m.b, .int .i64 m.e, .slice al m.ls.length cl] 24 (0, 0)), (b4, .cells #[c.va, c.vt, c.vx, c.vr, c.vn, c.vh, c.vs] 34 (0, 0))] (by kernel_rfl) ?_
          refine TO.take 0 rfl (by kernel_rfl) (by kernel_rfl) (by kernel_rfl) (PV.move rfl) Wanted.none rfl rfl ?_
          refine TO.take 1 rfl (by kernel_rfl) (by kernel_rfl) (by kernel_rfl) (PV.gtr rfl rfl) Wanted.none rfl rfl ?_
          refine TO.take 2 rfl (by kernel_rfl) (by kernel_rfl) (by kernel_rfl) (PV.move rfl) Wanted.none rfl rfl ?_
          refine TO.take 3 rfl (by kernel_rfl) (by kernel_rfl) (by kernel_rfl) (PV.loadAll rfl zq0 (by exact rfl)) (Wanted.guard rfl rfl (by assumption)) rfl rfl ?_
          refine TO.take 4 rfl (by kernel_rfl) (by kernel_rfl) (by kernel_rfl) (PV.move rfl) (Wanted.guard rfl rfl (by assumption)) rfl rfl ?_
          refine TO.take 5 rfl (by kernel_rfl) (by kernel_rfl) (by kernel_rfl) (PV.loadAll rfl zq0 (by exact rfl)) (Wanted.guard rfl rfl (by assumption)) rfl rfl ?_
          refine TO.take 6 rfl (by kernel_rfl) (by kernel_rfl) (by kernel_rfl) (PV.move rfl) (Wanted.guard rfl rfl (by assumption)) rfl rfl ?_
          refine TO.take 7 rfl (by kernel_rfl) (by kernel_rfl) (by kernel_rfl) (PV.move rfl) (Wanted.guard rfl rfl (by assumption)) rfl rfl ?_
          refine TO.take 8 rfl (by kernel_rfl) (by kernel_rfl) (by kernel_rfl) (PV.sub rfl rfl (by omega)) (Wanted.guard rfl rfl (by assumption)) rfl rfl ?_
          refine TO.take 9 rfl (by kernel_rfl) (by kernel_rfl) (by kernel_rfl) (PV.indexAddr rfl rfl (by omega)) (Wanted.guard rfl rfl (by assumption)) rfl rfl ?_
          refine TO.take 10 rfl (by kernel_rfl) (by kernel_rfl) (by kernel_rfl) (PV.loadSubAll rfl (by assumption) (by exact rfl)) (Wanted.guard rfl rfl (by assumption)) rfl rfl ?_
          refine TO.take 11 rfl (by kernel_rfl) (by kernel_rfl) (by kernel_rfl) (PV.move rfl) (Wanted.guard rfl rfl (by assumption)) rfl rfl ?_
          refine TO.step 12 rfl (by kernel_rfl) zq4 zq17 ?_
          refine T.callV (Wanted.guard rfl rfl (by assumption)) rfl rfl (hbf) ?_
          refine so ?_
          refine TO.back ?_
          refine TO.take 13 rfl (by kernel_rfl) (by kernel_rfl) (by kernel_rfl) (PV.pickT rfl (by assumption) rfl) Wanted.none rfl rfl ?_
          refine TO.done (by kernel_rfl) zq4 zq17 ?_
          refine T.condT rfl rfl ?_
          refine T.skip ?_
          refine T.block ?_
          refine sr ?_
          refine sm ?_
          refine sv (PV.sub rfl rfl (by omega)) ?_
          refine sa ?_
          refine so ?_
          refine T.blkEnd ?_
          rw [show ((j0 + 1 : Nat) : Int) - 1 = (j0 : Int) by omega]
          exact T.nextP j0 ⟨by omega, hk2.trans hins⟩ (Nat.lt_succ_self _) zq8 (by repeat (first | exact Sel.refl _ | exact Sel.nil | (refine Sel.cons zq1 ?_) | (refine Sel.app zq1 ?_) | exact Sel.one zq1)) rfl
        · rw [decide_eq_false hlt] at hbf
          have hins : insK (fun a b => decide (cmpM c lb ks a b < 0)) A m (j0 + 1) = j0 + 1 := by
            rw [insK, hiy]; simp [hlt]
          skip
          (repeat refine sq ?_)
          refine T.regionO [(b20, .cells #[.int .i64 m.b, .int .i64 m.e, .slice al m.ls.length cl] 24 (0, 0)), (b4, .cells #[c.va, c.vt, c.vx, c.vr, c.vn, c.vh, c.vs] 34 (0, 0))] (by kernel_rfl) ?_
          refine TO.take 0 rfl (by kernel_rfl) (by kernel_rfl) (by kernel_rfl) (PV.move rfl) Wanted.none rfl rfl ?_
          refine TO.take 1 rfl (by kernel_rfl) (by kernel_rfl) (by kernel_rfl) (PV.gtr rfl rfl) Wanted.none rfl rfl ?_
          refine TO.take 2 rfl (by kernel_rfl) (by kernel_rfl) (by kernel_rfl) (PV.move rfl) Wanted.none rfl rfl ?_
          refine TO.take 3 rfl (by kernel_rfl) (by kernel_rfl) (by kernel_rfl) (PV.loadAll rfl zq0 (by exact rfl)) (Wanted.guard rfl rfl (by assumption)) rfl rfl ?_
          refine TO.take 4 rfl (by kernel_rfl) (by kernel_rfl) (by kernel_rfl) (PV.move rfl) (Wanted.guard rfl rfl (by assumption)) rfl rfl ?_
          refine TO.take 5 rfl (by kernel_rfl) (by kernel_rfl) (by kernel_rfl) (PV.loadAll rfl zq0 (by exact rfl)) (Wanted.guard rfl rfl (by assumption)) rfl rfl ?_
          refine TO.take 6 rfl (by kernel_rfl) (by kernel_rfl) (by kernel_rfl) (PV.move rfl) (Wanted.guard rfl rfl (by assumption)) rfl rfl ?_
          refine TO.take 7 rfl (by kernel_rfl) (by kernel_rfl) (by kernel_rfl) (PV.move rfl) (Wanted.guard rfl rfl (by assumption)) rfl rfl ?_
          refine TO.take 8 rfl (by kernel_rfl) (by kernel_rfl) (by kernel_rfl) (PV.sub rfl rfl (by omega)) (Wanted.guard rfl rfl (by assumption)) rfl rfl ?_
          refine TO.take 9 rfl (by kernel_rfl) (by kernel_rfl) (by kernel_rfl) (PV.indexAddr rfl rfl (by omega)) (Wanted.guard rfl rfl (by assumption)) rfl rfl ?_
          refine TO.take 10 rfl (by kernel_rfl) (by kernel_rfl) (by kernel_rfl) (PV.loadSubAll rfl (by assumption) (by exact rfl)) (Wanted.guard rfl rfl (by assumption)) rfl rfl ?_
          refine TO.take 11 rfl (by kernel_rfl) (by kernel_rfl) (by kernel_rfl) (PV.move rfl) (Wanted.guard rfl rfl (by assumption)) rfl rfl ?_
          refine TO.step 12 rfl (by kernel_rfl) zq4 zq17 ?_
          refine T.callV (Wanted.guard rfl rfl (by assumption)) rfl rfl (hbf) ?_
          refine so ?_
          refine TO.back ?_
          refine TO.take 13 rfl (by kernel_rfl) (by kernel_rfl) (by kernel_rfl) (PV.pickT rfl (by assumption) rfl) Wanted.none rfl rfl ?_
          refine TO.done (by kernel_rfl) zq4 zq17 ?_
          refine T.condF rfl rfl ?_
          refine T.exit rfl ?_
          refine K (j0 + 1) _ _ ⟨by rw [hk2, hins], hk1⟩ ?_ ?_; (focus exact zq8); (focus exact (by repeat (first | exact Sel.refl _ | exact Sel.nil | (refine Sel.cons zq1 ?_) | (refine Sel.app zq1 ?_) | exact Sel.one zq1)))
  · rw [List.take_of_length_le (by omega)] at g4
    refine sq ?_
    refine sr ?_
    refine sv (PV.lss rfl rfl) ?_
    refine so ?_
    refine sq ?_
    refine sd rfl (by omega) ?_
    refine T.exit rfl ?_
    refine sq ?_
    refine sr ?_
    refine sm ?_
    refine sa ?_
    refine sa ?_
    refine so ?_
    exact T.retF (Lv.fin (RV.tmp2 rfl rfl rfl) ⟨_, A, by rw [h0], g3, fun _ => g4, fun h => absurd h0 h⟩)
end Go.Proofs.YtlklcjpmfjmenaaGreatDoor
