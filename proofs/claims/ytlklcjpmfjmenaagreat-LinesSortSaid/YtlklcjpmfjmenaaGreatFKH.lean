/- lines: the keys of a sorting. -/
import Derived.Test.YtlklcjpmfjmenaaGreatFK5
namespace Go.Proofs.YtlklcjpmfjmenaaGreat
open Go.RowKit


abbrev KyL (H : Hp) (v : Value) (l : List Ky) : Prop := SlR H 7 v l.length (l.flatMap encKy)
def badK (k : Ky) : Bool := decide (k.at_ < 1) || (decide (3 < k.at_) || (decide (k.at_ ≠ 3) && decide (k.lb ≠ ⟨#[]⟩)))
def nameK (c : Cp) (k : Ky) : Bool := decide (attI c.att k.nm < 0)
def lostK (lb : List ByteArray) (k : Ky) : Bool := decide (k.at_ = 3) && !(lb.any fun x => decide (x = k.lb))
def keyErr (c : Cp) (lb : List ByteArray) (ks : List Ky) : Int :=
  if 8 < ks.length then 1 else if ks.any badK then 1 else if ks.any (nameK c) then 4 else if ks.any (lostK lb) then 16 else 0
theorem any_in {α : Type} {l : List α} {i : Nat} {x : α} {g : α → Bool} (h : l[i]? = some x) (hg : g x = true) : l.any g = true := List.any_eq_true.2 ⟨x, List.mem_of_getElem? h, hg⟩
set_option maxHeartbeats 1000000 in
theorem checkKeys_in (c : Cp) (lb : List ByteArray) (ks : List Ky) (vl vk : Value) (H : Hp) (hc : CpL H c) (hlb : StL H vl lb) (hk : KyL H vk ks) (hl : lb.length ≤ 1000) (hkl : ks.length ≤ 1000000) :
    Fn Tryz.prog 17 #[cpV c, vl, vk] H (fun u _ => u = .int .i64 (keyErr c lb ks)) := by
  obtain ⟨ab, cb, rfl⟩ := hlb.len
  obtain ⟨ak, ck, rfl⟩ := hk.len
  unfold cpV
  refine Fn.of_T (vs := [.agg #[c.va, c.vt, c.vx, c.vr, c.vn, c.vh, c.vs], .slice ab lb.length cb, .slice ak ks.length ck]) Tryz.func17 rfl rfl fun w => ?_
  by_cases h8 : 8 < ks.length
  · refine sq ?_
    refine sr ?_
    (refine T.box Wanted.none rfl rfl zq15 ?_; intro b3)
    refine sa ?_
    refine so ?_
    refine sq ?_
    refine sq ?_
    refine sr ?_
    refine sm ?_
    refine sv (PV.lenSl rfl) ?_
    refine sv (PV.gtr rfl rfl) ?_
    refine so ?_
    refine sc rfl (by omega) ?_
    refine sq ?_
    refine sr ?_
    refine sa ?_
    refine so ?_
    exact T.retF (Lv.fin (RV.tmp rfl rfl) (by unfold keyErr; rw [if_pos h8]))
  refine sq ?_
  refine sr ?_
  (refine T.box Wanted.none rfl rfl zq15 ?_; intro b3)
  refine sa ?_
  refine so ?_
  refine sq ?_
  refine sq ?_
  refine sr ?_
  refine sm ?_
  refine sv (PV.lenSl rfl) ?_
  refine sv (PV.gtr rfl rfl) ?_
  refine so ?_
  refine sd rfl (by omega) ?_
  refine T.skip ?_
  refine sq ?_
  refine sq ?_
  refine sr ?_
  refine sm ?_
  refine sv (PV.lenSl rfl) ?_
  refine sm ?_
  refine so ?_
  refine T.block ?_
  refine T.loopC [(17, Value.int IntKind.i64 (↑ks.length : Int)), (16, Value.slice ak ks.length ck), (3, Value.pointer (some { block := b3, off := 0 })), (1, Value.slice ab lb.length cb), (2, Value.slice ak ks.length ck)] zq8 18 ks.length (fun i => (ks.take i).any badK = false) rfl rfl ?_
  rintro i ⟨hi0, hi1⟩
  by_cases hi : i < ks.length
  · obtain ⟨b, off, k, rfl, hix, hsub⟩ := RowL.get encKy_len hk hi
    unfold encKy at hsub
    by_cases a1 : k.at_ < 1
    · have hb : ks.any badK = true := any_in hix (by unfold badK; rw [decide_eq_true a1]; rfl)
      refine sq ?_
      refine sr ?_
      refine sv (PV.lss rfl rfl) ?_
      refine so ?_
      refine sq ?_
      refine sc rfl (by omega) ?_
      refine T.skip ?_
      refine sq ?_
      refine T.block ?_
      refine sq ?_
      refine sr ?_
      refine sv (PV.indexAddr rfl rfl (by omega)) ?_
      refine sv (PV.loadSubAll rfl (by assumption) (by exact rfl)) ?_
      refine sy fun b8 => ?_
      refine T.storeA Wanted.none rfl rfl zq8 (by exact rfl) zq14 zq13 ?_
      refine so ?_
      refine sq ?_
      refine sr ?_
      refine sf ?_
      refine sl ?_
      refine sv (PV.lss rfl rfl) ?_
      refine sm ?_
      refine T.setT (d := 25) rfl (by omega) ?_
      refine sp ?_
      refine sp ?_
      refine sp ?_
      refine sT ?_
      refine sm ?_
      refine sp ?_
      refine sp ?_
      refine sp ?_
      refine sp ?_
      refine su ?_
      refine su ?_
      refine su ?_
      refine sp ?_
      refine sT ?_
      refine so ?_
      refine T.condT rfl rfl ?_
      refine sq ?_
      refine sr ?_
      refine sa ?_
      refine so ?_
      exact T.retF (Lv.fin (RV.tmp rfl rfl) (by unfold keyErr; rw [if_neg h8, if_pos hb]))
    · by_cases a2 : 3 < k.at_
      · have hb : ks.any badK = true := any_in hix (by unfold badK; rw [decide_eq_true a2]; simp)
        refine sq ?_
        refine sr ?_
        refine sv (PV.lss rfl rfl) ?_
        refine so ?_
        refine sq ?_
        refine sc rfl (by omega) ?_
        refine T.skip ?_
        refine sq ?_
        refine T.block ?_
        refine sq ?_
        refine sr ?_
        refine sv (PV.indexAddr rfl rfl (by omega)) ?_
        refine sv (PV.loadSubAll rfl (by assumption) (by exact rfl)) ?_
        refine sy fun b8 => ?_
        refine T.storeA Wanted.none rfl rfl zq8 (by exact rfl) zq14 zq13 ?_
        refine so ?_
        refine sq ?_
        refine sr ?_
        refine sf ?_
        refine sl ?_
        refine sv (PV.lss rfl rfl) ?_
        refine sm ?_
        refine T.setF (d := 25) rfl (by omega) ?_
        refine gf ?_
        refine gl ?_
        refine gv (PV.gtr rfl rfl) ?_
        refine sF ?_
        refine sm ?_
        refine T.setT (d := 30) rfl (by omega) ?_
        refine sp ?_
        refine sp ?_
        refine sp ?_
        refine sp ?_
        refine su ?_
        refine su ?_
        refine su ?_
        refine sp ?_
        refine sT ?_
        refine so ?_
        refine T.condT rfl rfl ?_
        refine sq ?_
        refine sr ?_
        refine sa ?_
        refine so ?_
        exact T.retF (Lv.fin (RV.tmp rfl rfl) (by unfold keyErr; rw [if_neg h8, if_pos hb]))
      · by_cases a3 : k.at_ = 3
        · have hb : badK k = false := by unfold badK; rw [decide_eq_false a1, decide_eq_false a2, a3]; rfl
          refine sq ?_
          refine sr ?_
          refine sv (PV.lss rfl rfl) ?_
          refine so ?_
          refine sq ?_
          refine sc rfl (by omega) ?_
          refine T.skip ?_
          refine sq ?_
          refine T.block ?_
          refine sq ?_
          refine sr ?_
          refine sv (PV.indexAddr rfl rfl (by omega)) ?_
          refine sv (PV.loadSubAll rfl (by assumption) (by exact rfl)) ?_
          refine sy fun b8 => ?_
          refine T.storeA Wanted.none rfl rfl zq8 (by exact rfl) zq14 zq13 ?_
          refine so ?_
          refine sq ?_
          refine sr ?_
          refine sf ?_
          refine sl ?_
          refine sv (PV.lss rfl rfl) ?_
          refine sm ?_
          refine T.setF (d := 25) rfl (by omega) ?_
          refine gf ?_
          refine gl ?_
          refine gv (PV.gtr rfl rfl) ?_
          refine sF ?_
          refine sm ?_
          refine T.setF (d := 30) rfl (by omega) ?_
          refine gf ?_
          refine gl ?_
          refine gv (PV.neq rfl rfl) ?_
          refine gm ?_
          refine T.setF (d := 34) rfl (by omega) ?_
          refine sp ?_
          refine sp ?_
          refine sp ?_
          refine gv (PV.pickF rfl rfl rfl) ?_
          refine sF ?_
          refine so ?_
          refine T.condF rfl rfl ?_
          refine T.skip ?_
          refine T.blkEnd ?_
          refine sr ?_
          refine sv (PV.add rfl rfl (by omega)) ?_
          refine sm ?_
          refine so ?_
          exact T.nextC hi (ixI_drop hi1 hix hb) rfl zq8 (by repeat (first | exact Sel.refl _ | exact Sel.nil | (refine Sel.cons zq1 ?_) | (refine Sel.app zq1 ?_) | exact Sel.one zq1))
        · by_cases a4 : k.lb = ⟨#[]⟩
          · have hd : decide (k.lb ≠ ⟨#[]⟩) = false := by simp [a4]
            have hb : badK k = false := by unfold badK; rw [decide_eq_false a1, decide_eq_false a2, hd]; simp
            refine sq ?_
            refine sr ?_
            refine sv (PV.lss rfl rfl) ?_
            refine so ?_
            refine sq ?_
            refine sc rfl (by omega) ?_
            refine T.skip ?_
            refine sq ?_
            refine T.block ?_
            refine sq ?_
            refine sr ?_
            refine sv (PV.indexAddr rfl rfl (by omega)) ?_
            refine sv (PV.loadSubAll rfl (by assumption) (by exact rfl)) ?_
            refine sy fun b8 => ?_
            refine T.storeA Wanted.none rfl rfl zq8 (by exact rfl) zq14 zq13 ?_
            refine so ?_
            refine sq ?_
            refine sr ?_
            refine sf ?_
            refine sl ?_
            refine sv (PV.lss rfl rfl) ?_
            refine sm ?_
            refine T.setF (d := 25) rfl (by omega) ?_
            refine gf ?_
            refine gl ?_
            refine gv (PV.gtr rfl rfl) ?_
            refine sF ?_
            refine sm ?_
            refine T.setF (d := 30) rfl (by omega) ?_
            refine gf ?_
            refine gl ?_
            refine gv (PV.neq rfl rfl) ?_
            refine gm ?_
            refine T.setT (d := 34) rfl (by omega) ?_
            refine gf ?_
            refine gl ?_
            refine gv (PV.sneq rfl rfl) ?_
            refine gv (PV.pickT rfl rfl rfl) ?_
            refine sF ?_
            refine so ?_
            refine T.condF rfl (by assumption) ?_
            refine T.skip ?_
            refine T.blkEnd ?_
            refine sr ?_
            refine sv (PV.add rfl rfl (by omega)) ?_
            refine sm ?_
            refine so ?_
            exact T.nextC hi (ixI_drop hi1 hix hb) rfl zq8 (by repeat (first | exact Sel.refl _ | exact Sel.nil | (refine Sel.cons zq1 ?_) | (refine Sel.app zq1 ?_) | exact Sel.one zq1))
          · have hd : decide (k.lb ≠ ⟨#[]⟩) = true := by simp [a4]
            have hb : ks.any badK = true := any_in hix (by unfold badK; rw [decide_eq_true (show k.at_ ≠ 3 from a3), hd]; simp)
            refine sq ?_
            refine sr ?_
            refine sv (PV.lss rfl rfl) ?_
            refine so ?_
            refine sq ?_
            refine sc rfl (by omega) ?_
            refine T.skip ?_
            refine sq ?_
            refine T.block ?_
            refine sq ?_
            refine sr ?_
            refine sv (PV.indexAddr rfl rfl (by omega)) ?_
            refine sv (PV.loadSubAll rfl (by assumption) (by exact rfl)) ?_
            refine sy fun b8 => ?_
            refine T.storeA Wanted.none rfl rfl zq8 (by exact rfl) zq14 zq13 ?_
            refine so ?_
            refine sq ?_
            refine sr ?_
            refine sf ?_
            refine sl ?_
            refine sv (PV.lss rfl rfl) ?_
            refine sm ?_
            refine T.setF (d := 25) rfl (by omega) ?_
            refine gf ?_
            refine gl ?_
            refine gv (PV.gtr rfl rfl) ?_
            refine sF ?_
            refine sm ?_
            refine T.setF (d := 30) rfl (by omega) ?_
            refine gf ?_
            refine gl ?_
            refine gv (PV.neq rfl rfl) ?_
            refine gm ?_
            refine T.setT (d := 34) rfl (by omega) ?_
            refine gf ?_
            refine gl ?_
            refine gv (PV.sneq rfl rfl) ?_
            refine gv (PV.pickT rfl rfl rfl) ?_
            refine sF ?_
            refine so ?_
            refine T.condT rfl (by assumption) ?_
            refine sq ?_
            refine sr ?_
            refine sa ?_
            refine so ?_
            exact T.retF (Lv.fin (RV.tmp rfl rfl) (by unfold keyErr; rw [if_neg h8, if_pos hb]))
  rw [List.take_of_length_le (by omega)] at hi1
  have hb1 : ¬ ks.any badK = true := by rw [hi1]; simp
  refine sq ?_
  refine sr ?_
  refine sv (PV.lss rfl rfl) ?_
  refine so ?_
  refine sq ?_
  refine sd rfl (by omega) ?_
  refine T.exit rfl ?_
  refine sq ?_
  refine sq ?_
  refine sr ?_
  refine sm ?_
  refine sv (PV.lenSl rfl) ?_
  refine sm ?_
  refine so ?_
  refine T.block ?_
  refine T.loopC [(42, Value.int IntKind.i64 (↑ks.length : Int)), (41, Value.slice ak ks.length ck), (3, Value.pointer (some { block := b3, off := 0 })), (1, Value.slice ab lb.length cb), (2, Value.slice ak ks.length ck)] zq8 43 ks.length (fun i => (ks.take i).any (nameK c) = false) rfl rfl ?_
  rintro i2 ⟨hj0, hj1⟩
  by_cases hj : i2 < ks.length
  · obtain ⟨b, off, k, rfl, hix, hsub⟩ := RowL.get encKy_len hk hj
    unfold encKy at hsub
    have hat := attribute_in c.att c.va k.nm H hc.a hc.la
    by_cases a1 : attI c.att k.nm < 0
    · have hb : ks.any (nameK c) = true := any_in hix (decide_eq_true a1)
      refine sq ?_
      refine sr ?_
      refine sv (PV.lss rfl rfl) ?_
      refine so ?_
      refine sq ?_
      refine sc rfl (by omega) ?_
      refine T.skip ?_
      refine sq ?_
      refine T.block ?_
      refine sq ?_
      refine sr ?_
      refine sv (PV.indexAddr rfl rfl (by omega)) ?_
      refine sv (PV.loadSubAll rfl (by assumption) (by exact rfl)) ?_
      refine sy fun b10 => ?_
      refine T.storeA Wanted.none rfl rfl zq8 (by exact rfl) zq14 zq13 ?_
      refine so ?_
      refine sq ?_
      refine sr ?_
      refine sf ?_
      refine sl ?_
      refine sf ?_
      refine sl ?_
      refine T.callV Wanted.none rfl rfl (hat) ?_
      refine sv (PV.lss rfl rfl) ?_
      refine so ?_
      refine sc rfl (by omega) ?_
      refine sq ?_
      refine sr ?_
      refine sa ?_
      refine so ?_
      exact T.retF (Lv.fin (RV.tmp rfl rfl) (by unfold keyErr; rw [if_neg h8, if_neg hb1, if_pos hb]))
    · refine sq ?_
      refine sr ?_
      refine sv (PV.lss rfl rfl) ?_
      refine so ?_
      refine sq ?_
      refine sc rfl (by omega) ?_
      refine T.skip ?_
      refine sq ?_
      refine T.block ?_
      refine sq ?_
      refine sr ?_
      refine sv (PV.indexAddr rfl rfl (by omega)) ?_
      refine sv (PV.loadSubAll rfl (by assumption) (by exact rfl)) ?_
      refine sy fun b10 => ?_
      refine T.storeA Wanted.none rfl rfl zq8 (by exact rfl) zq14 zq13 ?_
      refine so ?_
      refine sq ?_
      refine sr ?_
      refine sf ?_
      refine sl ?_
      refine sf ?_
      refine sl ?_
      refine T.callV Wanted.none rfl rfl (hat) ?_
      refine sv (PV.lss rfl rfl) ?_
      refine so ?_
      refine sd rfl (by omega) ?_
      refine T.skip ?_
      refine T.blkEnd ?_
      refine sr ?_
      refine sv (PV.add rfl rfl (by omega)) ?_
      refine sm ?_
      refine so ?_
      exact T.nextC hj (ixI_drop hj1 hix (decide_eq_false a1)) rfl zq8 (by repeat (first | exact Sel.refl _ | exact Sel.nil | (refine Sel.cons zq1 ?_) | (refine Sel.app zq1 ?_) | exact Sel.one zq1))
  rw [List.take_of_length_le (by omega)] at hj1
  have hb2 : ¬ ks.any (nameK c) = true := by rw [hj1]; simp
  refine sq ?_
  refine sr ?_
  refine sv (PV.lss rfl rfl) ?_
  refine so ?_
  refine sq ?_
  refine sd rfl (by omega) ?_
  refine T.exit rfl ?_
  refine sq ?_
  refine sq ?_
  refine sr ?_
  refine sm ?_
  refine sv (PV.lenSl rfl) ?_
  refine sm ?_
  refine so ?_
  refine T.block ?_
  refine T.loopC [(55, Value.int IntKind.i64 (↑ks.length : Int)), (54, Value.slice ak ks.length ck), (1, Value.slice ab lb.length cb)] zq8 56 ks.length (fun i => (ks.take i).any (lostK lb) = false) rfl rfl ?_
  rintro i3 ⟨hm0, hm1⟩
  by_cases hm : i3 < ks.length
  · obtain ⟨b, off, k, rfl, hix, hsub⟩ := RowL.get encKy_len hk hm
    unfold encKy at hsub
    have hco := contains_str lb k.lb (.slice ab lb.length cb) H hlb hl
    by_cases a1 : k.at_ = 3
    · cases hq : lb.any fun x => decide (x = k.lb)
      · have hb : ks.any (lostK lb) = true := any_in hix (by unfold lostK; rw [decide_eq_true a1, hq]; rfl)
        rw [hq] at hco
        refine sq ?_
        refine sr ?_
        refine sv (PV.lss rfl rfl) ?_
        refine so ?_
        refine sq ?_
        refine sc rfl (by omega) ?_
        refine T.skip ?_
        refine sq ?_
        refine T.block ?_
        refine sq ?_
        refine sr ?_
        refine sv (PV.indexAddr rfl rfl (by omega)) ?_
        refine sv (PV.loadSubAll rfl (by assumption) (by exact rfl)) ?_
        refine sy fun b12 => ?_
        refine T.storeA Wanted.none rfl rfl zq8 (by exact rfl) zq14 zq13 ?_
        refine so ?_
        refine sq ?_
        refine sr ?_
        refine sf ?_
        refine sl ?_
        refine sv (PV.eql rfl rfl) ?_
        refine sm ?_
        refine T.setT (d := 63) rfl (by omega) ?_
        refine gm ?_
        refine gf ?_
        refine gl ?_
        refine T.callV (Wanted.guard rfl rfl rfl) rfl rfl (hco) ?_
        refine gv (PV.not rfl) ?_
        refine sT ?_
        refine so ?_
        refine T.condT rfl rfl ?_
        refine sq ?_
        refine sr ?_
        refine sa ?_
        refine so ?_
        exact T.retF (Lv.fin (RV.tmp rfl rfl) (by unfold keyErr; rw [if_neg h8, if_neg hb1, if_neg hb2, if_pos hb]))
      · have hb : lostK lb k = false := by unfold lostK; rw [hq]; simp
        rw [hq] at hco
        refine sq ?_
        refine sr ?_
        refine sv (PV.lss rfl rfl) ?_
        refine so ?_
        refine sq ?_
        refine sc rfl (by omega) ?_
        refine T.skip ?_
        refine sq ?_
        refine T.block ?_
        refine sq ?_
        refine sr ?_
        refine sv (PV.indexAddr rfl rfl (by omega)) ?_
        refine sv (PV.loadSubAll rfl (by assumption) (by exact rfl)) ?_
        refine sy fun b12 => ?_
        refine T.storeA Wanted.none rfl rfl zq8 (by exact rfl) zq14 zq13 ?_
        refine so ?_
        refine sq ?_
        refine sr ?_
        refine sf ?_
        refine sl ?_
        refine sv (PV.eql rfl rfl) ?_
        refine sm ?_
        refine T.setT (d := 63) rfl (by omega) ?_
        refine gm ?_
        refine gf ?_
        refine gl ?_
        refine T.callV (Wanted.guard rfl rfl rfl) rfl rfl (hco) ?_
        refine gv (PV.not rfl) ?_
        refine sT ?_
        refine so ?_
        refine T.condF rfl rfl ?_
        refine T.skip ?_
        refine T.blkEnd ?_
        refine sr ?_
        refine sv (PV.add rfl rfl (by omega)) ?_
        refine sm ?_
        refine so ?_
        exact T.nextC hm (ixI_drop hm1 hix hb) rfl zq8 (by repeat (first | exact Sel.refl _ | exact Sel.nil | (refine Sel.cons zq1 ?_) | (refine Sel.app zq1 ?_) | exact Sel.one zq1))
    · have hb : lostK lb k = false := by unfold lostK; rw [decide_eq_false a1]; rfl
      refine sq ?_
      refine sr ?_
      refine sv (PV.lss rfl rfl) ?_
      refine so ?_
      refine sq ?_
      refine sc rfl (by omega) ?_
      refine T.skip ?_
      refine sq ?_
      refine T.block ?_
      refine sq ?_
      refine sr ?_
      refine sv (PV.indexAddr rfl rfl (by omega)) ?_
      refine sv (PV.loadSubAll rfl (by assumption) (by exact rfl)) ?_
      refine sy fun b12 => ?_
      refine T.storeA Wanted.none rfl rfl zq8 (by exact rfl) zq14 zq13 ?_
      refine so ?_
      refine sq ?_
      refine sr ?_
      refine sf ?_
      refine sl ?_
      refine sv (PV.eql rfl rfl) ?_
      refine sm ?_
      refine T.setF (d := 63) rfl (by omega) ?_
      refine sp ?_
      refine sp ?_
      refine sp ?_
      refine sp ?_
      refine sp ?_
      refine sF ?_
      refine so ?_
      refine T.condF rfl rfl ?_
      refine T.skip ?_
      refine T.blkEnd ?_
      refine sr ?_
      refine sv (PV.add rfl rfl (by omega)) ?_
      refine sm ?_
      refine so ?_
      exact T.nextC hm (ixI_drop hm1 hix hb) rfl zq8 (by repeat (first | exact Sel.refl _ | exact Sel.nil | (refine Sel.cons zq1 ?_) | (refine Sel.app zq1 ?_) | exact Sel.one zq1))
  rw [List.take_of_length_le (by omega)] at hm1
  have hb3 : ¬ ks.any (lostK lb) = true := by rw [hm1]; simp
  refine sq ?_
  refine sr ?_
  refine sv (PV.lss rfl rfl) ?_
  refine so ?_
  refine sq ?_
  refine sd rfl (by omega) ?_
  refine T.exit rfl ?_
  refine sq ?_
  refine sr ?_
  refine sa ?_
  refine so ?_
  exact T.retF (Lv.fin (RV.tmp rfl rfl) (by unfold keyErr; rw [if_neg h8, if_neg hb1, if_neg hb2, if_neg hb3]))

end Go.Proofs.YtlklcjpmfjmenaaGreat
