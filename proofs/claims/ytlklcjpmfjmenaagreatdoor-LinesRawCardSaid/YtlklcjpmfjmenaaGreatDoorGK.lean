/- lines: the keys of a sorting.
   lines: comparing strings and matches. -/
import Derived.Lib.Bytealg
import Derived.Test.YtlklcjpmfjmenaaGreatDoorFK5
namespace Go.Proofs.YtlklcjpmfjmenaaGreatDoor
open Go.RowKit

abbrev KyL (H : Hp) (v : Value) (l : List Ky) : Prop := SlR H 7 v l.length (l.flatMap encKy)
def badK (k : Ky) : Bool := decide (k.at_ < 1) || (decide (3 < k.at_) || (decide (k.at_ ≠ 3) && decide (k.lb ≠ ⟨#[]⟩)))
def nameK (c : Cp) (k : Ky) : Bool := decide (attI c.att k.nm < 0)
def lostK (lb : List ByteArray) (k : Ky) : Bool := decide (k.at_ = 3) && !(lb.any fun x => decide (x = k.lb))
def keyErr (c : Cp) (lb : List ByteArray) (ks : List Ky) : Int :=
  if 8 < ks.length then 1 else if ks.any badK then 1 else if ks.any (nameK c) then 4 else if ks.any (lostK lb) then 16 else 0
theorem any_in {α : Type} {l : List α} {i : Nat} {x : α} {g : α → Bool} (h : l[i]? = some x) (hg : g x = true) : l.any g = true := List.any_eq_true.2 ⟨x, List.mem_of_getElem? h, hg⟩
set_option maxHeartbeats 1000000 in
theorem checkKeys_in (c : Cp) (lb : List ByteArray) (ks : List Ky) (vl vk : Value) (H : Hp) (hc : CpL H c) (hlb : StL H vl lb) (hk : KyL H vk ks) (hl : lb.length ≤ 1000) (hkl : ks.length ≤ 1000000) :
    Fn Tryz.prog 34 #[cpV c, vl, vk] H (fun u _ => u = .int .i64 (keyErr c lb ks)) := by
  obtain ⟨ab, cb, rfl⟩ := hlb.len
  obtain ⟨ak, ck, rfl⟩ := hk.len
  unfold cpV
  refine Fn.of_T (vs := [.agg #[c.va, c.vt, c.vx, c.vr, c.vn, c.vh, c.vs], .slice ab lb.length cb, .slice ak ks.length ck]) Tryz.func34 rfl rfl fun w => ?_
  by_cases h8 : 8 < ks.length
  · refine sq ?_
    refine sr ?_
    (refine T.box Wanted.none rfl rfl zq15 ?_; intro b3)
    refine sa ?_
    refine so ?_
    refine sq ?_
    refine sq ?_
    refine sr ?_
    refine sm ?_
    refine sv (PV.lenSl rfl) ?_
    refine sv (PV.gtr rfl rfl) ?_
    refine so ?_
    refine sc rfl (by omega) ?_
    refine sq ?_
    refine sr ?_
    refine sa ?_
    refine so ?_
    exact T.retF (Lv.fin (RV.tmp rfl rfl) (by unfold keyErr; rw [if_pos h8]))
  refine sq ?_
  refine sr ?_
  (refine T.box Wanted.none rfl rfl zq15 ?_; intro b3)
  refine sa ?_
  refine so ?_
  refine sq ?_
  refine sq ?_
  refine sr ?_
  refine sm ?_
  refine sv (PV.lenSl rfl) ?_
  refine sv (PV.gtr rfl rfl) ?_
  refine so ?_
  refine sd rfl (by omega) ?_
  refine T.skip ?_
  refine sq ?_
  refine sq ?_
  refine sr ?_
  refine sm ?_
  refine sv (PV.lenSl rfl) ?_
  refine sm ?_
  refine so ?_
  refine T.block ?_
  refine T.loopC [(17, Value.int IntKind.i64 (↑ks.length : Int)), (16, Value.slice ak ks.length ck), (3, Value.pointer (some { block := b3, off := 0 })), (1, Value.slice ab lb.length cb), (2, Value.slice ak ks.length ck)] zq8 18 ks.length (fun i => (ks.take i).any badK = false) rfl rfl ?_
  rintro i ⟨hi0, hi1⟩
  by_cases hi : i < ks.length
  · obtain ⟨b, off, k, rfl, hix, hsub⟩ := RowL.get encKy_len hk hi
    unfold encKy at hsub
    by_cases a1 : k.at_ < 1
    · have hb : ks.any badK = true := any_in hix (by unfold badK; rw [decide_eq_true a1]; rfl)
      refine sq ?_
      refine sr ?_
      refine sv (PV.lss rfl rfl) ?_
      refine so ?_
      refine sq ?_
      refine sc rfl (by omega) ?_
      refine T.skip ?_
      refine sq ?_
      refine T.block ?_
      refine sq ?_
      refine sr ?_
      refine sv (PV.indexAddr rfl rfl (by omega)) ?_
      refine sv (PV.loadSubAll rfl (by assumption) (by exact rfl)) ?_
      refine sy fun b8 => ?_
      refine T.storeA Wanted.none rfl rfl zq8 (by exact rfl) zq14 zq13 ?_
      refine so ?_
      refine sq ?_
      refine sr ?_
      refine sf ?_
      refine sl ?_
      refine sv (PV.lss rfl rfl) ?_
      refine sm ?_
      refine T.setT (d := 25) rfl (by omega) ?_
      refine sp ?_
      refine sp ?_
      refine sp ?_
      refine sT ?_
      refine sm ?_
      refine sp ?_
      refine sp ?_
      refine sp ?_
      refine sp ?_
      refine su ?_
      refine su ?_
      refine su ?_
      refine sp ?_
      refine sT ?_
      refine so ?_
      refine T.condT rfl rfl ?_
      refine sq ?_
      refine sr ?_
      refine sa ?_
      refine so ?_
      exact T.retF (Lv.fin (RV.tmp rfl rfl) (by unfold keyErr; rw [if_neg h8, if_pos hb]))
    · by_cases a2 : 3 < k.at_
      · have hb : ks.any badK = true := any_in hix (by unfold badK; rw [decide_eq_true a2]; simp)
        refine sq ?_
        refine sr ?_
        refine sv (PV.lss rfl rfl) ?_
        refine so ?_
        refine sq ?_
        refine sc rfl (by omega) ?_
        refine T.skip ?_
        refine sq ?_
        refine T.block ?_
        refine sq ?_
        refine sr ?_
        refine sv (PV.indexAddr rfl rfl (by omega)) ?_
        refine sv (PV.loadSubAll rfl (by assumption) (by exact rfl)) ?_
        refine sy fun b8 => ?_
        refine T.storeA Wanted.none rfl rfl zq8 (by exact rfl) zq14 zq13 ?_
        refine so ?_
        refine sq ?_
        refine sr ?_
        refine sf ?_
        refine sl ?_
        refine sv (PV.lss rfl rfl) ?_
        refine sm ?_
        refine T.setF (d := 25) rfl (by omega) ?_
        refine gf ?_
        refine gl ?_
        refine gv (PV.gtr rfl rfl) ?_
        refine sF ?_
        refine sm ?_
        refine T.setT (d := 30) rfl (by omega) ?_
        refine sp ?_
        refine sp ?_
        refine sp ?_
        refine sp ?_
        refine su ?_
        refine su ?_
        refine su ?_
        refine sp ?_
        refine sT ?_
        refine so ?_
        refine T.condT rfl rfl ?_
        refine sq ?_
        refine sr ?_
        refine sa ?_
        refine so ?_
        exact T.retF (Lv.fin (RV.tmp rfl rfl) (by unfold keyErr; rw [if_neg h8, if_pos hb]))
      · by_cases a3 : k.at_ = 3
        · have hb : badK k = false := by unfold badK; rw [decide_eq_false a1, decide_eq_false a2, a3]; rfl
          refine sq ?_
          refine sr ?_
          refine sv (PV.lss rfl rfl) ?_
          refine so ?_
          refine sq ?_
          refine sc rfl (by omega) ?_
          refine T.skip ?_
          refine sq ?_
          refine T.block ?_
          refine sq ?_
          refine sr ?_
          refine sv (PV.indexAddr rfl rfl (by omega)) ?_
          refine sv (PV.loadSubAll rfl (by assumption) (by exact rfl)) ?_
          refine sy fun b8 => ?_
          refine T.storeA Wanted.none rfl rfl zq8 (by exact rfl) zq14 zq13 ?_
          refine so ?_
          refine sq ?_
          refine sr ?_
          refine sf ?_
          refine sl ?_
          refine sv (PV.lss rfl rfl) ?_
          refine sm ?_
          refine T.setF (d := 25) rfl (by omega) ?_
          refine gf ?_
          refine gl ?_
          refine gv (PV.gtr rfl rfl) ?_
          refine sF ?_
          refine sm ?_
          refine T.setF (d := 30) rfl (by omega) ?_
          refine gf ?_
          refine gl ?_
          refine gv (PV.neq rfl rfl) ?_
          refine gm ?_
          refine T.setF (d := 34) rfl (by omega) ?_
          refine sp ?_
          refine sp ?_
          refine sp ?_
          refine gv (PV.pickF rfl rfl rfl) ?_
          refine sF ?_
          refine so ?_
          refine T.condF rfl rfl ?_
          refine T.skip ?_
          refine T.blkEnd ?_
          refine sr ?_
          refine sv (PV.add rfl rfl (by omega)) ?_
          refine sm ?_
          refine so ?_
          exact T.nextC hi (ixI_drop hi1 hix hb) rfl zq8 (by repeat (first | exact Sel.refl _ | exact Sel.nil | (refine Sel.cons zq1 ?_) | (refine Sel.app zq1 ?_) | exact Sel.one zq1))
        · by_cases a4 : k.lb = ⟨#[]⟩
          · have hd : decide (k.lb ≠ ⟨#[]⟩) = false := by simp [a4]
            have hb : badK k = false := by unfold badK; rw [decide_eq_false a1, decide_eq_false a2, hd]; simp
            refine sq ?_
            refine sr ?_
            refine sv (PV.lss rfl rfl) ?_
            refine so ?_
            refine sq ?_
            refine sc rfl (by omega) ?_
            refine T.skip ?_
            refine sq ?_
            refine T.block ?_
            refine sq ?_
            refine sr ?_
            refine sv (PV.indexAddr rfl rfl (by omega)) ?_
            refine sv (PV.loadSubAll rfl (by assumption) (by exact rfl)) ?_
            refine sy fun b8 => ?_
            refine T.storeA Wanted.none rfl rfl zq8 (by exact rfl) zq14 zq13 ?_
            refine so ?_
            refine sq ?_
            refine sr ?_
            refine sf ?_
            refine sl ?_
            refine sv (PV.lss rfl rfl) ?_
            refine sm ?_
            refine T.setF (d := 25) rfl (by omega) ?_
            refine gf ?_
            refine gl ?_
            refine gv (PV.gtr rfl rfl) ?_
            refine sF ?_
            refine sm ?_
            refine T.setF (d := 30) rfl (by omega) ?_
            refine gf ?_
            refine gl ?_
            refine gv (PV.neq rfl rfl) ?_
            refine gm ?_
            refine T.setT (d := 34) rfl (by omega) ?_
            refine gf ?_
            refine gl ?_
            refine gv (PV.sneq rfl rfl) ?_
            refine gv (PV.pickT rfl rfl rfl) ?_
            refine sF ?_
            refine so ?_
            refine T.condF rfl (by assumption) ?_
            refine T.skip ?_
            refine T.blkEnd ?_
            refine sr ?_
            refine sv (PV.add rfl rfl (by omega)) ?_
            refine sm ?_
            refine so ?_
            exact T.nextC hi (ixI_drop hi1 hix hb) rfl zq8 (by repeat (first | exact Sel.refl _ | exact Sel.nil | (refine Sel.cons zq1 ?_) | (refine Sel.app zq1 ?_) | exact Sel.one zq1))
          · have hd : decide (k.lb ≠ ⟨#[]⟩) = true := by simp [a4]
            have hb : ks.any badK = true := any_in hix (by unfold badK; rw [decide_eq_true (show k.at_ ≠ 3 from a3), hd]; simp)
            refine sq ?_
            refine sr ?_
            refine sv (PV.lss rfl rfl) ?_
            refine so ?_
            refine sq ?_
            refine sc rfl (by omega) ?_
            refine T.skip ?_
            refine sq ?_
            refine T.block ?_
            refine sq ?_
            refine sr ?_
            refine sv (PV.indexAddr rfl rfl (by omega)) ?_
            refine sv (PV.loadSubAll rfl (by assumption) (by exact rfl)) ?_
            refine sy fun b8 => ?_
            refine T.storeA Wanted.none rfl rfl zq8 (by exact rfl) zq14 zq13 ?_
            refine so ?_
            refine sq ?_
            refine sr ?_
            refine sf ?_
            refine sl ?_
            refine sv (PV.lss rfl rfl) ?_
            refine sm ?_
            refine T.setF (d := 25) rfl (by omega) ?_
            refine gf ?_
            refine gl ?_
            refine gv (PV.gtr rfl rfl) ?_
            refine sF ?_
            refine sm ?_
            refine T.setF (d := 30) rfl (by omega) ?_
            refine gf ?_
            refine gl ?_
            refine gv (PV.neq rfl rfl) ?_
            refine gm ?_
            refine T.setT (d := 34) rfl (by omega) ?_
            refine gf ?_
            refine gl ?_
            refine gv (PV.sneq rfl rfl) ?_
            refine gv (PV.pickT rfl rfl rfl) ?_
            refine sF ?_
            refine so ?_
            refine T.condT rfl (by assumption) ?_
            refine sq ?_
            refine sr ?_
            refine sa ?_
            refine so ?_
            exact T.retF (Lv.fin (RV.tmp rfl rfl) (by unfold keyErr; rw [if_neg h8, if_pos hb]))
  rw [List.take_of_length_le (by omega)] at hi1
  have hb1 : ¬ ks.any badK = true := by rw [hi1]; simp
  refine sq ?_
  refine sr ?_
  refine sv (PV.lss rfl rfl) ?_
  refine so ?_
  refine sq ?_
  refine sd rfl (by omega) ?_
  refine T.exit rfl ?_
  refine sq ?_
  refine sq ?_
  refine sr ?_
  refine sm ?_
  refine sv (PV.lenSl rfl) ?_
  refine sm ?_
  refine so ?_
  refine T.block ?_
  refine T.loopC [(42, Value.int IntKind.i64 (↑ks.length : Int)), (41, Value.slice ak ks.length ck), (3, Value.pointer (some { block := b3, off := 0 })), (1, Value.slice ab lb.length cb), (2, Value.slice ak ks.length ck)] zq8 43 ks.length (fun i => (ks.take i).any (nameK c) = false) rfl rfl ?_
  rintro i2 ⟨hj0, hj1⟩
  by_cases hj : i2 < ks.length
  · obtain ⟨b, off, k, rfl, hix, hsub⟩ := RowL.get encKy_len hk hj
    unfold encKy at hsub
    have hat := attribute_in c.att c.va k.nm H hc.a hc.la
    by_cases a1 : attI c.att k.nm < 0
    · have hb : ks.any (nameK c) = true := any_in hix (decide_eq_true a1)
      refine sq ?_
      refine sr ?_
      refine sv (PV.lss rfl rfl) ?_
      refine so ?_
      refine sq ?_
      refine sc rfl (by omega) ?_
      refine T.skip ?_
      refine sq ?_
      refine T.block ?_
      refine sq ?_
      refine sr ?_
      refine sv (PV.indexAddr rfl rfl (by omega)) ?_
      refine sv (PV.loadSubAll rfl (by assumption) (by exact rfl)) ?_
      refine sy fun b10 => ?_
      refine T.storeA Wanted.none rfl rfl zq8 (by exact rfl) zq14 zq13 ?_
      refine so ?_
      refine sq ?_
      refine sr ?_
      refine sf ?_
      refine sl ?_
      refine sf ?_
      refine sl ?_
      refine T.callV Wanted.none rfl rfl (hat) ?_
      refine sv (PV.lss rfl rfl) ?_
      refine so ?_
      refine sc rfl (by omega) ?_
      refine sq ?_
      refine sr ?_
      refine sa ?_
      refine so ?_
      exact T.retF (Lv.fin (RV.tmp rfl rfl) (by unfold keyErr; rw [if_neg h8, if_neg hb1, if_pos hb]))
    · refine sq ?_
      refine sr ?_
      refine sv (PV.lss rfl rfl) ?_
      refine so ?_
      refine sq ?_
      refine sc rfl (by omega) ?_
      refine T.skip ?_
      refine sq ?_
      refine T.block ?_
      refine sq ?_
      refine sr ?_
      refine sv (PV.indexAddr rfl rfl (by omega)) ?_
      refine sv (PV.loadSubAll rfl (by assumption) (by exact rfl)) ?_
      refine sy fun b10 => ?_
      refine T.storeA Wanted.none rfl rfl zq8 (by exact rfl) zq14 zq13 ?_
      refine so ?_
      refine sq ?_
      refine sr ?_
      refine sf ?_
      refine sl ?_
      refine sf ?_
      refine sl ?_
      refine T.callV Wanted.none rfl rfl (hat) ?_
      refine sv (PV.lss rfl rfl) ?_
      refine so ?_
      refine sd rfl (by omega) ?_
      refine T.skip ?_
      refine T.blkEnd ?_
      refine sr ?_
      refine sv (PV.add rfl rfl (by omega)) ?_
      refine sm ?_
      refine so ?_
      exact T.nextC hj (ixI_drop hj1 hix (decide_eq_false a1)) rfl zq8 (by repeat (first | exact Sel.refl _ | exact Sel.nil | (refine Sel.cons zq1 ?_) | (refine Sel.app zq1 ?_) | exact Sel.one zq1))
  rw [List.take_of_length_le (by omega)] at hj1
  have hb2 : ¬ ks.any (nameK c) = true := by rw [hj1]; simp
  refine sq ?_
  refine sr ?_
  refine sv (PV.lss rfl rfl) ?_
  refine so ?_
  refine sq ?_
  refine sd rfl (by omega) ?_
  refine T.exit rfl ?_
  refine sq ?_
  refine sq ?_
  refine sr ?_
  refine sm ?_
  refine sv (PV.lenSl rfl) ?_
  refine sm ?_
  refine so ?_
  refine T.block ?_
  refine T.loopC [(55, Value.int IntKind.i64 (↑ks.length : Int)), (54, Value.slice ak ks.length ck), (1, Value.slice ab lb.length cb)] zq8 56 ks.length (fun i => (ks.take i).any (lostK lb) = false) rfl rfl ?_
  rintro i3 ⟨hm0, hm1⟩
  by_cases hm : i3 < ks.length
  · obtain ⟨b, off, k, rfl, hix, hsub⟩ := RowL.get encKy_len hk hm
    unfold encKy at hsub
    have hco := contains_str lb k.lb (.slice ab lb.length cb) H hlb hl
    by_cases a1 : k.at_ = 3
    · cases hq : lb.any fun x => decide (x = k.lb)
      · have hb : ks.any (lostK lb) = true := any_in hix (by unfold lostK; rw [decide_eq_true a1, hq]; rfl)
        rw [hq] at hco
        refine sq ?_
        refine sr ?_
        refine sv (PV.lss rfl rfl) ?_
        refine so ?_
        refine sq ?_
        refine sc rfl (by omega) ?_
        refine T.skip ?_
        refine sq ?_
        refine T.block ?_
        refine sq ?_
        refine sr ?_
        refine sv (PV.indexAddr rfl rfl (by omega)) ?_
        refine sv (PV.loadSubAll rfl (by assumption) (by exact rfl)) ?_
        refine sy fun b12 => ?_
        refine T.storeA Wanted.none rfl rfl zq8 (by exact rfl) zq14 zq13 ?_
        refine so ?_
        refine sq ?_
        refine sr ?_
        refine sf ?_
        refine sl ?_
        refine sv (PV.eql rfl rfl) ?_
        refine sm ?_
        refine T.setT (d := 63) rfl (by omega) ?_
        refine gm ?_
        refine gf ?_
        refine gl ?_
        refine T.callV (Wanted.guard rfl rfl rfl) rfl rfl (hco) ?_
        refine gv (PV.not rfl) ?_
        refine sT ?_
        refine so ?_
        refine T.condT rfl rfl ?_
        refine sq ?_
        refine sr ?_
        refine sa ?_
        refine so ?_
        exact T.retF (Lv.fin (RV.tmp rfl rfl) (by unfold keyErr; rw [if_neg h8, if_neg hb1, if_neg hb2, if_pos hb]))
      · have hb : lostK lb k = false := by unfold lostK; rw [hq]; simp
        rw [hq] at hco
        refine sq ?_
        refine sr ?_
        refine sv (PV.lss rfl rfl) ?_
        refine so ?_
        refine sq ?_
        refine sc rfl (by omega) ?_
        refine T.skip ?_
        refine sq ?_
        refine T.block ?_
        refine sq ?_
        refine sr ?_
        refine sv (PV.indexAddr rfl rfl (by omega)) ?_
        refine sv (PV.loadSubAll rfl (by assumption) (by exact rfl)) ?_
        refine sy fun b12 => ?_
        refine T.storeA Wanted.none rfl rfl zq8 (by exact rfl) zq14 zq13 ?_
        refine so ?_
        refine sq ?_
        refine sr ?_
        refine sf ?_
        refine sl ?_
        refine sv (PV.eql rfl rfl) ?_
        refine sm ?_
        refine T.setT (d := 63) rfl (by omega) ?_
        refine gm ?_
        refine gf ?_
        refine gl ?_
        refine T.callV (Wanted.guard rfl rfl rfl) rfl rfl (hco) ?_
        refine gv (PV.not rfl) ?_
        refine sT ?_
        refine so ?_
        refine T.condF rfl rfl ?_
        refine T.skip ?_
        refine T.blkEnd ?_
        refine sr ?_
        refine sv (PV.add rfl rfl (by omega)) ?_
        refine sm ?_
        refine so ?_
        exact T.nextC hm (ixI_drop hm1 hix hb) rfl zq8 (by repeat (first | exact Sel.refl _ | exact Sel.nil | (refine Sel.cons zq1 ?_) | (refine Sel.app zq1 ?_) | exact Sel.one zq1))
    · have hb : lostK lb k = false := by unfold lostK; rw [decide_eq_false a1]; rfl
      refine sq ?_
      refine sr ?_
      refine sv (PV.lss rfl rfl) ?_
      refine so ?_
      refine sq ?_
      refine sc rfl (by omega) ?_
      refine T.skip ?_
      refine sq ?_
      refine T.block ?_
      refine sq ?_
      refine sr ?_
      refine sv (PV.indexAddr rfl rfl (by omega)) ?_
      refine sv (PV.loadSubAll rfl (by assumption) (by exact rfl)) ?_
      refine sy fun b12 => ?_
      refine T.storeA Wanted.none rfl rfl zq8 (by exact rfl) zq14 zq13 ?_
      refine so ?_
      refine sq ?_
      refine sr ?_
      refine sf ?_
      refine sl ?_
      refine sv (PV.eql rfl rfl) ?_
      refine sm ?_
      refine T.setF (d := 63) rfl (by omega) ?_
      refine sp ?_
      refine sp ?_
      refine sp ?_
      refine sp ?_
      refine sp ?_
      refine sF ?_
      refine so ?_
      refine T.condF rfl rfl ?_
      refine T.skip ?_
      refine T.blkEnd ?_
      refine sr ?_
      refine sv (PV.add rfl rfl (by omega)) ?_
      refine sm ?_
      refine so ?_
      exact T.nextC hm (ixI_drop hm1 hix hb) rfl zq8 (by repeat (first | exact Sel.refl _ | exact Sel.nil | (refine Sel.cons zq1 ?_) | (refine Sel.app zq1 ?_) | exact Sel.one zq1))
  rw [List.take_of_length_le (by omega)] at hm1
  have hb3 : ¬ ks.any (lostK lb) = true := by rw [hm1]; simp
  refine sq ?_
  refine sr ?_
  refine sv (PV.lss rfl rfl) ?_
  refine so ?_
  refine sq ?_
  refine sd rfl (by omega) ?_
  refine T.exit rfl ?_
  refine sq ?_
  refine sr ?_
  refine sa ?_
  refine so ?_
  exact T.retF (Lv.fin (RV.tmp rfl rfl) (by unfold keyErr; rw [if_neg h8, if_neg hb1, if_neg hb2, if_neg hb3]))
end Go.Proofs.YtlklcjpmfjmenaaGreatDoor
namespace Go.Proofs.YtlklcjpmfjmenaaGreatDoor
open Go.RowKit

def cmpS (a b : ByteArray) : Int := Lib.compareBytes a.data.toList b.data.toList
theorem PV.callExt {P : Program} {e : Env} {l : List (Nat × Obj)} {H : Hp} {f : FuncId} {xs : List Operand} {vs : List Value} {v : Value} {ts : Array TypeId} {dst : Option Tmp} {ty : TypeId} {pos : String} {after : Array Edge} {gd : Option (Nat × Bool)} (hv : evL e xs = some vs) (h : ∀ w, (callFunc f vs.toArray).run P w = .ok (.value v) w) :
    PV P e l H ⟨dst, .call ⟨.value (.func f), xs.toArray, ts⟩, ty, pos, after, gd⟩ v := PV.mk fun X D a w ha hw => by
  have := evL_map ha xs vs hv
  have hE' := h w
  simp [execOp, resolve, Act.eval, Deferred.ofValue, invoke, List.map_toArray, this, hE']
theorem cmpExt (s t : ByteArray) (w : World) : (callFunc 102 [Value.string s, .string t].toArray).run Tryz.prog w = .ok (.value (.int .i64 (cmpS s t))) w := by
  rw [run_callFunc_extern Tryz.func102 (by kernel_rfl) (by kernel_rfl) (by kernel_rfl) (e := Extern.BytealgCompare.compare) (by kernel_rfl), Lib.run_compareString]
  rfl
theorem cmpString_fn (a b : ByteArray) (H : Hp) : Fn Tryz.prog 80 #[.string a, .string b] H (fun u _ => u = .int .i64 (cmpS a b)) := by
  refine Fn.of_T (vs := [.string a, .string b]) Tryz.func80 rfl rfl fun w => ?_
  refine sq ?_
  refine sr ?_
  refine sa ?_
  refine so ?_
  refine sq ?_
  refine sr ?_
  refine sm ?_
  refine sm ?_
  refine sv (PV.callExt rfl (cmpExt a b)) ?_
  refine sa ?_
  refine so ?_
  exact T.retF (Lv.fin (RV.tmp rfl rfl) rfl)
theorem strCompare_fn (a b : ByteArray) (H : Hp) : Fn Tryz.prog 38 #[.string a, .string b] H (fun u _ => u = .int .i64 (cmpS a b)) := by
  have h := cmpString_fn a b H
  refine Fn.of_T (vs := [.string a, .string b]) Tryz.func38 rfl rfl fun w => ?_
  refine sq ?_
  refine sr ?_
  refine sa ?_
  refine so ?_
  refine sq ?_
  refine sr ?_
  refine sm ?_
  refine sm ?_
  refine T.callV Wanted.none rfl rfl (h) ?_
  refine sa ?_
  refine so ?_
  exact T.retF (Lv.fin (RV.tmp rfl rfl) rfl)
set_option maxHeartbeats 2000000 in
theorem cmpInts_fn (a b : List Int) (va vb : Value) (H : Hp) (ha : InL H va a) (hb : InL H vb b) (hla : a.length ≤ 9223372036854775807) (hlb : b.length ≤ 9223372036854775807) : Fn Tryz.prog 82 #[va, vb] H (fun u _ => u = .int .i64 (cmpL a b)) := by
  obtain ⟨ada, capa, rfl⟩ := ha.len
  obtain ⟨adb, capb, rfl⟩ := hb.len
  refine Fn.of_T (vs := [.slice ada a.length capa, .slice adb b.length capb]) Tryz.func82 rfl rfl fun w => ?_
  refine sq ?_
  refine sr ?_
  refine sa ?_
  refine so ?_
  refine sq ?_
  refine sq ?_
  refine sr ?_
  refine sm ?_
  refine sv (PV.lenSl rfl) ?_
  refine sm ?_
  refine so ?_
  refine T.block ?_
  refine T.loop (γ := Nat) (fun i => i ≤ a.length ∧ i ≤ b.length ∧ cmpL (a.drop i) (b.drop i) = cmpL a b)
    (fun i => [(11, .int .i64 (i : Int)), (10, .int .i64 (a.length : Int)), (9, .slice ada a.length capa), (0, .slice ada a.length capa), (1, .slice adb b.length capb)])
    (fun _ => []) (fun _ => H) (fun i => a.length - i) 0 ⟨by simp, by simp, rfl⟩ zq8 zq4 rfl ?_
  rintro i ⟨i1, i2, i3⟩
  by_cases hi : i < a.length
  · obtain ⟨x, hx⟩ : ∃ x, a[i]? = some x := ⟨_, List.getElem?_eq_getElem hi⟩
    obtain ⟨b1, off1, rfl, hsub⟩ := ha.intAt hx
    by_cases hj : i < b.length
    · obtain ⟨y, hy⟩ : ∃ x, b[i]? = some x := ⟨_, List.getElem?_eq_getElem hj⟩
      obtain ⟨b2, off2, rfl, hsub2⟩ := hb.intAt hy
      rw [cmpL_drop hx hy] at i3
      have hc := cmpCompare_fn x y H
      unfold cmpI at hc
      by_cases h1 : x < y
      · rw [if_pos h1] at i3 hc
        refine sq ?_
        refine sr ?_
        refine sv (PV.lss rfl rfl) ?_
        refine so ?_
        refine sq ?_
        refine sc rfl (by omega) ?_
        refine T.skip ?_
        refine sq ?_
        refine T.block ?_
        refine sq ?_
        refine sr ?_
        refine sm ?_
        refine sv (PV.indexAddr rfl rfl (by omega)) ?_
        refine sv (PV.loadSub0 rfl (by assumption)) ?_
        refine sa ?_
        refine sa ?_
        refine so ?_
        refine sq ?_
        refine sq ?_
        refine sr ?_
        refine sm ?_
        refine sm ?_
        refine sv (PV.lenSl rfl) ?_
        refine sv (PV.geq rfl rfl) ?_
        refine so ?_
        refine sd rfl (by omega) ?_
        refine T.skip ?_
        refine sq ?_
        refine sr ?_
        refine sm ?_
        refine sm ?_
        refine sv (PV.indexAddr rfl rfl (by omega)) ?_
        refine sv (PV.loadSub0 rfl (by assumption)) ?_
        refine sa ?_
        refine so ?_
        refine sq ?_
        refine sr ?_
        refine sm ?_
        refine sm ?_
        refine T.callV Wanted.none rfl rfl (hc) ?_
        refine sa ?_
        refine so ?_
        refine sq ?_
        refine sr ?_
        refine sm ?_
        refine sv (PV.neq rfl rfl) ?_
        refine so ?_
        refine T.condT rfl rfl ?_
        refine sq ?_
        refine sr ?_
        refine sm ?_
        refine sa ?_
        refine so ?_
        exact T.retF (Lv.fin (RV.tmp rfl rfl) (by rw [← i3]))
      · rw [if_neg h1] at i3 hc
        by_cases h2 : y < x
        · rw [if_pos h2] at i3 hc
          refine sq ?_
          refine sr ?_
          refine sv (PV.lss rfl rfl) ?_
          refine so ?_
          refine sq ?_
          refine sc rfl (by omega) ?_
          refine T.skip ?_
          refine sq ?_
          refine T.block ?_
          refine sq ?_
          refine sr ?_
          refine sm ?_
          refine sv (PV.indexAddr rfl rfl (by omega)) ?_
          refine sv (PV.loadSub0 rfl (by assumption)) ?_
          refine sa ?_
          refine sa ?_
          refine so ?_
          refine sq ?_
          refine sq ?_
          refine sr ?_
          refine sm ?_
          refine sm ?_
          refine sv (PV.lenSl rfl) ?_
          refine sv (PV.geq rfl rfl) ?_
          refine so ?_
          refine sd rfl (by omega) ?_
          refine T.skip ?_
          refine sq ?_
          refine sr ?_
          refine sm ?_
          refine sm ?_
          refine sv (PV.indexAddr rfl rfl (by omega)) ?_
          refine sv (PV.loadSub0 rfl (by assumption)) ?_
          refine sa ?_
          refine so ?_
          refine sq ?_
          refine sr ?_
          refine sm ?_
          refine sm ?_
          refine T.callV Wanted.none rfl rfl (hc) ?_
          refine sa ?_
          refine so ?_
          refine sq ?_
          refine sr ?_
          refine sm ?_
          refine sv (PV.neq rfl rfl) ?_
          refine so ?_
          refine T.condT rfl rfl ?_
          refine sq ?_
          refine sr ?_
          refine sm ?_
          refine sa ?_
          refine so ?_
          exact T.retF (Lv.fin (RV.tmp rfl rfl) (by rw [← i3]))
        · rw [if_neg h2] at i3 hc
          refine sq ?_
          refine sr ?_
          refine sv (PV.lss rfl rfl) ?_
          refine so ?_
          refine sq ?_
          refine sc rfl (by omega) ?_
          refine T.skip ?_
          refine sq ?_
          refine T.block ?_
          refine sq ?_
          refine sr ?_
          refine sm ?_
          refine sv (PV.indexAddr rfl rfl (by omega)) ?_
          refine sv (PV.loadSub0 rfl (by assumption)) ?_
          refine sa ?_
          refine sa ?_
          refine so ?_
          refine sq ?_
          refine sq ?_
          refine sr ?_
          refine sm ?_
          refine sm ?_
          refine sv (PV.lenSl rfl) ?_
          refine sv (PV.geq rfl rfl) ?_
          refine so ?_
          refine sd rfl (by omega) ?_
          refine T.skip ?_
          refine sq ?_
          refine sr ?_
          refine sm ?_
          refine sm ?_
          refine sv (PV.indexAddr rfl rfl (by omega)) ?_
          refine sv (PV.loadSub0 rfl (by assumption)) ?_
          refine sa ?_
          refine so ?_
          refine sq ?_
          refine sr ?_
          refine sm ?_
          refine sm ?_
          refine T.callV Wanted.none rfl rfl (hc) ?_
          refine sa ?_
          refine so ?_
          refine sq ?_
          refine sr ?_
          refine sm ?_
          refine sv (PV.neq rfl rfl) ?_
          refine so ?_
          refine T.condF rfl rfl ?_
          refine T.skip ?_
          refine T.blkEnd ?_
          refine sr ?_
          refine sv (PV.add rfl rfl (by omega)) ?_
          refine sm ?_
          refine so ?_
          exact T.next (i + 1) ⟨by omega, by omega, i3⟩ (by omega) zq8 zq4 rfl
    · rw [List.drop_of_length_le (by omega : b.length ≤ i), cmpL_nil2 (by rw [List.length_drop]; omega)] at i3
      refine sq ?_
      refine sr ?_
      refine sv (PV.lss rfl rfl) ?_
      refine so ?_
      refine sq ?_
      refine sc rfl (by omega) ?_
      refine T.skip ?_
      refine sq ?_
      refine T.block ?_
      refine sq ?_
      refine sr ?_
      refine sm ?_
      refine sv (PV.indexAddr rfl rfl (by omega)) ?_
      refine sv (PV.loadSub0 rfl (by assumption)) ?_
      refine sa ?_
      refine sa ?_
      refine so ?_
      refine sq ?_
      refine sq ?_
      refine sr ?_
      refine sm ?_
      refine sm ?_
      refine sv (PV.lenSl rfl) ?_
      refine sv (PV.geq rfl rfl) ?_
      refine so ?_
      refine sc rfl (by omega) ?_
      refine sq ?_
      refine sr ?_
      refine sa ?_
      refine so ?_
      exact T.retF (Lv.fin (RV.tmp rfl rfl) (by rw [← i3]))
  · rw [List.drop_of_length_le (by omega : a.length ≤ i), cmpL_nil, List.length_drop] at i3
    by_cases hj : a.length < b.length
    · rw [if_pos (by omega)] at i3
      refine sq ?_
      refine sr ?_
      refine sv (PV.lss rfl rfl) ?_
      refine so ?_
      refine sq ?_
      refine sd rfl (by omega) ?_
      refine T.exit rfl ?_
      refine sq ?_
      refine sq ?_
      refine sr ?_
      refine sm ?_
      refine sv (PV.lenSl rfl) ?_
      refine sm ?_
      refine sv (PV.lenSl rfl) ?_
      refine sv (PV.lss rfl rfl) ?_
      refine so ?_
      refine sc rfl (by omega) ?_
      refine sq ?_
      refine sr ?_
      refine sa ?_
      refine so ?_
      exact T.retF (Lv.fin (RV.tmp rfl rfl) (by rw [← i3]))
    · rw [if_neg (by omega)] at i3
      refine sq ?_
      refine sr ?_
      refine sv (PV.lss rfl rfl) ?_
      refine so ?_
      refine sq ?_
      refine sd rfl (by omega) ?_
      refine T.exit rfl ?_
      refine sq ?_
      refine sq ?_
      refine sr ?_
      refine sm ?_
      refine sv (PV.lenSl rfl) ?_
      refine sm ?_
      refine sv (PV.lenSl rfl) ?_
      refine sv (PV.lss rfl rfl) ?_
      refine so ?_
      refine sd rfl (by omega) ?_
      refine T.skip ?_
      refine sq ?_
      refine sr ?_
      refine sa ?_
      refine so ?_
      exact T.retF (Lv.fin (RV.tmp rfl rfl) (by rw [← i3]))
theorem or_key (a b : Mt) : orI [cmpI a.b b.b, cmpI a.e b.e, cmpL a.ls b.ls] = cmpL (keyM a) (keyM b) := by
  unfold keyM
  rw [cmpL, cmpL]
  unfold orI orI orI orI cmpI
  by_cases h1 : a.b < b.b
  · rw [if_pos h1, if_pos h1]; simp
  · rw [if_neg h1, if_neg h1]
    by_cases h2 : b.b < a.b
    · rw [if_pos h2, if_pos h2]; simp
    · rw [if_neg h2, if_neg h2]
      by_cases h3 : a.e < b.e
      · rw [if_pos h3, if_pos h3]; simp
      · rw [if_neg h3, if_neg h3]
        by_cases h4 : b.e < a.e
        · rw [if_pos h4, if_pos h4]; simp
        · rw [if_neg h4, if_neg h4]; simp only [ne_eq, not_true_eq_false, if_false]; split <;> simp_all
set_option maxHeartbeats 2000000 in
theorem matchCompare_fn (a b : Mt) (H : Hp) (ha : LabOk H a) (hb : LabOk H b) : Fn Tryz.prog 39 #[mtV a, mtV b] H (fun u _ => u = .int .i64 (cmpL (keyM a) (keyM b))) := by
  refine Fn.of_T (vs := [mtV a, mtV b]) Tryz.func39 rfl rfl fun w => ?_
  unfold mtV
  have hcl := cmpInts_fn a.ls b.ls a.v b.v H ha.1 hb.1 (by have := ha.2; omega) (by have := hb.2; omega)
  refine sq ?_
  refine sr ?_
  (refine T.box Wanted.none rfl rfl zq15 ?_; intro b2)
  (refine T.box Wanted.none rfl rfl zq15 ?_; intro b3)
  refine sa ?_
  refine so ?_
  refine sq ?_
  refine T.regionT 15 (by kernel_rfl) ?_
  refine TQ.pv (PV.fieldAddr rfl) Wanted.none rfl rfl ?_
  refine TQ.pv (PV.load1 rfl zq0 rfl) Wanted.none rfl rfl ?_
  refine TQ.pv (PV.fieldAddr rfl) Wanted.none rfl rfl ?_
  refine TQ.pv (PV.load1 rfl zq0 rfl) Wanted.none rfl rfl ?_
  refine TQ.callV Wanted.none rfl rfl (cmpCompare_fn _ _ H) ?_
  refine TQ.pv (PV.fieldAddr rfl) Wanted.none rfl rfl ?_
  refine TQ.pv (PV.load1 rfl zq0 rfl) Wanted.none rfl rfl ?_
  refine TQ.pv (PV.fieldAddr rfl) Wanted.none rfl rfl ?_
  refine TQ.pv (PV.load1 rfl zq0 rfl) Wanted.none rfl rfl ?_
  refine TQ.callV Wanted.none rfl rfl (cmpCompare_fn _ _ H) ?_
  refine TQ.pv (PV.fieldAddr rfl) Wanted.none rfl rfl ?_
  refine TQ.pv (PV.load1 rfl zq0 rfl) Wanted.none rfl rfl ?_
  refine TQ.pv (PV.fieldAddr rfl) Wanted.none rfl rfl ?_
  refine TQ.pv (PV.load1 rfl zq0 rfl) Wanted.none rfl rfl ?_
  refine TQ.callV Wanted.none rfl rfl (hcl) ?_
  refine TQ.nil ?_
  (refine T.buildSlice Wanted.none rfl rfl zq11 (by exact rfl) (by exact rfl) ?_; intro b20)
  refine T.freezeLit ?_
  intro H1 hle1 hH1
  have hsl : SlR H1 1 _ _ (intsV [cmpI a.b b.b, cmpI a.e b.e, cmpL a.ls b.ls]) := SlR.lit (n := 3) hH1 rfl
  refine T.callV Wanted.none rfl rfl (cmpOr_fn [cmpI a.b b.b, cmpI a.e b.e, cmpL a.ls b.ls] _ H1 hsl (Nat.le_of_ble_eq_true rfl)) ?_
  refine sa ?_
  refine so ?_
  exact T.retF (Lv.fin (RV.tmp rfl rfl) (by rw [or_key]))
end Go.Proofs.YtlklcjpmfjmenaaGreatDoor
