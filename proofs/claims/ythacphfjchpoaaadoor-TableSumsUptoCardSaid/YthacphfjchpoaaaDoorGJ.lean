/- lines: the values of some tokens.
   lines: a line: the program, the reference.
   lines: a made key, the labels, equal lines.
   lines: comparing strings and matches. -/
import Derived.Lib.Bytealg
import Derived.Test.YthacphfjchpoaaaDoorGD
import Derived.Test.YthacphfjchpoaaaDoorGO
import Derived.Test.YthacphfjchpoaaaDoorGB
namespace Go.Proofs.YthacphfjchpoaaaDoor
open Go.RowKit


end Go.Proofs.YthacphfjchpoaaaDoor
namespace Go.Proofs.YthacphfjchpoaaaDoor
open Go.RowKit


structure Ln where
  tx : ByteArray
  off : Int
  l : List ByteArray
  m : List ByteArray
  r : List ByteArray
def LnR (H : Hp) (u : Value) (x : Ln) : Prop := ∃ v1 v2 v3, u = .agg #[.string x.tx, .int .i64 x.off, v1, v2, v3] ∧ StL H v1 x.l ∧ StL H v2 x.m ∧ StL H v3 x.r
theorem LnR.mono {H H' : Hp} {u : Value} {x : Ln} (h : LnR H u x) (hl : H.le H') : LnR H' u x := by
  obtain ⟨v1, v2, v3, e, h1, h2, h3⟩ := h
  exact ⟨v1, v2, v3, e, h1.mono hl, h2.mono hl, h3.mono hl⟩
end Go.Proofs.YthacphfjchpoaaaDoor
namespace Go.Proofs.YthacphfjchpoaaaDoor
open Go.RowKit


theorem texts_same (l m : List ByteArray) (u v : Value) (H : Hp) (hu : StL H u l) (hv : StL H v m) (hl : l.length ≤ 100000) : Fn Tryd.prog 22 #[u, v] H (fun x _ => x = .bool (decide (l = m))) := by
  obtain ⟨au, cu, rfl⟩ := hu.len
  obtain ⟨av, cv, rfl⟩ := hv.len
  refine Fn.of_T (vs := [.slice au l.length cu, .slice av m.length cv]) Tryd.func22 rfl rfl fun w => ?_
  by_cases hlen : l.length = m.length
  · have hlen2 : (l.length : Int) = (m.length : Int) := by omega
    refine zs3 ?_; refine sa ?_; refine so ?_; refine sq ?_; refine zs3 ?_; refine sm ?_; refine sv (PV.lenSl rfl) ?_; refine sm ?_; refine sv (PV.lenSl rfl) ?_; refine sv (PV.neq rfl rfl) ?_; refine so ?_; refine sd rfl (by omega) ?_; refine T.skip ?_; refine sq ?_; refine zs3 ?_; refine sm ?_; refine sv (PV.lenSl rfl) ?_; refine sm ?_; refine so ?_; refine T.block ?_; refine T.loopC [(12, Value.int IntKind.i64 (↑l.length : Int)), (0, Value.slice au l.length cu), (1, Value.slice av m.length cv)] zq8 13 l.length (fun i => l.take i = m.take i) rfl rfl ?_
    rintro i ⟨hi0, hi1⟩
    by_cases hi : i < l.length
    · obtain ⟨b1, off1, x, rfl, hix, hsub1⟩ := RowL.get encT_len hu hi
      obtain ⟨b2, off2, y, rfl, hiy, hsub2⟩ := RowL.get encT_len hv (i := i) (by omega)
      unfold encT at hsub1 hsub2
      by_cases he : x = y
      · have hst : l.take (i + 1) = m.take (i + 1) := by rw [List.take_add_one, List.take_add_one, hix, hiy, hi1, he]
        have hd : decide (x ≠ y) = false := by simp [he]
        refine zs3 ?_; refine sv (PV.lss rfl rfl) ?_; refine so ?_; refine sq ?_; refine sc rfl (by omega) ?_; refine T.skip ?_; refine sq ?_; refine T.block ?_; refine zs3 ?_; refine sm ?_; refine sa ?_; refine so ?_; refine sq ?_; refine T.regionQ (by kernel_rfl) ?_; refine TQ.pv (PV.move rfl) Wanted.none rfl rfl ?_; refine TQ.pv (PV.move rfl) Wanted.none rfl rfl ?_; refine TQ.pv (PV.indexAddr rfl rfl (by omega)) Wanted.none rfl rfl ?_; refine TQ.pv (PV.loadSub0 rfl (by assumption)) Wanted.none rfl rfl ?_; refine TQ.pv (PV.move rfl) Wanted.none rfl rfl ?_; refine TQ.pv (PV.move rfl) Wanted.none rfl rfl ?_; refine TQ.pv (PV.indexAddr rfl rfl (by omega)) Wanted.none rfl rfl ?_; refine TQ.pv (PV.loadSub0 rfl (by assumption)) Wanted.none rfl rfl ?_; refine TQ.pv (PV.sneq rfl rfl) Wanted.none rfl rfl ?_; refine TQ.nil ?_; refine T.condF rfl (by assumption) ?_; refine T.skip ?_; refine T.blkEnd ?_; refine sr ?_; refine sv (PV.add rfl rfl (by omega)) ?_; refine sm ?_; refine so ?_
        exact T.nextC hi hst rfl zq8 (by repeat (first | exact Sel.refl _ | exact Sel.nil | (refine Sel.cons zq1 ?_) | (refine Sel.app zq1 ?_) | exact Sel.one zq1))
      · have hd : decide (x ≠ y) = true := by simp [he]
        refine zs3 ?_; refine sv (PV.lss rfl rfl) ?_; refine so ?_; refine sq ?_; refine sc rfl (by omega) ?_; refine T.skip ?_; refine sq ?_; refine T.block ?_; refine zs3 ?_; refine sm ?_; refine sa ?_; refine so ?_; refine sq ?_; refine T.regionQ (by kernel_rfl) ?_; refine TQ.pv (PV.move rfl) Wanted.none rfl rfl ?_; refine TQ.pv (PV.move rfl) Wanted.none rfl rfl ?_; refine TQ.pv (PV.indexAddr rfl rfl (by omega)) Wanted.none rfl rfl ?_; refine TQ.pv (PV.loadSub0 rfl (by assumption)) Wanted.none rfl rfl ?_; refine TQ.pv (PV.move rfl) Wanted.none rfl rfl ?_; refine TQ.pv (PV.move rfl) Wanted.none rfl rfl ?_; refine TQ.pv (PV.indexAddr rfl rfl (by omega)) Wanted.none rfl rfl ?_; refine TQ.pv (PV.loadSub0 rfl (by assumption)) Wanted.none rfl rfl ?_; refine TQ.pv (PV.sneq rfl rfl) Wanted.none rfl rfl ?_; refine TQ.nil ?_; refine T.condT rfl (by assumption) ?_; refine zs3 ?_; refine sa ?_; refine so ?_
        refine T.retF (Lv.fin (RV.tmp rfl rfl) (by rw [decide_eq_false]; rintro rfl; rw [hix] at hiy; exact he (Option.some.inj hiy)))
    · rw [List.take_of_length_le (by omega), List.take_of_length_le (by omega)] at hi1
      refine zs3 ?_; refine sv (PV.lss rfl rfl) ?_; refine so ?_; refine sq ?_; refine sd rfl (by omega) ?_; refine T.exit rfl ?_; refine zs3 ?_; refine sa ?_; refine so ?_
      exact T.retF (Lv.fin (RV.tmp rfl rfl) (by rw [decide_eq_true hi1]))
  · have hlen2 : ¬ (l.length : Int) = (m.length : Int) := by omega
    refine zs3 ?_; refine sa ?_; refine so ?_; refine sq ?_; refine zs3 ?_; refine sm ?_; refine sv (PV.lenSl rfl) ?_; refine sm ?_; refine sv (PV.lenSl rfl) ?_; refine sv (PV.neq rfl rfl) ?_; refine so ?_; refine sc rfl (by omega) ?_; refine zs3 ?_; refine sa ?_; refine so ?_
    exact T.retF (Lv.fin (RV.tmp rfl rfl) (by rw [decide_eq_false]; rintro rfl; exact hlen rfl))
end Go.Proofs.YthacphfjchpoaaaDoor
namespace Go.Proofs.YthacphfjchpoaaaDoor
open Go.RowKit


set_option maxHeartbeats 2000000 in
theorem cmpInts_fn (a b : List Int) (va vb : Value) (H : Hp) (ha : InL H va a) (hb : InL H vb b) (hla : a.length ≤ 9223372036854775807) (hlb : b.length ≤ 9223372036854775807) : Fn Tryd.prog 35 #[va, vb] H (fun u _ => u = .int .i64 (cmpL a b)) := by
  obtain ⟨ada, capa, rfl⟩ := ha.len
  obtain ⟨adb, capb, rfl⟩ := hb.len
  refine Fn.of_T (vs := [.slice ada a.length capa, .slice adb b.length capb]) Tryd.func35 rfl rfl fun w => ?_; refine zs3 ?_; refine sa ?_; refine so ?_; refine sq ?_; refine zs3 ?_; refine sm ?_; refine sv (PV.lenSl rfl) ?_; refine sm ?_; refine so ?_; refine T.block ?_
  refine T.loop (γ := Nat) (fun i => i ≤ a.length ∧ i ≤ b.length ∧ cmpL (a.drop i) (b.drop i) = cmpL a b)
    (fun i => [(11, .int .i64 (i : Int)), (10, .int .i64 (a.length : Int)), (9, .slice ada a.length capa), (0, .slice ada a.length capa), (1, .slice adb b.length capb)])
    (fun _ => []) (fun _ => H) (fun i => a.length - i) 0 ⟨by simp, by simp, rfl⟩ zq8 zq4 rfl ?_
  rintro i ⟨i1, i2, i3⟩
  by_cases hi : i < a.length
  · obtain ⟨x, hx⟩ : ∃ x, a[i]? = some x := ⟨_, List.getElem?_eq_getElem hi⟩
    obtain ⟨b1, off1, rfl, hsub⟩ := ha.intAt hx
    by_cases hj : i < b.length
    · obtain ⟨y, hy⟩ : ∃ x, b[i]? = some x := ⟨_, List.getElem?_eq_getElem hj⟩
      obtain ⟨b2, off2, rfl, hsub2⟩ := hb.intAt hy
      rw [cmpL_drop hx hy] at i3
      have hc := cmpCompare_fn x y H
      unfold cmpI at hc
      by_cases h1 : x < y
      · rw [if_pos h1] at i3 hc
        refine zs3 ?_; refine sv (PV.lss rfl rfl) ?_; refine so ?_; refine sq ?_; refine sc rfl (by omega) ?_; refine T.skip ?_; refine sq ?_; refine T.block ?_; refine zs3 ?_; refine sm ?_; refine sv (PV.indexAddr rfl rfl (by omega)) ?_; refine sv (PV.loadSub0 rfl (by assumption)) ?_; refine sa ?_; refine sa ?_; refine so ?_; refine sq ?_; refine zs3 ?_; refine sm ?_; refine sm ?_; refine sv (PV.lenSl rfl) ?_; refine sv (PV.geq rfl rfl) ?_; refine so ?_; refine sd rfl (by omega) ?_; refine T.skip ?_; refine zs3 ?_; refine sm ?_; refine sm ?_; refine sv (PV.indexAddr rfl rfl (by omega)) ?_; refine sv (PV.loadSub0 rfl (by assumption)) ?_; refine sa ?_; refine zs1 ?_; refine sm ?_; refine sm ?_; refine T.callV Wanted.none rfl rfl (hc) ?_; refine sa ?_; refine zs1 ?_; refine sm ?_; refine sv (PV.neq rfl rfl) ?_; refine so ?_; refine T.condT rfl rfl ?_
        refine zs3 ?_; refine sm ?_; refine sa ?_; refine so ?_
        exact T.retF (Lv.fin (RV.tmp rfl rfl) (by rw [← i3]))
      · rw [if_neg h1] at i3 hc
        by_cases h2 : y < x
        · rw [if_pos h2] at i3 hc
          refine zs3 ?_; refine sv (PV.lss rfl rfl) ?_; refine so ?_; refine sq ?_; refine sc rfl (by omega) ?_; refine T.skip ?_; refine sq ?_; refine T.block ?_; refine zs3 ?_; refine sm ?_; refine sv (PV.indexAddr rfl rfl (by omega)) ?_; refine sv (PV.loadSub0 rfl (by assumption)) ?_; refine sa ?_; refine sa ?_; refine so ?_; refine sq ?_; refine zs3 ?_; refine sm ?_; refine sm ?_; refine sv (PV.lenSl rfl) ?_; refine sv (PV.geq rfl rfl) ?_; refine so ?_; refine sd rfl (by omega) ?_; refine T.skip ?_; refine zs3 ?_; refine sm ?_; refine sm ?_; refine sv (PV.indexAddr rfl rfl (by omega)) ?_; refine sv (PV.loadSub0 rfl (by assumption)) ?_; refine sa ?_; refine zs1 ?_; refine sm ?_; refine sm ?_; refine T.callV Wanted.none rfl rfl (hc) ?_; refine sa ?_; refine zs1 ?_; refine sm ?_; refine sv (PV.neq rfl rfl) ?_; refine so ?_; refine T.condT rfl rfl ?_
          refine zs3 ?_; refine sm ?_; refine sa ?_; refine so ?_
          exact T.retF (Lv.fin (RV.tmp rfl rfl) (by rw [← i3]))
        · rw [if_neg h2] at i3 hc
          refine zs3 ?_; refine sv (PV.lss rfl rfl) ?_; refine so ?_; refine sq ?_; refine sc rfl (by omega) ?_; refine T.skip ?_; refine sq ?_; refine T.block ?_; refine zs3 ?_; refine sm ?_; refine sv (PV.indexAddr rfl rfl (by omega)) ?_; refine sv (PV.loadSub0 rfl (by assumption)) ?_; refine sa ?_; refine sa ?_; refine so ?_; refine sq ?_; refine zs3 ?_; refine sm ?_; refine sm ?_; refine sv (PV.lenSl rfl) ?_; refine sv (PV.geq rfl rfl) ?_; refine so ?_; refine sd rfl (by omega) ?_; refine T.skip ?_; refine zs3 ?_; refine sm ?_; refine sm ?_; refine sv (PV.indexAddr rfl rfl (by omega)) ?_; refine sv (PV.loadSub0 rfl (by assumption)) ?_; refine sa ?_; refine zs1 ?_; refine sm ?_; refine sm ?_; refine T.callV Wanted.none rfl rfl (hc) ?_; refine sa ?_; refine zs1 ?_; refine sm ?_; refine sv (PV.neq rfl rfl) ?_; refine so ?_; refine T.condF rfl rfl ?_
          refine T.skip ?_; refine T.blkEnd ?_; refine sr ?_; refine sv (PV.add rfl rfl (by omega)) ?_; refine sm ?_; refine so ?_
          exact T.next (i + 1) ⟨by omega, by omega, i3⟩ (by omega) zq8 zq4 rfl
    · rw [List.drop_of_length_le (by omega : b.length ≤ i), cmpL_nil2 (by rw [List.length_drop]; omega)] at i3
      refine zs3 ?_; refine sv (PV.lss rfl rfl) ?_; refine so ?_; refine sq ?_; refine sc rfl (by omega) ?_; refine T.skip ?_; refine sq ?_; refine T.block ?_; refine zs3 ?_; refine sm ?_; refine sv (PV.indexAddr rfl rfl (by omega)) ?_; refine sv (PV.loadSub0 rfl (by assumption)) ?_; refine sa ?_; refine sa ?_; refine so ?_; refine sq ?_; refine zs3 ?_; refine sm ?_; refine sm ?_; refine sv (PV.lenSl rfl) ?_; refine sv (PV.geq rfl rfl) ?_; refine so ?_; refine sc rfl (by omega) ?_; refine zs3 ?_; refine sa ?_; refine so ?_
      exact T.retF (Lv.fin (RV.tmp rfl rfl) (by rw [← i3]))
  · rw [List.drop_of_length_le (by omega : a.length ≤ i), cmpL_nil, List.length_drop] at i3
    by_cases hj : a.length < b.length
    · rw [if_pos (by omega)] at i3
      refine zs3 ?_; refine sv (PV.lss rfl rfl) ?_; refine so ?_; refine sq ?_; refine sd rfl (by omega) ?_; refine T.exit rfl ?_; refine sq ?_; refine zs3 ?_; refine sm ?_; refine sv (PV.lenSl rfl) ?_; refine sm ?_; refine sv (PV.lenSl rfl) ?_; refine sv (PV.lss rfl rfl) ?_; refine so ?_; refine sc rfl (by omega) ?_; refine zs3 ?_; refine sa ?_; refine so ?_
      exact T.retF (Lv.fin (RV.tmp rfl rfl) (by rw [← i3]))
    · rw [if_neg (by omega)] at i3
      refine zs3 ?_; refine sv (PV.lss rfl rfl) ?_; refine so ?_; refine sq ?_; refine sd rfl (by omega) ?_; refine T.exit rfl ?_; refine sq ?_; refine zs3 ?_; refine sm ?_; refine sv (PV.lenSl rfl) ?_; refine sm ?_; refine sv (PV.lenSl rfl) ?_; refine sv (PV.lss rfl rfl) ?_; refine so ?_; refine sd rfl (by omega) ?_; refine T.skip ?_; refine zs3 ?_; refine sa ?_; refine so ?_
      exact T.retF (Lv.fin (RV.tmp rfl rfl) (by rw [← i3]))
theorem or_key (a b : Mt) : orI [cmpI a.b b.b, cmpI a.e b.e, cmpL a.ls b.ls] = cmpL (keyM a) (keyM b) := by
  unfold keyM
  rw [cmpL, cmpL]
  unfold orI orI orI orI cmpI
  by_cases h1 : a.b < b.b
  · rw [if_pos h1, if_pos h1]; simp
  · rw [if_neg h1, if_neg h1]
    by_cases h2 : b.b < a.b
    · rw [if_pos h2, if_pos h2]; simp
    · rw [if_neg h2, if_neg h2]
      by_cases h3 : a.e < b.e
      · rw [if_pos h3, if_pos h3]; simp
      · rw [if_neg h3, if_neg h3]
        by_cases h4 : b.e < a.e
        · rw [if_pos h4, if_pos h4]; simp
        · rw [if_neg h4, if_neg h4]; simp only [ne_eq, not_true_eq_false, if_false]; split <;> simp_all
set_option maxHeartbeats 2000000 in
theorem matchCompare_fn (a b : Mt) (H : Hp) (ha : LabOk H a) (hb : LabOk H b) : Fn Tryd.prog 24 #[mtV a, mtV b] H (fun u _ => u = .int .i64 (cmpL (keyM a) (keyM b))) := by
  refine Fn.of_T (vs := [mtV a, mtV b]) Tryd.func24 rfl rfl fun w => ?_
  unfold mtV
  have hcl := cmpInts_fn a.ls b.ls a.v b.v H ha.1 hb.1 (by have := ha.2; omega) (by have := hb.2; omega)
  refine zs3 ?_; (refine T.box Wanted.none rfl rfl zq15 ?_; intro b2); (refine T.box Wanted.none rfl rfl zq15 ?_; intro b3); refine sa ?_; refine so ?_; refine sq ?_; refine T.regionT 15 (by kernel_rfl) ?_; refine TQ.pv (PV.fieldAddr rfl) Wanted.none rfl rfl ?_; refine TQ.pv (PV.load1 rfl zq0 rfl) Wanted.none rfl rfl ?_; refine TQ.pv (PV.fieldAddr rfl) Wanted.none rfl rfl ?_; refine TQ.pv (PV.load1 rfl zq0 rfl) Wanted.none rfl rfl ?_; refine TQ.callV Wanted.none rfl rfl (cmpCompare_fn _ _ H) ?_; refine TQ.pv (PV.fieldAddr rfl) Wanted.none rfl rfl ?_; refine TQ.pv (PV.load1 rfl zq0 rfl) Wanted.none rfl rfl ?_; refine TQ.pv (PV.fieldAddr rfl) Wanted.none rfl rfl ?_; refine TQ.pv (PV.load1 rfl zq0 rfl) Wanted.none rfl rfl ?_; refine TQ.callV Wanted.none rfl rfl (cmpCompare_fn _ _ H) ?_; refine TQ.pv (PV.fieldAddr rfl) Wanted.none rfl rfl ?_; refine TQ.pv (PV.load1 rfl zq0 rfl) Wanted.none rfl rfl ?_; refine TQ.pv (PV.fieldAddr rfl) Wanted.none rfl rfl ?_; refine TQ.pv (PV.load1 rfl zq0 rfl) Wanted.none rfl rfl ?_; refine TQ.callV Wanted.none rfl rfl (hcl) ?_; refine TQ.nil ?_; (refine T.buildSlice Wanted.none rfl rfl zq11 (by exact rfl) (by exact rfl) ?_; intro b20); refine T.freezeLit ?_
  intro H1 hle1 hH1
  have hsl : SlR H1 1 _ _ (intsV [cmpI a.b b.b, cmpI a.e b.e, cmpL a.ls b.ls]) := SlR.lit (n := 3) hH1 rfl
  refine T.callV Wanted.none rfl rfl (cmpOr_fn [cmpI a.b b.b, cmpI a.e b.e, cmpL a.ls b.ls] _ H1 hsl (Nat.le_of_ble_eq_true rfl)) ?_; refine sa ?_; refine so ?_
  exact T.retF (Lv.fin (RV.tmp rfl rfl) (by rw [or_key]))

end Go.Proofs.YthacphfjchpoaaaDoor
