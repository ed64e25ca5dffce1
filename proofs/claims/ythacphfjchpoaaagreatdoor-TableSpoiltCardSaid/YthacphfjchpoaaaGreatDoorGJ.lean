/- lines: the values of some tokens.
   lines: a line: the program, the reference.
   lines: a made key, the labels, equal lines.
   lines: comparing strings and matches. -/
import Derived.Lib.Bytealg
import Derived.Test.YthacphfjchpoaaaGreatDoorGD
import Derived.Test.YthacphfjchpoaaaGreatDoorGO
import Derived.Test.YthacphfjchpoaaaGreatDoorGB
namespace Go.Proofs.YthacphfjchpoaaaGreatDoor
open Go.RowKit

end Go.Proofs.YthacphfjchpoaaaGreatDoor
namespace Go.Proofs.YthacphfjchpoaaaGreatDoor
open Go.RowKit

structure Ln where
  tx : ByteArray
  off : Int
  l : List ByteArray
  m : List ByteArray
  r : List ByteArray
def LnR (H : Hp) (u : Value) (x : Ln) : Prop := ∃ v1 v2 v3, u = .agg #[.string x.tx, .int .i64 x.off, v1, v2, v3] ∧ StL H v1 x.l ∧ StL H v2 x.m ∧ StL H v3 x.r
theorem LnR.mono {H H' : Hp} {u : Value} {x : Ln} (h : LnR H u x) (hl : H.le H') : LnR H' u x := by
  obtain ⟨v1, v2, v3, e, h1, h2, h3⟩ := h
  exact ⟨v1, v2, v3, e, h1.mono hl, h2.mono hl, h3.mono hl⟩
end Go.Proofs.YthacphfjchpoaaaGreatDoor
namespace Go.Proofs.YthacphfjchpoaaaGreatDoor
open Go.RowKit

theorem texts_same (l m : List ByteArray) (u v : Value) (H : Hp) (hu : StL H u l) (hv : StL H v m) (hl : l.length ≤ 100000) : Fn Tryz.prog 16 #[u, v] H (fun x _ => x = .bool (decide (l = m))) := by
  obtain ⟨au, cu, rfl⟩ := hu.len
  obtain ⟨av, cv, rfl⟩ := hv.len
  refine Fn.of_T (vs := [.slice au l.length cu, .slice av m.length cv]) Tryz.func16 rfl rfl fun w => ?_
  by_cases hlen : l.length = m.length
  · have hlen2 : (l.length : Int) = (m.length : Int) := by omega
    refine yq25 ?_; refine yq27 ?_; refine yq83 ?_; refine sv (PV.neq rfl rfl) ?_; refine yq88 ?_; refine yq112 ?_; refine T.loopC [(12, Value.int IntKind.i64 (↑l.length : Int)), (0, Value.slice au l.length cu), (1, Value.slice av m.length cv)] zq8 13 l.length (fun i => l.take i = m.take i) rfl rfl ?_
    rintro i ⟨hi0, hi1⟩
    by_cases hi : i < l.length
    · obtain ⟨b1, off1, x, rfl, hix, hsub1⟩ := RowL.get encT_len hu hi
      obtain ⟨b2, off2, y, rfl, hiy, hsub2⟩ := RowL.get encT_len hv (i := i) (by omega)
      unfold encT at hsub1 hsub2
      by_cases he : x = y
      · have hst : l.take (i + 1) = m.take (i + 1) := by rw [List.take_add_one, List.take_add_one, hix, hiy, hi1, he]
        have hd : decide (x ≠ y) = false := by simp [he]
        refine yq87 ?_; refine yq0 ?_; refine sq ?_; refine yq39 ?_; refine yq117 ?_; refine TQ.pv (PV.move rfl) Wanted.none rfl rfl ?_; refine yq117 ?_; refine yq152 ?_; refine yq108 ?_; refine yq61 ?_
        exact T.nextC hi hst rfl zq8 (by repeat (first | exact Sel.refl _ | exact Sel.nil | (refine Sel.cons zq1 ?_) | (refine Sel.app zq1 ?_) | exact Sel.one zq1))
      · have hd : decide (x ≠ y) = true := by simp [he]
        refine yq87 ?_; refine yq0 ?_; refine sq ?_; refine yq39 ?_; refine yq117 ?_; refine TQ.pv (PV.move rfl) Wanted.none rfl rfl ?_; refine yq117 ?_; refine yq152 ?_; refine T.condT rfl (by assumption) ?_; refine yq25 ?_
        refine T.retF (Lv.fin (RV.tmp rfl rfl) (by rw [decide_eq_false]; rintro rfl; rw [hix] at hiy; exact he (Option.some.inj hiy)))
    · rw [List.take_of_length_le (by omega), List.take_of_length_le (by omega)] at hi1
      refine yq195 ?_
      exact T.retF (Lv.fin (RV.tmp rfl rfl) (by rw [decide_eq_true hi1]))
  · have hlen2 : ¬ (l.length : Int) = (m.length : Int) := by omega
    refine yq25 ?_; refine yq27 ?_; refine yq83 ?_; refine sv (PV.neq rfl rfl) ?_; refine yq46 ?_; refine yq25 ?_
    exact T.retF (Lv.fin (RV.tmp rfl rfl) (by rw [decide_eq_false]; rintro rfl; exact hlen rfl))
end Go.Proofs.YthacphfjchpoaaaGreatDoor
namespace Go.Proofs.YthacphfjchpoaaaGreatDoor
open Go.RowKit

set_option maxHeartbeats 2000000 in
theorem cmpInts_fn (a b : List Int) (va vb : Value) (H : Hp) (ha : InL H va a) (hb : InL H vb b) (hla : a.length ≤ 9223372036854775807) (hlb : b.length ≤ 9223372036854775807) : Fn Tryz.prog 80 #[va, vb] H (fun u _ => u = .int .i64 (cmpL a b)) := by
  obtain ⟨ada, capa, rfl⟩ := ha.len
  obtain ⟨adb, capb, rfl⟩ := hb.len
  refine Fn.of_T (vs := [.slice ada a.length capa, .slice adb b.length capb]) Tryz.func80 rfl rfl fun w => ?_; refine yq25 ?_; refine yq112 ?_
  refine T.loop (γ := Nat) (fun i => i ≤ a.length ∧ i ≤ b.length ∧ cmpL (a.drop i) (b.drop i) = cmpL a b)
    (fun i => [(11, .int .i64 (i : Int)), (10, .int .i64 (a.length : Int)), (9, .slice ada a.length capa), (0, .slice ada a.length capa), (1, .slice adb b.length capb)])
    (fun _ => []) (fun _ => H) (fun i => a.length - i) 0 ⟨by simp, by simp, rfl⟩ zq8 zq4 rfl ?_
  rintro i ⟨i1, i2, i3⟩
  by_cases hi : i < a.length
  · obtain ⟨x, hx⟩ : ∃ x, a[i]? = some x := ⟨_, List.getElem?_eq_getElem hi⟩
    obtain ⟨b1, off1, rfl, hsub⟩ := ha.intAt hx
    by_cases hj : i < b.length
    · obtain ⟨y, hy⟩ : ∃ x, b[i]? = some x := ⟨_, List.getElem?_eq_getElem hj⟩
      obtain ⟨b2, off2, rfl, hsub2⟩ := hb.intAt hy
      rw [cmpL_drop hx hy] at i3
      have hc := cmpCompare_fn x y H
      unfold cmpI at hc
      by_cases h1 : x < y
      · rw [if_pos h1] at i3 hc
        refine yq87 ?_; refine yq15 ?_; refine yq55 ?_; refine yq14 ?_; refine yq83 ?_; refine sv (PV.geq rfl rfl) ?_; refine yq88 ?_; refine yq137 ?_; refine yq15 ?_; refine yq56 ?_; refine sm ?_; refine T.callV Wanted.none rfl rfl (hc) ?_; refine yq147 ?_; refine yq36 ?_
        refine yq140 ?_
        exact T.retF (Lv.fin (RV.tmp rfl rfl) (by rw [← i3]))
      · rw [if_neg h1] at i3 hc
        by_cases h2 : y < x
        · rw [if_pos h2] at i3 hc
          refine yq87 ?_; refine yq15 ?_; refine yq55 ?_; refine yq14 ?_; refine yq83 ?_; refine sv (PV.geq rfl rfl) ?_; refine yq88 ?_; refine yq137 ?_; refine yq15 ?_; refine yq56 ?_; refine sm ?_; refine T.callV Wanted.none rfl rfl (hc) ?_; refine yq147 ?_; refine yq36 ?_
          refine yq140 ?_
          exact T.retF (Lv.fin (RV.tmp rfl rfl) (by rw [← i3]))
        · rw [if_neg h2] at i3 hc
          refine yq87 ?_; refine yq15 ?_; refine yq55 ?_; refine yq14 ?_; refine yq83 ?_; refine sv (PV.geq rfl rfl) ?_; refine yq88 ?_; refine yq137 ?_; refine yq15 ?_; refine yq56 ?_; refine sm ?_; refine T.callV Wanted.none rfl rfl (hc) ?_; refine yq147 ?_; refine so ?_; refine T.condF rfl rfl ?_
          refine T.skip ?_; refine yq61 ?_
          exact T.next (i + 1) ⟨by omega, by omega, i3⟩ (by omega) zq8 zq4 rfl
    · rw [List.drop_of_length_le (by omega : b.length ≤ i), cmpL_nil2 (by rw [List.length_drop]; omega)] at i3
      refine yq87 ?_; refine yq15 ?_; refine yq55 ?_; refine yq14 ?_; refine yq83 ?_; refine sv (PV.geq rfl rfl) ?_; refine yq46 ?_; refine yq25 ?_
      exact T.retF (Lv.fin (RV.tmp rfl rfl) (by rw [← i3]))
  · rw [List.drop_of_length_le (by omega : a.length ≤ i), cmpL_nil, List.length_drop] at i3
    by_cases hj : a.length < b.length
    · rw [if_pos (by omega)] at i3
      refine yq74 ?_; refine yq27 ?_; refine yq83 ?_; refine yq3 ?_; refine sc rfl (by omega) ?_; refine yq25 ?_
      exact T.retF (Lv.fin (RV.tmp rfl rfl) (by rw [← i3]))
    · rw [if_neg (by omega)] at i3
      refine yq74 ?_; refine yq27 ?_; refine yq83 ?_; refine yq3 ?_; refine yq22 ?_; refine yq25 ?_
      exact T.retF (Lv.fin (RV.tmp rfl rfl) (by rw [← i3]))
theorem or_key (a b : Mt) : orI [cmpI a.b b.b, cmpI a.e b.e, cmpL a.ls b.ls] = cmpL (keyM a) (keyM b) := by
  unfold keyM
  rw [cmpL, cmpL]
  unfold orI orI orI orI cmpI
  by_cases h1 : a.b < b.b
  · rw [if_pos h1, if_pos h1]; simp
  · rw [if_neg h1, if_neg h1]
    by_cases h2 : b.b < a.b
    · rw [if_pos h2, if_pos h2]; simp
    · rw [if_neg h2, if_neg h2]
      by_cases h3 : a.e < b.e
      · rw [if_pos h3, if_pos h3]; simp
      · rw [if_neg h3, if_neg h3]
        by_cases h4 : b.e < a.e
        · rw [if_pos h4, if_pos h4]; simp
        · rw [if_neg h4, if_neg h4]; simp only [ne_eq, not_true_eq_false, if_false]; split <;> simp_all
set_option maxHeartbeats 2000000 in
theorem matchCompare_fn (a b : Mt) (H : Hp) (ha : LabOk H a) (hb : LabOk H b) : Fn Tryz.prog 42 #[mtV a, mtV b] H (fun u _ => u = .int .i64 (cmpL (keyM a) (keyM b))) := by
  refine Fn.of_T (vs := [mtV a, mtV b]) Tryz.func42 rfl rfl fun w => ?_
  unfold mtV
  have hcl := cmpInts_fn a.ls b.ls a.v b.v H ha.1 hb.1 (by have := ha.2; omega) (by have := hb.2; omega)
  refine zs3 ?_; (refine T.box Wanted.none rfl rfl zq15 ?_; intro b2); (refine T.box Wanted.none rfl rfl zq15 ?_; intro b3); refine yq0 ?_; refine sq ?_; refine T.regionT 15 (by kernel_rfl) ?_; refine yq6 ?_; refine yq6 ?_; refine TQ.callV Wanted.none rfl rfl (cmpCompare_fn _ _ H) ?_; refine yq6 ?_; refine yq6 ?_; refine TQ.callV Wanted.none rfl rfl (cmpCompare_fn _ _ H) ?_; refine yq6 ?_; refine yq6 ?_; refine TQ.callV Wanted.none rfl rfl (hcl) ?_; refine TQ.nil ?_; (refine T.buildSlice Wanted.none rfl rfl zq11 (by exact rfl) (by exact rfl) ?_; intro b20); refine T.freezeLit ?_
  intro H1 hle1 hH1
  have hsl : SlR H1 1 _ _ (intsV [cmpI a.b b.b, cmpI a.e b.e, cmpL a.ls b.ls]) := SlR.lit (n := 3) hH1 rfl
  refine T.callV Wanted.none rfl rfl (cmpOr_fn [cmpI a.b b.b, cmpI a.e b.e, cmpL a.ls b.ls] _ H1 hsl (Nat.le_of_ble_eq_true rfl)) ?_; refine yq0 ?_
  exact T.retF (Lv.fin (RV.tmp rfl rfl) (by rw [or_key]))

end Go.Proofs.YthacphfjchpoaaaGreatDoor
