/- regions: comparing integers and spans.
   regions: lists of spans: Compact.
   regions: lists of integers, matches: comparing.
   regions: the reference's Insert.
   regions: lists of spans, of matches: Same.
   regions: numbers of a tape. -/
import Derived.Test.YtlklcjpmfjmenaaGreatDoorG3
namespace Go.Proofs.YtlklcjpmfjmenaaGreatDoor
open Go.RowKit


def encS (s : Sp) : List Value := [.int .i64 s.1, .int .i64 s.2]
theorem encS_len (s : Sp) : (encS s).length = 2 := rfl
def cmpI (a b : Int) : Int := if a < b then -1 else if b < a then 1 else 0
theorem isNaN_fn (a : Int) (H : Hp) : Fn Tryz.prog 96 #[.int .i64 a] H (fun v _ => v = .bool false) := by
  refine Fn.of_T (vs := [.int .i64 a]) Tryz.func96 rfl rfl fun w => ?_
  have h : decide (a ≠ a) = false := by simp
  refine sq ?_
  refine sr ?_
  refine sa ?_
  refine so ?_
  refine sq ?_
  refine sr ?_
  refine sm ?_
  refine sm ?_
  refine sv (PV.neq rfl rfl) ?_
  refine sa ?_
  refine so ?_
  exact T.retF (Lv.fin (RV.tmp rfl rfl) (by rw [h]))
theorem cmpCompare_fn (a b : Int) (H : Hp) : Fn Tryz.prog 59 #[.int .i64 a, .int .i64 b] H (fun v _ => v = .int .i64 (cmpI a b)) := by
  refine Fn.of_T (vs := [.int .i64 a, .int .i64 b]) Tryz.func59 rfl rfl fun w => ?_
  refine sq ?_
  refine sr ?_
  refine sa ?_
  refine so ?_
  refine sq ?_
  refine sr ?_
  refine sm ?_
  refine T.callV Wanted.none rfl rfl (isNaN_fn _ H) ?_
  refine sa ?_
  refine so ?_
  refine sq ?_
  refine sr ?_
  refine sm ?_
  refine T.callV Wanted.none rfl rfl (isNaN_fn _ H) ?_
  refine sa ?_
  refine so ?_
  refine sq ?_
  refine sq ?_
  refine sr ?_
  refine sm ?_
  refine so ?_
  refine T.condF rfl rfl ?_
  refine T.skip ?_
  refine sq ?_
  refine sq ?_
  refine sr ?_
  refine sm ?_
  refine so ?_
  refine T.condF rfl rfl ?_
  refine T.skip ?_
  refine sq ?_
  refine sq ?_
  refine sr ?_
  refine sm ?_
  refine sm ?_
  refine sv (PV.lss rfl rfl) ?_
  refine so ?_
  refine T.condD rfl (fun h0 => ?_) (fun h0 => ?_)
  · refine sq ?_
    refine sr ?_
    refine sa ?_
    refine so ?_
    (refine T.retF (Lv.fin (RV.tmp rfl rfl) ?_); congr 1; unfold cmpI; split <;> (try split) <;> omega)
  · refine T.skip ?_
    refine sq ?_
    refine sq ?_
    refine sr ?_
    refine sm ?_
    refine sm ?_
    refine sv (PV.gtr rfl rfl) ?_
    refine so ?_
    refine T.condD rfl (fun h1 => ?_) (fun h1 => ?_)
    · refine sq ?_
      refine sr ?_
      refine sa ?_
      refine so ?_
      (refine T.retF (Lv.fin (RV.tmp rfl rfl) ?_); congr 1; unfold cmpI; split <;> (try split) <;> omega)
    · refine T.skip ?_
      refine sq ?_
      refine sr ?_
      refine sa ?_
      refine so ?_
      (refine T.retF (Lv.fin (RV.tmp rfl rfl) ?_); congr 1; unfold cmpI; split <;> (try split) <;> omega)
def orI : List Int → Int
  | [] => 0
  | a :: l => if a ≠ 0 then a else orI l
def intsV (l : List Int) : List Value := l.flatMap fun a => [.int .i64 a]
theorem orI_drop {l : List Int} {i : Nat} {a : Int} (h : l[i]? = some a) : orI (l.drop i) = if a ≠ 0 then a else orI (l.drop (i + 1)) := by
  have hi := List.getElem?_eq_some_iff.1 h
  rw [List.drop_eq_getElem_cons hi.1, hi.2, orI]
theorem cmpOr_fn (l : List Int) (v : Value) (H : Hp) (hv : SlR H 1 v l.length (intsV l)) (hl : l.length ≤ 1000) : Fn Tryz.prog 81 #[v] H (fun v _ => v = .int .i64 (orI l)) := by
  obtain ⟨ad, cap, rfl⟩ := hv.len
  refine Fn.of_T (vs := [.slice ad l.length cap]) Tryz.func81 rfl rfl fun w => ?_
  refine sq ?_
  refine sr ?_
  refine sa ?_
  refine so ?_
  refine sq ?_
  refine sr ?_
  refine sa ?_
  refine so ?_
  refine sq ?_
  refine sq ?_
  refine sr ?_
  refine sm ?_
  refine sv (PV.lenSl rfl) ?_
  refine sm ?_
  refine so ?_
  refine T.block ?_
  refine T.loop (γ := Nat) (fun i => i ≤ l.length ∧ orI (l.drop i) = orI l)
    (fun i => [(2, .int .i64 0), (3, .int .i64 0), (8, .int .i64 (i : Int)), (7, .int .i64 (l.length : Int)), (6, .slice ad l.length cap)])
    (fun _ => []) (fun _ => H) (fun i => l.length - i) 0 ⟨by simp, by simp⟩ zq8 zq4 rfl ?_
  rintro i ⟨h1, h2⟩
  by_cases hi : i < l.length
  · obtain ⟨x, hx⟩ : ∃ x, l[i]? = some x := ⟨_, List.getElem?_eq_getElem hi⟩
    obtain ⟨b, off, cap', hve, hsub⟩ := hv.elem (i := i) (by omega) (flat_elem (f := fun a : Int => [Value.int .i64 a]) (fun _ => rfl) l i x hx)
    injection hve with e1 e2 e3
    subst e1 e3
    have ho := orI_drop hx
    refine sq ?_
    refine sr ?_
    refine sv (PV.lss rfl rfl) ?_
    refine so ?_
    refine sq ?_
    refine sc rfl (by omega) ?_
    refine T.skip ?_
    refine sq ?_
    refine T.block ?_
    refine sq ?_
    refine sr ?_
    refine sv (PV.indexAddr rfl rfl (by omega)) ?_
    refine sv (PV.loadSub0 rfl (by assumption)) ?_
    refine sa ?_
    refine so ?_
    refine sq ?_
    refine sr ?_
    refine sm ?_
    refine sm ?_
    refine sv (PV.neq rfl rfl) ?_
    refine so ?_
    refine T.condD rfl (fun hc => ?_) (fun hc => ?_)
    · rw [if_pos hc] at ho
      refine sq ?_
      refine sr ?_
      refine sm ?_
      refine sa ?_
      refine so ?_
      exact T.retF (Lv.fin (RV.tmp rfl rfl) (by rw [← h2, ho]))
    · rw [if_neg hc] at ho
      refine T.skip ?_
      refine T.blkEnd ?_
      refine sr ?_
      refine sv (PV.add rfl rfl (by omega)) ?_
      refine sm ?_
      refine so ?_
      exact T.next (i + 1) ⟨by omega, by rw [← h2, ho]⟩ (by omega) zq8 zq4 rfl
  · rw [List.drop_of_length_le (by omega)] at h2
    refine sq ?_
    refine sr ?_
    refine sv (PV.lss rfl rfl) ?_
    refine so ?_
    refine sq ?_
    refine sd rfl (by omega) ?_
    refine T.exit rfl ?_
    refine sq ?_
    refine sr ?_
    refine sm ?_
    refine sa ?_
    refine so ?_
    exact T.retF (Lv.fin (RV.tmp rfl rfl) (by rw [← h2]; rfl))
theorem SlR.lit {H : Hp} {sz b t n : Nat} {fz : Nat × Nat} {xs : List Value} (h : H b = some (.cells xs.toArray t fz)) (hn : xs.length = n * sz) : SlR H sz (.slice (some ⟨b, 0, none⟩) n n) n xs :=
  ⟨hn, .inr ⟨b, 0, n, xs, t, fz, rfl, h, by rw [List.drop_zero, List.take_of_length_le (by omega)], Nat.le_refl _⟩⟩
theorem T.freezeLit {P : Program} {X : Cx} {e : Env} {l : List (Nat × Obj)} {H : Hp} {D : List Deferred} {k : List It} {b : Nat} {o : Obj} (h : ∀ H1, H.le H1 → H1 b = some o → T P X e l H1 D k) : T P X e ((b, o) :: l) H D k :=
  T.mk fun a w ha hw => (h (H.put b o) (Hp.le_put (hw.own _ List.mem_cons_self).2.1) Hp.put_same).get a w ha hw.freeze
end Go.Proofs.YtlklcjpmfjmenaaGreatDoor
namespace Go.Proofs.YtlklcjpmfjmenaaGreatDoor
open Go.RowKit


theorem flatS_len (l : List Sp) : (l.flatMap encS).length = l.length * 2 := flat_len encS_len l
abbrev SpL (H : Hp) (v : Value) (l : List Sp) : Prop := SlR H 2 v l.length (l.flatMap encS)
end Go.Proofs.YtlklcjpmfjmenaaGreatDoor
namespace Go.Proofs.YtlklcjpmfjmenaaGreatDoor
open Go.RowKit

theorem ints_len (l : List Int) : (intsV l).length = l.length := by
  have := flat_len (f := fun a : Int => [Value.int .i64 a]) (fun _ => rfl) l
  rw [Nat.mul_one] at this; exact this
theorem one_ints (l : List Int) : ∀ v ∈ intsV l, v.oneCell' = true := by
  intro v hv
  obtain ⟨s, _, hs⟩ := List.mem_flatMap.1 hv
  simp at hs; subst hs; rfl
abbrev InL (H : Hp) (v : Value) (l : List Int) : Prop := SlR H 1 v l.length (intsV l)
theorem SlR.intAt {H : Hp} {ad : Option Addr} {n cap : Nat} {l : List Int} (h : SlR H 1 (.slice ad n cap) l.length (intsV l)) {i : Nat} {x : Int} (hx : l[i]? = some x) : ∃ b off, ad = some ⟨b, off, none⟩ ∧ SubC H b (off + i * 1) [.int .i64 x] := by
  have hi := (List.getElem?_eq_some_iff.1 hx).1
  obtain ⟨b, off, cap', hve, hsub⟩ := h.elem (i := i) hi (flat_elem (f := fun a : Int => [Value.int .i64 a]) (fun _ => rfl) l i x hx)
  injection hve with e1 e2 e3
  exact ⟨b, off, e1, hsub⟩
theorem cmpL_drop {a b : List Int} {i : Nat} {x y : Int} (hx : a[i]? = some x) (hy : b[i]? = some y) : cmpL (a.drop i) (b.drop i) = if x < y then -1 else if y < x then 1 else cmpL (a.drop (i + 1)) (b.drop (i + 1)) := by
  have h1 := List.getElem?_eq_some_iff.1 hx
  have h2 := List.getElem?_eq_some_iff.1 hy
  rw [List.drop_eq_getElem_cons h1.1, List.drop_eq_getElem_cons h2.1, h1.2, h2.2, cmpL]
theorem cmpL_nil (b : List Int) : cmpL [] b = if 0 < b.length then -1 else 0 := by cases b <;> simp [cmpL]
theorem cmpL_nil2 {a : List Int} (h : 0 < a.length) : cmpL a [] = 1 := by cases a <;> simp_all [cmpL]
theorem clone_fn (l : List Int) (v : Value) (H : Hp) (hv : InL H v l) (hl : l.length ≤ 17592186044000) : Fn Tryz.prog 78 #[v] H (fun u H' => InL H' u l) := by
  obtain ⟨ad, cap, rfl⟩ := hv.len
  refine Fn.of_T (vs := [.slice ad l.length cap]) Tryz.func78 rfl rfl fun w => ?_
  cases had : ad with
  | none =>
    subst had
    have hl0 : l = [] := by
      rcases hv.2 with ⟨_, h0⟩ | ⟨b, off, cap, cs, t, fz, h1, _⟩
      · exact List.eq_nil_of_length_eq_zero h0
      · cases h1
    subst hl0
    refine sq ?_
    refine sr ?_
    refine sa ?_
    refine so ?_
    refine sq ?_
    refine sq ?_
    refine sr ?_
    refine sm ?_
    refine sv (PV.slNilR rfl rfl) ?_
    refine so ?_
    refine T.condT rfl rfl ?_
    refine sq ?_
    refine sr ?_
    refine sa ?_
    refine so ?_
    exact T.retF (Lv.fin (RV.tmp rfl rfl) (SlR.empty))
  | some a =>
    subst had
    refine sq ?_
    refine sr ?_
    refine sa ?_
    refine so ?_
    refine sq ?_
    refine sq ?_
    refine sr ?_
    refine sm ?_
    refine sv (PV.slNilR rfl rfl) ?_
    refine so ?_
    refine T.condF rfl rfl ?_
    refine T.skip ?_
    refine sq ?_
    refine sr ?_
    (refine T.buildSlice Wanted.none rfl rfl zq11 (by exact rfl) (by exact rfl) ?_; intro b5)
    refine sm ?_
    refine T.append [] (lv := []) (bl := [_]) Wanted.none rfl rfl rfl (Vec.empty 3 1 _) hv.src (one_ints l) (by omega) ?_
    intro v' lv' hv' hnil
    rw [Nat.zero_add, List.nil_append] at hv'
    refine sa ?_
    refine so ?_
    exact T.retF (Vec.freezeLv (l' := []) hv' (by rw [List.append_nil]; exact List.sublist_append_left lv' _) fun H' _ hsl => Lv.fin (RV.tmp rfl rfl) hsl)
/-! ### matches -/
def mtV (m : Mt) : Value := .agg #[.int .i64 m.b, .int .i64 m.e, m.v]
def LabOk (H : Hp) (m : Mt) : Prop := InL H m.v m.ls ∧ m.ls.length ≤ 17592186044000
/-! ### the reference's Compare -/
theorem Vec.lit2 (a b : Int) (blk : Nat) : Vec 3 1 (.slice (some ⟨blk, 0, none⟩) 2 2) [(blk, .cells #[.int .i64 a, .int .i64 b] 3 (0, 0))] 2 (intsV [a, b]) :=
  ⟨rfl, .inr ⟨blk, 2, [.int .i64 a, .int .i64 b], rfl, rfl, Nat.le_refl _, by decide, rfl, rfl⟩⟩
set_option maxHeartbeats 2000000 in
theorem refCompare_fn (a b : Mt) (H : Hp) (ha : LabOk H a) (hb : LabOk H b) : Fn Tryz.prog 53 #[mtV a, mtV b] H (fun u _ => u = .int .i64 (cmpL (keyM a) (keyM b))) := by
  refine Fn.of_T (vs := [mtV a, mtV b]) Tryz.func53 rfl rfl fun w => ?_
  unfold mtV
  have hla := ha.2
  have hlb := hb.2
  refine sq ?_
  refine sr ?_
  (refine T.box Wanted.none rfl rfl zq15 ?_; intro b2)
  (refine T.box Wanted.none rfl rfl zq15 ?_; intro b3)
  refine sa ?_
  refine so ?_
  refine sq ?_
  refine sr ?_
  refine sf ?_
  refine sl ?_
  refine sf ?_
  refine sl ?_
  (refine T.buildSlice Wanted.none rfl rfl zq11 (by exact rfl) (by exact rfl) ?_; intro b12)
  refine sf ?_
  refine sl ?_
  refine T.append [] (lv := [_]) (bl := [_, _]) Wanted.none rfl rfl rfl (Vec.lit2 a.b a.e b12) ha.1.src (one_ints _) (by omega) ?_
  intro v1 lv1 hv1 _
  rw [show (2 + a.ls.length) = (keyM a).length by unfold keyM; simp; omega, show intsV [a.b, a.e] ++ intsV a.ls = intsV (keyM a) from rfl] at hv1
  refine Vec.freeze (lv := lv1) (l := [_, _]) hv1 ?_
  intro H1 hle1 hx
  refine sa ?_
  refine so ?_
  refine sq ?_
  refine sr ?_
  refine sf ?_
  refine sl ?_
  refine sf ?_
  refine sl ?_
  (refine T.buildSlice Wanted.none rfl rfl zq11 (by exact rfl) (by exact rfl) ?_; intro b20)
  refine sf ?_
  refine sl ?_
  refine T.append [] (lv := [_]) (bl := [_, _]) Wanted.none rfl rfl rfl (Vec.lit2 b.b b.e b20) (hb.1.mono hle1).src (one_ints _) (by omega) ?_
  intro v2 lv2 hv2 _
  rw [show (2 + b.ls.length) = (keyM b).length by unfold keyM; simp; omega, show intsV [b.b, b.e] ++ intsV b.ls = intsV (keyM b) from rfl] at hv2
  refine Vec.freeze (lv := lv2) (l := [_, _]) hv2 ?_
  intro H2 hle2 hy
  replace hx := hx.mono hle2
  have hka : (keyM a).length ≤ 17592186044002 := by unfold keyM; simp; omega
  have hkb : (keyM b).length ≤ 17592186044002 := by unfold keyM; simp; omega
  clear hv1 hv2
  generalize keyM a = ka at *
  generalize keyM b = kb at *
  obtain ⟨ada, capa, rfl⟩ := hx.len
  obtain ⟨adb, capb, rfl⟩ := hy.len
  refine sa ?_
  refine so ?_
  refine sq ?_
  refine sq ?_
  refine sr ?_
  refine sa ?_
  refine so ?_
  refine T.block ?_
  refine T.loop (γ := Nat) (fun i => i ≤ ka.length ∧ i ≤ kb.length ∧ cmpL (ka.drop i) (kb.drop i) = cmpL ka kb)
    (fun i => [(7, .int .i64 (i : Int)), (5, .slice ada ka.length capa), (6, .slice adb kb.length capb)])
    (fun _ => []) (fun _ => H2) (fun i => ka.length - i) 0 ⟨by simp, by simp, rfl⟩ zq8 zq4 rfl ?_
  rintro i ⟨i1, i2, i3⟩
  by_cases hi : i < ka.length
  · obtain ⟨x, hax⟩ : ∃ x, ka[i]? = some x := ⟨_, List.getElem?_eq_getElem hi⟩
    obtain ⟨b1, off1, rfl, hsub⟩ := hx.intAt hax
    by_cases hj : i < kb.length
    · obtain ⟨y, hby⟩ : ∃ x, kb[i]? = some x := ⟨_, List.getElem?_eq_getElem hj⟩
      obtain ⟨b2, off2, rfl, hsub2⟩ := hy.intAt hby
      rw [cmpL_drop hax hby] at i3
      by_cases h1 : x < y
      · rw [if_pos h1] at i3
        refine sq ?_
        refine sq ?_
        refine sr ?_
        refine sm ?_
        refine sm ?_
        refine sv (PV.lenSl rfl) ?_
        refine sv (PV.lss rfl rfl) ?_
        refine sm ?_
        refine T.setT (d := 28) rfl (by omega) ?_
        refine gm ?_
        refine gm ?_
        refine gv (PV.lenSl rfl) ?_
        refine gv (PV.lss rfl rfl) ?_
        refine sT ?_
        refine so ?_
        refine sc rfl (by omega) ?_
        refine T.skip ?_
        refine sq ?_
        refine T.block ?_
        refine sq ?_
        refine T.regionQ (by kernel_rfl) ?_
        refine TQ.pv (PV.move rfl) Wanted.none rfl rfl ?_
        refine TQ.pv (PV.move rfl) Wanted.none rfl rfl ?_
        refine TQ.pv (PV.indexAddr rfl rfl (by omega)) Wanted.none rfl rfl ?_
        refine TQ.pv (PV.loadSub0 rfl (by assumption)) Wanted.none rfl rfl ?_
        refine TQ.pv (PV.move rfl) Wanted.none rfl rfl ?_
        refine TQ.pv (PV.move rfl) Wanted.none rfl rfl ?_
        refine TQ.pv (PV.indexAddr rfl rfl (by omega)) Wanted.none rfl rfl ?_
        refine TQ.pv (PV.loadSub0 rfl (by assumption)) Wanted.none rfl rfl ?_
        refine TQ.pv (PV.neq rfl rfl) Wanted.none rfl rfl ?_
        refine TQ.nil ?_
        refine sc rfl (by omega) ?_
        refine sq ?_
        refine sq ?_
        refine T.regionQ (by kernel_rfl) ?_
        refine TQ.pv (PV.move rfl) Wanted.none rfl rfl ?_
        refine TQ.pv (PV.move rfl) Wanted.none rfl rfl ?_
        refine TQ.pv (PV.indexAddr rfl rfl (by omega)) Wanted.none rfl rfl ?_
        refine TQ.pv (PV.loadSub0 rfl (by assumption)) Wanted.none rfl rfl ?_
        refine TQ.pv (PV.move rfl) Wanted.none rfl rfl ?_
        refine TQ.pv (PV.move rfl) Wanted.none rfl rfl ?_
        refine TQ.pv (PV.indexAddr rfl rfl (by omega)) Wanted.none rfl rfl ?_
        refine TQ.pv (PV.loadSub0 rfl (by assumption)) Wanted.none rfl rfl ?_
        refine TQ.pv (PV.lss rfl rfl) Wanted.none rfl rfl ?_
        refine TQ.nil ?_
        refine sc rfl (by omega) ?_
        refine sq ?_
        refine sr ?_
        refine sa ?_
        refine so ?_
        exact T.retF (Lv.fin (RV.tmp rfl rfl) (by rw [← i3]))
      · rw [if_neg h1] at i3
        by_cases h2 : y < x
        · rw [if_pos h2] at i3
          refine sq ?_
          refine sq ?_
          refine sr ?_
          refine sm ?_
          refine sm ?_
          refine sv (PV.lenSl rfl) ?_
          refine sv (PV.lss rfl rfl) ?_
          refine sm ?_
          refine T.setT (d := 28) rfl (by omega) ?_
          refine gm ?_
          refine gm ?_
          refine gv (PV.lenSl rfl) ?_
          refine gv (PV.lss rfl rfl) ?_
          refine sT ?_
          refine so ?_
          refine sc rfl (by omega) ?_
          refine T.skip ?_
          refine sq ?_
          refine T.block ?_
          refine sq ?_
          refine T.regionQ (by kernel_rfl) ?_
          refine TQ.pv (PV.move rfl) Wanted.none rfl rfl ?_
          refine TQ.pv (PV.move rfl) Wanted.none rfl rfl ?_
          refine TQ.pv (PV.indexAddr rfl rfl (by omega)) Wanted.none rfl rfl ?_
          refine TQ.pv (PV.loadSub0 rfl (by assumption)) Wanted.none rfl rfl ?_
          refine TQ.pv (PV.move rfl) Wanted.none rfl rfl ?_
          refine TQ.pv (PV.move rfl) Wanted.none rfl rfl ?_
          refine TQ.pv (PV.indexAddr rfl rfl (by omega)) Wanted.none rfl rfl ?_
          refine TQ.pv (PV.loadSub0 rfl (by assumption)) Wanted.none rfl rfl ?_
          refine TQ.pv (PV.neq rfl rfl) Wanted.none rfl rfl ?_
          refine TQ.nil ?_
          refine sc rfl (by omega) ?_
          refine sq ?_
          refine sq ?_
          refine T.regionQ (by kernel_rfl) ?_
          refine TQ.pv (PV.move rfl) Wanted.none rfl rfl ?_
          refine TQ.pv (PV.move rfl) Wanted.none rfl rfl ?_
          refine TQ.pv (PV.indexAddr rfl rfl (by omega)) Wanted.none rfl rfl ?_
          refine TQ.pv (PV.loadSub0 rfl (by assumption)) Wanted.none rfl rfl ?_
          refine TQ.pv (PV.move rfl) Wanted.none rfl rfl ?_
          refine TQ.pv (PV.move rfl) Wanted.none rfl rfl ?_
          refine TQ.pv (PV.indexAddr rfl rfl (by omega)) Wanted.none rfl rfl ?_
          refine TQ.pv (PV.loadSub0 rfl (by assumption)) Wanted.none rfl rfl ?_
          refine TQ.pv (PV.lss rfl rfl) Wanted.none rfl rfl ?_
          refine TQ.nil ?_
          refine sd rfl (by omega) ?_
          refine T.skip ?_
          refine sq ?_
          refine sr ?_
          refine sa ?_
          refine so ?_
          exact T.retF (Lv.fin (RV.tmp rfl rfl) (by rw [← i3]))
        · rw [if_neg h2] at i3
          obtain rfl : x = y := by omega
          refine sq ?_
          refine sq ?_
          refine sr ?_
          refine sm ?_
          refine sm ?_
          refine sv (PV.lenSl rfl) ?_
          refine sv (PV.lss rfl rfl) ?_
          refine sm ?_
          refine T.setT (d := 28) rfl (by omega) ?_
          refine gm ?_
          refine gm ?_
          refine gv (PV.lenSl rfl) ?_
          refine gv (PV.lss rfl rfl) ?_
          refine sT ?_
          refine so ?_
          refine sc rfl (by omega) ?_
          refine T.skip ?_
          refine sq ?_
          refine T.block ?_
          refine sq ?_
          refine T.regionQ (by kernel_rfl) ?_
          refine TQ.pv (PV.move rfl) Wanted.none rfl rfl ?_
          refine TQ.pv (PV.move rfl) Wanted.none rfl rfl ?_
          refine TQ.pv (PV.indexAddr rfl rfl (by omega)) Wanted.none rfl rfl ?_
          refine TQ.pv (PV.loadSub0 rfl (by assumption)) Wanted.none rfl rfl ?_
          refine TQ.pv (PV.move rfl) Wanted.none rfl rfl ?_
          refine TQ.pv (PV.move rfl) Wanted.none rfl rfl ?_
          refine TQ.pv (PV.indexAddr rfl rfl (by omega)) Wanted.none rfl rfl ?_
          refine TQ.pv (PV.loadSub0 rfl (by assumption)) Wanted.none rfl rfl ?_
          refine TQ.pv (PV.neq rfl rfl) Wanted.none rfl rfl ?_
          refine TQ.nil ?_
          refine sd rfl (by omega) ?_
          refine T.skip ?_
          refine T.blkEnd ?_
          refine sr ?_
          refine sm ?_
          refine sv (PV.add rfl rfl (by omega)) ?_
          refine sa ?_
          refine so ?_
          exact T.next (i + 1) ⟨by omega, by omega, i3⟩ (by omega) zq8 zq4 rfl
    · rw [List.drop_of_length_le (by omega : kb.length ≤ i), cmpL_nil2 (by rw [List.length_drop]; omega)] at i3
      refine sq ?_
      refine sq ?_
      refine sr ?_
      refine sm ?_
      refine sm ?_
      refine sv (PV.lenSl rfl) ?_
      refine sv (PV.lss rfl rfl) ?_
      refine sm ?_
      refine T.setT (d := 28) rfl (by omega) ?_
      refine gm ?_
      refine gm ?_
      refine gv (PV.lenSl rfl) ?_
      refine gv (PV.lss rfl rfl) ?_
      refine sT ?_
      refine so ?_
      refine sd rfl (by omega) ?_
      refine T.exit rfl ?_
      refine sq ?_
      refine sq ?_
      refine sr ?_
      refine sm ?_
      refine sv (PV.lenSl rfl) ?_
      refine sm ?_
      refine sv (PV.lenSl rfl) ?_
      refine sv (PV.neq rfl rfl) ?_
      refine so ?_
      refine sc rfl (by omega) ?_
      refine sq ?_
      refine sq ?_
      refine sr ?_
      refine sm ?_
      refine sv (PV.lenSl rfl) ?_
      refine sm ?_
      refine sv (PV.lenSl rfl) ?_
      refine sv (PV.lss rfl rfl) ?_
      refine so ?_
      refine sd rfl (by omega) ?_
      refine T.skip ?_
      refine sq ?_
      refine sr ?_
      refine sa ?_
      refine so ?_
      exact T.retF (Lv.fin (RV.tmp rfl rfl) (by rw [← i3]))
  · rw [List.drop_of_length_le (by omega : ka.length ≤ i), cmpL_nil, List.length_drop] at i3
    by_cases hj : ka.length < kb.length
    · rw [if_pos (by omega)] at i3
      refine sq ?_
      refine sq ?_
      refine sr ?_
      refine sm ?_
      refine sm ?_
      refine sv (PV.lenSl rfl) ?_
      refine sv (PV.lss rfl rfl) ?_
      refine sm ?_
      refine T.setF (d := 28) rfl (by omega) ?_
      refine sp ?_
      refine sp ?_
      refine sp ?_
      refine sp ?_
      refine sF ?_
      refine so ?_
      refine T.condF rfl rfl ?_
      refine T.exit rfl ?_
      refine sq ?_
      refine sq ?_
      refine sr ?_
      refine sm ?_
      refine sv (PV.lenSl rfl) ?_
      refine sm ?_
      refine sv (PV.lenSl rfl) ?_
      refine sv (PV.neq rfl rfl) ?_
      refine so ?_
      refine sc rfl (by omega) ?_
      refine sq ?_
      refine sq ?_
      refine sr ?_
      refine sm ?_
      refine sv (PV.lenSl rfl) ?_
      refine sm ?_
      refine sv (PV.lenSl rfl) ?_
      refine sv (PV.lss rfl rfl) ?_
      refine so ?_
      refine sc rfl (by omega) ?_
      refine sq ?_
      refine sr ?_
      refine sa ?_
      refine so ?_
      exact T.retF (Lv.fin (RV.tmp rfl rfl) (by rw [← i3]))
    · rw [if_neg (by omega)] at i3
      refine sq ?_
      refine sq ?_
      refine sr ?_
      refine sm ?_
      refine sm ?_
      refine sv (PV.lenSl rfl) ?_
      refine sv (PV.lss rfl rfl) ?_
      refine sm ?_
      refine T.setF (d := 28) rfl (by omega) ?_
      refine sp ?_
      refine sp ?_
      refine sp ?_
      refine sp ?_
      refine sF ?_
      refine so ?_
      refine T.condF rfl rfl ?_
      refine T.exit rfl ?_
      refine sq ?_
      refine sq ?_
      refine sr ?_
      refine sm ?_
      refine sv (PV.lenSl rfl) ?_
      refine sm ?_
      refine sv (PV.lenSl rfl) ?_
      refine sv (PV.neq rfl rfl) ?_
      refine so ?_
      refine sd rfl (by omega) ?_
      refine T.skip ?_
      refine sq ?_
      refine sr ?_
      refine sa ?_
      refine so ?_
      exact T.retF (Lv.fin (RV.tmp rfl rfl) (by rw [← i3]))
end Go.Proofs.YtlklcjpmfjmenaaGreatDoor
namespace Go.Proofs.YtlklcjpmfjmenaaGreatDoor
open Go.RowKit


theorem takeS (l : List Sp) (k : Nat) (h : k ≤ l.length) : (l.flatMap encS).take (k * 2) = (l.take k).flatMap encS := by
  have : l.flatMap encS = (l.take k).flatMap encS ++ (l.drop k).flatMap encS := by rw [← List.flatMap_append, List.take_append_drop]
  rw [this, List.take_left' (by rw [flatS_len, List.length_take]; congr 1; omega)]
theorem dropS (l : List Sp) (k : Nat) (h : k ≤ l.length) : (l.flatMap encS).drop (k * 2) = (l.drop k).flatMap encS := by
  have : l.flatMap encS = (l.take k).flatMap encS ++ (l.drop k).flatMap encS := by rw [← List.flatMap_append, List.take_append_drop]
  rw [this, List.drop_left' (by rw [flatS_len, List.length_take]; congr 1; omega)]
theorem SpL.pre {H : Hp} {ad : Option Addr} {cap : Nat} {l : List Sp} (h : SlR H 2 (.slice ad l.length cap) l.length (l.flatMap encS)) {k : Nat} (hk : k ≤ l.length) : SlR H 2 (.slice ad ((k : Nat) : Int).toNat cap) k ((l.take k).flatMap encS) := by
  have := h.pre hk
  rw [takeS l k hk] at this
  rw [Int.toNat_natCast]; exact this
theorem SpL.suf {H : Hp} {ad : Option Addr} {cap : Nat} {l : List Sp} (h : SlR H 2 (.slice ad l.length cap) l.length (l.flatMap encS)) {k : Nat} (hk : k ≤ l.length) : SlR H 2 (slV 2 ad ((k : Nat) : Int).toNat l.length cap) (l.length - k) ((l.drop k).flatMap encS) := by
  have := h.slice (lo := k) (hi := l.length) hk (Nat.le_refl _)
  rw [dropS l k hk, List.take_of_length_le (by rw [flatS_len, List.length_drop]; omega)] at this
  rw [Int.toNat_natCast]; exact this
theorem T.cut1 {P : Program} {X : Cx} {e : Env} {l : List (Nat × Obj)} {H : Hp} {D : List Deferred} {a : It} {k : List It} (e' : Env) (l' : List (Nat × Obj)) (K : T P X e' l' H D k)
    (h : (∀ e l, Env.Sub e' e → List.Sublist l' l → T P X e l H D k) → T P X e l H D (a :: k)) : T P X e l H D (a :: k) := h fun _ _ he hl => T.weak he hl K
end Go.Proofs.YtlklcjpmfjmenaaGreatDoor
namespace Go.Proofs.YtlklcjpmfjmenaaGreatDoor
open Go.RowKit


/-! ### lists of matches -/
def encM (m : Mt) : List Value := [.int .i64 m.b, .int .i64 m.e, m.v]
theorem encM_len (m : Mt) : (encM m).length = 3 := rfl
def MtL (H : Hp) (v : Value) (l : List Mt) : Prop := SlR H 3 v l.length (l.flatMap encM) ∧ ∀ m ∈ l, LabOk H m
theorem LabOk.mono {H H' : Hp} {m : Mt} (h : LabOk H m) (hl : H.le H') : LabOk H' m := ⟨h.1.mono hl, h.2⟩
theorem MtL.mono {H H' : Hp} {v : Value} {l : List Mt} (h : MtL H v l) (hl : H.le H') : MtL H' v l := ⟨h.1.mono hl, fun m hm => (h.2 m hm).mono hl⟩
theorem SlR.matchAt {H : Hp} {ad : Option Addr} {n cap : Nat} {l : List Mt} (h : SlR H 3 (.slice ad n cap) l.length (l.flatMap encM)) {i : Nat} {m : Mt} (hx : l[i]? = some m) : ∃ b off, ad = some ⟨b, off, none⟩ ∧ SubC H b (off + i * 3) [.int .i64 m.b, .int .i64 m.e, m.v] := by
  have hi := (List.getElem?_eq_some_iff.1 hx).1
  obtain ⟨b, off, cap', hve, hsub⟩ := h.elem (i := i) hi (flat_elem encM_len l i m hx)
  injection hve with e1 e2 e3
  exact ⟨b, off, e1, hsub⟩
theorem key_take {l m : List Mt} {j : Nat} {x y : Mt} (hx : l[j]? = some x) (hy : m[j]? = some y) (h : (l.take j).map keyM = (m.take j).map keyM) (e : keyM x = keyM y) : (l.take (j + 1)).map keyM = (m.take (j + 1)).map keyM := by
  rw [List.take_add_one, List.take_add_one, hx, hy, List.map_append, List.map_append, h]
  simp [e]
set_option maxHeartbeats 1000000 in
theorem same24_fn (l m : List Mt) (v u : Value) (H : Hp) (hv : MtL H v l) (hu : MtL H u m) (hml : l.length ≤ 1000000) : Fn Tryz.prog 18 #[v, u] H (fun v _ => v = .bool (decide (l.map keyM = m.map keyM))) := by
  obtain ⟨adv, capv, rfl⟩ := hv.1.len
  obtain ⟨adu, capu, rfl⟩ := hu.1.len
  refine Fn.of_T (vs := [.slice adv l.length capv, .slice adu m.length capu]) Tryz.func18 rfl rfl fun w => ?_
  by_cases hlen : l.length = m.length
  · refine sq ?_
    refine sr ?_
    refine sa ?_
    refine so ?_
    refine sq ?_
    refine sq ?_
    refine sr ?_
    refine sm ?_
    refine sv (PV.lenSl rfl) ?_
    refine sm ?_
    refine sv (PV.lenSl rfl) ?_
    refine sv (PV.neq rfl rfl) ?_
    refine so ?_
    refine sd rfl (by omega) ?_
    refine T.skip ?_
    refine sq ?_
    refine sq ?_
    refine sr ?_
    refine sm ?_
    refine sv (PV.lenSl rfl) ?_
    refine sm ?_
    refine so ?_
    refine T.block ?_
    refine T.loop (γ := Nat) (fun j => j ≤ l.length ∧ (l.take j).map keyM = (m.take j).map keyM)
      (fun j => [(0, .slice adv l.length capv), (1, .slice adu m.length capu), (13, .int .i64 (j : Int)), (12, .int .i64 (l.length : Int))])
      (fun _ => []) (fun _ => H) (fun j => l.length - j) 0 ⟨by simp, by simp⟩ zq8 zq4 rfl ?_
    rintro j ⟨j1, j2⟩
    by_cases hj : j < l.length
    · obtain ⟨x, hxj⟩ : ∃ x, l[j]? = some x := ⟨_, List.getElem?_eq_getElem hj⟩
      obtain ⟨y, hyj⟩ : ∃ y, m[j]? = some y := ⟨_, List.getElem?_eq_getElem (by omega)⟩
      obtain ⟨bv, offv, rfl, hsubv⟩ := hv.1.matchAt hxj
      obtain ⟨bu, offu, rfl, hsubu⟩ := hu.1.matchAt hyj
      have hcall := refCompare_fn x y H (hv.2 x (List.mem_of_getElem? hxj)) (hu.2 y (List.mem_of_getElem? hyj))
      unfold mtV at hcall
      by_cases hc : keyM x = keyM y
      · rw [(cmpL_eq _ _).2 hc] at hcall
        refine sq ?_
        refine sr ?_
        refine sv (PV.lss rfl rfl) ?_
        refine so ?_
        refine sq ?_
        refine sc rfl (by omega) ?_
        refine T.skip ?_
        refine sq ?_
        refine T.block ?_
        refine sq ?_
        refine sr ?_
        refine sm ?_
        refine sa ?_
        refine so ?_
        refine sq ?_
        refine T.regionQ (by kernel_rfl) ?_
        refine TQ.pv (PV.move rfl) Wanted.none rfl rfl ?_
        refine TQ.pv (PV.move rfl) Wanted.none rfl rfl ?_
        refine TQ.pv (PV.indexAddr rfl rfl (by omega)) Wanted.none rfl rfl ?_
        refine TQ.pv (PV.loadSubAll rfl (by assumption) (by exact rfl)) Wanted.none rfl rfl ?_
        refine TQ.pv (PV.move rfl) Wanted.none rfl rfl ?_
        refine TQ.pv (PV.move rfl) Wanted.none rfl rfl ?_
        refine TQ.pv (PV.indexAddr rfl rfl (by omega)) Wanted.none rfl rfl ?_
        refine TQ.pv (PV.loadSubAll rfl (by assumption) (by exact rfl)) Wanted.none rfl rfl ?_
        refine TQ.callV Wanted.none rfl rfl (hcall) ?_
        refine TQ.pv (PV.neq rfl rfl) Wanted.none rfl rfl ?_
        refine TQ.nil ?_
        refine T.condF rfl rfl ?_
        refine T.skip ?_
        refine T.blkEnd ?_
        refine sr ?_
        refine sv (PV.add rfl rfl (by omega)) ?_
        refine sm ?_
        refine so ?_
        exact T.next (j + 1) ⟨by omega, key_take hxj hyj j2 hc⟩ (by omega) zq8 zq4 rfl
      · have hcn : cmpL (keyM x) (keyM y) ≠ 0 := fun h => hc ((cmpL_eq _ _).1 h)
        refine sq ?_
        refine sr ?_
        refine sv (PV.lss rfl rfl) ?_
        refine so ?_
        refine sq ?_
        refine sc rfl (by omega) ?_
        refine T.skip ?_
        refine sq ?_
        refine T.block ?_
        refine sq ?_
        refine sr ?_
        refine sm ?_
        refine sa ?_
        refine so ?_
        refine sq ?_
        refine T.regionQ (by kernel_rfl) ?_
        refine TQ.pv (PV.move rfl) Wanted.none rfl rfl ?_
        refine TQ.pv (PV.move rfl) Wanted.none rfl rfl ?_
        refine TQ.pv (PV.indexAddr rfl rfl (by omega)) Wanted.none rfl rfl ?_
        refine TQ.pv (PV.loadSubAll rfl (by assumption) (by exact rfl)) Wanted.none rfl rfl ?_
        refine TQ.pv (PV.move rfl) Wanted.none rfl rfl ?_
        refine TQ.pv (PV.move rfl) Wanted.none rfl rfl ?_
        refine TQ.pv (PV.indexAddr rfl rfl (by omega)) Wanted.none rfl rfl ?_
        refine TQ.pv (PV.loadSubAll rfl (by assumption) (by exact rfl)) Wanted.none rfl rfl ?_
        refine TQ.callV Wanted.none rfl rfl (hcall) ?_
        refine TQ.pv (PV.neq rfl rfl) Wanted.none rfl rfl ?_
        refine TQ.nil ?_
        refine sc rfl (by omega) ?_
        refine sq ?_
        refine sr ?_
        refine sa ?_
        refine so ?_
        refine T.retF (Lv.fin (RV.tmp rfl rfl) ?_)
        rw [decide_eq_false]
        intro h
        have := congrArg (fun t => t[j]?) h
        simp only [List.getElem?_map, hxj, hyj, Option.map_some, Option.some.injEq] at this
        exact hc this
    · rw [List.take_of_length_le (by omega), List.take_of_length_le (by omega)] at j2
      refine sq ?_
      refine sr ?_
      refine sv (PV.lss rfl rfl) ?_
      refine so ?_
      refine sq ?_
      refine sd rfl (by omega) ?_
      refine T.exit rfl ?_
      refine sq ?_
      refine sr ?_
      refine sa ?_
      refine so ?_
      exact T.retF (Lv.fin (RV.tmp rfl rfl) (by rw [decide_eq_true j2]))
  · refine sq ?_
    refine sr ?_
    refine sa ?_
    refine so ?_
    refine sq ?_
    refine sq ?_
    refine sr ?_
    refine sm ?_
    refine sv (PV.lenSl rfl) ?_
    refine sm ?_
    refine sv (PV.lenSl rfl) ?_
    refine sv (PV.neq rfl rfl) ?_
    refine so ?_
    refine sc rfl (by omega) ?_
    refine sq ?_
    refine sr ?_
    refine sa ?_
    refine so ?_
    refine T.retF (Lv.fin (RV.tmp rfl rfl) ?_)
    rw [decide_eq_false]
    intro h
    have := congrArg List.length h
    simp at this
    exact hlen this

end Go.Proofs.YtlklcjpmfjmenaaGreatDoor
namespace Go.Proofs.YtlklcjpmfjmenaaGreatDoor
open Go.RowKit

theorem flatM_len (l : List Mt) : (l.flatMap encM).length = l.length * 3 := flat_len encM_len l
abbrev MtV (v : Value) (lv : List (Nat × Obj)) (l : List Mt) : Prop := Vec 24 3 v lv l.length (l.flatMap encM)
theorem MtV.snoc {v : Value} {lv : List (Nat × Obj)} {l : List Mt} {x : Mt} (h : Vec 24 3 v lv (l.length + 1) (l.flatMap encM ++ encM x)) : MtV v lv (l ++ [x]) := by
  unfold MtV
  rw [List.length_append, List.flatMap_append, List.flatMap_singleton]
  exact h
theorem one_encM {H : Hp} {m : Mt} (h : LabOk H m) : ∀ v ∈ encM m, v.oneCell' = true := by
  obtain ⟨am, cm, hmv⟩ := h.1.len
  intro v hv
  simp only [encM, List.mem_cons, List.not_mem_nil, or_false] at hv
  rcases hv with rfl | rfl | rfl
  · rfl
  · rfl
  · rw [hmv]; rfl
theorem takeM (l : List Mt) (k : Nat) (h : k ≤ l.length) : (l.flatMap encM).take (k * 3) = (l.take k).flatMap encM := by
  have : l.flatMap encM = (l.take k).flatMap encM ++ (l.drop k).flatMap encM := by rw [← List.flatMap_append, List.take_append_drop]
  rw [this, List.take_left' (by rw [flatM_len, List.length_take]; congr 1; omega)]
theorem dropM (l : List Mt) (k : Nat) (h : k ≤ l.length) : (l.flatMap encM).drop (k * 3) = (l.drop k).flatMap encM := by
  have : l.flatMap encM = (l.take k).flatMap encM ++ (l.drop k).flatMap encM := by rw [← List.flatMap_append, List.take_append_drop]
  rw [this, List.drop_left' (by rw [flatM_len, List.length_take]; congr 1; omega)]
theorem MtS.pre {H : Hp} {ad : Option Addr} {cap : Nat} {l : List Mt} (h : SlR H 3 (.slice ad l.length cap) l.length (l.flatMap encM)) {k : Nat} (hk : k ≤ l.length) : SlR H 3 (.slice ad ((k : Nat) : Int).toNat cap) k ((l.take k).flatMap encM) := by
  have := h.pre hk
  rw [takeM l k hk] at this
  rw [Int.toNat_natCast]; exact this
theorem MtS.suf {H : Hp} {ad : Option Addr} {cap : Nat} {l : List Mt} (h : SlR H 3 (.slice ad l.length cap) l.length (l.flatMap encM)) {k : Nat} (hk : k ≤ l.length) : SlR H 3 (slV 3 ad ((k : Nat) : Int).toNat l.length cap) (l.length - k) ((l.drop k).flatMap encM) := by
  have := h.slice (lo := k) (hi := l.length) hk (Nat.le_refl _)
  rw [dropM l k hk, List.take_of_length_le (by rw [flatM_len, List.length_drop]; omega)] at this
  rw [Int.toNat_natCast]; exact this
theorem one_flatM {H : Hp} {l : List Mt} (h : ∀ m ∈ l, LabOk H m) : ∀ v ∈ l.flatMap encM, v.oneCell' = true := by
  intro v hv
  obtain ⟨s, hs, hs2⟩ := List.mem_flatMap.1 hv
  exact one_encM (h s hs) v hs2
theorem T.sub {P : Program} {X : Cx} {e : Env} {l l' : List (Nat × Obj)} {H : Hp} {D : List Deferred} {k : List It} (hl : List.Sublist l' l) (h : T P X e l' H D k) : T P X e l H D k := T.mk fun a w ha hw => h.get a w ha (hw.sub hl)
/-- the rest once, for all that a region may have come to -/
theorem T.cut1F {P : Program} {X : Cx} {e : Env} {l : List (Nat × Obj)} {H : Hp} {D : List Deferred} {a : It} {k : List It} {γ : Type} (C : γ → Prop) (e' : γ → Env) (l' : γ → List (Nat × Obj)) (K : ∀ g, C g → T P X (e' g) (l' g) H D k)
    (h : (∀ g e l, C g → Env.Sub (e' g) e → List.Sublist (l' g) l → T P X e l H D k) → T P X e l H D (a :: k)) : T P X e l H D (a :: k) :=
  h fun g _ _ hc he hl => T.weak he hl (K g hc)
theorem PV.nilCheck {P : Program} {e : Env} {l : List (Nat × Obj)} {H : Hp} {dst : Option Tmp} {ty : TypeId} {pos : String} {after : Array Edge} {gd : Option (Nat × Bool)} {x : Operand} {ad : Addr} (hx : evE e x = some (.pointer (some ad))) : PV P e l H ⟨dst, .nilCheck x, ty, pos, after, gd⟩ (.pointer (some ad)) := PV.mk fun X D a w ha hw => by
  simp [execOp, ha.eval hx]
theorem mod_fn (x n : Int) (H : Hp) (hx : -9223372036854775808 ≤ x ∧ x ≤ 9223372036854775807) (hn : 1 ≤ n ∧ n ≤ 1000000) : Fn Tryz.prog 21 #[.int .i64 x, .int .i64 n] H (fun u _ => u = .int .i64 (x % n)) := by
  refine Fn.of_T (vs := [.int .i64 x, .int .i64 n]) Tryz.func21 rfl rfl fun w => ?_
  have hb : -n < x.tmod n ∧ x.tmod n < n := by
    have h1 := Int.tmod_lt_of_pos x (by omega : 0 < n)
    have h2 := Int.lt_tmod_of_pos x (by omega : 0 < n)
    exact ⟨h2, h1⟩
  have he : x % n = if x.tmod n < 0 then x.tmod n + n else x.tmod n := by
    have h0 := Int.emod_nonneg x (by omega : n ≠ 0)
    have h1 := Int.emod_lt_of_pos x (by omega : 0 < n)
    have h2 : x % n = (x.tmod n) % n := by
      have h3 : x.tmod n + n * x.tdiv n = x := Int.tmod_add_mul_tdiv x n
      conv => lhs; rw [← h3]
      rw [Int.add_mul_emod_self_left]
    split
    · rw [h2, ← Int.add_emod_right]; exact Int.emod_eq_of_lt (by omega) (by omega)
    · rw [h2]; exact Int.emod_eq_of_lt (by omega) (by omega)
  rw [he]
  refine sq ?_
  refine sr ?_
  refine sa ?_
  refine so ?_
  refine sq ?_
  refine sq ?_
  refine sr ?_
  refine sm ?_
  refine sv (PV.lss rfl rfl) ?_
  refine so ?_
  refine sd rfl (by omega) ?_
  refine T.skip ?_
  refine sq ?_
  refine sr ?_
  refine sm ?_
  refine sm ?_
  refine sv (PV.rem rfl rfl (by omega)) ?_
  refine sa ?_
  refine so ?_
  refine sq ?_
  refine sq ?_
  refine sr ?_
  refine sm ?_
  refine sv (PV.lss rfl rfl) ?_
  refine so ?_
  split
  · refine sc rfl (by omega) ?_
    refine sr ?_
    refine sm ?_
    refine sm ?_
    refine sv (PV.add rfl rfl (by omega)) ?_
    refine sa ?_
    refine so ?_
    refine sq ?_
    refine sr ?_
    refine sm ?_
    refine sa ?_
    refine so ?_
    exact T.retF (Lv.fin (RV.tmp rfl rfl) rfl)
  · refine sd rfl (by omega) ?_
    refine T.skip ?_
    refine sq ?_
    refine sr ?_
    refine sm ?_
    refine sa ?_
    refine so ?_
    exact T.retF (Lv.fin (RV.tmp rfl rfl) rfl)
/-- a tape: at most 120 numbers that are only read, and a place -/
structure Tp where
  v : Value
  xs : List Int
  at_ : Nat
def Tp.ok (H : Hp) (t : Tp) : Prop := InL H t.v t.xs ∧ t.xs.length ≤ 120 ∧ t.at_ ≤ t.xs.length ∧ ∀ x ∈ t.xs, -9223372036854775808 ≤ x ∧ x ≤ 9223372036854775807
def Tp.blk (b : Nat) (t : Tp) : Nat × Obj := (b, .cells #[t.v, .int .i64 (t.at_ : Int)] 61 (0, 0))
theorem Tp.ok.mono {H H' : Hp} {t : Tp} (h : t.ok H) (hl : H.le H') : t.ok H' := ⟨h.1.mono hl, h.2⟩
theorem SlR.pre1 {H : Hp} {ad : Option Addr} {cap : Nat} {l : List Int} (h : SlR H 1 (.slice ad l.length cap) l.length (intsV l)) {k : Nat} (hk : k ≤ l.length) : InL H (.slice ad k cap) (l.take k) := by
  have := h.pre hk
  have e : (l.take k).length = k := by rw [List.length_take]; omega
  have e2 : (intsV l).take (k * 1) = intsV (l.take k) := by
    have e3 : intsV l = intsV (l.take k) ++ intsV (l.drop k) := by unfold intsV; rw [← List.flatMap_append, List.take_append_drop]
    rw [e3, List.take_left' (by rw [ints_len, e, Nat.mul_one])]
  unfold InL
  rw [e, ← e2]; exact this
theorem new_fn (l : List Int) (v : Value) (H : Hp) (hv : InL H v l) (hl : l.length ≤ 9223372036854775807) (hr : ∀ x ∈ l, -9223372036854775808 ≤ x ∧ x ≤ 9223372036854775807) : FnW Tryz.prog 6 #[v] H [] (fun u H' l' => H = H' ∧ ∃ b t, u = .pointer (some ⟨b, 0, none⟩) ∧ t.ok H ∧ l' = [Tp.blk b t]) := by
  obtain ⟨ad, cap, rfl⟩ := hv.len
  have hcap := hv.cap
  refine FnW.of_T (vs := [.slice ad l.length cap]) Tryz.func6 rfl rfl fun w => ?_
  by_cases h : 120 < l.length
  · refine sq ?_
    refine sr ?_
    refine sa ?_
    refine so ?_
    refine sq ?_
    refine sq ?_
    refine sr ?_
    refine sm ?_
    refine sv (PV.lenSl rfl) ?_
    refine sv (PV.gtr rfl rfl) ?_
    refine so ?_
    refine sc rfl (by omega) ?_
    refine sr ?_
    refine sm ?_
    refine sv (PV.sliceH rfl rfl (by omega)) ?_
    refine sa ?_
    refine so ?_
    refine sq ?_
    refine sr ?_
    refine sm ?_
    refine sv (PV.build rfl zq12) ?_
    (refine T.box Wanted.none rfl rfl zq15 ?_; intro b10)
    refine sa ?_
    refine so ?_
    refine T.retW (Lv.finW _ (List.Sublist.refl _) (RV.tmp rfl rfl) ⟨rfl, _, ⟨.slice ad 120 cap, l.take 120, 0⟩, rfl, ⟨hv.pre1 (by omega), by rw [List.length_take]; omega, by simp, fun x hx => hr x (List.mem_of_mem_take hx)⟩, rfl⟩)
  · refine sq ?_
    refine sr ?_
    refine sa ?_
    refine so ?_
    refine sq ?_
    refine sq ?_
    refine sr ?_
    refine sm ?_
    refine sv (PV.lenSl rfl) ?_
    refine sv (PV.gtr rfl rfl) ?_
    refine so ?_
    refine sd rfl (by omega) ?_
    refine T.skip ?_
    refine sq ?_
    refine sr ?_
    refine sm ?_
    refine sv (PV.build rfl zq12) ?_
    (refine T.box Wanted.none rfl rfl zq15 ?_; intro b10)
    refine sa ?_
    refine so ?_
    refine T.retW (Lv.finW _ (List.Sublist.refl _) (RV.tmp rfl rfl) ⟨rfl, _, ⟨.slice ad l.length cap, l, 0⟩, rfl, ⟨hv, by dsimp only; omega, by simp, hr⟩, rfl⟩)
theorem next_fn (b : Nat) (t : Tp) (n : Int) (H : Hp) (ht : t.ok H) (hn : 1 ≤ n ∧ n ≤ 1000000) : FnW Tryz.prog 27 #[.pointer (some ⟨b, 0, none⟩), .int .i64 n] H [Tp.blk b t] (fun u H' l' => H = H' ∧ ∃ x t', u = .int .i64 x ∧ (0 ≤ x ∧ x < n) ∧ t'.ok H ∧ l' = [Tp.blk b t']) := by
  obtain ⟨v, xs, i⟩ := t
  obtain ⟨h1, h2, h3, h4⟩ := ht
  dsimp only at h1 h2 h3 h4
  obtain ⟨ad, cap, rfl⟩ := h1.len
  refine FnW.of_T (vs := [.pointer (some ⟨b, 0, none⟩), .int .i64 n]) Tryz.func27 rfl rfl fun w => ?_
  unfold Tp.blk
  dsimp only
  by_cases hi : i < xs.length
  · obtain ⟨x, hx⟩ : ∃ x, xs[i]? = some x := ⟨_, List.getElem?_eq_getElem hi⟩
    obtain ⟨bs, off, rfl, hsub0⟩ := h1.intAt hx
    have hsub : SubC H bs (off + ((i : Int) + 1 - 1).toNat * 1) [.int .i64 x] := by rwa [show ((i : Int) + 1 - 1).toNat = i by omega]
    clear hsub0
    have hm := mod_fn x n H (h4 x (List.mem_of_getElem? hx)) hn
    refine sq ?_
    refine sr ?_
    refine sa ?_
    refine so ?_
    refine sq ?_
    refine sq ?_
    refine T.regionQ (by kernel_rfl) ?_
    refine TQ.pv (PV.move rfl) Wanted.none rfl rfl ?_
    refine TQ.pv (PV.nilCheck rfl) Wanted.none rfl rfl ?_
    refine TQ.pv (PV.fieldAddr rfl) Wanted.none rfl rfl ?_
    refine TQ.pv (PV.load1 rfl zq0 rfl) Wanted.none rfl rfl ?_
    refine TQ.pv (PV.move rfl) Wanted.none rfl rfl ?_
    refine TQ.pv (PV.nilCheck rfl) Wanted.none rfl rfl ?_
    refine TQ.pv (PV.fieldAddr rfl) Wanted.none rfl rfl ?_
    refine TQ.pv (PV.load1 rfl zq0 rfl) Wanted.none rfl rfl ?_
    refine TQ.pv (PV.lenSl rfl) Wanted.none rfl rfl ?_
    refine TQ.pv (PV.geq rfl rfl) Wanted.none rfl rfl ?_
    refine TQ.nil ?_
    refine sd rfl (by omega) ?_
    refine T.skip ?_
    refine sq ?_
    refine sr ?_
    refine sm ?_
    refine sv (PV.nilCheck rfl) ?_
    refine sf ?_
    refine sl ?_
    refine sv (PV.add rfl rfl (by omega)) ?_
    refine sv (PV.nilCheck rfl) ?_
    refine sf ?_
    refine T.store1 Wanted.none rfl rfl rfl zq14 zq13 ?_
    refine so ?_
    refine sq ?_
    refine T.regionQ (by kernel_rfl) ?_
    refine TQ.pv (PV.move rfl) Wanted.none rfl rfl ?_
    refine TQ.pv (PV.nilCheck rfl) Wanted.none rfl rfl ?_
    refine TQ.pv (PV.fieldAddr rfl) Wanted.none rfl rfl ?_
    refine TQ.pv (PV.load1 rfl zq0 rfl) Wanted.none rfl rfl ?_
    refine TQ.pv (PV.move rfl) Wanted.none rfl rfl ?_
    refine TQ.pv (PV.nilCheck rfl) Wanted.none rfl rfl ?_
    refine TQ.pv (PV.fieldAddr rfl) Wanted.none rfl rfl ?_
    refine TQ.pv (PV.load1 rfl zq0 rfl) Wanted.none rfl rfl ?_
    refine TQ.pv (PV.sub rfl rfl (by omega)) Wanted.none rfl rfl ?_
    refine TQ.pv (PV.indexAddr rfl rfl (by omega)) Wanted.none rfl rfl ?_
    refine TQ.pv (PV.loadSub0 rfl (by assumption)) Wanted.none rfl rfl ?_
    refine TQ.pv (PV.move rfl) Wanted.none rfl rfl ?_
    refine TQ.callV Wanted.none rfl rfl (hm) ?_
    refine TQ.pv (PV.assign rfl) Wanted.none rfl rfl ?_
    refine TQ.nil ?_
    refine T.retW (Lv.finW _ (List.Sublist.refl _) (RV.tmp rfl rfl) ⟨rfl, x % n, ⟨.slice (some ⟨bs, off, none⟩) xs.length cap, xs, i + 1⟩, rfl, ⟨Int.emod_nonneg _ (by omega), Int.emod_lt_of_pos _ (by omega)⟩, ⟨h1, h2, by dsimp only; omega, h4⟩, ?_⟩)
    rfl
  · refine sq ?_
    refine sr ?_
    refine sa ?_
    refine so ?_
    refine sq ?_
    refine sq ?_
    refine T.regionQ (by kernel_rfl) ?_
    refine TQ.pv (PV.move rfl) Wanted.none rfl rfl ?_
    refine TQ.pv (PV.nilCheck rfl) Wanted.none rfl rfl ?_
    refine TQ.pv (PV.fieldAddr rfl) Wanted.none rfl rfl ?_
    refine TQ.pv (PV.load1 rfl zq0 rfl) Wanted.none rfl rfl ?_
    refine TQ.pv (PV.move rfl) Wanted.none rfl rfl ?_
    refine TQ.pv (PV.nilCheck rfl) Wanted.none rfl rfl ?_
    refine TQ.pv (PV.fieldAddr rfl) Wanted.none rfl rfl ?_
    refine TQ.pv (PV.load1 rfl zq0 rfl) Wanted.none rfl rfl ?_
    refine TQ.pv (PV.lenSl rfl) Wanted.none rfl rfl ?_
    refine TQ.pv (PV.geq rfl rfl) Wanted.none rfl rfl ?_
    refine TQ.nil ?_
    refine sc rfl (by omega) ?_
    refine sq ?_
    refine sr ?_
    refine sa ?_
    refine so ?_
    refine T.retW (Lv.finW _ (List.Sublist.refl _) (RV.tmp rfl rfl) ⟨rfl, 0, ⟨.slice ad xs.length cap, xs, i⟩, rfl, ⟨by omega, by omega⟩, ⟨h1, h2, h3, h4⟩, rfl⟩)
end Go.Proofs.YtlklcjpmfjmenaaGreatDoor
