/- regions: the statement Splits. -/
import Derived.Test.YtchgfjclchhgmaaFRF
namespace Go.Proofs.Ytchgfjclchhgmaa
open Go.RowKit

theorem filt_mk3 {c : Cp} {fs : List Fl} {x y : List Mt} (h : x.map mk3 = y.map mk3) : (x.filter (passB c fs)).map mk3 = (y.filter (passB c fs)).map mk3 := by
  have hp : passB c fs = (fun z : Int × Int × List Int => fs.all fun f => holdsB c f (z.1, z.2.1)) ∘ mk3 := rfl
  rw [hp, ← List.filter_map, ← List.filter_map, h]
theorem split1 {c : Cp} {f g h : Fl} {m A x y : List Mt} (hA : A.map mk3 = (m.filter (passB c [f, g, h])).map mk3) (hx : x.map mk3 = (m.filter (passB c [f])).map mk3) (hy : y.map mk3 = (x.filter (passB c [g, h])).map mk3) : A.map mk3 = y.map mk3 := by
  rw [hy, filt_mk3 hx, hA, List.filter_filter]
  congr 2
  funext z
  simp only [passB, List.all_cons, List.all_nil, Bool.and_true]
  cases holdsB c f (z.b, z.e) <;> cases holdsB c g (z.b, z.e) <;> cases holdsB c h (z.b, z.e) <;> rfl
theorem split2 {c : Cp} {f g h : Fl} {m A x y : List Mt} (hA : A.map mk3 = (m.filter (passB c [f, g, h])).map mk3) (hx : x.map mk3 = (m.filter (passB c [g, h])).map mk3) (hy : y.map mk3 = (x.filter (passB c [f])).map mk3) : A.map mk3 = y.map mk3 := by
  rw [hy, filt_mk3 hx, hA, List.filter_filter]
  congr 2
  funext z
  simp only [passB, List.all_cons, List.all_nil, Bool.and_true]
theorem ls_mk3 {c : Cp} {fs : List Fl} {m x : List Mt} (h : x.map mk3 = (m.filter (passB c fs)).map mk3) (hm : (m.length : Int) ≤ 8) (hls : ∀ a ∈ m, a.ls.length ≤ 1000) : x.length ≤ 1000 ∧ ∀ a ∈ x, a.ls.length ≤ 1000 := by
  constructor
  · have := congrArg List.length h
    rw [List.length_map, List.length_map] at this
    have := List.length_filter_le (passB c fs) m
    omega
  · intro a ha
    have h1 : mk3 a ∈ (m.filter (passB c fs)).map mk3 := h ▸ List.mem_map_of_mem ha
    obtain ⟨b, hb, e⟩ := List.mem_map.1 h1
    have := hls b (List.mem_filter.1 hb).1
    have e2 : b.ls = a.ls := congrArg (fun z : Int × Int × List Int => z.2.2) e
    rw [← e2]; exact this
set_option maxHeartbeats 4000000 in
theorem splits_fn (l : List Int) (v : Value) (H : Hp) (hv : InL H v l) (hl : l.length ≤ 9223372036854775807) (hr : ∀ x ∈ l, -9223372036854775808 ≤ x ∧ x ≤ 9223372036854775807) :
    Fn Try.prog 8 #[v] H (fun u _ => u = .bool true) := by
  refine Fn.of_T (vs := [v]) Try.func8 rfl rfl fun w => ?_
  refine T.seq ?_
  refine T.region ?_
  refine T.pv (PV.assign rfl) Wanted.none rfl rfl ?_
  refine T.opsNil ?_
  refine T.seq ?_
  refine T.region ?_
  refine T.pv (PV.move rfl) Wanted.none rfl rfl ?_
  refine T.callW (l0 := []) Wanted.none rfl rfl (new_fn l v H hv hl hr) zq1 ?_
  rintro _ _ _ _ ⟨rfl, bt, t, rfl, ht, rfl⟩
  refine T.pv (PV.assign rfl) Wanted.none rfl rfl ?_
  refine T.opsNil ?_
  refine T.seq ?_
  refine T.region ?_
  refine T.pv (PV.move rfl) Wanted.none rfl rfl ?_
  refine T.callW Wanted.none rfl rfl (corpus_fn bt t 6 H ht (by omega)) zq1 ?_
  rintro _ H1 _ hle1 ⟨t1, c, rfl, ht1, hc, hg, hb, rfl⟩
  have hmt := fun H2 t (hle : H1.le H2) (h : Tp.ok H2 t) => matches_fn bt t c 0 8 H2 h (hc.mono hle) hg hb (by omega) (by omega)
  have hap := fun fs m vf vm H (hle : H1.le H) => apply_in c fs m vf vm H (hc.mono hle)
  rw [show ((0 : Nat) : Int) = 0 from rfl] at hmt
  unfold cpV at hmt hap ⊢
  (refine T.alloc Wanted.none rfl ?_; intro b4)
  (refine T.storeA Wanted.none rfl rfl (cp_one hc) (by exact rfl) zq14 zq13 ?_)
  refine T.opsNil ?_
  refine T.seq ?_
  refine T.region ?_
  refine T.pv (PV.move rfl) Wanted.none rfl rfl ?_
  (refine T.callW Wanted.none rfl rfl (filter_fn _ _ _ ?_) zq1 ?_; (focus assumption); rintro _ _ _ _ ⟨rfl, t14, f14, rfl, ht14, hf14, rfl⟩; unfold flV)
  (refine T.buildSlice Wanted.none rfl rfl zq11 (by exact rfl) (by exact rfl) ?_; intro b15)
  refine T.pv (PV.move rfl) Wanted.none rfl rfl ?_
  (refine T.callW Wanted.none rfl rfl (filter_fn _ _ _ ?_) zq1 ?_; (focus assumption); rintro _ _ _ _ ⟨rfl, t17, f17, rfl, ht17, hf17, rfl⟩; unfold flV)
  refine T.pv (PV.move rfl) Wanted.none rfl rfl ?_
  (refine T.callW Wanted.none rfl rfl (filter_fn _ _ _ ?_) zq1 ?_; (focus assumption); rintro _ _ _ _ ⟨rfl, t19, f19, rfl, ht19, hf19, rfl⟩; unfold flV)
  (refine T.buildSlice Wanted.none rfl rfl zq11 (by exact rfl) (by exact rfl) ?_; intro b20)
  refine T.pv (PV.assign rfl) Wanted.none rfl rfl ?_
  refine T.pv (PV.assign rfl) Wanted.none rfl rfl ?_
  refine T.opsNil ?_
  refine T.freezeB (b := b15) zq1 ?_
  intro H2 hle2 hb15
  refine T.freezeB (b := b20) zq1 ?_
  intro H3 hle3 hb20
  have hF := (fl_block (l := [f14]) hb15 rfl).mono hle3
  have hG := fl_block (l := [f17, f19]) hb20 rfl
  have ht4 := (ht19.mono hle2).mono hle3
  refine T.seq ?_
  refine T.region ?_
  refine T.pv (PV.move rfl) Wanted.none rfl rfl ?_
  refine T.pv (PV.loadAll rfl zq0 (by exact rfl)) Wanted.none rfl rfl ?_
  (refine T.callW Wanted.none rfl rfl (hmt _ _ (hle2.trans hle3) (by assumption)) zq1 ?_; rintro _ H4 _ hle4 ⟨t5, m, ht5, hm, hmn, hfit, rfl⟩; obtain ⟨am, cm, rfl⟩ := hm.1.len)
  refine T.pv (PV.assign rfl) Wanted.none rfl rfl ?_
  refine T.opsNil ?_
  have hls : ∀ x ∈ m, x.ls.length ≤ 1000 := fun x hx => by have := (hfit x hx).2.1; omega
  have hF4 := hF.mono hle4
  have hG4 := hG.mono hle4
  have hle14 := (hle2.trans hle3).trans hle4
  (repeat refine T.seq ?_)
  refine T.regionO [(b4, .cells #[c.va, c.vt, c.vx, c.vr, c.vn, c.vh, c.vs] 33 (0, 0))] (by kernel_rfl) ?_
  refine TO.take 0 rfl (by kernel_rfl) (by kernel_rfl) (by kernel_rfl) (PV.loadAll rfl zq0 (by exact rfl)) Wanted.none rfl rfl ?_
  refine TO.take 2 rfl (by kernel_rfl) (by kernel_rfl) (by kernel_rfl) (PV.move rfl) Wanted.none rfl rfl ?_
  refine TO.take 4 rfl (by kernel_rfl) (by kernel_rfl) (by kernel_rfl) (PV.move rfl) Wanted.none rfl rfl ?_
  refine TO.take 6 rfl (by kernel_rfl) (by kernel_rfl) (by kernel_rfl) (PV.move rfl) Wanted.none rfl rfl ?_
  refine TO.step 1 rfl (by kernel_rfl) zq4 zq10 ?_
  (refine T.buildSlice Wanted.none rfl rfl zq11 (by exact rfl) (by exact rfl) ?_; intro b25)
  refine T.opsNil ?_
  refine TO.back ?_
  refine TO.step 3 rfl (by kernel_rfl) zq4 zq10 ?_
  (refine T.appendP (lv := []) Wanted.none rfl rfl rfl (Vec.empty 38 3 _) hF4.src (RowL.one (enc := encFl) fun x _ => one_encFl x) (by simp) zq1 ?_; intro v27 lv27 hv27 _; obtain ⟨ad27, cap27, rfl⟩ := hv27.val)
  refine T.opsNil ?_
  refine TO.back ?_
  refine TO.step 5 rfl (by kernel_rfl) zq4 zq10 ?_
  (refine T.appendP (lv := lv27) Wanted.none rfl rfl rfl hv27 hG4.src (RowL.one (enc := encFl) fun x _ => one_encFl x) (by simp) zq1 ?_; intro v29 lv29 hv29 _; obtain ⟨ad29, cap29, rfl⟩ := hv29.val)
  refine T.opsNil ?_
  refine TO.back ?_
  refine TO.step 7 rfl (by kernel_rfl) zq4 zq10 ?_
  (refine T.freezeP (lv := lv29) hv29 zq1 ?_; intro H5 hle5 hs5; refine T.call Wanted.none rfl rfl (hap [f14, f17, f19] m _ _ H5 (hle14.trans hle5) hs5 (hm.mono hle5) (by simp) (by omega) hls) ?_; rintro _ H6 hle6 ⟨A, hA, hAe⟩; have hle46 := hle5.trans hle6)
  refine T.opsNil ?_
  refine TO.back ?_
  refine TO.take 8 rfl (by kernel_rfl) (by kernel_rfl) (by kernel_rfl) (PV.assign rfl) Wanted.none rfl rfl ?_
  refine TO.done (by kernel_rfl) zq4 zq10 ?_
  (repeat refine T.seq ?_)
  refine T.regionO [(b4, .cells #[c.va, c.vt, c.vx, c.vr, c.vn, c.vh, c.vs] 33 (0, 0))] (by kernel_rfl) ?_
  have hle16 := hle14.trans hle46
  have hAl := ls_mk3 hAe hmn hls
  refine TO.take 0 rfl (by kernel_rfl) (by kernel_rfl) (by kernel_rfl) (PV.move rfl) Wanted.none rfl rfl ?_
  refine TO.take 1 rfl (by kernel_rfl) (by kernel_rfl) (by kernel_rfl) (PV.loadAll rfl zq0 (by exact rfl)) Wanted.none rfl rfl ?_
  refine TO.take 2 rfl (by kernel_rfl) (by kernel_rfl) (by kernel_rfl) (PV.move rfl) Wanted.none rfl rfl ?_
  refine TO.take 3 rfl (by kernel_rfl) (by kernel_rfl) (by kernel_rfl) (PV.loadAll rfl zq0 (by exact rfl)) Wanted.none rfl rfl ?_
  refine TO.take 4 rfl (by kernel_rfl) (by kernel_rfl) (by kernel_rfl) (PV.move rfl) Wanted.none rfl rfl ?_
  refine TO.take 5 rfl (by kernel_rfl) (by kernel_rfl) (by kernel_rfl) (PV.move rfl) Wanted.none rfl rfl ?_
  refine TO.step 6 rfl (by kernel_rfl) zq4 zq10 ?_
  (refine T.call Wanted.none rfl rfl (hap [f14] m _ _ H6 hle16 (hF4.mono hle46) (hm.mono hle46) (by simp) (by omega) hls) ?_; rintro _ H38 hle38 ⟨x38, hx38, he38⟩; have hl38 := ls_mk3 he38 hmn hls)
  refine T.opsNil ?_
  refine TO.back ?_
  refine TO.step 7 rfl (by kernel_rfl) zq4 zq10 ?_
  (refine T.call Wanted.none rfl rfl (hap [f17, f19] x38 _ _ H38 (hle16.trans hle38) ((hG4.mono hle46).mono hle38) hx38 (by simp) hl38.1 hl38.2) ?_; rintro _ H39 hle39 ⟨x39, hx39, he39⟩; have hle69 := hle38.trans hle39)
  refine T.opsNil ?_
  refine TO.back ?_
  refine TO.step 8 rfl (by kernel_rfl) zq4 zq10 ?_
  (refine T.callX Wanted.none rfl rfl (same24_fn _ _ _ _ _ (hA.mono hle69) hx39 (by omega)) ?_; rintro _ rfl; rw [decide_eq_true (key_mk3 (split1 hAe he38 he39))])
  refine T.opsNil ?_
  refine TO.back ?_
  refine TO.take 9 rfl (by kernel_rfl) (by kernel_rfl) (by kernel_rfl) (PV.move rfl) Wanted.none rfl rfl ?_
  refine TO.take 10 rfl (by kernel_rfl) (by kernel_rfl) (by kernel_rfl) (PV.move rfl) (Wanted.guard rfl rfl rfl) rfl rfl ?_
  refine TO.take 11 rfl (by kernel_rfl) (by kernel_rfl) (by kernel_rfl) (PV.loadAll rfl zq0 (by exact rfl)) (Wanted.guard rfl rfl rfl) rfl rfl ?_
  refine TO.take 12 rfl (by kernel_rfl) (by kernel_rfl) (by kernel_rfl) (PV.move rfl) (Wanted.guard rfl rfl rfl) rfl rfl ?_
  refine TO.take 13 rfl (by kernel_rfl) (by kernel_rfl) (by kernel_rfl) (PV.loadAll rfl zq0 (by exact rfl)) (Wanted.guard rfl rfl rfl) rfl rfl ?_
  refine TO.take 14 rfl (by kernel_rfl) (by kernel_rfl) (by kernel_rfl) (PV.move rfl) (Wanted.guard rfl rfl rfl) rfl rfl ?_
  refine TO.take 15 rfl (by kernel_rfl) (by kernel_rfl) (by kernel_rfl) (PV.move rfl) (Wanted.guard rfl rfl rfl) rfl rfl ?_
  refine TO.step 16 rfl (by kernel_rfl) zq4 zq10 ?_
  (refine T.call (Wanted.guard rfl rfl rfl) rfl rfl (hap [f17, f19] m _ _ H39 (hle16.trans hle69) ((hG4.mono hle46).mono hle69) ((hm.mono hle46).mono hle69) (by simp) (by omega) hls) ?_; rintro _ H48 hle48 ⟨x48, hx48, he48⟩; have hl48 := ls_mk3 he48 hmn hls; have hle68 := hle69.trans hle48)
  refine T.opsNil ?_
  refine TO.back ?_
  refine TO.step 17 rfl (by kernel_rfl) zq4 zq10 ?_
  (refine T.call (Wanted.guard rfl rfl rfl) rfl rfl (hap [f14] x48 _ _ H48 (hle16.trans hle68) ((hF4.mono hle46).mono hle68) hx48 (by simp) hl48.1 hl48.2) ?_; rintro _ H49 hle49 ⟨x49, hx49, he49⟩; have hle79 := hle68.trans hle49; have kn := known_fn H49)
  refine T.opsNil ?_
  refine TO.back ?_
  refine TO.step 18 rfl (by kernel_rfl) zq4 zq10 ?_
  (refine T.callX (Wanted.guard rfl rfl rfl) rfl rfl (same24_fn _ _ _ _ _ (hA.mono hle79) hx49 (by omega)) ?_; rintro _ rfl; rw [decide_eq_true (key_mk3 (split2 hAe he48 he49))])
  refine T.opsNil ?_
  refine TO.back ?_
  refine TO.take 19 rfl (by kernel_rfl) (by kernel_rfl) (by kernel_rfl) (PV.pickT rfl rfl rfl) Wanted.none rfl rfl ?_
  refine TO.take 20 rfl (by kernel_rfl) (by kernel_rfl) (by kernel_rfl) (PV.move rfl) Wanted.none rfl rfl ?_
  refine TO.step 21 rfl (by kernel_rfl) zq4 zq10 ?_
  have kn := known_fn H49
  refine T.callV (Wanted.guard rfl rfl rfl) rfl rfl (kn) ?_
  refine T.opsNil ?_
  refine TO.back ?_
  refine TO.take 22 rfl (by kernel_rfl) (by kernel_rfl) (by kernel_rfl) (PV.pickT rfl rfl rfl) Wanted.none rfl rfl ?_
  refine TO.take 23 rfl (by kernel_rfl) (by kernel_rfl) (by kernel_rfl) (PV.assign rfl) Wanted.none rfl rfl ?_
  refine TO.done (by kernel_rfl) zq4 zq10 ?_
  exact T.retF (Lv.fin (RV.tmp rfl rfl) rfl)
end Go.Proofs.Ytchgfjclchhgmaa
