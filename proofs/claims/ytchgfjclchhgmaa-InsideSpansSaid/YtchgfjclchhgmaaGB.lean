/- regions: Apply.
   made corpora: filters, matches, spans. -/
import Derived.Test.YtchgfjclchhgmaaFR4
namespace Go.Proofs.Ytchgfjclchhgmaa
open Go.RowKit

def mk3 (m : Mt) : Int × Int × List Int := (m.b, m.e, m.ls)
def passB (c : Cp) (fs : List Fl) (m : Mt) : Bool := fs.all fun f => holdsB c f (m.b, m.e)
theorem apply1_fn (c : Cp) (f : Fl) (m : Mt) (bc bm : Nat) (H : Hp) (hc : CpL H c) (hm : LabOk H m) (hbc : H bc = some (.cells (cpC c).toArray 33 (0, 0))) (hbm : H bm = some (.cells (encM m).toArray 77 (0, 0))) :
    Fn Try.prog 41 #[flV f, .pointer (some ⟨bc, 0, none⟩), .pointer (some ⟨bm, 0, none⟩)] H (fun u _ => u = .bool (!holdsB c f (m.b, m.e))) := by
  obtain ⟨am, cm, hmv⟩ := hm.1.len
  have hh := holds_in c f (m.b, m.e) H hc
  unfold cpV flV spV at hh
  unfold cpC at hbc
  unfold encM at hbm
  rw [hmv] at hbm
  unfold flV
  refine Fn.of_T (vs := [.agg #[.int .i64 f.op, .bool f.nt, .string f.rg], .pointer (some ⟨bc, 0, none⟩), .pointer (some ⟨bm, 0, none⟩)]) Try.func41 rfl rfl fun w => ?_
  refine T.seq ?_
  refine T.region ?_
  (refine T.box Wanted.none rfl rfl zq15 ?_; intro b3)
  refine T.pv (PV.assign rfl) Wanted.none rfl rfl ?_
  refine T.opsNil ?_
  refine T.seq ?_
  refine T.region ?_
  refine T.pv (PV.loadAll rfl zq0 (by exact rfl)) Wanted.none rfl rfl ?_
  refine T.pv (PV.loadAll rfl zq0 (by exact rfl)) Wanted.none rfl rfl ?_
  refine T.pv (PV.fieldAddr rfl) Wanted.none rfl rfl ?_
  refine T.pv (PV.load1 rfl zq0 rfl) Wanted.none rfl rfl ?_
  refine T.pv (PV.fieldAddr rfl) Wanted.none rfl rfl ?_
  refine T.pv (PV.load1 rfl zq0 rfl) Wanted.none rfl rfl ?_
  refine T.pv (PV.build rfl zq12) Wanted.none rfl rfl ?_
  refine T.callV Wanted.none rfl rfl (hh) ?_
  refine T.pv (PV.not rfl) Wanted.none rfl rfl ?_
  refine T.pv (PV.assign rfl) Wanted.none rfl rfl ?_
  refine T.opsNil ?_
  exact T.retF (Lv.fin (RV.tmp rfl rfl) rfl)
theorem indexFunc_fn (l : List Fl) (v : Value) (H : Hp) (hv : FlL H v l) (hlb : l.length ≤ 1000000) (g : Fl → Bool) (gf : FuncId) [hE : Ent Try.prog gf] (cap : List Value) (hg : ∀ f ∈ l, Fn Try.prog gf (flV f :: cap).toArray H (fun u _ => u = .bool (g f))) :
    Fn Try.prog 65 #[v, .func (.func gf) #[] cap.toArray] H (fun u _ => ∃ i : Int, u = .int .i64 i ∧ (0 ≤ i ↔ l.any g = true)) := by
  obtain ⟨ad, capv, rfl⟩ := hv.len
  refine Fn.of_T (vs := [.slice ad l.length capv, .func (.func gf) #[] cap.toArray]) Try.func65 rfl rfl fun w => ?_
  refine T.seq ?_
  refine T.region ?_
  refine T.pv (PV.assign rfl) Wanted.none rfl rfl ?_
  refine T.opsNil ?_
  refine T.seq ?_
  refine T.seq ?_
  refine T.region ?_
  refine T.pv (PV.move rfl) Wanted.none rfl rfl ?_
  refine T.pv (PV.lenSl rfl) Wanted.none rfl rfl ?_
  refine T.pv (PV.move rfl) Wanted.none rfl rfl ?_
  refine T.opsNil ?_
  refine T.block ?_
  refine T.loopC [(7, Value.int IntKind.i64 (↑l.length : Int)), (0, Value.slice ad l.length capv), (1, Value.func (Fn.func gf) #[] cap.toArray)] zq8 8 l.length (fun i => (l.take i).any g = false) rfl rfl ?_
  rintro i ⟨hi0, hi1⟩
  by_cases hi : i < l.length
  · obtain ⟨b, off, f, rfl, hix, hsub⟩ := RowL.get encFl_len hv hi
    have hgf := hg f (List.mem_of_getElem? hix)
    unfold flV at hgf
    unfold encFl at hsub
    have hst : (l.take (i + 1)).any g = g f := by rw [List.take_add_one, hix, List.any_append, hi1]; simp
    refine T.seq ?_
    refine T.region ?_
    refine T.pv (PV.lss rfl rfl) Wanted.none rfl rfl ?_
    refine T.opsNil ?_
    refine T.seq ?_
    refine T.condT rfl (decide_eq_true (by omega)) ?_
    refine T.skip ?_
    refine T.seq ?_
    refine T.block ?_
    refine T.seq ?_
    refine T.region ?_
    refine T.pv (PV.move rfl) Wanted.none rfl rfl ?_
    refine T.pv (PV.assign rfl) Wanted.none rfl rfl ?_
    refine T.opsNil ?_
    refine T.seq ?_
    refine T.region ?_
    refine T.pv (PV.move rfl) Wanted.none rfl rfl ?_
    refine T.pv (PV.move rfl) Wanted.none rfl rfl ?_
    refine T.pv (PV.move rfl) Wanted.none rfl rfl ?_
    refine T.pv (PV.indexAddr rfl rfl (by omega)) Wanted.none rfl rfl ?_
    refine T.pv (PV.loadSubAll rfl (by assumption) (by exact rfl)) Wanted.none rfl rfl ?_
    refine T.callF (cap := cap) Wanted.none rfl rfl rfl (by exact hgf) ?_
    rintro _ H' hle rfl
    refine T.forget hle ?_ (Hp.le.refl _)
    cases hb : g f
    · refine T.opsNil ?_
      refine T.condF rfl rfl ?_
      refine T.skip ?_
      refine T.blkEnd ?_
      refine T.region ?_
      refine T.pv (PV.add rfl rfl (by omega)) Wanted.none rfl rfl ?_
      refine T.pv (PV.move rfl) Wanted.none rfl rfl ?_
      refine T.opsNil ?_
      exact T.nextC hi (hst.trans hb) rfl zq8 (by repeat (first | exact Sel.refl _ | exact Sel.nil | (refine Sel.cons zq1 ?_) | (refine Sel.app zq1 ?_) | exact Sel.one zq1))
    · refine T.opsNil ?_
      refine T.condT rfl rfl ?_
      refine T.seq ?_
      refine T.region ?_
      refine T.pv (PV.move rfl) Wanted.none rfl rfl ?_
      refine T.pv (PV.assign rfl) Wanted.none rfl rfl ?_
      refine T.opsNil ?_
      refine T.retF (Lv.fin (RV.tmp rfl rfl) ⟨_, rfl, ?_⟩)
      have : l.any g = true := List.any_eq_true.2 ⟨f, List.mem_of_getElem? hix, hb⟩
      rw [this]
      simp
  · rw [List.take_of_length_le (by omega)] at hi1
    refine T.seq ?_
    refine T.region ?_
    refine T.pv (PV.lss rfl rfl) Wanted.none rfl rfl ?_
    refine T.opsNil ?_
    refine T.seq ?_
    refine T.condF rfl (decide_eq_false (by omega)) ?_
    refine T.exit rfl ?_
    refine T.seq ?_
    refine T.region ?_
    refine T.pv (PV.assign rfl) Wanted.none rfl rfl ?_
    refine T.opsNil ?_
    exact T.retF (Lv.fin (RV.tmp rfl rfl) ⟨-1, rfl, by rw [hi1]; simp⟩)
theorem containsFunc_fn (l : List Fl) (v : Value) (H : Hp) (hv : FlL H v l) (hlb : l.length ≤ 1000000) (g : Fl → Bool) (gf : FuncId) [hE : Ent Try.prog gf] (cap : List Value) (hg : ∀ f ∈ l, Fn Try.prog gf (flV f :: cap).toArray H (fun u _ => u = .bool (g f))) :
    Fn Try.prog 40 #[v, .func (.func gf) #[] cap.toArray] H (fun u _ => u = .bool (l.any g)) := by
  have hix := indexFunc_fn l v H hv hlb g gf cap hg
  refine Fn.of_T (vs := [v, .func (.func gf) #[] cap.toArray]) Try.func40 rfl rfl fun w => ?_
  refine T.seq ?_
  refine T.region ?_
  refine T.pv (PV.assign rfl) Wanted.none rfl rfl ?_
  refine T.opsNil ?_
  refine T.seq ?_
  refine T.region ?_
  refine T.pv (PV.move rfl) Wanted.none rfl rfl ?_
  refine T.pv (PV.move rfl) Wanted.none rfl rfl ?_
  refine T.callX Wanted.none rfl rfl hix ?_
  rintro _ ⟨i, rfl, hi⟩
  refine T.pv (PV.geq rfl rfl) Wanted.none rfl rfl ?_
  refine T.pv (PV.assign rfl) Wanted.none rfl rfl ?_
  refine T.opsNil ?_
  refine T.retF (Lv.fin (RV.tmp rfl rfl) ?_)
  by_cases h : 0 ≤ i
  · rw [decide_eq_true h, hi.1 h]
  · rw [decide_eq_false h]
    cases ha : l.any g
    · rfl
    · exact absurd (hi.2 ha) h
structure ApG where
  i : Nat
  H : Hp
  v : Value
  lv : List (Nat × Obj)
  L : List Mt
set_option maxHeartbeats 2000000 in
theorem apply_in (c : Cp) (fs : List Fl) (l : List Mt) (vf vm : Value) (H : Hp) (hc : CpL H c) (hf : FlL H vf fs) (hm : MtL H vm l) (hfl : fs.length ≤ 1000) (hml : l.length ≤ 1000) (hls : ∀ m ∈ l, m.ls.length ≤ 1000) :
    Fn Try.prog 26 #[cpV c, vf, vm] H (fun u H' => ∃ L, MtL H' u L ∧ L.map mk3 = (l.filter (passB c fs)).map mk3) := by
  obtain ⟨af, cf, rfl⟩ := hf.len
  obtain ⟨am, cm, rfl⟩ := hm.1.len
  unfold cpV
  refine Fn.of_T (vs := [.agg #[c.va, c.vt, c.vx, c.vr, c.vn, c.vh, c.vs], .slice af fs.length cf, .slice am l.length cm]) Try.func26 rfl rfl fun w => ?_
  refine T.seq ?_
  refine T.region ?_
  (refine T.box Wanted.none rfl rfl zq15 ?_; intro b3)
  refine T.pv (PV.assign rfl) Wanted.none rfl rfl ?_
  refine T.opsNil ?_
  refine T.freezeB (b := b3) zq1 ?_
  intro H1 hle1 hb3
  refine T.seq ?_
  refine T.region ?_
  refine T.pv (PV.assign rfl) Wanted.none rfl rfl ?_
  refine T.opsNil ?_
  refine T.seq ?_
  refine T.seq ?_
  refine T.region ?_
  refine T.pv (PV.move rfl) Wanted.none rfl rfl ?_
  refine T.pv (PV.lenSl rfl) Wanted.none rfl rfl ?_
  refine T.pv (PV.move rfl) Wanted.none rfl rfl ?_
  refine T.opsNil ?_
  refine T.block ?_
  refine T.loopK [(11, Value.int IntKind.i64 (↑l.length : Int)), (10, Value.slice am l.length cm), (3, Value.pointer (some { block := b3, off := 0 })), (1, Value.slice af fs.length cf)] zq8 (γ := ApG) (fun g => g.i ≤ l.length ∧ H1.le g.H ∧ RowV 77 encM 3 g.v g.lv g.L ∧ (∀ m ∈ g.L, LabOk g.H m) ∧ g.L.map mk3 = ((l.take g.i).filter (passB c fs)).map mk3) (fun g => [(12, .int .i64 (g.i : Int)), (7, g.v)]) (fun g => g.lv) (fun g => g.H) (fun g => l.length - g.i) ⟨0, H1, .slice none 0 0, [], []⟩ ⟨by simp, Hp.le.refl _, Vec.nil _ _, by simp, by simp⟩ zq8 (by repeat (first | exact Sel.refl _ | exact Sel.nil | (refine Sel.cons zq1 ?_) | (refine Sel.app zq1 ?_) | exact Sel.one zq1)) rfl ?_
  rintro ⟨i, H2, v, lv, L⟩ ⟨g1, g2, g3, g4, g5⟩
  dsimp only at g1 g2 g3 g4 g5 ⊢
  obtain ⟨adv, capv, rfl⟩ := g3.val
  have hLl : L.length ≤ l.length := by
    have := congrArg List.length g5
    rw [List.length_map, List.length_map] at this
    rw [this]
    exact Nat.le_trans (List.length_filter_le _ _) (by rw [List.length_take]; omega)
  have hle := hle1.trans g2
  by_cases hi : i < l.length
  · obtain ⟨bx, off, m, rfl, hix, hsub⟩ := RowL.get encM_len (hm.1.mono hle) hi
    have hmm := List.mem_of_getElem? hix
    have hlab := (hm.2 m hmm).mono hle
    obtain ⟨al, cl, hmv⟩ := hlab.1.len
    unfold encM at hsub
    rw [hmv] at hsub
    have hst : ((l.take (i + 1)).filter (passB c fs)).map mk3 = ((l.take i).filter (passB c fs)).map mk3 ++ (if passB c fs m then [mk3 m] else []) := by
      rw [List.take_add_one, hix, List.filter_append, List.map_append]
      congr 1
      simp only [Option.toList_some, List.filter_cons, List.filter_nil]
      split <;> rfl
    refine T.seq ?_
    refine T.region ?_
    refine T.pv (PV.lss rfl rfl) Wanted.none rfl rfl ?_
    refine T.opsNil ?_
    refine T.seq ?_
    refine T.condT rfl (decide_eq_true (by omega)) ?_
    refine T.skip ?_
    refine T.seq ?_
    refine T.block ?_
    refine T.seq ?_
    refine T.region ?_
    refine T.pv (PV.indexAddr rfl rfl (by omega)) Wanted.none rfl rfl ?_
    refine T.pv (PV.loadSubAll rfl (by assumption) (by exact rfl)) Wanted.none rfl rfl ?_
    (refine T.alloc Wanted.none rfl ?_; intro b9)
    refine T.storeA Wanted.none rfl rfl zq8 (by exact rfl) zq14 zq13 ?_
    refine T.opsNil ?_
    refine T.freezeB (b := b9) zq1 ?_
    intro H3 hle3 hb9
    have hca := containsFunc_fn fs (.slice af fs.length cf) H3 (hf.mono (hle.trans hle3)) (by omega) (fun f => !holdsB c f (m.b, m.e)) 41 [.pointer (some ⟨b3, 0, none⟩), .pointer (some ⟨b9, 0, none⟩)]
      (fun f hf => apply1_fn c f m b3 b9 H3 (hc.mono (hle.trans hle3)) (hlab.mono hle3) ((g2.trans hle3) _ _ hb3) (by unfold encM; rw [hmv]; exact hb9))
    have hpa : passB c fs m = !(fs.any fun f => !holdsB c f (m.b, m.e)) := by
      unfold passB
      rw [List.all_eq_not_any_not]
    refine T.seq ?_
    refine T.region ?_
    refine T.pv (PV.move rfl) Wanted.none rfl rfl ?_
    refine T.pv (PV.makeFunc rfl) Wanted.none rfl rfl ?_
    refine T.callV Wanted.none rfl rfl (hca) ?_
    refine T.pv (PV.not rfl) Wanted.none rfl rfl ?_
    refine T.opsNil ?_
    cases hp : fs.any fun f => !holdsB c f (m.b, m.e)
    · rw [hp] at hpa
      rw [hpa] at hst
      have hcl := clone_fn m.ls m.v H3 (hlab.1.mono hle3) (by have := hls m hmm; omega)
      rw [hmv] at hcl
      refine T.condT rfl rfl ?_
      (repeat refine T.seq ?_)
      refine T.regionS [] 11 (by kernel_rfl) ?_
      refine TS.take 0 rfl (by kernel_rfl) (by kernel_rfl) (by kernel_rfl) (by kernel_rfl) (PV.move rfl) Wanted.none rfl rfl ?_
      refine TS.take 1 rfl (by kernel_rfl) (by kernel_rfl) (by kernel_rfl) (by kernel_rfl) (PV.fieldAddr rfl) Wanted.none rfl rfl ?_
      refine TS.take 2 rfl (by kernel_rfl) (by kernel_rfl) (by kernel_rfl) (by kernel_rfl) (PV.load1 rfl zq0 rfl) Wanted.none rfl rfl ?_
      refine TS.take 3 rfl (by kernel_rfl) (by kernel_rfl) (by kernel_rfl) (by kernel_rfl) (PV.fieldAddr rfl) Wanted.none rfl rfl ?_
      refine TS.take 4 rfl (by kernel_rfl) (by kernel_rfl) (by kernel_rfl) (by kernel_rfl) (PV.load1 rfl zq0 rfl) Wanted.none rfl rfl ?_
      refine TS.take 5 rfl (by kernel_rfl) (by kernel_rfl) (by kernel_rfl) (by kernel_rfl) (PV.fieldAddr rfl) Wanted.none rfl rfl ?_
      refine TS.take 6 rfl (by kernel_rfl) (by kernel_rfl) (by kernel_rfl) (by kernel_rfl) (PV.load1 rfl zq0 rfl) Wanted.none rfl rfl ?_
      refine TS.ways [7] (by kernel_rfl) rfl zq3 ⟨⟨_, rfl, ?_⟩, trivial⟩
      (refine T.call Wanted.none rfl rfl hcl ?_; intro v27 H27 hle27 hv27; obtain ⟨ad27, cap27, rfl⟩ := hv27.len)
      refine T.opsNil ?_
      refine TS.back ?_
      refine TS.take 8 rfl (by kernel_rfl) (by kernel_rfl) (by kernel_rfl) (by kernel_rfl) (PV.build rfl zq12) Wanted.none rfl rfl ?_
      refine TS.ways [9] (by kernel_rfl) rfl zq3 ⟨⟨_, rfl, ?_⟩, trivial⟩
      (refine T.buildSlice Wanted.none rfl rfl zq11 (by exact rfl) (by exact rfl) ?_; intro b29)
      refine T.opsNil ?_
      refine TS.back ?_
      refine TS.ways [10] (by kernel_rfl) rfl zq3 ⟨⟨_, rfl, ?_⟩, trivial⟩
      (refine T.appendP (lv := lv) Wanted.none rfl rfl rfl g3 (Src.cells (m := 1) (ys := encM ⟨m.b, m.e, .slice ad27 m.ls.length cap27, m.ls⟩) (.own zq2) rfl rfl) (one_encM (H := H27) (m := ⟨m.b, m.e, .slice ad27 m.ls.length cap27, m.ls⟩) ⟨hv27, hlab.2⟩) (by omega) zq1 ?_; intro v30 lv30 hv30 _; obtain ⟨ad30, cap30, rfl⟩ := hv30.val)
      refine T.opsNil ?_
      refine TS.back ?_
      refine TS.ways [11] (by kernel_rfl) rfl zq3 ⟨⟨_, rfl, ?_⟩, trivial⟩
      refine T.pv (PV.assign rfl) Wanted.none rfl rfl ?_
      refine T.opsNil ?_
      refine TS.back ?_
      refine TS.done (by kernel_rfl) (by kernel_rfl) ?_
      refine T.blkEnd ?_
      refine T.region ?_
      refine T.pv (PV.add rfl rfl (by omega)) Wanted.none rfl rfl ?_
      refine T.pv (PV.move rfl) Wanted.none rfl rfl ?_
      refine T.opsNil ?_
      refine T.nextP ⟨i + 1, H27, _, lv30, L ++ [⟨m.b, m.e, .slice ad27 m.ls.length cap27, m.ls⟩]⟩ ⟨by dsimp only; omega, (g2.trans hle3).trans hle27, MtV.snoc hv30, fun x hx => ?_, ?_⟩ (by dsimp only; omega) zq8 (by repeat (first | exact Sel.refl _ | exact Sel.nil | (refine Sel.cons zq1 ?_) | (refine Sel.app zq1 ?_) | exact Sel.one zq1)) rfl
      · rcases List.mem_append.1 hx with h | h
        · exact (g4 x h).mono (hle3.trans hle27)
        · rw [List.mem_singleton] at h; subst h; exact ⟨hv27, hlab.2⟩
      · dsimp only
        rw [List.map_append, g5, hst]
        rfl
    · rw [hp] at hpa
      rw [hpa] at hst
      refine T.condF rfl rfl ?_
      refine T.skip ?_
      refine T.blkEnd ?_
      refine T.region ?_
      refine T.pv (PV.add rfl rfl (by omega)) Wanted.none rfl rfl ?_
      refine T.pv (PV.move rfl) Wanted.none rfl rfl ?_
      refine T.opsNil ?_
      exact T.nextP ⟨i + 1, H3, _, lv, L⟩ ⟨by dsimp only; omega, g2.trans hle3, g3, fun m hm => (g4 m hm).mono hle3, by dsimp only; rw [g5, hst]; simp⟩ (by dsimp only; omega) zq8 (by repeat (first | exact Sel.refl _ | exact Sel.nil | (refine Sel.cons zq1 ?_) | (refine Sel.app zq1 ?_) | exact Sel.one zq1)) rfl
  · rw [List.take_of_length_le (by omega)] at g5
    refine T.seq ?_
    refine T.region ?_
    refine T.pv (PV.lss rfl rfl) Wanted.none rfl rfl ?_
    refine T.opsNil ?_
    refine T.seq ?_
    refine T.condF rfl (decide_eq_false (by omega)) ?_
    refine T.exit rfl ?_
    refine T.seq ?_
    refine T.region ?_
    refine T.pv (PV.move rfl) Wanted.none rfl rfl ?_
    refine T.pv (PV.assign rfl) Wanted.none rfl rfl ?_
    refine T.opsNil ?_
    exact T.retF (Vec.freezeLv (l' := []) g3 (by rw [List.append_nil]; exact zq4) fun H' hleF hsl => Lv.fin (RV.tmp rfl rfl) ⟨L, ⟨hsl, fun m hm => (g4 m hm).mono hleF⟩, g5⟩)
structure ArG where
  j : Nat
  q : Bool
set_option maxHeartbeats 2000000 in
theorem apply_ref (c : Cp) (fs : List Fl) (l : List Mt) (vf vm : Value) (H : Hp) (hc : CpL H c) (hf : FlL H vf fs) (hm : MtL H vm l) (hfl : fs.length ≤ 1000) (hml : l.length ≤ 1000) :
    Fn Try.prog 27 #[cpV c, vf, vm] H (fun u H' => MtL H' u (l.filter (passB c fs))) := by
  obtain ⟨af, cf, rfl⟩ := hf.len
  obtain ⟨am, cm, rfl⟩ := hm.1.len
  have hho := fun f m => holds_ref c f (m : Int × Int) H hc
  unfold cpV at hho ⊢
  refine Fn.of_T (vs := [.agg #[c.va, c.vt, c.vx, c.vr, c.vn, c.vh, c.vs], .slice af fs.length cf, .slice am l.length cm]) Try.func27 rfl rfl fun w => ?_
  refine T.seq ?_
  refine T.region ?_
  (refine T.box Wanted.none rfl rfl zq15 ?_; intro b3)
  refine T.pv (PV.assign rfl) Wanted.none rfl rfl ?_
  refine T.opsNil ?_
  refine T.seq ?_
  refine T.region ?_
  refine T.pv (PV.assign rfl) Wanted.none rfl rfl ?_
  refine T.opsNil ?_
  refine T.seq ?_
  refine T.seq ?_
  refine T.region ?_
  refine T.pv (PV.move rfl) Wanted.none rfl rfl ?_
  refine T.pv (PV.lenSl rfl) Wanted.none rfl rfl ?_
  refine T.pv (PV.move rfl) Wanted.none rfl rfl ?_
  refine T.opsNil ?_
  refine T.block ?_
  refine T.loopK [(14, Value.int IntKind.i64 (↑l.length : Int)), (13, Value.slice am l.length cm), (3, Value.pointer (some { block := b3, off := 0 })), (1, Value.slice af fs.length cf)] zq8 (γ := Nat × Value × List (Nat × Obj)) (fun g => g.1 ≤ l.length ∧ RowV 77 encM 3 g.2.1 g.2.2 ((l.take g.1).filter (passB c fs))) (fun g => [(15, .int .i64 (g.1 : Int)), (7, g.2.1)]) (fun g => g.2.2 ++ [(b3, .cells #[c.va, c.vt, c.vx, c.vr, c.vn, c.vh, c.vs] 33 (0, 0))]) (fun _ => H) (fun g => l.length - g.1) (0, .slice none 0 0, []) ⟨by simp, Vec.nil _ _⟩ zq8 (by repeat (first | exact Sel.refl _ | exact Sel.nil | (refine Sel.cons zq1 ?_) | (refine Sel.app zq1 ?_) | exact Sel.one zq1)) rfl ?_
  rintro ⟨i, v, lv⟩ ⟨g1, g3⟩
  dsimp only at g1 g3 ⊢
  obtain ⟨adv, capv, rfl⟩ := g3.val
  have hLl : ((l.take i).filter (passB c fs)).length ≤ l.length := Nat.le_trans (List.length_filter_le _ _) (by rw [List.length_take]; omega)
  by_cases hi : i < l.length
  · obtain ⟨bx, off, m, rfl, hix, hsub⟩ := RowL.get encM_len hm.1 hi
    have hmm := List.mem_of_getElem? hix
    have hlab := hm.2 m hmm
    obtain ⟨al, cl, hmv⟩ := hlab.1.len
    unfold encM at hsub
    rw [hmv] at hsub
    have hst : (l.take (i + 1)).filter (passB c fs) = (l.take i).filter (passB c fs) ++ (if passB c fs m then [m] else []) := by
      rw [List.take_add_one, hix, List.filter_append]
      congr 1
      simp only [Option.toList_some, List.filter_cons, List.filter_nil]
    refine T.seq ?_
    refine T.region ?_
    refine T.pv (PV.lss rfl rfl) Wanted.none rfl rfl ?_
    refine T.opsNil ?_
    refine T.seq ?_
    refine T.condT rfl (decide_eq_true (by omega)) ?_
    refine T.skip ?_
    refine T.seq ?_
    refine T.block ?_
    refine T.seq ?_
    refine T.region ?_
    refine T.pv (PV.indexAddr rfl rfl (by omega)) Wanted.none rfl rfl ?_
    refine T.pv (PV.loadSubAll rfl (by assumption) (by exact rfl)) Wanted.none rfl rfl ?_
    (refine T.alloc Wanted.none rfl ?_; intro b9)
    refine T.storeA Wanted.none rfl rfl zq8 (by exact rfl) zq14 zq13 ?_
    refine T.opsNil ?_
    refine T.seq ?_
    refine T.region ?_
    refine T.pv (PV.assign rfl) Wanted.none rfl rfl ?_
    refine T.opsNil ?_
    refine T.seq ?_
    refine T.seq ?_
    refine T.region ?_
    refine T.pv (PV.move rfl) Wanted.none rfl rfl ?_
    refine T.pv (PV.lenSl rfl) Wanted.none rfl rfl ?_
    refine T.pv (PV.move rfl) Wanted.none rfl rfl ?_
    refine T.opsNil ?_
    refine T.block ?_
    refine T.loopK [(20, Value.int IntKind.i64 (↑fs.length : Int)), (19, Value.slice af fs.length cf), (9, Value.pointer (some { block := b9, off := 0 })), (15, Value.int IntKind.i64 (↑i : Int)), (7, Value.slice adv (List.filter (passB c fs) (List.take i l)).length capv), (14, Value.int IntKind.i64 (↑l.length : Int)), (13, Value.slice (some { block := bx, off := off }) l.length cm), (3, Value.pointer (some { block := b3, off := 0 })), (1, Value.slice af fs.length cf)] zq8 (γ := ArG) (fun g => g.j ≤ fs.length ∧ g.q = (fs.take g.j).all fun f => holdsB c f (m.b, m.e)) (fun g => [(21, .int .i64 (g.j : Int)), (10, .bool g.q)]) (fun _ => _) (fun _ => H) (fun g => fs.length - g.j) ⟨0, true⟩ ⟨by simp, rfl⟩ zq8 (Sel.refl _) rfl ?_
    rintro ⟨j, q⟩ ⟨j1, j2⟩
    dsimp only at j1 j2 ⊢
    by_cases hj : j < fs.length
    · obtain ⟨bf, offf, f, rfl, hjf, hsubf⟩ := RowL.get encFl_len hf hj
      unfold encFl at hsubf
      have hst2 : (fs.take (j + 1)).all (fun f => holdsB c f (m.b, m.e)) = (q && holdsB c f (m.b, m.e)) := by
        rw [List.take_add_one, hjf, List.all_append, ← j2]; simp
      have hcall := hho f (m.b, m.e)
      unfold flV spV at hcall
      dsimp only at hcall
      cases q
      · rw [Bool.false_and] at hst2
        refine T.seq ?_
        refine T.region ?_
        refine T.pv (PV.lss rfl rfl) Wanted.none rfl rfl ?_
        refine T.opsNil ?_
        refine T.seq ?_
        refine T.condT rfl (decide_eq_true (by omega)) ?_
        refine T.skip ?_
        refine T.seq ?_
        refine T.block ?_
        refine T.seq ?_
        refine T.region ?_
        refine T.pv (PV.indexAddr rfl rfl (by omega)) Wanted.none rfl rfl ?_
        refine T.pv (PV.loadSubAll rfl (by assumption) (by exact rfl)) Wanted.none rfl rfl ?_
        (refine T.alloc Wanted.none rfl ?_; intro b12)
        refine T.storeA Wanted.none rfl rfl zq8 (by exact rfl) zq14 zq13 ?_
        refine T.opsNil ?_
        refine T.region ?_
        refine T.pv (PV.move rfl) Wanted.none rfl rfl ?_
        refine T.pv (PV.move rfl) Wanted.none rfl rfl ?_
        refine T.pass (Unwanted.guard rfl rfl rfl) rfl rfl ?_
        refine T.pass (Unwanted.guard rfl rfl rfl) rfl rfl ?_
        refine T.pass (Unwanted.guard rfl rfl rfl) rfl rfl ?_
        refine T.pass (Unwanted.guard rfl rfl rfl) rfl rfl ?_
        refine T.pass (Unwanted.guard rfl rfl rfl) rfl rfl ?_
        refine T.pass (Unwanted.guard rfl rfl rfl) rfl rfl ?_
        refine T.pass (Unwanted.guard rfl rfl rfl) rfl rfl ?_
        refine T.pass (Unwanted.guard rfl rfl rfl) rfl rfl ?_
        refine T.pv (PV.pickF rfl rfl rfl) Wanted.none rfl rfl ?_
        refine T.pv (PV.assign rfl) Wanted.none rfl rfl ?_
        refine T.opsNil ?_
        refine T.blkEnd ?_
        refine T.region ?_
        refine T.pv (PV.add rfl rfl (by omega)) Wanted.none rfl rfl ?_
        refine T.pv (PV.move rfl) Wanted.none rfl rfl ?_
        refine T.opsNil ?_
        exact T.nextP ⟨j + 1, false⟩ ⟨by dsimp only; omega, hst2.symm⟩ (by dsimp only; omega) zq8 (by repeat (first | exact Sel.refl _ | exact Sel.nil | (refine Sel.cons zq1 ?_) | (refine Sel.app zq1 ?_) | exact Sel.one zq1)) rfl
      · rw [Bool.true_and] at hst2
        refine T.seq ?_
        refine T.region ?_
        refine T.pv (PV.lss rfl rfl) Wanted.none rfl rfl ?_
        refine T.opsNil ?_
        refine T.seq ?_
        refine T.condT rfl (decide_eq_true (by omega)) ?_
        refine T.skip ?_
        refine T.seq ?_
        refine T.block ?_
        refine T.seq ?_
        refine T.region ?_
        refine T.pv (PV.indexAddr rfl rfl (by omega)) Wanted.none rfl rfl ?_
        refine T.pv (PV.loadSubAll rfl (by assumption) (by exact rfl)) Wanted.none rfl rfl ?_
        (refine T.alloc Wanted.none rfl ?_; intro b12)
        refine T.storeA Wanted.none rfl rfl zq8 (by exact rfl) zq14 zq13 ?_
        refine T.opsNil ?_
        refine T.region ?_
        refine T.pv (PV.move rfl) Wanted.none rfl rfl ?_
        refine T.pv (PV.move rfl) Wanted.none rfl rfl ?_
        refine T.pv (PV.loadAll rfl zq0 (by exact rfl)) (Wanted.guard rfl rfl rfl) rfl rfl ?_
        refine T.pv (PV.loadAll rfl zq0 (by exact rfl)) (Wanted.guard rfl rfl rfl) rfl rfl ?_
        refine T.pv (PV.fieldAddr rfl) (Wanted.guard rfl rfl rfl) rfl rfl ?_
        refine T.pv (PV.load1 rfl zq0 rfl) (Wanted.guard rfl rfl rfl) rfl rfl ?_
        refine T.pv (PV.fieldAddr rfl) (Wanted.guard rfl rfl rfl) rfl rfl ?_
        refine T.pv (PV.load1 rfl zq0 rfl) (Wanted.guard rfl rfl rfl) rfl rfl ?_
        refine T.pv (PV.build rfl zq12) (Wanted.guard rfl rfl rfl) rfl rfl ?_
        refine T.callV (Wanted.guard rfl rfl rfl) rfl rfl (hcall) ?_
        refine T.pv (PV.pickT rfl rfl rfl) Wanted.none rfl rfl ?_
        refine T.pv (PV.assign rfl) Wanted.none rfl rfl ?_
        refine T.opsNil ?_
        refine T.blkEnd ?_
        refine T.region ?_
        refine T.pv (PV.add rfl rfl (by omega)) Wanted.none rfl rfl ?_
        refine T.pv (PV.move rfl) Wanted.none rfl rfl ?_
        refine T.opsNil ?_
        exact T.nextP ⟨j + 1, _⟩ ⟨by dsimp only; omega, hst2.symm⟩ (by dsimp only; omega) zq8 (by repeat (first | exact Sel.refl _ | exact Sel.nil | (refine Sel.cons zq1 ?_) | (refine Sel.app zq1 ?_) | exact Sel.one zq1)) rfl
    · rw [List.take_of_length_le (by omega)] at j2
      have j2 : q = passB c fs m := j2
      rw [← j2] at hst
      cases q
      · refine T.seq ?_
        refine T.region ?_
        refine T.pv (PV.lss rfl rfl) Wanted.none rfl rfl ?_
        refine T.opsNil ?_
        refine T.seq ?_
        refine T.condF rfl (decide_eq_false (by omega)) ?_
        refine T.exit rfl ?_
        refine T.seq ?_
        refine T.region ?_
        refine T.pv (PV.move rfl) Wanted.none rfl rfl ?_
        refine T.opsNil ?_
        refine T.condF rfl rfl ?_
        refine T.skip ?_
        refine T.blkEnd ?_
        refine T.region ?_
        refine T.pv (PV.add rfl rfl (by omega)) Wanted.none rfl rfl ?_
        refine T.pv (PV.move rfl) Wanted.none rfl rfl ?_
        refine T.opsNil ?_
        refine T.nextP (i + 1, _, lv) ⟨by dsimp only; omega, ?_⟩ (by dsimp only; omega) zq8 (by repeat (first | exact Sel.refl _ | exact Sel.nil | (refine Sel.cons zq1 ?_) | (refine Sel.app zq1 ?_) | exact Sel.one zq1)) rfl
        dsimp only
        rw [hst]
        simpa using g3
      · refine T.seq ?_
        refine T.region ?_
        refine T.pv (PV.lss rfl rfl) Wanted.none rfl rfl ?_
        refine T.opsNil ?_
        refine T.seq ?_
        refine T.condF rfl (decide_eq_false (by omega)) ?_
        refine T.exit rfl ?_
        refine T.seq ?_
        refine T.region ?_
        refine T.pv (PV.move rfl) Wanted.none rfl rfl ?_
        refine T.opsNil ?_
        refine T.condT rfl rfl ?_
        refine T.region ?_
        refine T.pv (PV.move rfl) Wanted.none rfl rfl ?_
        refine T.pv (PV.loadAll rfl zq0 (by exact rfl)) Wanted.none rfl rfl ?_
        (refine T.buildSlice Wanted.none rfl rfl zq11 (by exact rfl) (by exact rfl) ?_; intro b40)
        (refine T.appendP (lv := lv) Wanted.none rfl rfl rfl g3 (Src.cells (m := 1) (ys := encM m) (.own zq2) (by unfold encM; rw [hmv]; rfl) rfl) (one_encM hlab) (by omega) zq1 ?_; intro v41 lv41 hv41 _; obtain ⟨ad41, cap41, rfl⟩ := hv41.val)
        refine T.pv (PV.assign rfl) Wanted.none rfl rfl ?_
        refine T.opsNil ?_
        refine T.blkEnd ?_
        refine T.region ?_
        refine T.pv (PV.add rfl rfl (by omega)) Wanted.none rfl rfl ?_
        refine T.pv (PV.move rfl) Wanted.none rfl rfl ?_
        refine T.opsNil ?_
        refine T.nextP (i + 1, _, lv41) ⟨by dsimp only; omega, ?_⟩ (by dsimp only; omega) zq8 (by repeat (first | exact Sel.refl _ | exact Sel.nil | (refine Sel.cons zq1 ?_) | (refine Sel.app zq1 ?_) | exact Sel.one zq1)) rfl
        dsimp only
        rw [hst]
        exact MtV.snoc hv41
  · rw [List.take_of_length_le (by omega)] at g3 ⊢
    refine T.seq ?_
    refine T.region ?_
    refine T.pv (PV.lss rfl rfl) Wanted.none rfl rfl ?_
    refine T.opsNil ?_
    refine T.seq ?_
    refine T.condF rfl (decide_eq_false (by omega)) ?_
    refine T.exit rfl ?_
    refine T.seq ?_
    refine T.region ?_
    refine T.pv (PV.move rfl) Wanted.none rfl rfl ?_
    refine T.pv (PV.assign rfl) Wanted.none rfl rfl ?_
    refine T.opsNil ?_
    exact T.retF (Vec.freezeLv (l' := [_]) g3 zq4 fun H' hleF hsl => Lv.fin (RV.tmp rfl rfl) ⟨hsl, fun m hm' => (hm.2 m (List.mem_filter.1 hm').1).mono hleF⟩)
end Go.Proofs.Ytchgfjclchhgmaa
namespace Go.Proofs.Ytchgfjclchhgmaa
open Go.RowKit

theorem filter_fn (bt : Nat) (t : Tp) (H : Hp) (ht : t.ok H) :
    FnW Try.prog 23 #[.pointer (some ⟨bt, 0, none⟩)] H [Tp.blk bt t] (fun u H' l' => H = H' ∧ ∃ t' f, u = flV f ∧ t'.ok H ∧ (1 ≤ f.op ∧ f.op ≤ 3 ∧ f.rg ∈ types) ∧ l' = [Tp.blk bt t']) := by
  refine FnW.of_T (vs := [.pointer (some ⟨bt, 0, none⟩)]) Try.func23 rfl rfl fun w => ?_
  refine T.seq ?_
  refine T.region ?_
  (refine T.alloc Wanted.none rfl ?_; intro b2)
  refine T.opsNil ?_
  refine T.seq ?_
  refine T.region ?_
  refine T.pv (PV.move rfl) Wanted.none rfl rfl ?_
  (refine T.callW Wanted.none rfl rfl (next_fn _ _ _ _ ?_ ?_) zq1 ?_; (focus assumption); (focus omega); rintro _ _ _ _ ⟨rfl, n4, t4, rfl, hn4, ht4, rfl⟩)
  refine T.pv (PV.add rfl rfl (by omega)) Wanted.none rfl rfl ?_
  refine T.pv (PV.move rfl) Wanted.none rfl rfl ?_
  (refine T.callW Wanted.none rfl rfl (next_fn _ _ _ _ ?_ ?_) zq1 ?_; (focus assumption); (focus omega); rintro _ _ _ _ ⟨rfl, n7, t7, rfl, hn7, ht7, rfl⟩)
  refine T.pv (PV.eql rfl rfl) Wanted.none rfl rfl ?_
  refine T.pv (PV.move rfl) Wanted.none rfl rfl ?_
  (refine T.callW Wanted.none rfl rfl (next_fn _ _ _ _ ?_ ?_) zq1 ?_; (focus assumption); (focus omega); rintro _ _ _ _ ⟨rfl, n10, t10, rfl, hn10, ht10, rfl⟩)
  (refine T.callX Wanted.none rfl rfl (type_fn _ _ ?_) ?_; (focus omega); rintro _ ⟨s11, hs11, rfl⟩)
  refine T.pv (PV.build rfl zq12) Wanted.none rfl rfl ?_
  refine T.storeA Wanted.none rfl rfl zq8 (by exact rfl) zq14 zq13 ?_
  refine T.opsNil ?_
  exact T.retW (Lv.finW [Tp.blk bt t10] zq4 (RV.cell rfl (CV.agg rfl zq0 (by exact rfl))) ⟨rfl, t10, ⟨1 + n4, decide (n7 = 2), s11⟩, rfl, ht10, ⟨by dsimp only; omega, by dsimp only; omega, hs11⟩, rfl⟩)
/-- a match within a text, with labels that are tokens of it, or none -/
def fits (l : List Rg) (labels : Nat) (m : Mt) : Prop := (∃ x ∈ l, x.b ≤ m.b ∧ m.b < m.e ∧ m.e ≤ x.e) ∧ m.ls.length = labels ∧ ∀ p ∈ m.ls, p = -1 ∨ ∃ x ∈ l, x.b ≤ p ∧ p < x.e
structure MaG where
  k : Nat
  t : Tp
  H : Hp
  v : Value
  lv : List (Nat × Obj)
  L : List Mt
structure TxG where
  b : Nat
  t : Tp
  x : Rg
  am : Option Addr
  cm : Nat
structure LaG where
  i : Nat
  t : Tp
  v : Value
  lv : List (Nat × Obj)
  l : List Int
set_option maxHeartbeats 4000000 in
theorem matches_fn (bt : Nat) (t : Tp) (c : Cp) (labels : Nat) (most : Int) (H : Hp) (ht : t.ok H) (hc : CpL H c) (hg : CpG c) (hb : CpB 3 c) (hl : labels ≤ 3) (hm : 0 ≤ most ∧ most ≤ 20) :
    FnW Try.prog 24 #[.pointer (some ⟨bt, 0, none⟩), cpV c, .int .i64 (labels : Int), .int .i64 most] H [Tp.blk bt t]
      (fun u H' l' => ∃ t' L, t'.ok H' ∧ MtL H' u L ∧ (L.length : Int) ≤ most ∧ (∀ m ∈ L, fits c.tx labels m) ∧ l' = [Tp.blk bt t']) := by
  obtain ⟨aa, ca, at1, ct, ax, cx, ar, cr, an, cn, ah, ch, as1, cs, hcv, ha, ht, hx, hr, hn, hh, hs⟩ := hc.open; rw [hcv]; have hla := hc.la; have hlt := hc.lt; have hlx := hc.lx; have hlr := hc.lr; have hln := hc.ln; have hlh := hc.lh; have hls := hc.ls
  obtain ⟨k1, k2, k3, k4, k5, k6⟩ := hb
  refine FnW.of_T (vs := [.pointer (some ⟨bt, 0, none⟩), .agg #[.slice aa c.att.length ca, .slice at1 c.tk.length ct, .slice ax c.tx.length cx, .slice ar c.rg.length cr, .slice an c.nd.length cn, .slice ah c.hd.length ch, .slice as1 c.rl.length cs], .int .i64 (labels : Int), .int .i64 most]) Try.func24 rfl rfl fun w => ?_
  have htx1 : 1 ≤ c.tx.length := by
    have h1 := hg.tx
    have h2 := hg.tk1
    cases hcx : c.tx with
    | nil => rw [hcx] at h1; have h1 : (0 : Int) = c.tk.length := h1; omega
    | cons a l => simp
  obtain ⟨bx, offx, _, rfl, _, _⟩ := RowL.get encRg_len hx.1 (i := 0) (by omega)
  refine T.seq ?_
  refine T.region ?_
  (refine T.box Wanted.none rfl rfl zq15 ?_; intro b5)
  refine T.pv (PV.assign rfl) Wanted.none rfl rfl ?_
  refine T.opsNil ?_
  refine T.seq ?_
  refine T.region ?_
  refine T.pv (PV.assign rfl) Wanted.none rfl rfl ?_
  refine T.opsNil ?_
  refine T.seq ?_
  refine T.seq ?_
  refine T.region ?_
  refine T.pv (PV.move rfl) Wanted.none rfl rfl ?_
  refine T.pv (PV.move rfl) Wanted.none rfl rfl ?_
  refine T.pv (PV.add rfl rfl (by omega)) Wanted.none rfl rfl ?_
  (refine T.callW Wanted.none rfl rfl (next_fn _ _ _ _ ?_ ?_) zq1 ?_; (focus assumption); (focus omega); rintro _ _ _ _ ⟨rfl, n18, t18, rfl, hn18, ht18, rfl⟩)
  refine T.pv (PV.assign rfl) Wanted.none rfl rfl ?_
  refine T.opsNil ?_
  refine T.block ?_
  obtain ⟨k0, hk0⟩ : ∃ k : Nat, (k : Int) = n18 := ⟨n18.toNat, by omega⟩
  rw [← hk0]
  refine T.loopK [(5, Value.pointer (some { block := b5, off := 0 })), (0, Value.pointer (some { block := bt, off := 0 })), (2, Value.int IntKind.i64 (↑labels : Int))] zq8 (γ := MaG) (fun g => H.le g.H ∧ g.t.ok g.H ∧ RowV 77 encM 3 g.v g.lv g.L ∧ (∀ m ∈ g.L, LabOk g.H m) ∧ (∀ m ∈ g.L, fits c.tx labels m) ∧ (g.L.length : Int) + g.k ≤ most) (fun g => [(10, .int .i64 (g.k : Int)), (9, g.v)]) (fun g => [Tp.blk bt g.t, (b5, .cells #[.slice aa c.att.length ca, .slice at1 c.tk.length ct, .slice (some ⟨bx, offx, none⟩) c.tx.length cx, .slice ar c.rg.length cr, .slice an c.nd.length cn, .slice ah c.hd.length ch, .slice as1 c.rl.length cs] 33 (0, 0))] ++ g.lv) (fun g => g.H) (fun g => g.k) ⟨k0, t18, H, .slice none 0 0, [], []⟩ ⟨Hp.le.refl _, ht18, Vec.nil _ _, by simp, by simp, by simp; omega⟩ zq8 (by repeat (first | exact Sel.refl _ | exact Sel.nil | (refine Sel.cons zq1 ?_) | (refine Sel.app zq1 ?_) | exact Sel.one zq1)) rfl ?_
  rintro ⟨k, t2, H2, v, lv, L⟩ ⟨g1, g2, g3, g4, g5, g6⟩
  dsimp only at g1 g2 g3 g4 g5 g6 ⊢
  obtain ⟨adv, capv, rfl⟩ := g3.val
  by_cases hk : 0 < k
  · have hpick : ∀ n : Int, 0 ≤ n ∧ n < c.tx.length → ∃ x, x ∈ c.tx ∧ ∃ am cm, SubC H2 bx (offx + n.toNat * 4) [.string x.ty, .int .i64 x.b, .int .i64 x.e, .slice am x.ks.length cm] := by
      intro n hn
      obtain ⟨_, _, x, e, hix, hsub⟩ := RowL.get encRg_len (hx.1.mono g1) (i := n.toNat) (by omega)
      injection e with e
      injection e with e1 e2
      subst e1 e2
      obtain ⟨am, cm, hmv⟩ := (hx.2 x (List.mem_of_getElem? hix)).1.len
      unfold encRg at hsub
      rw [hmv] at hsub
      exact ⟨x, List.mem_of_getElem? hix, am, cm, hsub⟩
    refine T.seq ?_
    refine T.seq ?_
    refine T.region ?_
    refine T.pv (PV.move rfl) Wanted.none rfl rfl ?_
    refine T.pv (PV.gtr rfl rfl) Wanted.none rfl rfl ?_
    refine T.opsNil ?_
    refine T.condT rfl (decide_eq_true (by omega)) ?_
    refine T.skip ?_
    refine T.seq ?_
    refine T.block ?_
    (repeat refine T.seq ?_)
    refine T.cutK [(10, Value.int IntKind.i64 (↑k : Int)), (9, Value.slice adv L.length capv), (5, Value.pointer (some { block := b5, off := 0 })), (0, Value.pointer (some { block := bt, off := 0 })), (2, Value.int IntKind.i64 (↑labels : Int))] (γ := TxG) (fun g => g.t.ok H2 ∧ g.x ∈ c.tx) (fun g => [(11, .pointer (some ⟨g.b, 0, none⟩))]) (fun g => [(g.b, .cells #[.string g.x.ty, .int .i64 g.x.b, .int .i64 g.x.e, .slice g.am g.x.ks.length g.cm] 74 (0, 0)), Tp.blk bt g.t, (b5, .cells #[.slice aa c.att.length ca, .slice at1 c.tk.length ct, .slice (some ⟨bx, offx, none⟩) c.tx.length cx, .slice ar c.rg.length cr, .slice an c.nd.length cn, .slice ah c.hd.length ch, .slice as1 c.rl.length cs] 33 (0, 0))] ++ lv) ?_ fun K => ?_
    rotate_left
    · refine T.regionS [(b5, .cells #[.slice aa c.att.length ca, .slice at1 c.tk.length ct, .slice (some ⟨bx, offx, none⟩) c.tx.length cx, .slice ar c.rg.length cr, .slice an c.nd.length cn, .slice ah c.hd.length ch, .slice as1 c.rl.length cs] 33 (0, 0))] 10 (by kernel_rfl) ?_
      refine TS.take 0 rfl (by kernel_rfl) (by kernel_rfl) (by kernel_rfl) (by kernel_rfl) (PV.fieldAddr rfl) Wanted.none rfl rfl ?_
      refine TS.take 1 rfl (by kernel_rfl) (by kernel_rfl) (by kernel_rfl) (by kernel_rfl) (PV.load1 rfl zq0 rfl) Wanted.none rfl rfl ?_
      refine TS.take 2 rfl (by kernel_rfl) (by kernel_rfl) (by kernel_rfl) (by kernel_rfl) (PV.move rfl) Wanted.none rfl rfl ?_
      refine TS.take 3 rfl (by kernel_rfl) (by kernel_rfl) (by kernel_rfl) (by kernel_rfl) (PV.fieldAddr rfl) Wanted.none rfl rfl ?_
      refine TS.take 4 rfl (by kernel_rfl) (by kernel_rfl) (by kernel_rfl) (by kernel_rfl) (PV.load1 rfl zq0 rfl) Wanted.none rfl rfl ?_
      refine TS.take 5 rfl (by kernel_rfl) (by kernel_rfl) (by kernel_rfl) (by kernel_rfl) (PV.lenSl rfl) Wanted.none rfl rfl ?_
      refine TS.ways [6, 9] (by kernel_rfl) rfl zq3 ⟨⟨_, rfl, ?_⟩, ⟨_, rfl, ?_⟩, trivial⟩
      · (refine T.callW Wanted.none rfl rfl (next_fn _ _ _ _ ?_ ?_) zq1 ?_; (focus assumption); (focus omega); rintro _ _ _ _ ⟨rfl, n29, t29, rfl, hn29, ht29, rfl⟩; obtain ⟨x29, hx29, am29, cm29, hs29⟩ := hpick n29 hn29)
        refine T.opsNil ?_
        refine TS.back ?_
        refine TS.take 7 rfl (by kernel_rfl) (by kernel_rfl) (by kernel_rfl) (by kernel_rfl) (PV.indexAddr rfl rfl (by omega)) Wanted.none rfl rfl ?_
        refine TS.take 8 rfl (by kernel_rfl) (by kernel_rfl) (by kernel_rfl) (by kernel_rfl) (PV.loadSubAll rfl (by assumption) (by exact rfl)) Wanted.none rfl rfl ?_
        refine TS.ways [9] (by kernel_rfl) rfl zq3 ⟨⟨_, rfl, ?_⟩, trivial⟩
        (refine T.alloc Wanted.none rfl ?_; intro b11)
        refine T.opsNil ?_
        refine TS.back ?_
        refine TS.ways [10] (by kernel_rfl) rfl zq3 ⟨⟨_, rfl, ?_⟩, trivial⟩
        refine T.storeA Wanted.none rfl rfl zq8 (by exact rfl) zq14 zq13 ?_
        refine T.opsNil ?_
        refine TS.back ?_
        refine TS.done (by kernel_rfl) (by kernel_rfl) ?_
        (exact K ⟨b11, t29, x29, am29, cm29⟩ _ _ ⟨ht29, hx29⟩ zq8 (by repeat (first | exact Sel.refl _ | exact Sel.nil | (refine Sel.cons zq1 ?_) | (refine Sel.app zq1 ?_) | exact Sel.one zq1)))
      · (refine T.alloc Wanted.none rfl ?_; intro b11)
        refine T.opsNil ?_
        refine TS.back ?_
        refine TS.ways [6] (by kernel_rfl) rfl zq3 ⟨⟨_, rfl, ?_⟩, trivial⟩
        (refine T.callW Wanted.none rfl rfl (next_fn _ _ _ _ ?_ ?_) zq1 ?_; (focus assumption); (focus omega); rintro _ _ _ _ ⟨rfl, n29, t29, rfl, hn29, ht29, rfl⟩; obtain ⟨x29, hx29, am29, cm29, hs29⟩ := hpick n29 hn29)
        refine T.opsNil ?_
        refine TS.back ?_
        refine TS.take 7 rfl (by kernel_rfl) (by kernel_rfl) (by kernel_rfl) (by kernel_rfl) (PV.indexAddr rfl rfl (by omega)) Wanted.none rfl rfl ?_
        refine TS.take 8 rfl (by kernel_rfl) (by kernel_rfl) (by kernel_rfl) (by kernel_rfl) (PV.loadSubAll rfl (by assumption) (by exact rfl)) Wanted.none rfl rfl ?_
        refine TS.ways [10] (by kernel_rfl) rfl zq3 ⟨⟨_, rfl, ?_⟩, trivial⟩
        refine T.storeA Wanted.none rfl rfl zq8 (by exact rfl) zq14 zq13 ?_
        refine T.opsNil ?_
        refine TS.back ?_
        refine TS.done (by kernel_rfl) (by kernel_rfl) ?_
        (exact K ⟨b11, t29, x29, am29, cm29⟩ _ _ ⟨ht29, hx29⟩ zq8 (by repeat (first | exact Sel.refl _ | exact Sel.nil | (refine Sel.cons zq1 ?_) | (refine Sel.app zq1 ?_) | exact Sel.one zq1)))
    rintro ⟨b11, t3, x, am, cm⟩ ⟨ht3, hxm⟩
    dsimp only at ht3 hxm ⊢
    have hxr := chain_mem hg.tx hxm
    clear hpick
    (repeat refine T.seq ?_)
    refine T.regionS [(b11, .cells #[.string x.ty, .int .i64 x.b, .int .i64 x.e, .slice am x.ks.length cm] 74 (0, 0))] 10 (by kernel_rfl) ?_
    refine TS.take 0 rfl (by kernel_rfl) (by kernel_rfl) (by kernel_rfl) (by kernel_rfl) (PV.fieldAddr rfl) Wanted.none rfl rfl ?_
    refine TS.take 1 rfl (by kernel_rfl) (by kernel_rfl) (by kernel_rfl) (by kernel_rfl) (PV.load1 rfl zq0 rfl) Wanted.none rfl rfl ?_
    refine TS.take 2 rfl (by kernel_rfl) (by kernel_rfl) (by kernel_rfl) (by kernel_rfl) (PV.move rfl) Wanted.none rfl rfl ?_
    refine TS.take 3 rfl (by kernel_rfl) (by kernel_rfl) (by kernel_rfl) (by kernel_rfl) (PV.fieldAddr rfl) Wanted.none rfl rfl ?_
    refine TS.take 4 rfl (by kernel_rfl) (by kernel_rfl) (by kernel_rfl) (by kernel_rfl) (PV.load1 rfl zq0 rfl) Wanted.none rfl rfl ?_
    refine TS.take 5 rfl (by kernel_rfl) (by kernel_rfl) (by kernel_rfl) (by kernel_rfl) (PV.fieldAddr rfl) Wanted.none rfl rfl ?_
    refine TS.take 6 rfl (by kernel_rfl) (by kernel_rfl) (by kernel_rfl) (by kernel_rfl) (PV.load1 rfl zq0 rfl) Wanted.none rfl rfl ?_
    refine TS.take 7 rfl (by kernel_rfl) (by kernel_rfl) (by kernel_rfl) (by kernel_rfl) (PV.sub rfl rfl (by omega)) Wanted.none rfl rfl ?_
    refine TS.ways [8] (by kernel_rfl) rfl zq3 ⟨⟨_, rfl, ?_⟩, trivial⟩
    (refine T.callW Wanted.none rfl rfl (next_fn _ _ _ _ ?_ ?_) zq1 ?_; (focus assumption); (focus omega); rintro _ _ _ _ ⟨rfl, n40, t40, rfl, hn40, ht40, rfl⟩)
    refine T.opsNil ?_
    refine TS.back ?_
    refine TS.take 9 rfl (by kernel_rfl) (by kernel_rfl) (by kernel_rfl) (by kernel_rfl) (PV.add rfl rfl (by omega)) Wanted.none rfl rfl ?_
    refine TS.ways [10] (by kernel_rfl) rfl zq3 ⟨⟨_, rfl, ?_⟩, trivial⟩
    refine T.pv (PV.assign rfl) Wanted.none rfl rfl ?_
    refine T.opsNil ?_
    refine TS.back ?_
    refine TS.done (by kernel_rfl) (by kernel_rfl) ?_
    obtain ⟨mb, hmb⟩ : ∃ z : Int, z = x.b + n40 := ⟨_, rfl⟩
    rw [← hmb]
    refine T.seq ?_
    refine T.region ?_
    refine T.pv (PV.move rfl) Wanted.none rfl rfl ?_
    refine T.pv (PV.move rfl) Wanted.none rfl rfl ?_
    refine T.pv (PV.add rfl rfl (by omega)) Wanted.none rfl rfl ?_
    refine T.pv (PV.move rfl) Wanted.none rfl rfl ?_
    refine T.pv (PV.fieldAddr rfl) Wanted.none rfl rfl ?_
    refine T.pv (PV.load1 rfl zq0 rfl) Wanted.none rfl rfl ?_
    refine T.pv (PV.move rfl) Wanted.none rfl rfl ?_
    refine T.pv (PV.sub rfl rfl (by omega)) Wanted.none rfl rfl ?_
    (refine T.callW Wanted.none rfl rfl (next_fn _ _ _ _ ?_ ?_) zq1 ?_; (focus assumption); (focus omega); rintro _ _ _ _ ⟨rfl, n50, t50, rfl, hn50, ht50, rfl⟩)
    refine T.pv (PV.add rfl rfl (by omega)) Wanted.none rfl rfl ?_
    refine T.pv (PV.build rfl zq12) Wanted.none rfl rfl ?_
    (refine T.alloc Wanted.none rfl ?_; intro b13)
    refine T.storeA Wanted.none rfl rfl zq8 (by exact rfl) zq14 zq13 ?_
    refine T.opsNil ?_
    obtain ⟨me, hme⟩ : ∃ z : Int, z = mb + 1 + n50 := ⟨_, rfl⟩
    rw [← hme]
    refine T.seq ?_
    refine T.seq ?_
    refine T.region ?_
    refine T.pv (PV.assign rfl) Wanted.none rfl rfl ?_
    refine T.opsNil ?_
    refine T.block ?_
    refine T.loopK [(13, Value.pointer (some { block := b13, off := 0 })), (11, Value.pointer (some { block := b11, off := 0 })), (10, Value.int IntKind.i64 (↑k : Int)), (9, Value.slice adv L.length capv), (5, Value.pointer (some { block := b5, off := 0 })), (0, Value.pointer (some { block := bt, off := 0 })), (2, Value.int IntKind.i64 (↑labels : Int))] zq8 (γ := LaG) (fun g => g.i ≤ labels ∧ g.t.ok H2 ∧ RowV 3 encI 1 g.v g.lv g.l ∧ g.l.length = g.i ∧ ∀ p ∈ g.l, p = -1 ∨ (x.b ≤ p ∧ p < x.e)) (fun g => [(14, .int .i64 (g.i : Int))]) (fun g => [(b13, .cells #[.int .i64 mb, .int .i64 me, g.v] 77 (0, 0)), (b11, .cells #[.string x.ty, .int .i64 x.b, .int .i64 x.e, .slice am x.ks.length cm] 74 (0, 0)), Tp.blk bt g.t, (b5, .cells #[.slice aa c.att.length ca, .slice at1 c.tk.length ct, .slice (some ⟨bx, offx, none⟩) c.tx.length cx, .slice ar c.rg.length cr, .slice an c.nd.length cn, .slice ah c.hd.length ch, .slice as1 c.rl.length cs] 33 (0, 0))] ++ (lv ++ g.lv)) (fun _ => H2) (fun g => labels - g.i) ⟨0, t50, .slice none 0 0, [], []⟩ ⟨by simp, ht50, Vec.nil _ _, rfl, by simp⟩ zq8 (by repeat (first | exact Sel.refl _ | exact Sel.nil | (refine Sel.cons zq1 ?_) | (refine Sel.app zq1 ?_) | exact Sel.one zq1)) rfl ?_
    rintro ⟨i, t4, v4, lv4, l4⟩ ⟨j1, j2, j3, j4, j5⟩
    dsimp only at j1 j2 j3 j4 j5 ⊢
    obtain ⟨ad4, cap4, rfl⟩ := j3.val
    by_cases hi : i < labels
    · refine T.seq ?_
      refine T.seq ?_
      refine T.region ?_
      refine T.pv (PV.move rfl) Wanted.none rfl rfl ?_
      refine T.pv (PV.move rfl) Wanted.none rfl rfl ?_
      refine T.pv (PV.lss rfl rfl) Wanted.none rfl rfl ?_
      refine T.opsNil ?_
      refine T.condT rfl (decide_eq_true (by omega)) ?_
      refine T.skip ?_
      refine T.seq ?_
      refine T.block ?_
      (repeat refine T.seq ?_)
      refine T.regionS [(b13, .cells #[.int .i64 mb, .int .i64 me, .slice ad4 l4.length cap4] 77 (0, 0)), (b11, .cells #[.string x.ty, .int .i64 x.b, .int .i64 x.e, .slice am x.ks.length cm] 74 (0, 0))] 17 (by kernel_rfl) ?_
      refine TS.take 0 rfl (by kernel_rfl) (by kernel_rfl) (by kernel_rfl) (by kernel_rfl) (PV.fieldAddr rfl) Wanted.none rfl rfl ?_
      refine TS.take 1 rfl (by kernel_rfl) (by kernel_rfl) (by kernel_rfl) (by kernel_rfl) (PV.load1 rfl zq0 rfl) Wanted.none rfl rfl ?_
      refine TS.take 2 rfl (by kernel_rfl) (by kernel_rfl) (by kernel_rfl) (by kernel_rfl) (PV.fieldAddr rfl) Wanted.none rfl rfl ?_
      refine TS.take 3 rfl (by kernel_rfl) (by kernel_rfl) (by kernel_rfl) (by kernel_rfl) (PV.load1 rfl zq0 rfl) Wanted.none rfl rfl ?_
      refine TS.take 4 rfl (by kernel_rfl) (by kernel_rfl) (by kernel_rfl) (by kernel_rfl) (PV.move rfl) Wanted.none rfl rfl ?_
      refine TS.take 5 rfl (by kernel_rfl) (by kernel_rfl) (by kernel_rfl) (by kernel_rfl) (PV.fieldAddr rfl) Wanted.none rfl rfl ?_
      refine TS.take 6 rfl (by kernel_rfl) (by kernel_rfl) (by kernel_rfl) (by kernel_rfl) (PV.load1 rfl zq0 rfl) Wanted.none rfl rfl ?_
      refine TS.take 7 rfl (by kernel_rfl) (by kernel_rfl) (by kernel_rfl) (by kernel_rfl) (PV.fieldAddr rfl) Wanted.none rfl rfl ?_
      refine TS.take 8 rfl (by kernel_rfl) (by kernel_rfl) (by kernel_rfl) (by kernel_rfl) (PV.load1 rfl zq0 rfl) Wanted.none rfl rfl ?_
      refine TS.take 9 rfl (by kernel_rfl) (by kernel_rfl) (by kernel_rfl) (by kernel_rfl) (PV.sub rfl rfl (by omega)) Wanted.none rfl rfl ?_
      refine TS.take 10 rfl (by kernel_rfl) (by kernel_rfl) (by kernel_rfl) (by kernel_rfl) (PV.add rfl rfl (by omega)) Wanted.none rfl rfl ?_
      refine TS.ways [11] (by kernel_rfl) rfl zq3 ⟨⟨_, rfl, ?_⟩, trivial⟩
      (refine T.callW Wanted.none rfl rfl (next_fn _ _ _ _ ?_ ?_) zq1 ?_; (focus assumption); (focus omega); rintro _ _ _ _ ⟨rfl, n69, t69, rfl, hn69, ht69, rfl⟩)
      refine T.opsNil ?_
      refine TS.back ?_
      refine TS.take 12 rfl (by kernel_rfl) (by kernel_rfl) (by kernel_rfl) (by kernel_rfl) (PV.add rfl rfl (by omega)) Wanted.none rfl rfl ?_
      refine TS.take 13 rfl (by kernel_rfl) (by kernel_rfl) (by kernel_rfl) (by kernel_rfl) (PV.sub rfl rfl (by omega)) Wanted.none rfl rfl ?_
      refine TS.ways [14] (by kernel_rfl) rfl zq3 ⟨⟨_, rfl, ?_⟩, trivial⟩
      (refine T.buildSlice Wanted.none rfl rfl zq11 (by exact rfl) (by exact rfl) ?_; intro b72)
      refine T.opsNil ?_
      refine TS.back ?_
      refine TS.ways [15] (by kernel_rfl) rfl zq3 ⟨⟨_, rfl, ?_⟩, trivial⟩
      (refine T.appendP (lv := lv4) Wanted.none rfl rfl rfl j3 (Src.cells (m := 1) (ys := encI (x.b + n69 - 1)) (.own zq2) rfl rfl) (one_encI _) (by omega) zq1 ?_; intro v73 lv73 hv73 _; obtain ⟨ad73, cap73, rfl⟩ := hv73.val)
      refine T.opsNil ?_
      refine TS.back ?_
      refine TS.take 16 rfl (by kernel_rfl) (by kernel_rfl) (by kernel_rfl) (by kernel_rfl) (PV.fieldAddr rfl) Wanted.none rfl rfl ?_
      refine TS.ways [17] (by kernel_rfl) rfl zq3 ⟨⟨_, rfl, ?_⟩, trivial⟩
      refine T.store1 Wanted.none rfl rfl rfl zq14 zq13 ?_
      refine T.opsNil ?_
      refine TS.back ?_
      refine TS.done (by kernel_rfl) (by kernel_rfl) ?_
      obtain ⟨bv, capv', hve⟩ := hv73.ptr (by omega)
      injection hve with e1 e2 e3
      subst e1 e3
      have hat : (l4.flatMap encI ++ encI (x.b + n69 - 1))[0 + ((i : Nat) : Int).toNat * 1]? = some (.int .i64 (x.b + n69 - 1)) := by
        have h1 : (l4.flatMap encI).length = i := by rw [flat_len encI_len, j4, Nat.mul_one]
        rw [List.getElem?_append_right (by omega), h1]
        simp [encI]
      have hset : (l4.flatMap encI ++ encI (x.b + n69 - 1)).set (0 + ((i : Nat) : Int).toNat * 1) (.int .i64 (-1)) = l4.flatMap encI ++ encI (-1) := by
        have h1 : (l4.flatMap encI).length = i := by rw [flat_len encI_len, j4, Nat.mul_one]
        rw [List.set_append_right _ _ (by omega), h1]
        simp [encI]
      by_cases hlow : x.b + n69 - 1 < x.b
      · refine T.seq ?_
        refine T.regionQ (by kernel_rfl) ?_
        refine TQ.pv (PV.fieldAddr rfl) Wanted.none rfl rfl ?_
        refine TQ.pv (PV.load1 rfl zq0 rfl) Wanted.none rfl rfl ?_
        refine TQ.pv (PV.move rfl) Wanted.none rfl rfl ?_
        refine TQ.pv (PV.indexAddr rfl rfl (by omega)) Wanted.none rfl rfl ?_
        refine TQ.pv (PV.loadVec rfl (by assumption) zq4 (by assumption)) Wanted.none rfl rfl ?_
        refine TQ.pv (PV.fieldAddr rfl) Wanted.none rfl rfl ?_
        refine TQ.pv (PV.load1 rfl zq0 rfl) Wanted.none rfl rfl ?_
        refine TQ.pv (PV.lss rfl rfl) Wanted.none rfl rfl ?_
        refine TQ.nil ?_
        refine T.condT rfl (decide_eq_true (by omega)) ?_
        refine T.region ?_
        refine T.pv (PV.fieldAddr rfl) Wanted.none rfl rfl ?_
        refine T.pv (PV.load1 rfl zq0 rfl) Wanted.none rfl rfl ?_
        refine T.pv (PV.move rfl) Wanted.none rfl rfl ?_
        refine T.pv (PV.indexAddr rfl rfl (by omega)) Wanted.none rfl rfl ?_
        (refine T.storeVecP (lv := lv73) Wanted.none rfl rfl rfl hv73 (by rw [List.length_append, flat_len encI_len, encI_len]; omega) zq1 ?_; intro lvh hvh)
        refine T.opsNil ?_
        refine T.blkEnd ?_
        refine T.region ?_
        refine T.pv (PV.move rfl) Wanted.none rfl rfl ?_
        refine T.pv (PV.add rfl rfl (by omega)) Wanted.none rfl rfl ?_
        refine T.pv (PV.assign rfl) Wanted.none rfl rfl ?_
        refine T.opsNil ?_
        rw [hset] at hvh
        refine T.nextP ⟨i + 1, t69, _, lvh, l4 ++ [-1]⟩ ⟨by dsimp only; omega, ht69, RowV.snoc hvh, by dsimp only; rw [List.length_append, j4]; rfl, fun p hp => ?_⟩ (by dsimp only; omega) zq8 (by repeat (first | exact Sel.refl _ | exact Sel.nil | (refine Sel.cons zq1 ?_) | (refine Sel.app zq1 ?_) | exact Sel.one zq1)) rfl
        rcases List.mem_append.1 hp with h | h
        · exact j5 p h
        · rw [List.mem_singleton] at h; exact .inl h
      · refine T.seq ?_
        refine T.regionQ (by kernel_rfl) ?_
        refine TQ.pv (PV.fieldAddr rfl) Wanted.none rfl rfl ?_
        refine TQ.pv (PV.load1 rfl zq0 rfl) Wanted.none rfl rfl ?_
        refine TQ.pv (PV.move rfl) Wanted.none rfl rfl ?_
        refine TQ.pv (PV.indexAddr rfl rfl (by omega)) Wanted.none rfl rfl ?_
        refine TQ.pv (PV.loadVec rfl (by assumption) zq4 (by assumption)) Wanted.none rfl rfl ?_
        refine TQ.pv (PV.fieldAddr rfl) Wanted.none rfl rfl ?_
        refine TQ.pv (PV.load1 rfl zq0 rfl) Wanted.none rfl rfl ?_
        refine TQ.pv (PV.lss rfl rfl) Wanted.none rfl rfl ?_
        refine TQ.nil ?_
        refine T.condF rfl (decide_eq_false (by omega)) ?_
        refine T.skip ?_
        refine T.blkEnd ?_
        refine T.region ?_
        refine T.pv (PV.move rfl) Wanted.none rfl rfl ?_
        refine T.pv (PV.add rfl rfl (by omega)) Wanted.none rfl rfl ?_
        refine T.pv (PV.assign rfl) Wanted.none rfl rfl ?_
        refine T.opsNil ?_
        refine T.nextP ⟨i + 1, t69, _, lv73, l4 ++ [x.b + n69 - 1]⟩ ⟨by dsimp only; omega, ht69, RowV.snoc hv73, by dsimp only; rw [List.length_append, j4]; rfl, fun p hp => ?_⟩ (by dsimp only; omega) zq8 (by repeat (first | exact Sel.refl _ | exact Sel.nil | (refine Sel.cons zq1 ?_) | (refine Sel.app zq1 ?_) | exact Sel.one zq1)) rfl
        rcases List.mem_append.1 hp with h | h
        · exact j5 p h
        · rw [List.mem_singleton] at h; right; omega
    · have hil : i = labels := by omega
      refine T.freezeP (lv := lv4) j3 zq1 ?_
      intro H3 hle3 hls
      have hlab : LabOk H3 ⟨mb, me, .slice ad4 l4.length cap4, l4⟩ := ⟨hls, by dsimp only; omega⟩
      refine T.seq ?_
      refine T.seq ?_
      refine T.region ?_
      refine T.pv (PV.move rfl) Wanted.none rfl rfl ?_
      refine T.pv (PV.move rfl) Wanted.none rfl rfl ?_
      refine T.pv (PV.lss rfl rfl) Wanted.none rfl rfl ?_
      refine T.opsNil ?_
      refine T.condF rfl (decide_eq_false (by omega)) ?_
      refine T.exit rfl ?_
      refine T.region ?_
      refine T.pv (PV.move rfl) Wanted.none rfl rfl ?_
      refine T.pv (PV.loadAll rfl zq0 (by exact rfl)) Wanted.none rfl rfl ?_
      (refine T.buildSlice Wanted.none rfl rfl zq11 (by exact rfl) (by exact rfl) ?_; intro b89)
      (refine T.appendP (lv := lv) Wanted.none rfl rfl rfl g3 (Src.cells (m := 1) (ys := encM ⟨mb, me, .slice ad4 l4.length cap4, l4⟩) (.own zq2) rfl rfl) (one_encM hlab) (by omega) zq1 ?_; intro v90 lv90 hv90 _; obtain ⟨ad90, cap90, rfl⟩ := hv90.val)
      refine T.pv (PV.assign rfl) Wanted.none rfl rfl ?_
      refine T.opsNil ?_
      refine T.blkEnd ?_
      refine T.region ?_
      refine T.pv (PV.move rfl) Wanted.none rfl rfl ?_
      refine T.pv (PV.sub rfl rfl (by omega)) Wanted.none rfl rfl ?_
      refine T.pv (PV.assign rfl) Wanted.none rfl rfl ?_
      refine T.opsNil ?_
      rw [show (k : Int) - 1 = ((k - 1 : Nat) : Int) by omega]
      refine T.nextP ⟨k - 1, t4, H3, _, lv90, L ++ [⟨mb, me, .slice ad4 l4.length cap4, l4⟩]⟩ ⟨g1.trans hle3, j2.mono hle3, MtV.snoc hv90, fun m hm => ?_, fun m hm => ?_, by dsimp only; rw [List.length_append, List.length_singleton]; omega⟩ (by dsimp only; omega) zq8 (by repeat (first | exact Sel.refl _ | exact Sel.nil | (refine Sel.cons zq1 ?_) | (refine Sel.app zq1 ?_) | exact Sel.one zq1)) rfl
      · rcases List.mem_append.1 hm with h | h
        · exact (g4 m h).mono hle3
        · rw [List.mem_singleton] at h; subst h; exact hlab
      · rcases List.mem_append.1 hm with h | h
        · exact g5 m h
        · rw [List.mem_singleton] at h; subst h
          refine ⟨⟨x, hxm, by dsimp only; omega, by dsimp only; omega, by dsimp only; omega⟩, by dsimp only; omega, fun p hp => ?_⟩
          rcases j5 p hp with h | h
          · exact .inl h
          · exact .inr ⟨x, hxm, h.1, h.2⟩
  · refine T.seq ?_
    refine T.seq ?_
    refine T.region ?_
    refine T.pv (PV.move rfl) Wanted.none rfl rfl ?_
    refine T.pv (PV.gtr rfl rfl) Wanted.none rfl rfl ?_
    refine T.opsNil ?_
    refine T.condF rfl (decide_eq_false (by omega)) ?_
    refine T.exit rfl ?_
    refine T.seq ?_
    refine T.region ?_
    refine T.pv (PV.move rfl) Wanted.none rfl rfl ?_
    refine T.pv (PV.assign rfl) Wanted.none rfl rfl ?_
    refine T.opsNil ?_
    refine T.freezeP (lv := lv) g3 zq1 ?_
    intro H3 hle3 hs3
    exact T.retW (Lv.finW [Tp.blk bt t2] zq4 (RV.tmp rfl rfl) ⟨t2, L, g2.mono hle3, ⟨hs3, fun m hm => (g4 m hm).mono hle3⟩, by omega, g5, rfl⟩)
end Go.Proofs.Ytchgfjclchhgmaa
