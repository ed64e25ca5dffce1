/- global: the constraint that always holds keeps all; queries: what is left of the matches. -/
import Derived.Test.YtbcadnjfegiakaaGreatDoorGX
namespace Go.Proofs.YtbcadnjfegiakaaGreatDoor
open Go.RowKit


theorem containsGb_fn (gfn : FuncId) (cap : List Value) (H : Hp) : Fn Tryz.prog 160 #[.slice none 0 0, .func (.func gfn) #[] cap.toArray] H (fun u _ => u = .bool false) := by
  have hix : Fn Tryz.prog 228 #[.slice none 0 0, .func (.func gfn) #[] cap.toArray] H (fun u _ => u = .int .i64 (-1)) := by
    refine Fn.of_T (vs := [.slice none 0 0, .func (.func gfn) #[] cap.toArray]) Tryz.func228 rfl rfl fun w => ?_; refine zs3 ?_; refine yq11 ?_; refine yq30 ?_; refine yq35 ?_; refine T.loopR [(7, Value.int IntKind.i64 (↑0 : Int)), (0, Value.slice none 0 0), (1, Value.func (Fn.func gfn) #[] cap.toArray)] zq8 8 0 rfl ?_
    intro i hi
    obtain rfl : i = 0 := by omega
    refine yq16 ?_; refine yq22 ?_; refine zs3 ?_; refine yq0 ?_
    exact T.retF (Lv.fin (RV.tmp rfl rfl) rfl)
  refine Fn.of_T (vs := [.slice none 0 0, .func (.func gfn) #[] cap.toArray]) Tryz.func160 rfl rfl fun w => ?_; refine zs3 ?_; refine yq28 ?_; refine sm ?_; refine T.callV Wanted.none rfl rfl (hix) ?_; refine sv (PV.geq rfl rfl) ?_; refine yq0 ?_
  exact T.retF (Lv.fin (RV.tmp rfl rfl) rfl)
theorem containsI0_fn (ad : Option Addr) (c : Nat) (gfn : FuncId) (cap : List Value) (H : Hp) : Fn Tryz.prog 162 #[.slice ad 0 c, .func (.func gfn) #[] cap.toArray] H (fun u _ => u = .bool false) := by
  have hix : Fn Tryz.prog 229 #[.slice ad 0 c, .func (.func gfn) #[] cap.toArray] H (fun u _ => u = .int .i64 (-1)) := by
    refine Fn.of_T (vs := [.slice ad 0 c, .func (.func gfn) #[] cap.toArray]) Tryz.func229 rfl rfl fun w => ?_; refine zs3 ?_; refine yq11 ?_; refine yq30 ?_; refine yq35 ?_; refine T.loopR [(7, Value.int IntKind.i64 (↑0 : Int)), (0, Value.slice ad 0 c), (1, Value.func (Fn.func gfn) #[] cap.toArray)] zq8 8 0 rfl ?_
    intro i hi
    obtain rfl : i = 0 := by omega
    refine yq16 ?_; refine yq22 ?_; refine zs3 ?_; refine yq0 ?_
    exact T.retF (Lv.fin (RV.tmp rfl rfl) rfl)
  refine Fn.of_T (vs := [.slice ad 0 c, .func (.func gfn) #[] cap.toArray]) Tryz.func162 rfl rfl fun w => ?_; refine zs3 ?_; refine yq28 ?_; refine sm ?_; refine T.callV Wanted.none rfl rfl (hix) ?_; refine sv (PV.geq rfl rfl) ?_; refine yq0 ?_
  exact T.retF (Lv.fin (RV.tmp rfl rfl) rfl)
theorem gKnown_fn (c : Cp) (H : Hp) : Fn Tryz.prog 80 #[cpV c, gbV] H (fun u _ => u = .bool true) := by
  unfold cpV
  refine Fn.of_T (vs := [_, gbV]) Tryz.func80 rfl rfl fun w => ?_; refine zs3 ?_; (refine T.box Wanted.none rfl rfl zq15 ?_; intro b2); (refine T.box Wanted.none rfl rfl zq15 ?_; intro b3); refine yq11 ?_; refine zs3 ?_; refine yq6 ?_; refine so ?_; refine T.block ?_; refine zs3 ?_; refine yq32 ?_; refine T.condF rfl rfl ?_; refine zs3 ?_; refine yq32 ?_; refine yq7 ?_; refine T.blkEnd ?_; refine zs3 ?_; refine yq6 ?_; refine sv (PV.makeFunc rfl) ?_; refine T.callX Wanted.none rfl rfl (containsGb_fn 161 [_] _) ?_
  rintro _ rfl
  refine sv (PV.not rfl) ?_; refine yq0 ?_
  exact T.retF (Lv.fin (RV.tmp rfl rfl) rfl)
theorem gFits_fn (c : Cp) (b e : Int) (ad : Option Addr) (cap : Nat) (H : Hp) : Fn Tryz.prog 81 #[cpV c, .slice none 0 0, .agg #[.int .i64 b, .int .i64 e, .slice ad 0 cap]] H (fun u _ => u = .bool true) := by
  unfold cpV
  refine Fn.of_T (vs := [_, .slice none 0 0, .agg #[.int .i64 b, .int .i64 e, .slice ad 0 cap]]) Tryz.func81 rfl rfl fun w => ?_; refine zs3 ?_; (refine T.box Wanted.none rfl rfl zq15 ?_; intro b3); (refine T.box Wanted.none rfl rfl zq15 ?_; intro b5); refine yq14 ?_; refine yq12 ?_; refine sm ?_; refine sv (PV.lenSl rfl) ?_; refine sv (PV.eql rfl rfl) ?_; refine sm ?_; refine yq26 ?_; refine gv (PV.makeFunc rfl) ?_; refine T.setT (d := 13) rfl (by omega) ?_; refine T.callX (Wanted.guard rfl rfl rfl) rfl rfl (containsI0_fn ad cap 163 [_] _) ?_
  rintro _ rfl
  refine gv (PV.not rfl) ?_; refine sT ?_; refine yq0 ?_
  exact T.retF (Lv.fin (RV.tmp rfl rfl) rfl)
theorem gHolds_fn (c : Cp) (b e : Int) (ad : Option Addr) (cap : Nat) (H : Hp) : Fn Tryz.prog 82 #[cpV c, gbV, .slice none 0 0, .agg #[.int .i64 b, .int .i64 e, .slice ad 0 cap]] H (fun u _ => u = .bool true) := by
  unfold cpV
  refine Fn.of_T (vs := [_, gbV, .slice none 0 0, .agg #[.int .i64 b, .int .i64 e, .slice ad 0 cap]]) Tryz.func82 rfl rfl fun w => ?_; refine zs3 ?_; (refine T.box Wanted.none rfl rfl zq15 ?_; intro b4); (refine T.box Wanted.none rfl rfl zq15 ?_; intro b5); (refine T.box Wanted.none rfl rfl zq15 ?_; intro b6); (refine T.box Wanted.none rfl rfl zq15 ?_; intro b7); refine yq14 ?_; refine sv (PV.makeFunc rfl) ?_; refine sy fun b9 => ?_; refine T.store1 Wanted.none rfl rfl rfl zq14 zq13 ?_; refine so ?_; refine sq ?_; refine zs3 ?_; refine yq6 ?_; refine so ?_; refine T.block ?_; refine zs3 ?_; refine yq32 ?_; refine T.condT rfl rfl ?_; refine zs3 ?_; refine yq0 ?_
  exact T.retF (Lv.fin (RV.tmp rfl rfl) rfl)
structure GfG where
  i : Nat
  H : Hp
  v : Value
  lv : List (Nat × Obj)
  L : List Mt
set_option maxHeartbeats 4000000 in
theorem gFilter_fn (c : Cp) (l : List Mt) (vm : Value) (H : Hp) (hm : MtL H vm l) (hml : l.length ≤ 1000) (hls : ∀ m ∈ l, m.ls = []) :
    Fn Tryz.prog 36 #[cpV c, gbV, .slice none 0 0, vm] H (fun u H' => ∃ L, MtL H' u L ∧ L.map mk3 = l.map mk3) := by
  have hso := sound_fn H
  have hkn := gKnown_fn c H
  have hfi := fun b e ad cap H' => gFits_fn c b e ad cap H'
  have hho := fun b e ad cap H' => gHolds_fn c b e ad cap H'
  obtain ⟨am, cm, rfl⟩ := hm.1.len
  unfold cpV at *
  refine Fn.of_T (vs := [_, gbV, .slice none 0 0, .slice am l.length cm]) Tryz.func36 rfl rfl fun w => ?_; refine zs3 ?_; (refine T.box Wanted.none rfl rfl zq15 ?_; intro b4); (refine T.box Wanted.none rfl rfl zq15 ?_; intro b5); refine yq11 ?_; refine zs3 ?_; refine sv (PV.loadAll rfl zq0 (by exact rfl)) ?_; refine T.callV Wanted.none rfl rfl (hso) ?_; refine sv (PV.not rfl) ?_; refine sm ?_; refine gv (PV.loadAll rfl zq0 (by exact rfl)) ?_; refine gv (PV.loadAll rfl zq0 (by exact rfl)) ?_; refine T.callV (Wanted.guard rfl rfl rfl) rfl rfl (hkn) ?_; refine gv (PV.not rfl) ?_; refine sF ?_; refine so ?_; refine yq7 ?_; refine zs3 ?_; refine yq11 ?_; refine yq30 ?_; refine yq35 ?_; refine T.loopK [(22, Value.int IntKind.i64 (↑l.length : Int)), (21, Value.slice am l.length cm), (5, Value.pointer (some { block := b5, off := 0 })), (4, Value.pointer (some { block := b4, off := 0 })), (2, Value.slice none 0 0)] zq8 (γ := GfG) (fun g => g.i ≤ l.length ∧ H.le g.H ∧ RowV 71 encM 3 g.v g.lv g.L ∧ (∀ m ∈ g.L, LabOk g.H m) ∧ g.L.map mk3 = (l.take g.i).map mk3) (fun g => [(23, .int .i64 (g.i : Int)), (9, g.v)]) (fun g => g.lv ++ _) (fun g => g.H) (fun g => l.length - g.i) ⟨0, H, .slice none 0 0, [], []⟩ ⟨by simp, Hp.le.refl _, Vec.nil _ _, by simp, by simp⟩ zq8 (by repeat (first | exact Sel.refl _ | exact Sel.nil | (refine Sel.cons zq1 ?_) | (refine Sel.app zq1 ?_) | exact Sel.one zq1)) rfl ?_
  rintro ⟨i, H2, v, lv, L⟩ ⟨g1, g2, g3, g4, g5⟩
  dsimp only at g1 g2 g3 g4 g5 ⊢
  obtain ⟨adv, capv, rfl⟩ := g3.val
  have hLl : L.length ≤ l.length := by
    have := congrArg List.length g5
    rw [List.length_map, List.length_map, List.length_take] at this
    omega
  by_cases hi : i < l.length
  · obtain ⟨bx, off, m, rfl, hix, hsub⟩ := RowL.get encM_len (hm.1.mono g2) hi
    have hmm := List.mem_of_getElem? hix
    have hlab := (hm.2 m hmm).mono g2
    obtain ⟨al, cl, hmv⟩ := hlab.1.len
    rw [hls m hmm, List.length_nil] at hmv
    unfold encM at hsub
    rw [hmv] at hsub
    have hfi' := hfi m.b m.e al cl H2
    have hho' := hho m.b m.e al cl H2
    have hst : (l.take (i + 1)).map mk3 = (l.take i).map mk3 ++ [mk3 m] := by
      rw [List.take_add_one, hix, List.map_append]; rfl
    have hcl := clone_fn [] (.slice al 0 cl) H2 SlR.empty (by simp)
    refine yq16 ?_; refine sC rfl (by omega) ?_; refine yq25 ?_; refine zs3 ?_; refine yq5 ?_; refine sy fun b11 => ?_; refine yq13 ?_; refine sv (PV.loadAll rfl zq0 (by exact rfl)) ?_; refine sm ?_; refine sv (PV.loadAll rfl zq0 (by exact rfl)) ?_; refine T.callV Wanted.none rfl rfl (hfi') ?_; refine sm ?_; refine gv (PV.loadAll rfl zq0 (by exact rfl)) ?_; refine gv (PV.loadAll rfl zq0 (by exact rfl)) ?_; refine gm ?_; refine gv (PV.loadAll rfl zq0 (by exact rfl)) ?_; refine T.callV (Wanted.guard rfl rfl rfl) rfl rfl (hho') ?_; refine sT ?_; refine so ?_; refine T.condT rfl rfl ?_; refine T.regionS [(b11, .cells #[.int .i64 m.b, .int .i64 m.e, .slice al 0 cl] 71 (0, 0))] 11 (by kernel_rfl) ?_; refine TS.take 0 rfl (by kernel_rfl) (by kernel_rfl) (by kernel_rfl) (by kernel_rfl) (PV.move rfl) Wanted.none rfl rfl ?_; refine TS.take 1 rfl (by kernel_rfl) (by kernel_rfl) (by kernel_rfl) (by kernel_rfl) (PV.fieldAddr rfl) Wanted.none rfl rfl ?_; refine TS.take 2 rfl (by kernel_rfl) (by kernel_rfl) (by kernel_rfl) (by kernel_rfl) (PV.load1 rfl zq0 rfl) Wanted.none rfl rfl ?_; refine TS.take 3 rfl (by kernel_rfl) (by kernel_rfl) (by kernel_rfl) (by kernel_rfl) (PV.fieldAddr rfl) Wanted.none rfl rfl ?_; refine TS.take 4 rfl (by kernel_rfl) (by kernel_rfl) (by kernel_rfl) (by kernel_rfl) (PV.load1 rfl zq0 rfl) Wanted.none rfl rfl ?_; refine TS.take 5 rfl (by kernel_rfl) (by kernel_rfl) (by kernel_rfl) (by kernel_rfl) (PV.fieldAddr rfl) Wanted.none rfl rfl ?_; refine TS.take 6 rfl (by kernel_rfl) (by kernel_rfl) (by kernel_rfl) (by kernel_rfl) (PV.load1 rfl zq0 rfl) Wanted.none rfl rfl ?_
    refine TS.ways [7] (by kernel_rfl) rfl zq20 ⟨⟨_, rfl, ?_⟩, trivial⟩
    (refine T.call Wanted.none rfl rfl hcl ?_; intro v45 H45 hle45 hv45; obtain ⟨ad45, cap45, rfl⟩ : ∃ ad cap, v45 = .slice ad 0 cap := hv45.len); refine so ?_; refine TS.back ?_; refine TS.take 8 rfl (by kernel_rfl) (by kernel_rfl) (by kernel_rfl) (by kernel_rfl) (PV.build rfl zq12) Wanted.none rfl rfl ?_
    refine TS.ways [9] (by kernel_rfl) rfl zq20 ⟨⟨_, rfl, ?_⟩, trivial⟩
    (refine T.buildSlice Wanted.none rfl rfl zq11 (by exact rfl) (by exact rfl) ?_; intro b47); refine so ?_; refine TS.back ?_
    refine TS.ways [10] (by kernel_rfl) rfl zq20 ⟨⟨_, rfl, ?_⟩, trivial⟩
    (refine T.appendP (lv := lv) Wanted.none rfl rfl rfl g3 (Src.cells (m := 1) (ys := encM ⟨m.b, m.e, .slice ad45 0 cap45, []⟩) (.own zq2) rfl rfl) (one_encM (H := H45) (m := ⟨m.b, m.e, .slice ad45 0 cap45, []⟩) ⟨hv45, by simp⟩) (by omega) zq1 ?_; intro v48 lv48 hv48 _; obtain ⟨ad48, cap48, rfl⟩ := hv48.val); refine so ?_; refine TS.back ?_
    refine TS.ways [11] (by kernel_rfl) rfl zq20 ⟨⟨_, rfl, ?_⟩, trivial⟩
    refine yq0 ?_; refine TS.back ?_; refine TS.done (by kernel_rfl) (by kernel_rfl) ?_; refine yq33 ?_; refine yq23 ?_
    refine T.nextP ⟨i + 1, H45, _, lv48, L ++ [⟨m.b, m.e, .slice ad45 0 cap45, []⟩]⟩ ⟨by dsimp only; omega, g2.trans hle45, MtV.snoc hv48, fun x hx => ?_, ?_⟩ (by dsimp only; omega) zq8 (by repeat (first | exact Sel.refl _ | exact Sel.nil | (refine Sel.cons zq1 ?_) | (refine Sel.app zq1 ?_) | exact Sel.one zq1)) rfl
    · rcases List.mem_append.1 hx with h | h
      · exact (g4 x h).mono hle45
      · obtain rfl := List.mem_singleton.1 h
        exact ⟨hv45, by simp⟩
    · dsimp only
      rw [List.map_append, g5, hst]
      simp [mk3, hls m hmm]
  · rw [List.take_of_length_le (by omega)] at g5
    refine yq16 ?_; refine yq21 ?_; refine yq4 ?_; refine yq0 ?_; refine T.freezeP (lv := lv) g3 zq1 ?_
    intro H3 hle3 hs3
    exact T.retF (Lv.fin (RV.tmp rfl rfl) ⟨L, ⟨hs3, fun m hm => (g4 m hm).mono hle3⟩, g5⟩)
theorem ls_mk3 {l : List Mt} {r : List Sp} (h : l.map mk3 = r.map s3) : ∀ m ∈ l, m.ls = [] := fun m hm => by
  have : mk3 m ∈ l.map mk3 := List.mem_map.2 ⟨m, hm, rfl⟩
  rw [h] at this
  obtain ⟨s, _, e⟩ := List.mem_map.1 this
  have := congrArg (fun x => x.2.2) e
  exact this.symm
theorem spm_s3 {l : List Mt} {r : List Sp} (h : l.map mk3 = r.map s3) : l.map spm = r := by
  have h2 : l.map spm = (l.map mk3).map fun x => (x.1, x.2.1) := by rw [List.map_map]; rfl
  rw [h2, h, List.map_map]
  exact List.map_id r
/-- what of the matches passes the filters -/
def passS (c : Cp) (fs : List Fl) (s : Sp) : Bool := fs.all fun f => holdsB c f s
theorem filter_s3 {c : Cp} {fs : List Fl} : ∀ {l : List Mt} {r : List Sp}, l.map mk3 = r.map s3 → (l.filter (passB c fs)).map mk3 = (r.filter (passS c fs)).map s3
  | [], [], _ => rfl
  | [], s :: r, h => by cases h
  | m :: l, [], h => by cases h
  | m :: l, s :: r, h => by
    rw [List.map_cons, List.map_cons] at h
    injection h with h1 h2
    have ih := filter_s3 (c := c) (fs := fs) h2
    have e : passB c fs m = passS c fs s := by
      unfold mk3 s3 at h1
      injection h1 with e1 e2
      injection e2 with e2 _
      unfold passB passS
      rw [e1, e2]
    rw [List.filter_cons, List.filter_cons, e]
    by_cases hp : passS c fs s = true
    · rw [if_pos hp, if_pos hp, List.map_cons, List.map_cons, h1, ih]
    · rw [if_neg hp, if_neg hp, ih]
theorem asc_s3 : ∀ {l : List Mt} {r : List Sp}, l.map mk3 = r.map s3 → r.Pairwise ltC → ascM l
  | [], _, _, _ => List.Pairwise.nil
  | m :: l, [], h, _ => by cases h
  | m :: l, s :: r, h, hp => by
    rw [List.map_cons, List.map_cons] at h
    injection h with h1 h2
    rw [List.pairwise_cons] at hp
    unfold ascM
    rw [List.pairwise_cons]
    refine ⟨fun n hn => ?_, asc_s3 h2 hp.2⟩
    have : mk3 n ∈ l.map mk3 := List.mem_map.2 ⟨n, hn, rfl⟩
    rw [h2] at this
    obtain ⟨t, ht, e⟩ := List.mem_map.1 this
    have hst := hp.1 t ht
    unfold mk3 s3 at h1 e
    injection h1 with a1 a2
    injection a2 with a2 a3
    injection e with b1 b2
    injection b2 with b2 b3
    unfold ltC at hst
    show cmpL (keyM m) (keyM n) < 0
    unfold keyM
    rw [a1, a2, a3, ← b1, ← b2, ← b3]
    rcases hst with h | ⟨h, h'⟩
    · rw [cmpL, if_pos h]; decide
    · rw [cmpL, if_neg (by omega), if_neg (by omega), cmpL, if_pos h']; decide
set_option maxHeartbeats 4000000 in
theorem rest_fn (c : Cp) (kind : ByteArray) (bs bt : Nat) (fa : Option Addr) (fc : Nat) (fs : List Fl) (l : List Mt) (vm : Value) (R : List Sp) (H : Hp) (hc : CpA H c) (hp : PtR H kind bs bt) (hn : validName kind = true) (hf : FlL H (.slice fa fs.length fc) fs) (hfl : fs.length ≤ 1000)
    (hm : MtL H vm l) (hml : l.length ≤ 1000) (hlR : l.map mk3 = R.map s3) (hR : R.Pairwise ltC) (hok : ∀ s ∈ R, 0 ≤ s.1 ∧ s.1 < s.2) :
    Fn Tryz.prog 18 #[cpV c, quV bs fa fs.length fc, vm, .slice none 0 0, .bool false] H (fun u H' => ∃ L, MtL H' u L ∧ L.map keyM = ((R.filter (passS c fs)).map s3).map fun x => x.1 :: x.2.1 :: x.2.2) := by
  have hlb := qLabels_fn kind bs bt H hp hn
  have hgf := gFilter_fn c l vm H hm hml (ls_mk3 hlR)
  obtain ⟨am, cm, rfl⟩ := hm.1.len
  have hap := fun H' (hle : H.le H') L v (hmL : MtL H' v L) (hL : L.map mk3 = l.map mk3) => apply_in c fs L (.slice fa fs.length fc) v H' (hc.mono hle) (hf.mono hle) hmL hfl (by have := congrArg List.length hL; rw [List.length_map, List.length_map] at this; omega) (fun m hm => by rw [ls_mk3 (hL.trans hlR) m hm]; simp)
  have hch := fun H' L v (hmL : MtL H' v L) (h1 : L.length ≤ 1000000) h2 h3 => choose0_fn L v H' hmL h1 h2 h3
  unfold cpV at *
  unfold quV quC encPn pS
  unfold pnV pS at hlb
  dsimp only [List.cons_append, List.nil_append] at *
  refine Fn.of_T (vs := [_, _, .slice am l.length cm, .slice none 0 0, .bool false]) Tryz.func18 rfl rfl fun w => ?_; refine zs3 ?_; (refine T.box Wanted.none rfl rfl zq15 ?_; intro b5); (refine T.box Wanted.none rfl rfl zq15 ?_; intro b6); (refine T.box Wanted.none rfl rfl zq15 ?_; intro b8); refine yq0 ?_
  (repeat refine sq ?_)
  refine T.regionOl (by kernel_rfl) ?_; refine TO.take 0 rfl (by kernel_rfl) (by kernel_rfl) (by kernel_rfl) (PV.loadAll rfl zq0 (by exact rfl)) Wanted.none rfl rfl ?_; refine TO.take 1 rfl (by kernel_rfl) (by kernel_rfl) (by kernel_rfl) (PV.fieldAddr rfl) Wanted.none rfl rfl ?_; refine TO.take 2 rfl (by kernel_rfl) (by kernel_rfl) (by kernel_rfl) (PV.loadAgg rfl zq0 (by exact rfl) (by exact rfl)) Wanted.none rfl rfl ?_; refine TO.take 3 rfl (by kernel_rfl) (by kernel_rfl) (by kernel_rfl) (PV.fieldAddr rfl) Wanted.none rfl rfl ?_; refine TO.take 4 rfl (by kernel_rfl) (by kernel_rfl) (by kernel_rfl) (PV.loadAgg rfl zq0 (by exact rfl) (by exact rfl)) Wanted.none rfl rfl ?_; refine TO.take 6 rfl (by kernel_rfl) (by kernel_rfl) (by kernel_rfl) (PV.move rfl) Wanted.none rfl rfl ?_; refine TO.step 5 rfl (by kernel_rfl) zq4 zq19 ?_; (refine T.callX Wanted.none rfl rfl hlb ?_; rintro _ rfl); refine so ?_; refine TO.back ?_; refine TO.step 7 rfl (by kernel_rfl) zq4 zq19 ?_; (refine T.call Wanted.none rfl rfl hgf ?_; rintro v20 H20 hle20 ⟨L20, hv20, hL20⟩; obtain ⟨ad20, cap20, rfl⟩ := hv20.1.len); refine so ?_; refine TO.back ?_; refine TO.take 8 rfl (by kernel_rfl) (by kernel_rfl) (by kernel_rfl) (PV.assign rfl) Wanted.none rfl rfl ?_; refine TO.done (by kernel_rfl) zq4 zq19 ?_; refine zs3 ?_; refine sv (PV.loadAll rfl zq0 (by exact rfl)) ?_; refine yq6 ?_; refine sm ?_; refine T.call Wanted.none rfl rfl (hap H20 hle20 L20 _ hv20 hL20) ?_
  rintro v25 H25 hle25 ⟨L25, hv25, hL25⟩
  have h25 : L25.map mk3 = (R.filter (passS c fs)).map s3 := hL25.trans (filter_s3 (hL20.trans hlR))
  have hlen : L25.length ≤ 1000 := by
    have h1 := congrArg List.length h25
    have h2 := congrArg List.length hlR
    rw [List.length_map, List.length_map] at h1 h2
    have := List.length_filter_le (passS c fs) R
    omega
  have hokm : ∀ m ∈ L25, okS (spm m) := fun m hm => by
    have : spm m ∈ L25.map spm := List.mem_map.2 ⟨m, hm, rfl⟩
    rw [spm_s3 h25] at this
    exact hok _ (List.mem_filter.1 this).1
  have hc0 := hch H25 L25 v25 hv25 (by omega) hokm (asc_s3 h25 (hR.sublist List.filter_sublist))
  obtain ⟨ad25, cap25, rfl⟩ := hv25.1.len
  refine yq11 ?_; refine yq4 ?_; refine so ?_; refine yq7 ?_; refine zs3 ?_; refine yq6 ?_; refine sm ?_; refine T.call Wanted.none rfl rfl hc0 ?_
  rintro _ H34 hle34 ⟨v34, a, rfl, ha, hka⟩
  obtain ⟨ad34, cap34, rfl⟩ := ha.1.len
  refine sm ?_; refine yq19 ?_; refine sa ?_; refine yq28 ?_; refine yq0 ?_
  exact T.retF (Lv.fin (RV.tmp rfl rfl) ⟨a, ha, by rw [hka, ← h25, List.map_map]; rfl⟩)
def k3 (s : Sp) : List Int := [s.1, s.2]
/-- the spans of matches without labels that are in order -/
theorem spM_key3 {a : List Mt} {r : List Sp} (h : a.map keyM = r.map k3) (hr : r.Pairwise ltC) : spM a = r := by
  have h2 : a.map spm = r := by
    have e : a.map spm = (a.map keyM).map fun k => match k with | b :: e :: _ => (b, e) | _ => (0, 0) := by rw [List.map_map]; rfl
    rw [e, h, List.map_map]
    exact List.map_id r
  unfold spM
  rw [h2]
  exact spansOf_eq hr fun s => Iff.rfl
set_option maxHeartbeats 4000000 in
theorem evaluate_fn (c : Cp) (kind : ByteArray) (bs bt : Nat) (fa : Option Addr) (fc : Nat) (fs : List Fl) (H : Hp) (hc : CpA H c) (hg : cpGood c) (hp : PtR H kind bs bt) (hn : validName kind = true) (hf : FlL H (.slice fa fs.length fc) fs) (hfl : fs.length ≤ 1000) (hok : okF fs) (hlt : c.tk.length ≤ 24) :
    Fn Tryz.prog 6 #[cpV c, quV bs fa fs.length fc] H (fun u H' => ∃ v a, u = .tuple #[v, .int .i64 0] ∧ MtL H' v a ∧ a.map keyM = ((allW (wntB c kind) c.tk.length c.tk.length).filter (passS c fs)).map k3) := by
  have hma := matches_in c kind bs bt fa fc fs H hc hg hp hn hf hfl hok hlt
  have hre := fun H' (hle : H.le H') l vm (hm : MtL H' vm l) (hl : l.map mk3 = (allW (wntB c kind) c.tk.length c.tk.length).map s3) => rest_fn c kind bs bt fa fc fs l vm _ H' (hc.mono hle) (hp.mono hle) hn (hf.mono hle) hfl hm (by
    have h1 := congrArg List.length hl
    rw [List.length_map, List.length_map] at h1
    have h2 := allW_len (wntB c kind) c.tk.length c.tk.length
    have h3 : c.tk.length * c.tk.length ≤ 24 * 24 := Nat.mul_le_mul hlt hlt
    omega) hl (allW_sorted _ _ _) (fun s hs => by
    obtain ⟨i, e, h1, h2, h3, h4, rfl⟩ := allW_mem.1 hs
    dsimp only; omega)
  unfold cpV at *
  unfold quV quC encPn pS at *
  dsimp only [List.cons_append, List.nil_append] at *
  refine Fn.of_T (vs := [_, _]) Tryz.func6 rfl rfl fun w => ?_; refine zs3 ?_; (refine T.box Wanted.none rfl rfl zq15 ?_; intro b2); (refine T.box Wanted.none rfl rfl zq15 ?_; intro b3); refine sa ?_; refine yq14 ?_; refine sv (PV.loadAll rfl zq0 (by exact rfl)) ?_; refine sv (PV.loadAll rfl zq0 (by exact rfl)) ?_; (refine T.call Wanted.none rfl rfl hma ?_; rintro _ H11 hle11 ⟨v11, L11, rfl, hv11, hL11⟩; obtain ⟨ad11, cap11, rfl⟩ := hv11.1.len); refine sm ?_; refine yq19 ?_; refine sa ?_; refine yq11 ?_; refine yq4 ?_; refine yq29 ?_; refine yq7 ?_; refine zs3 ?_; refine sv (PV.loadAll rfl zq0 (by exact rfl)) ?_; refine sv (PV.loadAll rfl zq0 (by exact rfl)) ?_; refine sm ?_; (refine T.call Wanted.none rfl rfl (hre H11 hle11 L11 _ hv11 hL11) ?_; rintro v20 H20 hle20 ⟨L20, hv20, hL20⟩; obtain ⟨ad20, cap20, rfl⟩ := hv20.1.len); refine sa ?_; refine yq0 ?_
  exact T.retF (Lv.fin (RV.tmp2 rfl rfl rfl) ⟨_, L20, rfl, hv20, by rw [hL20, List.map_map]; rfl⟩)

end Go.Proofs.YtbcadnjfegiakaaGreatDoor
