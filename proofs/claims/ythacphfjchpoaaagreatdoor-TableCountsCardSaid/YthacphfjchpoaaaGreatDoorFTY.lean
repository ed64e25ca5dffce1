/- table: the statement Counts. -/
import Derived.Test.YthacphfjchpoaaaGreatDoorGN
namespace Go.Proofs.YthacphfjchpoaaaGreatDoor
open Go.RowKit

set_option maxHeartbeats 8000000 in
theorem counts_law (l n : List Int) (v u : Value) (H : Hp) (hT : PowT H) (hv : InL H v l) (hl : l.length ≤ 9223372036854775807) (hr : I64 l) (hv2 : InL H u n) (hl2 : n.length ≤ 9223372036854775807) (hr2 : I64 n) :
    Fn Tryz.prog 3 #[v, u] H (fun u _ => u = .bool true) := by
  refine Fn.of_T (vs := [v, u]) Tryz.func3 rfl rfl fun w => ?_; refine zs3 ?_; refine yq56 ?_; refine T.callW (l0 := []) Wanted.none rfl rfl (new_fn l v H hv hl hr) zq1 ?_
  rintro _ _ _ _ ⟨rfl, bt, t, rfl, ht, rfl⟩
  refine yq56 ?_; refine T.callW Wanted.none rfl rfl (corpus_fnN bt t 7 H ht (by omega)) zq1 ?_
  rintro _ H1 _ hle1 ⟨t1, c, rfl, ht1, hc, hg, hb, hnm, rfl⟩
  have hw := wideG hg
  have hmt := matches_fn bt t1 c 1 10 H1 ht1 hc hg hb (by omega) (by omega)
  rw [show ((1 : Nat) : Int) = 1 from rfl] at hmt
  unfold cpV at hmt ⊢
  refine sy fun b6 => ?_; (refine T.storeA Wanted.none rfl rfl (cp_one hc) (by exact rfl) zq14 zq13 ?_); refine zs1 ?_; refine yq138 ?_; refine T.callW Wanted.none rfl rfl hmt zq1 ?_
  rintro _ H2 _ hle2 ⟨t2, L, ht2, hL, hLn, hfit, rfl⟩
  obtain ⟨aL, cL, rfl⟩ := hL.1.len
  refine sm ?_; refine T.callW (l0 := []) Wanted.none rfl rfl (new_fn n u H2 (hv2.mono (hle1.trans hle2)) hl2 hr2) zq1 ?_
  rintro _ _ _ _ ⟨rfl, bt2, t3, rfl, ht3, rfl⟩
  skip
  refine T.callW Wanted.none rfl rfl (groups_fn bt2 t3 H2 ht3) zq1 ?_
  rintro _ H3 _ hle3 ⟨_, gs, t4, hgs, hgl, hgg, ht4, rfl⟩
  obtain ⟨ag, cg, rfl⟩ := hgs.len
  have hc3 := hc.mono (hle2.trans hle3)
  have hT3 := hT.mono (hle1.trans (hle2.trans hle3))
  have hL3 := hL.mono hle3
  have hls : ∀ m ∈ L, m.ls.length ≤ 1000 := fun m hm => by have := (hfit m hm).2.1; omega
  have hLl : L.length ≤ 1000 := by omega
  have hce := count_made hg hgg (by omega : 1 ≤ gs.length ∧ gs.length ≤ 4) hfit
  have ci := fun H' (h : H3.le H') vl (hl : StL H' vl [bs [120]]) => count_in c [bs [120]] vl L (.slice aL L.length cL) gs (.slice ag gs.length cg) H' (hT3.mono h) (hc3.mono h) hw hl (by simp) (hL3.mono h) hLl hls (SlR.mono hgs h) (by omega)
  have cr := fun H' (h : H3.le H') vl (hl : StL H' vl [bs [120]]) => count_ref c [bs [120]] vl L (.slice aL L.length cL) gs (.slice ag gs.length cg) H' (hc3.mono h) hw hl (by simp) (hL3.mono h) hLl hls (SlR.mono hgs h) (by omega)
  have ki := fun m (hm : m ∈ L) H' (h : H3.le H') vl (hl : StL H' vl [bs [120]]) => keys_in c [bs [120]] vl m gs (.slice ag gs.length cg) H' (hT3.mono h) (hc3.mono h) hw hl ((hL3.2 m hm).mono h) (hls m hm) (SlR.mono hgs h) (by omega)
  have kr := fun m (hm : m ∈ L) H' (h : H3.le H') vl (hl : StL H' vl [bs [120]]) => keys_ref c [bs [120]] vl m gs (.slice ag gs.length cg) H' (hc3.mono h) hw hl ((hL3.2 m hm).mono h) (hls m hm) (SlR.mono hgs h) (by omega)
  simp only [hce] at ci cr
  have hRl := countR_len c [bs [120]] L gs
  generalize countR c [bs [120]] L gs = R at ci cr hRl
  unfold cpV at ci cr ki kr
  refine yq55 ?_
  (repeat refine sq ?_)
  refine T.regionO [(b6, .cells #[c.va, c.vt, c.vx, c.vr, c.vn, c.vh, c.vs] 32 (0, 0))] (by kernel_rfl) ?_; refine yq42 ?_; refine yq78 ?_; (refine T.call Wanted.none rfl rfl (labels35_fn _) ?_; intro v27 H27 hle27 hv27; obtain ⟨ad27, cap27, rfl⟩ := hv27.len); refine yq135 ?_; (refine T.call Wanted.none rfl rfl (ci _ zq21 _ hv27) ?_; rintro _ H30 h30 ⟨_, A1, rfl, hA1, qa1, qb1⟩; obtain ⟨aa1, ca1, rfl⟩ := hA1.1.len); refine yq104 ?_; refine yq47 ?_; refine yq50 ?_; refine TO.done (by kernel_rfl) zq4 zq19 ?_
  (repeat refine sq ?_)
  refine T.regionO [(b6, .cells #[c.va, c.vt, c.vx, c.vr, c.vn, c.vh, c.vs] 32 (0, 0))] (by kernel_rfl) ?_; refine yq42 ?_; refine yq78 ?_; (refine T.call Wanted.none rfl rfl (labels35_fn _) ?_; intro v35 H35 hle35 hv35; obtain ⟨ad35, cap35, rfl⟩ := hv35.len); refine yq135 ?_; (refine T.call Wanted.none rfl rfl (cr _ zq21 _ hv35) ?_; rintro _ H38 h38 ⟨_, A2, rfl, hA2, qa2, qb2⟩; obtain ⟨aa2, ca2, rfl⟩ := hA2.1.len); refine yq104 ?_; refine yq47 ?_; refine yq50 ?_; refine TO.done (by kernel_rfl) zq4 zq19 ?_; refine yq112 ?_
  have e12 : A1.map rwK = A2.map rwK := by rw [qa1 trivial, qa2 trivial]
  have l1 : A1.length ≤ 1000000 := by have := congrArg List.length (qa1 trivial); rw [List.length_map] at this; omega
  have hA1f : RwL H38 _ A1 := hA1.mono zq21
  have h38f : H3.le H38 := zq21
  refine T.loopK [(42, Value.int IntKind.i64 (↑L.length : Int)), (41, Value.slice aL L.length cL), (12, Value.int IntKind.i64 0), (11, Value.slice aa2 A2.length ca2), (10, Value.int IntKind.i64 0), (9, Value.slice aa1 A1.length ca1), (8, Value.slice ag gs.length cg), (6, Value.pointer (some { block := b6, off := 0 }))] zq8 (γ := IHG) (fun g => g.i ≤ L.length ∧ H38.le g.H) (fun g => [(43, .int .i64 (g.i : Int))]) (fun g => [(b6, .cells #[c.va, c.vt, c.vx, c.vr, c.vn, c.vh, c.vs] 32 (0, 0))]) (fun g => g.H) (fun g => L.length - g.i) ⟨0, H38⟩ ⟨by simp, Hp.le.refl _⟩ zq8 (by repeat (first | exact Sel.refl _ | exact Sel.nil | (refine Sel.cons zq1 ?_) | (refine Sel.app zq1 ?_) | exact Sel.one zq1)) rfl ?_
  rintro ⟨i, H5⟩ ⟨g1, g2⟩
  dsimp only at g1 g2 ⊢
  by_cases hi : i < L.length
  · obtain ⟨bx, off, m, rfl, hix, hsub⟩ := RowL.get encM_len ((hL3.mono (h38f.trans g2)).1) hi
    have hmm := List.mem_of_getElem? hix
    have ki := ki m hmm
    have kr := kr m hmm
    obtain ⟨am, cm, hmv⟩ := (hL3.2 m hmm).1.len
    unfold encM at hsub
    unfold mtV at ki kr
    rw [hmv] at hsub ki kr
    have hte := texts_eq (keysO c [bs [120]] m gs) (by have := keysO_len (c := c) (lb := [bs [120]]) (m := m) (gs := gs); omega)
    generalize keysO c [bs [120]] m gs = K at ki kr hte
    refine yq110 ?_; refine sy fun b14 => ?_; refine yq13 ?_
    (repeat refine sq ?_)
    refine T.regionO [(b14, .cells #[.int .i64 m.b, .int .i64 m.e, .slice am m.ls.length cm] 44 (0, 0)), (b6, .cells #[c.va, c.vt, c.vx, c.vr, c.vn, c.vh, c.vs] 32 (0, 0))] (by kernel_rfl) ?_; refine yq123 ?_; refine TO.take 3 rfl (by kernel_rfl) (by kernel_rfl) (by kernel_rfl) (PV.move rfl) Wanted.none rfl rfl ?_; refine TO.take 5 rfl (by kernel_rfl) (by kernel_rfl) (by kernel_rfl) (PV.loadAll rfl zq0 (by exact rfl)) Wanted.none rfl rfl ?_; refine TO.take 7 rfl (by kernel_rfl) (by kernel_rfl) (by kernel_rfl) (PV.loadAll rfl zq0 (by exact rfl)) Wanted.none rfl rfl ?_; refine TO.take 8 rfl (by kernel_rfl) (by kernel_rfl) (by kernel_rfl) (PV.move rfl) Wanted.none rfl rfl ?_; refine TO.step 1 rfl (by kernel_rfl) zq4 zq19 ?_; (refine T.call Wanted.none rfl rfl (labels35_fn _) ?_; intro v48 H48 hle48 hv48; obtain ⟨ad48, cap48, rfl⟩ := hv48.len); refine yq135 ?_; (refine T.call Wanted.none rfl rfl (ki _ zq21 _ (SlR.mono hv48 zq21)) ?_; intro v51 H51 h51 hk51; obtain ⟨ak51, ck51, rfl⟩ := hk51.len); refine yq62 ?_; refine TO.step 6 rfl (by kernel_rfl) zq4 zq19 ?_; (refine T.call Wanted.none rfl rfl (labels35_fn _) ?_; intro v53 H53 hle53 hv53; obtain ⟨ad53, cap53, rfl⟩ := hv53.len); refine yq62 ?_; refine TO.step 9 rfl (by kernel_rfl) zq4 zq19 ?_; (refine T.call Wanted.none rfl rfl (kr _ zq21 _ (SlR.mono hv53 zq21)) ?_; intro v56 H56 h56 hk56; obtain ⟨ak56, ck56, rfl⟩ := hk56.len); refine yq62 ?_; refine TO.step 10 rfl (by kernel_rfl) zq4 zq19 ?_; (refine T.callX Wanted.none rfl rfl (hte _ _ _ (SlR.mono hk51 zq21) (SlR.mono hk56 zq21)) ?_; rintro _ rfl); refine yq62 ?_; refine TO.take 11 rfl (by kernel_rfl) (by kernel_rfl) (by kernel_rfl) (PV.not rfl) Wanted.none rfl rfl ?_; refine TO.done (by kernel_rfl) zq4 zq19 ?_; refine yq26 ?_; refine yq61 ?_; (exact T.nextP ⟨i + 1, _⟩ ⟨by dsimp only; omega, zq21⟩ (by dsimp only; omega) zq8 (by repeat (first | exact Sel.refl _ | exact Sel.nil | (refine Sel.cons zq1 ?_) | (refine Sel.app zq1 ?_) | exact Sel.one zq1)) rfl)
  · refine yq74 ?_; refine yq137 ?_; refine yq105 ?_; refine gm ?_; refine gm ?_; (refine T.callX (Wanted.guard rfl rfl rfl) rfl rfl (same_eq e12 l1 _ _ _ (hA1f.mono zq21) (hA2.mono zq21)) ?_; rintro _ rfl); refine yq141 ?_; (refine T.callX (Wanted.guard rfl rfl rfl) rfl rfl (known35_fn _ (hT3.mono zq21)) ?_; rintro _ rfl); refine sT ?_; refine yq0 ?_
    exact T.retF (Lv.fin (RV.tmp rfl rfl) rfl)
end Go.Proofs.YthacphfjchpoaaaGreatDoor
