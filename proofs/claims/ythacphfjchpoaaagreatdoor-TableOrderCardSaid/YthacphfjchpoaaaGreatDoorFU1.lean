/- table: the statement Order. -/
import Derived.Test.YthacphfjchpoaaaGreatDoorFU1a
namespace Go.Proofs.YthacphfjchpoaaaGreatDoor
open Go.RowKit

set_option maxHeartbeats 8000000 in
theorem order_law (l n : List Int) (v u : Value) (H : Hp) (hT : PowT H) (hv : InL H v l) (hl : l.length ≤ 9223372036854775807) (hr : I64 l) (hv2 : InL H u n) (hl2 : n.length ≤ 9223372036854775807) (hr2 : I64 n) :
    Fn Tryz.prog 5 #[v, u] H (fun u _ => u = .bool true) := by
  refine Fn.of_T (vs := [v, u]) Tryz.func5 rfl rfl fun w => ?_; refine zs3 ?_; refine yq56 ?_; refine T.callW (l0 := []) Wanted.none rfl rfl (new_fn l v H hv hl hr) zq1 ?_
  rintro _ _ _ _ ⟨rfl, bt, t, rfl, ht, rfl⟩
  refine yq56 ?_; refine T.callW Wanted.none rfl rfl (corpus_fnN bt t 7 H ht (by omega)) zq1 ?_
  rintro _ H1 _ hle1 ⟨t1, c, rfl, ht1, hc, hg, hb, hnm, rfl⟩
  have hw := wideG hg
  have hmt := matches_fn bt t1 c 1 10 H1 ht1 hc hg hb (by omega) (by omega)
  rw [show ((1 : Nat) : Int) = 1 from rfl] at hmt
  unfold cpV at hmt ⊢
  refine sy fun b6 => ?_; (refine T.storeA Wanted.none rfl rfl (cp_one hc) (by exact rfl) zq14 zq13 ?_); refine zs1 ?_; refine yq138 ?_; refine T.callW Wanted.none rfl rfl hmt zq1 ?_
  rintro _ H2 _ hle2 ⟨t2, L, ht2, hL, hLn, hfit, rfl⟩
  obtain ⟨aL, cL, rfl⟩ := hL.1.len
  refine sm ?_; refine T.callW (l0 := []) Wanted.none rfl rfl (new_fn n u H2 (hv2.mono (hle1.trans hle2)) hl2 hr2) zq1 ?_
  rintro _ _ _ _ ⟨rfl, bt2, t3, rfl, ht3, rfl⟩
  skip
  refine T.callW Wanted.none rfl rfl (groups_fn bt2 t3 H2 ht3) zq1 ?_
  rintro _ H3 _ hle3 ⟨_, gs, t4, hgs, hgl, hgg, ht4, rfl⟩
  obtain ⟨ag, cg, rfl⟩ := hgs.len
  have hc3 := hc.mono (hle2.trans hle3)
  have hT3 := hT.mono (hle1.trans (hle2.trans hle3))
  have hL3 := hL.mono hle3
  have hls : ∀ m ∈ L, m.ls.length ≤ 1000 := fun m hm => by have := (hfit m hm).2.1; omega
  have hLl : L.length ≤ 1000 := by omega
  have hce := count_made hg hgg (by omega : 1 ≤ gs.length ∧ gs.length ≤ 4) hfit
  have ci := fun H' (h : H3.le H') vl (hl : StL H' vl [bs [120]]) => count_in c [bs [120]] vl L (.slice aL L.length cL) gs (.slice ag gs.length cg) H' (hT3.mono h) (hc3.mono h) hw hl (by simp) (hL3.mono h) hLl hls (SlR.mono hgs h) (by omega)
  have ki := fun m (hm : m ∈ L) H' (h : H3.le H') vl (hl : StL H' vl [bs [120]]) => keys_in c [bs [120]] vl m gs (.slice ag gs.length cg) H' (hT3.mono h) (hc3.mono h) hw hl ((hL3.2 m hm).mono h) (hls m hm) (SlR.mono hgs h) (by omega)
  simp only [hce] at ci
  have hRl := countR_len c [bs [120]] L gs
  obtain ⟨F, hF⟩ : ∃ F, F = L.map (rowK c [bs [120]] gs) := ⟨_, rfl⟩
  have hcR : countR c [bs [120]] L gs = sumR F := by unfold countR; rw [hF]
  rw [hcR] at ci hRl
  unfold cpV at ci ki
  refine yq55 ?_
  (repeat refine sq ?_)
  refine T.regionO [(b6, .cells #[c.va, c.vt, c.vx, c.vr, c.vn, c.vh, c.vs] 32 (0, 0))] (by kernel_rfl) ?_; refine yq42 ?_; refine yq78 ?_; (refine T.call Wanted.none rfl rfl (labels35_fn _) ?_; intro v29 H29 hle29 hv29; obtain ⟨ad29, cap29, rfl⟩ := hv29.len); refine yq135 ?_; (refine T.call Wanted.none rfl rfl (ci _ zq21 _ hv29) ?_; rintro _ H32 h32 ⟨_, A1, rfl, hA1, qa1, qb1⟩; obtain ⟨aa1, ca1, rfl⟩ := hA1.1.len); refine yq104 ?_; refine yq47 ?_; refine yq50 ?_; refine TO.done (by kernel_rfl) zq4 zq19 ?_; refine yq14 ?_; refine sv (PV.neq rfl rfl) ?_; refine yq92 ?_; refine yq112 ?_
  have hAe := qa1 trivial
  have hAl : A1.length = (sumR F).length := by rw [← hAe, List.length_map]
  have h32f : H3.le H32 := zq21
  refine T.loopK [(38, Value.int IntKind.i64 (↑A1.length : Int)), (37, Value.slice aa1 A1.length ca1), (9, Value.slice aa1 A1.length ca1), (8, Value.slice ag gs.length cg), (7, Value.slice aL L.length cL), (6, Value.pointer (some { block := b6, off := 0 }))] zq8 (γ := IHG) (fun g => g.i ≤ A1.length ∧ H32.le g.H) (fun g => [(39, .int .i64 (g.i : Int))]) (fun g => [(b6, .cells #[c.va, c.vt, c.vx, c.vr, c.vn, c.vh, c.vs] 32 (0, 0))]) (fun g => g.H) (fun g => A1.length - g.i) ⟨0, H32⟩ ⟨by simp, Hp.le.refl _⟩ zq8 (by repeat (first | exact Sel.refl _ | exact Sel.nil | (refine Sel.cons zq1 ?_) | (refine Sel.app zq1 ?_) | exact Sel.one zq1)) rfl ?_
  rintro ⟨i, H5⟩ ⟨g1, g2⟩
  dsimp only at g1 g2 ⊢
  by_cases hi : i < A1.length
  · obtain ⟨bx, off, r, rfl, hix, hsub⟩ := RowL.get encRw_len ((hA1.mono g2).1) hi
    have hro := (hA1.2 r (List.mem_of_getElem? hix)).mono g2
    obtain ⟨ar, cr, hrv⟩ := hro.1.len
    have hrs := hro.1
    rw [hrv] at hrs
    unfold encRw at hsub
    rw [hrv] at hsub
    have hrn : r.n = tot F r.ks := by
      have h1 : rwK r ∈ A1.map rwK := List.mem_map_of_mem (List.mem_of_getElem? hix)
      rw [hAe] at h1
      exact ((sum_mem F (rwK r)).1 h1).2
    refine yq110 ?_; refine sy fun b12 => ?_; refine yq10 ?_; refine yq0 ?_; refine yq112 ?_; refine T.loopK [(44, Value.int IntKind.i64 (↑L.length : Int)), (43, Value.slice aL L.length cL), (12, Value.pointer (some { block := b12, off := 0 })), (39, Value.int IntKind.i64 (↑i : Int)), (38, Value.int IntKind.i64 (↑A1.length : Int)), (37, Value.slice (some { block := bx, off := off }) A1.length ca1), (9, Value.slice (some { block := bx, off := off }) A1.length ca1), (8, Value.slice ag gs.length cg), (7, Value.slice aL L.length cL), (6, Value.pointer (some { block := b6, off := 0 }))] zq8 (γ := OrG) (fun g => g.j ≤ L.length ∧ H5.le g.H ∧ g.k = tot (F.take g.j) r.ks ∧ 0 ≤ g.k ∧ g.k ≤ g.j) (fun g => [(45, .int .i64 (g.j : Int)), (13, .int .i64 g.k)]) (fun g => [(b12, .cells #[.slice ar r.ks.length cr, .int .i64 r.n] 52 (0, 0)), (b6, .cells #[c.va, c.vt, c.vx, c.vr, c.vn, c.vh, c.vs] 32 (0, 0))]) (fun g => g.H) (fun g => L.length - g.j) ⟨0, 0, H5⟩ ⟨by simp, Hp.le.refl _, by simp [tot], by simp, by simp⟩ zq8 (by repeat (first | exact Sel.refl _ | exact Sel.nil | (refine Sel.cons zq1 ?_) | (refine Sel.app zq1 ?_) | exact Sel.one zq1)) rfl ?_
    rintro ⟨j, k, H6⟩ ⟨j1, j2, j3, j4, j5⟩
    dsimp only at j1 j2 j3 j4 j5 ⊢
    by_cases hj : j < L.length
    · obtain ⟨bm, offm, m, rfl, hmx, hsubm⟩ := RowL.get encM_len ((hL3.mono (h32f.trans (g2.trans j2))).1) hj
      have hmm := List.mem_of_getElem? hmx
      have ki := ki m hmm
      obtain ⟨am, cm, hmv⟩ := (hL3.2 m hmm).1.len
      unfold encM at hsubm
      unfold mtV at ki
      rw [hmv] at hsubm ki
      have hte := texts_dec (keysO c [bs [120]] m gs) r.ks (by have := keysO_len (c := c) (lb := [bs [120]]) (m := m) (gs := gs); omega)
      have hFj : F[j]? = some (rowK c [bs [120]] gs m) := by rw [hF, List.getElem?_map, hmx]; rfl
      have hst : tot (F.take (j + 1)) r.ks = tot (F.take j) r.ks + if keysO c [bs [120]] m gs = r.ks then 1 else 0 := by
        rw [List.take_add_one, hFj]; exact tot_one
      generalize keysO c [bs [120]] m gs = K at ki hte hst
      cases hq : decide (K = r.ks)
      · rw [if_neg (of_decide_eq_false hq), ← j3] at hst
        have hte := fun H u v a b => hte H u v a b false hq
        refine yq110 ?_; refine sy fun b15 => ?_; refine yq13 ?_
        (repeat refine sq ?_)
        refine T.regionO [(b15, .cells #[.int .i64 m.b, .int .i64 m.e, .slice am m.ls.length cm] 44 (0, 0)), (b12, .cells #[.slice ar r.ks.length cr, .int .i64 r.n] 52 (0, 0)), (b6, .cells #[c.va, c.vt, c.vx, c.vr, c.vn, c.vh, c.vs] 32 (0, 0))] (by kernel_rfl) ?_; refine yq123 ?_; refine TO.take 3 rfl (by kernel_rfl) (by kernel_rfl) (by kernel_rfl) (PV.move rfl) Wanted.none rfl rfl ?_; refine TO.take 5 rfl (by kernel_rfl) (by kernel_rfl) (by kernel_rfl) (PV.fieldAddr rfl) Wanted.none rfl rfl ?_; refine TO.take 6 rfl (by kernel_rfl) (by kernel_rfl) (by kernel_rfl) (PV.load1 rfl zq0 rfl) Wanted.none rfl rfl ?_; refine TO.step 1 rfl (by kernel_rfl) zq4 zq19 ?_; (refine T.call Wanted.none rfl rfl (labels35_fn _) ?_; intro v50 H50 hle50 hv50; obtain ⟨ad50, cap50, rfl⟩ := hv50.len); refine yq135 ?_; (refine T.call Wanted.none rfl rfl (ki _ zq21 _ (SlR.mono hv50 zq21)) ?_; intro v53 H53 h53 hk53; obtain ⟨ak53, ck53, rfl⟩ := hk53.len); refine yq62 ?_; refine TO.step 7 rfl (by kernel_rfl) zq4 zq19 ?_; (refine T.callX Wanted.none rfl rfl (hte _ _ _ (SlR.mono hk53 zq21) (SlR.mono hrs zq21)) ?_; rintro _ rfl); refine yq62 ?_; refine TO.done (by kernel_rfl) zq4 zq19 ?_; refine yq26 ?_; refine yq61 ?_; (exact T.nextP ⟨j + 1, k, _⟩ ⟨by dsimp only; omega, zq21, by dsimp only; omega, j4, by dsimp only; omega⟩ (by dsimp only; omega) zq8 (by repeat (first | exact Sel.refl _ | exact Sel.nil | (refine Sel.cons zq1 ?_) | (refine Sel.app zq1 ?_) | exact Sel.one zq1)) rfl)
      · rw [if_pos (of_decide_eq_true hq), ← j3] at hst
        have hte := fun H u v a b => hte H u v a b true hq
        refine yq110 ?_; refine sy fun b15 => ?_; refine yq13 ?_
        (repeat refine sq ?_)
        refine T.regionO [(b15, .cells #[.int .i64 m.b, .int .i64 m.e, .slice am m.ls.length cm] 44 (0, 0)), (b12, .cells #[.slice ar r.ks.length cr, .int .i64 r.n] 52 (0, 0)), (b6, .cells #[c.va, c.vt, c.vx, c.vr, c.vn, c.vh, c.vs] 32 (0, 0))] (by kernel_rfl) ?_; refine yq123 ?_; refine TO.take 3 rfl (by kernel_rfl) (by kernel_rfl) (by kernel_rfl) (PV.move rfl) Wanted.none rfl rfl ?_; refine TO.take 5 rfl (by kernel_rfl) (by kernel_rfl) (by kernel_rfl) (PV.fieldAddr rfl) Wanted.none rfl rfl ?_; refine TO.take 6 rfl (by kernel_rfl) (by kernel_rfl) (by kernel_rfl) (PV.load1 rfl zq0 rfl) Wanted.none rfl rfl ?_; refine TO.step 1 rfl (by kernel_rfl) zq4 zq19 ?_; (refine T.call Wanted.none rfl rfl (labels35_fn _) ?_; intro v50 H50 hle50 hv50; obtain ⟨ad50, cap50, rfl⟩ := hv50.len); refine yq135 ?_; (refine T.call Wanted.none rfl rfl (ki _ zq21 _ (SlR.mono hv50 zq21)) ?_; intro v53 H53 h53 hk53; obtain ⟨ak53, ck53, rfl⟩ := hk53.len); refine yq62 ?_; refine TO.step 7 rfl (by kernel_rfl) zq4 zq19 ?_; (refine T.callX Wanted.none rfl rfl (hte _ _ _ (SlR.mono hk53 zq21) (SlR.mono hrs zq21)) ?_; rintro _ rfl); refine yq62 ?_; refine TO.done (by kernel_rfl) zq4 zq19 ?_; refine T.condT rfl rfl ?_; refine yq81 ?_; refine yq63 ?_; refine yq61 ?_; (exact T.nextP ⟨j + 1, k + 1, _⟩ ⟨by dsimp only; omega, zq21, by dsimp only; omega, by dsimp only; omega, by dsimp only; omega⟩ (by dsimp only; omega) zq8 (by repeat (first | exact Sel.refl _ | exact Sel.nil | (refine Sel.cons zq1 ?_) | (refine Sel.app zq1 ?_) | exact Sel.one zq1)) rfl)
    · have hFl : F.length = L.length := by rw [hF, List.length_map]
      rw [List.take_of_length_le (by omega), ← hrn] at j3
      subst j3
      have hne : decide (r.n ≠ r.n) = false := by simp
      refine yq74 ?_; refine yq2 ?_; refine yq5 ?_; refine sv (PV.neq rfl rfl) ?_; refine so ?_; refine yq108 ?_; refine yq61 ?_
      exact T.nextP ⟨i + 1, H6⟩ ⟨by dsimp only; omega, g2.trans j2⟩ (by dsimp only; omega) zq8 (by repeat (first | exact Sel.refl _ | exact Sel.nil | (refine Sel.cons zq1 ?_) | (refine Sel.app zq1 ?_) | exact Sel.one zq1)) rfl
  · refine yq74 ?_; refine sq ?_; refine yq25 ?_; refine T.block ?_; refine T.loopK [(9, Value.slice aa1 A1.length ca1)] zq8 (γ := Nat) (fun _ => True) (fun i => [(16, .int .i64 ((i + 1 : Nat) : Int))]) (fun _ => []) (fun _ => H5) (fun i => A1.length - i) 0 trivial zq8 (by repeat (first | exact Sel.refl _ | exact Sel.nil | (refine Sel.cons zq1 ?_) | (refine Sel.app zq1 ?_) | exact Sel.one zq1)) rfl ?_
    rintro i2 -
    by_cases hi2 : i2 + 1 < A1.length
    · have hA5 := (hA1.mono g2).1
      obtain ⟨bx, off, r, hbx, hix, hsub⟩ := RowL.get encRw_len hA5 (show i2 < A1.length by omega)
      subst hbx
      obtain ⟨by', off', r', hby, hiy, hsub'⟩ := RowL.get encRw_len hA5 hi2
      injection hby with hby
      injection hby with e1 e2
      subst e1 e2
      obtain ⟨ar, cr, hrv⟩ := (hA1.2 r (List.mem_of_getElem? hix)).1.len
      obtain ⟨ar', cr', hrv'⟩ := (hA1.2 r' (List.mem_of_getElem? hiy)).1.len
      unfold encRw at hsub hsub'
      rw [hrv] at hsub
      rw [hrv'] at hsub'
      have hsub1 : SubC H5 bx (off + (((i2 + 1 : Nat) : Int) - 1).toNat * 2) [.slice ar r.ks.length cr, .int .i64 r.n] := by
        rw [show (((i2 + 1 : Nat) : Int) - 1).toNat = i2 by omega]; exact hsub
      have hno : ¬ r.n < r'.n := sumR_desc (l := F) (i := i2) (a := rwK r) (b := rwK r') (by rw [← hAe, List.getElem?_map, hix]; rfl) (by rw [← hAe, List.getElem?_map, hiy]; rfl)
      have hd : decide (r.n < r'.n) = false := decide_eq_false hno
      refine yq14 ?_; refine yq83 ?_; refine yq3 ?_; refine yq33 ?_; refine sq ?_; refine yq39 ?_; refine TQ.pv (PV.move rfl) Wanted.none rfl rfl ?_; refine TQ.pv (PV.sub rfl rfl (by omega)) Wanted.none rfl rfl ?_; refine TQ.pv (PV.indexAddr rfl rfl (by omega)) Wanted.none rfl rfl ?_; refine yq21 ?_; refine yq159 ?_; refine yq21 ?_; refine TQ.pv (PV.lss rfl rfl) Wanted.none rfl rfl ?_; refine TQ.nil ?_; refine yq108 ?_; refine yq35 ?_; refine sm ?_; refine yq63 ?_
      exact T.nextP (i2 + 1) trivial (by omega) zq8 (by repeat (first | exact Sel.refl _ | exact Sel.nil | (refine Sel.cons zq1 ?_) | (refine Sel.app zq1 ?_) | exact Sel.one zq1)) rfl
    · refine yq14 ?_; refine yq83 ?_; refine yq3 ?_; refine yq16 ?_; refine zs3 ?_; (refine T.callX Wanted.none rfl rfl (known35_fn _ (hT3.mono zq21)) ?_; rintro _ rfl); refine yq0 ?_
      exact T.retF (Lv.fin (RV.tmp rfl rfl) rfl)
end Go.Proofs.YthacphfjchpoaaaGreatDoor
