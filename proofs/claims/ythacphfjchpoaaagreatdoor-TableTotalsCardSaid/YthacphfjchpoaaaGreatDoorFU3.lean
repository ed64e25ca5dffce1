/- table: the statement Totals. -/
import Derived.Test.YthacphfjchpoaaaGreatDoorFU3a
namespace Go.Proofs.YthacphfjchpoaaaGreatDoor
open Go.RowKit

set_option maxHeartbeats 8000000 in
theorem totals_law (l n : List Int) (v u : Value) (H : Hp) (hT : PowT H) (hv : InL H v l) (hl : l.length ≤ 9223372036854775807) (hr : I64 l) (hv2 : InL H u n) (hl2 : n.length ≤ 9223372036854775807) (hr2 : I64 n) :
    Fn Tryz.prog 7 #[v, u] H (fun u _ => u = .bool true) := by
  refine Fn.of_T (vs := [v, u]) Tryz.func7 rfl rfl fun w => ?_; refine zs3 ?_; refine yq56 ?_; refine T.callW (l0 := []) Wanted.none rfl rfl (new_fn l v H hv hl hr) zq1 ?_
  rintro _ _ _ - ⟨rfl, bt, t, rfl, ht, rfl⟩
  refine yq56 ?_; refine T.callW Wanted.none rfl rfl (corpus_fnN bt t 7 H ht (by omega)) zq1 ?_
  rintro _ H1 _ hle1 ⟨t1, c, rfl, ht1, hc, hg, hb, hnm, rfl⟩
  have hw := wideG hg
  have hmt := matches_fn bt t1 c 1 10 H1 ht1 hc hg hb (by omega) (by omega)
  rw [show ((1 : Nat) : Int) = 1 from rfl] at hmt
  unfold cpV at hmt ⊢
  refine sy fun b6 => ?_; (refine T.storeA Wanted.none rfl rfl (cp_one hc) (by exact rfl) zq14 zq13 ?_); refine zs1 ?_; refine yq138 ?_; refine T.callW Wanted.none rfl rfl hmt zq1 ?_
  rintro _ H2 _ hle2 ⟨t2, L, ht2, hL, hLn, hfit, rfl⟩
  obtain ⟨aL, cL, rfl⟩ := hL.1.len
  refine sm ?_; refine T.callW (l0 := []) Wanted.none rfl rfl (new_fn n u H2 (hv2.mono (hle1.trans hle2)) hl2 hr2) zq1 ?_
  rintro _ _ _ - ⟨rfl, bt2, t3, rfl, ht3, rfl⟩
  skip
  refine T.callW Wanted.none rfl rfl (groups_fn bt2 t3 H2 ht3) zq1 ?_
  rintro _ H3 _ hle3 ⟨-, gs, t4, hgs, hgl, hgg, ht4, rfl⟩
  obtain ⟨ag, cg, rfl⟩ := hgs.len
  have hc3 := hc.mono (hle2.trans hle3)
  have hT3 := hT.mono (hle1.trans (hle2.trans hle3))
  have hL3 := hL.mono hle3
  have hls : ∀ m ∈ L, m.ls.length ≤ 1000 := fun m hm => by have := (hfit m hm).2.1; omega
  have hLl : L.length ≤ 1000 := by omega
  have g4 : 1 ≤ gs.length ∧ gs.length ≤ 4 := by omega
  have hce := count_made hg hgg g4 hfit
  have ci := fun H' (h : H3.le H') vl (hl : StL H' vl [bs [120]]) => count_in c [bs [120]] vl L (.slice aL L.length cL) gs (.slice ag gs.length cg) H' (hT3.mono h) (hc3.mono h) hw hl (by simp) (hL3.mono h) hLl hls (SlR.mono hgs h) (by omega)
  have ck := fun g (hgm : ∀ x ∈ [g], GpG x) vg H' (h : H3.le H') vl (hl : StL H' vl [bs [120]]) (hgv : GpL H' vg [g]) => count_in c [bs [120]] vl L (.slice aL L.length cL) [g] vg H' (hT3.mono h) (hc3.mono h) hw hl (by simp) (hL3.mono h) hLl hls hgv (by simp)
  have hce1 := fun g (hgm : ∀ x ∈ [g], GpG x) => count_made hg hgm (show 1 ≤ [g].length ∧ [g].length ≤ 4 by simp) hfit
  simp only [hce] at ci
  obtain ⟨F, hF⟩ : ∃ F, F = L.map (rowK c [bs [120]] gs) := ⟨_, rfl⟩
  have hFr : ∀ r ∈ F, r.1.length = gs.length ∧ 1 ≤ r.2 := by rw [hF]; exact row_lens hg hfit
  have hF1 : ∀ r ∈ F, r.2 = 1 := by rw [hF]; intro r hr; obtain ⟨m, _, rfl⟩ := List.mem_map.1 hr; rfl
  have hFl : F.length = L.length := by rw [hF, List.length_map]
  have hcR : countR c [bs [120]] L gs = sumR F := by unfold countR; rw [hF]
  rw [hcR] at ci
  have hv1 := sumR_valid g4 hFr
  have ht1 := (total_sum g4 hFr).trans (cnt_ones hF1)
  rw [hFl] at ht1
  unfold cpV at ci ck
  refine yq55 ?_
  (repeat refine sq ?_)
  refine T.regionO [(b6, .cells #[c.va, c.vt, c.vx, c.vr, c.vn, c.vh, c.vs] 32 (0, 0))] (by kernel_rfl) ?_; refine yq42 ?_; refine yq78 ?_; (refine T.call Wanted.none rfl rfl (labels35_fn _) ?_; intro v28 H28 hle28 hv28; obtain ⟨ad28, cap28, rfl⟩ := hv28.len); refine yq135 ?_; (refine T.call Wanted.none rfl rfl (ci _ zq21 _ hv28) ?_; rintro _ H31 h31 ⟨_, A1, rfl, hA1, qa1, -⟩; obtain ⟨aa1, ca1, rfl⟩ := hA1.1.len); refine yq104 ?_; refine yq47 ?_; refine yq50 ?_; refine TO.done (by kernel_rfl) zq4 zq19 ?_
  have hAe := qa1 trivial
  have hA1l : A1.length ≤ 10 := by have h1 := congrArg List.length hAe; have h2 := countR_len c [bs [120]] L gs; rw [hcR] at h2; rw [List.length_map] at h1; omega
  have hAs : ∀ r ∈ A1, r.n ≤ 1099511627776 := ones_small hF1 (by omega) hAe
  have va := fun H' (h : H31.le H') => valid_in A1 (.slice aa1 A1.length ca1) H' (hT3.mono (show H3.le H' from zq21)) (hA1.mono h) (by omega)
  have ta := fun H' (h : H31.le H') => total_in A1 (.slice aa1 A1.length ca1) H' (hT3.mono (show H3.le H' from zq21)) (hA1.mono h) (by omega) hAs
  have ma := fun (k : Int) H' (h : H31.le H') => margin_in A1 (.slice aa1 A1.length ca1) k H' (hT3.mono (show H3.le H' from zq21)) (hA1.mono h) (by omega) hAs
  simp only [hAe, hv1] at va
  simp only [hAe, ht1] at ta
  simp only [hAe] at ma
  have hd1 : decide ((L.length : Int) ≠ (L.length : Int)) = false := by simp
  have va1 := va _ (Hp.le.refl _)
  have ta1 := ta _ (Hp.le.refl _)
  refine yq14 ?_; refine sv (PV.neq rfl rfl) ?_; refine sm ?_; refine gm ?_; refine T.callV (Wanted.guard rfl rfl rfl) rfl rfl (va1) ?_; refine gv (PV.not rfl) ?_; refine yq90 ?_; refine gm ?_; refine T.callV (Wanted.guard rfl rfl rfl) rfl rfl (ta1) ?_; refine yq114 ?_; refine yq160 ?_; refine so ?_; refine yq108 ?_; refine yq112 ?_
  have h31f : H3.le H31 := zq21
  refine T.loopK [(49, Value.int IntKind.i64 (↑gs.length : Int)), (9, Value.slice aa1 A1.length ca1), (8, Value.slice ag gs.length cg), (7, Value.slice aL L.length cL), (6, Value.pointer (some { block := b6, off := 0 }))] zq8 (γ := IHG) (fun g => g.i ≤ gs.length ∧ H31.le g.H) (fun g => [(50, .int .i64 (g.i : Int))]) (fun g => [(b6, .cells #[c.va, c.vt, c.vx, c.vr, c.vn, c.vh, c.vs] 32 (0, 0))]) (fun g => g.H) (fun g => gs.length - g.i) ⟨0, H31⟩ ⟨by simp, Hp.le.refl _⟩ zq8 (by repeat (first | exact Sel.refl _ | exact Sel.nil | (refine Sel.cons zq1 ?_) | (refine Sel.app zq1 ?_) | exact Sel.one zq1)) rfl ?_
  rintro ⟨k, H5⟩ ⟨g1, g2⟩
  dsimp only at g1 g2 ⊢
  by_cases hk : k < gs.length
  · obtain ⟨g, hgk⟩ : ∃ g, gs[k]? = some g := ⟨_, List.getElem?_eq_getElem hk⟩
    have hgm : ∀ x ∈ [g], GpG x := fun x hx => by rw [List.mem_singleton] at hx; subst hx; exact hgg x (List.mem_of_getElem? hgk)
    have ck := ck g hgm (slV 6 ag ((k : Int)).toNat ((k : Int) + 1).toNat cg)
    have e1 := hce1 g hgm
    have hme := marE_ok2 g4 hFr hk
    have hmr : marR (sumR F) k = sumR (F.map (gK k)) := sumR_margin (fun ks => [ks.getD k ⟨#[]⟩]) F
    have ma := ma (k : Int)
    have hG : countR c [bs [120]] L [g] = sumR (F.map (gK k)) := by unfold countR; rw [row_one hg hfit hgk, hF]
    have hGr : ∀ r ∈ F.map (gK k), r.1.length = 1 ∧ 1 ≤ r.2 := by
      intro r hr
      obtain ⟨x, hx, rfl⟩ := List.mem_map.1 hr
      exact ⟨rfl, (hFr x hx).2⟩
    have hG1 : ∀ r ∈ F.map (gK k), r.2 = 1 := by
      intro r hr
      obtain ⟨x, hx, rfl⟩ := List.mem_map.1 hr
      exact hF1 x hx
    have hGt := (total_sum (n := 1) (by omega) hGr).trans (cnt_ones hG1)
    rw [List.length_map, hFl] at hGt
    have hGl := countR_len c [bs [120]] L [g]
    rw [hG] at hGl
    simp only [hme, Int.toNat_natCast, hmr] at ma
    simp only [e1, hG] at ck
    have hgv : ∀ H', H31.le H' → GpL H' (slV 6 ag ((k : Int)).toNat ((k : Int) + 1).toNat cg) [g] := fun H' h => by
      have h0 := (SlR.mono hgs (show H3.le H' from zq21)).slice (lo := k) (hi := k + 1) (by omega) (by omega)
      rw [Int.toNat_natCast, show ((k : Int) + 1).toNat = k + 1 by omega]
      have h1 : ((gs.flatMap encGp).drop (k * 6)).take ((k + 1 - k) * 6) = [g].flatMap encGp := by
        rw [show k + 1 - k = 1 by omega, Nat.one_mul, flat_elem encGp_len gs k g hgk]; simp
      rw [h1, show k + 1 - k = 1 by omega] at h0
      exact h0
    have hcap := hgs.cap
    refine yq87 ?_; refine yq56 ?_; refine sm ?_; (refine T.call Wanted.none rfl rfl (ma _ zq21) ?_; rintro _ H56 h56 ⟨_, A2, rfl, hA2, qa2, -⟩; obtain ⟨aa2, ca2, rfl⟩ := hA2.1.len); refine yq146 ?_; refine yq55 ?_
    have hBe := qa2 trivial
    have hBl : A2.length ≤ 10 := by have h1 := congrArg List.length hBe; rw [List.length_map] at h1; omega
    have hBs : ∀ r ∈ A2, r.n ≤ 1099511627776 := ones_small hG1 (by rw [List.length_map]; omega) hBe
    have tb := fun H' (h : H56.le H') => total_in A2 (.slice aa2 A2.length ca2) H' (hT3.mono (show H3.le H' from zq21)) (hA2.mono h) (by omega) hBs
    simp only [hBe, hGt] at tb
    (repeat refine sq ?_)
    refine T.regionO [(b6, .cells #[c.va, c.vt, c.vx, c.vr, c.vn, c.vh, c.vs] 32 (0, 0))] (by kernel_rfl) ?_; refine yq42 ?_; refine TO.take 3 rfl (by kernel_rfl) (by kernel_rfl) (by kernel_rfl) (PV.move rfl) Wanted.none rfl rfl ?_; refine TO.take 4 rfl (by kernel_rfl) (by kernel_rfl) (by kernel_rfl) (PV.move rfl) Wanted.none rfl rfl ?_; refine TO.take 5 rfl (by kernel_rfl) (by kernel_rfl) (by kernel_rfl) (PV.move rfl) Wanted.none rfl rfl ?_; refine TO.take 6 rfl (by kernel_rfl) (by kernel_rfl) (by kernel_rfl) (PV.add rfl rfl (by omega)) Wanted.none rfl rfl ?_; refine TO.take 7 rfl (by kernel_rfl) (by kernel_rfl) (by kernel_rfl) (PV.sliceLH rfl rfl rfl (by omega)) Wanted.none rfl rfl ?_; refine TO.step 1 rfl (by kernel_rfl) zq4 zq19 ?_; (refine T.call Wanted.none rfl rfl (labels35_fn _) ?_; intro v61 H61 hle61 hv61; obtain ⟨ad61, cap61, rfl⟩ := hv61.len); refine yq62 ?_; refine TO.step 8 rfl (by kernel_rfl) zq4 zq19 ?_; (refine T.call Wanted.none rfl rfl (ck _ zq21 _ (SlR.mono hv61 zq21) (hgv _ zq21)) ?_; rintro _ H68 h68 ⟨_, A3, rfl, hA3, qa3, -⟩; obtain ⟨aa3, ca3, rfl⟩ := hA3.1.len); refine yq62 ?_; refine TO.take 9 rfl (by kernel_rfl) (by kernel_rfl) (by kernel_rfl) (PV.move rfl) Wanted.none rfl rfl ?_; refine TO.take 10 rfl (by kernel_rfl) (by kernel_rfl) (by kernel_rfl) (PV.extract rfl rfl) Wanted.none rfl rfl ?_; refine TO.take 11 rfl (by kernel_rfl) (by kernel_rfl) (by kernel_rfl) (PV.extract rfl rfl) Wanted.none rfl rfl ?_; refine TO.take 12 rfl (by kernel_rfl) (by kernel_rfl) (by kernel_rfl) (PV.assign rfl) Wanted.none rfl rfl ?_; refine TO.take 13 rfl (by kernel_rfl) (by kernel_rfl) (by kernel_rfl) (PV.assign rfl) Wanted.none rfl rfl ?_; refine TO.done (by kernel_rfl) zq4 zq19 ?_
    have e23 : A2.map rwK = A3.map rwK := by rw [hBe, qa3 trivial]
    refine yq2 ?_; refine sv (PV.neq rfl rfl) ?_; refine sm ?_; refine gm ?_; refine gv (PV.neq rfl rfl) ?_; refine yq90 ?_; refine gm ?_; refine gm ?_; (refine T.callX (Wanted.guard rfl rfl rfl) rfl rfl (same_eq e23 (by omega) _ _ _ (hA2.mono zq21) (hA3.mono zq21)) ?_; rintro _ rfl); refine gv (PV.not rfl) ?_; refine yq90 ?_; refine gm ?_; (refine T.callX (Wanted.guard rfl rfl rfl) rfl rfl (tb _ zq21) ?_; rintro _ rfl); refine yq114 ?_; refine yq160 ?_; refine so ?_; refine yq108 ?_; refine yq61 ?_
    exact T.nextP ⟨k + 1, _⟩ ⟨by dsimp only; omega, zq21⟩ (by dsimp only; omega) zq8 (by repeat (first | exact Sel.refl _ | exact Sel.nil | (refine Sel.cons zq1 ?_) | (refine Sel.app zq1 ?_) | exact Sel.one zq1)) rfl
  · refine yq74 ?_; refine zs3 ?_; (refine T.callX Wanted.none rfl rfl (known35_fn _ (hT3.mono zq21)) ?_; rintro _ rfl); refine yq0 ?_
    exact T.retF (Lv.fin (RV.tmp rfl rfl) rfl)
end Go.Proofs.YthacphfjchpoaaaGreatDoor
