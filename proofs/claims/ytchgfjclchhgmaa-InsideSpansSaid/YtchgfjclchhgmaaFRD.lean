/- regions: the statement Applies. -/
import Derived.Test.YtchgfjclchhgmaaFRA
namespace Go.Proofs.Ytchgfjclchhgmaa
open Go.RowKit

theorem one_encFl (f : Fl) : ∀ v ∈ encFl f, v.oneCell' = true := by
  intro v hv
  simp only [encFl, List.mem_cons, List.not_mem_nil, or_false] at hv
  rcases hv with rfl | rfl | rfl <;> rfl
structure FiG where
  k : Nat
  t : Tp
  v : Value
  lv : List (Nat × Obj)
  L : List Fl
theorem key_mk3 {l m : List Mt} (h : l.map mk3 = m.map mk3) : l.map keyM = m.map keyM := by
  have hk : ∀ l : List Mt, l.map keyM = (l.map mk3).map fun x => x.1 :: x.2.1 :: x.2.2 := by
    intro l; rw [List.map_map]; rfl
  rw [hk, hk, h]
theorem len_mk3 {x y : List Mt} {p : Mt → Bool} (h : x.map mk3 = (y.filter p).map mk3) (hy : (y.length : Int) ≤ 8) : x.length ≤ 1000000 := by
  have := congrArg List.length h
  rw [List.length_map, List.length_map] at this
  have := List.length_filter_le p y
  omega
set_option maxHeartbeats 2000000 in
theorem applies_fn (l : List Int) (v : Value) (H : Hp) (hv : InL H v l) (hl : l.length ≤ 9223372036854775807) (hr : ∀ x ∈ l, -9223372036854775808 ≤ x ∧ x ≤ 9223372036854775807) :
    Fn Try.prog 6 #[v] H (fun u _ => u = .bool true) := by
  refine Fn.of_T (vs := [v]) Try.func6 rfl rfl fun w => ?_
  refine T.seq ?_
  refine T.region ?_
  refine T.pv (PV.assign rfl) Wanted.none rfl rfl ?_
  refine T.opsNil ?_
  refine T.seq ?_
  refine T.region ?_
  refine T.pv (PV.move rfl) Wanted.none rfl rfl ?_
  refine T.callW (l0 := []) Wanted.none rfl rfl (new_fn l v H hv hl hr) zq1 ?_
  rintro _ _ _ _ ⟨rfl, bt, t, rfl, ht, rfl⟩
  refine T.pv (PV.assign rfl) Wanted.none rfl rfl ?_
  refine T.opsNil ?_
  refine T.seq ?_
  refine T.region ?_
  refine T.pv (PV.move rfl) Wanted.none rfl rfl ?_
  refine T.callW Wanted.none rfl rfl (corpus_fn bt t 6 H ht (by omega)) zq1 ?_
  rintro _ H1 _ hle1 ⟨t1, c, rfl, ht1, hc, hg, hb, rfl⟩
  have hmt := fun H2 t (hle : H1.le H2) (h : Tp.ok H2 t) => matches_fn bt t c 1 8 H2 h (hc.mono hle) hg hb (by omega) (by omega)
  rw [show ((1 : Nat) : Int) = 1 from rfl] at hmt
  unfold cpV at hmt ⊢
  (refine T.alloc Wanted.none rfl ?_; intro b4)
  (refine T.storeA Wanted.none rfl rfl (cp_one hc) (by exact rfl) zq14 zq13 ?_)
  refine T.opsNil ?_
  refine T.seq ?_
  refine T.region ?_
  refine T.pv (PV.assign rfl) Wanted.none rfl rfl ?_
  refine T.opsNil ?_
  refine T.seq ?_
  refine T.seq ?_
  refine T.region ?_
  refine T.pv (PV.move rfl) Wanted.none rfl rfl ?_
  (refine T.callW Wanted.none rfl rfl (next_fn _ _ _ _ ?_ ?_) zq1 ?_; (focus assumption); (focus omega); rintro _ _ _ _ ⟨rfl, n13, t13, rfl, hn13, ht13, rfl⟩)
  refine T.pv (PV.assign rfl) Wanted.none rfl rfl ?_
  refine T.opsNil ?_
  refine T.block ?_
  obtain ⟨k0, hk0⟩ : ∃ k0 : Nat, (k0 : Int) = n13 := ⟨n13.toNat, by omega⟩
  rw [← hk0]
  refine T.loopK [(4, Value.pointer (some { block := b4, off := 0 })), (3, Value.pointer (some { block := bt, off := 0 }))] zq8 (γ := FiG) (fun g => g.t.ok H1 ∧ RowV 38 encFl 3 g.v g.lv g.L ∧ g.L.length + g.k ≤ 3) (fun g => [(6, .int .i64 (g.k : Int)), (5, g.v)]) (fun g => [Tp.blk bt g.t, (b4, .cells #[c.va, c.vt, c.vx, c.vr, c.vn, c.vh, c.vs] 33 (0, 0))] ++ g.lv) (fun _ => H1) (fun g => g.k) ⟨k0, t13, .slice none 0 0, [], []⟩ ⟨ht13, Vec.nil _ _, by simp; omega⟩ zq8 (by repeat (first | exact Sel.refl _ | exact Sel.nil | (refine Sel.cons zq1 ?_) | (refine Sel.app zq1 ?_) | exact Sel.one zq1)) rfl ?_
  rintro ⟨k, t2, v2, lv, L⟩ ⟨g1, g2, g3⟩
  dsimp only at g1 g2 g3 ⊢
  obtain ⟨adv, capv, rfl⟩ := g2.val
  by_cases hk : 0 < k
  · refine T.seq ?_
    refine T.seq ?_
    refine T.region ?_
    refine T.pv (PV.move rfl) Wanted.none rfl rfl ?_
    refine T.pv (PV.gtr rfl rfl) Wanted.none rfl rfl ?_
    refine T.opsNil ?_
    refine T.condT rfl (decide_eq_true (by omega)) ?_
    refine T.skip ?_
    refine T.seq ?_
    refine T.block ?_
    refine T.region ?_
    refine T.pv (PV.move rfl) Wanted.none rfl rfl ?_
    refine T.pv (PV.move rfl) Wanted.none rfl rfl ?_
    (refine T.callW Wanted.none rfl rfl (filter_fn _ _ _ ?_) zq1 ?_; (focus assumption); rintro _ _ _ _ ⟨rfl, t20, f20, rfl, ht20, hf20, rfl⟩; unfold flV)
    (refine T.buildSlice Wanted.none rfl rfl zq11 (by exact rfl) (by exact rfl) ?_; intro b21)
    (refine T.appendP (lv := lv) Wanted.none rfl rfl rfl g2 (Src.cells (m := 1) (ys := encFl f20) (.own zq2) rfl rfl) (one_encFl _) (by omega) zq1 ?_; intro v22 lv22 hv22 _; obtain ⟨ad22, cap22, rfl⟩ := hv22.val)
    refine T.pv (PV.assign rfl) Wanted.none rfl rfl ?_
    refine T.opsNil ?_
    refine T.blkEnd ?_
    refine T.region ?_
    refine T.pv (PV.move rfl) Wanted.none rfl rfl ?_
    refine T.pv (PV.sub rfl rfl (by omega)) Wanted.none rfl rfl ?_
    refine T.pv (PV.assign rfl) Wanted.none rfl rfl ?_
    refine T.opsNil ?_
    rw [show (k : Int) - 1 = ((k - 1 : Nat) : Int) by omega]
    exact T.nextP ⟨k - 1, t20, _, lv22, L ++ [f20]⟩ ⟨ht20, RowV.snoc hv22, by dsimp only; rw [List.length_append, List.length_singleton]; omega⟩ (by dsimp only; omega) zq8 (by repeat (first | exact Sel.refl _ | exact Sel.nil | (refine Sel.cons zq1 ?_) | (refine Sel.app zq1 ?_) | exact Sel.one zq1)) rfl
  · refine T.seq ?_
    refine T.seq ?_
    refine T.region ?_
    refine T.pv (PV.move rfl) Wanted.none rfl rfl ?_
    refine T.pv (PV.gtr rfl rfl) Wanted.none rfl rfl ?_
    refine T.opsNil ?_
    refine T.condF rfl (decide_eq_false (by omega)) ?_
    refine T.exit rfl ?_
    refine T.freezeP (lv := lv) g2 zq1 ?_
    intro H2 hle2 hL
    have g1 := g1.mono hle2
    refine T.seq ?_
    refine T.region ?_
    refine T.pv (PV.move rfl) Wanted.none rfl rfl ?_
    refine T.pv (PV.loadAll rfl zq0 (by exact rfl)) Wanted.none rfl rfl ?_
    (refine T.callW Wanted.none rfl rfl (hmt _ _ hle2 (by assumption)) zq1 ?_; rintro _ H3 _ hle3 ⟨t3, m, ht3, hm, hmn, hfit, rfl⟩; obtain ⟨am, cm, rfl⟩ := hm.1.len)
    refine T.pv (PV.assign rfl) Wanted.none rfl rfl ?_
    refine T.opsNil ?_
    have hL3 := hL.mono hle3
    have hc3 := hc.mono (hle2.trans hle3)
    have ai := apply_in c L m _ _ H3 hc3 hL3 hm (by omega) (by omega) (fun x hx => by have := (hfit x hx).2.1; omega)
    have ar := fun H (h : H3.le H) => apply_ref c L m _ _ H (hc3.mono h) (hL3.mono h) (hm.mono h) (by omega) (by omega)
    unfold cpV at ai ar
    (repeat refine T.seq ?_)
    refine T.regionO [(b4, .cells #[c.va, c.vt, c.vx, c.vr, c.vn, c.vh, c.vs] 33 (0, 0))] (by kernel_rfl) ?_
    refine TO.take 0 rfl (by kernel_rfl) (by kernel_rfl) (by kernel_rfl) (PV.loadAll rfl zq0 (by exact rfl)) Wanted.none rfl rfl ?_
    refine TO.take 1 rfl (by kernel_rfl) (by kernel_rfl) (by kernel_rfl) (PV.move rfl) Wanted.none rfl rfl ?_
    refine TO.take 2 rfl (by kernel_rfl) (by kernel_rfl) (by kernel_rfl) (PV.move rfl) Wanted.none rfl rfl ?_
    refine TO.take 4 rfl (by kernel_rfl) (by kernel_rfl) (by kernel_rfl) (PV.loadAll rfl zq0 (by exact rfl)) Wanted.none rfl rfl ?_
    refine TO.take 5 rfl (by kernel_rfl) (by kernel_rfl) (by kernel_rfl) (PV.move rfl) Wanted.none rfl rfl ?_
    refine TO.take 6 rfl (by kernel_rfl) (by kernel_rfl) (by kernel_rfl) (PV.move rfl) Wanted.none rfl rfl ?_
    refine TO.step 3 rfl (by kernel_rfl) zq4 zq10 ?_
    (refine T.call Wanted.none rfl rfl ai ?_; rintro _ H4 hle4 ⟨x, hx, hxe⟩)
    refine T.opsNil ?_
    refine TO.back ?_
    refine TO.step 7 rfl (by kernel_rfl) zq4 zq10 ?_
    (refine T.call Wanted.none rfl rfl (ar _ hle4) ?_; rintro _ H5 hle5 hy)
    refine T.opsNil ?_
    refine TO.back ?_
    refine TO.step 8 rfl (by kernel_rfl) zq4 zq10 ?_
    (refine T.callX Wanted.none rfl rfl (same24_fn _ _ _ _ _ (hx.mono hle5) hy (len_mk3 hxe hmn)) ?_; rintro _ rfl; rw [decide_eq_true (key_mk3 hxe)])
    refine T.opsNil ?_
    refine TO.back ?_
    refine TO.take 9 rfl (by kernel_rfl) (by kernel_rfl) (by kernel_rfl) (PV.move rfl) Wanted.none rfl rfl ?_
    refine TO.step 10 rfl (by kernel_rfl) zq4 zq10 ?_
    have kn := known_fn H5
    refine T.callV (Wanted.guard rfl rfl rfl) rfl rfl (kn) ?_
    refine T.opsNil ?_
    refine TO.back ?_
    refine TO.take 11 rfl (by kernel_rfl) (by kernel_rfl) (by kernel_rfl) (PV.pickT rfl rfl rfl) Wanted.none rfl rfl ?_
    refine TO.take 12 rfl (by kernel_rfl) (by kernel_rfl) (by kernel_rfl) (PV.assign rfl) Wanted.none rfl rfl ?_
    refine TO.done (by kernel_rfl) zq4 zq10 ?_
    exact T.retF (Lv.fin (RV.tmp rfl rfl) rfl)
end Go.Proofs.Ytchgfjclchhgmaa
