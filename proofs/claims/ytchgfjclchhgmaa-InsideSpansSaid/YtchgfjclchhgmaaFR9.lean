/- made corpora: spans. -/
import Derived.Test.YtchgfjclchhgmaaGB
namespace Go.Proofs.Ytchgfjclchhgmaa
open Go.RowKit

/-- a span that is not empty and lies in a text -/
def inTx (l : List Rg) (s : Sp) : Prop := ∃ x ∈ l, x.b ≤ s.1 ∧ s.1 < s.2 ∧ s.2 ≤ x.e
structure SpG where
  i : Nat
  v : Value
  lv : List (Nat × Obj)
set_option maxHeartbeats 2000000 in
theorem spans_fn (bt : Nat) (t : Tp) (c : Cp) (most : Int) (H : Hp) (ht : t.ok H) (hc : CpL H c) (hg : CpG c) (hb : CpB 3 c) (hm : 0 ≤ most ∧ most ≤ 20) :
    FnW Try.prog 22 #[.pointer (some ⟨bt, 0, none⟩), cpV c, .int .i64 most] H [Tp.blk bt t]
      (fun u H' l' => ∃ t' L, t'.ok H' ∧ SpL H' u L ∧ (L.length : Int) ≤ most ∧ (∀ s ∈ L, inTx c.tx s) ∧ l' = [Tp.blk bt t']) := by
  have hmt := matches_fn bt t c 0 most H ht hc hg hb (by omega) hm
  rw [show ((0 : Nat) : Int) = 0 from rfl] at hmt
  unfold cpV at hmt ⊢
  refine FnW.of_T (vs := [.pointer (some ⟨bt, 0, none⟩), .agg #[c.va, c.vt, c.vx, c.vr, c.vn, c.vh, c.vs], .int .i64 most]) Try.func22 rfl rfl fun w => ?_
  refine T.seq ?_
  refine T.region ?_
  (refine T.box Wanted.none rfl rfl zq15 ?_; intro b4)
  refine T.pv (PV.assign rfl) Wanted.none rfl rfl ?_
  refine T.opsNil ?_
  refine T.seq ?_
  refine T.region ?_
  refine T.pv (PV.assign rfl) Wanted.none rfl rfl ?_
  refine T.opsNil ?_
  refine T.seq ?_
  refine T.seq ?_
  refine T.region ?_
  refine T.pv (PV.move rfl) Wanted.none rfl rfl ?_
  refine T.pv (PV.loadAll rfl zq0 (by exact rfl)) Wanted.none rfl rfl ?_
  refine T.pv (PV.move rfl) Wanted.none rfl rfl ?_
  (refine T.callW Wanted.none rfl rfl hmt zq1 ?_; rintro _ H1 _ hle1 ⟨t1, L, ht1, hL, hn, hfit, rfl⟩; obtain ⟨am, cm, rfl⟩ := hL.1.len)
  refine T.pv (PV.lenSl rfl) Wanted.none rfl rfl ?_
  refine T.pv (PV.move rfl) Wanted.none rfl rfl ?_
  refine T.opsNil ?_
  refine T.block ?_
  refine T.loopK [(14, Value.int IntKind.i64 (↑L.length : Int)), (13, Value.slice am L.length cm)] zq8 (γ := SpG) (fun g => g.i ≤ L.length ∧ RowV 25 encS 2 g.v g.lv ((L.take g.i).map fun m => (m.b, m.e))) (fun g => [(15, .int .i64 (g.i : Int)), (7, g.v)]) (fun g => Tp.blk bt t1 :: g.lv) (fun _ => H1) (fun g => L.length - g.i) ⟨0, .slice none 0 0, []⟩ ⟨by simp, Vec.nil _ _⟩ zq8 (by repeat (first | exact Sel.refl _ | exact Sel.nil | (refine Sel.cons zq1 ?_) | (refine Sel.app zq1 ?_) | exact Sel.one zq1)) rfl ?_
  rintro ⟨i, v, lv⟩ ⟨g1, g2⟩
  dsimp only at g1 g2 ⊢
  obtain ⟨adv, capv, rfl⟩ := g2.val
  have hLl : ((L.take i).map fun m => ((m.b, m.e) : Sp)).length ≤ 20 := by
    rw [List.length_map, List.length_take]; omega
  by_cases hi : i < L.length
  · obtain ⟨bx, off, m, rfl, hix, hsub⟩ := RowL.get encM_len hL.1 hi
    have hmm := List.mem_of_getElem? hix
    obtain ⟨al, cl, hmv⟩ := (hL.2 m hmm).1.len
    unfold encM at hsub
    rw [hmv] at hsub
    have hst : ((L.take (i + 1)).map fun m => ((m.b, m.e) : Sp)) = ((L.take i).map fun m => ((m.b, m.e) : Sp)) ++ [(m.b, m.e)] := by
      rw [List.take_add_one, hix, List.map_append]; rfl
    refine T.seq ?_
    refine T.region ?_
    refine T.pv (PV.lss rfl rfl) Wanted.none rfl rfl ?_
    refine T.opsNil ?_
    refine T.seq ?_
    refine T.condT rfl (decide_eq_true (by omega)) ?_
    refine T.skip ?_
    refine T.seq ?_
    refine T.block ?_
    refine T.seq ?_
    refine T.region ?_
    refine T.pv (PV.indexAddr rfl rfl (by omega)) Wanted.none rfl rfl ?_
    refine T.pv (PV.loadSubAll rfl (by assumption) (by exact rfl)) Wanted.none rfl rfl ?_
    (refine T.alloc Wanted.none rfl ?_; intro b9)
    refine T.storeA Wanted.none rfl rfl zq8 (by exact rfl) zq14 zq13 ?_
    refine T.opsNil ?_
    refine T.region ?_
    refine T.pv (PV.move rfl) Wanted.none rfl rfl ?_
    refine T.pv (PV.fieldAddr rfl) Wanted.none rfl rfl ?_
    refine T.pv (PV.load1 rfl zq0 rfl) Wanted.none rfl rfl ?_
    refine T.pv (PV.fieldAddr rfl) Wanted.none rfl rfl ?_
    refine T.pv (PV.load1 rfl zq0 rfl) Wanted.none rfl rfl ?_
    refine T.pv (PV.build rfl zq12) Wanted.none rfl rfl ?_
    (refine T.buildSlice Wanted.none rfl rfl zq11 (by exact rfl) (by exact rfl) ?_; intro b25)
    (refine T.appendP (lv := lv) Wanted.none rfl rfl rfl g2 (Src.cells (m := 1) (ys := encS (m.b, m.e)) (.own zq2) rfl rfl) (one_encS _) (by omega) zq1 ?_; intro v26 lv26 hv26 _; obtain ⟨ad26, cap26, rfl⟩ := hv26.val)
    refine T.pv (PV.assign rfl) Wanted.none rfl rfl ?_
    refine T.opsNil ?_
    refine T.blkEnd ?_
    refine T.region ?_
    refine T.pv (PV.add rfl rfl (by omega)) Wanted.none rfl rfl ?_
    refine T.pv (PV.move rfl) Wanted.none rfl rfl ?_
    refine T.opsNil ?_
    refine T.nextP ⟨i + 1, _, lv26⟩ ⟨by dsimp only; omega, by dsimp only; rw [hst]; exact RowV.snoc hv26⟩ (by dsimp only; omega) zq8 (by repeat (first | exact Sel.refl _ | exact Sel.nil | (refine Sel.cons zq1 ?_) | (refine Sel.app zq1 ?_) | exact Sel.one zq1)) rfl
  · rw [List.take_of_length_le (by omega)] at g2 hLl ⊢
    refine T.seq ?_
    refine T.region ?_
    refine T.pv (PV.lss rfl rfl) Wanted.none rfl rfl ?_
    refine T.opsNil ?_
    refine T.seq ?_
    refine T.condF rfl (decide_eq_false (by omega)) ?_
    refine T.exit rfl ?_
    refine T.seq ?_
    refine T.region ?_
    refine T.pv (PV.move rfl) Wanted.none rfl rfl ?_
    refine T.pv (PV.assign rfl) Wanted.none rfl rfl ?_
    refine T.opsNil ?_
    refine T.freezeP (lv := lv) g2 zq1 ?_
    intro H3 hle3 hs3
    refine T.retW (Lv.finW [Tp.blk bt t1] zq4 (RV.tmp rfl rfl) ⟨t1, L.map fun m => (m.b, m.e), ht1.mono hle3, hs3, by rw [List.length_map]; omega, fun s hs => ?_, rfl⟩)
    obtain ⟨m, hm, rfl⟩ := List.mem_map.1 hs
    exact (hfit m hm).1
end Go.Proofs.Ytchgfjclchhgmaa
