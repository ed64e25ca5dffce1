/- regions: Spans, the reference. -/
import Derived.Test.YtchgfjclchhgmaaFRH
namespace Go.Proofs.Ytchgfjclchhgmaa
open Go.RowKit

def kindSp (l : List Rg) (kind : ByteArray) : List Sp := (l.filter fun r => decide (r.ty = kind)).map fun r => (r.b, r.e)
theorem kindSp_of (l : List Rg) (kind : ByteArray) : (ofL l kind).map spOf = kindSp l kind := by
  unfold ofL kindSp
  have : ∀ (l : List Rg) (n : Nat), ((l.zipIdx n).filter fun p => decide (p.1.ty = kind)).map spOf = (l.filter fun r => decide (r.ty = kind)).map fun r => (r.b, r.e) := by
    intro l
    induction l with
    | nil => intro n; rfl
    | cons r l ih =>
      intro n
      rw [List.zipIdx_cons, List.filter_cons, List.filter_cons]
      by_cases h : r.ty = kind
      · simp only [h, decide_true, if_true, List.map_cons, ih]; rfl
      · simp only [h, decide_false, Bool.false_eq_true, if_false, ih]
  exact this l 0
structure RsG where
  i : Nat
  H : Hp
  v : Value
set_option maxHeartbeats 2000000 in
theorem spans_ref (c : Cp) (kind : ByteArray) (H : Hp) (hc : CpL H c) (hlr0 : c.rg.length ≤ 1000) : Fn Try.prog 30 #[cpV c, .string kind] H (fun u H' => SpL H' u ((kindSp c.rg kind).foldl insC [])) := by
  obtain ⟨aa, ca, at1, ct, ax, cx, ar, cr, an, cn, ah, ch, as1, cs, hcv, ha, ht, hx, hr, hn, hh, hs⟩ := hc.open; rw [hcv]; have hla := hc.la; have hlt := hc.lt; have hlx := hc.lx; have hlr := hc.lr; have hln := hc.ln; have hlh := hc.lh; have hls := hc.ls
  refine Fn.of_T (vs := [.agg #[.slice aa c.att.length ca, .slice at1 c.tk.length ct, .slice ax c.tx.length cx, .slice ar c.rg.length cr, .slice an c.nd.length cn, .slice ah c.hd.length ch, .slice as1 c.rl.length cs], .string kind]) Try.func30 rfl rfl fun w => ?_
  refine T.seq ?_
  refine T.region ?_
  (refine T.box Wanted.none rfl rfl zq15 ?_; intro b2)
  refine T.pv (PV.assign rfl) Wanted.none rfl rfl ?_
  refine T.opsNil ?_
  refine T.seq ?_
  refine T.region ?_
  refine T.pv (PV.assign rfl) Wanted.none rfl rfl ?_
  refine T.opsNil ?_
  refine T.seq ?_
  refine T.seq ?_
  refine T.region ?_
  refine T.pv (PV.fieldAddr rfl) Wanted.none rfl rfl ?_
  refine T.pv (PV.load1 rfl zq0 rfl) Wanted.none rfl rfl ?_
  refine T.pv (PV.lenSl rfl) Wanted.none rfl rfl ?_
  refine T.pv (PV.move rfl) Wanted.none rfl rfl ?_
  refine T.opsNil ?_
  refine T.block ?_
  refine T.loopK [(10, Value.int IntKind.i64 (↑c.rg.length : Int)), (9, Value.slice ar c.rg.length cr), (1, Value.string kind)] zq8 (γ := RsG) (fun g => g.i ≤ c.rg.length ∧ H.le g.H ∧ SpL g.H g.v ((kindSp (c.rg.take g.i) kind).foldl insC [])) (fun g => [(11, .int .i64 (g.i : Int)), (5, g.v)]) (fun g => _) (fun g => g.H) (fun g => c.rg.length - g.i) ⟨0, H, .slice none 0 0⟩ ⟨by simp, Hp.le.refl _, SlR.empty⟩ zq8 (Sel.refl _) rfl ?_
  rintro ⟨i, H2, v⟩ ⟨g1, g2, g3⟩
  dsimp only at g1 g2 g3 ⊢
  obtain ⟨adv, capv, hvv⟩ := g3.len
  by_cases hi : i < c.rg.length
  · obtain ⟨bx, off, r, rfl, hir, hsub⟩ := RowL.get encRg_len (hr.1.mono g2) hi
    obtain ⟨am, cm, hmv⟩ := (hr.2 r (List.mem_of_getElem? hir)).1.len
    unfold encRg at hsub
    rw [hmv] at hsub
    have hst : kindSp (c.rg.take (i + 1)) kind = kindSp (c.rg.take i) kind ++ if r.ty = kind then [(r.b, r.e)] else [] := by
      unfold kindSp
      rw [List.take_add_one, hir, List.filter_append, List.map_append]
      congr 1
      by_cases h : r.ty = kind <;> simp [h]
    have hlen : (kindSp (c.rg.take i) kind).length ≤ 1000 := by
      unfold kindSp
      rw [List.length_map]
      refine Nat.le_trans (List.length_filter_le _ _) ?_
      rw [List.length_take]; omega
    have hpw := (foldInsC (kindSp (c.rg.take i) kind) [] List.Pairwise.nil).1
    by_cases hk : r.ty = kind
    · have hd := decide_eq_true hk
      rw [if_pos hk] at hst
      have hin := insert_fn ((kindSp (c.rg.take i) kind).foldl insC []) (r.b, r.e) v H2 g3 (by have := foldInsC_len (kindSp (c.rg.take i) kind) []; simp at this; omega) hpw
      unfold spV at hin
      refine T.seq ?_
      refine T.region ?_
      refine T.pv (PV.lss rfl rfl) Wanted.none rfl rfl ?_
      refine T.opsNil ?_
      refine T.seq ?_
      refine T.condT rfl (decide_eq_true (by omega)) ?_
      refine T.skip ?_
      refine T.seq ?_
      refine T.block ?_
      refine T.seq ?_
      refine T.region ?_
      refine T.pv (PV.indexAddr rfl rfl (by omega)) Wanted.none rfl rfl ?_
      refine T.pv (PV.loadSubAll rfl (by assumption) (by exact rfl)) Wanted.none rfl rfl ?_
      (refine T.alloc Wanted.none rfl ?_; intro b7)
      refine T.storeA Wanted.none rfl rfl zq8 (by exact rfl) zq14 zq13 ?_
      refine T.opsNil ?_
      refine T.seq ?_
      refine T.region ?_
      refine T.pv (PV.fieldAddr rfl) Wanted.none rfl rfl ?_
      refine T.pv (PV.load1 rfl zq0 rfl) Wanted.none rfl rfl ?_
      refine T.pv (PV.move rfl) Wanted.none rfl rfl ?_
      refine T.pv (PV.seql rfl rfl) Wanted.none rfl rfl ?_
      refine T.opsNil ?_
      refine T.condT rfl (by assumption) ?_
      refine T.region ?_
      refine T.pv (PV.move rfl) Wanted.none rfl rfl ?_
      refine T.pv (PV.fieldAddr rfl) Wanted.none rfl rfl ?_
      refine T.pv (PV.load1 rfl zq0 rfl) Wanted.none rfl rfl ?_
      refine T.pv (PV.fieldAddr rfl) Wanted.none rfl rfl ?_
      refine T.pv (PV.load1 rfl zq0 rfl) Wanted.none rfl rfl ?_
      refine T.pv (PV.build rfl zq12) Wanted.none rfl rfl ?_
      (refine T.call Wanted.none rfl rfl hin ?_; rintro u H3 hle3 hu)
      refine T.pv (PV.assign rfl) Wanted.none rfl rfl ?_
      refine T.opsNil ?_
      refine T.blkEnd ?_
      refine T.region ?_
      refine T.pv (PV.add rfl rfl (by omega)) Wanted.none rfl rfl ?_
      refine T.pv (PV.move rfl) Wanted.none rfl rfl ?_
      refine T.opsNil ?_
      exact T.nextP ⟨i + 1, H3, u⟩ ⟨by dsimp only; omega, g2.trans hle3, by dsimp only; rw [hst, List.foldl_append]; exact hu⟩ (by dsimp only; omega) zq8 (by repeat (first | exact Sel.refl _ | exact Sel.nil | (refine Sel.cons zq1 ?_) | (refine Sel.app zq1 ?_) | exact Sel.one zq1)) rfl
    · have hd := decide_eq_false hk
      rw [if_neg hk, List.append_nil] at hst
      refine T.seq ?_
      refine T.region ?_
      refine T.pv (PV.lss rfl rfl) Wanted.none rfl rfl ?_
      refine T.opsNil ?_
      refine T.seq ?_
      refine T.condT rfl (decide_eq_true (by omega)) ?_
      refine T.skip ?_
      refine T.seq ?_
      refine T.block ?_
      refine T.seq ?_
      refine T.region ?_
      refine T.pv (PV.indexAddr rfl rfl (by omega)) Wanted.none rfl rfl ?_
      refine T.pv (PV.loadSubAll rfl (by assumption) (by exact rfl)) Wanted.none rfl rfl ?_
      (refine T.alloc Wanted.none rfl ?_; intro b7)
      refine T.storeA Wanted.none rfl rfl zq8 (by exact rfl) zq14 zq13 ?_
      refine T.opsNil ?_
      refine T.seq ?_
      refine T.region ?_
      refine T.pv (PV.fieldAddr rfl) Wanted.none rfl rfl ?_
      refine T.pv (PV.load1 rfl zq0 rfl) Wanted.none rfl rfl ?_
      refine T.pv (PV.move rfl) Wanted.none rfl rfl ?_
      refine T.pv (PV.seql rfl rfl) Wanted.none rfl rfl ?_
      refine T.opsNil ?_
      refine T.condF rfl (by assumption) ?_
      refine T.skip ?_
      refine T.blkEnd ?_
      refine T.region ?_
      refine T.pv (PV.add rfl rfl (by omega)) Wanted.none rfl rfl ?_
      refine T.pv (PV.move rfl) Wanted.none rfl rfl ?_
      refine T.opsNil ?_
      exact T.nextP ⟨i + 1, H2, v⟩ ⟨by dsimp only; omega, g2, by dsimp only; rw [hst]; exact g3⟩ (by dsimp only; omega) zq8 (by repeat (first | exact Sel.refl _ | exact Sel.nil | (refine Sel.cons zq1 ?_) | (refine Sel.app zq1 ?_) | exact Sel.one zq1)) rfl
  · rw [List.take_of_length_le (by omega)] at g3
    refine T.seq ?_
    refine T.region ?_
    refine T.pv (PV.lss rfl rfl) Wanted.none rfl rfl ?_
    refine T.opsNil ?_
    refine T.seq ?_
    refine T.condF rfl (decide_eq_false (by omega)) ?_
    refine T.exit rfl ?_
    refine T.seq ?_
    refine T.region ?_
    refine T.pv (PV.move rfl) Wanted.none rfl rfl ?_
    refine T.pv (PV.assign rfl) Wanted.none rfl rfl ?_
    refine T.opsNil ?_
    exact T.retF (Lv.fin (RV.tmp rfl rfl) g3)
end Go.Proofs.Ytchgfjclchhgmaa
