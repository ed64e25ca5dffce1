/- regions: the statement Implies. -/
import Derived.Test.YtchgfjclchhgmaaFRA
namespace Go.Proofs.Ytchgfjclchhgmaa
open Go.RowKit

set_option maxHeartbeats 2000000 in
theorem implies_fn (l : List Int) (v : Value) (H : Hp) (hv : InL H v l) (hl : l.length ≤ 9223372036854775807) (hr : ∀ x ∈ l, -9223372036854775808 ≤ x ∧ x ≤ 9223372036854775807) :
    Fn Try.prog 4 #[v] H (fun u _ => u = .bool true) := by
  refine Fn.of_T (vs := [v]) Try.func4 rfl rfl fun w => ?_
  refine T.seq ?_
  refine T.region ?_
  refine T.pv (PV.assign rfl) Wanted.none rfl rfl ?_
  refine T.opsNil ?_
  refine T.seq ?_
  refine T.region ?_
  refine T.pv (PV.move rfl) Wanted.none rfl rfl ?_
  refine T.callW (l0 := []) Wanted.none rfl rfl (new_fn l v H hv hl hr) zq1 ?_
  rintro _ _ _ _ ⟨rfl, bt, t, rfl, ht, rfl⟩
  refine T.pv (PV.assign rfl) Wanted.none rfl rfl ?_
  refine T.opsNil ?_
  refine T.seq ?_
  refine T.region ?_
  refine T.pv (PV.move rfl) Wanted.none rfl rfl ?_
  refine T.callW Wanted.none rfl rfl (corpus_fn bt t 7 H ht (by omega)) zq1 ?_
  rintro _ H1 _ hle1 ⟨t1, c, rfl, ht1, hc, hg, hb, rfl⟩
  have hsp := fun t (h : Tp.ok H1 t) => spans_fn bt t c 6 H1 h hc hg hb (by omega)
  unfold cpV at hsp
  unfold cpV
  (refine T.alloc Wanted.none rfl ?_; intro b4)
  (refine T.storeA Wanted.none rfl rfl (cp_one hc) (by exact rfl) zq14 zq13 ?_)
  refine T.opsNil ?_
  refine T.seq ?_
  refine T.region ?_
  refine T.pv (PV.move rfl) Wanted.none rfl rfl ?_
  (refine T.callW Wanted.none rfl rfl (next_fn _ _ _ _ ?_ ?_) zq1 ?_; (focus assumption); (focus omega); rintro _ _ _ _ ⟨rfl, n16, t16, rfl, hn16, ht16, rfl⟩)
  (refine T.callX Wanted.none rfl rfl (type_fn _ _ ?_) ?_; (focus omega); rintro _ ⟨kind, hk, rfl⟩)
  refine T.pv (PV.assign rfl) Wanted.none rfl rfl ?_
  refine T.opsNil ?_
  refine T.seq ?_
  refine T.seq ?_
  refine T.region ?_
  refine T.pv (PV.move rfl) Wanted.none rfl rfl ?_
  refine T.pv (PV.loadAll rfl zq0 (by exact rfl)) Wanted.none rfl rfl ?_
  (refine T.callW Wanted.none rfl rfl (hsp _ (by assumption)) zq1 ?_; rintro _ H2 _ hle2 ⟨t2, L, ht2, hL, hLn, hin, rfl⟩; obtain ⟨am, cm, rfl⟩ := hL.len)
  refine T.pv (PV.lenSl rfl) Wanted.none rfl rfl ?_
  refine T.pv (PV.move rfl) Wanted.none rfl rfl ?_
  refine T.opsNil ?_
  refine T.block ?_
  have hi := fun f s => holds_in c f s H2 (hc.mono hle2)
  have li := fun k s => last_in c k s H2 (hc.mono hle2)
  unfold cpV spV at hi li
  refine T.loopR [(21, Value.int IntKind.i64 (↑L.length : Int)), (20, Value.slice am L.length cm), (5, Value.string kind), (4, Value.pointer (some { block := b4, off := 0 }))] zq8 22 L.length rfl ?_
  intro i hi0
  by_cases hlt : i < L.length
  · obtain ⟨b, off, s, rfl, hix, hsub⟩ := RowL.get encS_len hL hlt
    unfold encS at hsub
    have hs := hin s (List.mem_of_getElem? hix)
    have k1 := hi ⟨1, false, kind⟩ s
    have k2 := hi ⟨3, false, kind⟩ s
    have k3 := hi ⟨2, false, kind⟩ s
    have k4 := li kind s
    unfold flV at k1 k2 k3
    dsimp only at k1 k2 k3
    have hl1 := holds_last hg hs hk
    have hov := within_over hg hs hk
    have hrg := lastI_range c.rg kind s
    generalize holdsB c ⟨1, false, kind⟩ s = w at *
    generalize holdsB c ⟨3, false, kind⟩ s = o at *
    generalize holdsB c ⟨2, false, kind⟩ s = n at *
    generalize lastI c.rg kind s = x at *
    by_cases hx : 0 ≤ x
    · rw [decide_eq_true hx] at hl1
      subst hl1
      have := hov (.inl rfl)
      subst this
      have hge : (true != decide (x ≥ 0)) = false := by rw [decide_eq_true hx]; rfl
      cases n
      · refine T.seq ?_
        refine T.region ?_
        refine T.pv (PV.lss rfl rfl) Wanted.none rfl rfl ?_
        refine T.opsNil ?_
        refine T.seq ?_
        refine T.condT rfl (decide_eq_true (by omega)) ?_
        refine T.skip ?_
        refine T.seq ?_
        refine T.block ?_
        refine T.seq ?_
        refine T.region ?_
        refine T.pv (PV.indexAddr rfl rfl (by omega)) Wanted.none rfl rfl ?_
        refine T.pv (PV.loadSubAll rfl (by assumption) (by exact rfl)) Wanted.none rfl rfl ?_
        (refine T.alloc Wanted.none rfl ?_; intro b7)
        refine T.storeA Wanted.none rfl rfl zq8 (by exact rfl) zq14 zq13 ?_
        refine T.opsNil ?_
        refine T.seq ?_
        refine T.region ?_
        refine T.pv (PV.loadAll rfl zq0 (by exact rfl)) Wanted.none rfl rfl ?_
        refine T.pv (PV.move rfl) Wanted.none rfl rfl ?_
        refine T.pv (PV.build rfl zq12) Wanted.none rfl rfl ?_
        refine T.pv (PV.loadAll rfl zq0 (by exact rfl)) Wanted.none rfl rfl ?_
        refine T.callV Wanted.none rfl rfl (k1) ?_
        refine T.pv (PV.assign rfl) Wanted.none rfl rfl ?_
        refine T.opsNil ?_
        refine T.seq ?_
        refine T.region ?_
        refine T.pv (PV.loadAll rfl zq0 (by exact rfl)) Wanted.none rfl rfl ?_
        refine T.pv (PV.move rfl) Wanted.none rfl rfl ?_
        refine T.pv (PV.build rfl zq12) Wanted.none rfl rfl ?_
        refine T.pv (PV.loadAll rfl zq0 (by exact rfl)) Wanted.none rfl rfl ?_
        refine T.callV Wanted.none rfl rfl (k2) ?_
        refine T.pv (PV.assign rfl) Wanted.none rfl rfl ?_
        refine T.opsNil ?_
        refine T.seq ?_
        refine T.region ?_
        refine T.pv (PV.loadAll rfl zq0 (by exact rfl)) Wanted.none rfl rfl ?_
        refine T.pv (PV.move rfl) Wanted.none rfl rfl ?_
        refine T.pv (PV.build rfl zq12) Wanted.none rfl rfl ?_
        refine T.pv (PV.loadAll rfl zq0 (by exact rfl)) Wanted.none rfl rfl ?_
        refine T.callV Wanted.none rfl rfl (k3) ?_
        refine T.pv (PV.assign rfl) Wanted.none rfl rfl ?_
        refine T.opsNil ?_
        refine T.seq ?_
        refine T.region ?_
        refine T.pv (PV.move rfl) Wanted.none rfl rfl ?_
        refine T.pv (PV.move rfl) Wanted.none rfl rfl ?_
        refine T.pass (Unwanted.guard rfl rfl rfl) rfl rfl ?_
        refine T.pv (PV.pickT rfl rfl rfl) Wanted.none rfl rfl ?_
        refine T.pv (PV.move rfl) Wanted.none rfl rfl ?_
        refine T.pv (PV.move rfl) (Wanted.guard rfl rfl rfl) rfl rfl ?_
        refine T.pv (PV.not rfl) (Wanted.guard rfl rfl rfl) rfl rfl ?_
        refine T.pv (PV.pickT rfl rfl rfl) Wanted.none rfl rfl ?_
        refine T.pv (PV.move rfl) Wanted.none rfl rfl ?_
        refine T.pv (PV.move rfl) (Wanted.guard rfl rfl rfl) rfl rfl ?_
        refine T.pv (PV.loadAll rfl zq0 (by exact rfl)) (Wanted.guard rfl rfl rfl) rfl rfl ?_
        refine T.pv (PV.move rfl) (Wanted.guard rfl rfl rfl) rfl rfl ?_
        refine T.pv (PV.loadAll rfl zq0 (by exact rfl)) (Wanted.guard rfl rfl rfl) rfl rfl ?_
        refine T.callV (Wanted.guard rfl rfl rfl) rfl rfl (k4) ?_
        refine T.pv (PV.geq rfl rfl) (Wanted.guard rfl rfl rfl) rfl rfl ?_
        refine T.pv (PV.bneq rfl rfl) (Wanted.guard rfl rfl rfl) rfl rfl ?_
        refine T.pv (PV.pickF rfl rfl rfl) Wanted.none rfl rfl ?_
        refine T.opsNil ?_
        refine T.condF rfl (by assumption) ?_
        refine T.skip ?_
        refine T.blkEnd ?_
        refine T.region ?_
        refine T.pv (PV.add rfl rfl (by omega)) Wanted.none rfl rfl ?_
        refine T.pv (PV.move rfl) Wanted.none rfl rfl ?_
        refine T.opsNil ?_
        exact T.nextR (by omega) rfl zq8 (by repeat (first | exact Sel.refl _ | exact Sel.nil | (refine Sel.cons zq1 ?_) | (refine Sel.app zq1 ?_) | exact Sel.one zq1))
      · refine T.seq ?_
        refine T.region ?_
        refine T.pv (PV.lss rfl rfl) Wanted.none rfl rfl ?_
        refine T.opsNil ?_
        refine T.seq ?_
        refine T.condT rfl (decide_eq_true (by omega)) ?_
        refine T.skip ?_
        refine T.seq ?_
        refine T.block ?_
        refine T.seq ?_
        refine T.region ?_
        refine T.pv (PV.indexAddr rfl rfl (by omega)) Wanted.none rfl rfl ?_
        refine T.pv (PV.loadSubAll rfl (by assumption) (by exact rfl)) Wanted.none rfl rfl ?_
        (refine T.alloc Wanted.none rfl ?_; intro b7)
        refine T.storeA Wanted.none rfl rfl zq8 (by exact rfl) zq14 zq13 ?_
        refine T.opsNil ?_
        refine T.seq ?_
        refine T.region ?_
        refine T.pv (PV.loadAll rfl zq0 (by exact rfl)) Wanted.none rfl rfl ?_
        refine T.pv (PV.move rfl) Wanted.none rfl rfl ?_
        refine T.pv (PV.build rfl zq12) Wanted.none rfl rfl ?_
        refine T.pv (PV.loadAll rfl zq0 (by exact rfl)) Wanted.none rfl rfl ?_
        refine T.callV Wanted.none rfl rfl (k1) ?_
        refine T.pv (PV.assign rfl) Wanted.none rfl rfl ?_
        refine T.opsNil ?_
        refine T.seq ?_
        refine T.region ?_
        refine T.pv (PV.loadAll rfl zq0 (by exact rfl)) Wanted.none rfl rfl ?_
        refine T.pv (PV.move rfl) Wanted.none rfl rfl ?_
        refine T.pv (PV.build rfl zq12) Wanted.none rfl rfl ?_
        refine T.pv (PV.loadAll rfl zq0 (by exact rfl)) Wanted.none rfl rfl ?_
        refine T.callV Wanted.none rfl rfl (k2) ?_
        refine T.pv (PV.assign rfl) Wanted.none rfl rfl ?_
        refine T.opsNil ?_
        refine T.seq ?_
        refine T.region ?_
        refine T.pv (PV.loadAll rfl zq0 (by exact rfl)) Wanted.none rfl rfl ?_
        refine T.pv (PV.move rfl) Wanted.none rfl rfl ?_
        refine T.pv (PV.build rfl zq12) Wanted.none rfl rfl ?_
        refine T.pv (PV.loadAll rfl zq0 (by exact rfl)) Wanted.none rfl rfl ?_
        refine T.callV Wanted.none rfl rfl (k3) ?_
        refine T.pv (PV.assign rfl) Wanted.none rfl rfl ?_
        refine T.opsNil ?_
        refine T.seq ?_
        refine T.region ?_
        refine T.pv (PV.move rfl) Wanted.none rfl rfl ?_
        refine T.pv (PV.move rfl) Wanted.none rfl rfl ?_
        refine T.pass (Unwanted.guard rfl rfl rfl) rfl rfl ?_
        refine T.pv (PV.pickT rfl rfl rfl) Wanted.none rfl rfl ?_
        refine T.pv (PV.move rfl) Wanted.none rfl rfl ?_
        refine T.pv (PV.move rfl) (Wanted.guard rfl rfl rfl) rfl rfl ?_
        refine T.pv (PV.not rfl) (Wanted.guard rfl rfl rfl) rfl rfl ?_
        refine T.pv (PV.pickT rfl rfl rfl) Wanted.none rfl rfl ?_
        refine T.pv (PV.move rfl) Wanted.none rfl rfl ?_
        refine T.pv (PV.move rfl) (Wanted.guard rfl rfl rfl) rfl rfl ?_
        refine T.pv (PV.loadAll rfl zq0 (by exact rfl)) (Wanted.guard rfl rfl rfl) rfl rfl ?_
        refine T.pv (PV.move rfl) (Wanted.guard rfl rfl rfl) rfl rfl ?_
        refine T.pv (PV.loadAll rfl zq0 (by exact rfl)) (Wanted.guard rfl rfl rfl) rfl rfl ?_
        refine T.callV (Wanted.guard rfl rfl rfl) rfl rfl (k4) ?_
        refine T.pv (PV.geq rfl rfl) (Wanted.guard rfl rfl rfl) rfl rfl ?_
        refine T.pv (PV.bneq rfl rfl) (Wanted.guard rfl rfl rfl) rfl rfl ?_
        refine T.pv (PV.pickF rfl rfl rfl) Wanted.none rfl rfl ?_
        refine T.opsNil ?_
        refine T.condF rfl (by assumption) ?_
        refine T.skip ?_
        refine T.blkEnd ?_
        refine T.region ?_
        refine T.pv (PV.add rfl rfl (by omega)) Wanted.none rfl rfl ?_
        refine T.pv (PV.move rfl) Wanted.none rfl rfl ?_
        refine T.opsNil ?_
        exact T.nextR (by omega) rfl zq8 (by repeat (first | exact Sel.refl _ | exact Sel.nil | (refine Sel.cons zq1 ?_) | (refine Sel.app zq1 ?_) | exact Sel.one zq1))
    · rw [decide_eq_false hx] at hl1
      subst hl1
      have hge : (false != decide (x ≥ 0)) = false := by rw [decide_eq_false hx]; rfl
      cases n
      · cases o
        · refine T.seq ?_
          refine T.region ?_
          refine T.pv (PV.lss rfl rfl) Wanted.none rfl rfl ?_
          refine T.opsNil ?_
          refine T.seq ?_
          refine T.condT rfl (decide_eq_true (by omega)) ?_
          refine T.skip ?_
          refine T.seq ?_
          refine T.block ?_
          refine T.seq ?_
          refine T.region ?_
          refine T.pv (PV.indexAddr rfl rfl (by omega)) Wanted.none rfl rfl ?_
          refine T.pv (PV.loadSubAll rfl (by assumption) (by exact rfl)) Wanted.none rfl rfl ?_
          (refine T.alloc Wanted.none rfl ?_; intro b7)
          refine T.storeA Wanted.none rfl rfl zq8 (by exact rfl) zq14 zq13 ?_
          refine T.opsNil ?_
          refine T.seq ?_
          refine T.region ?_
          refine T.pv (PV.loadAll rfl zq0 (by exact rfl)) Wanted.none rfl rfl ?_
          refine T.pv (PV.move rfl) Wanted.none rfl rfl ?_
          refine T.pv (PV.build rfl zq12) Wanted.none rfl rfl ?_
          refine T.pv (PV.loadAll rfl zq0 (by exact rfl)) Wanted.none rfl rfl ?_
          refine T.callV Wanted.none rfl rfl (k1) ?_
          refine T.pv (PV.assign rfl) Wanted.none rfl rfl ?_
          refine T.opsNil ?_
          refine T.seq ?_
          refine T.region ?_
          refine T.pv (PV.loadAll rfl zq0 (by exact rfl)) Wanted.none rfl rfl ?_
          refine T.pv (PV.move rfl) Wanted.none rfl rfl ?_
          refine T.pv (PV.build rfl zq12) Wanted.none rfl rfl ?_
          refine T.pv (PV.loadAll rfl zq0 (by exact rfl)) Wanted.none rfl rfl ?_
          refine T.callV Wanted.none rfl rfl (k2) ?_
          refine T.pv (PV.assign rfl) Wanted.none rfl rfl ?_
          refine T.opsNil ?_
          refine T.seq ?_
          refine T.region ?_
          refine T.pv (PV.loadAll rfl zq0 (by exact rfl)) Wanted.none rfl rfl ?_
          refine T.pv (PV.move rfl) Wanted.none rfl rfl ?_
          refine T.pv (PV.build rfl zq12) Wanted.none rfl rfl ?_
          refine T.pv (PV.loadAll rfl zq0 (by exact rfl)) Wanted.none rfl rfl ?_
          refine T.callV Wanted.none rfl rfl (k3) ?_
          refine T.pv (PV.assign rfl) Wanted.none rfl rfl ?_
          refine T.opsNil ?_
          refine T.seq ?_
          refine T.region ?_
          refine T.pv (PV.move rfl) Wanted.none rfl rfl ?_
          refine T.pv (PV.move rfl) Wanted.none rfl rfl ?_
          refine T.pv (PV.move rfl) (Wanted.guard rfl rfl rfl) rfl rfl ?_
          refine T.pv (PV.pickF rfl rfl rfl) Wanted.none rfl rfl ?_
          refine T.pv (PV.move rfl) Wanted.none rfl rfl ?_
          refine T.pass (Unwanted.guard rfl rfl rfl) rfl rfl ?_
          refine T.pass (Unwanted.guard rfl rfl rfl) rfl rfl ?_
          refine T.pv (PV.pickF rfl rfl rfl) Wanted.none rfl rfl ?_
          refine T.pv (PV.move rfl) Wanted.none rfl rfl ?_
          refine T.pv (PV.move rfl) (Wanted.guard rfl rfl rfl) rfl rfl ?_
          refine T.pv (PV.loadAll rfl zq0 (by exact rfl)) (Wanted.guard rfl rfl rfl) rfl rfl ?_
          refine T.pv (PV.move rfl) (Wanted.guard rfl rfl rfl) rfl rfl ?_
          refine T.pv (PV.loadAll rfl zq0 (by exact rfl)) (Wanted.guard rfl rfl rfl) rfl rfl ?_
          refine T.callV (Wanted.guard rfl rfl rfl) rfl rfl (k4) ?_
          refine T.pv (PV.geq rfl rfl) (Wanted.guard rfl rfl rfl) rfl rfl ?_
          refine T.pv (PV.bneq rfl rfl) (Wanted.guard rfl rfl rfl) rfl rfl ?_
          refine T.pv (PV.pickF rfl rfl rfl) Wanted.none rfl rfl ?_
          refine T.opsNil ?_
          refine T.condF rfl (by assumption) ?_
          refine T.skip ?_
          refine T.blkEnd ?_
          refine T.region ?_
          refine T.pv (PV.add rfl rfl (by omega)) Wanted.none rfl rfl ?_
          refine T.pv (PV.move rfl) Wanted.none rfl rfl ?_
          refine T.opsNil ?_
          exact T.nextR (by omega) rfl zq8 (by repeat (first | exact Sel.refl _ | exact Sel.nil | (refine Sel.cons zq1 ?_) | (refine Sel.app zq1 ?_) | exact Sel.one zq1))
        · refine T.seq ?_
          refine T.region ?_
          refine T.pv (PV.lss rfl rfl) Wanted.none rfl rfl ?_
          refine T.opsNil ?_
          refine T.seq ?_
          refine T.condT rfl (decide_eq_true (by omega)) ?_
          refine T.skip ?_
          refine T.seq ?_
          refine T.block ?_
          refine T.seq ?_
          refine T.region ?_
          refine T.pv (PV.indexAddr rfl rfl (by omega)) Wanted.none rfl rfl ?_
          refine T.pv (PV.loadSubAll rfl (by assumption) (by exact rfl)) Wanted.none rfl rfl ?_
          (refine T.alloc Wanted.none rfl ?_; intro b7)
          refine T.storeA Wanted.none rfl rfl zq8 (by exact rfl) zq14 zq13 ?_
          refine T.opsNil ?_
          refine T.seq ?_
          refine T.region ?_
          refine T.pv (PV.loadAll rfl zq0 (by exact rfl)) Wanted.none rfl rfl ?_
          refine T.pv (PV.move rfl) Wanted.none rfl rfl ?_
          refine T.pv (PV.build rfl zq12) Wanted.none rfl rfl ?_
          refine T.pv (PV.loadAll rfl zq0 (by exact rfl)) Wanted.none rfl rfl ?_
          refine T.callV Wanted.none rfl rfl (k1) ?_
          refine T.pv (PV.assign rfl) Wanted.none rfl rfl ?_
          refine T.opsNil ?_
          refine T.seq ?_
          refine T.region ?_
          refine T.pv (PV.loadAll rfl zq0 (by exact rfl)) Wanted.none rfl rfl ?_
          refine T.pv (PV.move rfl) Wanted.none rfl rfl ?_
          refine T.pv (PV.build rfl zq12) Wanted.none rfl rfl ?_
          refine T.pv (PV.loadAll rfl zq0 (by exact rfl)) Wanted.none rfl rfl ?_
          refine T.callV Wanted.none rfl rfl (k2) ?_
          refine T.pv (PV.assign rfl) Wanted.none rfl rfl ?_
          refine T.opsNil ?_
          refine T.seq ?_
          refine T.region ?_
          refine T.pv (PV.loadAll rfl zq0 (by exact rfl)) Wanted.none rfl rfl ?_
          refine T.pv (PV.move rfl) Wanted.none rfl rfl ?_
          refine T.pv (PV.build rfl zq12) Wanted.none rfl rfl ?_
          refine T.pv (PV.loadAll rfl zq0 (by exact rfl)) Wanted.none rfl rfl ?_
          refine T.callV Wanted.none rfl rfl (k3) ?_
          refine T.pv (PV.assign rfl) Wanted.none rfl rfl ?_
          refine T.opsNil ?_
          refine T.seq ?_
          refine T.region ?_
          refine T.pv (PV.move rfl) Wanted.none rfl rfl ?_
          refine T.pv (PV.move rfl) Wanted.none rfl rfl ?_
          refine T.pv (PV.move rfl) (Wanted.guard rfl rfl rfl) rfl rfl ?_
          refine T.pv (PV.pickF rfl rfl rfl) Wanted.none rfl rfl ?_
          refine T.pv (PV.move rfl) Wanted.none rfl rfl ?_
          refine T.pass (Unwanted.guard rfl rfl rfl) rfl rfl ?_
          refine T.pass (Unwanted.guard rfl rfl rfl) rfl rfl ?_
          refine T.pv (PV.pickF rfl rfl rfl) Wanted.none rfl rfl ?_
          refine T.pv (PV.move rfl) Wanted.none rfl rfl ?_
          refine T.pv (PV.move rfl) (Wanted.guard rfl rfl rfl) rfl rfl ?_
          refine T.pv (PV.loadAll rfl zq0 (by exact rfl)) (Wanted.guard rfl rfl rfl) rfl rfl ?_
          refine T.pv (PV.move rfl) (Wanted.guard rfl rfl rfl) rfl rfl ?_
          refine T.pv (PV.loadAll rfl zq0 (by exact rfl)) (Wanted.guard rfl rfl rfl) rfl rfl ?_
          refine T.callV (Wanted.guard rfl rfl rfl) rfl rfl (k4) ?_
          refine T.pv (PV.geq rfl rfl) (Wanted.guard rfl rfl rfl) rfl rfl ?_
          refine T.pv (PV.bneq rfl rfl) (Wanted.guard rfl rfl rfl) rfl rfl ?_
          refine T.pv (PV.pickF rfl rfl rfl) Wanted.none rfl rfl ?_
          refine T.opsNil ?_
          refine T.condF rfl (by assumption) ?_
          refine T.skip ?_
          refine T.blkEnd ?_
          refine T.region ?_
          refine T.pv (PV.add rfl rfl (by omega)) Wanted.none rfl rfl ?_
          refine T.pv (PV.move rfl) Wanted.none rfl rfl ?_
          refine T.opsNil ?_
          exact T.nextR (by omega) rfl zq8 (by repeat (first | exact Sel.refl _ | exact Sel.nil | (refine Sel.cons zq1 ?_) | (refine Sel.app zq1 ?_) | exact Sel.one zq1))
      · have := hov (.inr rfl)
        subst this
        refine T.seq ?_
        refine T.region ?_
        refine T.pv (PV.lss rfl rfl) Wanted.none rfl rfl ?_
        refine T.opsNil ?_
        refine T.seq ?_
        refine T.condT rfl (decide_eq_true (by omega)) ?_
        refine T.skip ?_
        refine T.seq ?_
        refine T.block ?_
        refine T.seq ?_
        refine T.region ?_
        refine T.pv (PV.indexAddr rfl rfl (by omega)) Wanted.none rfl rfl ?_
        refine T.pv (PV.loadSubAll rfl (by assumption) (by exact rfl)) Wanted.none rfl rfl ?_
        (refine T.alloc Wanted.none rfl ?_; intro b7)
        refine T.storeA Wanted.none rfl rfl zq8 (by exact rfl) zq14 zq13 ?_
        refine T.opsNil ?_
        refine T.seq ?_
        refine T.region ?_
        refine T.pv (PV.loadAll rfl zq0 (by exact rfl)) Wanted.none rfl rfl ?_
        refine T.pv (PV.move rfl) Wanted.none rfl rfl ?_
        refine T.pv (PV.build rfl zq12) Wanted.none rfl rfl ?_
        refine T.pv (PV.loadAll rfl zq0 (by exact rfl)) Wanted.none rfl rfl ?_
        refine T.callV Wanted.none rfl rfl (k1) ?_
        refine T.pv (PV.assign rfl) Wanted.none rfl rfl ?_
        refine T.opsNil ?_
        refine T.seq ?_
        refine T.region ?_
        refine T.pv (PV.loadAll rfl zq0 (by exact rfl)) Wanted.none rfl rfl ?_
        refine T.pv (PV.move rfl) Wanted.none rfl rfl ?_
        refine T.pv (PV.build rfl zq12) Wanted.none rfl rfl ?_
        refine T.pv (PV.loadAll rfl zq0 (by exact rfl)) Wanted.none rfl rfl ?_
        refine T.callV Wanted.none rfl rfl (k2) ?_
        refine T.pv (PV.assign rfl) Wanted.none rfl rfl ?_
        refine T.opsNil ?_
        refine T.seq ?_
        refine T.region ?_
        refine T.pv (PV.loadAll rfl zq0 (by exact rfl)) Wanted.none rfl rfl ?_
        refine T.pv (PV.move rfl) Wanted.none rfl rfl ?_
        refine T.pv (PV.build rfl zq12) Wanted.none rfl rfl ?_
        refine T.pv (PV.loadAll rfl zq0 (by exact rfl)) Wanted.none rfl rfl ?_
        refine T.callV Wanted.none rfl rfl (k3) ?_
        refine T.pv (PV.assign rfl) Wanted.none rfl rfl ?_
        refine T.opsNil ?_
        refine T.seq ?_
        refine T.region ?_
        refine T.pv (PV.move rfl) Wanted.none rfl rfl ?_
        refine T.pv (PV.move rfl) Wanted.none rfl rfl ?_
        refine T.pv (PV.move rfl) (Wanted.guard rfl rfl rfl) rfl rfl ?_
        refine T.pv (PV.pickF rfl rfl rfl) Wanted.none rfl rfl ?_
        refine T.pv (PV.move rfl) Wanted.none rfl rfl ?_
        refine T.pv (PV.move rfl) (Wanted.guard rfl rfl rfl) rfl rfl ?_
        refine T.pv (PV.not rfl) (Wanted.guard rfl rfl rfl) rfl rfl ?_
        refine T.pv (PV.pickT rfl rfl rfl) Wanted.none rfl rfl ?_
        refine T.pv (PV.move rfl) Wanted.none rfl rfl ?_
        refine T.pv (PV.move rfl) (Wanted.guard rfl rfl rfl) rfl rfl ?_
        refine T.pv (PV.loadAll rfl zq0 (by exact rfl)) (Wanted.guard rfl rfl rfl) rfl rfl ?_
        refine T.pv (PV.move rfl) (Wanted.guard rfl rfl rfl) rfl rfl ?_
        refine T.pv (PV.loadAll rfl zq0 (by exact rfl)) (Wanted.guard rfl rfl rfl) rfl rfl ?_
        refine T.callV (Wanted.guard rfl rfl rfl) rfl rfl (k4) ?_
        refine T.pv (PV.geq rfl rfl) (Wanted.guard rfl rfl rfl) rfl rfl ?_
        refine T.pv (PV.bneq rfl rfl) (Wanted.guard rfl rfl rfl) rfl rfl ?_
        refine T.pv (PV.pickF rfl rfl rfl) Wanted.none rfl rfl ?_
        refine T.opsNil ?_
        refine T.condF rfl (by assumption) ?_
        refine T.skip ?_
        refine T.blkEnd ?_
        refine T.region ?_
        refine T.pv (PV.add rfl rfl (by omega)) Wanted.none rfl rfl ?_
        refine T.pv (PV.move rfl) Wanted.none rfl rfl ?_
        refine T.opsNil ?_
        exact T.nextR (by omega) rfl zq8 (by repeat (first | exact Sel.refl _ | exact Sel.nil | (refine Sel.cons zq1 ?_) | (refine Sel.app zq1 ?_) | exact Sel.one zq1))
  · have kn := known_fn H2
    refine T.seq ?_
    refine T.region ?_
    refine T.pv (PV.lss rfl rfl) Wanted.none rfl rfl ?_
    refine T.opsNil ?_
    refine T.seq ?_
    refine T.condF rfl (decide_eq_false (by omega)) ?_
    refine T.exit rfl ?_
    refine T.seq ?_
    refine T.region ?_
    refine T.callV Wanted.none rfl rfl (kn) ?_
    refine T.pv (PV.assign rfl) Wanted.none rfl rfl ?_
    refine T.opsNil ?_
    exact T.retF (Lv.fin (RV.tmp rfl rfl) rfl)
end Go.Proofs.Ytchgfjclchhgmaa
