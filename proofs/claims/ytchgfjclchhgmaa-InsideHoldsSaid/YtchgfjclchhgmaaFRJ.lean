/- regions: the statement Holds. -/
import Derived.Test.YtchgfjclchhgmaaFRI
namespace Go.Proofs.Ytchgfjclchhgmaa
open Go.RowKit

theorem spans_same (l : List Rg) (kind : ByteArray) : spansL ((ofL l kind).map spOf) = (kindSp l kind).foldl insC [] := by
  obtain ⟨h1, h2⟩ := foldInsC (kindSp l kind) [] List.Pairwise.nil
  refine sorted_ext ltC_sto _ _ (spansL_sorted _) h1 fun x => ?_
  rw [spansL_mem, h2, kindSp_of]
  simp
set_option maxHeartbeats 4000000 in
theorem holdsLaw_fn (l : List Int) (v : Value) (H : Hp) (hv : InL H v l) (hl : l.length ≤ 9223372036854775807) (hr : ∀ x ∈ l, -9223372036854775808 ≤ x ∧ x ≤ 9223372036854775807) :
    Fn Try.prog 9 #[v] H (fun u _ => u = .bool true) := by
  refine Fn.of_T (vs := [v]) Try.func9 rfl rfl fun w => ?_
  refine T.seq ?_
  refine T.region ?_
  refine T.pv (PV.assign rfl) Wanted.none rfl rfl ?_
  refine T.opsNil ?_
  refine T.seq ?_
  refine T.region ?_
  refine T.pv (PV.move rfl) Wanted.none rfl rfl ?_
  refine T.callW (l0 := []) Wanted.none rfl rfl (new_fn l v H hv hl hr) zq1 ?_
  rintro _ _ _ _ ⟨rfl, bt, t, rfl, ht, rfl⟩
  refine T.pv (PV.assign rfl) Wanted.none rfl rfl ?_
  refine T.opsNil ?_
  refine T.seq ?_
  refine T.region ?_
  refine T.pv (PV.move rfl) Wanted.none rfl rfl ?_
  refine T.callW Wanted.none rfl rfl (corpus_fn bt t 7 H ht (by omega)) zq1 ?_
  rintro _ H1 _ hle1 ⟨t1, c, rfl, ht1, hc, hg, hb, rfl⟩
  have hsp := fun t (h : Tp.ok H1 t) => spans_fn bt t c 5 H1 h hc hg hb (by omega)
  have hlr : c.rg.length ≤ 1000 := by have := hb.rg; omega
  unfold cpV at hsp
  unfold cpV
  (refine T.alloc Wanted.none rfl ?_; intro b4)
  (refine T.storeA Wanted.none rfl rfl (cp_one hc) (by exact rfl) zq14 zq13 ?_)
  refine T.opsNil ?_
  refine T.seq ?_
  refine T.region ?_
  refine T.pv (PV.move rfl) Wanted.none rfl rfl ?_
  (refine T.callW Wanted.none rfl rfl (filter_fn _ _ _ ?_) zq1 ?_; (focus assumption); rintro _ _ _ _ ⟨rfl, t14, f14, rfl, ht14, hf14, rfl⟩; unfold flV)
  refine T.pv (PV.move rfl) Wanted.none rfl rfl ?_
  (refine T.callW Wanted.none rfl rfl (next_fn _ _ _ _ ?_ ?_) zq1 ?_; (focus assumption); (focus omega); rintro _ _ _ _ ⟨rfl, n16, t16, rfl, hn16, ht16, rfl⟩)
  (refine T.callX Wanted.none rfl rfl (type_fn _ _ ?_) ?_; (focus omega); rintro _ ⟨kind, hk, rfl⟩)
  (refine T.alloc Wanted.none rfl ?_; intro b5)
  refine T.storeA Wanted.none rfl rfl zq8 (by exact rfl) zq14 zq13 ?_
  refine T.pv (PV.assign rfl) Wanted.none rfl rfl ?_
  refine T.opsNil ?_
  refine T.seq ?_
  refine T.seq ?_
  refine T.region ?_
  refine T.pv (PV.move rfl) Wanted.none rfl rfl ?_
  refine T.pv (PV.loadAll rfl zq0 (by exact rfl)) Wanted.none rfl rfl ?_
  (refine T.callW Wanted.none rfl rfl (hsp _ (by assumption)) zq1 ?_; rintro _ H2 _ hle2 ⟨t2, L, ht2, hL, hLn, hin, rfl⟩; obtain ⟨am, cm, rfl⟩ := hL.len)
  refine T.pv (PV.lenSl rfl) Wanted.none rfl rfl ?_
  refine T.pv (PV.move rfl) Wanted.none rfl rfl ?_
  refine T.opsNil ?_
  refine T.block ?_
  have hc2 := hc.mono hle2
  have hi := fun s => holds_in c f14 s H2 hc2
  have hr := fun s => holds_ref c f14 s H2 hc2
  have li := fun k s => last_in c k s H2 hc2
  have lr := fun k s => last_ref c k s H2 hc2
  have si := spans_in c kind H2 hc2 hlr
  have sr := fun H (h : H2.le H) => spans_ref c kind H (hc2.mono h) hlr
  unfold cpV spV at hi hr li lr
  unfold flV at hi hr
  unfold cpV at si sr
  refine T.loopR [(21, Value.int IntKind.i64 (↑L.length : Int)), (20, Value.slice am L.length cm), (6, Value.string kind), (5, Value.pointer (some { block := b5, off := 0 })), (4, Value.pointer (some { block := b4, off := 0 }))] zq8 22 L.length rfl ?_
  intro i hi0
  by_cases hlt : i < L.length
  · obtain ⟨b, off, s, rfl, hix, hsub⟩ := RowL.get encS_len hL hlt
    unfold encS at hsub
    have k1 := hi s
    have k2 := hr s
    have k3 := li kind s
    have k4 := lr kind s
    have hbb : (!(holdsB c f14 s == holdsB c f14 s)) = false := by simp
    refine T.seq ?_
    refine T.region ?_
    refine T.pv (PV.lss rfl rfl) Wanted.none rfl rfl ?_
    refine T.opsNil ?_
    refine T.seq ?_
    refine T.condT rfl (decide_eq_true (by omega)) ?_
    refine T.skip ?_
    refine T.seq ?_
    refine T.block ?_
    refine T.seq ?_
    refine T.region ?_
    refine T.pv (PV.indexAddr rfl rfl (by omega)) Wanted.none rfl rfl ?_
    refine T.pv (PV.loadSubAll rfl (by assumption) (by exact rfl)) Wanted.none rfl rfl ?_
    (refine T.alloc Wanted.none rfl ?_; intro b8)
    refine T.storeA Wanted.none rfl rfl zq8 (by exact rfl) zq14 zq13 ?_
    refine T.opsNil ?_
    refine T.seq ?_
    refine T.regionQ (by kernel_rfl) ?_
    refine TQ.pv (PV.loadAll rfl zq0 (by exact rfl)) Wanted.none rfl rfl ?_
    refine TQ.pv (PV.loadAll rfl zq0 (by exact rfl)) Wanted.none rfl rfl ?_
    refine TQ.pv (PV.loadAll rfl zq0 (by exact rfl)) Wanted.none rfl rfl ?_
    refine TQ.callV Wanted.none rfl rfl (k1) ?_
    refine TQ.pv (PV.loadAll rfl zq0 (by exact rfl)) Wanted.none rfl rfl ?_
    refine TQ.pv (PV.loadAll rfl zq0 (by exact rfl)) Wanted.none rfl rfl ?_
    refine TQ.pv (PV.loadAll rfl zq0 (by exact rfl)) Wanted.none rfl rfl ?_
    refine TQ.callV Wanted.none rfl rfl (k2) ?_
    refine TQ.pv (PV.bneq rfl rfl) Wanted.none rfl rfl ?_
    refine TQ.pv (PV.move rfl) Wanted.none rfl rfl ?_
    refine TQ.pv (PV.loadAll rfl zq0 (by exact rfl)) (Wanted.guard rfl rfl (by assumption)) rfl rfl ?_
    refine TQ.pv (PV.move rfl) (Wanted.guard rfl rfl (by assumption)) rfl rfl ?_
    refine TQ.pv (PV.loadAll rfl zq0 (by exact rfl)) (Wanted.guard rfl rfl (by assumption)) rfl rfl ?_
    refine TQ.callV (Wanted.guard rfl rfl (by assumption)) rfl rfl (k3) ?_
    refine TQ.pv (PV.loadAll rfl zq0 (by exact rfl)) (Wanted.guard rfl rfl (by assumption)) rfl rfl ?_
    refine TQ.pv (PV.move rfl) (Wanted.guard rfl rfl (by assumption)) rfl rfl ?_
    refine TQ.pv (PV.loadAll rfl zq0 (by exact rfl)) (Wanted.guard rfl rfl (by assumption)) rfl rfl ?_
    refine TQ.callV (Wanted.guard rfl rfl (by assumption)) rfl rfl (k4) ?_
    refine TQ.pv (PV.neq rfl rfl) (Wanted.guard rfl rfl (by assumption)) rfl rfl ?_
    refine TQ.pv (PV.pickF rfl (by assumption) rfl) Wanted.none rfl rfl ?_
    refine TQ.nil ?_
    refine T.condF rfl (decide_eq_false (by omega)) ?_
    refine T.skip ?_
    refine T.blkEnd ?_
    refine T.region ?_
    refine T.pv (PV.add rfl rfl (by omega)) Wanted.none rfl rfl ?_
    refine T.pv (PV.move rfl) Wanted.none rfl rfl ?_
    refine T.opsNil ?_
    exact T.nextR (by omega) rfl zq8 (by repeat (first | exact Sel.refl _ | exact Sel.nil | (refine Sel.cons zq1 ?_) | (refine Sel.app zq1 ?_) | exact Sel.one zq1))
  · refine T.seq ?_
    refine T.region ?_
    refine T.pv (PV.lss rfl rfl) Wanted.none rfl rfl ?_
    refine T.opsNil ?_
    refine T.seq ?_
    refine T.condF rfl (decide_eq_false (by omega)) ?_
    refine T.exit rfl ?_
    (repeat refine T.seq ?_)
    refine T.regionO [(b4, .cells #[c.va, c.vt, c.vx, c.vr, c.vn, c.vh, c.vs] 33 (0, 0))] (by kernel_rfl) ?_
    refine TO.take 0 rfl (by kernel_rfl) (by kernel_rfl) (by kernel_rfl) (PV.loadAll rfl zq0 (by exact rfl)) Wanted.none rfl rfl ?_
    refine TO.take 1 rfl (by kernel_rfl) (by kernel_rfl) (by kernel_rfl) (PV.move rfl) Wanted.none rfl rfl ?_
    refine TO.take 3 rfl (by kernel_rfl) (by kernel_rfl) (by kernel_rfl) (PV.loadAll rfl zq0 (by exact rfl)) Wanted.none rfl rfl ?_
    refine TO.take 4 rfl (by kernel_rfl) (by kernel_rfl) (by kernel_rfl) (PV.move rfl) Wanted.none rfl rfl ?_
    refine TO.step 2 rfl (by kernel_rfl) zq4 zq10 ?_
    (refine T.call Wanted.none rfl rfl si ?_; rintro _ H4 hle4 hx)
    refine T.opsNil ?_
    refine TO.back ?_
    refine TO.step 5 rfl (by kernel_rfl) zq4 zq10 ?_
    (refine T.call Wanted.none rfl rfl (sr _ hle4) ?_; rintro _ H5 hle5 hy)
    refine T.opsNil ?_
    refine TO.back ?_
    refine TO.step 6 rfl (by kernel_rfl) zq4 zq10 ?_
    (refine T.callX Wanted.none rfl rfl (same27_fn _ _ _ _ _ (hx.mono hle5) hy (by have := spansL_len ((ofL c.rg kind).map spOf); have h2 := kindSp_of c.rg kind; rw [h2] at this ⊢; unfold kindSp at this ⊢; rw [List.length_map] at this; have h3 := List.length_filter_le (fun r : Rg => decide (r.ty = kind)) c.rg; omega)) ?_; rintro _ rfl; rw [decide_eq_true (spans_same _ _)])
    refine T.opsNil ?_
    refine TO.back ?_
    refine TO.take 7 rfl (by kernel_rfl) (by kernel_rfl) (by kernel_rfl) (PV.move rfl) Wanted.none rfl rfl ?_
    refine TO.step 8 rfl (by kernel_rfl) zq4 zq10 ?_
    have kn := known_fn H5
    refine T.callV (Wanted.guard rfl rfl rfl) rfl rfl (kn) ?_
    refine T.opsNil ?_
    refine TO.back ?_
    refine TO.take 9 rfl (by kernel_rfl) (by kernel_rfl) (by kernel_rfl) (PV.pickT rfl rfl rfl) Wanted.none rfl rfl ?_
    refine TO.take 10 rfl (by kernel_rfl) (by kernel_rfl) (by kernel_rfl) (PV.assign rfl) Wanted.none rfl rfl ?_
    refine TO.done (by kernel_rfl) zq4 zq10 ?_
    exact T.retF (Lv.fin (RV.tmp rfl rfl) rfl)
end Go.Proofs.Ytchgfjclchhgmaa
