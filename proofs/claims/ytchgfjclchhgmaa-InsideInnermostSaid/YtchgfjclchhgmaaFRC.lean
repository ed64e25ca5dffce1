/- regions: the statement Innermost. -/
import Derived.Test.YtchgfjclchhgmaaFRA
namespace Go.Proofs.Ytchgfjclchhgmaa
open Go.RowKit

theorem last_inner {c : Cp} {s : Sp} {kind : ByteArray} {i : Nat} {r x : Rg} (hg : CpG c) (hin : inTx c.tx s) (he : lastI c.rg kind s = i) (hi : c.rg[i]? = some r) (ht : r.ty = kind) (hw : relB 1 r s = true)
    (hx : x ∈ c.rg) (hxt : x.ty = kind) (hxb : x.b ≤ s.1) (hxe : s.2 ≤ x.e) : ¬ x.e - x.b < r.e - r.b := by
  obtain ⟨j, hj⟩ := List.mem_iff_getElem?.1 hx
  have hsp := hin.span hg
  have h1 := (lastI_spec c.rg kind s).1 j x hj hxt (by simp [relB]; omega)
  rw [he] at h1
  have hr : r.b ≤ s.1 ∧ s.2 ≤ r.e := by simpa [relB] using hw
  by_cases hji : j = i
  · subst hji
    rw [hj] at hi
    injection hi with e
    subst e
    omega
  · obtain ⟨hj1, hj2⟩ := List.getElem?_eq_some_iff.1 hj
    obtain ⟨hi1, hi2⟩ := List.getElem?_eq_some_iff.1 hi
    have hle := List.pairwise_iff_getElem.1 hg.rgo j i hj1 hi1 (by omega)
    rw [hj2, hi2] at hle
    have hap := hg.rga x hx r (List.mem_of_getElem? hi) (hxt.trans ht.symm)
    rcases hle with hle | hle
    · rcases hap with h | h | h | h <;> omega
    · omega
set_option maxHeartbeats 4000000 in
theorem innermost_fn (l : List Int) (v : Value) (H : Hp) (hv : InL H v l) (hl : l.length ≤ 9223372036854775807) (hr : ∀ x ∈ l, -9223372036854775808 ≤ x ∧ x ≤ 9223372036854775807) :
    Fn Try.prog 5 #[v] H (fun u _ => u = .bool true) := by
  refine Fn.of_T (vs := [v]) Try.func5 rfl rfl fun w => ?_
  refine T.seq ?_
  refine T.region ?_
  refine T.pv (PV.assign rfl) Wanted.none rfl rfl ?_
  refine T.opsNil ?_
  refine T.seq ?_
  refine T.region ?_
  refine T.pv (PV.move rfl) Wanted.none rfl rfl ?_
  refine T.callW (l0 := []) Wanted.none rfl rfl (new_fn l v H hv hl hr) zq1 ?_
  rintro _ _ _ _ ⟨rfl, bt, t, rfl, ht, rfl⟩
  refine T.pv (PV.assign rfl) Wanted.none rfl rfl ?_
  refine T.opsNil ?_
  refine T.seq ?_
  refine T.region ?_
  refine T.pv (PV.move rfl) Wanted.none rfl rfl ?_
  refine T.callW Wanted.none rfl rfl (corpus_fn bt t 7 H ht (by omega)) zq1 ?_
  rintro _ H1 _ hle1 ⟨t1, c, rfl, ht1, hc, hg, hb, rfl⟩
  have hsp := fun t (h : Tp.ok H1 t) => spans_fn bt t c 6 H1 h hc hg hb (by omega)
  have hone := cp_one hc
  have hc0 := hc
  unfold cpC at hone
  obtain ⟨aa, ca, at1, ct, ax, cx, ar, cr, an, cn, ah, ch, as1, cs, hcv, ha, ht, hx, hr, hn, hh, hs⟩ := hc.open; rw [hcv]; have hla := hc.la; have hlt := hc.lt; have hlx := hc.lx; have hlr := hc.lr; have hln := hc.ln; have hlh := hc.lh; have hls := hc.ls
  simp only [hcv] at hsp
  (refine T.alloc Wanted.none rfl ?_; intro b4)
  refine T.storeA Wanted.none rfl rfl zq8 (by exact rfl) zq14 zq13 ?_
  refine T.opsNil ?_
  refine T.seq ?_
  refine T.region ?_
  refine T.pv (PV.move rfl) Wanted.none rfl rfl ?_
  (refine T.callW Wanted.none rfl rfl (next_fn _ _ _ _ ?_ ?_) zq1 ?_; (focus assumption); (focus omega); rintro _ _ _ _ ⟨rfl, n17, t17, rfl, hn17, ht17, rfl⟩)
  (refine T.callX Wanted.none rfl rfl (type_fn _ _ ?_) ?_; (focus omega); rintro _ ⟨kind, hk, rfl⟩)
  refine T.pv (PV.assign rfl) Wanted.none rfl rfl ?_
  refine T.opsNil ?_
  refine T.seq ?_
  refine T.seq ?_
  refine T.region ?_
  refine T.pv (PV.move rfl) Wanted.none rfl rfl ?_
  refine T.pv (PV.loadAll rfl zq0 (by exact rfl)) Wanted.none rfl rfl ?_
  (refine T.callW Wanted.none rfl rfl (hsp _ (by assumption)) zq1 ?_; rintro _ H2 _ hle2 ⟨t2, L, ht2, hL, hLn, hin, rfl⟩; obtain ⟨am, cm, rfl⟩ := hL.len)
  refine T.pv (PV.lenSl rfl) Wanted.none rfl rfl ?_
  refine T.pv (PV.move rfl) Wanted.none rfl rfl ?_
  refine T.opsNil ?_
  refine T.block ?_
  have li := fun k s => last_in c k s H2 (hc0.mono hle2)
  unfold spV at li
  simp only [hcv] at li
  have hr2 := hr.mono hle2
  refine T.loopR [(22, Value.int IntKind.i64 (↑L.length : Int)), (21, Value.slice am L.length cm), (5, Value.string kind), (4, Value.pointer (some { block := b4, off := 0 }))] zq8 23 L.length rfl ?_
  intro i hi0
  by_cases hlt : i < L.length
  · obtain ⟨b, off, s, rfl, hix, hsub⟩ := RowL.get encS_len hL hlt
    unfold encS at hsub
    have hs := hin s (List.mem_of_getElem? hix)
    have k4 := li kind s
    rcases (lastI_spec c.rg kind s).2 with hx | ⟨k, r, he, hk1, hk2, hk3⟩
    · rw [hx] at k4
      refine T.seq ?_
      refine T.region ?_
      refine T.pv (PV.lss rfl rfl) Wanted.none rfl rfl ?_
      refine T.opsNil ?_
      refine T.seq ?_
      refine T.condT rfl (decide_eq_true (by omega)) ?_
      refine T.skip ?_
      refine T.seq ?_
      refine T.block ?_
      refine T.seq ?_
      refine T.region ?_
      refine T.pv (PV.indexAddr rfl rfl (by omega)) Wanted.none rfl rfl ?_
      refine T.pv (PV.loadSubAll rfl (by assumption) (by exact rfl)) Wanted.none rfl rfl ?_
      (refine T.alloc Wanted.none rfl ?_; intro b7)
      refine T.storeA Wanted.none rfl rfl zq8 (by exact rfl) zq14 zq13 ?_
      refine T.opsNil ?_
      refine T.seq ?_
      refine T.region ?_
      refine T.pv (PV.loadAll rfl zq0 (by exact rfl)) Wanted.none rfl rfl ?_
      refine T.pv (PV.move rfl) Wanted.none rfl rfl ?_
      refine T.pv (PV.loadAll rfl zq0 (by exact rfl)) Wanted.none rfl rfl ?_
      refine T.callV Wanted.none rfl rfl (k4) ?_
      refine T.pv (PV.assign rfl) Wanted.none rfl rfl ?_
      refine T.opsNil ?_
      refine T.seq ?_
      refine T.seq ?_
      refine T.region ?_
      refine T.pv (PV.move rfl) Wanted.none rfl rfl ?_
      refine T.pv (PV.lss rfl rfl) Wanted.none rfl rfl ?_
      refine T.opsNil ?_
      refine T.condT rfl rfl ?_
      refine T.exit rfl ?_
      refine T.region ?_
      refine T.pv (PV.add rfl rfl (by omega)) Wanted.none rfl rfl ?_
      refine T.pv (PV.move rfl) Wanted.none rfl rfl ?_
      refine T.opsNil ?_
      exact T.nextR (by omega) rfl zq8 (by repeat (first | exact Sel.refl _ | exact Sel.nil | (refine Sel.cons zq1 ?_) | (refine Sel.app zq1 ?_) | exact Sel.one zq1))
    · have hin' := fun x => last_inner (x := x) hg hs he hk1 hk2 hk3
      rw [he] at k4
      have hkl := (List.getElem?_eq_some_iff.1 hk1).1
      obtain ⟨br, offr, r', rfl, hkr, hsubr⟩ := RowL.get encRg_len hr2.1 (i := k) hkl
      rw [hk1] at hkr
      injection hkr with e
      subst e
      unfold encRg at hsubr
      obtain ⟨ak, ck, hkv⟩ := (hr2.2 r (List.mem_of_getElem? hk1)).1.len
      rw [hkv] at hsubr
      refine T.seq ?_
      refine T.region ?_
      refine T.pv (PV.lss rfl rfl) Wanted.none rfl rfl ?_
      refine T.opsNil ?_
      refine T.seq ?_
      refine T.condT rfl (decide_eq_true (by omega)) ?_
      refine T.skip ?_
      refine T.seq ?_
      refine T.block ?_
      refine T.seq ?_
      refine T.region ?_
      refine T.pv (PV.indexAddr rfl rfl (by omega)) Wanted.none rfl rfl ?_
      refine T.pv (PV.loadSubAll rfl (by assumption) (by exact rfl)) Wanted.none rfl rfl ?_
      (refine T.alloc Wanted.none rfl ?_; intro b7)
      refine T.storeA Wanted.none rfl rfl zq8 (by exact rfl) zq14 zq13 ?_
      refine T.opsNil ?_
      refine T.seq ?_
      refine T.region ?_
      refine T.pv (PV.loadAll rfl zq0 (by exact rfl)) Wanted.none rfl rfl ?_
      refine T.pv (PV.move rfl) Wanted.none rfl rfl ?_
      refine T.pv (PV.loadAll rfl zq0 (by exact rfl)) Wanted.none rfl rfl ?_
      refine T.callV Wanted.none rfl rfl (k4) ?_
      refine T.pv (PV.assign rfl) Wanted.none rfl rfl ?_
      refine T.opsNil ?_
      refine T.seq ?_
      refine T.seq ?_
      refine T.region ?_
      refine T.pv (PV.move rfl) Wanted.none rfl rfl ?_
      refine T.pv (PV.lss rfl rfl) Wanted.none rfl rfl ?_
      refine T.opsNil ?_
      refine T.condF rfl rfl ?_
      refine T.skip ?_
      refine T.seq ?_
      refine T.seq ?_
      refine T.region ?_
      refine T.pv (PV.move rfl) Wanted.none rfl rfl ?_
      refine T.pv (PV.fieldAddr rfl) Wanted.none rfl rfl ?_
      refine T.pv (PV.load1 rfl zq0 rfl) Wanted.none rfl rfl ?_
      refine T.pv (PV.lenSl rfl) Wanted.none rfl rfl ?_
      refine T.pv (PV.geq rfl rfl) Wanted.none rfl rfl ?_
      refine T.opsNil ?_
      refine T.condF rfl (decide_eq_false (by omega)) ?_
      refine T.skip ?_
      refine T.seq ?_
      refine T.region ?_
      refine T.pv (PV.fieldAddr rfl) Wanted.none rfl rfl ?_
      refine T.pv (PV.load1 rfl zq0 rfl) Wanted.none rfl rfl ?_
      refine T.pv (PV.move rfl) Wanted.none rfl rfl ?_
      refine T.pv (PV.indexAddr rfl rfl (by omega)) Wanted.none rfl rfl ?_
      refine T.pv (PV.loadSubAll rfl (by assumption) (by exact rfl)) Wanted.none rfl rfl ?_
      (refine T.alloc Wanted.none rfl ?_; intro b9)
      refine T.storeA Wanted.none rfl rfl zq8 (by exact rfl) zq14 zq13 ?_
      refine T.opsNil ?_
      refine T.seq ?_
      refine T.region ?_
      refine T.pv (PV.fieldAddr rfl) Wanted.none rfl rfl ?_
      refine T.pv (PV.load1 rfl zq0 rfl) Wanted.none rfl rfl ?_
      refine T.pv (PV.lenSl rfl) Wanted.none rfl rfl ?_
      refine T.pv (PV.move rfl) Wanted.none rfl rfl ?_
      refine T.opsNil ?_
      refine T.block ?_
      refine T.loopR [(45, Value.int IntKind.i64 (↑c.rg.length : Int)), (44, Value.slice (some { block := br, off := offr }) c.rg.length cr), (9, Value.pointer (some { block := b9, off := 0 })), (7, Value.pointer (some { block := b7, off := 0 })), (23, Value.int IntKind.i64 (↑i : Int)), (22, Value.int IntKind.i64 (↑L.length : Int)), (21, Value.slice (some { block := b, off := off }) L.length cm), (5, Value.string kind), (4, Value.pointer (some { block := b4, off := 0 }))] zq8 46 c.rg.length rfl ?_
      intro j hj0
      by_cases hjl : j < c.rg.length
      · obtain ⟨bx, offx, x, e, hjx, hsubx⟩ := RowL.get encRg_len hr2.1 (i := j) hjl
        injection e with e
        injection e with e1 e2
        subst e1 e2
        unfold encRg at hsubx
        obtain ⟨ak2, ck2, hkv2⟩ := (hr2.2 x (List.mem_of_getElem? hjx)).1.len
        rw [hkv2] at hsubx
        have hno := hin' x (List.mem_of_getElem? hjx)
        have hxb := hg.rgb x (List.mem_of_getElem? hjx)
        have hrb := hg.rgb r (List.mem_of_getElem? hk1)
        by_cases h0 : x.ty = kind
        · have hd := decide_eq_true h0
          by_cases h1 : x.b ≤ s.1
          · by_cases h2 : s.2 ≤ x.e
            · have hlss := hno h0 h1 h2
              refine T.seq ?_
              refine T.region ?_
              refine T.pv (PV.lss rfl rfl) Wanted.none rfl rfl ?_
              refine T.opsNil ?_
              refine T.seq ?_
              refine T.condT rfl (decide_eq_true (by omega)) ?_
              refine T.skip ?_
              refine T.seq ?_
              refine T.block ?_
              refine T.seq ?_
              refine T.region ?_
              refine T.pv (PV.indexAddr rfl rfl (by omega)) Wanted.none rfl rfl ?_
              refine T.pv (PV.loadSubAll rfl (by assumption) (by exact rfl)) Wanted.none rfl rfl ?_
              (refine T.alloc Wanted.none rfl ?_; intro b11)
              refine T.storeA Wanted.none rfl rfl zq8 (by exact rfl) zq14 zq13 ?_
              refine T.opsNil ?_
              refine T.seq ?_
              refine T.region ?_
              refine T.pv (PV.fieldAddr rfl) Wanted.none rfl rfl ?_
              refine T.pv (PV.load1 rfl zq0 rfl) Wanted.none rfl rfl ?_
              refine T.pv (PV.move rfl) Wanted.none rfl rfl ?_
              refine T.pv (PV.seql rfl rfl) Wanted.none rfl rfl ?_
              refine T.pv (PV.move rfl) Wanted.none rfl rfl ?_
              refine T.pv (PV.fieldAddr rfl) (Wanted.guard rfl rfl (by assumption)) rfl rfl ?_
              refine T.pv (PV.load1 rfl zq0 rfl) (Wanted.guard rfl rfl (by assumption)) rfl rfl ?_
              refine T.pv (PV.fieldAddr rfl) (Wanted.guard rfl rfl (by assumption)) rfl rfl ?_
              refine T.pv (PV.load1 rfl zq0 rfl) (Wanted.guard rfl rfl (by assumption)) rfl rfl ?_
              refine T.pv (PV.leq rfl rfl) (Wanted.guard rfl rfl (by assumption)) rfl rfl ?_
              refine T.pv (PV.pickT rfl (by assumption) rfl) Wanted.none rfl rfl ?_
              refine T.pv (PV.move rfl) Wanted.none rfl rfl ?_
              refine T.setT (d := 61) rfl (by omega) ?_
              refine T.pv (PV.fieldAddr rfl) (Wanted.guard rfl rfl rfl) rfl rfl ?_
              refine T.pv (PV.load1 rfl zq0 rfl) (Wanted.guard rfl rfl rfl) rfl rfl ?_
              refine T.pv (PV.fieldAddr rfl) (Wanted.guard rfl rfl rfl) rfl rfl ?_
              refine T.pv (PV.load1 rfl zq0 rfl) (Wanted.guard rfl rfl rfl) rfl rfl ?_
              refine T.pv (PV.leq rfl rfl) (Wanted.guard rfl rfl rfl) rfl rfl ?_
              refine T.pv (PV.pickT rfl rfl rfl) Wanted.none rfl rfl ?_
              refine T.pv (PV.move rfl) Wanted.none rfl rfl ?_
              refine T.setT (d := 68) rfl (by omega) ?_
              refine T.pv (PV.fieldAddr rfl) (Wanted.guard rfl rfl rfl) rfl rfl ?_
              refine T.pv (PV.load1 rfl zq0 rfl) (Wanted.guard rfl rfl rfl) rfl rfl ?_
              refine T.pv (PV.fieldAddr rfl) (Wanted.guard rfl rfl rfl) rfl rfl ?_
              refine T.pv (PV.load1 rfl zq0 rfl) (Wanted.guard rfl rfl rfl) rfl rfl ?_
              refine T.pv (PV.sub rfl rfl (by omega)) (Wanted.guard rfl rfl rfl) rfl rfl ?_
              refine T.pv (PV.fieldAddr rfl) (Wanted.guard rfl rfl rfl) rfl rfl ?_
              refine T.pv (PV.load1 rfl zq0 rfl) (Wanted.guard rfl rfl rfl) rfl rfl ?_
              refine T.pv (PV.fieldAddr rfl) (Wanted.guard rfl rfl rfl) rfl rfl ?_
              refine T.pv (PV.load1 rfl zq0 rfl) (Wanted.guard rfl rfl rfl) rfl rfl ?_
              refine T.pv (PV.sub rfl rfl (by omega)) (Wanted.guard rfl rfl rfl) rfl rfl ?_
              refine T.pv (PV.lss rfl rfl) (Wanted.guard rfl rfl rfl) rfl rfl ?_
              refine T.pv (PV.pickT rfl rfl rfl) Wanted.none rfl rfl ?_
              refine T.opsNil ?_
              refine T.condF rfl (decide_eq_false (by omega)) ?_
              refine T.skip ?_
              refine T.blkEnd ?_
              refine T.region ?_
              refine T.pv (PV.add rfl rfl (by omega)) Wanted.none rfl rfl ?_
              refine T.pv (PV.move rfl) Wanted.none rfl rfl ?_
              refine T.opsNil ?_
              exact T.nextR (by omega) rfl zq8 (by repeat (first | exact Sel.refl _ | exact Sel.nil | (refine Sel.cons zq1 ?_) | (refine Sel.app zq1 ?_) | exact Sel.one zq1))
            · refine T.seq ?_
              refine T.region ?_
              refine T.pv (PV.lss rfl rfl) Wanted.none rfl rfl ?_
              refine T.opsNil ?_
              refine T.seq ?_
              refine T.condT rfl (decide_eq_true (by omega)) ?_
              refine T.skip ?_
              refine T.seq ?_
              refine T.block ?_
              refine T.seq ?_
              refine T.region ?_
              refine T.pv (PV.indexAddr rfl rfl (by omega)) Wanted.none rfl rfl ?_
              refine T.pv (PV.loadSubAll rfl (by assumption) (by exact rfl)) Wanted.none rfl rfl ?_
              (refine T.alloc Wanted.none rfl ?_; intro b11)
              refine T.storeA Wanted.none rfl rfl zq8 (by exact rfl) zq14 zq13 ?_
              refine T.opsNil ?_
              refine T.seq ?_
              refine T.region ?_
              refine T.pv (PV.fieldAddr rfl) Wanted.none rfl rfl ?_
              refine T.pv (PV.load1 rfl zq0 rfl) Wanted.none rfl rfl ?_
              refine T.pv (PV.move rfl) Wanted.none rfl rfl ?_
              refine T.pv (PV.seql rfl rfl) Wanted.none rfl rfl ?_
              refine T.pv (PV.move rfl) Wanted.none rfl rfl ?_
              refine T.pv (PV.fieldAddr rfl) (Wanted.guard rfl rfl (by assumption)) rfl rfl ?_
              refine T.pv (PV.load1 rfl zq0 rfl) (Wanted.guard rfl rfl (by assumption)) rfl rfl ?_
              refine T.pv (PV.fieldAddr rfl) (Wanted.guard rfl rfl (by assumption)) rfl rfl ?_
              refine T.pv (PV.load1 rfl zq0 rfl) (Wanted.guard rfl rfl (by assumption)) rfl rfl ?_
              refine T.pv (PV.leq rfl rfl) (Wanted.guard rfl rfl (by assumption)) rfl rfl ?_
              refine T.pv (PV.pickT rfl (by assumption) rfl) Wanted.none rfl rfl ?_
              refine T.pv (PV.move rfl) Wanted.none rfl rfl ?_
              refine T.setT (d := 61) rfl (by omega) ?_
              refine T.pv (PV.fieldAddr rfl) (Wanted.guard rfl rfl rfl) rfl rfl ?_
              refine T.pv (PV.load1 rfl zq0 rfl) (Wanted.guard rfl rfl rfl) rfl rfl ?_
              refine T.pv (PV.fieldAddr rfl) (Wanted.guard rfl rfl rfl) rfl rfl ?_
              refine T.pv (PV.load1 rfl zq0 rfl) (Wanted.guard rfl rfl rfl) rfl rfl ?_
              refine T.pv (PV.leq rfl rfl) (Wanted.guard rfl rfl rfl) rfl rfl ?_
              refine T.pv (PV.pickT rfl rfl rfl) Wanted.none rfl rfl ?_
              refine T.pv (PV.move rfl) Wanted.none rfl rfl ?_
              refine T.setF (d := 68) rfl (by omega) ?_
              refine T.pass (Unwanted.guard rfl rfl rfl) rfl rfl ?_
              refine T.pass (Unwanted.guard rfl rfl rfl) rfl rfl ?_
              refine T.pass (Unwanted.guard rfl rfl rfl) rfl rfl ?_
              refine T.pass (Unwanted.guard rfl rfl rfl) rfl rfl ?_
              refine T.pass (Unwanted.guard rfl rfl rfl) rfl rfl ?_
              refine T.pass (Unwanted.guard rfl rfl rfl) rfl rfl ?_
              refine T.pass (Unwanted.guard rfl rfl rfl) rfl rfl ?_
              refine T.pass (Unwanted.guard rfl rfl rfl) rfl rfl ?_
              refine T.pass (Unwanted.guard rfl rfl rfl) rfl rfl ?_
              refine T.pass (Unwanted.guard rfl rfl rfl) rfl rfl ?_
              refine T.pass (Unwanted.guard rfl rfl rfl) rfl rfl ?_
              refine T.pv (PV.pickF rfl rfl rfl) Wanted.none rfl rfl ?_
              refine T.opsNil ?_
              refine T.condF rfl rfl ?_
              refine T.skip ?_
              refine T.blkEnd ?_
              refine T.region ?_
              refine T.pv (PV.add rfl rfl (by omega)) Wanted.none rfl rfl ?_
              refine T.pv (PV.move rfl) Wanted.none rfl rfl ?_
              refine T.opsNil ?_
              exact T.nextR (by omega) rfl zq8 (by repeat (first | exact Sel.refl _ | exact Sel.nil | (refine Sel.cons zq1 ?_) | (refine Sel.app zq1 ?_) | exact Sel.one zq1))
          · refine T.seq ?_
            refine T.region ?_
            refine T.pv (PV.lss rfl rfl) Wanted.none rfl rfl ?_
            refine T.opsNil ?_
            refine T.seq ?_
            refine T.condT rfl (decide_eq_true (by omega)) ?_
            refine T.skip ?_
            refine T.seq ?_
            refine T.block ?_
            refine T.seq ?_
            refine T.region ?_
            refine T.pv (PV.indexAddr rfl rfl (by omega)) Wanted.none rfl rfl ?_
            refine T.pv (PV.loadSubAll rfl (by assumption) (by exact rfl)) Wanted.none rfl rfl ?_
            (refine T.alloc Wanted.none rfl ?_; intro b11)
            refine T.storeA Wanted.none rfl rfl zq8 (by exact rfl) zq14 zq13 ?_
            refine T.opsNil ?_
            refine T.seq ?_
            refine T.region ?_
            refine T.pv (PV.fieldAddr rfl) Wanted.none rfl rfl ?_
            refine T.pv (PV.load1 rfl zq0 rfl) Wanted.none rfl rfl ?_
            refine T.pv (PV.move rfl) Wanted.none rfl rfl ?_
            refine T.pv (PV.seql rfl rfl) Wanted.none rfl rfl ?_
            refine T.pv (PV.move rfl) Wanted.none rfl rfl ?_
            refine T.pv (PV.fieldAddr rfl) (Wanted.guard rfl rfl (by assumption)) rfl rfl ?_
            refine T.pv (PV.load1 rfl zq0 rfl) (Wanted.guard rfl rfl (by assumption)) rfl rfl ?_
            refine T.pv (PV.fieldAddr rfl) (Wanted.guard rfl rfl (by assumption)) rfl rfl ?_
            refine T.pv (PV.load1 rfl zq0 rfl) (Wanted.guard rfl rfl (by assumption)) rfl rfl ?_
            refine T.pv (PV.leq rfl rfl) (Wanted.guard rfl rfl (by assumption)) rfl rfl ?_
            refine T.pv (PV.pickT rfl (by assumption) rfl) Wanted.none rfl rfl ?_
            refine T.pv (PV.move rfl) Wanted.none rfl rfl ?_
            refine T.setF (d := 61) rfl (by omega) ?_
            refine T.pass (Unwanted.guard rfl rfl rfl) rfl rfl ?_
            refine T.pass (Unwanted.guard rfl rfl rfl) rfl rfl ?_
            refine T.pass (Unwanted.guard rfl rfl rfl) rfl rfl ?_
            refine T.pass (Unwanted.guard rfl rfl rfl) rfl rfl ?_
            refine T.pass (Unwanted.guard rfl rfl rfl) rfl rfl ?_
            refine T.pv (PV.pickF rfl rfl rfl) Wanted.none rfl rfl ?_
            refine T.pv (PV.move rfl) Wanted.none rfl rfl ?_
            refine T.pass (Unwanted.guard rfl rfl rfl) rfl rfl ?_
            refine T.pass (Unwanted.guard rfl rfl rfl) rfl rfl ?_
            refine T.pass (Unwanted.guard rfl rfl rfl) rfl rfl ?_
            refine T.pass (Unwanted.guard rfl rfl rfl) rfl rfl ?_
            refine T.pass (Unwanted.guard rfl rfl rfl) rfl rfl ?_
            refine T.pass (Unwanted.guard rfl rfl rfl) rfl rfl ?_
            refine T.pass (Unwanted.guard rfl rfl rfl) rfl rfl ?_
            refine T.pass (Unwanted.guard rfl rfl rfl) rfl rfl ?_
            refine T.pass (Unwanted.guard rfl rfl rfl) rfl rfl ?_
            refine T.pass (Unwanted.guard rfl rfl rfl) rfl rfl ?_
            refine T.pass (Unwanted.guard rfl rfl rfl) rfl rfl ?_
            refine T.pv (PV.pickF rfl rfl rfl) Wanted.none rfl rfl ?_
            refine T.opsNil ?_
            refine T.condF rfl rfl ?_
            refine T.skip ?_
            refine T.blkEnd ?_
            refine T.region ?_
            refine T.pv (PV.add rfl rfl (by omega)) Wanted.none rfl rfl ?_
            refine T.pv (PV.move rfl) Wanted.none rfl rfl ?_
            refine T.opsNil ?_
            exact T.nextR (by omega) rfl zq8 (by repeat (first | exact Sel.refl _ | exact Sel.nil | (refine Sel.cons zq1 ?_) | (refine Sel.app zq1 ?_) | exact Sel.one zq1))
        · have hd := decide_eq_false h0
          refine T.seq ?_
          refine T.region ?_
          refine T.pv (PV.lss rfl rfl) Wanted.none rfl rfl ?_
          refine T.opsNil ?_
          refine T.seq ?_
          refine T.condT rfl (decide_eq_true (by omega)) ?_
          refine T.skip ?_
          refine T.seq ?_
          refine T.block ?_
          refine T.seq ?_
          refine T.region ?_
          refine T.pv (PV.indexAddr rfl rfl (by omega)) Wanted.none rfl rfl ?_
          refine T.pv (PV.loadSubAll rfl (by assumption) (by exact rfl)) Wanted.none rfl rfl ?_
          (refine T.alloc Wanted.none rfl ?_; intro b11)
          refine T.storeA Wanted.none rfl rfl zq8 (by exact rfl) zq14 zq13 ?_
          refine T.opsNil ?_
          refine T.seq ?_
          refine T.region ?_
          refine T.pv (PV.fieldAddr rfl) Wanted.none rfl rfl ?_
          refine T.pv (PV.load1 rfl zq0 rfl) Wanted.none rfl rfl ?_
          refine T.pv (PV.move rfl) Wanted.none rfl rfl ?_
          refine T.pv (PV.seql rfl rfl) Wanted.none rfl rfl ?_
          refine T.pv (PV.move rfl) Wanted.none rfl rfl ?_
          refine T.pass (Unwanted.guard rfl rfl (by assumption)) rfl rfl ?_
          refine T.pass (Unwanted.guard rfl rfl (by assumption)) rfl rfl ?_
          refine T.pass (Unwanted.guard rfl rfl (by assumption)) rfl rfl ?_
          refine T.pass (Unwanted.guard rfl rfl (by assumption)) rfl rfl ?_
          refine T.pass (Unwanted.guard rfl rfl (by assumption)) rfl rfl ?_
          refine T.pv (PV.pickF rfl (by assumption) rfl) Wanted.none rfl rfl ?_
          refine T.pv (PV.move rfl) Wanted.none rfl rfl ?_
          refine T.pass (Unwanted.guard rfl rfl rfl) rfl rfl ?_
          refine T.pass (Unwanted.guard rfl rfl rfl) rfl rfl ?_
          refine T.pass (Unwanted.guard rfl rfl rfl) rfl rfl ?_
          refine T.pass (Unwanted.guard rfl rfl rfl) rfl rfl ?_
          refine T.pass (Unwanted.guard rfl rfl rfl) rfl rfl ?_
          refine T.pv (PV.pickF rfl rfl rfl) Wanted.none rfl rfl ?_
          refine T.pv (PV.move rfl) Wanted.none rfl rfl ?_
          refine T.pass (Unwanted.guard rfl rfl rfl) rfl rfl ?_
          refine T.pass (Unwanted.guard rfl rfl rfl) rfl rfl ?_
          refine T.pass (Unwanted.guard rfl rfl rfl) rfl rfl ?_
          refine T.pass (Unwanted.guard rfl rfl rfl) rfl rfl ?_
          refine T.pass (Unwanted.guard rfl rfl rfl) rfl rfl ?_
          refine T.pass (Unwanted.guard rfl rfl rfl) rfl rfl ?_
          refine T.pass (Unwanted.guard rfl rfl rfl) rfl rfl ?_
          refine T.pass (Unwanted.guard rfl rfl rfl) rfl rfl ?_
          refine T.pass (Unwanted.guard rfl rfl rfl) rfl rfl ?_
          refine T.pass (Unwanted.guard rfl rfl rfl) rfl rfl ?_
          refine T.pass (Unwanted.guard rfl rfl rfl) rfl rfl ?_
          refine T.pv (PV.pickF rfl rfl rfl) Wanted.none rfl rfl ?_
          refine T.opsNil ?_
          refine T.condF rfl rfl ?_
          refine T.skip ?_
          refine T.blkEnd ?_
          refine T.region ?_
          refine T.pv (PV.add rfl rfl (by omega)) Wanted.none rfl rfl ?_
          refine T.pv (PV.move rfl) Wanted.none rfl rfl ?_
          refine T.opsNil ?_
          exact T.nextR (by omega) rfl zq8 (by repeat (first | exact Sel.refl _ | exact Sel.nil | (refine Sel.cons zq1 ?_) | (refine Sel.app zq1 ?_) | exact Sel.one zq1))
      · refine T.seq ?_
        refine T.region ?_
        refine T.pv (PV.lss rfl rfl) Wanted.none rfl rfl ?_
        refine T.opsNil ?_
        refine T.seq ?_
        refine T.condF rfl (decide_eq_false (by omega)) ?_
        refine T.exit rfl ?_
        refine T.blkEnd ?_
        refine T.region ?_
        refine T.pv (PV.add rfl rfl (by omega)) Wanted.none rfl rfl ?_
        refine T.pv (PV.move rfl) Wanted.none rfl rfl ?_
        refine T.opsNil ?_
        exact T.nextR (by omega) rfl zq8 (by repeat (first | exact Sel.refl _ | exact Sel.nil | (refine Sel.cons zq1 ?_) | (refine Sel.app zq1 ?_) | exact Sel.one zq1))
  · have kn := known_fn H2
    refine T.seq ?_
    refine T.region ?_
    refine T.pv (PV.lss rfl rfl) Wanted.none rfl rfl ?_
    refine T.opsNil ?_
    refine T.seq ?_
    refine T.condF rfl (decide_eq_false (by omega)) ?_
    refine T.exit rfl ?_
    refine T.seq ?_
    refine T.region ?_
    refine T.callV Wanted.none rfl rfl (kn) ?_
    refine T.pv (PV.assign rfl) Wanted.none rfl rfl ?_
    refine T.opsNil ?_
    exact T.retF (Lv.fin (RV.tmp rfl rfl) rfl)
end Go.Proofs.Ytchgfjclchhgmaa
