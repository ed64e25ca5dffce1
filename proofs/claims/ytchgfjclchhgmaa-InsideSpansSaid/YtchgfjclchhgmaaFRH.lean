/- regions: Spans. -/
import Derived.Test.YtchgfjclchhgmaaFN9
import Derived.Test.YtchgfjclchhgmaaFRG
namespace Go.Proofs.Ytchgfjclchhgmaa
open Go.RowKit

theorem T.owned {P : Program} {X : Cx} {e : Env} {l l' : List (Nat × Obj)} {H : Hp} {D : List Deferred} {k : List It} (hl : l = l') (h : T P X e l' H D k) : T P X e l H D k := hl ▸ h
def spOf (p : Rg × Nat) : Sp := (p.1.b, p.1.e)
set_option maxHeartbeats 2000000 in
theorem spans_in (c : Cp) (kind : ByteArray) (H : Hp) (hc : CpL H c) (hlr : c.rg.length ≤ 1000) : Fn Try.prog 29 #[cpV c, .string kind] H (fun u H' => SpL H' u (spansL ((ofL c.rg kind).map spOf))) := by
  have hof := of_fn c kind H
  have hrl := hc.r
  have hol : ((ofL c.rg kind).map spOf).length ≤ 1000 := by
    rw [List.length_map]
    unfold ofL
    have := List.length_filter_le (fun p : Rg × Nat => decide (p.1.ty = kind)) c.rg.zipIdx
    rw [List.length_zipIdx] at this
    omega
  unfold cpV cpC at hof
  unfold cpV
  refine Fn.of_T (vs := [.agg #[c.va, c.vt, c.vx, c.vr, c.vn, c.vh, c.vs], .string kind]) Try.func29 rfl rfl fun w => ?_
  refine T.seq ?_
  refine T.region ?_
  (refine T.box Wanted.none rfl rfl zq15 ?_; intro b2)
  refine T.pv (PV.assign rfl) Wanted.none rfl rfl ?_
  refine T.opsNil ?_
  refine T.seq ?_
  refine T.region ?_
  (refine T.alloc Wanted.none rfl ?_; intro b5)
  refine T.opsNil ?_
  refine T.seq ?_
  refine T.seq ?_
  refine T.region ?_
  refine T.pv (PV.loadAll rfl zq0 (by exact rfl)) Wanted.none rfl rfl ?_
  refine T.pv (PV.move rfl) Wanted.none rfl rfl ?_
  refine T.call Wanted.none rfl rfl hof ?_
  rintro _ H2 hle2 ⟨bc, bk, rfl, hbc, hbk⟩
  refine T.opsNil ?_
  refine T.block ?_
  refine T.rangeFunc rfl rfl (of_iter c kind bc bk H2 (hc.mono hle2) (by unfold cpC; exact hbc) hbk) (fun _ => rfl) rfl (by decide)
    (fun n lk _ => ∃ v lv, RowV 25 encS 2 v lv (((ofL c.rg kind).take n).map spOf) ∧ lk = lv ++ [(b5, .cells #[v] 47 (0, 0)), (b2, .cells #[c.va, c.vt, c.vx, c.vr, c.vn, c.vh, c.vs] 33 (0, 0))])
    (fun cd lk _ => False)
    ⟨_, [], Vec.nil _ _, rfl⟩ ?_ ?_ ?_
  · rintro n ⟨r, idx⟩ lk Hk hx ⟨v, lv, hz, rfl⟩ hle L rec lo hrec
    have hrm := ofL_mem (List.mem_of_getElem? hx)
    have hrok := (hrl.2 r hrm).mono (hle2.trans hle)
    obtain ⟨ak, ck, hk⟩ := hrok.1.len
    obtain ⟨adv, capv, rfl⟩ := hz.val
    have hst : ((ofL c.rg kind).take (n + 1)).map spOf = ((ofL c.rg kind).take n).map spOf ++ [(r.b, r.e)] := by
      rw [List.take_add_one, hx, List.map_append]; rfl
    have hLl : (((ofL c.rg kind).take n).map spOf).length ≤ 1000 := by
      rw [List.length_map] at hol ⊢
      rw [List.length_take]; omega
    unfold encOf
    unfold rgV
    dsimp only
    rw [hk]
    refine T.region ?_
    (refine T.alloc Wanted.none rfl ?_; intro b7)
    refine T.storeA Wanted.none rfl rfl zq8 (by exact rfl) zq14 zq13 ?_
    refine T.opsNil ?_
    refine T.begin (lk := _ :: (lv ++ [_, _])) hrec ?_
    refine T.owned (by rw [List.cons_append, List.append_assoc, List.cons_append, List.cons_append, List.nil_append]) ?_
    refine T.block ?_
    refine T.region ?_
    refine T.pv (PV.load1 rfl zq0 rfl) Wanted.none rfl rfl ?_
    refine T.pv (PV.fieldAddr rfl) Wanted.none rfl rfl ?_
    refine T.pv (PV.load1 rfl zq0 rfl) Wanted.none rfl rfl ?_
    refine T.pv (PV.fieldAddr rfl) Wanted.none rfl rfl ?_
    refine T.pv (PV.load1 rfl zq0 rfl) Wanted.none rfl rfl ?_
    refine T.pv (PV.build rfl zq12) Wanted.none rfl rfl ?_
    (refine T.buildSlice Wanted.none rfl rfl zq11 (by exact rfl) (by exact rfl) ?_; intro b19)
    (refine T.appendP (lv := lv) Wanted.none rfl rfl rfl hz (Src.cells (m := 1) (ys := encS (r.b, r.e)) (.own zq2) rfl rfl) (one_encS _) (by omega) zq1 ?_; intro v20 lv20 hv20 _; obtain ⟨ad20, cap20, rfl⟩ := hv20.val)
    refine T.store1 Wanted.none rfl rfl rfl zq14 zq13 ?_
    refine T.opsNil ?_
    refine T.blkEnd ?_
    refine T.roundEnd (lv20 ++ [_, _]) (by rw [List.append_assoc]; exact List.Sublist.append_left (.cons _ (.cons _ (List.Sublist.refl _))) lv20) (Hp.le.refl _) ⟨_, lv20, ?_, rfl⟩
    rw [hst]
    exact RowV.snoc hv20
  · rintro r lk Hk hle ⟨v, lv, hz, rfl⟩
    rw [List.take_length] at hz
    refine T.blkEnd ?_
    refine T.seq ?_
    refine T.region ?_
    refine T.pv (PV.load1 rfl zq0 rfl) Wanted.none rfl rfl ?_
    (refine T.callW Wanted.none rfl rfl (sort_fn _ _ lv Hk hz (by omega)) zq1 ?_; rintro _ H3 lv2 _ ⟨rfl, rfl, hv2⟩)
    refine T.opsNil ?_
    refine T.seq ?_
    refine T.region ?_
    refine T.pv (PV.load1 rfl zq0 rfl) Wanted.none rfl rfl ?_
    (refine T.callW Wanted.none rfl rfl (compact_fn _ _ lv2 H3 hv2 (by unfold sortC; rw [List.length_mergeSort]; omega)) zq1 ?_; rintro u H4 lv3 _ ⟨rfl, hv3⟩)
    refine T.pv (PV.assign rfl) Wanted.none rfl rfl ?_
    refine T.opsNil ?_
    refine T.freezeP (lv := lv3) hv3 zq1 ?_
    intro H5 hle5 hs5
    exact T.retF (Lv.mark Upd.head (Lv.fin zq6 hs5))
  · rintro cd r lk Hk hle h
    exact h.elim
end Go.Proofs.Ytchgfjclchhgmaa
