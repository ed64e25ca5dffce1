/- lines: the reference's Sample. -/
import Derived.Test.YtlklcjpmfjmenaaGreatDoorFE6
namespace Go.Proofs.YtlklcjpmfjmenaaGreatDoor
open Go.RowKit

structure SfG where
  i : Nat
  v : Value
  lv : List (Nat × Obj)
  A : List Mt
structure SfQ where
  j : Nat
  q : Nat
set_option maxHeartbeats 8000000 in
theorem sample_ref (c : Cp) (L : List Mt) (vm : Value) (seed n : Int) (H : Hp) (hc : CpL H c) (hw : CpW c) (hL : MtL H vm L) (hLl : L.length ≤ 1000) (hls : ∀ m ∈ L, m.ls.length ≤ 1000) (hs : -9223372036854775808 ≤ seed ∧ seed ≤ 9223372036854775807) (htx : ∀ t ∈ c.tx, t.ty.size ≤ 1000000) :
    Fn Tryz.prog 23 #[cpV c, vm, .int .i64 seed, .int .i64 n] H (fun u H' => ∃ v A, u = .tuple #[v, .int .i64 (smpE c L n)] ∧ MtL H' v A ∧ (smpE c L n = 0 → A.map keyM = (smpU (rowsU c seed L) n.toNat).map (·.1)) ∧ (smpE c L n ≠ 0 → A = [])) := by
  obtain ⟨am, cm, rfl⟩ := hL.1.len
  unfold cpV
  refine Fn.of_T (vs := [.agg #[c.va, c.vt, c.vx, c.vr, c.vn, c.vh, c.vs], .slice am L.length cm, .int .i64 seed, .int .i64 n]) Tryz.func23 rfl rfl fun w => ?_
  by_cases hn0 : n < 0
  · have h1 : smpE c L n = 1 := by unfold smpE; rw [if_pos hn0]
    refine sq ?_
    refine sr ?_
    (refine T.box Wanted.none rfl rfl zq15 ?_; intro b4)
    refine sa ?_
    refine sa ?_
    refine so ?_
    refine sq ?_
    refine sq ?_
    refine sr ?_
    refine sm ?_
    refine sv (PV.lss rfl rfl) ?_
    refine so ?_
    refine sc rfl (by omega) ?_
    refine sq ?_
    refine sr ?_
    refine sa ?_
    refine sa ?_
    refine so ?_
    exact T.retF (Lv.fin (RV.tmp2 rfl rfl rfl) ⟨_, [], by rw [h1], ⟨SlR.empty, by simp⟩, by rw [h1]; intro h; omega, fun _ => rfl⟩)
  refine sq ?_
  refine sr ?_
  (refine T.box Wanted.none rfl rfl zq15 ?_; intro b4)
  refine sa ?_
  refine sa ?_
  refine so ?_
  refine sq ?_
  refine sq ?_
  refine sr ?_
  refine sm ?_
  refine sv (PV.lss rfl rfl) ?_
  refine so ?_
  refine sd rfl (by omega) ?_
  refine T.skip ?_
  refine sq ?_
  refine sq ?_
  refine sr ?_
  refine sm ?_
  refine sv (PV.lenSl rfl) ?_
  refine sm ?_
  refine so ?_
  refine T.block ?_
  refine T.loopC [(23, Value.int IntKind.i64 (↑L.length : Int)), (22, Value.slice am L.length cm), (4, Value.pointer (some { block := b4, off := 0 })), (1, Value.slice am L.length cm), (2, Value.int IntKind.i64 seed), (3, Value.int IntKind.i64 n)] zq8 24 L.length (fun i => (L.take i).all (fun m => (fitO c m).isSome) = true) rfl rfl ?_
  rintro i0 ⟨hi0, hi1⟩
  by_cases hi : i0 < L.length
  · obtain ⟨bx, off, m, rfl, hix, hsub⟩ := RowL.get encM_len hL.1 hi
    have hmm := List.mem_of_getElem? hix
    have hlab := hL.2 m hmm
    obtain ⟨al, cl, hmv⟩ := hlab.1.len
    unfold encM at hsub
    rw [hmv] at hsub
    have hfi := fits_ref c m H hc hlab (hls m hmm)
    unfold cpV mtV at hfi
    rw [hmv] at hfi
    have htk : (L.take (i0 + 1)).all (fun m => (fitO c m).isSome) = (fitO c m).isSome := by rw [List.take_add_one, hix, List.all_append, hi1]; simp
    cases hf : (fitO c m).isSome
    · have h8 : smpE c L n = 8 := by
        unfold smpE
        rw [if_neg hn0, if_neg]
        rw [List.all_eq_true]
        intro h
        have := h m hmm
        rw [hf] at this
        cases this
      rw [hf] at hfi
      refine sq ?_
      refine sr ?_
      refine sv (PV.lss rfl rfl) ?_
      refine so ?_
      refine sq ?_
      refine sc rfl (by omega) ?_
      refine T.skip ?_
      refine sq ?_
      refine T.block ?_
      refine sq ?_
      refine sr ?_
      refine sv (PV.indexAddr rfl rfl (by omega)) ?_
      refine sv (PV.loadSubAll rfl (by assumption) (by exact rfl)) ?_
      refine sy fun b11 => ?_
      refine T.storeA Wanted.none rfl rfl zq8 (by exact rfl) zq14 zq13 ?_
      refine so ?_
      refine sq ?_
      refine sr ?_
      refine sv (PV.loadAll rfl zq0 (by exact rfl)) ?_
      refine sv (PV.loadAll rfl zq0 (by exact rfl)) ?_
      refine T.callV Wanted.none rfl rfl (hfi) ?_
      refine sv (PV.not rfl) ?_
      refine so ?_
      refine T.condT rfl rfl ?_
      refine sq ?_
      refine sr ?_
      refine sa ?_
      refine sa ?_
      refine so ?_
      exact T.retF (Lv.fin (RV.tmp2 rfl rfl rfl) ⟨_, [], by rw [h8], ⟨SlR.empty, by simp⟩, by rw [h8]; intro h; omega, fun _ => rfl⟩)
    · rw [hf] at hfi htk
      refine sq ?_
      refine sr ?_
      refine sv (PV.lss rfl rfl) ?_
      refine so ?_
      refine sq ?_
      refine sc rfl (by omega) ?_
      refine T.skip ?_
      refine sq ?_
      refine T.block ?_
      refine sq ?_
      refine sr ?_
      refine sv (PV.indexAddr rfl rfl (by omega)) ?_
      refine sv (PV.loadSubAll rfl (by assumption) (by exact rfl)) ?_
      refine sy fun b11 => ?_
      refine T.storeA Wanted.none rfl rfl zq8 (by exact rfl) zq14 zq13 ?_
      refine so ?_
      refine sq ?_
      refine sr ?_
      refine sv (PV.loadAll rfl zq0 (by exact rfl)) ?_
      refine sv (PV.loadAll rfl zq0 (by exact rfl)) ?_
      refine T.callV Wanted.none rfl rfl (hfi) ?_
      refine sv (PV.not rfl) ?_
      refine so ?_
      refine T.condF rfl rfl ?_
      refine T.skip ?_
      refine T.blkEnd ?_
      refine sr ?_
      refine sv (PV.add rfl rfl (by omega)) ?_
      refine sm ?_
      refine so ?_
      exact T.nextC hi htk rfl zq8 (by repeat (first | exact Sel.refl _ | exact Sel.nil | (refine Sel.cons zq1 ?_) | (refine Sel.app zq1 ?_) | exact Sel.one zq1))
  rw [List.take_of_length_le (by omega)] at hi1
  have h0 : smpE c L n = 0 := by unfold smpE; rw [if_neg hn0, if_pos hi1]
  obtain ⟨F, hF⟩ : ∃ F, F = rowsU c seed L := ⟨_, rfl⟩
  have hFl : F.length = L.length := by rw [hF, rowsU_len]
  refine sq ?_
  refine sr ?_
  refine sv (PV.lss rfl rfl) ?_
  refine so ?_
  refine sq ?_
  refine sd rfl (by omega) ?_
  refine T.exit rfl ?_
  refine sq ?_
  refine sr ?_
  refine sa ?_
  refine so ?_
  refine sq ?_
  refine sq ?_
  refine sr ?_
  refine sm ?_
  refine sv (PV.lenSl rfl) ?_
  refine sm ?_
  refine so ?_
  refine T.block ?_
  refine T.loopK [(34, Value.int IntKind.i64 (↑L.length : Int)), (33, Value.slice am L.length cm), (4, Value.pointer (some { block := b4, off := 0 })), (1, Value.slice am L.length cm), (2, Value.int IntKind.i64 seed), (3, Value.int IntKind.i64 n)] zq8 (γ := SfG) (fun g => g.i ≤ L.length ∧ RowV 24 encM 3 g.v g.lv g.A ∧ (∀ y ∈ g.A, LabOk H y) ∧ g.A.length ≤ g.i ∧ g.A.map keyM = ((F.take g.i).filter (fun r => decide (rankU F r < n.toNat))).map (·.1)) (fun g => [(35, .int .i64 (g.i : Int)), (12, g.v)]) (fun g => g.lv ++ [(b4, .cells #[c.va, c.vt, c.vx, c.vr, c.vn, c.vh, c.vs] 34 (0, 0))]) (fun _ => H) (fun g => L.length - g.i) ⟨0, .slice none 0 0, [], []⟩ ⟨by simp, Vec.nil _ _, by simp, by simp, by simp⟩ zq8 (by repeat (first | exact Sel.refl _ | exact Sel.nil | (refine Sel.cons zq1 ?_) | (refine Sel.app zq1 ?_) | exact Sel.one zq1)) rfl ?_
  rintro ⟨i, v, lv, A⟩ ⟨g1, g2, g3, g5, g4⟩
  dsimp only at g1 g2 g3 g4 g5 ⊢
  obtain ⟨adv, capv, rfl⟩ := g2.val
  by_cases hi2 : i < L.length
  · obtain ⟨bx, off, m, rfl, hix, hsub⟩ := RowL.get encM_len hL.1 hi2
    have hmm := List.mem_of_getElem? hix
    have hlab := hL.2 m hmm
    obtain ⟨al, cl, hmv⟩ := hlab.1.len
    have hmE : encM m = [.int .i64 m.b, .int .i64 m.e, .slice al m.ls.length cl] := by unfold encM; rw [hmv]
    unfold encM at hsub
    rw [hmv] at hsub
    have hone := one_encM hlab
    rw [hmE] at hone
    have hhm := hash_ref c m seed H hc hw hlab (hls m hmm) hs htx
    unfold cpV mtV at hhm
    rw [hmv] at hhm
    have hrow : F[i]? = some (keyM m, (i : Int), hashO c m seed) := by rw [hF]; exact rowsU_at c seed L hix
    have hft : F.take (i + 1) = F.take i ++ [(keyM m, (i : Int), hashO c m seed)] := by rw [List.take_add_one, hrow]; rfl
    refine sq ?_
    refine sr ?_
    refine sv (PV.lss rfl rfl) ?_
    refine so ?_
    refine sq ?_
    refine sc rfl (by omega) ?_
    refine T.skip ?_
    refine sq ?_
    refine T.block ?_
    refine sq ?_
    refine sr ?_
    refine sm ?_
    refine sv (PV.indexAddr rfl rfl (by omega)) ?_
    refine sv (PV.loadSubAll rfl (by assumption) (by exact rfl)) ?_
    refine sy fun b14 => ?_
    refine sa ?_
    refine T.storeA Wanted.none rfl rfl zq8 (by exact rfl) zq14 zq13 ?_
    refine so ?_
    refine sq ?_
    refine sr ?_
    refine sa ?_
    refine so ?_
    refine sq ?_
    refine sq ?_
    refine sr ?_
    refine sm ?_
    refine sv (PV.lenSl rfl) ?_
    refine sm ?_
    refine so ?_
    refine T.block ?_
    refine T.loopK [(41, Value.int IntKind.i64 (↑L.length : Int)), (40, Value.slice (some { block := bx, off := off }) L.length cm), (13, Value.int IntKind.i64 (↑i : Int)), (14, Value.pointer (some { block := b14, off := 0 })), (35, Value.int IntKind.i64 (↑i : Int)), (12, Value.slice adv A.length capv), (34, Value.int IntKind.i64 (↑L.length : Int)), (33, Value.slice (some { block := bx, off := off }) L.length cm), (4, Value.pointer (some { block := b4, off := 0 })), (1, Value.slice (some { block := bx, off := off }) L.length cm), (2, Value.int IntKind.i64 seed), (3, Value.int IntKind.i64 n)] zq8 (γ := SfQ) (fun g => g.j ≤ L.length ∧ g.q ≤ g.j ∧ g.q = (F.take g.j).countP (fun x => ltU x (keyM m, (i : Int), hashO c m seed))) (fun g => [(42, .int .i64 (g.j : Int)), (15, .int .i64 (g.q : Int))]) (fun _ => lv ++ [(b14, .cells #[.int .i64 m.b, .int .i64 m.e, .slice al m.ls.length cl] 24 (0, 0)), (b4, .cells #[c.va, c.vt, c.vx, c.vr, c.vn, c.vh, c.vs] 34 (0, 0))]) (fun _ => H) (fun g => L.length - g.j) ⟨0, 0⟩ ⟨by simp, by simp, by simp⟩ zq8 (by repeat (first | exact Sel.refl _ | exact Sel.nil | (refine Sel.cons zq1 ?_) | (refine Sel.app zq1 ?_) | exact Sel.one zq1)) rfl ?_
    rintro ⟨j, q⟩ ⟨j1, j3, j2⟩
    dsimp only at j1 j2 j3 ⊢
    by_cases hj : j < L.length
    · obtain ⟨by_, offy, x, hye, hjx, hsuby⟩ := RowL.get encM_len hL.1 hj
      simp only [Value.slice.injEq, Option.some.injEq, Addr.mk.injEq, and_true] at hye
      obtain ⟨rfl, rfl⟩ := hye
      have hxm := List.mem_of_getElem? hjx
      have hxlab := hL.2 x hxm
      obtain ⟨ax, cx, hxv⟩ := hxlab.1.len
      unfold encM at hsuby
      rw [hxv] at hsuby
      have hhx := hash_ref c x seed H hc hw hxlab (hls x hxm) hs htx
      unfold cpV mtV at hhx
      rw [hxv] at hhx
      have hrowx : F[j]? = some (keyM x, (j : Int), hashO c x seed) := by rw [hF]; exact rowsU_at c seed L hjx
      have hcn : (F.take (j + 1)).countP (fun x => ltU x (keyM m, (i : Int), hashO c m seed)) = q + (if ltU (keyM x, (j : Int), hashO c x seed) (keyM m, (i : Int), hashO c m seed) = true then 1 else 0) := by
        rw [List.take_add_one, hrowx, List.countP_append, ← j2]
        simp [List.countP_cons]
      generalize hashO c x seed = p1 at hhx hcn
      generalize hashO c m seed = p2 at hhm hcn hft hrow j2 ⊢
      by_cases q1 : p1 < p2
      · rw [if_pos (by unfold ltU; simp [q1])] at hcn
        refine sq ?_
        refine sr ?_
        refine sv (PV.lss rfl rfl) ?_
        refine so ?_
        refine sq ?_
        refine sc rfl (by omega) ?_
        refine T.skip ?_
        refine sq ?_
        refine T.block ?_
        refine sq ?_
        refine sr ?_
        refine sm ?_
        refine sv (PV.indexAddr rfl rfl (by omega)) ?_
        refine sv (PV.loadSubAll rfl (by assumption) (by exact rfl)) ?_
        refine sy fun b17 => ?_
        refine sa ?_
        refine T.storeA Wanted.none rfl rfl zq8 (by exact rfl) zq14 zq13 ?_
        refine so ?_
        refine sq ?_
        refine T.regionQ (by kernel_rfl) ?_
        refine TQ.pv (PV.loadAll rfl zq0 (by exact rfl)) Wanted.none rfl rfl ?_
        refine TQ.pv (PV.loadAll rfl zq0 (by exact rfl)) Wanted.none rfl rfl ?_
        refine TQ.pv (PV.move rfl) Wanted.none rfl rfl ?_
        refine TQ.callV Wanted.none rfl rfl (hhx) ?_
        refine TQ.pv (PV.loadAll rfl zq0 (by exact rfl)) Wanted.none rfl rfl ?_
        refine TQ.pv (PV.loadAll rfl zq0 (by exact rfl)) Wanted.none rfl rfl ?_
        refine TQ.pv (PV.move rfl) Wanted.none rfl rfl ?_
        refine TQ.callV Wanted.none rfl rfl (hhm) ?_
        refine TQ.pv (PV.assign rfl) Wanted.none rfl rfl ?_
        refine TQ.pv (PV.assign rfl) Wanted.none rfl rfl ?_
        refine TQ.nil ?_
        refine sq ?_
        refine sr ?_
        refine sm ?_
        refine sm ?_
        refine sv (PV.lss rfl rfl) ?_
        refine sm ?_
        refine T.setT (d := 58) rfl (by omega) ?_
        refine sp ?_
        refine sp ?_
        refine sp ?_
        refine sp ?_
        refine su ?_
        refine su ?_
        refine su ?_
        refine sp ?_
        refine sT ?_
        refine so ?_
        refine T.condT rfl rfl ?_
        refine sr ?_
        refine sm ?_
        refine sv (PV.add rfl rfl (by omega)) ?_
        refine sa ?_
        refine so ?_
        refine T.blkEnd ?_
        refine sr ?_
        refine sv (PV.add rfl rfl (by omega)) ?_
        refine sm ?_
        refine so ?_
        exact T.nextP ⟨j + 1, q + 1⟩ ⟨by dsimp only; omega, by dsimp only; omega, hcn.symm⟩ (by dsimp only; omega) zq8 (by repeat (first | exact Sel.refl _ | exact Sel.nil | (refine Sel.cons zq1 ?_) | (refine Sel.app zq1 ?_) | exact Sel.one zq1)) rfl
      · by_cases q2 : p1 = p2
        · by_cases q3 : (j : Int) < (i : Int)
          · rw [if_pos (by unfold ltU; simp only [decide_eq_true_eq]; exact .inr ⟨q2, q3⟩)] at hcn
            refine sq ?_
            refine sr ?_
            refine sv (PV.lss rfl rfl) ?_
            refine so ?_
            refine sq ?_
            refine sc rfl (by omega) ?_
            refine T.skip ?_
            refine sq ?_
            refine T.block ?_
            refine sq ?_
            refine sr ?_
            refine sm ?_
            refine sv (PV.indexAddr rfl rfl (by omega)) ?_
            refine sv (PV.loadSubAll rfl (by assumption) (by exact rfl)) ?_
            refine sy fun b17 => ?_
            refine sa ?_
            refine T.storeA Wanted.none rfl rfl zq8 (by exact rfl) zq14 zq13 ?_
            refine so ?_
            refine sq ?_
            refine T.regionQ (by kernel_rfl) ?_
            refine TQ.pv (PV.loadAll rfl zq0 (by exact rfl)) Wanted.none rfl rfl ?_
            refine TQ.pv (PV.loadAll rfl zq0 (by exact rfl)) Wanted.none rfl rfl ?_
            refine TQ.pv (PV.move rfl) Wanted.none rfl rfl ?_
            refine TQ.callV Wanted.none rfl rfl (hhx) ?_
            refine TQ.pv (PV.loadAll rfl zq0 (by exact rfl)) Wanted.none rfl rfl ?_
            refine TQ.pv (PV.loadAll rfl zq0 (by exact rfl)) Wanted.none rfl rfl ?_
            refine TQ.pv (PV.move rfl) Wanted.none rfl rfl ?_
            refine TQ.callV Wanted.none rfl rfl (hhm) ?_
            refine TQ.pv (PV.assign rfl) Wanted.none rfl rfl ?_
            refine TQ.pv (PV.assign rfl) Wanted.none rfl rfl ?_
            refine TQ.nil ?_
            refine sq ?_
            refine sr ?_
            refine sm ?_
            refine sm ?_
            refine sv (PV.lss rfl rfl) ?_
            refine sm ?_
            refine T.setF (d := 58) rfl (by omega) ?_
            refine gm ?_
            refine gm ?_
            refine gv (PV.eql rfl rfl) ?_
            refine gm ?_
            refine T.setT (d := 62) rfl (by omega) ?_
            refine gm ?_
            refine gm ?_
            refine gv (PV.lss rfl rfl) ?_
            refine gv (PV.pickT rfl rfl rfl) ?_
            refine sF ?_
            refine so ?_
            refine sc rfl (by omega) ?_
            refine sr ?_
            refine sm ?_
            refine sv (PV.add rfl rfl (by omega)) ?_
            refine sa ?_
            refine so ?_
            refine T.blkEnd ?_
            refine sr ?_
            refine sv (PV.add rfl rfl (by omega)) ?_
            refine sm ?_
            refine so ?_
            exact T.nextP ⟨j + 1, q + 1⟩ ⟨by dsimp only; omega, by dsimp only; omega, hcn.symm⟩ (by dsimp only; omega) zq8 (by repeat (first | exact Sel.refl _ | exact Sel.nil | (refine Sel.cons zq1 ?_) | (refine Sel.app zq1 ?_) | exact Sel.one zq1)) rfl
          · rw [if_neg (by unfold ltU; simp only [decide_eq_true_eq]; omega)] at hcn
            refine sq ?_
            refine sr ?_
            refine sv (PV.lss rfl rfl) ?_
            refine so ?_
            refine sq ?_
            refine sc rfl (by omega) ?_
            refine T.skip ?_
            refine sq ?_
            refine T.block ?_
            refine sq ?_
            refine sr ?_
            refine sm ?_
            refine sv (PV.indexAddr rfl rfl (by omega)) ?_
            refine sv (PV.loadSubAll rfl (by assumption) (by exact rfl)) ?_
            refine sy fun b17 => ?_
            refine sa ?_
            refine T.storeA Wanted.none rfl rfl zq8 (by exact rfl) zq14 zq13 ?_
            refine so ?_
            refine sq ?_
            refine T.regionQ (by kernel_rfl) ?_
            refine TQ.pv (PV.loadAll rfl zq0 (by exact rfl)) Wanted.none rfl rfl ?_
            refine TQ.pv (PV.loadAll rfl zq0 (by exact rfl)) Wanted.none rfl rfl ?_
            refine TQ.pv (PV.move rfl) Wanted.none rfl rfl ?_
            refine TQ.callV Wanted.none rfl rfl (hhx) ?_
            refine TQ.pv (PV.loadAll rfl zq0 (by exact rfl)) Wanted.none rfl rfl ?_
            refine TQ.pv (PV.loadAll rfl zq0 (by exact rfl)) Wanted.none rfl rfl ?_
            refine TQ.pv (PV.move rfl) Wanted.none rfl rfl ?_
            refine TQ.callV Wanted.none rfl rfl (hhm) ?_
            refine TQ.pv (PV.assign rfl) Wanted.none rfl rfl ?_
            refine TQ.pv (PV.assign rfl) Wanted.none rfl rfl ?_
            refine TQ.nil ?_
            refine sq ?_
            refine sr ?_
            refine sm ?_
            refine sm ?_
            refine sv (PV.lss rfl rfl) ?_
            refine sm ?_
            refine T.setF (d := 58) rfl (by omega) ?_
            refine gm ?_
            refine gm ?_
            refine gv (PV.eql rfl rfl) ?_
            refine gm ?_
            refine T.setT (d := 62) rfl (by omega) ?_
            refine gm ?_
            refine gm ?_
            refine gv (PV.lss rfl rfl) ?_
            refine gv (PV.pickT rfl rfl rfl) ?_
            refine sF ?_
            refine so ?_
            refine sd rfl (by omega) ?_
            refine T.skip ?_
            refine T.blkEnd ?_
            refine sr ?_
            refine sv (PV.add rfl rfl (by omega)) ?_
            refine sm ?_
            refine so ?_
            exact T.nextP ⟨j + 1, q⟩ ⟨by dsimp only; omega, by dsimp only; omega, hcn.symm⟩ (by dsimp only; omega) zq8 (by repeat (first | exact Sel.refl _ | exact Sel.nil | (refine Sel.cons zq1 ?_) | (refine Sel.app zq1 ?_) | exact Sel.one zq1)) rfl
        · rw [if_neg (by unfold ltU; simp only [decide_eq_true_eq]; omega)] at hcn
          refine sq ?_
          refine sr ?_
          refine sv (PV.lss rfl rfl) ?_
          refine so ?_
          refine sq ?_
          refine sc rfl (by omega) ?_
          refine T.skip ?_
          refine sq ?_
          refine T.block ?_
          refine sq ?_
          refine sr ?_
          refine sm ?_
          refine sv (PV.indexAddr rfl rfl (by omega)) ?_
          refine sv (PV.loadSubAll rfl (by assumption) (by exact rfl)) ?_
          refine sy fun b17 => ?_
          refine sa ?_
          refine T.storeA Wanted.none rfl rfl zq8 (by exact rfl) zq14 zq13 ?_
          refine so ?_
          refine sq ?_
          refine T.regionQ (by kernel_rfl) ?_
          refine TQ.pv (PV.loadAll rfl zq0 (by exact rfl)) Wanted.none rfl rfl ?_
          refine TQ.pv (PV.loadAll rfl zq0 (by exact rfl)) Wanted.none rfl rfl ?_
          refine TQ.pv (PV.move rfl) Wanted.none rfl rfl ?_
          refine TQ.callV Wanted.none rfl rfl (hhx) ?_
          refine TQ.pv (PV.loadAll rfl zq0 (by exact rfl)) Wanted.none rfl rfl ?_
          refine TQ.pv (PV.loadAll rfl zq0 (by exact rfl)) Wanted.none rfl rfl ?_
          refine TQ.pv (PV.move rfl) Wanted.none rfl rfl ?_
          refine TQ.callV Wanted.none rfl rfl (hhm) ?_
          refine TQ.pv (PV.assign rfl) Wanted.none rfl rfl ?_
          refine TQ.pv (PV.assign rfl) Wanted.none rfl rfl ?_
          refine TQ.nil ?_
          refine sq ?_
          refine sr ?_
          refine sm ?_
          refine sm ?_
          refine sv (PV.lss rfl rfl) ?_
          refine sm ?_
          refine T.setF (d := 58) rfl (by omega) ?_
          refine gm ?_
          refine gm ?_
          refine gv (PV.eql rfl rfl) ?_
          refine gm ?_
          refine T.setF (d := 62) rfl (by omega) ?_
          refine sp ?_
          refine sp ?_
          refine sp ?_
          refine gv (PV.pickF rfl rfl rfl) ?_
          refine sF ?_
          refine so ?_
          refine T.condF rfl rfl ?_
          refine T.skip ?_
          refine T.blkEnd ?_
          refine sr ?_
          refine sv (PV.add rfl rfl (by omega)) ?_
          refine sm ?_
          refine so ?_
          exact T.nextP ⟨j + 1, q⟩ ⟨by dsimp only; omega, by dsimp only; omega, hcn.symm⟩ (by dsimp only; omega) zq8 (by repeat (first | exact Sel.refl _ | exact Sel.nil | (refine Sel.cons zq1 ?_) | (refine Sel.app zq1 ?_) | exact Sel.one zq1)) rfl
    · rw [List.take_of_length_le (by omega)] at j2
      have hrk : rankU F (keyM m, (i : Int), hashO c m seed) = q := j2.symm
      by_cases hq : (q : Int) < n
      · have hst : (((F.take (i + 1)).filter (fun r => decide (rankU F r < n.toNat))).map (·.1)) = (A ++ [m]).map keyM := by
          rw [hft, List.filter_append, List.map_append, ← g4, List.filter_cons, hrk, decide_eq_true (by omega)]
          simp
        refine sq ?_
        refine sr ?_
        refine sv (PV.lss rfl rfl) ?_
        refine so ?_
        refine sq ?_
        refine sd rfl (by omega) ?_
        refine T.exit rfl ?_
        refine sq ?_
        refine sr ?_
        refine sm ?_
        refine sm ?_
        refine sv (PV.lss rfl rfl) ?_
        refine so ?_
        refine sc rfl (by omega) ?_
        refine sr ?_
        refine sm ?_
        refine sv (PV.loadAll rfl zq0 (by exact rfl)) ?_
        (refine T.buildSlice Wanted.none rfl rfl zq11 (by exact rfl) (by exact rfl) ?_; intro b76)
        (refine T.appendP (lv := lv) Wanted.none rfl rfl rfl g2 (Src.cells (m := 1) (ys := [.int .i64 m.b, .int .i64 m.e, .slice al m.ls.length cl]) (.own zq2) rfl rfl) hone (by simp; omega) zq1 ?_; intro v77 lv77 hv77 _; obtain ⟨ad77, cap77, rfl⟩ := hv77.val)
        refine sa ?_
        refine so ?_
        refine T.blkEnd ?_
        refine sr ?_
        refine sv (PV.add rfl rfl (by omega)) ?_
        refine sm ?_
        refine so ?_
        rw [← hmE] at hv77
        refine T.nextP ⟨i + 1, _, lv77, A ++ [m]⟩ ⟨by dsimp only; omega, MtV.snoc' hv77, fun y hy => ?_, by dsimp only; rw [List.length_append, List.length_singleton]; omega, hst.symm⟩ (by dsimp only; omega) zq8 (by repeat (first | exact Sel.refl _ | exact Sel.nil | (refine Sel.cons zq1 ?_) | (refine Sel.app zq1 ?_) | exact Sel.one zq1)) rfl
        rcases List.mem_append.1 hy with hy | hy
        · exact g3 y hy
        · rw [List.mem_singleton] at hy; subst hy; exact hlab
      · have hst : (((F.take (i + 1)).filter (fun r => decide (rankU F r < n.toNat))).map (·.1)) = A.map keyM := by
          rw [hft, List.filter_append, List.map_append, ← g4, List.filter_cons, hrk, decide_eq_false (by omega)]
          simp
        refine sq ?_
        refine sr ?_
        refine sv (PV.lss rfl rfl) ?_
        refine so ?_
        refine sq ?_
        refine sd rfl (by omega) ?_
        refine T.exit rfl ?_
        refine sq ?_
        refine sr ?_
        refine sm ?_
        refine sm ?_
        refine sv (PV.lss rfl rfl) ?_
        refine so ?_
        refine sd rfl (by omega) ?_
        refine T.skip ?_
        refine T.blkEnd ?_
        refine sr ?_
        refine sv (PV.add rfl rfl (by omega)) ?_
        refine sm ?_
        refine so ?_
        exact T.nextP ⟨i + 1, _, lv, A⟩ ⟨by dsimp only; omega, g2, g3, by dsimp only; omega, hst.symm⟩ (by dsimp only; omega) zq8 (by repeat (first | exact Sel.refl _ | exact Sel.nil | (refine Sel.cons zq1 ?_) | (refine Sel.app zq1 ?_) | exact Sel.one zq1)) rfl
  · rw [List.take_of_length_le (by omega)] at g4
    refine sq ?_
    refine sr ?_
    refine sv (PV.lss rfl rfl) ?_
    refine so ?_
    refine sq ?_
    refine sd rfl (by omega) ?_
    refine T.exit rfl ?_
    refine sq ?_
    refine sr ?_
    refine sm ?_
    refine sa ?_
    refine sa ?_
    refine so ?_
    refine T.retF (Vec.freezeLv (l' := []) g2 (by rw [List.append_nil]; exact zq4) fun H' hleF hsl => Lv.fin (RV.tmp2 rfl rfl rfl) ⟨_, A, by rw [h0], ⟨hsl, fun y hy => (g3 y hy).mono hleF⟩, fun _ => ?_, fun h => absurd h0 h⟩)
    rw [g4, hF]; rfl
end Go.Proofs.YtlklcjpmfjmenaaGreatDoor
