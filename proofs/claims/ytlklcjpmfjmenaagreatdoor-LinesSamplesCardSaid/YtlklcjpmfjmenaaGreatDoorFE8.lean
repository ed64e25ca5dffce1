/- lines: Thin, the program's and the reference's. -/
import Derived.Test.YtlklcjpmfjmenaaGreatDoorFKM
namespace Go.Proofs.YtlklcjpmfjmenaaGreatDoor
open Go.RowKit

def thinL (n : Nat) : List Mt → Nat → List Mt
  | [], _ => []
  | m :: l, i => if i % n = 0 then m :: thinL n l (i + 1) else thinL n l (i + 1)
theorem thinL_drop {n : Nat} {L : List Mt} {i : Nat} {m : Mt} (h : L[i]? = some m) : thinL n (L.drop i) i = if i % n = 0 then m :: thinL n (L.drop (i + 1)) (i + 1) else thinL n (L.drop (i + 1)) (i + 1) := by
  rw [List.drop_eq_getElem_cons (List.getElem?_eq_some_iff.1 h).1, (List.getElem?_eq_some_iff.1 h).2]
  rfl
def thinE (n : Int) : Int := if n < 1 then 1 else 0
theorem tmod_n {i : Nat} {n : Int} (h : 1 ≤ n) : ((i : Int)).tmod n = ((i % n.toNat : Nat) : Int) := by
  obtain ⟨k, rfl⟩ : ∃ k : Nat, n = k := ⟨n.toNat, by omega⟩
  rfl
structure ThG where
  i : Nat
  H : Hp
  v : Value
  lv : List (Nat × Obj)
  A : List Mt
set_option maxHeartbeats 2000000 in
theorem thin_in (L : List Mt) (vm : Value) (n : Int) (H : Hp) (hL : MtL H vm L) (hLl : L.length ≤ 1000000) (hn : -9223372036854775808 ≤ n ∧ n ≤ 9223372036854775807) :
    Fn Tryz.prog 24 #[vm, .int .i64 n] H (fun u H' => ∃ v A, u = .tuple #[v, .int .i64 (thinE n)] ∧ MtL H' v A ∧ A.map keyM = (if n < 1 then [] else (thinL n.toNat L 0).map keyM)) := by
  obtain ⟨am, cm, rfl⟩ := hL.1.len
  refine Fn.of_T (vs := [.slice am L.length cm, .int .i64 n]) Tryz.func24 rfl rfl fun w => ?_
  by_cases hn0 : n < 1
  · have h1 : thinE n = 1 := by unfold thinE; rw [if_pos hn0]
    refine sq ?_
    refine sr ?_
    refine sa ?_
    refine sa ?_
    refine so ?_
    refine sq ?_
    refine sq ?_
    refine sr ?_
    refine sm ?_
    refine sv (PV.lss rfl rfl) ?_
    refine so ?_
    refine sc rfl (by omega) ?_
    refine sq ?_
    refine sr ?_
    refine sa ?_
    refine sa ?_
    refine so ?_
    exact T.retF (Lv.fin (RV.tmp2 rfl rfl rfl) ⟨_, [], by rw [h1], ⟨SlR.empty, by simp⟩, by rw [if_pos hn0]; rfl⟩)
  have h0 : thinE n = 0 := by unfold thinE; rw [if_neg hn0]
  refine sq ?_
  refine sr ?_
  refine sa ?_
  refine sa ?_
  refine so ?_
  refine sq ?_
  refine sq ?_
  refine sr ?_
  refine sm ?_
  refine sv (PV.lss rfl rfl) ?_
  refine so ?_
  refine sd rfl (by omega) ?_
  refine T.skip ?_
  refine sq ?_
  refine sr ?_
  refine sa ?_
  refine so ?_
  refine sq ?_
  refine sq ?_
  refine sr ?_
  refine sm ?_
  refine sv (PV.lenSl rfl) ?_
  refine sm ?_
  refine so ?_
  refine T.block ?_
  refine T.loopK [(12, Value.int IntKind.i64 (↑L.length : Int)), (11, Value.slice am L.length cm), (1, Value.int IntKind.i64 n)] zq8 (γ := ThG) (fun g => g.i ≤ L.length ∧ H.le g.H ∧ RowV 24 encM 3 g.v g.lv g.A ∧ (∀ y ∈ g.A, LabOk g.H y) ∧ g.A.length ≤ g.i ∧ g.A.map keyM ++ (thinL n.toNat (L.drop g.i) g.i).map keyM = (thinL n.toNat L 0).map keyM) (fun g => [(13, .int .i64 (g.i : Int)), (6, g.v)]) (fun g => g.lv) (fun g => g.H) (fun g => L.length - g.i) ⟨0, H, .slice none 0 0, [], []⟩ ⟨by simp, Hp.le.refl _, Vec.nil _ _, by simp, by simp, rfl⟩ zq8 (by repeat (first | exact Sel.refl _ | exact Sel.nil | (refine Sel.cons zq1 ?_) | (refine Sel.app zq1 ?_) | exact Sel.one zq1)) rfl ?_
  rintro ⟨i, H2, v, lv, A⟩ ⟨g1, g2, g3, g4, g5, g6⟩
  dsimp only at g1 g2 g3 g4 g5 g6 ⊢
  obtain ⟨adv, capv, rfl⟩ := g3.val
  by_cases hi : i < L.length
  · obtain ⟨bx, off, m, rfl, hix, hsub⟩ := RowL.get encM_len (hL.1.mono g2) hi
    have hmm := List.mem_of_getElem? hix
    have hlab := (hL.2 m hmm).mono g2
    obtain ⟨al, cl, hmv⟩ := hlab.1.len
    unfold encM at hsub
    rw [hmv] at hsub
    have hcp := copied_fn m H2 hlab
    unfold mtV at hcp
    rw [hmv] at hcp
    dsimp only at hcp
    rw [thinL_drop hix] at g6
    have hmod := tmod_n (i := i) (n := n) (by omega)
    by_cases hz : i % n.toNat = 0
    · rw [if_pos hz] at g6
      have hd : decide (((i : Int)).tmod n = 0) = true := decide_eq_true (by omega)
      refine sq ?_
      refine sr ?_
      refine sv (PV.lss rfl rfl) ?_
      refine so ?_
      refine sq ?_
      refine sc rfl (by omega) ?_
      refine T.skip ?_
      refine sq ?_
      refine T.block ?_
      refine sq ?_
      refine sr ?_
      refine sm ?_
      refine sv (PV.indexAddr rfl rfl (by omega)) ?_
      refine sv (PV.loadSubAll rfl (by assumption) (by exact rfl)) ?_
      refine sy fun b8 => ?_
      refine sa ?_
      refine T.storeA Wanted.none rfl rfl zq8 (by exact rfl) zq14 zq13 ?_
      refine so ?_
      refine sq ?_
      refine sr ?_
      refine sm ?_
      refine sm ?_
      refine sv (PV.rem rfl rfl (by omega)) ?_
      refine sv (PV.eql rfl rfl) ?_
      refine so ?_
      refine T.condT rfl (by assumption) ?_
      refine sr ?_
      refine sm ?_
      refine sv (PV.loadAll rfl zq0 (by exact rfl)) ?_
      (refine T.call Wanted.none rfl rfl hcp ?_; rintro _ H24 h24 ⟨v24, rfl, hm24⟩; have hq24 : InL H24 v24 m.ls := hm24.1; obtain ⟨ad24, cap24, rfl⟩ := hq24.len)
      (refine T.buildSlice Wanted.none rfl rfl zq11 (by exact rfl) (by exact rfl) ?_; intro b25)
      (refine T.appendP (lv := lv) Wanted.none rfl rfl rfl g3 (Src.cells (m := 1) (ys := encM ⟨m.b, m.e, .slice ad24 m.ls.length cap24, m.ls⟩) (.own zq2) rfl rfl) (one_encM (H := H24) hm24) (by omega) zq1 ?_; intro v26 lv26 hv26 _; obtain ⟨ad26, cap26, rfl⟩ := hv26.val)
      refine sa ?_
      refine so ?_
      refine T.blkEnd ?_
      refine sr ?_
      refine sv (PV.add rfl rfl (by omega)) ?_
      refine sm ?_
      refine so ?_
      refine T.nextP ⟨i + 1, H24, _, lv26, A ++ [⟨m.b, m.e, .slice ad24 m.ls.length cap24, m.ls⟩]⟩ ⟨by dsimp only; omega, g2.trans h24, MtV.snoc' hv26, fun y hy => ?_, by dsimp only; rw [List.length_append, List.length_singleton]; omega, ?_⟩ (by dsimp only; omega) zq8 (by repeat (first | exact Sel.refl _ | exact Sel.nil | (refine Sel.cons zq1 ?_) | (refine Sel.app zq1 ?_) | exact Sel.one zq1)) rfl
      · rcases List.mem_append.1 hy with hy | hy
        · exact (g4 y hy).mono h24
        · rw [List.mem_singleton] at hy; subst hy; exact hm24
      · rw [← g6]
        dsimp only
        rw [List.map_append, List.append_assoc]; rfl
    · rw [if_neg hz] at g6
      have hd : decide (((i : Int)).tmod n = 0) = false := decide_eq_false (by omega)
      refine sq ?_
      refine sr ?_
      refine sv (PV.lss rfl rfl) ?_
      refine so ?_
      refine sq ?_
      refine sc rfl (by omega) ?_
      refine T.skip ?_
      refine sq ?_
      refine T.block ?_
      refine sq ?_
      refine sr ?_
      refine sm ?_
      refine sv (PV.indexAddr rfl rfl (by omega)) ?_
      refine sv (PV.loadSubAll rfl (by assumption) (by exact rfl)) ?_
      refine sy fun b8 => ?_
      refine sa ?_
      refine T.storeA Wanted.none rfl rfl zq8 (by exact rfl) zq14 zq13 ?_
      refine so ?_
      refine sq ?_
      refine sr ?_
      refine sm ?_
      refine sm ?_
      refine sv (PV.rem rfl rfl (by omega)) ?_
      refine sv (PV.eql rfl rfl) ?_
      refine so ?_
      refine T.condF rfl (by assumption) ?_
      refine T.skip ?_
      refine T.blkEnd ?_
      refine sr ?_
      refine sv (PV.add rfl rfl (by omega)) ?_
      refine sm ?_
      refine so ?_
      exact T.nextP ⟨i + 1, H2, _, lv, A⟩ ⟨by dsimp only; omega, g2, g3, g4, by dsimp only; omega, g6⟩ (by dsimp only; omega) zq8 (by repeat (first | exact Sel.refl _ | exact Sel.nil | (refine Sel.cons zq1 ?_) | (refine Sel.app zq1 ?_) | exact Sel.one zq1)) rfl
  · rw [List.drop_of_length_le (by omega)] at g6
    refine sq ?_
    refine sr ?_
    refine sv (PV.lss rfl rfl) ?_
    refine so ?_
    refine sq ?_
    refine sd rfl (by omega) ?_
    refine T.exit rfl ?_
    refine sq ?_
    refine sr ?_
    refine sm ?_
    refine sa ?_
    refine sa ?_
    refine so ?_
    refine T.retF (Vec.freezeLv (l' := []) g3 (by rw [List.append_nil]; exact zq4) fun H' hleF hsl => Lv.fin (RV.tmp2 rfl rfl rfl) ⟨_, A, by rw [h0], ⟨hsl, fun y hy => (g4 y hy).mono hleF⟩, ?_⟩)
    rw [if_neg hn0, ← g6]
    simp [thinL]
set_option maxHeartbeats 2000000 in
theorem thin_ref (L : List Mt) (vm : Value) (n : Int) (H : Hp) (hL : MtL H vm L) (hLl : L.length ≤ 1000000) (hn : -9223372036854775808 ≤ n ∧ n ≤ 9223372036854775807) :
    Fn Tryz.prog 25 #[vm, .int .i64 n] H (fun u H' => ∃ v A, u = .tuple #[v, .int .i64 (thinE n)] ∧ MtL H' v A ∧ A.map keyM = (if n < 1 then [] else (thinL n.toNat L 0).map keyM)) := by
  obtain ⟨am, cm, rfl⟩ := hL.1.len
  refine Fn.of_T (vs := [.slice am L.length cm, .int .i64 n]) Tryz.func25 rfl rfl fun w => ?_
  by_cases hn0 : n < 1
  · have h1 : thinE n = 1 := by unfold thinE; rw [if_pos hn0]
    refine sq ?_
    refine sr ?_
    refine sa ?_
    refine sa ?_
    refine so ?_
    refine sq ?_
    refine sq ?_
    refine sr ?_
    refine sm ?_
    refine sv (PV.lss rfl rfl) ?_
    refine so ?_
    refine sc rfl (by omega) ?_
    refine sq ?_
    refine sr ?_
    refine sa ?_
    refine sa ?_
    refine so ?_
    exact T.retF (Lv.fin (RV.tmp2 rfl rfl rfl) ⟨_, [], by rw [h1], ⟨SlR.empty, by simp⟩, by rw [if_pos hn0]; rfl⟩)
  have h0 : thinE n = 0 := by unfold thinE; rw [if_neg hn0]
  refine sq ?_
  refine sr ?_
  refine sa ?_
  refine sa ?_
  refine so ?_
  refine sq ?_
  refine sq ?_
  refine sr ?_
  refine sm ?_
  refine sv (PV.lss rfl rfl) ?_
  refine so ?_
  refine sd rfl (by omega) ?_
  refine T.skip ?_
  refine sq ?_
  refine sr ?_
  refine sa ?_
  refine so ?_
  refine sq ?_
  refine sq ?_
  refine sr ?_
  refine sm ?_
  refine sv (PV.lenSl rfl) ?_
  refine sm ?_
  refine so ?_
  refine T.block ?_
  refine T.loopK [(12, Value.int IntKind.i64 (↑L.length : Int)), (11, Value.slice am L.length cm), (1, Value.int IntKind.i64 n)] zq8 (γ := ThG) (fun g => g.i ≤ L.length ∧ RowV 24 encM 3 g.v g.lv g.A ∧ (∀ y ∈ g.A, LabOk H y) ∧ g.A.length ≤ g.i ∧ g.A.map keyM ++ (thinL n.toNat (L.drop g.i) g.i).map keyM = (thinL n.toNat L 0).map keyM) (fun g => [(13, .int .i64 (g.i : Int)), (6, g.v)]) (fun g => g.lv) (fun _ => H) (fun g => L.length - g.i) ⟨0, H, .slice none 0 0, [], []⟩ ⟨by simp, Vec.nil _ _, by simp, by simp, rfl⟩ zq8 (by repeat (first | exact Sel.refl _ | exact Sel.nil | (refine Sel.cons zq1 ?_) | (refine Sel.app zq1 ?_) | exact Sel.one zq1)) rfl ?_
  rintro ⟨i, H2, v, lv, A⟩ ⟨g1, g3, g4, g5, g6⟩
  dsimp only at g1 g3 g4 g5 g6 ⊢
  obtain ⟨adv, capv, rfl⟩ := g3.val
  by_cases hi : i < L.length
  · obtain ⟨bx, off, m, rfl, hix, hsub⟩ := RowL.get encM_len hL.1 hi
    have hmm := List.mem_of_getElem? hix
    have hlab := hL.2 m hmm
    obtain ⟨al, cl, hmv⟩ := hlab.1.len
    have hmE : encM m = [.int .i64 m.b, .int .i64 m.e, .slice al m.ls.length cl] := by unfold encM; rw [hmv]
    unfold encM at hsub
    rw [hmv] at hsub
    have hone := one_encM hlab
    rw [hmE] at hone
    rw [thinL_drop hix] at g6
    have hmod := tmod_n (i := i) (n := n) (by omega)
    by_cases hz : i % n.toNat = 0
    · rw [if_pos hz] at g6
      have hd : decide (((i : Int)).tmod n = 0) = true := decide_eq_true (by omega)
      refine sq ?_
      refine sr ?_
      refine sv (PV.lss rfl rfl) ?_
      refine so ?_
      refine sq ?_
      refine sc rfl (by omega) ?_
      refine T.skip ?_
      refine sq ?_
      refine T.block ?_
      refine sq ?_
      refine sr ?_
      refine sm ?_
      refine sv (PV.indexAddr rfl rfl (by omega)) ?_
      refine sv (PV.loadSubAll rfl (by assumption) (by exact rfl)) ?_
      refine sy fun b8 => ?_
      refine sa ?_
      refine T.storeA Wanted.none rfl rfl zq8 (by exact rfl) zq14 zq13 ?_
      refine so ?_
      refine sq ?_
      refine sr ?_
      refine sm ?_
      refine sm ?_
      refine sv (PV.rem rfl rfl (by omega)) ?_
      refine sv (PV.eql rfl rfl) ?_
      refine so ?_
      refine T.condT rfl (by assumption) ?_
      refine sr ?_
      refine sm ?_
      refine sv (PV.loadAll rfl zq0 (by exact rfl)) ?_
      (refine T.buildSlice Wanted.none rfl rfl zq11 (by exact rfl) (by exact rfl) ?_; intro b24)
      (refine T.appendP (lv := lv) Wanted.none rfl rfl rfl g3 (Src.cells (m := 1) (ys := [.int .i64 m.b, .int .i64 m.e, .slice al m.ls.length cl]) (.own zq2) rfl rfl) hone (by simp; omega) zq1 ?_; intro v25 lv25 hv25 _; obtain ⟨ad25, cap25, rfl⟩ := hv25.val)
      refine sa ?_
      refine so ?_
      refine T.blkEnd ?_
      refine sr ?_
      refine sv (PV.add rfl rfl (by omega)) ?_
      refine sm ?_
      refine so ?_
      rw [← hmE] at hv25
      refine T.nextP ⟨i + 1, H, _, lv25, A ++ [m]⟩ ⟨by dsimp only; omega, MtV.snoc' hv25, fun y hy => ?_, by dsimp only; rw [List.length_append, List.length_singleton]; omega, ?_⟩ (by dsimp only; omega) zq8 (by repeat (first | exact Sel.refl _ | exact Sel.nil | (refine Sel.cons zq1 ?_) | (refine Sel.app zq1 ?_) | exact Sel.one zq1)) rfl
      · rcases List.mem_append.1 hy with hy | hy
        · exact g4 y hy
        · rw [List.mem_singleton] at hy; subst hy; exact hlab
      · rw [← g6]
        dsimp only
        rw [List.map_append, List.append_assoc]; rfl
    · rw [if_neg hz] at g6
      have hd : decide (((i : Int)).tmod n = 0) = false := decide_eq_false (by omega)
      refine sq ?_
      refine sr ?_
      refine sv (PV.lss rfl rfl) ?_
      refine so ?_
      refine sq ?_
      refine sc rfl (by omega) ?_
      refine T.skip ?_
      refine sq ?_
      refine T.block ?_
      refine sq ?_
      refine sr ?_
      refine sm ?_
      refine sv (PV.indexAddr rfl rfl (by omega)) ?_
      refine sv (PV.loadSubAll rfl (by assumption) (by exact rfl)) ?_
      refine sy fun b8 => ?_
      refine sa ?_
      refine T.storeA Wanted.none rfl rfl zq8 (by exact rfl) zq14 zq13 ?_
      refine so ?_
      refine sq ?_
      refine sr ?_
      refine sm ?_
      refine sm ?_
      refine sv (PV.rem rfl rfl (by omega)) ?_
      refine sv (PV.eql rfl rfl) ?_
      refine so ?_
      refine T.condF rfl (by assumption) ?_
      refine T.skip ?_
      refine T.blkEnd ?_
      refine sr ?_
      refine sv (PV.add rfl rfl (by omega)) ?_
      refine sm ?_
      refine so ?_
      exact T.nextP ⟨i + 1, H, _, lv, A⟩ ⟨by dsimp only; omega, g3, g4, by dsimp only; omega, g6⟩ (by dsimp only; omega) zq8 (by repeat (first | exact Sel.refl _ | exact Sel.nil | (refine Sel.cons zq1 ?_) | (refine Sel.app zq1 ?_) | exact Sel.one zq1)) rfl
  · rw [List.drop_of_length_le (by omega)] at g6
    refine sq ?_
    refine sr ?_
    refine sv (PV.lss rfl rfl) ?_
    refine so ?_
    refine sq ?_
    refine sd rfl (by omega) ?_
    refine T.exit rfl ?_
    refine sq ?_
    refine sr ?_
    refine sm ?_
    refine sa ?_
    refine sa ?_
    refine so ?_
    refine T.retF (Vec.freezeLv (l' := []) g3 (by rw [List.append_nil]; exact zq4) fun H' hleF hsl => Lv.fin (RV.tmp2 rfl rfl rfl) ⟨_, A, by rw [h0], ⟨hsl, fun y hy => (g4 y hy).mono hleF⟩, ?_⟩)
    rw [if_neg hn0, ← g6]
    simp [thinL]
end Go.Proofs.YtlklcjpmfjmenaaGreatDoor
