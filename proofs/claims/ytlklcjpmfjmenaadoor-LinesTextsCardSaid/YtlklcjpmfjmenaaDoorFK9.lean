/- lines: the values of some tokens. -/
import Derived.Test.YtlklcjpmfjmenaaDoorFK8
import Derived.Test.YtlklcjpmfjmenaaDoorGA
namespace Go.Proofs.YtlklcjpmfjmenaaDoor
open Go.RowKit


/-- the values of n tokens from one on -/
def tkL (c : Cp) (a i0 : Int) (n : Nat) : List ByteArray := (List.range n).map fun (k : Nat) => tkS c (i0 + (k : Int)) a
theorem tkL_len (c : Cp) (a i0 : Int) (n : Nat) : (tkL c a i0 n).length = n := by simp [tkL]
theorem tkL_snoc (c : Cp) (a i0 : Int) (n : Nat) : tkL c a i0 (n + 1) = tkL c a i0 n ++ [tkS c (i0 + (n : Int)) a] := by simp [tkL, List.range_succ]
structure VaG where
  j : Nat
  p : Int
  v : Value
  lv : List (Nat × Obj)
set_option maxHeartbeats 1000000 in
theorem values_in (c : Cp) (a i0 n : Int) (H : Hp) (hc : CpL H c) (hw : CpW c) (hi : 0 ≤ i0 ∧ n ≤ c.tk.length) (ha : 0 ≤ a ∧ a < c.att.length) :
    Fn Tryd.prog 29 #[cpV c, .int .i64 a, .int .i64 i0, .int .i64 n] H (fun u H' => StL H' u (tkL c a i0 (n - i0).toNat)) := by
  have hlt := hc.lt
  unfold cpV
  refine Fn.of_T (vs := [.agg #[c.va, c.vt, c.vx, c.vr, c.vn, c.vh, c.vs], .int .i64 a, .int .i64 i0, .int .i64 n]) Tryd.func29 rfl rfl fun w => ?_
  refine sq ?_
  refine sr ?_
  (refine T.box Wanted.none rfl rfl zq15 ?_; intro b4)
  refine sa ?_
  refine so ?_
  refine sq ?_
  refine sr ?_
  refine sa ?_
  refine so ?_
  refine sq ?_
  refine sq ?_
  refine sr ?_
  refine sm ?_
  refine sa ?_
  refine so ?_
  refine T.block ?_
  refine T.loopK [(4, Value.pointer (some { block := b4, off := 0 })), (1, Value.int IntKind.i64 a), (3, Value.int IntKind.i64 n)] zq8 (γ := VaG) (fun g => g.j ≤ (n - i0).toNat ∧ g.p = i0 + (g.j : Int) ∧ StV g.v g.lv g.j (tkL c a i0 g.j)) (fun g => [(10, .int .i64 g.p), (9, g.v)]) (fun g => g.lv ++ [(b4, .cells #[c.va, c.vt, c.vx, c.vr, c.vn, c.vh, c.vs] 32 (0, 0))]) (fun _ => H) (fun g => (n - i0).toNat - g.j) ⟨0, i0, .slice none 0 0, []⟩ ⟨by simp, by simp, Vec.nil _ _⟩ zq8 (by repeat (first | exact Sel.refl _ | exact Sel.nil | (refine Sel.cons zq1 ?_) | (refine Sel.app zq1 ?_) | exact Sel.one zq1)) rfl ?_
  rintro ⟨j, p, v, lv⟩ ⟨g1, g2, g3⟩
  dsimp only at g1 g2 g3 ⊢
  obtain ⟨adv, capv, rfl⟩ := g3.val
  by_cases hp : p < n
  · have hto := tok_in c p a H hc hw ⟨by omega, by omega⟩ ha
    unfold cpV at hto
    refine sq ?_
    refine sq ?_
    refine sr ?_
    refine sm ?_
    refine sm ?_
    refine sv (PV.lss rfl rfl) ?_
    refine so ?_
    refine sc rfl (by omega) ?_
    refine T.skip ?_
    refine sq ?_
    refine T.block ?_
    refine sr ?_
    refine sm ?_
    refine sv (PV.loadAll rfl zq0 (by exact rfl)) ?_
    refine sm ?_
    refine sm ?_
    refine T.callV Wanted.none rfl rfl (hto) ?_
    (refine T.buildSlice Wanted.none rfl rfl zq11 (by exact rfl) (by exact rfl) ?_; intro b22)
    (refine T.appendP (lv := lv) Wanted.none rfl rfl rfl g3 (Src.cells (m := 1) (ys := encT (tkS c p a)) (.own zq2) rfl rfl) (one_encT _) (by omega) zq1 ?_; intro v23 lv23 hv23 _; obtain ⟨ad23, cap23, rfl⟩ := hv23.val)
    refine sa ?_
    refine so ?_
    refine T.blkEnd ?_
    refine sr ?_
    refine sm ?_
    refine sv (PV.add rfl rfl (by omega)) ?_
    refine sa ?_
    refine so ?_
    refine T.nextP ⟨j + 1, p + 1, _, lv23⟩ ⟨by dsimp only; omega, by dsimp only; omega, ?_⟩ (by dsimp only; omega) zq8 (by repeat (first | exact Sel.refl _ | exact Sel.nil | (refine Sel.cons zq1 ?_) | (refine Sel.app zq1 ?_) | exact Sel.one zq1)) rfl
    dsimp only
    rw [tkL_snoc, ← g2, StV, List.flatMap_append]
    simpa using hv23
  · have hj : (n - i0).toNat = j := by omega
    refine sq ?_
    refine sq ?_
    refine sr ?_
    refine sm ?_
    refine sm ?_
    refine sv (PV.lss rfl rfl) ?_
    refine so ?_
    refine sd rfl (by omega) ?_
    refine T.exit rfl ?_
    refine sq ?_
    refine sr ?_
    refine sm ?_
    refine sa ?_
    refine so ?_
    exact T.retF (Vec.freezeLv (l' := [_]) g3 zq4 fun H' _ hsl => Lv.fin (RV.tmp rfl rfl) (by rw [hj, StL, tkL_len]; exact hsl))
end Go.Proofs.YtlklcjpmfjmenaaDoor
