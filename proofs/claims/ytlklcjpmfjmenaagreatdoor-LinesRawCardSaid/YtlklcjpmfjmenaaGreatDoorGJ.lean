/- lines: the values of some tokens.
   lines: a line: the program, the reference. -/
import Derived.Test.YtlklcjpmfjmenaaGreatDoorFK8
import Derived.Test.YtlklcjpmfjmenaaGreatDoorGA
namespace Go.Proofs.YtlklcjpmfjmenaaGreatDoor
open Go.RowKit

/-- the values of n tokens from one on -/
def tkL (c : Cp) (a i0 : Int) (n : Nat) : List ByteArray := (List.range n).map fun (k : Nat) => tkS c (i0 + (k : Int)) a
theorem tkL_len (c : Cp) (a i0 : Int) (n : Nat) : (tkL c a i0 n).length = n := by simp [tkL]
theorem tkL_snoc (c : Cp) (a i0 : Int) (n : Nat) : tkL c a i0 (n + 1) = tkL c a i0 n ++ [tkS c (i0 + (n : Int)) a] := by simp [tkL, List.range_succ]
structure VaG where
  j : Nat
  p : Int
  v : Value
  lv : List (Nat × Obj)
set_option maxHeartbeats 1000000 in
theorem values_in (c : Cp) (a i0 n : Int) (H : Hp) (hc : CpL H c) (hw : CpW c) (hi : 0 ≤ i0 ∧ n ≤ c.tk.length) (ha : 0 ≤ a ∧ a < c.att.length) :
    Fn Tryz.prog 75 #[cpV c, .int .i64 a, .int .i64 i0, .int .i64 n] H (fun u H' => StL H' u (tkL c a i0 (n - i0).toNat)) := by
  have hlt := hc.lt
  unfold cpV
  refine Fn.of_T (vs := [.agg #[c.va, c.vt, c.vx, c.vr, c.vn, c.vh, c.vs], .int .i64 a, .int .i64 i0, .int .i64 n]) Tryz.func75 rfl rfl fun w => ?_
  refine sq ?_
  refine sr ?_
  (refine T.box Wanted.none rfl rfl zq15 ?_; intro b4)
  refine sa ?_
  refine so ?_
  refine sq ?_
  refine sr ?_
  refine sa ?_
  refine so ?_
  refine sq ?_
  refine sq ?_
  refine sr ?_
  refine sm ?_
  refine sa ?_
  refine so ?_
  refine T.block ?_
  refine T.loopK [(4, Value.pointer (some { block := b4, off := 0 })), (1, Value.int IntKind.i64 a), (3, Value.int IntKind.i64 n)] zq8 (γ := VaG) (fun g => g.j ≤ (n - i0).toNat ∧ g.p = i0 + (g.j : Int) ∧ StV g.v g.lv g.j (tkL c a i0 g.j)) (fun g => [(10, .int .i64 g.p), (9, g.v)]) (fun g => g.lv ++ [(b4, .cells #[c.va, c.vt, c.vx, c.vr, c.vn, c.vh, c.vs] 34 (0, 0))]) (fun _ => H) (fun g => (n - i0).toNat - g.j) ⟨0, i0, .slice none 0 0, []⟩ ⟨by simp, by simp, Vec.nil _ _⟩ zq8 (by repeat (first | exact Sel.refl _ | exact Sel.nil | (refine Sel.cons zq1 ?_) | (refine Sel.app zq1 ?_) | exact Sel.one zq1)) rfl ?_
  rintro ⟨j, p, v, lv⟩ ⟨g1, g2, g3⟩
  dsimp only at g1 g2 g3 ⊢
  obtain ⟨adv, capv, rfl⟩ := g3.val
  by_cases hp : p < n
  · have hto := tok_in c p a H hc hw ⟨by omega, by omega⟩ ha
    unfold cpV at hto
    refine sq ?_
    refine sq ?_
    refine sr ?_
    refine sm ?_
    refine sm ?_
    refine sv (PV.lss rfl rfl) ?_
    refine so ?_
    refine sc rfl (by omega) ?_
    refine T.skip ?_
    refine sq ?_
    refine T.block ?_
    refine sr ?_
    refine sm ?_
    refine sv (PV.loadAll rfl zq0 (by exact rfl)) ?_
    refine sm ?_
    refine sm ?_
    refine T.callV Wanted.none rfl rfl (hto) ?_
    (refine T.buildSlice Wanted.none rfl rfl zq11 (by exact rfl) (by exact rfl) ?_; intro b22)
    (refine T.appendP (lv := lv) Wanted.none rfl rfl rfl g3 (Src.cells (m := 1) (ys := encT (tkS c p a)) (.own zq2) rfl rfl) (one_encT _) (by omega) zq1 ?_; intro v23 lv23 hv23 _; obtain ⟨ad23, cap23, rfl⟩ := hv23.val)
    refine sa ?_
    refine so ?_
    refine T.blkEnd ?_
    refine sr ?_
    refine sm ?_
    refine sv (PV.add rfl rfl (by omega)) ?_
    refine sa ?_
    refine so ?_
    refine T.nextP ⟨j + 1, p + 1, _, lv23⟩ ⟨by dsimp only; omega, by dsimp only; omega, ?_⟩ (by dsimp only; omega) zq8 (by repeat (first | exact Sel.refl _ | exact Sel.nil | (refine Sel.cons zq1 ?_) | (refine Sel.app zq1 ?_) | exact Sel.one zq1)) rfl
    dsimp only
    rw [tkL_snoc, ← g2, StV, List.flatMap_append]
    simpa using hv23
  · have hj : (n - i0).toNat = j := by omega
    refine sq ?_
    refine sq ?_
    refine sr ?_
    refine sm ?_
    refine sm ?_
    refine sv (PV.lss rfl rfl) ?_
    refine so ?_
    refine sd rfl (by omega) ?_
    refine T.exit rfl ?_
    refine sq ?_
    refine sr ?_
    refine sm ?_
    refine sa ?_
    refine so ?_
    exact T.retF (Vec.freezeLv (l' := [_]) g3 zq4 fun H' _ hsl => Lv.fin (RV.tmp rfl rfl) (by rw [hj, StL, tkL_len]; exact hsl))
set_option maxHeartbeats 1000000 in
theorem values_ref (c : Cp) (a i0 n : Int) (H : Hp) (hc : CpL H c) (hw : CpW c) (hi : 0 ≤ i0 ∧ n ≤ c.tk.length) (ha : 0 ≤ a ∧ a < c.att.length) :
    Fn Tryz.prog 76 #[cpV c, .int .i64 a, .int .i64 i0, .int .i64 n] H (fun u H' => StL H' u (tkL c a i0 (n - i0).toNat)) := by
  have hlt := hc.lt
  obtain ⟨at1, ct, hvt⟩ := hc.t.len
  have ht := hc.t
  rw [hvt] at ht
  unfold cpV
  rw [hvt]
  refine Fn.of_T (vs := [.agg #[c.va, .slice at1 c.tk.length ct, c.vx, c.vr, c.vn, c.vh, c.vs], .int .i64 a, .int .i64 i0, .int .i64 n]) Tryz.func76 rfl rfl fun w => ?_
  refine sq ?_
  refine sr ?_
  (refine T.box Wanted.none rfl rfl zq15 ?_; intro b4)
  refine sa ?_
  refine so ?_
  refine sq ?_
  refine sr ?_
  refine sa ?_
  refine so ?_
  refine sq ?_
  refine sq ?_
  refine sr ?_
  refine sm ?_
  refine sa ?_
  refine so ?_
  refine T.block ?_
  refine T.loopK [(4, Value.pointer (some { block := b4, off := 0 })), (1, Value.int IntKind.i64 a), (3, Value.int IntKind.i64 n)] zq8 (γ := VaG) (fun g => g.j ≤ (n - i0).toNat ∧ g.p = i0 + (g.j : Int) ∧ StV g.v g.lv g.j (tkL c a i0 g.j)) (fun g => [(10, .int .i64 g.p), (9, g.v)]) (fun g => g.lv ++ [(b4, .cells #[c.va, .slice at1 c.tk.length ct, c.vx, c.vr, c.vn, c.vh, c.vs] 34 (0, 0))]) (fun _ => H) (fun g => (n - i0).toNat - g.j) ⟨0, i0, .slice none 0 0, []⟩ ⟨by simp, by simp, Vec.nil _ _⟩ zq8 (by repeat (first | exact Sel.refl _ | exact Sel.nil | (refine Sel.cons zq1 ?_) | (refine Sel.app zq1 ?_) | exact Sel.one zq1)) rfl ?_
  rintro ⟨j, p, v, lv⟩ ⟨g1, g2, g3⟩
  dsimp only at g1 g2 g3 ⊢
  obtain ⟨adv, capv, rfl⟩ := g3.val
  by_cases hp : p < n
  · obtain ⟨tk, s, e1, e2, e3, e4, e5, e6⟩ := tokAt c H hc hw (i := p) (a := a) (by omega) ha
    obtain ⟨bt1, off1, x1, rfl, hix1, hsub1⟩ := RowL.get encTk_len ht (i := p.toNat) (by omega)
    rw [e1] at hix1
    obtain rfl := Option.some.inj hix1
    obtain ⟨av, cv, hvv⟩ := e4.1.len
    have hst := e4.1
    rw [hvv] at hst
    unfold encTk at hsub1
    rw [hvv] at hsub1
    obtain ⟨bt2, off2, x2, rfl, hix2, hsub2⟩ := RowL.get encT_len hst (i := a.toNat) (by omega)
    rw [e2] at hix2
    obtain rfl := Option.some.inj hix2
    unfold encT at hsub2
    refine sq ?_
    refine sq ?_
    refine sr ?_
    refine sm ?_
    refine sm ?_
    refine sv (PV.lss rfl rfl) ?_
    refine so ?_
    refine sc rfl (by omega) ?_
    refine T.skip ?_
    refine sq ?_
    refine T.block ?_
    refine sr ?_
    refine sm ?_
    refine sf ?_
    refine sl ?_
    refine sm ?_
    refine sv (PV.indexAddr rfl rfl (by omega)) ?_
    refine sv (PV.loadSub0 rfl (by assumption)) ?_
    refine sm ?_
    refine sv (PV.indexAddr rfl rfl (by omega)) ?_
    refine sv (PV.loadSub0 rfl (by assumption)) ?_
    (refine T.buildSlice Wanted.none rfl rfl zq11 (by exact rfl) (by exact rfl) ?_; intro b26)
    (refine T.appendP (lv := lv) Wanted.none rfl rfl rfl g3 (Src.cells (m := 1) (ys := encT s) (.own zq2) rfl rfl) (one_encT _) (by omega) zq1 ?_; intro v27 lv27 hv27 _; obtain ⟨ad27, cap27, rfl⟩ := hv27.val)
    refine sa ?_
    refine so ?_
    refine T.blkEnd ?_
    refine sr ?_
    refine sm ?_
    refine sv (PV.add rfl rfl (by omega)) ?_
    refine sa ?_
    refine so ?_
    refine T.nextP ⟨j + 1, p + 1, _, lv27⟩ ⟨by dsimp only; omega, by dsimp only; omega, ?_⟩ (by dsimp only; omega) zq8 (by repeat (first | exact Sel.refl _ | exact Sel.nil | (refine Sel.cons zq1 ?_) | (refine Sel.app zq1 ?_) | exact Sel.one zq1)) rfl
    dsimp only
    rw [tkL_snoc, ← g2, e3, StV, List.flatMap_append]
    simpa using hv27
  · have hj : (n - i0).toNat = j := by omega
    refine sq ?_
    refine sq ?_
    refine sr ?_
    refine sm ?_
    refine sm ?_
    refine sv (PV.lss rfl rfl) ?_
    refine so ?_
    refine sd rfl (by omega) ?_
    refine T.exit rfl ?_
    refine sq ?_
    refine sr ?_
    refine sm ?_
    refine sa ?_
    refine so ?_
    exact T.retF (Vec.freezeLv (l' := [_]) g3 zq4 fun H' _ hsl => Lv.fin (RV.tmp rfl rfl) (by rw [hj, StL, tkL_len]; exact hsl))
end Go.Proofs.YtlklcjpmfjmenaaGreatDoor
namespace Go.Proofs.YtlklcjpmfjmenaaGreatDoor
open Go.RowKit

structure Ln where
  tx : ByteArray
  off : Int
  l : List ByteArray
  m : List ByteArray
  r : List ByteArray
def LnR (H : Hp) (u : Value) (x : Ln) : Prop := ∃ v1 v2 v3, u = .agg #[.string x.tx, .int .i64 x.off, v1, v2, v3] ∧ StL H v1 x.l ∧ StL H v2 x.m ∧ StL H v3 x.r
theorem LnR.mono {H H' : Hp} {u : Value} {x : Ln} (h : LnR H u x) (hl : H.le H') : LnR H' u x := by
  obtain ⟨v1, v2, v3, e, h1, h2, h3⟩ := h
  exact ⟨v1, v2, v3, e, h1.mono hl, h2.mono hl, h3.mono hl⟩
def lnO (c : Cp) (m : Mt) (t : Rg) (a i0 n : Int) : Ln := ⟨t.ty, m.b - t.b, tkL c a i0 (m.b - i0).toNat, tkL c a m.b (m.e - m.b).toNat, tkL c a m.e (n - m.e).toNat⟩
set_option maxHeartbeats 2000000 in
theorem line_in (c : Cp) (m : Mt) (t : Rg) (a i0 n : Int) (H : Hp) (hc : CpL H c) (hw : CpW c) (hf : FitP c m t) (hi : 0 ≤ i0 ∧ n ≤ c.tk.length) (ha : 0 ≤ a ∧ a < c.att.length) :
    Fn Tryz.prog 30 #[cpV c, mtV m, rgV t, .int .i64 a, .int .i64 i0, .int .i64 n] H (fun u H' => LnR H' u (lnO c m t a i0 n)) := by
  have hlt := hc.lt
  obtain ⟨f1, f2, f3, f4, f5, f6⟩ := hf
  have hv := fun (H' : Hp) (hl : H.le H') (i n : Int) (h1 : 0 ≤ i) (h2 : n ≤ c.tk.length) => values_in c a i n H' (hc.mono hl) hw ⟨h1, h2⟩ ha
  unfold cpV at hv
  unfold cpV mtV rgV
  refine Fn.of_T (vs := [.agg #[c.va, c.vt, c.vx, c.vr, c.vn, c.vh, c.vs], .agg #[.int .i64 m.b, .int .i64 m.e, m.v], .agg #[.string t.ty, .int .i64 t.b, .int .i64 t.e, t.kv], .int .i64 a, .int .i64 i0, .int .i64 n]) Tryz.func30 rfl rfl fun w => ?_
  refine sq ?_
  refine sr ?_
  (refine T.box Wanted.none rfl rfl zq15 ?_; intro b6)
  (refine T.box Wanted.none rfl rfl zq15 ?_; intro b7)
  (refine T.box Wanted.none rfl rfl zq15 ?_; intro b8)
  refine sy fun b12 => ?_
  refine so ?_
  (repeat refine sq ?_)
  refine T.regionS [(b8, .cells #[.string t.ty, .int .i64 t.b, .int .i64 t.e, t.kv] 68 (0, 0)), (b7, .cells #[.int .i64 m.b, .int .i64 m.e, m.v] 24 (0, 0)), (b6, .cells #[c.va, c.vt, c.vx, c.vr, c.vn, c.vh, c.vs] 34 (0, 0))] 27 (by kernel_rfl) ?_
  refine TS.take 0 rfl (by kernel_rfl) (by kernel_rfl) (by kernel_rfl) (by kernel_rfl) (PV.fieldAddr rfl) Wanted.none rfl rfl ?_
  refine TS.take 1 rfl (by kernel_rfl) (by kernel_rfl) (by kernel_rfl) (by kernel_rfl) (PV.load1 rfl zq0 rfl) Wanted.none rfl rfl ?_
  refine TS.take 2 rfl (by kernel_rfl) (by kernel_rfl) (by kernel_rfl) (by kernel_rfl) (PV.fieldAddr rfl) Wanted.none rfl rfl ?_
  refine TS.take 3 rfl (by kernel_rfl) (by kernel_rfl) (by kernel_rfl) (by kernel_rfl) (PV.load1 rfl zq0 rfl) Wanted.none rfl rfl ?_
  refine TS.take 4 rfl (by kernel_rfl) (by kernel_rfl) (by kernel_rfl) (by kernel_rfl) (PV.fieldAddr rfl) Wanted.none rfl rfl ?_
  refine TS.take 5 rfl (by kernel_rfl) (by kernel_rfl) (by kernel_rfl) (by kernel_rfl) (PV.load1 rfl zq0 rfl) Wanted.none rfl rfl ?_
  refine TS.take 6 rfl (by kernel_rfl) (by kernel_rfl) (by kernel_rfl) (by kernel_rfl) (PV.sub rfl rfl (by omega)) Wanted.none rfl rfl ?_
  refine TS.take 7 rfl (by kernel_rfl) (by kernel_rfl) (by kernel_rfl) (by kernel_rfl) (PV.loadAll rfl zq0 (by exact rfl)) Wanted.none rfl rfl ?_
  refine TS.take 8 rfl (by kernel_rfl) (by kernel_rfl) (by kernel_rfl) (by kernel_rfl) (PV.move rfl) Wanted.none rfl rfl ?_
  refine TS.take 9 rfl (by kernel_rfl) (by kernel_rfl) (by kernel_rfl) (by kernel_rfl) (PV.move rfl) Wanted.none rfl rfl ?_
  refine TS.take 10 rfl (by kernel_rfl) (by kernel_rfl) (by kernel_rfl) (by kernel_rfl) (PV.fieldAddr rfl) Wanted.none rfl rfl ?_
  refine TS.take 11 rfl (by kernel_rfl) (by kernel_rfl) (by kernel_rfl) (by kernel_rfl) (PV.load1 rfl zq0 rfl) Wanted.none rfl rfl ?_
  refine TS.take 13 rfl (by kernel_rfl) (by kernel_rfl) (by kernel_rfl) (by kernel_rfl) (PV.loadAll rfl zq0 (by exact rfl)) Wanted.none rfl rfl ?_
  refine TS.take 14 rfl (by kernel_rfl) (by kernel_rfl) (by kernel_rfl) (by kernel_rfl) (PV.move rfl) Wanted.none rfl rfl ?_
  refine TS.take 15 rfl (by kernel_rfl) (by kernel_rfl) (by kernel_rfl) (by kernel_rfl) (PV.fieldAddr rfl) Wanted.none rfl rfl ?_
  refine TS.take 16 rfl (by kernel_rfl) (by kernel_rfl) (by kernel_rfl) (by kernel_rfl) (PV.load1 rfl zq0 rfl) Wanted.none rfl rfl ?_
  refine TS.take 17 rfl (by kernel_rfl) (by kernel_rfl) (by kernel_rfl) (by kernel_rfl) (PV.fieldAddr rfl) Wanted.none rfl rfl ?_
  refine TS.take 18 rfl (by kernel_rfl) (by kernel_rfl) (by kernel_rfl) (by kernel_rfl) (PV.load1 rfl zq0 rfl) Wanted.none rfl rfl ?_
  refine TS.take 20 rfl (by kernel_rfl) (by kernel_rfl) (by kernel_rfl) (by kernel_rfl) (PV.loadAll rfl zq0 (by exact rfl)) Wanted.none rfl rfl ?_
  refine TS.take 21 rfl (by kernel_rfl) (by kernel_rfl) (by kernel_rfl) (by kernel_rfl) (PV.move rfl) Wanted.none rfl rfl ?_
  refine TS.take 22 rfl (by kernel_rfl) (by kernel_rfl) (by kernel_rfl) (by kernel_rfl) (PV.fieldAddr rfl) Wanted.none rfl rfl ?_
  refine TS.take 23 rfl (by kernel_rfl) (by kernel_rfl) (by kernel_rfl) (by kernel_rfl) (PV.load1 rfl zq0 rfl) Wanted.none rfl rfl ?_
  refine TS.take 24 rfl (by kernel_rfl) (by kernel_rfl) (by kernel_rfl) (by kernel_rfl) (PV.move rfl) Wanted.none rfl rfl ?_
  refine TS.ways [12] (by kernel_rfl) rfl zq18 ⟨⟨_, rfl, ?_⟩, trivial⟩
  (refine T.call Wanted.none rfl rfl (hv _ zq17 _ _ (by omega) (by omega)) ?_; intro v25 H25 hle25 hv25; obtain ⟨ad25, cap25, rfl⟩ := hv25.len)
  refine so ?_
  refine TS.back ?_
  refine TS.ways [19] (by kernel_rfl) rfl zq18 ⟨⟨_, rfl, ?_⟩, trivial⟩
  (refine T.call Wanted.none rfl rfl (hv _ zq17 _ _ (by omega) (by omega)) ?_; intro v32 H32 hle32 hv32; obtain ⟨ad32, cap32, rfl⟩ := hv32.len)
  refine so ?_
  refine TS.back ?_
  refine TS.ways [25] (by kernel_rfl) rfl zq18 ⟨⟨_, rfl, ?_⟩, trivial⟩
  (refine T.call Wanted.none rfl rfl (hv _ zq17 _ _ (by omega) (by omega)) ?_; intro v38 H38 hle38 hv38; obtain ⟨ad38, cap38, rfl⟩ := hv38.len)
  refine so ?_
  refine TS.back ?_
  refine TS.take 26 rfl (by kernel_rfl) (by kernel_rfl) (by kernel_rfl) (by kernel_rfl) (PV.build rfl zq12) Wanted.none rfl rfl ?_
  refine TS.ways [27] (by kernel_rfl) rfl zq18 ⟨⟨_, rfl, ?_⟩, trivial⟩
  refine T.storeA Wanted.none rfl rfl zq8 (by exact rfl) zq14 zq13 ?_
  refine so ?_
  refine TS.back ?_
  refine TS.done (by kernel_rfl) (by kernel_rfl) ?_
  (exact T.retF (Lv.fin (RV.cell rfl zq7) ⟨_, _, _, rfl, hv25.mono zq17, hv32.mono zq17, hv38.mono zq17⟩))
set_option maxHeartbeats 2000000 in
theorem line_ref (c : Cp) (m : Mt) (t : Rg) (a i0 n : Int) (H : Hp) (hc : CpL H c) (hw : CpW c) (hf : FitP c m t) (htx : c.tx.find? (inT m.b) = some t) (hrg : RgOk H t) (hi : 0 ≤ i0 ∧ n ≤ c.tk.length) (ha : 0 ≤ a ∧ a < c.att.length) :
    Fn Tryz.prog 33 #[cpV c, mtV m, .int .i64 a, .int .i64 i0, .int .i64 n] H (fun u H' => LnR H' u (lnO c m t a i0 n)) := by
  have hlt := hc.lt
  obtain ⟨f1, f2, f3, f4, f5, f6⟩ := hf
  have hxt := textOf_ref c m.b H hc
  rw [htx, Option.getD_some] at hxt
  obtain ⟨am, cm, hkv⟩ := hrg.1.len
  unfold rgV cpV at hxt
  rw [hkv] at hxt
  change Fn _ _ _ _ (fun u _ => u = .tuple #[.agg #[.string t.ty, .int .i64 t.b, .int .i64 t.e, .slice am t.ks.length cm], .bool true]) at hxt
  have hv := fun (H' : Hp) (hl : H.le H') (i n : Int) (h1 : 0 ≤ i) (h2 : n ≤ c.tk.length) => values_ref c a i n H' (hc.mono hl) hw ⟨h1, h2⟩ ha
  unfold cpV at hv
  unfold cpV mtV
  refine Fn.of_T (vs := [.agg #[c.va, c.vt, c.vx, c.vr, c.vn, c.vh, c.vs], .agg #[.int .i64 m.b, .int .i64 m.e, m.v], .int .i64 a, .int .i64 i0, .int .i64 n]) Tryz.func33 rfl rfl fun w => ?_
  refine sq ?_
  refine sr ?_
  (refine T.box Wanted.none rfl rfl zq15 ?_; intro b5)
  (refine T.box Wanted.none rfl rfl zq15 ?_; intro b6)
  refine sy fun b10 => ?_
  refine so ?_
  refine sq ?_
  refine sr ?_
  refine sv (PV.loadAll rfl zq0 (by exact rfl)) ?_
  refine sf ?_
  refine sl ?_
  refine T.callV Wanted.none rfl rfl (hxt) ?_
  refine sm ?_
  refine sv (PV.extract rfl rfl) ?_
  refine sv (PV.extract rfl rfl) ?_
  refine sy fun b11 => ?_
  refine T.storeA Wanted.none rfl rfl zq8 (by exact rfl) zq14 zq13 ?_
  refine sa ?_
  refine so ?_
  (repeat refine sq ?_)
  refine T.regionS [(b11, .cells #[.string t.ty, .int .i64 t.b, .int .i64 t.e, .slice am t.ks.length cm] 68 (0, 0)), (b6, .cells #[.int .i64 m.b, .int .i64 m.e, m.v] 24 (0, 0)), (b5, .cells #[c.va, c.vt, c.vx, c.vr, c.vn, c.vh, c.vs] 34 (0, 0))] 27 (by kernel_rfl) ?_
  refine TS.take 0 rfl (by kernel_rfl) (by kernel_rfl) (by kernel_rfl) (by kernel_rfl) (PV.fieldAddr rfl) Wanted.none rfl rfl ?_
  refine TS.take 1 rfl (by kernel_rfl) (by kernel_rfl) (by kernel_rfl) (by kernel_rfl) (PV.load1 rfl zq0 rfl) Wanted.none rfl rfl ?_
  refine TS.take 2 rfl (by kernel_rfl) (by kernel_rfl) (by kernel_rfl) (by kernel_rfl) (PV.fieldAddr rfl) Wanted.none rfl rfl ?_
  refine TS.take 3 rfl (by kernel_rfl) (by kernel_rfl) (by kernel_rfl) (by kernel_rfl) (PV.load1 rfl zq0 rfl) Wanted.none rfl rfl ?_
  refine TS.take 4 rfl (by kernel_rfl) (by kernel_rfl) (by kernel_rfl) (by kernel_rfl) (PV.fieldAddr rfl) Wanted.none rfl rfl ?_
  refine TS.take 5 rfl (by kernel_rfl) (by kernel_rfl) (by kernel_rfl) (by kernel_rfl) (PV.load1 rfl zq0 rfl) Wanted.none rfl rfl ?_
  refine TS.take 6 rfl (by kernel_rfl) (by kernel_rfl) (by kernel_rfl) (by kernel_rfl) (PV.sub rfl rfl (by omega)) Wanted.none rfl rfl ?_
  refine TS.take 7 rfl (by kernel_rfl) (by kernel_rfl) (by kernel_rfl) (by kernel_rfl) (PV.loadAll rfl zq0 (by exact rfl)) Wanted.none rfl rfl ?_
  refine TS.take 8 rfl (by kernel_rfl) (by kernel_rfl) (by kernel_rfl) (by kernel_rfl) (PV.move rfl) Wanted.none rfl rfl ?_
  refine TS.take 9 rfl (by kernel_rfl) (by kernel_rfl) (by kernel_rfl) (by kernel_rfl) (PV.move rfl) Wanted.none rfl rfl ?_
  refine TS.take 10 rfl (by kernel_rfl) (by kernel_rfl) (by kernel_rfl) (by kernel_rfl) (PV.fieldAddr rfl) Wanted.none rfl rfl ?_
  refine TS.take 11 rfl (by kernel_rfl) (by kernel_rfl) (by kernel_rfl) (by kernel_rfl) (PV.load1 rfl zq0 rfl) Wanted.none rfl rfl ?_
  refine TS.take 13 rfl (by kernel_rfl) (by kernel_rfl) (by kernel_rfl) (by kernel_rfl) (PV.loadAll rfl zq0 (by exact rfl)) Wanted.none rfl rfl ?_
  refine TS.take 14 rfl (by kernel_rfl) (by kernel_rfl) (by kernel_rfl) (by kernel_rfl) (PV.move rfl) Wanted.none rfl rfl ?_
  refine TS.take 15 rfl (by kernel_rfl) (by kernel_rfl) (by kernel_rfl) (by kernel_rfl) (PV.fieldAddr rfl) Wanted.none rfl rfl ?_
  refine TS.take 16 rfl (by kernel_rfl) (by kernel_rfl) (by kernel_rfl) (by kernel_rfl) (PV.load1 rfl zq0 rfl) Wanted.none rfl rfl ?_
  refine TS.take 17 rfl (by kernel_rfl) (by kernel_rfl) (by kernel_rfl) (by kernel_rfl) (PV.fieldAddr rfl) Wanted.none rfl rfl ?_
  refine TS.take 18 rfl (by kernel_rfl) (by kernel_rfl) (by kernel_rfl) (by kernel_rfl) (PV.load1 rfl zq0 rfl) Wanted.none rfl rfl ?_
  refine TS.take 20 rfl (by kernel_rfl) (by kernel_rfl) (by kernel_rfl) (by kernel_rfl) (PV.loadAll rfl zq0 (by exact rfl)) Wanted.none rfl rfl ?_
  refine TS.take 21 rfl (by kernel_rfl) (by kernel_rfl) (by kernel_rfl) (by kernel_rfl) (PV.move rfl) Wanted.none rfl rfl ?_
  refine TS.take 22 rfl (by kernel_rfl) (by kernel_rfl) (by kernel_rfl) (by kernel_rfl) (PV.fieldAddr rfl) Wanted.none rfl rfl ?_
  refine TS.take 23 rfl (by kernel_rfl) (by kernel_rfl) (by kernel_rfl) (by kernel_rfl) (PV.load1 rfl zq0 rfl) Wanted.none rfl rfl ?_
  refine TS.take 24 rfl (by kernel_rfl) (by kernel_rfl) (by kernel_rfl) (by kernel_rfl) (PV.move rfl) Wanted.none rfl rfl ?_
  refine TS.ways [12] (by kernel_rfl) rfl zq18 ⟨⟨_, rfl, ?_⟩, trivial⟩
  (refine T.call Wanted.none rfl rfl (hv _ zq17 _ _ (by omega) (by omega)) ?_; intro v32 H32 hle32 hv32; obtain ⟨ad32, cap32, rfl⟩ := hv32.len)
  refine so ?_
  refine TS.back ?_
  refine TS.ways [19] (by kernel_rfl) rfl zq18 ⟨⟨_, rfl, ?_⟩, trivial⟩
  (refine T.call Wanted.none rfl rfl (hv _ zq17 _ _ (by omega) (by omega)) ?_; intro v39 H39 hle39 hv39; obtain ⟨ad39, cap39, rfl⟩ := hv39.len)
  refine so ?_
  refine TS.back ?_
  refine TS.ways [25] (by kernel_rfl) rfl zq18 ⟨⟨_, rfl, ?_⟩, trivial⟩
  (refine T.call Wanted.none rfl rfl (hv _ zq17 _ _ (by omega) (by omega)) ?_; intro v45 H45 hle45 hv45; obtain ⟨ad45, cap45, rfl⟩ := hv45.len)
  refine so ?_
  refine TS.back ?_
  refine TS.take 26 rfl (by kernel_rfl) (by kernel_rfl) (by kernel_rfl) (by kernel_rfl) (PV.build rfl zq12) Wanted.none rfl rfl ?_
  refine TS.ways [27] (by kernel_rfl) rfl zq18 ⟨⟨_, rfl, ?_⟩, trivial⟩
  refine T.storeA Wanted.none rfl rfl zq8 (by exact rfl) zq14 zq13 ?_
  refine so ?_
  refine TS.back ?_
  refine TS.done (by kernel_rfl) (by kernel_rfl) ?_
  (exact T.retF (Lv.fin (RV.cell rfl zq7) ⟨_, _, _, rfl, hv32.mono zq17, hv39.mono zq17, hv45.mono zq17⟩))
end Go.Proofs.YtlklcjpmfjmenaaGreatDoor
