/- lines: a line: the program, the reference. -/
import Derived.Test.YtlklcjpmfjmenaaDoorFK9
namespace Go.Proofs.YtlklcjpmfjmenaaDoor
open Go.RowKit


structure Ln where
  tx : ByteArray
  off : Int
  l : List ByteArray
  m : List ByteArray
  r : List ByteArray
def LnR (H : Hp) (u : Value) (x : Ln) : Prop := ∃ v1 v2 v3, u = .agg #[.string x.tx, .int .i64 x.off, v1, v2, v3] ∧ StL H v1 x.l ∧ StL H v2 x.m ∧ StL H v3 x.r
theorem LnR.mono {H H' : Hp} {u : Value} {x : Ln} (h : LnR H u x) (hl : H.le H') : LnR H' u x := by
  obtain ⟨v1, v2, v3, e, h1, h2, h3⟩ := h
  exact ⟨v1, v2, v3, e, h1.mono hl, h2.mono hl, h3.mono hl⟩
def lnO (c : Cp) (m : Mt) (t : Rg) (a i0 n : Int) : Ln := ⟨t.ty, m.b - t.b, tkL c a i0 (m.b - i0).toNat, tkL c a m.b (m.e - m.b).toNat, tkL c a m.e (n - m.e).toNat⟩
set_option maxHeartbeats 2000000 in
theorem line_in (c : Cp) (m : Mt) (t : Rg) (a i0 n : Int) (H : Hp) (hc : CpL H c) (hw : CpW c) (hf : FitP c m t) (hi : 0 ≤ i0 ∧ n ≤ c.tk.length) (ha : 0 ≤ a ∧ a < c.att.length) :
    Fn Tryd.prog 22 #[cpV c, mtV m, rgV t, .int .i64 a, .int .i64 i0, .int .i64 n] H (fun u H' => LnR H' u (lnO c m t a i0 n)) := by
  have hlt := hc.lt
  obtain ⟨f1, f2, f3, f4, f5, f6⟩ := hf
  have hv := fun (H' : Hp) (hl : H.le H') (i n : Int) (h1 : 0 ≤ i) (h2 : n ≤ c.tk.length) => values_in c a i n H' (hc.mono hl) hw ⟨h1, h2⟩ ha
  unfold cpV at hv
  unfold cpV mtV rgV
  refine Fn.of_T (vs := [.agg #[c.va, c.vt, c.vx, c.vr, c.vn, c.vh, c.vs], .agg #[.int .i64 m.b, .int .i64 m.e, m.v], .agg #[.string t.ty, .int .i64 t.b, .int .i64 t.e, t.kv], .int .i64 a, .int .i64 i0, .int .i64 n]) Tryd.func22 rfl rfl fun w => ?_
  refine sq ?_
  refine sr ?_
  (refine T.box Wanted.none rfl rfl zq15 ?_; intro b6)
  (refine T.box Wanted.none rfl rfl zq15 ?_; intro b7)
  (refine T.box Wanted.none rfl rfl zq15 ?_; intro b8)
  refine sy fun b12 => ?_
  refine so ?_
  (repeat refine sq ?_)
  refine T.regionS [(b8, .cells #[.string t.ty, .int .i64 t.b, .int .i64 t.e, t.kv] 38 (0, 0)), (b7, .cells #[.int .i64 m.b, .int .i64 m.e, m.v] 40 (0, 0)), (b6, .cells #[c.va, c.vt, c.vx, c.vr, c.vn, c.vh, c.vs] 32 (0, 0))] 27 (by kernel_rfl) ?_
  refine TS.take 0 rfl (by kernel_rfl) (by kernel_rfl) (by kernel_rfl) (by kernel_rfl) (PV.fieldAddr rfl) Wanted.none rfl rfl ?_
  refine TS.take 1 rfl (by kernel_rfl) (by kernel_rfl) (by kernel_rfl) (by kernel_rfl) (PV.load1 rfl zq0 rfl) Wanted.none rfl rfl ?_
  refine TS.take 2 rfl (by kernel_rfl) (by kernel_rfl) (by kernel_rfl) (by kernel_rfl) (PV.fieldAddr rfl) Wanted.none rfl rfl ?_
  refine TS.take 3 rfl (by kernel_rfl) (by kernel_rfl) (by kernel_rfl) (by kernel_rfl) (PV.load1 rfl zq0 rfl) Wanted.none rfl rfl ?_
  refine TS.take 4 rfl (by kernel_rfl) (by kernel_rfl) (by kernel_rfl) (by kernel_rfl) (PV.fieldAddr rfl) Wanted.none rfl rfl ?_
  refine TS.take 5 rfl (by kernel_rfl) (by kernel_rfl) (by kernel_rfl) (by kernel_rfl) (PV.load1 rfl zq0 rfl) Wanted.none rfl rfl ?_
  refine TS.take 6 rfl (by kernel_rfl) (by kernel_rfl) (by kernel_rfl) (by kernel_rfl) (PV.sub rfl rfl (by omega)) Wanted.none rfl rfl ?_
  refine TS.take 7 rfl (by kernel_rfl) (by kernel_rfl) (by kernel_rfl) (by kernel_rfl) (PV.loadAll rfl zq0 (by exact rfl)) Wanted.none rfl rfl ?_
  refine TS.take 8 rfl (by kernel_rfl) (by kernel_rfl) (by kernel_rfl) (by kernel_rfl) (PV.move rfl) Wanted.none rfl rfl ?_
  refine TS.take 9 rfl (by kernel_rfl) (by kernel_rfl) (by kernel_rfl) (by kernel_rfl) (PV.move rfl) Wanted.none rfl rfl ?_
  refine TS.take 10 rfl (by kernel_rfl) (by kernel_rfl) (by kernel_rfl) (by kernel_rfl) (PV.fieldAddr rfl) Wanted.none rfl rfl ?_
  refine TS.take 11 rfl (by kernel_rfl) (by kernel_rfl) (by kernel_rfl) (by kernel_rfl) (PV.load1 rfl zq0 rfl) Wanted.none rfl rfl ?_
  refine TS.take 13 rfl (by kernel_rfl) (by kernel_rfl) (by kernel_rfl) (by kernel_rfl) (PV.loadAll rfl zq0 (by exact rfl)) Wanted.none rfl rfl ?_
  refine TS.take 14 rfl (by kernel_rfl) (by kernel_rfl) (by kernel_rfl) (by kernel_rfl) (PV.move rfl) Wanted.none rfl rfl ?_
  refine TS.take 15 rfl (by kernel_rfl) (by kernel_rfl) (by kernel_rfl) (by kernel_rfl) (PV.fieldAddr rfl) Wanted.none rfl rfl ?_
  refine TS.take 16 rfl (by kernel_rfl) (by kernel_rfl) (by kernel_rfl) (by kernel_rfl) (PV.load1 rfl zq0 rfl) Wanted.none rfl rfl ?_
  refine TS.take 17 rfl (by kernel_rfl) (by kernel_rfl) (by kernel_rfl) (by kernel_rfl) (PV.fieldAddr rfl) Wanted.none rfl rfl ?_
  refine TS.take 18 rfl (by kernel_rfl) (by kernel_rfl) (by kernel_rfl) (by kernel_rfl) (PV.load1 rfl zq0 rfl) Wanted.none rfl rfl ?_
  refine TS.take 20 rfl (by kernel_rfl) (by kernel_rfl) (by kernel_rfl) (by kernel_rfl) (PV.loadAll rfl zq0 (by exact rfl)) Wanted.none rfl rfl ?_
  refine TS.take 21 rfl (by kernel_rfl) (by kernel_rfl) (by kernel_rfl) (by kernel_rfl) (PV.move rfl) Wanted.none rfl rfl ?_
  refine TS.take 22 rfl (by kernel_rfl) (by kernel_rfl) (by kernel_rfl) (by kernel_rfl) (PV.fieldAddr rfl) Wanted.none rfl rfl ?_
  refine TS.take 23 rfl (by kernel_rfl) (by kernel_rfl) (by kernel_rfl) (by kernel_rfl) (PV.load1 rfl zq0 rfl) Wanted.none rfl rfl ?_
  refine TS.take 24 rfl (by kernel_rfl) (by kernel_rfl) (by kernel_rfl) (by kernel_rfl) (PV.move rfl) Wanted.none rfl rfl ?_
  refine TS.ways [12] (by kernel_rfl) rfl zq18 ⟨⟨_, rfl, ?_⟩, trivial⟩
  (refine T.call Wanted.none rfl rfl (hv _ zq17 _ _ (by omega) (by omega)) ?_; intro v25 H25 hle25 hv25; obtain ⟨ad25, cap25, rfl⟩ := hv25.len)
  refine so ?_
  refine TS.back ?_
  refine TS.ways [19] (by kernel_rfl) rfl zq18 ⟨⟨_, rfl, ?_⟩, trivial⟩
  (refine T.call Wanted.none rfl rfl (hv _ zq17 _ _ (by omega) (by omega)) ?_; intro v32 H32 hle32 hv32; obtain ⟨ad32, cap32, rfl⟩ := hv32.len)
  refine so ?_
  refine TS.back ?_
  refine TS.ways [25] (by kernel_rfl) rfl zq18 ⟨⟨_, rfl, ?_⟩, trivial⟩
  (refine T.call Wanted.none rfl rfl (hv _ zq17 _ _ (by omega) (by omega)) ?_; intro v38 H38 hle38 hv38; obtain ⟨ad38, cap38, rfl⟩ := hv38.len)
  refine so ?_
  refine TS.back ?_
  refine TS.take 26 rfl (by kernel_rfl) (by kernel_rfl) (by kernel_rfl) (by kernel_rfl) (PV.build rfl zq12) Wanted.none rfl rfl ?_
  refine TS.ways [27] (by kernel_rfl) rfl zq18 ⟨⟨_, rfl, ?_⟩, trivial⟩
  refine T.storeA Wanted.none rfl rfl zq8 (by exact rfl) zq14 zq13 ?_
  refine so ?_
  refine TS.back ?_
  refine TS.done (by kernel_rfl) (by kernel_rfl) ?_
  (exact T.retF (Lv.fin (RV.cell rfl zq7) ⟨_, _, _, rfl, hv25.mono zq17, hv32.mono zq17, hv38.mono zq17⟩))
end Go.Proofs.YtlklcjpmfjmenaaDoor
