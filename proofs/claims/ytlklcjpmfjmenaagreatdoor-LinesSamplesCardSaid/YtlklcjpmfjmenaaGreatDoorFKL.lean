/- lines: the stable sort of a short list; a copied match. -/
import Derived.Test.YtlklcjpmfjmenaaGreatDoorFKK
namespace Go.Proofs.YtlklcjpmfjmenaaGreatDoor
open Go.RowKit

set_option maxHeartbeats 1000000 in
theorem copied_fn (m : Mt) (H : Hp) (hm : LabOk H m) : Fn Tryz.prog 35 #[mtV m] H (fun u H' => ∃ v, u = mtV ⟨m.b, m.e, v, m.ls⟩ ∧ LabOk H' ⟨m.b, m.e, v, m.ls⟩) := by
  have hcl := clone_fn m.ls m.v H hm.1 (by have := hm.2; omega)
  obtain ⟨al, cl, hmv⟩ := hm.1.len
  unfold mtV
  rw [hmv] at hcl ⊢
  refine Fn.of_T (vs := [.agg #[.int .i64 m.b, .int .i64 m.e, .slice al m.ls.length cl]]) Tryz.func35 rfl rfl fun w => ?_
  refine sq ?_
  refine sr ?_
  (refine T.box Wanted.none rfl rfl zq15 ?_; intro b1)
  refine sy fun b2 => ?_
  refine so ?_
  (repeat refine sq ?_)
  refine T.regionS [(b1, .cells #[.int .i64 m.b, .int .i64 m.e, .slice al m.ls.length cl] 24 (0, 0))] 8 (by kernel_rfl) ?_
  refine TS.take 0 rfl (by kernel_rfl) (by kernel_rfl) (by kernel_rfl) (by kernel_rfl) (PV.fieldAddr rfl) Wanted.none rfl rfl ?_
  refine TS.take 1 rfl (by kernel_rfl) (by kernel_rfl) (by kernel_rfl) (by kernel_rfl) (PV.load1 rfl zq0 rfl) Wanted.none rfl rfl ?_
  refine TS.take 2 rfl (by kernel_rfl) (by kernel_rfl) (by kernel_rfl) (by kernel_rfl) (PV.fieldAddr rfl) Wanted.none rfl rfl ?_
  refine TS.take 3 rfl (by kernel_rfl) (by kernel_rfl) (by kernel_rfl) (by kernel_rfl) (PV.load1 rfl zq0 rfl) Wanted.none rfl rfl ?_
  refine TS.take 4 rfl (by kernel_rfl) (by kernel_rfl) (by kernel_rfl) (by kernel_rfl) (PV.fieldAddr rfl) Wanted.none rfl rfl ?_
  refine TS.take 5 rfl (by kernel_rfl) (by kernel_rfl) (by kernel_rfl) (by kernel_rfl) (PV.load1 rfl zq0 rfl) Wanted.none rfl rfl ?_
  refine TS.ways [6] (by kernel_rfl) rfl zq18 ⟨⟨_, rfl, ?_⟩, trivial⟩
  (refine T.call Wanted.none rfl rfl hcl ?_; intro v9 H9 hle9 hv9; obtain ⟨ad9, cap9, rfl⟩ := hv9.len)
  refine so ?_
  refine TS.back ?_
  refine TS.take 7 rfl (by kernel_rfl) (by kernel_rfl) (by kernel_rfl) (by kernel_rfl) (PV.build rfl zq12) Wanted.none rfl rfl ?_
  refine TS.ways [8] (by kernel_rfl) rfl zq18 ⟨⟨_, rfl, ?_⟩, trivial⟩
  refine T.storeA Wanted.none rfl rfl zq8 (by exact rfl) zq14 zq13 ?_
  refine so ?_
  refine TS.back ?_
  refine TS.done (by kernel_rfl) (by kernel_rfl) ?_
  exact T.retF (Lv.fin (RV.cell rfl zq7) ⟨_, rfl, hv9, hm.2⟩)
end Go.Proofs.YtlklcjpmfjmenaaGreatDoor
