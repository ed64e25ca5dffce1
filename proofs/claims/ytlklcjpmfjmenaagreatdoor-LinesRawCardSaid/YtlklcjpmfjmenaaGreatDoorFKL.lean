/- lines: the stable sort of a short list; a copied match. -/
import Derived.Test.YtlklcjpmfjmenaaGreatDoorFKK
namespace Go.Proofs.YtlklcjpmfjmenaaGreatDoor
open Go.RowKit

set_option maxHeartbeats 1000000 in
theorem stable_fn (l : List Kr) (n : Nat) (v : Value) (lv : List (Nat × Obj)) (H : Hp) (hv : RowV 79 encKr 5 v lv l) (hok : ∀ x ∈ l, KrOk H n x) (hl : l.length ≤ 19) (cmp : Kr → Kr → Int) (gf : FuncId) [hE : Ent Tryz.prog gf] (cap : List Value)
    (hg : ∀ x ∈ l, ∀ y ∈ l, Fn Tryz.prog gf (krV x :: krV y :: cap).toArray H (fun u _ => u = .int .i64 (cmp x y))) :
    FnW Tryz.prog 79 #[v, .int .i64 (l.length : Int), .func (.func gf) #[] cap.toArray] H lv (fun u H' l' => u = .tuple #[] ∧ H' = H ∧ RowV 79 encKr 5 v l' (sortK (fun a b => decide (cmp a b < 0)) l)) := by
  have hin := insSort_fn l n v lv H hv hok (by omega) cmp gf cap hg
  refine FnW.of_T (vs := [v, .int .i64 (l.length : Int), .func (.func gf) #[] cap.toArray]) Tryz.func79 rfl rfl fun w => ?_
  refine sq ?_
  refine sr ?_
  refine sa ?_
  refine so ?_
  refine sq ?_
  refine sr ?_
  refine sm ?_
  refine sa ?_
  refine sa ?_
  refine so ?_
  refine sq ?_
  refine T.block ?_
  refine T.loopK [(6, Value.int IntKind.i64 20), (0, v), (1, Value.int IntKind.i64 (↑l.length : Int)), (2, Value.func (Fn.func gf) #[] cap.toArray)] zq8 (γ := Unit) (fun _ => True) (fun _ => [(7, .int .i64 0), (8, .int .i64 20)]) (fun _ => lv) (fun _ => H) (fun _ => 0) () trivial zq8 (by repeat (first | exact Sel.refl _ | exact Sel.nil | (refine Sel.cons zq1 ?_) | (refine Sel.app zq1 ?_) | exact Sel.one zq1)) rfl ?_
  rintro ⟨⟩ -
  refine sq ?_
  refine sq ?_
  refine sr ?_
  refine sm ?_
  refine sm ?_
  refine sv (PV.leq rfl rfl) ?_
  refine so ?_
  refine sd rfl (by omega) ?_
  refine T.exit rfl ?_
  refine sq ?_
  refine sr ?_
  refine sm ?_
  refine sm ?_
  refine sm ?_
  refine sm ?_
  (refine T.callW Wanted.none rfl rfl hin zq1 ?_; rintro _ H9 lv1 _ ⟨rfl, rfl, h1⟩)
  refine so ?_
  refine T.block ?_
  refine T.loopK [(0, v), (1, Value.int IntKind.i64 (↑l.length : Int)), (2, Value.func (Fn.func gf) #[] cap.toArray)] zq8 (γ := Unit) (fun _ => True) (fun _ => [(6, .int .i64 20)]) (fun _ => lv1) (fun _ => H9) (fun _ => 0) () trivial zq8 (by repeat (first | exact Sel.refl _ | exact Sel.nil | (refine Sel.cons zq1 ?_) | (refine Sel.app zq1 ?_) | exact Sel.one zq1)) rfl ?_
  rintro ⟨⟩ -
  refine sq ?_
  refine sq ?_
  refine sr ?_
  refine sm ?_
  refine sm ?_
  refine sv (PV.lss rfl rfl) ?_
  refine so ?_
  refine sd rfl (by omega) ?_
  refine T.exit rfl ?_
  exact T.fallW (Lv.finW lv1 zq4 (RV.none rfl) ⟨rfl, rfl, h1⟩)
set_option maxHeartbeats 1000000 in
theorem sortStable_fn (l : List Kr) (n : Nat) (v : Value) (lv : List (Nat × Obj)) (H : Hp) (hv : RowV 79 encKr 5 v lv l) (hok : ∀ x ∈ l, KrOk H n x) (hl : l.length ≤ 19) (cmp : Kr → Kr → Int) (gf : FuncId) [hE : Ent Tryz.prog gf] (cap : List Value)
    (hg : ∀ x ∈ l, ∀ y ∈ l, Fn Tryz.prog gf (krV x :: krV y :: cap).toArray H (fun u _ => u = .int .i64 (cmp x y))) :
    FnW Tryz.prog 36 #[v, .func (.func gf) #[] cap.toArray] H lv (fun u H' l' => u = .tuple #[] ∧ H' = H ∧ RowV 79 encKr 5 v l' (sortK (fun a b => decide (cmp a b < 0)) l)) := by
  have hin := stable_fn l n v lv H hv hok hl cmp gf cap hg
  obtain ⟨adv, capv, rfl⟩ := hv.val
  refine FnW.of_T (vs := [.slice adv l.length capv, .func (.func gf) #[] cap.toArray]) Tryz.func36 rfl rfl fun w => ?_
  refine sr ?_
  refine sm ?_
  refine sm ?_
  refine sv (PV.lenSl rfl) ?_
  refine sm ?_
  (refine T.callW Wanted.none rfl rfl hin zq1 ?_; rintro _ H9 lv1 _ ⟨rfl, rfl, h1⟩)
  refine so ?_
  exact T.fallW (Lv.finW lv1 zq4 (RV.none rfl) ⟨rfl, rfl, h1⟩)
set_option maxHeartbeats 1000000 in
theorem copied_fn (m : Mt) (H : Hp) (hm : LabOk H m) : Fn Tryz.prog 35 #[mtV m] H (fun u H' => ∃ v, u = mtV ⟨m.b, m.e, v, m.ls⟩ ∧ LabOk H' ⟨m.b, m.e, v, m.ls⟩) := by
  have hcl := clone_fn m.ls m.v H hm.1 (by have := hm.2; omega)
  obtain ⟨al, cl, hmv⟩ := hm.1.len
  unfold mtV
  rw [hmv] at hcl ⊢
  refine Fn.of_T (vs := [.agg #[.int .i64 m.b, .int .i64 m.e, .slice al m.ls.length cl]]) Tryz.func35 rfl rfl fun w => ?_
  refine sq ?_
  refine sr ?_
  (refine T.box Wanted.none rfl rfl zq15 ?_; intro b1)
  refine sy fun b2 => ?_
  refine so ?_
  (repeat refine sq ?_)
  refine T.regionS [(b1, .cells #[.int .i64 m.b, .int .i64 m.e, .slice al m.ls.length cl] 24 (0, 0))] 8 (by kernel_rfl) ?_
  refine TS.take 0 rfl (by kernel_rfl) (by kernel_rfl) (by kernel_rfl) (by kernel_rfl) (PV.fieldAddr rfl) Wanted.none rfl rfl ?_
  refine TS.take 1 rfl (by kernel_rfl) (by kernel_rfl) (by kernel_rfl) (by kernel_rfl) (PV.load1 rfl zq0 rfl) Wanted.none rfl rfl ?_
  refine TS.take 2 rfl (by kernel_rfl) (by kernel_rfl) (by kernel_rfl) (by kernel_rfl) (PV.fieldAddr rfl) Wanted.none rfl rfl ?_
  refine TS.take 3 rfl (by kernel_rfl) (by kernel_rfl) (by kernel_rfl) (by kernel_rfl) (PV.load1 rfl zq0 rfl) Wanted.none rfl rfl ?_
  refine TS.take 4 rfl (by kernel_rfl) (by kernel_rfl) (by kernel_rfl) (by kernel_rfl) (PV.fieldAddr rfl) Wanted.none rfl rfl ?_
  refine TS.take 5 rfl (by kernel_rfl) (by kernel_rfl) (by kernel_rfl) (by kernel_rfl) (PV.load1 rfl zq0 rfl) Wanted.none rfl rfl ?_
  refine TS.ways [6] (by kernel_rfl) rfl zq18 ⟨⟨_, rfl, ?_⟩, trivial⟩
  (refine T.call Wanted.none rfl rfl hcl ?_; intro v9 H9 hle9 hv9; obtain ⟨ad9, cap9, rfl⟩ := hv9.len)
  refine so ?_
  refine TS.back ?_
  refine TS.take 7 rfl (by kernel_rfl) (by kernel_rfl) (by kernel_rfl) (by kernel_rfl) (PV.build rfl zq12) Wanted.none rfl rfl ?_
  refine TS.ways [8] (by kernel_rfl) rfl zq18 ⟨⟨_, rfl, ?_⟩, trivial⟩
  refine T.storeA Wanted.none rfl rfl zq8 (by exact rfl) zq14 zq13 ?_
  refine so ?_
  refine TS.back ?_
  refine TS.done (by kernel_rfl) (by kernel_rfl) ?_
  exact T.retF (Lv.fin (RV.cell rfl zq7) ⟨_, rfl, hv9, hm.2⟩)
end Go.Proofs.YtlklcjpmfjmenaaGreatDoor
