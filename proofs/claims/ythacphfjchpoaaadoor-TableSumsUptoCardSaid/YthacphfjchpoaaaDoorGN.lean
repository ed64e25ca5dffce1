/- table: the labels, made groups.
   table: made matches and groups have no error; the example.
   table: the example. -/
import Derived.Test.YthacphfjchpoaaaDoorGM
namespace Go.Proofs.YthacphfjchpoaaaDoor
open Go.RowKit


end Go.Proofs.YthacphfjchpoaaaDoor
namespace Go.Proofs.YthacphfjchpoaaaDoor
open Go.RowKit


/-! ### the example -/
def knT (b : Nat) (x : UInt8) : Tk := ⟨.slice (some ⟨b, 0, none⟩) 1 1, [bs [x]]⟩
def knC (b5 b6 b7 b8 b9 b11 : Nat) : Cp :=
  ⟨.slice (some ⟨b5, 0, none⟩) 1 1, [(bs [119, 111, 114, 100], false)], .slice (some ⟨b9, 0, none⟩) 3 3, [knT b6 97, knT b7 98, knT b8 97],
   .slice (some ⟨b11, 0, none⟩) 1 1, [⟨bs [116], 0, 3, .slice none 0 0, []⟩], .slice none 0 0, [], .slice none 0 0, [], .slice none 0 0, [], .slice none 0 0, []⟩
theorem knTok {H : Hp} {b : Nat} {x : UInt8} (h : H b = some (.cells #[.string (bs [x])] 9 (0, 0))) : TkOk H (knT b x) := by
  refine ⟨⟨rfl, .inr ⟨b, 0, 1, _, _, _, rfl, h, rfl, Nat.le_refl 1⟩⟩, (by show 1 ≤ 1000; omega), fun y hy => ?_⟩
  simp only [knT, List.mem_singleton] at hy
  subst hy
  show (bs [x]).size ≤ 4000
  simp [bs, ByteArray.size]
def knM : List Mt := [⟨0, 1, .slice none 0 0, []⟩, ⟨2, 3, .slice none 0 0, []⟩]
def knG : List Gp := [⟨1, 1, 0, bs [], bs [119, 111, 114, 100], bs []⟩]
theorem knE (b5 b6 b7 b8 b9 b11 : Nat) : countE (knC b5 b6 b7 b8 b9 b11) [] knM knG = 0 := by rfl
theorem knR (b5 b6 b7 b8 b9 b11 : Nat) : countR (knC b5 b6 b7 b8 b9 b11) [] knM knG = [([bs [97]], 2)] := by rfl

end Go.Proofs.YthacphfjchpoaaaDoor
namespace Go.Proofs.YthacphfjchpoaaaDoor
open Go.RowKit


theorem knMs {H : Hp} {b : Nat} (h : H b = some (.cells #[.int .i64 0, .int .i64 1, .slice none 0 0, .int .i64 2, .int .i64 3, .slice none 0 0] 58 (0, 0))) : MtL H (.slice (some ⟨b, 0, none⟩) 2 2) knM :=
  ⟨⟨rfl, .inr ⟨b, 0, 2, _, _, _, rfl, h, rfl, Nat.le_refl 2⟩⟩, fun m hm => by
    simp only [knM, List.mem_cons, List.not_mem_nil, or_false] at hm
    rcases hm with rfl | rfl <;> exact ⟨SlR.empty, Nat.zero_le _⟩⟩
theorem knGs {H : Hp} {b : Nat} (h : H b = some (.cells #[.int .i64 1, .int .i64 1, .int .i64 0, .string (bs []), .string (bs [119, 111, 114, 100]), .string (bs [])] 61 (0, 0))) : GpL H (.slice (some ⟨b, 0, none⟩) 1 1) knG :=
  ⟨rfl, .inr ⟨b, 0, 1, _, _, _, rfl, h, rfl, Nat.le_refl 1⟩⟩
theorem knRs {H : Hp} {b c : Nat} (h : H b = some (.cells #[.slice (some ⟨c, 0, none⟩) 1 1, .int .i64 2] 34 (0, 0))) (hc : H c = some (.cells #[.string (bs [97])] 9 (0, 0))) : RwL H (.slice (some ⟨b, 0, none⟩) 1 1) [⟨.slice (some ⟨c, 0, none⟩) 1 1, [bs [97]], 2⟩] :=
  ⟨⟨rfl, .inr ⟨b, 0, 1, _, _, _, rfl, h, rfl, Nat.le_refl 1⟩⟩, fun r hr => by
    rw [List.mem_singleton] at hr; subst hr
    have := joinL_bound [bs [97]] (by intro k hk; rw [List.mem_singleton] at hk; subst hk; decide)
    exact ⟨⟨rfl, .inr ⟨c, 0, 1, _, _, _, rfl, hc, rfl, Nat.le_refl 1⟩⟩, (by show 1 ≤ 1000; omega), Nat.le_trans this (by decide)⟩⟩
set_option maxHeartbeats 4000000 in
theorem known35_fn (H : Hp) (hT : PowT H) : Fn Tryd.prog 14 #[] H (fun u _ => u = .bool true) := by
  refine Fn.of_T (vs := []) Tryd.func14 rfl rfl fun w => ?_; refine zs3 ?_; refine sa ?_; refine zs1 ?_; refine sv (PV.build rfl zq12) ?_; (refine T.buildSlice Wanted.none rfl rfl zq11 (by exact rfl) (by exact rfl) ?_; intro b5); (refine T.buildSlice Wanted.none rfl rfl zq11 (by exact rfl) (by exact rfl) ?_; intro b6); (refine T.buildSlice Wanted.none rfl rfl zq11 (by exact rfl) (by exact rfl) ?_; intro b7); (refine T.buildSlice Wanted.none rfl rfl zq11 (by exact rfl) (by exact rfl) ?_; intro b8); (refine T.buildSlice Wanted.none rfl rfl zq11 (by exact rfl) (by exact rfl) ?_; intro b9); refine sv (PV.build rfl zq12) ?_; (refine T.buildSlice Wanted.none rfl rfl zq11 (by exact rfl) (by exact rfl) ?_; intro b11); refine sv (PV.build rfl zq12) ?_; refine sy fun b1 => ?_; refine T.storeA Wanted.none rfl rfl zq8 (by exact rfl) zq14 zq13 ?_; refine so ?_; refine T.freezeB (b := b5) zq1 ?_
  intro H1 l1 k5
  refine T.freezeB (b := b6) zq1 ?_
  intro H2 l2 k6
  refine T.freezeB (b := b7) zq1 ?_
  intro H3 l3 k7
  refine T.freezeB (b := b8) zq1 ?_
  intro H4 l4 k8
  refine T.freezeB (b := b9) zq1 ?_
  intro H5 l5 k9
  refine T.freezeB (b := b11) zq1 ?_
  intro H6 l6 k11
  have k9 := l6 _ _ k9
  have l56 := l5.trans l6
  have k8 := l56 _ _ k8
  have l46 := l4.trans l56
  have k7 := l46 _ _ k7
  have l36 := l3.trans l46
  have k6 := l36 _ _ k6
  have k5 := (l2.trans l36) _ _ k5
  have hT6 := hT.mono (l1.trans (l2.trans l36))
  have hc : CpL H6 (knC b5 b6 b7 b8 b9 b11) := by
    have hnil : ∀ r ∈ [(⟨bs [116], 0, 3, .slice none 0 0, []⟩ : Rg)], RgOk H6 r := fun r hr => by
      rw [List.mem_singleton] at hr; subst hr; exact ⟨SlR.empty, Nat.zero_le _, by intro p hp; cases hp⟩
    refine ⟨⟨rfl, .inr ⟨b5, 0, 1, _, _, _, rfl, k5, rfl, Nat.le_refl 1⟩⟩, ⟨rfl, .inr ⟨b9, 0, 3, _, _, _, rfl, k9, rfl, Nat.le_refl 3⟩⟩, ⟨⟨rfl, .inr ⟨b11, 0, 1, _, _, _, rfl, k11, rfl, Nat.le_refl 1⟩⟩, hnil⟩, ⟨SlR.empty, by intro r hr; cases hr⟩, SlR.empty, SlR.empty, SlR.empty, fun t ht => ?_, ?_, ?_, ?_, ?_, ?_, ?_, ?_⟩
    · simp only [knC, List.mem_cons, List.not_mem_nil, or_false] at ht
      rcases ht with rfl | rfl | rfl
      · exact knTok k6
      · exact knTok k7
      · exact knTok k8
    all_goals (simp only [knC, List.length_cons, List.length_nil]; omega)
  have hw : CpW (knC b5 b6 b7 b8 b9 b11) := by
    refine ⟨fun t ht => ?_, fun t ht => ?_⟩
    · simp only [knC, List.mem_cons, List.not_mem_nil, or_false] at ht
      rcases ht with rfl | rfl | rfl <;> rfl
    · simp only [knC, List.mem_singleton] at ht
      subst ht
      exact ⟨by decide, by decide, by show (3 : Int) ≤ 3; omega⟩
  have hcn := fun (H' : Hp) (h : H6.le H') (vm vg : Value) (hm : MtL H' vm knM) (hg : GpL H' vg knG) => count_in (knC b5 b6 b7 b8 b9 b11) [] (.slice none 0 0) knM vm knG vg H' (hT6.mono h) (hc.mono h) hw SlR.empty (Nat.zero_le _) hm (Nat.le_of_ble_eq_true rfl) (fun m hm => by
    simp only [knM, List.mem_cons, List.not_mem_nil, or_false] at hm
    rcases hm with rfl | rfl <;> exact Nat.zero_le _) hg (Nat.le_of_ble_eq_true rfl)
  simp only [knE, knR] at hcn
  have hmc := fun (H' : Hp) => matchCompare_fn ⟨0, 0, .slice none 0 0, []⟩ ⟨0, 0, .slice none 0 0, []⟩ H' ⟨SlR.empty, Nat.zero_le _⟩ ⟨SlR.empty, Nat.zero_le _⟩
  unfold cpV at hcn
  unfold mtV at hmc
  change ∀ H', Fn _ _ _ _ (fun u _ => u = .int .i64 0) at hmc
  refine zs3 ?_; refine sv (PV.loadAll rfl zq0 (by exact rfl)) ?_; refine sv (PV.build rfl zq12) ?_; refine sv (PV.build rfl zq12) ?_; (refine T.buildSlice Wanted.none rfl rfl zq11 (by exact rfl) (by exact rfl) ?_; intro b17); refine sv (PV.build rfl zq12) ?_; (refine T.buildSlice Wanted.none rfl rfl zq11 (by exact rfl) (by exact rfl) ?_; intro b19); (refine T.freezeB (b := b17) zq1 ?_; intro H7 l7 k17; refine T.freezeB (b := b19) zq1 ?_; intro H8 l8 k19; refine T.call Wanted.none rfl rfl (hcn H8 (l7.trans l8) _ _ (knMs (l8 _ _ k17)) (knGs k19)) ?_; rintro _ H9 l9 ⟨v, A, rfl, hA, q1, q2⟩; obtain ⟨aA, cA, rfl⟩ := hA.1.len); refine sm ?_; refine sv (PV.extract rfl rfl) ?_; refine sv (PV.extract rfl rfl) ?_; refine sa ?_; refine sa ?_; refine so ?_
  have hAe := q1 trivial
  have hAl : A.length ≤ 1000000 := by have := congrArg List.length hAe; rw [List.length_map] at this; simp at this; omega
  refine zs3 ?_; refine sm ?_; refine sv (PV.eql rfl rfl) ?_; refine sm ?_; refine gm ?_; (refine T.buildSlice (Wanted.guard rfl rfl rfl) rfl rfl zq11 (by exact rfl) (by exact rfl) ?_; intro b27); refine gv (PV.build rfl zq12) ?_; (refine T.buildSlice (Wanted.guard rfl rfl rfl) rfl rfl zq11 (by exact rfl) (by exact rfl) ?_; intro b29); (refine T.freezeB (b := b27) zq1 ?_; intro H10 l10 k27; refine T.freezeB (b := b29) zq1 ?_; intro H11 l11 k29; have hsm := same35_fn A _ _ _ H11 ((hA.mono l10).mono l11) (knRs k29 (l11 _ _ k27)) hAl; rw [hAe] at hsm; change Fn _ _ _ _ (fun u _ => u = .bool true) at hsm; refine T.callX (Wanted.guard rfl rfl rfl) rfl rfl hsm ?_; rintro _ rfl); refine sT ?_; refine sm ?_; refine gv (PV.build rfl zq12) ?_; refine gv (PV.build rfl zq12) ?_; (refine T.callX (Wanted.guard rfl rfl rfl) rfl rfl (hmc _) ?_; rintro _ rfl); refine gv (PV.eql rfl rfl) ?_; refine sT ?_; refine sa ?_; refine so ?_
  exact T.retF (Lv.fin (RV.tmp rfl rfl) rfl)

end Go.Proofs.YthacphfjchpoaaaDoor
