/- regions: the example; made spans; the statements Raw, Implies, Innermost. -/
import Derived.Test.YtchgfjclchhgmaaGB
import Derived.Test.YtchgfjclchhgmaaFM17
namespace Go.Proofs.Ytchgfjclchhgmaa
open Go.RowKit

def exT (b : Nat) (s : UInt8) : Tk := ⟨.slice (some ⟨b, 0, none⟩) 1 1, [bs [s]]⟩
def exC (b8 b9 b10 b11 b12 b13 b14 b16 b18 : Nat) : Cp :=
  ⟨.slice (some ⟨b8, 0, none⟩) 1 1, [(bs [119], false)], .slice (some ⟨b14, 0, none⟩) 5 5, [exT b9 97, exT b10 98, exT b11 99, exT b12 100, exT b13 101],
   .slice (some ⟨b16, 0, none⟩) 1 1, [⟨bs [116], 0, 5, .slice none 0 0, []⟩], .slice (some ⟨b18, 0, none⟩) 1 1, [⟨bs [115], 0, 3, .slice none 0 0, []⟩],
   .slice none 0 0, [], .slice none 0 0, [], .slice none 0 0, []⟩
theorem exTok {H : Hp} {b : Nat} {s : UInt8} (h : H b = some (.cells #[.string ⟨#[s]⟩] 9 (0, 0))) : TkOk H (exT b s) := by
  refine ⟨⟨rfl, .inr ⟨b, 0, 1, _, _, _, rfl, h, rfl, Nat.le_refl 1⟩⟩, (by show 1 ≤ 1000; omega), fun x hx => ?_⟩
  simp only [exT, List.mem_singleton] at hx
  subst hx
  show 1 ≤ 4000
  omega
set_option maxHeartbeats 2000000 in
theorem known_fn (H : Hp) : Fn Try.prog 19 #[] H (fun u _ => u = .bool true) := by
  refine Fn.of_T (vs := []) Try.func19 rfl rfl fun w => ?_
  refine T.seq ?_
  refine T.region ?_
  refine T.pv (PV.assign rfl) Wanted.none rfl rfl ?_
  refine T.opsNil ?_
  refine T.seq ?_
  refine T.region ?_
  refine T.pv (PV.build rfl zq12) Wanted.none rfl rfl ?_
  (refine T.buildSlice Wanted.none rfl rfl zq11 (by exact rfl) (by exact rfl) ?_; intro b8)
  (refine T.buildSlice Wanted.none rfl rfl zq11 (by exact rfl) (by exact rfl) ?_; intro b9)
  (refine T.buildSlice Wanted.none rfl rfl zq11 (by exact rfl) (by exact rfl) ?_; intro b10)
  (refine T.buildSlice Wanted.none rfl rfl zq11 (by exact rfl) (by exact rfl) ?_; intro b11)
  (refine T.buildSlice Wanted.none rfl rfl zq11 (by exact rfl) (by exact rfl) ?_; intro b12)
  (refine T.buildSlice Wanted.none rfl rfl zq11 (by exact rfl) (by exact rfl) ?_; intro b13)
  (refine T.buildSlice Wanted.none rfl rfl zq11 (by exact rfl) (by exact rfl) ?_; intro b14)
  refine T.pv (PV.build rfl zq12) Wanted.none rfl rfl ?_
  (refine T.buildSlice Wanted.none rfl rfl zq11 (by exact rfl) (by exact rfl) ?_; intro b16)
  refine T.pv (PV.build rfl zq12) Wanted.none rfl rfl ?_
  (refine T.buildSlice Wanted.none rfl rfl zq11 (by exact rfl) (by exact rfl) ?_; intro b18)
  refine T.pv (PV.build rfl zq12) Wanted.none rfl rfl ?_
  (refine T.alloc Wanted.none rfl ?_; intro b1)
  refine T.storeA Wanted.none rfl rfl zq8 (by exact rfl) zq14 zq13 ?_
  refine T.opsNil ?_
  refine T.seq ?_
  refine T.region ?_
  refine T.pv (PV.build rfl zq12) Wanted.none rfl rfl ?_
  refine T.pv (PV.build rfl zq12) Wanted.none rfl rfl ?_
  refine T.pv (PV.build rfl zq12) Wanted.none rfl rfl ?_
  (refine T.alloc Wanted.none rfl ?_; intro b2)
  (refine T.alloc Wanted.none rfl ?_; intro b3)
  (refine T.alloc Wanted.none rfl ?_; intro b4)
  refine T.storeA Wanted.none rfl rfl zq8 (by exact rfl) zq14 zq13 ?_
  refine T.storeA Wanted.none rfl rfl zq8 (by exact rfl) zq14 zq13 ?_
  refine T.storeA Wanted.none rfl rfl zq8 (by exact rfl) zq14 zq13 ?_
  refine T.opsNil ?_
  refine T.seq ?_
  refine T.region ?_
  refine T.pv (PV.build rfl zq12) Wanted.none rfl rfl ?_
  refine T.pv (PV.build rfl zq12) Wanted.none rfl rfl ?_
  (refine T.alloc Wanted.none rfl ?_; intro b5)
  (refine T.alloc Wanted.none rfl ?_; intro b6)
  refine T.storeA Wanted.none rfl rfl zq8 (by exact rfl) zq14 zq13 ?_
  refine T.storeA Wanted.none rfl rfl zq8 (by exact rfl) zq14 zq13 ?_
  refine T.opsNil ?_
  refine T.freezeB (b := b8) zq1 ?_
  intro H1 l1 k8
  refine T.freezeB (b := b9) zq1 ?_
  intro H2 l2 k9
  refine T.freezeB (b := b10) zq1 ?_
  intro H3 l3 k10
  refine T.freezeB (b := b11) zq1 ?_
  intro H4 l4 k11
  refine T.freezeB (b := b12) zq1 ?_
  intro H5 l5 k12
  refine T.freezeB (b := b13) zq1 ?_
  intro H6 l6 k13
  refine T.freezeB (b := b14) zq1 ?_
  intro H7 l7 k14
  refine T.freezeB (b := b16) zq1 ?_
  intro H8 l8 k16
  refine T.freezeB (b := b18) zq1 ?_
  intro H9 l9 k18
  have k16 := l9 _ _ k16
  have l89 := l8.trans l9
  have k14 := l89 _ _ k14
  have l79 := l7.trans l89
  have k13 := l79 _ _ k13
  have l69 := l6.trans l79
  have k12 := l69 _ _ k12
  have l59 := l5.trans l69
  have k11 := l59 _ _ k11
  have l49 := l4.trans l59
  have k10 := l49 _ _ k10
  have l39 := l3.trans l49
  have k9 := l39 _ _ k9
  have k8 := (l2.trans l39) _ _ k8
  have hc : CpL H9 (exC b8 b9 b10 b11 b12 b13 b14 b16 b18) := by
    have hnil : ∀ r ∈ [(⟨bs [116], 0, 5, .slice none 0 0, []⟩ : Rg)], RgOk H9 r := fun r hr => by
      rw [List.mem_singleton] at hr; subst hr; exact ⟨SlR.empty, Nat.zero_le _⟩
    have hnil2 : ∀ r ∈ [(⟨bs [115], 0, 3, .slice none 0 0, []⟩ : Rg)], RgOk H9 r := fun r hr => by
      rw [List.mem_singleton] at hr; subst hr; exact ⟨SlR.empty, Nat.zero_le _⟩
    refine ⟨⟨rfl, .inr ⟨b8, 0, 1, _, _, _, rfl, k8, rfl, Nat.le_refl 1⟩⟩, ⟨rfl, .inr ⟨b14, 0, 5, _, _, _, rfl, k14, rfl, Nat.le_refl 5⟩⟩, ⟨⟨rfl, .inr ⟨b16, 0, 1, _, _, _, rfl, k16, rfl, Nat.le_refl 1⟩⟩, hnil⟩, ⟨⟨rfl, .inr ⟨b18, 0, 1, _, _, _, rfl, k18, rfl, Nat.le_refl 1⟩⟩, hnil2⟩, SlR.empty, SlR.empty, SlR.empty, fun t ht => ?_, ?_, ?_, ?_, ?_, ?_, ?_, ?_⟩
    · simp only [exC, List.mem_cons, List.not_mem_nil, or_false] at ht
      rcases ht with rfl | rfl | rfl | rfl | rfl
      · exact exTok k9
      · exact exTok k10
      · exact exTok k11
      · exact exTok k12
      · exact exTok k13
    all_goals (simp [exC])
  have h1 := holds_in _ ⟨1, false, bs [115]⟩ (1, 2) H9 hc
  have h2 := holds_in _ ⟨3, false, bs [115]⟩ (1, 2) H9 hc
  have h3 := holds_in _ ⟨2, true, bs [115]⟩ (1, 2) H9 hc
  have h4 := holds_in _ ⟨1, false, bs [115]⟩ (2, 5) H9 hc
  have h5 := holds_in _ ⟨3, false, bs [115]⟩ (2, 5) H9 hc
  have h6 := last_in _ (bs [115]) (1, 2) H9 hc
  have h7 := last_in _ (bs [115]) (2, 5) H9 hc
  rw [show holdsB _ _ _ = true from rfl] at h1 h2 h3 h5
  rw [show holdsB _ _ _ = false from rfl] at h4
  rw [show lastI _ _ _ = 0 from rfl] at h6
  rw [show lastI _ _ _ = -1 from rfl] at h7
  refine T.seq ?_
  refine T.region ?_
  refine T.pv (PV.loadAll rfl zq0 (by exact rfl)) Wanted.none rfl rfl ?_
  refine T.pv (PV.loadAll rfl zq0 (by exact rfl)) Wanted.none rfl rfl ?_
  refine T.pv (PV.loadAll rfl zq0 (by exact rfl)) Wanted.none rfl rfl ?_
  refine T.callV Wanted.none rfl rfl (h1) ?_
  refine T.pv (PV.move rfl) Wanted.none rfl rfl ?_
  refine T.pv (PV.loadAll rfl zq0 (by exact rfl)) (Wanted.guard rfl rfl rfl) rfl rfl ?_
  refine T.pv (PV.loadAll rfl zq0 (by exact rfl)) (Wanted.guard rfl rfl rfl) rfl rfl ?_
  refine T.pv (PV.loadAll rfl zq0 (by exact rfl)) (Wanted.guard rfl rfl rfl) rfl rfl ?_
  refine T.callV (Wanted.guard rfl rfl rfl) rfl rfl (h2) ?_
  refine T.pv (PV.pickT rfl rfl rfl) Wanted.none rfl rfl ?_
  refine T.pv (PV.move rfl) Wanted.none rfl rfl ?_
  refine T.pv (PV.loadAll rfl zq0 (by exact rfl)) (Wanted.guard rfl rfl rfl) rfl rfl ?_
  refine T.pv (PV.loadAll rfl zq0 (by exact rfl)) (Wanted.guard rfl rfl rfl) rfl rfl ?_
  refine T.pv (PV.loadAll rfl zq0 (by exact rfl)) (Wanted.guard rfl rfl rfl) rfl rfl ?_
  refine T.callV (Wanted.guard rfl rfl rfl) rfl rfl (h3) ?_
  refine T.pv (PV.pickT rfl rfl rfl) Wanted.none rfl rfl ?_
  refine T.pv (PV.move rfl) Wanted.none rfl rfl ?_
  refine T.pv (PV.loadAll rfl zq0 (by exact rfl)) (Wanted.guard rfl rfl rfl) rfl rfl ?_
  refine T.pv (PV.loadAll rfl zq0 (by exact rfl)) (Wanted.guard rfl rfl rfl) rfl rfl ?_
  refine T.pv (PV.loadAll rfl zq0 (by exact rfl)) (Wanted.guard rfl rfl rfl) rfl rfl ?_
  refine T.callV (Wanted.guard rfl rfl rfl) rfl rfl (h4) ?_
  refine T.pv (PV.not rfl) (Wanted.guard rfl rfl rfl) rfl rfl ?_
  refine T.pv (PV.pickT rfl rfl rfl) Wanted.none rfl rfl ?_
  refine T.pv (PV.move rfl) Wanted.none rfl rfl ?_
  refine T.pv (PV.loadAll rfl zq0 (by exact rfl)) (Wanted.guard rfl rfl rfl) rfl rfl ?_
  refine T.pv (PV.loadAll rfl zq0 (by exact rfl)) (Wanted.guard rfl rfl rfl) rfl rfl ?_
  refine T.pv (PV.loadAll rfl zq0 (by exact rfl)) (Wanted.guard rfl rfl rfl) rfl rfl ?_
  refine T.callV (Wanted.guard rfl rfl rfl) rfl rfl (h5) ?_
  refine T.pv (PV.pickT rfl rfl rfl) Wanted.none rfl rfl ?_
  refine T.pv (PV.move rfl) Wanted.none rfl rfl ?_
  refine T.pv (PV.loadAll rfl zq0 (by exact rfl)) (Wanted.guard rfl rfl rfl) rfl rfl ?_
  refine T.pv (PV.loadAll rfl zq0 (by exact rfl)) (Wanted.guard rfl rfl rfl) rfl rfl ?_
  refine T.callV (Wanted.guard rfl rfl rfl) rfl rfl (h6) ?_
  refine T.pv (PV.eql rfl rfl) (Wanted.guard rfl rfl rfl) rfl rfl ?_
  refine T.pv (PV.pickT rfl rfl rfl) Wanted.none rfl rfl ?_
  refine T.pv (PV.move rfl) Wanted.none rfl rfl ?_
  refine T.pv (PV.loadAll rfl zq0 (by exact rfl)) (Wanted.guard rfl rfl rfl) rfl rfl ?_
  refine T.pv (PV.loadAll rfl zq0 (by exact rfl)) (Wanted.guard rfl rfl rfl) rfl rfl ?_
  refine T.callV (Wanted.guard rfl rfl rfl) rfl rfl (h7) ?_
  refine T.pv (PV.eql rfl rfl) (Wanted.guard rfl rfl rfl) rfl rfl ?_
  refine T.pv (PV.pickT rfl rfl rfl) Wanted.none rfl rfl ?_
  refine T.pv (PV.assign rfl) Wanted.none rfl rfl ?_
  refine T.opsNil ?_
  exact T.retF (Lv.fin (RV.tmp rfl rfl) rfl)
end Go.Proofs.Ytchgfjclchhgmaa
