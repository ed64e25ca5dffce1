/- lines: the order of a sorting.
   lines: a made key.
   lines: what holds of a made corpus.
   lines: the example.
   lines: the statement Stable.
   lines: MakeRegion: the program, the reference.
   lines: the statement Make. -/
import Derived.Test.YtlklcjpmfjmenaaGreatDoorFKM
import Derived.Test.YtlklcjpmfjmenaaGreatDoorFKB
namespace Go.Proofs.YtlklcjpmfjmenaaGreatDoor
open Go.RowKit

theorem cmpBy_neg : ∀ a b : List UInt8, Lib.compareBytes b a = - Lib.compareBytes a b
  | [], [] => rfl
  | [], _ :: _ => rfl
  | _ :: _, [] => rfl
  | a :: u, b :: v => by
    have := cmpBy_neg u v
    simp only [Lib.compareBytes, UInt8.lt_iff_toNat_lt]
    by_cases h1 : a.toNat < b.toNat
    · rw [if_pos h1, if_neg (by omega), if_pos h1]; rfl
    · by_cases h2 : b.toNat < a.toNat
      · simp [h1, h2]
      · simp [h1, h2, this]
theorem cmpBy_eq : ∀ {a b : List UInt8}, Lib.compareBytes a b = 0 → a = b
  | [], [], _ => rfl
  | [], _ :: _, h => by simp [Lib.compareBytes] at h
  | _ :: _, [], h => by simp [Lib.compareBytes] at h
  | a :: u, b :: v, h => by
    simp only [Lib.compareBytes, UInt8.lt_iff_toNat_lt] at h
    by_cases h1 : a.toNat < b.toNat
    · rw [if_pos h1] at h; cases h
    · by_cases h2 : b.toNat < a.toNat
      · rw [if_neg h1, if_pos h2] at h; cases h
      · rw [if_neg h1, if_neg h2] at h
        rw [cmpBy_eq h, UInt8.toNat_inj.1 (by omega : a.toNat = b.toNat)]
theorem cmpBy_self (a : List UInt8) : Lib.compareBytes a a = 0 := by have := cmpBy_neg a a; omega
theorem bytesLess_cmp : ∀ a b : List UInt8, Op.bytesLess a b = decide (Lib.compareBytes a b < 0)
  | [], [] => rfl
  | [], _ :: _ => rfl
  | _ :: _, [] => rfl
  | a :: u, b :: v => by
    have := bytesLess_cmp u v
    simp only [Op.bytesLess, Lib.compareBytes, UInt8.lt_iff_toNat_lt, this]
    by_cases h1 : a.toNat < b.toNat
    · simp [h1]
    · by_cases h2 : b.toNat < a.toNat
      · have h3 : ¬ a = b := by rintro rfl; omega
        simp [h1, h2, h3]
      · have h3 : a = b := UInt8.toNat_inj.1 (by omega)
        subst h3
        simp
theorem cmpS_eq {a b : ByteArray} (h : cmpS a b = 0) : a = b := by
  have := cmpBy_eq h
  cases a with | mk a => cases b with | mk b =>
  simp only at this
  rw [Array.toList_inj.1 this]
theorem cmpS_self (a : ByteArray) : cmpS a a = 0 := cmpBy_self _
/-! ### by values of keys -/
def cmpF (z : Int) (f g : Ky → ByteArray) : List Ky → Int
  | [] => z
  | k :: ks => if cmpS (f k) (g k) ≠ 0 then (if k.fall then - cmpS (f k) (g k) else cmpS (f k) (g k)) else cmpF z f g ks
theorem cmpKs_map (z : Int) (f g : Ky → ByteArray) : ∀ ks : List Ky, cmpKs z ks (ks.map f) (ks.map g) = cmpF z f g ks
  | [] => rfl
  | k :: ks => by rw [List.map_cons, List.map_cons, cmpKs, cmpF, cmpKs_map z f g ks]
end Go.Proofs.YtlklcjpmfjmenaaGreatDoor
namespace Go.Proofs.YtlklcjpmfjmenaaGreatDoor
open Go.RowKit

end Go.Proofs.YtlklcjpmfjmenaaGreatDoor
namespace Go.Proofs.YtlklcjpmfjmenaaGreatDoor
open Go.RowKit

theorem i64_range {i : Int} (h : (Lit.int .i64 i).wf = true) : -9223372036854775808 ≤ i ∧ i ≤ 9223372036854775807 := by
  simp only [Lit.wf, Bool.and_eq_true, decide_eq_true_eq] at h
  exact h
theorem CpG.wide {c : Cp} (h : CpG c) : CpW c := ⟨fun t ht => by rw [h.tk t ht, h.att]; rfl, fun t ht => chain_mem h.tx ht⟩
end Go.Proofs.YtlklcjpmfjmenaaGreatDoor
namespace Go.Proofs.YtlklcjpmfjmenaaGreatDoor
open Go.RowKit

def kwT (b : Nat) (l : List UInt8) : Tk := ⟨.slice (some ⟨b, 0, none⟩) 1 1, [bs l]⟩
def kwC (b5 b6 b7 b8 b9 b11 : Nat) : Cp :=
  ⟨.slice (some ⟨b5, 0, none⟩) 1 1, [(bs [119, 111, 114, 100], false)], .slice (some ⟨b9, 0, none⟩) 3 3, [kwT b6 [116, 104, 101], kwT b7 [111, 108, 100], kwT b8 [109, 97, 110]],
   .slice (some ⟨b11, 0, none⟩) 1 1, [⟨bs [116], 0, 3, .slice none 0 0, []⟩], .slice none 0 0, [], .slice none 0 0, [], .slice none 0 0, [], .slice none 0 0, []⟩
theorem kwTok {H : Hp} {b : Nat} {l : List UInt8} (hl : l.length = 3) (h : H b = some (.cells #[.string (bs l)] 9 (0, 0))) : TkOk H (kwT b l) := by
  refine ⟨⟨rfl, .inr ⟨b, 0, 1, _, _, _, rfl, h, rfl, Nat.le_refl 1⟩⟩, (by show 1 ≤ 1000; omega), fun x hx => ?_⟩
  simp only [kwT, List.mem_singleton] at hx
  subst hx
  show (bs l).size ≤ 4000
  simp [bs, ByteArray.size, hl]
theorem kwStr {H : Hp} {b : Nat} {l : List UInt8} (h : H b = some (.cells #[.string (bs l)] 9 (0, 0))) : StL H (.slice (some ⟨b, 0, none⟩) 1 1) [bs l] := ⟨rfl, .inr ⟨b, 0, 1, _, _, _, rfl, h, rfl, Nat.le_refl 1⟩⟩
def kwL : Ln := ⟨bs [116], 1, [bs [116, 104, 101]], [bs [111, 108, 100]], [bs [109, 97, 110]]⟩
set_option maxHeartbeats 2000000 in
theorem known_fn (H : Hp) : Fn Tryz.prog 19 #[] H (fun u _ => u = .bool true) := by
  refine Fn.of_T (vs := []) Tryz.func19 rfl rfl fun w => ?_
  refine sq ?_
  refine sr ?_
  refine sa ?_
  refine so ?_
  refine sq ?_
  refine sr ?_
  refine sv (PV.build rfl zq12) ?_
  (refine T.buildSlice Wanted.none rfl rfl zq11 (by exact rfl) (by exact rfl) ?_; intro b5)
  (refine T.buildSlice Wanted.none rfl rfl zq11 (by exact rfl) (by exact rfl) ?_; intro b6)
  (refine T.buildSlice Wanted.none rfl rfl zq11 (by exact rfl) (by exact rfl) ?_; intro b7)
  (refine T.buildSlice Wanted.none rfl rfl zq11 (by exact rfl) (by exact rfl) ?_; intro b8)
  (refine T.buildSlice Wanted.none rfl rfl zq11 (by exact rfl) (by exact rfl) ?_; intro b9)
  refine sv (PV.build rfl zq12) ?_
  (refine T.buildSlice Wanted.none rfl rfl zq11 (by exact rfl) (by exact rfl) ?_; intro b11)
  refine sv (PV.build rfl zq12) ?_
  refine sy fun b1 => ?_
  refine T.storeA Wanted.none rfl rfl zq8 (by exact rfl) zq14 zq13 ?_
  refine so ?_
  refine T.freezeB (b := b5) zq1 ?_
  intro H1 l1 k5
  refine T.freezeB (b := b6) zq1 ?_
  intro H2 l2 k6
  refine T.freezeB (b := b7) zq1 ?_
  intro H3 l3 k7
  refine T.freezeB (b := b8) zq1 ?_
  intro H4 l4 k8
  refine T.freezeB (b := b9) zq1 ?_
  intro H5 l5 k9
  refine T.freezeB (b := b11) zq1 ?_
  intro H6 l6 k11
  have k9 := l6 _ _ k9
  have l56 := l5.trans l6
  have k8 := l56 _ _ k8
  have l46 := l4.trans l56
  have k7 := l46 _ _ k7
  have l36 := l3.trans l46
  have k6 := l36 _ _ k6
  have k5 := (l2.trans l36) _ _ k5
  have hc : CpL H6 (kwC b5 b6 b7 b8 b9 b11) := by
    have hnil : ∀ r ∈ [(⟨bs [116], 0, 3, .slice none 0 0, []⟩ : Rg)], RgOk H6 r := fun r hr => by
      rw [List.mem_singleton] at hr; subst hr; exact ⟨SlR.empty, Nat.zero_le _⟩
    refine ⟨⟨rfl, .inr ⟨b5, 0, 1, _, _, _, rfl, k5, rfl, Nat.le_refl 1⟩⟩, ⟨rfl, .inr ⟨b9, 0, 3, _, _, _, rfl, k9, rfl, Nat.le_refl 3⟩⟩, ⟨⟨rfl, .inr ⟨b11, 0, 1, _, _, _, rfl, k11, rfl, Nat.le_refl 1⟩⟩, hnil⟩, ⟨SlR.empty, by intro r hr; cases hr⟩, SlR.empty, SlR.empty, SlR.empty, fun t ht => ?_, ?_, ?_, ?_, ?_, ?_, ?_, ?_⟩
    · simp only [kwC, List.mem_cons, List.not_mem_nil, or_false] at ht
      rcases ht with rfl | rfl | rfl
      · exact kwTok rfl k6
      · exact kwTok rfl k7
      · exact kwTok rfl k8
    all_goals (simp only [kwC, List.length_cons, List.length_nil]; omega)
  have hw : CpW (kwC b5 b6 b7 b8 b9 b11) := by
    refine ⟨fun t ht => ?_, fun t ht => ?_⟩
    · simp only [kwC, List.mem_cons, List.not_mem_nil, or_false] at ht
      rcases ht with rfl | rfl | rfl <;> rfl
    · simp only [kwC, List.mem_singleton] at ht
      subst ht
      exact ⟨by decide, by decide, by show (3 : Int) ≤ 3; omega⟩
  have hmk := make_in (kwC b5 b6 b7 b8 b9 b11) ⟨1, 2, .slice none 0 0, []⟩ 0 5 1 H6 hc hw ⟨SlR.empty, Nat.zero_le _⟩ (Nat.zero_le _)
  have hx : mkO (kwC b5 b6 b7 b8 b9 b11) ⟨1, 2, .slice none 0 0, []⟩ 0 5 1 = (kwL, 0) := rfl
  rw [hx] at hmk
  unfold cpV mtV at hmk
  change Fn _ _ _ _ (fun u H' => ∃ v, u = .tuple #[v, .int .i64 0] ∧ LnR H' v kwL) at hmk
  refine sq ?_
  refine sr ?_
  refine sv (PV.loadAll rfl zq0 (by exact rfl)) ?_
  refine sv (PV.build rfl zq12) ?_
  (refine T.call Wanted.none rfl rfl hmk ?_; rintro _ H7 l7 ⟨_, rfl, v1, v2, v3, rfl, q1, q2, q3⟩; obtain ⟨a1, c1, rfl⟩ := q1.len; obtain ⟨a2, c2, rfl⟩ := q2.len; obtain ⟨a3, c3, rfl⟩ := q3.len)
  refine sm ?_
  refine sv (PV.extract rfl rfl) ?_
  refine sv (PV.extract rfl rfl) ?_
  refine sy fun b2 => ?_
  refine T.storeA Wanted.none rfl rfl zq8 (by exact rfl) zq14 zq13 ?_
  refine sa ?_
  refine so ?_
  refine sq ?_
  refine sr ?_
  refine sm ?_
  refine sv (PV.eql rfl rfl) ?_
  refine sm ?_
  refine gv (PV.loadAll rfl zq0 (by exact rfl)) ?_
  (refine T.buildSlice (Wanted.guard rfl rfl rfl) rfl rfl zq11 (by exact rfl) (by exact rfl) ?_; intro b23)
  (refine T.buildSlice (Wanted.guard rfl rfl rfl) rfl rfl zq11 (by exact rfl) (by exact rfl) ?_; intro b24)
  (refine T.buildSlice (Wanted.guard rfl rfl rfl) rfl rfl zq11 (by exact rfl) (by exact rfl) ?_; intro b25)
  refine gv (PV.build rfl zq12) ?_
  (refine T.freezeB (b := b23) zq1 ?_; intro H8 l8 j1; refine T.freezeB (b := b24) zq1 ?_; intro H9 l9 j2; refine T.freezeB (b := b25) zq1 ?_; intro HA lA j3; have l9A := l9.trans lA; have l8A := l8.trans l9A; refine T.callX (Wanted.guard rfl rfl rfl) rfl rfl (same34 kwL _ _ HA ⟨_, _, _, rfl, q1.mono l8A, q2.mono l8A, q3.mono l8A⟩ ⟨_, _, _, rfl, kwStr (l9A _ _ j1), kwStr (lA _ _ j2), kwStr j3⟩ ⟨by decide, by decide, by decide⟩) ?_; rintro _ rfl)
  refine sT ?_
  refine sa ?_
  refine so ?_
  exact T.retF (Lv.fin (RV.tmp rfl rfl) rfl)
end Go.Proofs.YtlklcjpmfjmenaaGreatDoor
namespace Go.Proofs.YtlklcjpmfjmenaaGreatDoor
open Go.RowKit

theorem key_of_mk3 {l m : List Mt} (h : l.map mk3 = m.map mk3) : l.map keyM = m.map keyM := by
  have hk : ∀ l : List Mt, l.map keyM = (l.map mk3).map fun x => x.1 :: x.2.1 :: x.2.2 := by
    intro l; rw [List.map_map]; rfl
  rw [hk, hk, h]
end Go.Proofs.YtlklcjpmfjmenaaGreatDoor
namespace Go.Proofs.YtlklcjpmfjmenaaGreatDoor
open Go.RowKit

end Go.Proofs.YtlklcjpmfjmenaaGreatDoor
namespace Go.Proofs.YtlklcjpmfjmenaaGreatDoor
open Go.RowKit

theorem tkL_bound {c : Cp} {a i n : Int} (h : 0 ≤ i) (hn : n ≤ 100000) : (tkL c a i (n - i).toNat).length ≤ 100000 := by rw [tkL_len]; omega
theorem lnO_B {c : Cp} {m : Mt} {t : Rg} {a i0 n : Int} (hf : FitP c m t) (hc : c.tk.length ≤ 1000) (h : 0 ≤ i0 ∧ n ≤ c.tk.length) : LnB (lnO c m t a i0 n) := by
  obtain ⟨f1, f2, f3, f4, f5, f6⟩ := hf
  exact ⟨tkL_bound h.1 (by omega), tkL_bound (by omega) (by omega), tkL_bound (by omega) (by omega)⟩
theorem zeroLn_B : LnB zeroLn := ⟨Nat.zero_le _, Nat.zero_le _, Nat.zero_le _⟩
theorem mkO_B {c : Cp} (hc : c.tk.length ≤ 1000) (hw : CpW c) (m : Mt) (a l r : Int) : LnB (mkO c m a l r).1 := by
  unfold mkO
  split
  · exact zeroLn_B
  · rename_i h
    cases hf : fitO c m with
    | none => exact zeroLn_B
    | some t =>
      have hp := fitP hw hf
      exact lnO_B hp hc ⟨by have := hp.t0; omega, by have := hp.tn; omega⟩
end Go.Proofs.YtlklcjpmfjmenaaGreatDoor
