/- features: sets of features.
   a condition on a feature: checked.
   any corpus in memory: texts, tokens. -/
import Derived.Lib.Bytealg
import Derived.Test.YtclepckalliajaaGreatDoorGB
namespace Go.Proofs.YtclepckalliajaaGreatDoor
open Go.RowKit


theorem u8_ne {c : UInt8} {n : Int} (d : UInt8) (hd : (d.toNat : Int) = n) (h : (c.toNat : Int) ≠ n) : c ≠ d := by rintro rfl; exact h hd
theorem u8_eq {c : UInt8} {n : Int} (d : UInt8) (hd : (d.toNat : Int) = n) (h : ¬ (c.toNat : Int) ≠ n) : c = d := UInt8.toNat_inj.1 (by omega)
/-- the parts of a set, from place i on; f: where the part begins -/
def splitF (s : ByteArray) : Nat → Nat → Nat → List ByteArray → Option (List ByteArray)
  | 0, _, _, l => some l
  | n + 1, i, f, l => if s.data.toList[i]? = some 124 then (if i = f then none else splitF s n (i + 1) (i + 1) (l ++ [s.extract f i])) else splitF s n (i + 1) f l
def geB (a b : ByteArray) : Bool := !(Op.bytesLess a.data.toList b.data.toList)
def badF (l : List ByteArray) (j : Nat) : Prop := ∃ a b, l[j - 1]? = some a ∧ l[j]? = some b ∧ geB a b = true
def ascF (l : List ByteArray) : Prop := ∀ j, 1 ≤ j → ¬ badF l j
noncomputable def ascIf (l : List ByteArray) : Option (List ByteArray) := match Classical.propDecidable (ascF l) with
  | .isTrue _ => some l
  | .isFalse _ => none
theorem ascIf_pos {l : List ByteArray} (h : ascF l) : ascIf l = some l := by
  unfold ascIf
  cases Classical.propDecidable (ascF l) with
  | isTrue _ => rfl
  | isFalse h' => exact absurd h h'
theorem ascIf_neg {l : List ByteArray} (h : ¬ ascF l) : ascIf l = none := by
  unfold ascIf
  cases Classical.propDecidable (ascF l) with
  | isTrue h' => exact absurd h' h
  | isFalse _ => rfl
noncomputable def parseF (s : ByteArray) : Option (List ByteArray) :=
  if vvE s ≠ 0 then none else if s = ⟨#[124]⟩ then some [] else if s.size < 2 ∨ s.data.toList[0]? ≠ some 124 ∨ s.data.toList[s.size - 1]? ≠ some 124 then none
  else match splitF s (s.size - 1) 1 1 [] with
    | none => none
    | some l => ascIf l
def PaR (s : ByteArray) (n : Int) (v : Value) (H : Hp) : Prop := match parseF s with
  | some l => n = 0 ∧ StL H v l ∧ l.length ≤ 120
  | none => n ≠ 0
set_option maxHeartbeats 2000000 in
theorem parseP_fn (s : ByteArray) (H : Hp) : Fn Tryz.prog 17 #[.string s] H (fun u H' => ∃ v n, u = .tuple #[v, .int .i64 n] ∧ PaR s n v H') := by
  refine Fn.of_T (vs := [.string s]) Tryz.func17 rfl rfl fun w => ?_
  have hvv := vv_fn s H
  by_cases h0 : vvE s ≠ 0
  · have hp : parseF s = none := by unfold parseF; rw [if_pos h0]
    refine zs3 ?_; refine sa ?_; refine sa ?_; refine so ?_; refine sq ?_; refine zs3 ?_; refine sm ?_; refine T.callV Wanted.none rfl rfl (hvv) ?_; refine sa ?_; refine zs1 ?_; refine sm ?_; refine sv (PV.neq rfl rfl) ?_; refine so ?_; refine sc rfl (by omega) ?_; refine zs3 ?_; refine sm ?_; refine sa ?_; refine sa ?_; refine so ?_
    exact T.retF (Lv.fin (RV.tmp2 rfl rfl rfl) ⟨_, _, rfl, by unfold PaR; rw [hp]; exact h0⟩)
  have hs : s.size ≤ 120 := vvE_size (by omega)
  by_cases h1 : s = ⟨#[124]⟩
  · have hp : parseF s = some [] := by unfold parseF; rw [if_neg h0, if_pos h1]
    have hd1 : decide (s = ⟨#[124]⟩) = true := decide_eq_true h1
    refine zs3 ?_; refine sa ?_; refine sa ?_; refine so ?_; refine sq ?_; refine zs3 ?_; refine sm ?_; refine T.callV Wanted.none rfl rfl (hvv) ?_; refine sa ?_; refine zs1 ?_; refine sm ?_; refine sv (PV.neq rfl rfl) ?_; refine so ?_; refine sd rfl (by omega) ?_; refine T.skip ?_; refine sq ?_; refine zs3 ?_; refine sm ?_; refine sv (PV.seql rfl rfl) ?_; refine so ?_; refine T.condT rfl (by assumption) ?_; refine zs3 ?_; refine sa ?_; refine sa ?_; refine so ?_
    exact T.retF (Lv.fin (RV.tmp2 rfl rfl rfl) ⟨_, _, rfl, by unfold PaR; rw [hp]; exact ⟨rfl, SlR.empty, Nat.zero_le _⟩⟩)
  have hd1 : decide (s = ⟨#[124]⟩) = false := decide_eq_false h1
  have hbad : (s.size < 2 ∨ s.data.toList[0]? ≠ some 124 ∨ s.data.toList[s.size - 1]? ≠ some 124) → parseF s = none := fun h => by unfold parseF; rw [if_neg h0, if_neg h1, if_pos h]
  by_cases h2 : s.size < 2
  · refine zs3 ?_; refine sa ?_; refine sa ?_; refine so ?_; refine sq ?_; refine zs3 ?_; refine sm ?_; refine T.callV Wanted.none rfl rfl (hvv) ?_; refine sa ?_; refine zs1 ?_; refine sm ?_; refine sv (PV.neq rfl rfl) ?_; refine so ?_; refine sd rfl (by omega) ?_; refine T.skip ?_; refine sq ?_; refine zs3 ?_; refine sm ?_; refine sv (PV.seql rfl rfl) ?_; refine so ?_; refine T.condF rfl (by assumption) ?_; refine T.skip ?_; refine sq ?_; refine zs3 ?_; refine sm ?_; refine sv (PV.lenStr rfl) ?_; refine sv (PV.lss rfl rfl) ?_; refine sm ?_; refine T.setT (d := 19) rfl (by omega) ?_; refine sp ?_; refine sp ?_; refine sp ?_; refine sT ?_; refine sm ?_; refine sp ?_; refine sp ?_; refine sp ?_; refine sp ?_; refine sp ?_; refine sp ?_
    refine sT ?_; refine so ?_; refine T.condT rfl rfl ?_; refine zs3 ?_; refine sa ?_; refine sa ?_; refine so ?_
    exact T.retF (Lv.fin (RV.tmp2 rfl rfl rfl) ⟨_, _, rfl, by unfold PaR; rw [hbad (.inl h2)]; exact (by decide : (3 : Int) ≠ 0)⟩)
  obtain ⟨c0, hc0⟩ := byteAt (s := s) (i := 0) (by omega)
  have hc0' : s.data.toList[(0 : Int).toNat]? = some c0 := hc0
  obtain ⟨c1, hc1⟩ := byteAt (s := s) (i := s.size - 1) (by omega)
  have hc1' : s.data.toList[((s.size : Int) - 1).toNat]? = some c1 := by rw [← hc1]; congr 1; omega
  by_cases h3 : (c0.toNat : Int) ≠ 124
  · refine zs3 ?_; refine sa ?_; refine sa ?_; refine so ?_; refine sq ?_; refine zs3 ?_; refine sm ?_; refine T.callV Wanted.none rfl rfl (hvv) ?_; refine sa ?_; refine zs1 ?_; refine sm ?_; refine sv (PV.neq rfl rfl) ?_; refine so ?_; refine sd rfl (by omega) ?_; refine T.skip ?_; refine sq ?_; refine zs3 ?_; refine sm ?_; refine sv (PV.seql rfl rfl) ?_; refine so ?_; refine T.condF rfl (by assumption) ?_; refine T.skip ?_; refine sq ?_; refine zs3 ?_; refine sm ?_; refine sv (PV.lenStr rfl) ?_; refine sv (PV.lss rfl rfl) ?_; refine sm ?_; refine T.setF (d := 19) rfl (by omega) ?_; refine gm ?_; refine gv (PV.indexStr rfl rfl (by omega) (by assumption)) ?_; refine gv (PV.neq rfl rfl) ?_; refine sF ?_; refine sm ?_; refine T.setT (d := 24) rfl (by omega) ?_; refine sp ?_; refine sp ?_; refine sp ?_; refine sp ?_; refine sp ?_
    refine sp ?_; refine sT ?_; refine so ?_; refine T.condT rfl rfl ?_; refine zs3 ?_; refine sa ?_; refine sa ?_; refine so ?_
    exact T.retF (Lv.fin (RV.tmp2 rfl rfl rfl) ⟨_, _, rfl, by unfold PaR; rw [hbad (.inr (.inl (by rw [hc0]; simpa using u8_ne 124 rfl h3)))]; exact (by decide : (3 : Int) ≠ 0)⟩)
  by_cases h4 : (c1.toNat : Int) ≠ 124
  · refine zs3 ?_; refine sa ?_; refine sa ?_; refine so ?_; refine sq ?_; refine zs3 ?_; refine sm ?_; refine T.callV Wanted.none rfl rfl (hvv) ?_; refine sa ?_; refine zs1 ?_; refine sm ?_; refine sv (PV.neq rfl rfl) ?_; refine so ?_; refine sd rfl (by omega) ?_; refine T.skip ?_; refine sq ?_; refine zs3 ?_; refine sm ?_; refine sv (PV.seql rfl rfl) ?_; refine so ?_; refine T.condF rfl (by assumption) ?_; refine T.skip ?_; refine sq ?_; refine zs3 ?_; refine sm ?_; refine sv (PV.lenStr rfl) ?_; refine sv (PV.lss rfl rfl) ?_; refine sm ?_; refine T.setF (d := 19) rfl (by omega) ?_; refine gm ?_; refine gv (PV.indexStr rfl rfl (by omega) (by assumption)) ?_; refine gv (PV.neq rfl rfl) ?_; refine sF ?_; refine sm ?_; refine T.setF (d := 24) rfl (by omega) ?_; refine gm ?_; refine gm ?_; refine gv (PV.lenStr rfl) ?_; refine gv (PV.sub rfl rfl (by omega)) ?_; refine gv (PV.indexStr rfl rfl (by omega) (by assumption)) ?_
    refine gv (PV.neq rfl rfl) ?_; refine sF ?_; refine so ?_; refine sc rfl (by omega) ?_; refine zs3 ?_; refine sa ?_; refine sa ?_; refine so ?_
    exact T.retF (Lv.fin (RV.tmp2 rfl rfl rfl) ⟨_, _, rfl, by unfold PaR; rw [hbad (.inr (.inr (by rw [hc1]; simpa using u8_ne 124 rfl h4)))]; exact (by decide : (3 : Int) ≠ 0)⟩)
  have hp : parseF s = match splitF s (s.size - 1) 1 1 [] with
    | none => none
    | some l => ascIf l := by
    unfold parseF
    rw [if_neg h0, if_neg h1, if_neg]
    rw [hc0, hc1, u8_eq 124 rfl h3, u8_eq 124 rfl h4]
    simp; omega
  refine zs3 ?_; refine sa ?_; refine sa ?_; refine so ?_; refine sq ?_; refine zs3 ?_; refine sm ?_; refine T.callV Wanted.none rfl rfl (hvv) ?_; refine sa ?_; refine zs1 ?_; refine sm ?_; refine sv (PV.neq rfl rfl) ?_; refine so ?_; refine sd rfl (by omega) ?_; refine T.skip ?_; refine sq ?_; refine zs3 ?_; refine sm ?_; refine sv (PV.seql rfl rfl) ?_; refine so ?_; refine T.condF rfl (by assumption) ?_; refine T.skip ?_; refine sq ?_; refine zs3 ?_; refine sm ?_; refine sv (PV.lenStr rfl) ?_; refine sv (PV.lss rfl rfl) ?_; refine sm ?_; refine T.setF (d := 19) rfl (by omega) ?_; refine gm ?_; refine gv (PV.indexStr rfl rfl (by omega) (by assumption)) ?_; refine gv (PV.neq rfl rfl) ?_; refine sF ?_; refine sm ?_; refine T.setF (d := 24) rfl (by omega) ?_; refine gm ?_; refine gm ?_; refine gv (PV.lenStr rfl) ?_; refine gv (PV.sub rfl rfl (by omega)) ?_; refine gv (PV.indexStr rfl rfl (by omega) (by assumption)) ?_
  refine gv (PV.neq rfl rfl) ?_; refine sF ?_; refine so ?_; refine sd rfl (by omega) ?_; refine T.skip ?_; refine zs3 ?_; refine sa ?_; refine so ?_; refine sq ?_; refine zs3 ?_; refine sa ?_; refine sa ?_; refine so ?_; refine T.block ?_; refine T.loopK [(0, Value.string s)] zq8 (γ := PaG) (fun g => g.f ≤ g.i ∧ 1 ≤ g.i ∧ g.i ≤ s.size ∧ RowV 9 encT 1 g.v g.lv g.l ∧ g.l.length ≤ g.i - 1 ∧ splitF s (s.size - g.i) g.i g.f g.l = splitF s (s.size - 1) 1 1 []) (fun g => [(7, .int .i64 (g.i : Int)), (6, .int .i64 (g.f : Int)), (5, g.v)]) (fun g => g.lv) (fun _ => H) (fun g => s.size - g.i) ⟨1, 1, .slice none 0 0, [], []⟩ ⟨by simp, by simp, by dsimp only; omega, Vec.nil _ _, by simp, rfl⟩ zq8 (by repeat (first | exact Sel.refl _ | exact Sel.nil | (refine Sel.cons zq1 ?_) | (refine Sel.app zq1 ?_) | exact Sel.one zq1)) rfl ?_
  rintro ⟨i, f, v, lv, l⟩ ⟨g1, g0, g2, g3, g4, g5⟩
  dsimp only at g1 g0 g2 g3 g4 g5 ⊢
  obtain ⟨ad, cap, rfl⟩ := g3.val
  by_cases hi : i < s.size
  · obtain ⟨c, hc⟩ := byteAt hi
    have hc' : s.data.toList[((i : Nat) : Int).toNat]? = some c := by rw [Int.toNat_natCast]; exact hc
    obtain ⟨m, hm⟩ : ∃ m, s.size - i = m + 1 := ⟨s.size - i - 1, by omega⟩
    have hm2 : s.size - (i + 1) = m := by omega
    rw [hm, splitF, hc] at g5
    by_cases h5 : (c.toNat : Int) ≠ 124
    · rw [if_neg (by simpa using u8_ne 124 rfl h5)] at g5
      refine sq ?_; refine zs3 ?_; refine sm ?_; refine sm ?_; refine sv (PV.lenStr rfl) ?_; refine sv (PV.lss rfl rfl) ?_; refine so ?_; refine sc rfl (by omega) ?_; refine T.skip ?_; refine sq ?_; refine T.block ?_; refine sq ?_; refine zs3 ?_; refine sm ?_; refine sm ?_; refine sv (PV.indexStr rfl rfl (by omega) (by assumption)) ?_; refine sv (PV.neq rfl rfl) ?_; refine so ?_; refine sc rfl (by omega) ?_; refine T.exit rfl ?_; refine sr ?_; refine sm ?_; refine sv (PV.add rfl rfl (by omega)) ?_; refine sa ?_; refine so ?_
      exact T.nextP ⟨i + 1, f, _, lv, l⟩ ⟨by dsimp only; omega, by dsimp only; omega, by dsimp only; omega, g3, by dsimp only; omega, by dsimp only; rw [hm2]; exact g5⟩ (by dsimp only; omega) zq8 (by repeat (first | exact Sel.refl _ | exact Sel.nil | (refine Sel.cons zq1 ?_) | (refine Sel.app zq1 ?_) | exact Sel.one zq1)) rfl
    · rw [if_pos (by rw [u8_eq 124 rfl h5])] at g5
      by_cases h6 : i = f
      · rw [if_pos h6] at g5
        refine sq ?_; refine zs3 ?_; refine sm ?_; refine sm ?_; refine sv (PV.lenStr rfl) ?_; refine sv (PV.lss rfl rfl) ?_; refine so ?_; refine sc rfl (by omega) ?_; refine T.skip ?_; refine sq ?_; refine T.block ?_; refine sq ?_; refine zs3 ?_; refine sm ?_; refine sm ?_; refine sv (PV.indexStr rfl rfl (by omega) (by assumption)) ?_; refine sv (PV.neq rfl rfl) ?_; refine so ?_; refine sd rfl (by omega) ?_; refine T.skip ?_; refine sq ?_; refine zs3 ?_; refine sm ?_; refine sm ?_; refine sv (PV.eql rfl rfl) ?_; refine so ?_; refine sc rfl (by omega) ?_; refine zs3 ?_; refine sa ?_; refine sa ?_; refine so ?_
        exact T.retF (Lv.fin (RV.tmp2 rfl rfl rfl) ⟨_, _, rfl, by unfold PaR; rw [hp, ← g5]; exact (by decide : (3 : Int) ≠ 0)⟩)
      · rw [if_neg h6] at g5
        refine sq ?_; refine zs3 ?_; refine sm ?_; refine sm ?_; refine sv (PV.lenStr rfl) ?_; refine sv (PV.lss rfl rfl) ?_; refine so ?_; refine sc rfl (by omega) ?_; refine T.skip ?_; refine sq ?_; refine T.block ?_; refine sq ?_; refine zs3 ?_; refine sm ?_; refine sm ?_; refine sv (PV.indexStr rfl rfl (by omega) (by assumption)) ?_; refine sv (PV.neq rfl rfl) ?_; refine so ?_; refine sd rfl (by omega) ?_; refine T.skip ?_; refine sq ?_; refine zs3 ?_; refine sm ?_; refine sm ?_; refine sv (PV.eql rfl rfl) ?_; refine so ?_; refine sd rfl (by omega) ?_; refine T.skip ?_; refine zs3 ?_; refine sm ?_; refine sm ?_; refine sm ?_; refine sm ?_; refine sv (PV.sliceStr rfl rfl rfl (by omega)) ?_; (refine T.buildSlice Wanted.none rfl rfl zq11 (by exact rfl) (by exact rfl) ?_; intro b50); (refine T.appendP (lv := lv) Wanted.none rfl rfl rfl g3 (Src.cells (m := 1) (ys := encT _) (.own zq2) rfl rfl) (one_encT _) (by omega) zq1 ?_; intro v51 lv51 hv51 _); refine sa ?_; refine zs2 ?_; refine sm ?_; refine sv (PV.add rfl rfl (by omega)) ?_
        refine sa ?_; refine so ?_; refine T.blkEnd ?_; refine sr ?_; refine sm ?_; refine sv (PV.add rfl rfl (by omega)) ?_; refine sa ?_; refine so ?_
        exact T.nextP ⟨i + 1, i + 1, v51, lv51, _⟩ ⟨by dsimp only; omega, by dsimp only; omega, by dsimp only; omega, RowV.snoc hv51, by rw [List.length_append]; simp only [List.length_singleton]; omega, by dsimp only; rw [hm2]; exact g5⟩ (by dsimp only; omega) zq8 (by repeat (first | exact Sel.refl _ | exact Sel.nil | (refine Sel.cons zq1 ?_) | (refine Sel.app zq1 ?_) | exact Sel.one zq1)) rfl
  · obtain rfl : i = s.size := by omega
    rw [Nat.sub_self, splitF] at g5
    rw [← g5] at hp
    dsimp only at hp
    refine sq ?_; refine zs3 ?_; refine sm ?_; refine sm ?_; refine sv (PV.lenStr rfl) ?_; refine sv (PV.lss rfl rfl) ?_; refine so ?_; refine sd rfl (by omega) ?_; refine T.exit rfl ?_; refine sq ?_; refine zs3 ?_; refine sa ?_; refine so ?_; refine T.block ?_; refine T.loopK [(5, Value.slice ad l.length cap)] zq8 (γ := Nat) (fun i => 1 ≤ i ∧ ∀ j, 1 ≤ j → j < i → ¬ badF l j) (fun i => [(8, .int .i64 (i : Int))]) (fun _ => lv) (fun _ => H) (fun i => l.length - i) 1 ⟨Nat.le_refl 1, fun _ _ _ => by omega⟩ zq8 (by repeat (first | exact Sel.refl _ | exact Sel.nil | (refine Sel.cons zq1 ?_) | (refine Sel.app zq1 ?_) | exact Sel.one zq1)) rfl ?_
    rintro j ⟨hj0, hj1⟩
    by_cases hj : j < l.length
    · obtain ⟨b, capb, hve⟩ := g3.ptr (by omega)
      injection hve with e1 e2 e3
      subst e1 e3
      obtain ⟨s1, hs0, hs2, hs1⟩ := flat_at (f := fun s : ByteArray => Value.string s) (l := l) (n := (j : Int)) (by omega)
      obtain ⟨s2, hs3, hs5, hs4⟩ := flat_at (f := fun s : ByteArray => Value.string s) (l := l) (n := (j : Int) - 1) (by omega)
      rw [Int.toNat_natCast] at hs2
      rw [show ((j : Int) - 1).toNat = j - 1 by omega] at hs5
      cases hg : Op.bytesLess s2.data.toList s1.data.toList
      · refine sq ?_; refine zs3 ?_; refine sm ?_; refine sm ?_; refine sv (PV.lenSl rfl) ?_; refine sv (PV.lss rfl rfl) ?_; refine so ?_; refine sc rfl (by omega) ?_; refine T.skip ?_; refine sq ?_; refine T.block ?_; refine sq ?_; refine T.regionQ (by kernel_rfl) ?_; refine TQ.pv (PV.move rfl) Wanted.none rfl rfl ?_; refine TQ.pv (PV.move rfl) Wanted.none rfl rfl ?_; refine TQ.pv (PV.sub rfl rfl (by omega)) Wanted.none rfl rfl ?_; refine TQ.pv (PV.indexAddr rfl rfl (by omega)) Wanted.none rfl rfl ?_; refine TQ.pv (PV.loadVec rfl (by assumption) zq4 (by assumption)) Wanted.none rfl rfl ?_; refine TQ.pv (PV.move rfl) Wanted.none rfl rfl ?_; refine TQ.pv (PV.move rfl) Wanted.none rfl rfl ?_; refine TQ.pv (PV.indexAddr rfl rfl (by omega)) Wanted.none rfl rfl ?_; refine TQ.pv (PV.loadVec rfl (by assumption) zq4 (by assumption)) Wanted.none rfl rfl ?_; refine TQ.pv (PV.sgeq rfl rfl) Wanted.none rfl rfl ?_; refine TQ.nil ?_; refine T.condT rfl (by rw [hg]; rfl) ?_; refine zs3 ?_; refine sa ?_; refine sa ?_; refine so ?_
        refine T.retF (Lv.fin (RV.tmp2 rfl rfl rfl) ⟨_, _, rfl, ?_⟩)
        unfold PaR
        rw [hp, ascIf_neg (fun h => h j hj0 ⟨s2, s1, hs5, hs2, by unfold geB; rw [hg]; rfl⟩)]
        exact (by decide : (6 : Int) ≠ 0)
      · refine sq ?_; refine zs3 ?_; refine sm ?_; refine sm ?_; refine sv (PV.lenSl rfl) ?_; refine sv (PV.lss rfl rfl) ?_; refine so ?_; refine sc rfl (by omega) ?_; refine T.skip ?_; refine sq ?_; refine T.block ?_; refine sq ?_; refine T.regionQ (by kernel_rfl) ?_; refine TQ.pv (PV.move rfl) Wanted.none rfl rfl ?_; refine TQ.pv (PV.move rfl) Wanted.none rfl rfl ?_; refine TQ.pv (PV.sub rfl rfl (by omega)) Wanted.none rfl rfl ?_; refine TQ.pv (PV.indexAddr rfl rfl (by omega)) Wanted.none rfl rfl ?_; refine TQ.pv (PV.loadVec rfl (by assumption) zq4 (by assumption)) Wanted.none rfl rfl ?_; refine TQ.pv (PV.move rfl) Wanted.none rfl rfl ?_; refine TQ.pv (PV.move rfl) Wanted.none rfl rfl ?_; refine TQ.pv (PV.indexAddr rfl rfl (by omega)) Wanted.none rfl rfl ?_; refine TQ.pv (PV.loadVec rfl (by assumption) zq4 (by assumption)) Wanted.none rfl rfl ?_; refine TQ.pv (PV.sgeq rfl rfl) Wanted.none rfl rfl ?_; refine TQ.nil ?_; refine T.condF rfl (by rw [hg]; rfl) ?_; refine T.skip ?_; refine T.blkEnd ?_; refine sr ?_; refine sm ?_; refine sv (PV.add rfl rfl (by omega)) ?_; refine sa ?_; refine so ?_
        refine T.nextP (j + 1) ⟨by omega, fun k hk1 hk2 => ?_⟩ (by omega) zq8 (by repeat (first | exact Sel.refl _ | exact Sel.nil | (refine Sel.cons zq1 ?_) | (refine Sel.app zq1 ?_) | exact Sel.one zq1)) rfl
        by_cases hkk : k < j
        · exact hj1 k hk1 hkk
        · obtain rfl : k = j := by omega
          rintro ⟨a, b, ha, hb, hab⟩
          rw [hs5] at ha; rw [hs2] at hb
          cases ha; cases hb
          unfold geB at hab
          rw [hg] at hab; cases hab
    · have hasc : ascF l := fun k hk => by
        by_cases hkk : k < j
        · exact hj1 k hk hkk
        · rintro ⟨a, b, ha, hb, _⟩
          have := (List.getElem?_eq_some_iff.1 hb).1
          omega
      rw [ascIf_pos hasc] at hp
      refine sq ?_; refine zs3 ?_; refine sm ?_; refine sm ?_; refine sv (PV.lenSl rfl) ?_; refine sv (PV.lss rfl rfl) ?_; refine so ?_; refine sd rfl (by omega) ?_; refine T.exit rfl ?_; refine zs3 ?_; refine sm ?_; refine sa ?_; refine sa ?_; refine so ?_; refine T.freezeP (lv := lv) g3 zq1 ?_
      intro Ha hla hsa
      exact T.retF (Lv.fin (RV.tmp2 rfl rfl rfl) ⟨_, _, rfl, by unfold PaR; rw [hp]; exact ⟨rfl, hsa, by omega⟩⟩)
theorem containsP_fn (l : List ByteArray) (v : Value) (f : ByteArray) (H : Hp) (hv : StL H v l) (hl : l.length ≤ 120) : Fn Tryz.prog 18 #[v, .string f] H (fun u _ => u = .bool (l.any fun x => decide (x = f))) := by
  obtain ⟨ad, cap, rfl⟩ := hv.len
  refine Fn.of_T (vs := [.slice ad l.length cap, .string f]) Tryz.func18 rfl rfl fun w => ?_; refine zs3 ?_; refine sa ?_; refine so ?_; refine sq ?_; refine zs3 ?_; refine sm ?_; refine sv (PV.lenSl rfl) ?_; refine sm ?_; refine so ?_; refine T.block ?_; refine T.loopC [(8, Value.int IntKind.i64 (↑l.length : Int)), (7, Value.slice ad l.length cap), (1, Value.string f)] zq8 9 l.length (fun i => (l.take i).any (fun x => decide (x = f)) = false) rfl rfl ?_
  rintro i ⟨hi0, hi1⟩
  by_cases hi : i < l.length
  · obtain ⟨b, off, x, rfl, hix, hsub⟩ := RowL.get encT_len hv hi
    unfold encT at hsub
    have hst : (l.take (i + 1)).any (fun x => decide (x = f)) = decide (x = f) := by rw [List.take_add_one, hix, List.any_append, hi1]; simp
    by_cases hxf : x = f
    · have hd : decide (x = f) = true := decide_eq_true hxf
      refine zs3 ?_; refine sv (PV.lss rfl rfl) ?_; refine so ?_; refine sq ?_; refine sc rfl (by omega) ?_; refine T.skip ?_; refine sq ?_; refine T.block ?_; refine zs3 ?_; refine sv (PV.indexAddr rfl rfl (by omega)) ?_; refine sv (PV.loadSub0 rfl (by assumption)) ?_; refine sa ?_; refine zs1 ?_; refine sm ?_; refine sm ?_; refine sv (PV.seql rfl rfl) ?_; refine so ?_; refine T.condT rfl (by assumption) ?_; refine zs3 ?_; refine sa ?_; refine so ?_
      refine T.retF (Lv.fin (RV.tmp rfl rfl) ?_)
      congr 1
      symm
      exact List.any_eq_true.2 ⟨x, List.mem_of_getElem? hix, hd⟩
    · have hd : decide (x = f) = false := decide_eq_false hxf
      refine zs3 ?_; refine sv (PV.lss rfl rfl) ?_; refine so ?_; refine sq ?_; refine sc rfl (by omega) ?_; refine T.skip ?_; refine sq ?_; refine T.block ?_; refine zs3 ?_; refine sv (PV.indexAddr rfl rfl (by omega)) ?_; refine sv (PV.loadSub0 rfl (by assumption)) ?_; refine sa ?_; refine zs1 ?_; refine sm ?_; refine sm ?_; refine sv (PV.seql rfl rfl) ?_; refine so ?_; refine T.condF rfl (by assumption) ?_; refine T.skip ?_; refine T.blkEnd ?_; refine sr ?_; refine sv (PV.add rfl rfl (by omega)) ?_; refine sm ?_; refine so ?_
      exact T.nextC hi (hst.trans hd) rfl zq8 (by repeat (first | exact Sel.refl _ | exact Sel.nil | (refine Sel.cons zq1 ?_) | (refine Sel.app zq1 ?_) | exact Sel.one zq1))
  · rw [List.take_of_length_le (by omega)] at hi1
    refine zs3 ?_; refine sv (PV.lss rfl rfl) ?_; refine so ?_; refine sq ?_; refine sd rfl (by omega) ?_; refine T.exit rfl ?_; refine zs3 ?_; refine sa ?_; refine so ?_
    exact T.retF (Lv.fin (RV.tmp rfl rfl) (by rw [hi1]))
/-- whether a set has a feature -/
noncomputable def hasB (s f : ByteArray) : Bool := match parseF s with
  | some l => l.any fun x => decide (x = f)
  | none => false
theorem has_fn (s f : ByteArray) (H : Hp) : Fn Tryz.prog 8 #[.string s, .string f] H (fun u _ => u = .bool (hasB s f)) := by
  refine Fn.of_T (vs := [.string s, .string f]) Tryz.func8 rfl rfl fun w => ?_; refine zs3 ?_; refine sa ?_; refine zs1 ?_; refine sm ?_; refine T.call Wanted.none rfl rfl (parseP_fn s H) ?_
  rintro _ H1 hH1 ⟨v, n, rfl, hp⟩
  unfold PaR at hp
  unfold hasB
  cases hpf : parseF s with
  | none =>
    rw [hpf] at hp
    dsimp only at hp ⊢
    refine sm ?_; refine sv (PV.extract rfl rfl) ?_; refine sv (PV.extract rfl rfl) ?_; refine sa ?_; refine sa ?_; refine zs1 ?_; refine sm ?_; refine sv (PV.eql rfl rfl) ?_; refine sm ?_; refine T.setF (d := 14) rfl (by omega) ?_; refine sp ?_; refine sp ?_; refine sp ?_; refine sF ?_; refine sa ?_; refine so ?_
    exact T.retF (Lv.fin (RV.tmp rfl rfl) rfl)
  | some l =>
    rw [hpf] at hp
    dsimp only at hp ⊢
    obtain ⟨rfl, hv, hl⟩ := hp
    have hc := containsP_fn l v f H1 hv hl
    refine sm ?_; refine sv (PV.extract rfl rfl) ?_; refine sv (PV.extract rfl rfl) ?_; refine sa ?_; refine sa ?_; refine zs1 ?_; refine sm ?_; refine sv (PV.eql rfl rfl) ?_; refine sm ?_; refine gm ?_; refine gm ?_; refine T.callV (Wanted.guard rfl rfl rfl) rfl rfl (hc) ?_; refine sT ?_; refine sa ?_; refine so ?_
    exact T.retF (Lv.fin (RV.tmp rfl rfl) rfl)

end Go.Proofs.YtclepckalliajaaGreatDoor
namespace Go.Proofs.YtclepckalliajaaGreatDoor
open Go.RowKit


theorem PV.callEx {P : Program} {e : Env} {l : List (Nat × Obj)} {H : Hp} {f : FuncId} {xs : List Operand} {vs : List Value} {v : Value} {ts : Array TypeId} {dst : Option Tmp} {ty : TypeId} {pos : String} {after : Array Edge} {gd : Option (Nat × Bool)} (hv : evL e xs = some vs) (h : ∀ w, (callFunc f vs.toArray).run P w = .ok (.value v) w) :
    PV P e l H ⟨dst, .call ⟨.value (.func f), xs.toArray, ts⟩, ty, pos, after, gd⟩ v := PV.mk fun X D a w ha hw => by
  have := evL_map ha xs vs hv
  have hE' := h w
  simp [execOp, resolve, Act.eval, Deferred.ofValue, invoke, List.map_toArray, this, hE']
theorem idxExt (s : ByteArray) (c : UInt8) (w : World) : (callFunc 154 [Value.string s, .int .u8 (c.toNat : Int)].toArray).run Tryz.prog w = .ok (.value (.int .i64 (Lib.indexByte s.data.toList c))) w := by
  rw [run_callFunc_extern Tryz.func154 (by kernel_rfl) (by kernel_rfl) (by kernel_rfl) (e := Extern.BytealgIndexByte.indexByte) (by kernel_rfl), Lib.run_indexByteString]
  simp
theorem indexByte_fn (s : ByteArray) (c : UInt8) (H : Hp) : Fn Tryz.prog 137 #[.string s, .int .u8 (c.toNat : Int)] H (fun u _ => u = .int .i64 (Lib.indexByte s.data.toList c)) := by
  refine Fn.of_T (vs := [.string s, .int .u8 (c.toNat : Int)]) Tryz.func137 rfl rfl fun w => ?_; refine zs3 ?_; refine sa ?_; refine zs1 ?_; refine sm ?_; refine sm ?_; refine sv (PV.callEx rfl (idxExt s c)) ?_; refine sa ?_; refine so ?_
  exact T.retF (Lv.fin (RV.tmp rfl rfl) rfl)
theorem liteIndex_fn (s t : ByteArray) (c : UInt8) (ht : t = ⟨#[c]⟩) (H : Hp) : Fn Tryz.prog 109 #[.string s, .string t] H (fun u _ => u = .int .i64 (Lib.indexByte s.data.toList c)) := by
  have hsz : t.size = 1 := by rw [ht]; rfl
  have hc : t.data.toList[(0 : Int).toNat]? = some c := by rw [ht]; rfl
  have hd0 : decide ((t.size : Int) = 0) = false := decide_eq_false (by omega)
  have hi := indexByte_fn s c H
  refine Fn.of_T (vs := [.string s, .string t]) Tryz.func109 rfl rfl fun w => ?_
  by_cases hts : t = s
  · have hd1 : decide (t = s) = true := decide_eq_true hts
    have hix : Lib.indexByte s.data.toList c = 0 := by rw [← hts, ht]; show Lib.indexByte [c] c = 0; unfold Lib.indexByte; simp
    refine zs3 ?_; refine sa ?_; refine zs1 ?_; refine sm ?_; refine sv (PV.lenStr rfl) ?_; refine sa ?_; refine so ?_; refine sq ?_; refine T.block ?_; refine zs3 ?_; refine sm ?_; refine sv (PV.eql rfl rfl) ?_; refine sm ?_; refine T.pv (PV.move rfl) (Wanted.guard rfl rfl (by assumption)) rfl rfl ?_; refine T.pv (PV.move rfl) (Wanted.guard rfl rfl (by assumption)) rfl rfl ?_; refine T.pv (PV.seql rfl rfl) (Wanted.guard rfl rfl (by assumption)) rfl rfl ?_; refine sv (PV.pickF rfl (by assumption) rfl) ?_; refine sa ?_; refine so ?_; refine T.condT rfl (by assumption) ?_; refine zs3 ?_; refine sa ?_; refine so ?_
    exact T.retF (Lv.fin (RV.tmp rfl rfl) (by rw [hix]))
  · have hd1 : decide (t = s) = false := decide_eq_false hts
    refine zs3 ?_; refine sa ?_; refine zs1 ?_; refine sm ?_; refine sv (PV.lenStr rfl) ?_; refine sa ?_; refine so ?_; refine sq ?_; refine T.block ?_; refine zs3 ?_; refine sm ?_; refine sv (PV.eql rfl rfl) ?_; refine sm ?_; refine T.pv (PV.move rfl) (Wanted.guard rfl rfl (by assumption)) rfl rfl ?_; refine T.pv (PV.move rfl) (Wanted.guard rfl rfl (by assumption)) rfl rfl ?_; refine T.pv (PV.seql rfl rfl) (Wanted.guard rfl rfl (by assumption)) rfl rfl ?_; refine sv (PV.pickF rfl (by assumption) rfl) ?_; refine sa ?_; refine so ?_; refine T.condF rfl (by assumption) ?_; refine zs3 ?_; refine sm ?_; refine sv (PV.eql rfl rfl) ?_; refine sa ?_; refine so ?_; refine sc rfl (by omega) ?_; refine zs3 ?_; refine sm ?_; refine sm ?_; refine sv (PV.indexStr rfl rfl (by omega) (by assumption)) ?_; refine T.callV Wanted.none rfl rfl (hi) ?_; refine sa ?_; refine so ?_
    exact T.retF (Lv.fin (RV.tmp rfl rfl) rfl)
theorem strIndex_fn (s t : ByteArray) (c : UInt8) (ht : t = ⟨#[c]⟩) (H : Hp) : Fn Tryz.prog 99 #[.string s, .string t] H (fun u _ => u = .int .i64 (Lib.indexByte s.data.toList c)) := by
  have hi := liteIndex_fn s t c ht H
  refine Fn.of_T (vs := [.string s, .string t]) Tryz.func99 rfl rfl fun w => ?_; refine zs3 ?_; refine sa ?_; refine zs1 ?_; refine sm ?_; refine sm ?_; refine T.callV Wanted.none rfl rfl (hi) ?_; refine sa ?_; refine so ?_
  exact T.retF (Lv.fin (RV.tmp rfl rfl) rfl)
theorem strContains_fn (s t : ByteArray) (c : UInt8) (ht : t = ⟨#[c]⟩) (H : Hp) : Fn Tryz.prog 60 #[.string s, .string t] H (fun u _ => u = .bool (decide (0 ≤ Lib.indexByte s.data.toList c))) := by
  have hi := strIndex_fn s t c ht H
  refine Fn.of_T (vs := [.string s, .string t]) Tryz.func60 rfl rfl fun w => ?_; refine zs3 ?_; refine sa ?_; refine zs1 ?_; refine sm ?_; refine sm ?_; refine T.callV Wanted.none rfl rfl (hi) ?_; refine sv (PV.geq rfl rfl) ?_; refine sa ?_; refine so ?_
  exact T.retF (Lv.fin (RV.tmp rfl rfl) rfl)
theorem indexByte_none {l : List UInt8} {c : UInt8} (h : c ∉ l) : Lib.indexByte l c = -1 := by
  induction l with
  | nil => rfl
  | cons a l ih =>
    rw [List.mem_cons, not_or] at h
    unfold Lib.indexByte
    rw [if_neg (by simpa using fun e => h.1 e.symm), ih h.2]
    rfl

end Go.Proofs.YtclepckalliajaaGreatDoor
namespace Go.Proofs.YtclepckalliajaaGreatDoor
open Go.RowKit


theorem withinA_fn (c : Cp) (b e : Int) (H : Hp) (hc : CpA H c) : Fn Tryz.prog 94 #[cpV c, .int .i64 b, .int .i64 e] H (fun u _ => IsB u) := by
  obtain ⟨aa, ca, at1, ct, ax, cx, ar, cr, an, cn, ah, ch, as1, cs, hcv, ha, ht, hx, hr, hn, hh, hs⟩ := hc.open; rw [hcv]; have hla := hc.la; have hlt := hc.lt; have hlx := hc.lx; have hlr := hc.lr; have hln := hc.ln; have hlh := hc.lh; have hls := hc.ls
  refine Fn.of_T (vs := [.agg #[.slice aa c.att.length ca, .slice at1 c.tk.length ct, .slice ax c.tx.length cx, .slice ar c.rg.length cr, .slice an c.nd.length cn, .slice ah c.hd.length ch, .slice as1 c.rl.length cs], .int .i64 b, .int .i64 e]) Tryz.func94 rfl rfl fun w => ?_; refine zs3 ?_; (refine T.box Wanted.none rfl rfl zq15 ?_; intro b3); refine sa ?_; refine so ?_; refine sq ?_; refine zs3 ?_; refine sf ?_; refine sl ?_; refine sv (PV.lenSl rfl) ?_; refine sm ?_; refine so ?_; refine T.block ?_; refine T.loopR [(11, Value.int IntKind.i64 (↑c.tx.length : Int)), (10, Value.slice ax c.tx.length cx), (1, Value.int IntKind.i64 b), (2, Value.int IntKind.i64 e)] zq8 12 c.tx.length rfl ?_
  intro i hi0
  by_cases hi : i < c.tx.length
  · obtain ⟨bx, off, x, rfl, hix, hsub⟩ := RowL.get encRg_len hx.1 hi
    unfold encRg at hsub
    obtain ⟨am, cm, hmv⟩ := (hx.2 x (List.mem_of_getElem? hix)).1.len
    rw [hmv] at hsub
    refine zs3 ?_; refine sv (PV.lss rfl rfl) ?_; refine so ?_; refine sq ?_; refine sc rfl (by omega) ?_; refine T.skip ?_; refine sq ?_; refine T.block ?_; refine zs3 ?_; refine sv (PV.indexAddr rfl rfl (by omega)) ?_; refine sv (PV.loadSubAll rfl (by assumption) (by exact rfl)) ?_; refine sy fun b8 => ?_; refine T.storeA Wanted.none rfl rfl zq8 (by exact rfl) zq14 zq13 ?_; refine zs1 ?_; refine sf ?_; refine sl ?_; refine sm ?_; refine sv (PV.leq rfl rfl) ?_; refine sm ?_
    refine T.splitD (d := 20) rfl (fun h0 => ?_) (fun h0 => ?_)
    · refine gm ?_; refine gm ?_; refine gv (PV.lss rfl rfl) ?_; refine sT ?_; refine sm ?_
      refine T.splitD (d := 25) rfl (fun h1 => ?_) (fun h1 => ?_)
      · refine gm ?_; refine gf ?_; refine gl ?_; refine gv (PV.leq rfl rfl) ?_; refine sT ?_; refine so ?_
        refine T.condD rfl (fun h2 => ?_) (fun h2 => ?_)
        · refine zs3 ?_; refine sa ?_; refine so ?_
          (first | exact T.retF (Lv.fin (RV.tmp rfl rfl) ⟨_, rfl⟩) | exact T.nextR (by omega) rfl zq8 (by repeat (first | exact Sel.refl _ | exact Sel.nil | (refine Sel.cons zq1 ?_) | (refine Sel.app zq1 ?_) | exact Sel.one zq1)))
        · refine T.skip ?_; refine T.blkEnd ?_; refine sr ?_; refine sv (PV.add rfl rfl (by omega)) ?_; refine sm ?_; refine so ?_
          (first | exact T.retF (Lv.fin (RV.tmp rfl rfl) ⟨_, rfl⟩) | exact T.nextR (by omega) rfl zq8 (by repeat (first | exact Sel.refl _ | exact Sel.nil | (refine Sel.cons zq1 ?_) | (refine Sel.app zq1 ?_) | exact Sel.one zq1)))
      · refine sp ?_; refine sp ?_; refine sp ?_; refine sp ?_; refine sF ?_; refine so ?_; refine T.condF rfl rfl ?_; refine T.skip ?_; refine T.blkEnd ?_; refine sr ?_; refine sv (PV.add rfl rfl (by omega)) ?_; refine sm ?_; refine so ?_
        (first | exact T.retF (Lv.fin (RV.tmp rfl rfl) ⟨_, rfl⟩) | exact T.nextR (by omega) rfl zq8 (by repeat (first | exact Sel.refl _ | exact Sel.nil | (refine Sel.cons zq1 ?_) | (refine Sel.app zq1 ?_) | exact Sel.one zq1)))
    · refine sp ?_; refine sp ?_; refine sp ?_; refine sF ?_; refine sm ?_; refine sp ?_; refine sp ?_; refine sp ?_; refine sp ?_; refine sF ?_; refine so ?_; refine T.condF rfl rfl ?_; refine T.skip ?_; refine T.blkEnd ?_; refine sr ?_; refine sv (PV.add rfl rfl (by omega)) ?_; refine sm ?_; refine so ?_
      (first | exact T.retF (Lv.fin (RV.tmp rfl rfl) ⟨_, rfl⟩) | exact T.nextR (by omega) rfl zq8 (by repeat (first | exact Sel.refl _ | exact Sel.nil | (refine Sel.cons zq1 ?_) | (refine Sel.app zq1 ?_) | exact Sel.one zq1)))
  · refine zs3 ?_; refine sv (PV.lss rfl rfl) ?_; refine so ?_; refine sq ?_; refine sd rfl (by omega) ?_; refine T.exit rfl ?_; refine zs3 ?_; refine sa ?_; refine so ?_
    exact T.retF (Lv.fin (RV.tmp rfl rfl) ⟨_, rfl⟩)
theorem textAtA_fn (c : Cp) (p : Int) (H : Hp) (hc : CpA H c) : Fn Tryz.prog 97 #[cpV c, .int .i64 p] H (fun u _ => u = .int .i64 (textOf c.tx p)) := by
  obtain ⟨aa, ca, at1, ct, ax, cx, ar, cr, an, cn, ah, ch, as1, cs, hcv, ha, ht, hx, hr, hn, hh, hs⟩ := hc.open; rw [hcv]; have hla := hc.la; have hlt := hc.lt; have hlx := hc.lx; have hlr := hc.lr; have hln := hc.ln; have hlh := hc.lh; have hls := hc.ls
  refine Fn.of_T (vs := [.agg #[.slice aa c.att.length ca, .slice at1 c.tk.length ct, .slice ax c.tx.length cx, .slice ar c.rg.length cr, .slice an c.nd.length cn, .slice ah c.hd.length ch, .slice as1 c.rl.length cs], .int .i64 p]) Tryz.func97 rfl rfl fun w => ?_; refine zs3 ?_; (refine T.box Wanted.none rfl rfl zq15 ?_; intro b2); refine sa ?_; refine so ?_; refine sq ?_; refine zs3 ?_; refine sf ?_; refine sl ?_; refine sv (PV.lenSl rfl) ?_; refine sm ?_; refine so ?_; refine T.block ?_; refine T.loopC [(9, Value.int IntKind.i64 (↑c.tx.length : Int)), (8, Value.slice ax c.tx.length cx), (1, Value.int IntKind.i64 p)] zq8 10 c.tx.length (fun i => textRec p i (c.tx.drop i) = textOf c.tx p) rfl rfl ?_
  rintro i ⟨hi0, hi1⟩
  by_cases hi : i < c.tx.length
  · obtain ⟨bx, off, x, rfl, hix, hsub⟩ := RowL.get encRg_len hx.1 hi
    unfold encRg at hsub
    obtain ⟨am, cm, hmv⟩ := (hx.2 x (List.mem_of_getElem? hix)).1.len
    rw [hmv] at hsub
    rw [textRec_drop hix] at hi1
    by_cases h1 : x.b ≤ p
    · by_cases h2 : p < x.e
      · rw [if_pos ⟨h1, h2⟩] at hi1
        refine zs3 ?_; refine sv (PV.lss rfl rfl) ?_; refine so ?_; refine sq ?_; refine sc rfl (by omega) ?_; refine T.skip ?_; refine sq ?_; refine T.block ?_; refine zs3 ?_; refine sm ?_; refine sv (PV.indexAddr rfl rfl (by omega)) ?_; refine sv (PV.loadSubAll rfl (by assumption) (by exact rfl)) ?_; refine sy fun b6 => ?_; refine sa ?_; refine T.storeA Wanted.none rfl rfl zq8 (by exact rfl) zq14 zq13 ?_; refine zs1 ?_; refine sf ?_; refine sl ?_; refine sm ?_; refine sv (PV.leq rfl rfl) ?_; refine sm ?_; refine T.setT (d := 19) rfl (by omega) ?_; refine gm ?_; refine gf ?_; refine gl ?_; refine gv (PV.lss rfl rfl) ?_; refine sT ?_; refine so ?_; refine sc rfl (by omega) ?_; refine zs3 ?_; refine sm ?_; refine sa ?_; refine so ?_
        exact T.retF (Lv.fin (RV.tmp rfl rfl) (by rw [← hi1]))
      · rw [if_neg (by omega)] at hi1
        refine zs3 ?_; refine sv (PV.lss rfl rfl) ?_; refine so ?_; refine sq ?_; refine sc rfl (by omega) ?_; refine T.skip ?_; refine sq ?_; refine T.block ?_; refine zs3 ?_; refine sm ?_; refine sv (PV.indexAddr rfl rfl (by omega)) ?_; refine sv (PV.loadSubAll rfl (by assumption) (by exact rfl)) ?_; refine sy fun b6 => ?_; refine sa ?_; refine T.storeA Wanted.none rfl rfl zq8 (by exact rfl) zq14 zq13 ?_; refine zs1 ?_; refine sf ?_; refine sl ?_; refine sm ?_; refine sv (PV.leq rfl rfl) ?_; refine sm ?_; refine T.setT (d := 19) rfl (by omega) ?_; refine gm ?_; refine gf ?_; refine gl ?_; refine gv (PV.lss rfl rfl) ?_; refine sT ?_; refine so ?_; refine sd rfl (by omega) ?_; refine T.skip ?_; refine T.blkEnd ?_; refine sr ?_; refine sv (PV.add rfl rfl (by omega)) ?_; refine sm ?_; refine so ?_
        exact T.nextC hi hi1 rfl zq8 (by repeat (first | exact Sel.refl _ | exact Sel.nil | (refine Sel.cons zq1 ?_) | (refine Sel.app zq1 ?_) | exact Sel.one zq1))
    · rw [if_neg (by omega)] at hi1
      refine zs3 ?_; refine sv (PV.lss rfl rfl) ?_; refine so ?_; refine sq ?_; refine sc rfl (by omega) ?_; refine T.skip ?_; refine sq ?_; refine T.block ?_; refine zs3 ?_; refine sm ?_; refine sv (PV.indexAddr rfl rfl (by omega)) ?_; refine sv (PV.loadSubAll rfl (by assumption) (by exact rfl)) ?_; refine sy fun b6 => ?_; refine sa ?_; refine T.storeA Wanted.none rfl rfl zq8 (by exact rfl) zq14 zq13 ?_; refine zs1 ?_; refine sf ?_; refine sl ?_; refine sm ?_; refine sv (PV.leq rfl rfl) ?_; refine sm ?_; refine T.setF (d := 19) rfl (by omega) ?_; refine sp ?_; refine sp ?_; refine sp ?_; refine sp ?_; refine sF ?_; refine so ?_; refine T.condF rfl rfl ?_; refine T.skip ?_; refine T.blkEnd ?_; refine sr ?_; refine sv (PV.add rfl rfl (by omega)) ?_; refine sm ?_; refine so ?_
      exact T.nextC hi hi1 rfl zq8 (by repeat (first | exact Sel.refl _ | exact Sel.nil | (refine Sel.cons zq1 ?_) | (refine Sel.app zq1 ?_) | exact Sel.one zq1))
  · refine zs3 ?_; refine sv (PV.lss rfl rfl) ?_; refine so ?_; refine sq ?_; refine sd rfl (by omega) ?_; refine T.exit rfl ?_; refine zs3 ?_; refine sa ?_; refine so ?_
    rw [List.drop_of_length_le (by omega), textRec] at hi1
    exact T.retF (Lv.fin (RV.tmp rfl rfl) (by rw [← hi1]))
theorem tokensA_fn (c : Cp) (H : Hp) (hc : CpA H c) : Fn Tryz.prog 51 #[cpV c] H (fun u _ => ∃ n m : Int, u = .tuple #[.int .i64 n, .int .i64 m] ∧ (m = 0 → ∀ t ∈ c.tk, t.ss.length = c.att.length)) := by
  obtain ⟨aa, ca, at1, ct, ax, cx, ar, cr, an, cn, ah, ch, as1, cs, hcv, ha, ht, hx, hr, hn, hh, hs⟩ := hc.open; rw [hcv]; have hla := hc.la; have hlt := hc.lt; have hlx := hc.lx; have hlr := hc.lr; have hln := hc.ln; have hlh := hc.lh; have hls := hc.ls
  refine Fn.of_T (vs := [.agg #[.slice aa c.att.length ca, .slice at1 c.tk.length ct, .slice ax c.tx.length cx, .slice ar c.rg.length cr, .slice an c.nd.length cn, .slice ah c.hd.length ch, .slice as1 c.rl.length cs]]) Tryz.func51 rfl rfl fun w => ?_; refine zs3 ?_; (refine T.box Wanted.none rfl rfl zq15 ?_; intro b1); refine sa ?_; refine sa ?_; refine so ?_; refine sq ?_; refine zs3 ?_; refine sf ?_; refine sl ?_; refine sv (PV.lenSl rfl) ?_; refine sv (PV.gtr rfl rfl) ?_; refine so ?_; refine sd rfl (by omega) ?_; refine T.skip ?_; refine sq ?_; refine zs3 ?_; refine sf ?_; refine sl ?_; refine sv (PV.lenSl rfl) ?_; refine sm ?_; refine so ?_; refine T.block ?_; refine T.loopC [(15, Value.int IntKind.i64 (↑c.tk.length : Int)), (14, Value.slice at1 c.tk.length ct), (1, Value.pointer (some { block := b1, off := 0 }))] zq8 16 c.tk.length (fun i => ∀ (j : Nat) (t : Tk), j < i → c.tk[j]? = some t → t.ss.length = c.att.length) (fun _ _ h => absurd h (by omega)) rfl ?_
  rintro i ⟨hi0, hd⟩
  by_cases hi : i < c.tk.length
  · obtain ⟨bx, off, x, rfl, hix, hsub⟩ := RowL.get encTk_len ht hi
    unfold encTk at hsub
    have hxo := hc.tO x (List.mem_of_getElem? hix)
    obtain ⟨v, ss⟩ := x
    obtain ⟨as2, cs2, hve⟩ := hxo.1.len
    dsimp only at hve
    subst hve
    dsimp only at hsub
    by_cases h1 : ss.length ≠ c.att.length
    · refine zs3 ?_; refine sv (PV.lss rfl rfl) ?_; refine so ?_; refine sq ?_; refine sc rfl (by omega) ?_; refine T.skip ?_; refine sq ?_; refine T.block ?_; refine zs3 ?_; refine sm ?_; refine sv (PV.indexAddr rfl rfl (by omega)) ?_; refine sv (PV.loadSub0 rfl (by assumption)) ?_; refine sa ?_; refine sa ?_; refine so ?_; refine sq ?_; refine zs3 ?_; refine sm ?_; refine sv (PV.lenSl rfl) ?_; refine sf ?_; refine sl ?_; refine sv (PV.lenSl rfl) ?_; refine sv (PV.neq rfl rfl) ?_; refine so ?_; refine sc rfl (by omega) ?_; refine zs3 ?_; refine sm ?_; refine sa ?_; refine sa ?_; refine so ?_
      exact T.retF (Lv.fin (RV.tmp2 rfl rfl rfl) ⟨_, _, rfl, fun h => by cases h⟩)
    refine zs3 ?_; refine sv (PV.lss rfl rfl) ?_; refine so ?_; refine sq ?_; refine sc rfl (by omega) ?_; refine T.skip ?_; refine sq ?_; refine T.block ?_; refine zs3 ?_; refine sm ?_; refine sv (PV.indexAddr rfl rfl (by omega)) ?_; refine sv (PV.loadSub0 rfl (by assumption)) ?_; refine sa ?_; refine sa ?_; refine so ?_; refine sq ?_; refine zs3 ?_; refine sm ?_; refine sv (PV.lenSl rfl) ?_; refine sf ?_; refine sl ?_; refine sv (PV.lenSl rfl) ?_; refine sv (PV.neq rfl rfl) ?_; refine so ?_; refine sd rfl (by omega) ?_; refine T.skip ?_; refine zs3 ?_; refine sm ?_; refine sv (PV.lenSl rfl) ?_; refine sm ?_; refine so ?_; refine T.block ?_; refine T.loopR [(29, Value.int IntKind.i64 (↑ss.length : Int)), (28, Value.slice as2 ss.length cs2), (4, Value.int IntKind.i64 (↑i : Int)), (16, Value.int IntKind.i64 (↑i : Int)), (15, Value.int IntKind.i64 (↑c.tk.length : Int)), (14, Value.slice (some { block := bx, off := off }) c.tk.length ct), (1, Value.pointer (some { block := b1, off := 0 }))] zq8 30 ss.length rfl ?_
    intro j hj0
    by_cases hj : j < ss.length
    · obtain ⟨by', offy, s, rfl, his, hsubs⟩ := RowL.get encT_len hxo.1 hj
      obtain ⟨ba, offa, ⟨nm, st⟩, rfl, hia, hsuba⟩ := RowL.get encAt_len ha (i := j) (by omega)
      unfold encT at hsubs
      unfold encAt at hsuba
      have hcast : ((j : Nat) : Int).toNat = j := Int.toNat_natCast j
      refine zs3 ?_; refine sv (PV.lss rfl rfl) ?_; refine so ?_; refine sq ?_; refine sc rfl (by omega) ?_; refine T.skip ?_; refine sq ?_; refine T.block ?_; refine zs3 ?_; refine sm ?_; refine sv (PV.indexAddr rfl rfl (by omega)) ?_; refine sv (PV.loadSub0 rfl (by assumption)) ?_; refine sa ?_; refine sa ?_; refine zs1 ?_; refine sf ?_; refine sl ?_; refine sm ?_; refine sv (PV.indexAddr rfl rfl (by omega)) ?_; refine sv (PV.loadSubAll rfl (by assumption) (by exact rfl)) ?_; refine sm ?_; refine T.callX Wanted.none rfl rfl (valueA_fn nm st s H) ?_
      rintro _ ⟨n, rfl⟩
      refine sa ?_; refine zs1 ?_; refine sm ?_; refine sv (PV.neq rfl rfl) ?_; refine so ?_
      refine T.condD rfl (fun hc0 => ?_) (fun hc0 => ?_)
      · refine zs3 ?_; refine sm ?_; refine sm ?_; refine sa ?_; refine sa ?_; refine so ?_
        exact T.retF (Lv.fin (RV.tmp2 rfl rfl rfl) ⟨_, _, rfl, fun h => absurd h (by omega)⟩)
      · refine T.skip ?_; refine T.blkEnd ?_; refine sr ?_; refine sv (PV.add rfl rfl (by omega)) ?_; refine sm ?_; refine so ?_
        exact T.nextR (by omega) rfl zq8 (by repeat (first | exact Sel.refl _ | exact Sel.nil | (refine Sel.cons zq1 ?_) | (refine Sel.app zq1 ?_) | exact Sel.one zq1))
    · refine zs3 ?_; refine sv (PV.lss rfl rfl) ?_; refine so ?_; refine sq ?_; refine sd rfl (by omega) ?_; refine T.exit rfl ?_; refine T.blkEnd ?_; refine sr ?_; refine sv (PV.add rfl rfl (by omega)) ?_; refine sm ?_; refine so ?_
      refine T.nextC hi (fun k t hk1 hkt => ?_) rfl zq8 (by repeat (first | exact Sel.refl _ | exact Sel.nil | (refine Sel.cons zq1 ?_) | (refine Sel.app zq1 ?_) | exact Sel.one zq1))
      by_cases hkk : k < i
      · exact hd k t hkk hkt
      · obtain rfl : k = i := by omega
        rw [hix] at hkt; cases hkt
        show ss.length = _
        omega
  · refine zs3 ?_; refine sv (PV.lss rfl rfl) ?_; refine so ?_; refine sq ?_; refine sd rfl (by omega) ?_; refine T.exit rfl ?_; refine zs3 ?_; refine sa ?_; refine sa ?_; refine so ?_
    exact T.retF (Lv.fin (RV.tmp2 rfl rfl rfl) ⟨_, _, rfl, fun _ t ht2 => by
      obtain ⟨k, hk⟩ := List.getElem?_of_mem ht2
      exact hd k t (by have := (List.getElem?_eq_some_iff.1 hk).1; omega) hk⟩)
theorem textsA_fn (c : Cp) (H : Hp) (hc : CpA H c) : Fn Tryz.prog 52 #[cpV c] H (fun u _ => IsII u) := by
  obtain ⟨aa, ca, at1, ct, ax, cx, ar, cr, an, cn, ah, ch, as1, cs, hcv, ha, ht, hx, hr, hn, hh, hs⟩ := hc.open; rw [hcv]; have hla := hc.la; have hlt := hc.lt; have hlx := hc.lx; have hlr := hc.lr; have hln := hc.ln; have hlh := hc.lh; have hls := hc.ls
  have hcapx := hx.1.cap
  refine Fn.of_T (vs := [.agg #[.slice aa c.att.length ca, .slice at1 c.tk.length ct, .slice ax c.tx.length cx, .slice ar c.rg.length cr, .slice an c.nd.length cn, .slice ah c.hd.length ch, .slice as1 c.rl.length cs]]) Tryz.func52 rfl rfl fun w => ?_
  by_cases h1 : 64 < c.tx.length
  · refine zs3 ?_; (refine T.box Wanted.none rfl rfl zq15 ?_; intro b1); refine sa ?_; refine sa ?_; refine zs1 ?_; refine sf ?_; refine sl ?_; refine sv (PV.lenSl rfl) ?_; refine sa ?_; refine so ?_; refine sq ?_; refine zs3 ?_; refine sf ?_; refine sl ?_; refine sv (PV.lenSl rfl) ?_; refine sv (PV.gtr rfl rfl) ?_; refine so ?_; refine sc rfl (by omega) ?_; refine zs3 ?_; refine sa ?_; refine sa ?_; refine so ?_
    exact T.retF (Lv.fin (RV.tmp2 rfl rfl rfl) ⟨_, _, rfl⟩)
  refine zs3 ?_; (refine T.box Wanted.none rfl rfl zq15 ?_; intro b1); refine sa ?_; refine sa ?_; refine zs1 ?_; refine sf ?_; refine sl ?_; refine sv (PV.lenSl rfl) ?_; refine sa ?_; refine so ?_; refine sq ?_; refine zs3 ?_; refine sf ?_; refine sl ?_; refine sv (PV.lenSl rfl) ?_; refine sv (PV.gtr rfl rfl) ?_; refine so ?_; refine sd rfl (by omega) ?_; refine T.skip ?_; refine sq ?_; refine zs3 ?_; refine sf ?_; refine sl ?_; refine sv (PV.lenSl rfl) ?_; refine sv (PV.eql rfl rfl) ?_; refine sm ?_; refine sv (PV.eql rfl rfl) ?_; refine sv (PV.bneq rfl rfl) ?_; refine so ?_
  refine T.cond rfl (fun hc0 => ?_) (fun hc0 => ?_)
  · refine zs3 ?_; refine sa ?_; refine sa ?_; refine so ?_
    exact T.retF (Lv.fin (RV.tmp2 rfl rfl rfl) ⟨_, _, rfl⟩)
  clear hc0
  refine T.skip ?_; refine zs3 ?_; refine sa ?_; refine so ?_; refine sq ?_; refine zs3 ?_; refine sf ?_; refine sl ?_; refine sv (PV.lenSl rfl) ?_; refine sm ?_; refine so ?_; refine T.block ?_; refine T.loopK [(27, Value.int IntKind.i64 (↑c.tx.length : Int)), (26, Value.slice ax c.tx.length cx), (4, Value.int IntKind.i64 (↑c.tk.length : Int)), (1, Value.pointer (some { block := b1, off := 0 }))] zq8 (γ := Nat × Int) (fun g => g.1 ≤ c.tx.length) (fun g => [(28, .int .i64 (g.1 : Int)), (5, .int .i64 g.2)]) (fun _ => _) (fun _ => H) (fun g => c.tx.length - g.1) (0, 0) (Nat.zero_le _) zq8 (Sel.refl _) rfl ?_
  rintro ⟨i, z⟩ hi0
  dsimp only at hi0 ⊢
  by_cases hi : i < c.tx.length
  · obtain ⟨bx, off, x, rfl, hix, hsub⟩ := RowL.get encRg_len hx.1 hi
    unfold encRg at hsub
    have hxo := hx.2 x (List.mem_of_getElem? hix)
    obtain ⟨am, cm, hmv⟩ := hxo.1.len
    rw [hmv] at hsub
    have hp := pairsA_fn x.ks x.kv H hxo
    rw [hmv] at hp
    refine zs3 ?_; refine sv (PV.lss rfl rfl) ?_; refine so ?_; refine sq ?_; refine sc rfl (by omega) ?_; refine T.skip ?_; refine sq ?_; refine T.block ?_; refine zs3 ?_; refine sm ?_; refine sv (PV.indexAddr rfl rfl (by omega)) ?_; refine sv (PV.loadSubAll rfl (by assumption) (by exact rfl)) ?_; refine sy fun b7 => ?_; refine sa ?_; refine T.storeA Wanted.none rfl rfl zq8 (by exact rfl) zq14 zq13 ?_; refine so ?_; refine sq ?_; refine zs3 ?_; refine sf ?_; refine sl ?_; refine T.callX Wanted.none rfl rfl ((name4_fn _ _).mono (R' := fun u _ => IsB u) fun u _ h => ⟨_, h⟩) ?_
    rintro _ ⟨q, rfl⟩
    refine sv (PV.not rfl) ?_; refine so ?_
    refine T.cond rfl (fun hc0 => ?_) (fun hc0 => ?_)
    · refine zs3 ?_; refine sm ?_; refine sa ?_; refine sa ?_; refine so ?_
      exact T.retF (Lv.fin (RV.tmp2 rfl rfl rfl) ⟨_, _, rfl⟩)
    refine T.skip ?_; refine sq ?_; refine zs3 ?_; refine sf ?_; refine sl ?_; refine sm ?_; refine sv (PV.sliceH rfl rfl (by omega)) ?_; refine sv (PV.lenSl rfl) ?_; refine sm ?_; refine so ?_; refine T.block ?_; refine T.loopR [(42, Value.int IntKind.i64 (↑(↑i : Int).toNat : Int)), (41, Value.slice (some { block := bx, off := off }) (↑i : Int).toNat cx), (6, Value.int IntKind.i64 (↑i : Int)), (7, Value.pointer (some { block := b7, off := 0 })), (28, Value.int IntKind.i64 (↑i : Int)), (5, Value.int IntKind.i64 z), (27, Value.int IntKind.i64 (↑c.tx.length : Int)), (26, Value.slice (some { block := bx, off := off }) c.tx.length cx), (4, Value.int IntKind.i64 (↑c.tk.length : Int)), (1, Value.pointer (some { block := b1, off := 0 }))] zq8 43 i rfl ?_
    intro j hj0
    by_cases hj : j < i
    · obtain ⟨_, _, y, e, hy, hsub2⟩ := RowL.get encRg_len hx.1 (i := j) (by omega)
      injection e with e
      injection e with e1 e2
      subst e1 e2
      unfold encRg at hsub2
      obtain ⟨am2, cm2, hmv2⟩ := (hx.2 y (List.mem_of_getElem? hy)).1.len
      rw [hmv2] at hsub2
      refine zs3 ?_; refine sv (PV.lss rfl rfl) ?_; refine so ?_; refine sq ?_; refine sc rfl (by omega) ?_; refine T.skip ?_; refine sq ?_; refine T.block ?_; refine zs3 ?_; refine sv (PV.indexAddr rfl rfl (by omega)) ?_; refine sv (PV.loadSubAll rfl (by assumption) (by exact rfl)) ?_; refine sy fun b9 => ?_; refine T.storeA Wanted.none rfl rfl zq8 (by exact rfl) zq14 zq13 ?_; refine zs1 ?_; refine sf ?_; refine sl ?_; refine sf ?_; refine sl ?_; refine sv (PV.seql rfl rfl) ?_; refine so ?_
      refine T.condD rfl (fun h0 => ?_) (fun h0 => ?_)
      · refine zs3 ?_; refine sm ?_; refine sa ?_; refine sa ?_; refine so ?_
        (first | exact T.retF (Lv.fin (RV.tmp2 rfl rfl rfl) ⟨_, _, rfl⟩) | exact T.nextR (by omega) rfl zq8 (by repeat (first | exact Sel.refl _ | exact Sel.nil | (refine Sel.cons zq1 ?_) | (refine Sel.app zq1 ?_) | exact Sel.one zq1)))
      · refine T.skip ?_; refine T.blkEnd ?_; refine sr ?_; refine sv (PV.add rfl rfl (by omega)) ?_; refine sm ?_; refine so ?_
        (first | exact T.retF (Lv.fin (RV.tmp2 rfl rfl rfl) ⟨_, _, rfl⟩) | exact T.nextR (by omega) rfl zq8 (by repeat (first | exact Sel.refl _ | exact Sel.nil | (refine Sel.cons zq1 ?_) | (refine Sel.app zq1 ?_) | exact Sel.one zq1)))
    · refine zs3 ?_; refine sv (PV.lss rfl rfl) ?_; refine so ?_; refine sq ?_; refine sd rfl (by omega) ?_; refine T.exit rfl ?_
      (repeat refine sq ?_)
      refine T.cutB [(6, Value.int IntKind.i64 (↑i : Int)), (7, Value.pointer (some { block := b7, off := 0 })), (28, Value.int IntKind.i64 (↑i : Int)), (5, Value.int IntKind.i64 z), (27, Value.int IntKind.i64 (↑c.tx.length : Int)), (26, Value.slice (some { block := bx, off := off }) c.tx.length cx), (4, Value.int IntKind.i64 (↑c.tk.length : Int)), (1, Value.pointer (some { block := b1, off := 0 }))] 84 ?_ fun K => ?_
      rotate_left
      · refine sr ?_; refine sf ?_; refine sl ?_; refine sm ?_; refine sv (PV.neq rfl rfl) ?_; refine sm ?_
        refine T.splitD (d := 58) rfl (fun h0 => ?_) (fun h0 => ?_)
        · refine sp ?_; refine sp ?_; refine sp ?_; refine sp ?_; refine sp ?_; refine sT ?_; refine sm ?_; refine sp ?_; refine sp ?_; refine sp ?_; refine sp ?_; refine sT ?_; refine sm ?_; refine sp ?_; refine sp ?_; refine sp ?_; refine sp ?_; refine sp ?_; refine sp ?_; refine sp ?_; refine su ?_; refine su ?_; refine su ?_; refine su ?_; refine sp ?_; refine sT ?_; refine so ?_; (exact K _ _ _ zq8 (by repeat (first | exact Sel.refl _ | exact Sel.nil | (refine Sel.cons zq1 ?_) | (refine Sel.app zq1 ?_) | exact Sel.one zq1)))
        · refine gf ?_; refine gl ?_; refine gf ?_; refine gl ?_; refine gv (PV.leq rfl rfl) ?_; refine sF ?_; refine sm ?_
          refine T.splitD (d := 65) rfl (fun h1 => ?_) (fun h1 => ?_)
          · refine sp ?_; refine sp ?_; refine sp ?_; refine sp ?_; refine sT ?_; refine sm ?_; refine sp ?_; refine sp ?_; refine sp ?_; refine sp ?_; refine sp ?_; refine sp ?_; refine sp ?_; refine su ?_; refine su ?_; refine su ?_; refine su ?_; refine sp ?_; refine sT ?_; refine so ?_; (exact K _ _ _ zq8 (by repeat (first | exact Sel.refl _ | exact Sel.nil | (refine Sel.cons zq1 ?_) | (refine Sel.app zq1 ?_) | exact Sel.one zq1)))
          · refine gf ?_; refine gl ?_; refine gm ?_; refine gv (PV.gtr rfl rfl) ?_; refine sF ?_; refine sm ?_
            refine T.splitD (d := 71) rfl (fun h2 => ?_) (fun h2 => ?_)
            · refine sp ?_; refine sp ?_; refine sp ?_; refine sp ?_; refine sp ?_; refine sp ?_; refine sp ?_; refine su ?_; refine su ?_; refine su ?_; refine su ?_; refine sp ?_; refine sT ?_; refine so ?_; (exact K _ _ _ zq8 (by repeat (first | exact Sel.refl _ | exact Sel.nil | (refine Sel.cons zq1 ?_) | (refine Sel.app zq1 ?_) | exact Sel.one zq1)))
            · refine gm ?_; refine gf ?_; refine gl ?_; refine gv (PV.lenSl rfl) ?_; refine gv (PV.sub rfl rfl (by omega)) ?_; refine gv (PV.eql rfl rfl) ?_; refine gm ?_
              refine T.splitD (d := 78) rfl (fun h3 => ?_) (fun h3 => ?_)
              · refine gf ?_; refine gl ?_; refine gm ?_; refine gv (PV.neq rfl rfl) ?_; refine gv (PV.pickT rfl rfl rfl) ?_; refine sF ?_; refine so ?_; (exact K _ _ _ zq8 (by repeat (first | exact Sel.refl _ | exact Sel.nil | (refine Sel.cons zq1 ?_) | (refine Sel.app zq1 ?_) | exact Sel.one zq1)))
              · refine sp ?_; refine sp ?_; refine sp ?_; refine sp ?_; refine gv (PV.pickF rfl rfl rfl) ?_; refine sF ?_; refine so ?_; (exact K _ _ _ zq8 (by repeat (first | exact Sel.refl _ | exact Sel.nil | (refine Sel.cons zq1 ?_) | (refine Sel.app zq1 ?_) | exact Sel.one zq1)))
      intro q1
      skip
      refine T.cond rfl (fun hc0 => ?_) (fun hc0 => ?_)
      · refine zs3 ?_; refine sm ?_; refine sa ?_; refine sa ?_; refine so ?_
        exact T.retF (Lv.fin (RV.tmp2 rfl rfl rfl) ⟨_, _, rfl⟩)
      refine T.skip ?_; refine sq ?_; refine zs3 ?_; refine sf ?_; refine sl ?_; refine T.callX Wanted.none rfl rfl hp ?_
      rintro _ ⟨n, rfl⟩
      refine sa ?_; refine zs1 ?_; refine sm ?_; refine sv (PV.neq rfl rfl) ?_; refine so ?_
      refine T.condD rfl (fun hc0 => ?_) (fun hc0 => ?_)
      · refine zs3 ?_; refine sm ?_; refine sm ?_; refine sa ?_; refine sa ?_; refine so ?_
        exact T.retF (Lv.fin (RV.tmp2 rfl rfl rfl) ⟨_, _, rfl⟩)
      refine T.skip ?_; refine sr ?_; refine sf ?_; refine sl ?_; refine sa ?_; refine so ?_; refine T.blkEnd ?_; refine sr ?_; refine sv (PV.add rfl rfl (by omega)) ?_; refine sm ?_; refine so ?_
      exact T.nextP (i + 1, x.e) (by dsimp only; omega) (by dsimp only; omega) zq8 (by repeat (first | exact Sel.refl _ | exact Sel.nil | (refine Sel.cons zq1 ?_) | (refine Sel.app zq1 ?_) | exact Sel.one zq1)) rfl
  · refine zs3 ?_; refine sv (PV.lss rfl rfl) ?_; refine so ?_; refine sq ?_; refine sd rfl (by omega) ?_; refine T.exit rfl ?_; refine zs3 ?_; refine sa ?_; refine sa ?_; refine so ?_
    exact T.retF (Lv.fin (RV.tmp2 rfl rfl rfl) ⟨_, _, rfl⟩)

end Go.Proofs.YtclepckalliajaaGreatDoor
