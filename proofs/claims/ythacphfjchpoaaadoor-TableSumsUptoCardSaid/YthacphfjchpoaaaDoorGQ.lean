/- table: Margin, Merge: the reference.
   table: the statement Sums.
   table: an argument that is a slice of rows, of small bulk; a row whose specification bears a condition and lists variables. -/
import Derived.Test.YthacphfjchpoaaaDoorRows
import Derived.Deep.Strs
import Derived.JoinedCond
import Derived.LaidLaws
import Derived.Test.YthacphfjchpoaaaDoorFTN
import Derived.Test.YthacphfjchpoaaaDoorGN
import Derived.Test.YthacphfjchpoaaaDoorGP
namespace Go.Proofs.YthacphfjchpoaaaDoor
open Go.RowKit

set_option maxHeartbeats 4000000 in
theorem margin_ref (L : List Rw) (v : Value) (k : Int) (H : Hp) (hL : RwL H v L) (hLl : L.length ≤ 1000) (hn : ∀ r ∈ L, r.n ≤ 1099511627776) :
    Fn Tryd.prog 6 #[v, .int .i64 k] H (fun u H' => ∃ v' A, u = .tuple #[v', .int .i64 (marE (L.map rwK) k)] ∧ RwL H' v' A ∧ (marE (L.map rwK) k = 0 → A.map rwK = marR (L.map rwK) k.toNat) ∧ (marE (L.map rwK) k ≠ 0 → A = [])) := by
  have hva := valid_ref L v H hL hLl
  obtain ⟨am, cm, rfl⟩ := hL.1.len
  obtain ⟨F, hF⟩ : ∃ F, F = L.map rwK := ⟨_, rfl⟩
  have hFl : F.length = L.length := by rw [hF, List.length_map]
  rw [← hF] at hva ⊢
  refine Fn.of_T (vs := [.slice am L.length cm, .int .i64 k]) Tryd.func6 rfl rfl fun w => ?_
  have hend : marE F k = 1 → ∃ v' A, (.tuple #[.slice none 0 0, .int .i64 1] : Value) = .tuple #[v', .int .i64 (marE F k)] ∧ RwL H v' A ∧ (marE F k = 0 → A.map rwK = marR F k.toNat) ∧ (marE F k ≠ 0 → A = []) :=
    fun he => ⟨_, [], by rw [he], ⟨SlR.empty, by simp⟩, fun h => absurd (he.symm.trans h) (by omega), fun _ => rfl⟩
  refine zs3 ?_; refine sa ?_; refine sa ?_; refine so ?_
  (repeat refine sq ?_)
  refine T.cut2G [(0, Value.slice am L.length cm), (1, Value.int IntKind.i64 k)] (γ := Unit) (fun _ => marE F k = 0) (fun _ => []) (fun _ => []) ?_ fun K => ?_
  rotate_left
  · cases hv : validR F
    · rw [hv] at hva
      refine sr ?_; refine sm ?_; refine T.callV Wanted.none rfl rfl (hva) ?_; refine sv (PV.not rfl) ?_; refine sm ?_; refine sp ?_; refine sp ?_; refine sT ?_; refine sm ?_; refine sp ?_; refine sp ?_; refine sp ?_; refine sp ?_; refine su ?_; refine su ?_; refine su ?_; refine su ?_; refine su ?_; refine su ?_; refine su ?_; refine sp ?_; refine sT ?_; refine so ?_; refine T.condT rfl rfl ?_; refine zs3 ?_; refine sa ?_; refine sa ?_; refine so ?_
      exact T.retF (Lv.fin (RV.tmp2 rfl rfl rfl) (hend (by unfold marE; rw [if_pos (.inl hv)])))
    rw [hv] at hva
    by_cases c1 : k < 0
    · have d1 : decide (k < 0) = true := decide_eq_true c1
      refine sr ?_; refine sm ?_; refine T.callV Wanted.none rfl rfl (hva) ?_; refine sv (PV.not rfl) ?_; refine sm ?_; refine gm ?_; refine gv (PV.lss rfl rfl) ?_; refine sF ?_; refine sm ?_; refine T.pass (Unwanted.guard rfl rfl (by assumption)) rfl rfl ?_; refine T.pass (Unwanted.guard rfl rfl (by assumption)) rfl rfl ?_; refine T.pass (Unwanted.guard rfl rfl (by assumption)) rfl rfl ?_; refine T.pass (Unwanted.guard rfl rfl (by assumption)) rfl rfl ?_; refine su ?_; refine su ?_; refine su ?_; refine su ?_; refine su ?_; refine su ?_; refine su ?_; refine T.pass (Unwanted.guard rfl rfl (by assumption)) rfl rfl ?_; refine sv (PV.pickT rfl (by assumption) rfl) ?_; refine so ?_; refine T.condT rfl rfl ?_; refine zs3 ?_; refine sa ?_; refine sa ?_; refine so ?_
      exact T.retF (Lv.fin (RV.tmp2 rfl rfl rfl) (hend (by unfold marE; rw [if_pos (.inr (.inl c1))])))
    have d1 : decide (k < 0) = false := decide_eq_false c1
    by_cases c2 : 0 < L.length
    · have d2 : decide ((0 : Int) < (L.length : Int)) = true := decide_eq_true (by omega)
      obtain ⟨b0, off0, r0, rfl, h0x, hsub0⟩ := RowL.get encRw_len hL.1 c2
      have hr0ok := hL.2 r0 (List.mem_of_getElem? h0x)
      obtain ⟨ar0, cr0, hr0v⟩ := hr0ok.1.len
      unfold encRw at hsub0
      rw [hr0v] at hsub0
      have hsub0' : SubC H b0 (off0 + (0 : Int).toNat * 2) [.slice ar0 r0.ks.length cr0, .int .i64 r0.n] := hsub0
      have hkn : keysN F = r0.ks.length := by
        rw [hF]
        cases hLc : L with
        | nil => rw [hLc] at c2; simp at c2
        | cons a l => rw [hLc] at h0x; simp at h0x; subst h0x; rfl
      have hne : F ≠ [] := by intro h; rw [h] at hFl; simp at hFl; omega
      by_cases c3 : (r0.ks.length : Int) ≤ k
      · have d3 : decide ((r0.ks.length : Int) ≤ k) = true := decide_eq_true c3
        refine sr ?_; refine sm ?_; refine T.callV Wanted.none rfl rfl (hva) ?_; refine sv (PV.not rfl) ?_; refine sm ?_; refine gm ?_; refine gv (PV.lss rfl rfl) ?_; refine sF ?_; refine sm ?_; refine T.pv (PV.move rfl) (Wanted.guard rfl rfl (by assumption)) rfl rfl ?_; refine T.pv (PV.lenSl rfl) (Wanted.guard rfl rfl (by assumption)) rfl rfl ?_; refine T.pv (PV.gtr rfl rfl) (Wanted.guard rfl rfl (by assumption)) rfl rfl ?_; refine T.pv (PV.move rfl) (Wanted.guard rfl rfl (by assumption)) rfl rfl ?_; refine T.pv (PV.move rfl) (Wanted.guard rfl rfl (by assumption)) rfl rfl ?_; refine T.pv (PV.move rfl) (Wanted.guard rfl rfl (by assumption)) rfl rfl ?_; refine T.pv (PV.indexAddr rfl rfl (by omega)) (Wanted.guard rfl rfl (by assumption)) rfl rfl ?_; refine T.pv (PV.fieldAddr rfl) (Wanted.guard rfl rfl (by assumption)) rfl rfl ?_; refine T.pv (PV.loadSub rfl (by assumption) rfl) (Wanted.guard rfl rfl (by assumption)) rfl rfl ?_; refine T.pv (PV.lenSl rfl) (Wanted.guard rfl rfl (by assumption)) rfl rfl ?_; refine T.pv (PV.geq rfl rfl) (Wanted.guard rfl rfl (by assumption)) rfl rfl ?_; refine T.pv (PV.pickT rfl (by assumption) rfl) (Wanted.guard rfl rfl (by assumption)) rfl rfl ?_; refine sv (PV.pickF rfl (by assumption) rfl) ?_; refine so ?_; refine T.condT rfl (by assumption) ?_; refine zs3 ?_; refine sa ?_; refine sa ?_; refine so ?_
        exact T.retF (Lv.fin (RV.tmp2 rfl rfl rfl) (hend (by unfold marE; rw [if_pos (.inr (.inr ⟨hne, by rw [hkn]; exact c3⟩))])))
      · have d3 : decide ((r0.ks.length : Int) ≤ k) = false := decide_eq_false c3
        refine sr ?_; refine sm ?_; refine T.callV Wanted.none rfl rfl (hva) ?_; refine sv (PV.not rfl) ?_; refine sm ?_; refine gm ?_; refine gv (PV.lss rfl rfl) ?_; refine sF ?_; refine sm ?_; refine T.pv (PV.move rfl) (Wanted.guard rfl rfl (by assumption)) rfl rfl ?_; refine T.pv (PV.lenSl rfl) (Wanted.guard rfl rfl (by assumption)) rfl rfl ?_; refine T.pv (PV.gtr rfl rfl) (Wanted.guard rfl rfl (by assumption)) rfl rfl ?_; refine T.pv (PV.move rfl) (Wanted.guard rfl rfl (by assumption)) rfl rfl ?_; refine T.pv (PV.move rfl) (Wanted.guard rfl rfl (by assumption)) rfl rfl ?_; refine T.pv (PV.move rfl) (Wanted.guard rfl rfl (by assumption)) rfl rfl ?_; refine T.pv (PV.indexAddr rfl rfl (by omega)) (Wanted.guard rfl rfl (by assumption)) rfl rfl ?_; refine T.pv (PV.fieldAddr rfl) (Wanted.guard rfl rfl (by assumption)) rfl rfl ?_; refine T.pv (PV.loadSub rfl (by assumption) rfl) (Wanted.guard rfl rfl (by assumption)) rfl rfl ?_; refine T.pv (PV.lenSl rfl) (Wanted.guard rfl rfl (by assumption)) rfl rfl ?_; refine T.pv (PV.geq rfl rfl) (Wanted.guard rfl rfl (by assumption)) rfl rfl ?_; refine T.pv (PV.pickT rfl (by assumption) rfl) (Wanted.guard rfl rfl (by assumption)) rfl rfl ?_; refine sv (PV.pickF rfl (by assumption) rfl) ?_; refine so ?_; refine T.condF rfl (by assumption) ?_; refine T.skip ?_; refine K () _ _ ?_ ?_ ?_
        · unfold marE
          rw [if_neg]
          rintro (h | h | h)
          · rw [hv] at h; cases h
          · exact c1 h
          · rw [hkn] at h; exact c3 h.2
        · exact zq8
        · exact (by repeat (first | exact Sel.refl _ | exact Sel.nil | (refine Sel.cons zq1 ?_) | (refine Sel.app zq1 ?_) | exact Sel.one zq1))
    · have d2 : decide ((0 : Int) < (L.length : Int)) = false := decide_eq_false (by omega)
      refine sr ?_; refine sm ?_; refine T.callV Wanted.none rfl rfl (hva) ?_; refine sv (PV.not rfl) ?_; refine sm ?_; refine gm ?_; refine gv (PV.lss rfl rfl) ?_; refine sF ?_; refine sm ?_; refine T.pv (PV.move rfl) (Wanted.guard rfl rfl (by assumption)) rfl rfl ?_; refine T.pv (PV.lenSl rfl) (Wanted.guard rfl rfl (by assumption)) rfl rfl ?_; refine T.pv (PV.gtr rfl rfl) (Wanted.guard rfl rfl (by assumption)) rfl rfl ?_; refine T.pv (PV.move rfl) (Wanted.guard rfl rfl (by assumption)) rfl rfl ?_; refine T.pass (Unwanted.guard rfl rfl (by assumption)) rfl rfl ?_; refine T.pass (Unwanted.guard rfl rfl (by assumption)) rfl rfl ?_; refine T.pass (Unwanted.guard rfl rfl (by assumption)) rfl rfl ?_; refine T.pass (Unwanted.guard rfl rfl (by assumption)) rfl rfl ?_; refine T.pass (Unwanted.guard rfl rfl (by assumption)) rfl rfl ?_; refine T.pass (Unwanted.guard rfl rfl (by assumption)) rfl rfl ?_; refine T.pass (Unwanted.guard rfl rfl (by assumption)) rfl rfl ?_; refine T.pv (PV.pickF rfl (by assumption) rfl) (Wanted.guard rfl rfl (by assumption)) rfl rfl ?_; refine sv (PV.pickF rfl (by assumption) rfl) ?_; refine so ?_; refine T.condF rfl rfl ?_; refine T.skip ?_; refine K () _ _ ?_ ?_ ?_
      · unfold marE
        rw [if_neg]
        rintro (h | h | h)
        · rw [hv] at h; cases h
        · exact c1 h
        · exact h.1 (List.eq_nil_of_length_eq_zero (by omega))
      · exact zq8
      · exact (by repeat (first | exact Sel.refl _ | exact Sel.nil | (refine Sel.cons zq1 ?_) | (refine Sel.app zq1 ?_) | exact Sel.one zq1))
  rintro ⟨⟩ h0
  obtain ⟨hv, hk0, hkl⟩ := marE_ok h0
  have hpos : ∀ r ∈ L, 1 ≤ r.n ∧ k < r.ks.length := fun r hr => by
    have hm : rwK r ∈ F := by rw [hF]; exact List.mem_map_of_mem hr
    have h1 := validR_mem hv hm
    have h2 := hkl (by intro h; rw [h] at hm; cases hm)
    exact ⟨h1.2.2.2, by rw [show r.ks.length = keysN F from h1.2.2.1]; exact h2⟩
  dsimp only [List.nil_append]
  refine zs3 ?_; refine sa ?_; refine so ?_; refine sq ?_; refine zs3 ?_; refine sm ?_; refine sv (PV.lenSl rfl) ?_; refine sm ?_; refine so ?_; refine T.block ?_; refine T.loopK [(31, Value.int IntKind.i64 (↑L.length : Int)), (30, Value.slice am L.length cm), (1, Value.int IntKind.i64 k)] zq8 (γ := MgG) (fun g => g.i ≤ L.length ∧ H.le g.H ∧ RowV 34 encRw 2 g.v g.lv g.R ∧ (∀ r ∈ g.R, RwOk g.H r) ∧ g.R.map rwK = (F.take g.i).map (fun r => ([r.1.getD k.toNat ⟨#[]⟩], r.2))) (fun g => [(32, .int .i64 (g.i : Int)), (6, g.v)]) (fun g => g.lv) (fun g => g.H) (fun g => L.length - g.i) ⟨0, H, .slice none 0 0, [], []⟩ ⟨by simp, Hp.le.refl _, Vec.nil _ _, by simp, by simp⟩ zq8 (by repeat (first | exact Sel.refl _ | exact Sel.nil | (refine Sel.cons zq1 ?_) | (refine Sel.app zq1 ?_) | exact Sel.one zq1)) rfl ?_
  rintro ⟨i, H2, v, lv, R⟩ ⟨g1, g2, g3, g4, g5⟩
  dsimp only at g1 g2 g3 g4 g5 ⊢
  obtain ⟨adv, capv, rfl⟩ := g3.val
  have hRl : R.length = i := by have := congrArg List.length g5; rw [List.length_map, List.length_map, List.length_take] at this; omega
  by_cases hi : i < L.length
  · obtain ⟨bx, off, r, rfl, hix, hsub⟩ := RowL.get encRw_len (hL.1.mono g2) hi
    have hmm := List.mem_of_getElem? hix
    have hrok := (hL.2 r hmm).mono g2
    obtain ⟨hrp, hrk⟩ := hpos r hmm
    obtain ⟨ar, cr, hrv⟩ := hrok.1.len
    have hrs := hrok.1
    rw [hrv] at hrs
    unfold encRw at hsub
    rw [hrv] at hsub
    obtain ⟨bk, offk, s, rfl, hks, hsubk⟩ := RowL.get encT_len hrs (show k.toNat < r.ks.length by omega)
    unfold encT at hsubk
    have hFi : F[i]? = some (rwK r) := by rw [hF, List.getElem?_map, hix]; rfl
    have hst : (F.take (i + 1)).map (fun r => ([r.1.getD k.toNat ⟨#[]⟩], r.2)) = (F.take i).map (fun r => ([r.1.getD k.toNat ⟨#[]⟩], r.2)) ++ [([s], r.n)] := by
      rw [List.take_add_one, hFi, List.map_append]
      show _ ++ [([r.ks.getD k.toNat ⟨#[]⟩], r.n)] = _
      rw [List.getD_eq_getElem?_getD, hks]; rfl
    refine zs3 ?_; refine sv (PV.lss rfl rfl) ?_; refine so ?_; refine sq ?_; refine sc rfl (by omega) ?_; refine T.skip ?_; refine sq ?_; refine T.block ?_; refine zs3 ?_; refine sv (PV.indexAddr rfl rfl (by omega)) ?_; refine sv (PV.loadSubAll rfl (by assumption) (by exact rfl)) ?_; refine sy fun b8 => ?_; refine T.storeA Wanted.none rfl rfl zq8 (by exact rfl) zq14 zq13 ?_; refine so ?_
    (repeat refine sq ?_)
    refine T.regionO [(b8, .cells #[.slice (some ⟨bk, offk, none⟩) r.ks.length cr, .int .i64 r.n] 34 (0, 0))] (by kernel_rfl) ?_; refine TO.take 0 rfl (by kernel_rfl) (by kernel_rfl) (by kernel_rfl) (PV.move rfl) Wanted.none rfl rfl ?_; refine TO.take 1 rfl (by kernel_rfl) (by kernel_rfl) (by kernel_rfl) (PV.fieldAddr rfl) Wanted.none rfl rfl ?_; refine TO.take 2 rfl (by kernel_rfl) (by kernel_rfl) (by kernel_rfl) (PV.load1 rfl zq0 rfl) Wanted.none rfl rfl ?_; refine TO.take 3 rfl (by kernel_rfl) (by kernel_rfl) (by kernel_rfl) (PV.move rfl) Wanted.none rfl rfl ?_; refine TO.take 4 rfl (by kernel_rfl) (by kernel_rfl) (by kernel_rfl) (PV.indexAddr rfl rfl (by omega)) Wanted.none rfl rfl ?_; refine TO.take 5 rfl (by kernel_rfl) (by kernel_rfl) (by kernel_rfl) (PV.loadSub0 rfl (by assumption)) Wanted.none rfl rfl ?_; refine TO.take 7 rfl (by kernel_rfl) (by kernel_rfl) (by kernel_rfl) (PV.fieldAddr rfl) Wanted.none rfl rfl ?_; refine TO.take 8 rfl (by kernel_rfl) (by kernel_rfl) (by kernel_rfl) (PV.load1 rfl zq0 rfl) Wanted.none rfl rfl ?_; refine TO.step 6 rfl (by kernel_rfl) zq4 zq19 ?_; (refine T.buildSlice Wanted.none rfl rfl zq11 (by exact rfl) (by exact rfl) ?_; intro b42); refine so ?_; refine TO.back ?_; refine TO.take 9 rfl (by kernel_rfl) (by kernel_rfl) (by kernel_rfl) (PV.build rfl zq12) Wanted.none rfl rfl ?_; refine TO.step 10 rfl (by kernel_rfl) zq4 zq19 ?_; (refine T.buildSlice Wanted.none rfl rfl zq11 (by exact rfl) (by exact rfl) ?_; intro b46); refine so ?_; refine TO.back ?_; refine TO.step 11 rfl (by kernel_rfl) zq4 zq19 ?_; (refine T.appendP (lv := lv) Wanted.none rfl rfl rfl g3 (Src.cells (m := 1) (ys := [.slice (some ⟨b42, 0, none⟩) 1 1, .int .i64 r.n]) (.own zq2) rfl rfl) (by intro v hv; simp only [List.mem_cons, List.not_mem_nil, or_false] at hv; rcases hv with rfl | rfl <;> rfl) (by omega) zq1 ?_; intro v47 lv47 hv47 _; obtain ⟨ad47, cap47, rfl⟩ := hv47.val); refine so ?_; refine TO.back ?_; refine TO.take 12 rfl (by kernel_rfl) (by kernel_rfl) (by kernel_rfl) (PV.assign rfl) Wanted.none rfl rfl ?_; refine TO.done (by kernel_rfl) zq4 zq19 ?_; refine T.blkEnd ?_; refine T.freezeB (b := b42) zq1 ?_
    intro H3 h3 j42
    have hnew : RwOk H3 ⟨.slice (some ⟨b42, 0, none⟩) 1 1, [s], r.n⟩ := ⟨⟨rfl, .inr ⟨b42, 0, 1, _, _, _, rfl, j42, rfl, Nat.le_refl 1⟩⟩, by show 1 ≤ 1000; omega, by have := joinL_one hks; have := hrok.2.2; show (joinL [s]).length ≤ _; omega⟩
    refine sr ?_; refine sv (PV.add rfl rfl (by omega)) ?_; refine sm ?_; refine so ?_
    refine T.nextP ⟨i + 1, H3, _, lv47, R ++ [⟨.slice (some ⟨b42, 0, none⟩) 1 1, [s], r.n⟩]⟩ ⟨by dsimp only; omega, g2.trans h3, RowV.snoc hv47, fun x hx => ?_, by dsimp only; rw [hst, List.map_append, g5]; rfl⟩ (by dsimp only; omega) zq8 (by repeat (first | exact Sel.refl _ | exact Sel.nil | (refine Sel.cons zq1 ?_) | (refine Sel.app zq1 ?_) | exact Sel.one zq1)) rfl
    rcases List.mem_append.1 hx with hx | hx
    · exact (g4 x hx).mono h3
    · rw [List.mem_singleton] at hx; subst hx; exact hnew
  · rw [List.take_of_length_le (by omega)] at g5
    refine zs3 ?_; refine sv (PV.lss rfl rfl) ?_; refine so ?_; refine sq ?_; refine sd rfl (by omega) ?_; refine T.exit rfl ?_; refine T.freezeP (lv := lv) g3 zq1 ?_
    intro H3 h3 hs3
    have hRn : ∀ x ∈ R, 0 ≤ x.n ∧ x.n ≤ 1099511627776 := by
      intro x hx
      have h1 : rwK x ∈ R.map rwK := List.mem_map_of_mem hx
      rw [g5, hF, List.map_map] at h1
      obtain ⟨z, hz, he⟩ := List.mem_map.1 h1
      have h2 : x.n = z.n := (congrArg Prod.snd he).symm
      have h3 := hn z hz
      have h4 := (hpos z hz).1
      omega
    have hsm := sum_ref R (.slice adv R.length capv) H3 ⟨hs3, fun x hx => (g4 x hx).mono h3⟩ (by omega) hRn
    refine zs3 ?_; refine sm ?_; (refine T.call Wanted.none rfl rfl hsm ?_; rintro _ H50 h50 ⟨A, hA, hAk⟩; obtain ⟨aa, ca, rfl⟩ := hA.1.len); refine sa ?_; refine sa ?_; refine so ?_
    exact T.retF (Lv.fin (RV.tmp2 rfl rfl rfl) ⟨_, A, by rw [h0], hA, fun _ => by rw [hAk, g5]; rfl, fun h => absurd h0 h⟩)
set_option maxHeartbeats 4000000 in
theorem merge_ref (A B : List Rw) (va vb : Value) (H : Hp) (hA : RwL H va A) (hB : RwL H vb B) (hAl : A.length ≤ 400) (hBl : B.length ≤ 400) (hAn : ∀ r ∈ A, r.n ≤ 1099511627776) (hBn : ∀ r ∈ B, r.n ≤ 1099511627776) :
    Fn Tryd.prog 8 #[va, vb] H (fun u H' => ∃ v' C, u = .tuple #[v', .int .i64 (mergeE (A.map rwK) (B.map rwK))] ∧ RwL H' v' C ∧ (mergeE (A.map rwK) (B.map rwK) = 0 → C.map rwK = sumR (A.map rwK ++ B.map rwK)) ∧ (mergeE (A.map rwK) (B.map rwK) ≠ 0 → C = [])) := by
  have hva := valid_ref A va H hA (by omega)
  have hvb := valid_ref B vb H hB (by omega)
  obtain ⟨aa, ca, rfl⟩ := hA.1.len
  obtain ⟨ab, cb, rfl⟩ := hB.1.len
  have hkA := fun (r0 : Rw) (h : A[0]? = some r0) => keysN_at h
  have hkB := fun (r0 : Rw) (h : B[0]? = some r0) => keysN_at h
  have hneA : A.map rwK ≠ [] ↔ 0 < A.length := by cases A <;> simp
  have hneB : B.map rwK ≠ [] ↔ 0 < B.length := by cases B <;> simp
  have hpA : ∀ x ∈ A, validR (A.map rwK) = true → 0 ≤ x.n := fun x hx hv => by have := (validR_mem hv (List.mem_map_of_mem hx)).2.2.2; have h2 : (rwK x).2 = x.n := rfl; omega
  have hpB : ∀ x ∈ B, validR (B.map rwK) = true → 0 ≤ x.n := fun x hx hv => by have := (validR_mem hv (List.mem_map_of_mem hx)).2.2.2; have h2 : (rwK x).2 = x.n := rfl; omega
  have hmap : (A ++ B).map rwK = A.map rwK ++ B.map rwK := List.map_append
  generalize hF : A.map rwK = F at *
  generalize hG : B.map rwK = G at *
  refine Fn.of_T (vs := [.slice aa A.length ca, .slice ab B.length cb]) Tryd.func8 rfl rfl fun w => ?_
  have hend : ∀ z : Int, z ≠ 0 → mergeE F G = z → ∃ v' C, (.tuple #[.slice none 0 0, .int .i64 z] : Value) = .tuple #[v', .int .i64 (mergeE F G)] ∧ RwL H v' C ∧ (mergeE F G = 0 → C.map rwK = sumR (F ++ G)) ∧ (mergeE F G ≠ 0 → C = []) :=
    fun z hz he => ⟨_, [], by rw [he], ⟨SlR.empty, by simp⟩, fun h => absurd (he.symm.trans h) hz, fun _ => rfl⟩
  cases hv : validR F
  · rw [hv] at hva
    refine zs3 ?_; refine sa ?_; refine sa ?_; refine so ?_; refine sq ?_; refine zs3 ?_; refine sm ?_; refine T.callV Wanted.none rfl rfl (hva) ?_; refine sv (PV.not rfl) ?_; refine sm ?_; refine sp ?_; refine sp ?_; refine sp ?_; refine sT ?_; refine so ?_; refine T.condT rfl rfl ?_; refine zs3 ?_; refine sa ?_; refine sa ?_; refine so ?_
    exact T.retF (Lv.fin (RV.tmp2 rfl rfl rfl) (hend 1 (by omega) (by unfold mergeE; rw [if_pos (.inl hv)])))
  rw [hv] at hva
  cases hw : validR G
  · rw [hw] at hvb
    refine zs3 ?_; refine sa ?_; refine sa ?_; refine so ?_; refine sq ?_; refine zs3 ?_; refine sm ?_; refine T.callV Wanted.none rfl rfl (hva) ?_; refine sv (PV.not rfl) ?_; refine sm ?_; refine gm ?_; refine T.callV (Wanted.guard rfl rfl rfl) rfl rfl (hvb) ?_; refine gv (PV.not rfl) ?_; refine sF ?_; refine so ?_; refine T.condT rfl rfl ?_; refine zs3 ?_; refine sa ?_; refine sa ?_; refine so ?_
    exact T.retF (Lv.fin (RV.tmp2 rfl rfl rfl) (hend 1 (by omega) (by unfold mergeE; rw [if_pos (.inr hw)])))
  rw [hw] at hvb
  have hbase : ¬ (validR F = false ∨ validR G = false) := by rw [hv, hw]; simp
  refine zs3 ?_; refine sa ?_; refine sa ?_; refine so ?_; refine sq ?_; refine zs3 ?_; refine sm ?_; refine T.callV Wanted.none rfl rfl (hva) ?_; refine sv (PV.not rfl) ?_; refine sm ?_; refine gm ?_; refine T.callV (Wanted.guard rfl rfl rfl) rfl rfl (hvb) ?_; refine gv (PV.not rfl) ?_; refine sF ?_; refine so ?_; refine T.condF rfl rfl ?_; refine T.skip ?_
  (repeat refine sq ?_)
  refine T.cut2G [(0, Value.slice aa A.length ca), (1, Value.slice ab B.length cb)] (γ := Unit) (fun _ => mergeE F G = 0) (fun _ => []) (fun _ => []) ?_ fun K => ?_
  rotate_left
  · have hgo : ¬ (F ≠ [] ∧ G ≠ [] ∧ keysN F ≠ keysN G) → mergeE F G = 0 := fun h => by unfold mergeE; rw [if_neg hbase, if_neg h]
    by_cases c1 : 0 < A.length
    · have d1 : decide ((0 : Int) < (A.length : Int)) = true := decide_eq_true (by omega)
      by_cases c2 : 0 < B.length
      · have d2 : decide ((0 : Int) < (B.length : Int)) = true := decide_eq_true (by omega)
        obtain ⟨b0, off0, r0, rfl, h0x, hsub0⟩ := RowL.get encRw_len hA.1 c1
        obtain ⟨b1, off1, r1, rfl, h1x, hsub1⟩ := RowL.get encRw_len hB.1 c2
        obtain ⟨ar0, cr0, hr0v⟩ := (hA.2 r0 (List.mem_of_getElem? h0x)).1.len
        obtain ⟨ar1, cr1, hr1v⟩ := (hB.2 r1 (List.mem_of_getElem? h1x)).1.len
        unfold encRw at hsub0 hsub1
        rw [hr0v] at hsub0
        rw [hr1v] at hsub1
        have hsub0' : SubC H b0 (off0 + (0 : Int).toNat * 2) [.slice ar0 r0.ks.length cr0, .int .i64 r0.n] := hsub0
        have hsub1' : SubC H b1 (off1 + (0 : Int).toNat * 2) [.slice ar1 r1.ks.length cr1, .int .i64 r1.n] := hsub1
        have k0 := hkA r0 h0x
        have k1 := hkB r1 h1x
        by_cases c3 : r0.ks.length = r1.ks.length
        · have d3 : decide ((r0.ks.length : Int) ≠ (r1.ks.length : Int)) = false := decide_eq_false (by omega)
          refine T.regionQ (by kernel_rfl) ?_; refine TQ.pv (PV.move rfl) Wanted.none rfl rfl ?_; refine TQ.pv (PV.lenSl rfl) Wanted.none rfl rfl ?_; refine TQ.pv (PV.gtr rfl rfl) Wanted.none rfl rfl ?_; refine TQ.pv (PV.move rfl) Wanted.none rfl rfl ?_; refine TQ.pv (PV.move rfl) (Wanted.guard rfl rfl (by assumption)) rfl rfl ?_; refine TQ.pv (PV.lenSl rfl) (Wanted.guard rfl rfl (by assumption)) rfl rfl ?_; refine TQ.pv (PV.gtr rfl rfl) (Wanted.guard rfl rfl (by assumption)) rfl rfl ?_; refine TQ.pv (PV.pickT rfl (by assumption) rfl) Wanted.none rfl rfl ?_; refine TQ.pv (PV.move rfl) Wanted.none rfl rfl ?_; refine TQ.pv (PV.move rfl) (Wanted.guard rfl rfl (by assumption)) rfl rfl ?_; refine TQ.pv (PV.indexAddr rfl rfl (by omega)) (Wanted.guard rfl rfl (by assumption)) rfl rfl ?_; refine TQ.pv (PV.fieldAddr rfl) (Wanted.guard rfl rfl (by assumption)) rfl rfl ?_; refine TQ.pv (PV.loadSub rfl (by assumption) rfl) (Wanted.guard rfl rfl (by assumption)) rfl rfl ?_; refine TQ.pv (PV.lenSl rfl) (Wanted.guard rfl rfl (by assumption)) rfl rfl ?_; refine TQ.pv (PV.move rfl) (Wanted.guard rfl rfl (by assumption)) rfl rfl ?_; refine TQ.pv (PV.indexAddr rfl rfl (by omega)) (Wanted.guard rfl rfl (by assumption)) rfl rfl ?_; refine TQ.pv (PV.fieldAddr rfl) (Wanted.guard rfl rfl (by assumption)) rfl rfl ?_; refine TQ.pv (PV.loadSub rfl (by assumption) rfl) (Wanted.guard rfl rfl (by assumption)) rfl rfl ?_; refine TQ.pv (PV.lenSl rfl) (Wanted.guard rfl rfl (by assumption)) rfl rfl ?_; refine TQ.pv (PV.neq rfl rfl) (Wanted.guard rfl rfl (by assumption)) rfl rfl ?_; refine TQ.pv (PV.pickT rfl (by assumption) rfl) Wanted.none rfl rfl ?_; refine TQ.nil ?_; refine T.condF rfl (by assumption) ?_; refine T.skip ?_
          refine K () _ _ (hgo fun h => h.2.2 (by rw [k0, k1, c3])) ?_ ?_; (focus exact zq8); (focus exact (by repeat (first | exact Sel.refl _ | exact Sel.nil | (refine Sel.cons zq1 ?_) | (refine Sel.app zq1 ?_) | exact Sel.one zq1)))
        · have d3 : decide ((r0.ks.length : Int) ≠ (r1.ks.length : Int)) = true := decide_eq_true (by omega)
          refine T.regionQ (by kernel_rfl) ?_; refine TQ.pv (PV.move rfl) Wanted.none rfl rfl ?_; refine TQ.pv (PV.lenSl rfl) Wanted.none rfl rfl ?_; refine TQ.pv (PV.gtr rfl rfl) Wanted.none rfl rfl ?_; refine TQ.pv (PV.move rfl) Wanted.none rfl rfl ?_; refine TQ.pv (PV.move rfl) (Wanted.guard rfl rfl (by assumption)) rfl rfl ?_; refine TQ.pv (PV.lenSl rfl) (Wanted.guard rfl rfl (by assumption)) rfl rfl ?_; refine TQ.pv (PV.gtr rfl rfl) (Wanted.guard rfl rfl (by assumption)) rfl rfl ?_; refine TQ.pv (PV.pickT rfl (by assumption) rfl) Wanted.none rfl rfl ?_; refine TQ.pv (PV.move rfl) Wanted.none rfl rfl ?_; refine TQ.pv (PV.move rfl) (Wanted.guard rfl rfl (by assumption)) rfl rfl ?_; refine TQ.pv (PV.indexAddr rfl rfl (by omega)) (Wanted.guard rfl rfl (by assumption)) rfl rfl ?_; refine TQ.pv (PV.fieldAddr rfl) (Wanted.guard rfl rfl (by assumption)) rfl rfl ?_; refine TQ.pv (PV.loadSub rfl (by assumption) rfl) (Wanted.guard rfl rfl (by assumption)) rfl rfl ?_; refine TQ.pv (PV.lenSl rfl) (Wanted.guard rfl rfl (by assumption)) rfl rfl ?_; refine TQ.pv (PV.move rfl) (Wanted.guard rfl rfl (by assumption)) rfl rfl ?_; refine TQ.pv (PV.indexAddr rfl rfl (by omega)) (Wanted.guard rfl rfl (by assumption)) rfl rfl ?_; refine TQ.pv (PV.fieldAddr rfl) (Wanted.guard rfl rfl (by assumption)) rfl rfl ?_; refine TQ.pv (PV.loadSub rfl (by assumption) rfl) (Wanted.guard rfl rfl (by assumption)) rfl rfl ?_; refine TQ.pv (PV.lenSl rfl) (Wanted.guard rfl rfl (by assumption)) rfl rfl ?_; refine TQ.pv (PV.neq rfl rfl) (Wanted.guard rfl rfl (by assumption)) rfl rfl ?_; refine TQ.pv (PV.pickT rfl (by assumption) rfl) Wanted.none rfl rfl ?_; refine TQ.nil ?_; refine T.condT rfl (by assumption) ?_; refine zs3 ?_; refine sa ?_; refine sa ?_; refine so ?_
          exact T.retF (Lv.fin (RV.tmp2 rfl rfl rfl) (hend 15 (by omega) (by unfold mergeE; rw [if_neg hbase, if_pos ⟨hneA.2 c1, hneB.2 c2, by rw [k0, k1]; exact c3⟩])))
      · have d2 : decide ((0 : Int) < (B.length : Int)) = false := decide_eq_false (by omega)
        refine T.regionQ (by kernel_rfl) ?_; refine TQ.pv (PV.move rfl) Wanted.none rfl rfl ?_; refine TQ.pv (PV.lenSl rfl) Wanted.none rfl rfl ?_; refine TQ.pv (PV.gtr rfl rfl) Wanted.none rfl rfl ?_; refine TQ.pv (PV.move rfl) Wanted.none rfl rfl ?_; refine TQ.pv (PV.move rfl) (Wanted.guard rfl rfl (by assumption)) rfl rfl ?_; refine TQ.pv (PV.lenSl rfl) (Wanted.guard rfl rfl (by assumption)) rfl rfl ?_; refine TQ.pv (PV.gtr rfl rfl) (Wanted.guard rfl rfl (by assumption)) rfl rfl ?_; refine TQ.pv (PV.pickT rfl (by assumption) rfl) Wanted.none rfl rfl ?_; refine TQ.pv (PV.move rfl) Wanted.none rfl rfl ?_; refine TQ.pass (Unwanted.guard rfl rfl (by assumption)) rfl rfl ?_; refine TQ.pass (Unwanted.guard rfl rfl (by assumption)) rfl rfl ?_; refine TQ.pass (Unwanted.guard rfl rfl (by assumption)) rfl rfl ?_; refine TQ.pass (Unwanted.guard rfl rfl (by assumption)) rfl rfl ?_; refine TQ.pass (Unwanted.guard rfl rfl (by assumption)) rfl rfl ?_; refine TQ.pass (Unwanted.guard rfl rfl (by assumption)) rfl rfl ?_; refine TQ.pass (Unwanted.guard rfl rfl (by assumption)) rfl rfl ?_; refine TQ.pass (Unwanted.guard rfl rfl (by assumption)) rfl rfl ?_; refine TQ.pass (Unwanted.guard rfl rfl (by assumption)) rfl rfl ?_; refine TQ.pass (Unwanted.guard rfl rfl (by assumption)) rfl rfl ?_; refine TQ.pass (Unwanted.guard rfl rfl (by assumption)) rfl rfl ?_; refine TQ.pv (PV.pickF rfl (by assumption) rfl) Wanted.none rfl rfl ?_; refine TQ.nil ?_; refine T.condF rfl rfl ?_; refine T.skip ?_
        refine K () _ _ (hgo fun h => c2 (hneB.1 h.2.1)) ?_ ?_; (focus exact zq8); (focus exact (by repeat (first | exact Sel.refl _ | exact Sel.nil | (refine Sel.cons zq1 ?_) | (refine Sel.app zq1 ?_) | exact Sel.one zq1)))
    · have d1 : decide ((0 : Int) < (A.length : Int)) = false := decide_eq_false (by omega)
      refine T.regionQ (by kernel_rfl) ?_; refine TQ.pv (PV.move rfl) Wanted.none rfl rfl ?_; refine TQ.pv (PV.lenSl rfl) Wanted.none rfl rfl ?_; refine TQ.pv (PV.gtr rfl rfl) Wanted.none rfl rfl ?_; refine TQ.pv (PV.move rfl) Wanted.none rfl rfl ?_; refine TQ.pass (Unwanted.guard rfl rfl (by assumption)) rfl rfl ?_; refine TQ.pass (Unwanted.guard rfl rfl (by assumption)) rfl rfl ?_; refine TQ.pass (Unwanted.guard rfl rfl (by assumption)) rfl rfl ?_; refine TQ.pv (PV.pickF rfl (by assumption) rfl) Wanted.none rfl rfl ?_; refine TQ.pv (PV.move rfl) Wanted.none rfl rfl ?_; refine TQ.pass (Unwanted.guard rfl rfl rfl) rfl rfl ?_; refine TQ.pass (Unwanted.guard rfl rfl rfl) rfl rfl ?_; refine TQ.pass (Unwanted.guard rfl rfl rfl) rfl rfl ?_; refine TQ.pass (Unwanted.guard rfl rfl rfl) rfl rfl ?_; refine TQ.pass (Unwanted.guard rfl rfl rfl) rfl rfl ?_; refine TQ.pass (Unwanted.guard rfl rfl rfl) rfl rfl ?_; refine TQ.pass (Unwanted.guard rfl rfl rfl) rfl rfl ?_; refine TQ.pass (Unwanted.guard rfl rfl rfl) rfl rfl ?_; refine TQ.pass (Unwanted.guard rfl rfl rfl) rfl rfl ?_; refine TQ.pass (Unwanted.guard rfl rfl rfl) rfl rfl ?_; refine TQ.pass (Unwanted.guard rfl rfl rfl) rfl rfl ?_; refine TQ.pv (PV.pickF rfl rfl rfl) Wanted.none rfl rfl ?_; refine TQ.nil ?_; refine T.condF rfl rfl ?_; refine T.skip ?_
      refine K () _ _ (hgo fun h => c1 (hneA.1 h.1)) ?_ ?_; (focus exact zq8); (focus exact (by repeat (first | exact Sel.refl _ | exact Sel.nil | (refine Sel.cons zq1 ?_) | (refine Sel.app zq1 ?_) | exact Sel.one zq1)))
  rintro ⟨⟩ h0
  dsimp only [List.nil_append]
  have hABn : ∀ x ∈ A ++ B, 0 ≤ x.n ∧ x.n ≤ 1099511627776 := by
    intro x hx
    rcases List.mem_append.1 hx with hx | hx
    · exact ⟨hpA x hx hv, hAn x hx⟩
    · exact ⟨hpB x hx hw, hBn x hx⟩
  have hlen : (A ++ B).length = A.length + B.length := List.length_append
  refine zs3 ?_; (refine T.buildSlice Wanted.none rfl rfl zq11 (by exact rfl) (by exact rfl) ?_; intro b35); refine sm ?_; (refine T.appendP (lv := []) Wanted.none rfl rfl rfl (Vec.empty 34 2 _) hA.1.src (one_flatW hA.2) (by omega) zq1 ?_; intro v37 lv37 hv37 _; obtain ⟨ad37, cap37, rfl⟩ := hv37.val); refine sm ?_; (refine T.appendP (lv := lv37) Wanted.none rfl rfl rfl hv37 hB.1.src (one_flatW hB.2) (by omega) zq1 ?_; intro v39 lv39 hv39 _; obtain ⟨ad39, cap39, rfl⟩ := hv39.val); (refine T.freezeP (lv := lv39) hv39 zq1 ?_; intro H5 h5 hs5; refine T.call Wanted.none rfl rfl (sum_ref (A ++ B) _ H5 ⟨?_, ?_⟩ ?_ hABn) ?_; (focus exact (by rw [hlen, List.flatMap_append]; simpa using hs5)); (focus exact fun x hx => (List.mem_append.1 hx).elim (fun h => (hA.2 x h).mono h5) (fun h => (hB.2 x h).mono h5)); (focus omega); rintro _ H40 h40 ⟨C, hC2, hCk⟩; obtain ⟨a40, c40, rfl⟩ := hC2.1.len); refine sa ?_; refine sa ?_; refine so ?_
  exact T.retF (Lv.fin (RV.tmp2 rfl rfl rfl) ⟨_, C, by rw [h0], hC2, fun _ => by rw [hCk, hmap], fun h => absurd h0 h⟩)
end Go.Proofs.YthacphfjchpoaaaDoor
namespace Go.Proofs.YthacphfjchpoaaaDoor
open Go.RowKit

/-- rows of any keys -/
def RwL0 (H : Hp) (v : Value) (l : List Rw) : Prop := SlR H 2 v l.length (l.flatMap encRw) ∧ ∀ r ∈ l, StL H r.kv r.ks ∧ r.ks.length ≤ 2000000 ∧ ∀ k ∈ r.ks, k.size ≤ 2000000
theorem RwL0.mono {H H' : Hp} {v : Value} {l : List Rw} (h : RwL0 H v l) (hl : H.le H') : RwL0 H' v l := ⟨h.1.mono hl, fun r hr => ⟨(h.2 r hr).1.mono hl, (h.2 r hr).2⟩⟩
def fewR (r : Rw) : Bool := decide (r.ks.length ≤ 6) && decide (r.n ≤ 1099511627776)
def fewB (l : List Rw) : Bool := decide (l.length ≤ 12) && l.all fewR
theorem joinL_bound2 : ∀ (ks : List ByteArray), (∀ k ∈ ks, k.size ≤ 2000000) → (joinL ks).length ≤ ks.length * 2000100
  | [], _ => Nat.zero_le _
  | k :: ks, h => by
    have h1 := joinL_bound2 ks fun x hx => h x (List.mem_cons_of_mem _ hx)
    have h2 := h k (List.mem_cons_self ..)
    have h3 := Lib.itoa_length_le (k.size : Int) (by omega) (by omega)
    rw [Lib.itoa_nonneg] at h3
    have h4 : k.data.toList.length = k.size := Array.length_toList
    rw [joinL]
    simp only [List.length_append, List.length_cons]
    rw [h4, Nat.add_mul]
    omega
theorem few_ok {H : Hp} {v : Value} {l : List Rw} (h : RwL0 H v l) (hf : fewB l = true) : RwL H v l ∧ l.length ≤ 12 ∧ ∀ r ∈ l, r.n ≤ 1099511627776 := by
  unfold fewB at hf
  simp only [Bool.and_eq_true, decide_eq_true_eq] at hf
  have hr : ∀ r ∈ l, r.ks.length ≤ 6 ∧ r.n ≤ 1099511627776 := fun r hr => by
    have := List.all_eq_true.1 hf.2 r hr
    unfold fewR at this
    simpa using this
  refine ⟨⟨h.1, fun r hm => ⟨(h.2 r hm).1, by have := hr r hm; omega, ?_⟩⟩, hf.1, fun r hm => (hr r hm).2⟩
  have h1 := joinL_bound2 r.ks (h.2 r hm).2.2
  have h2 : r.ks.length * 2000100 ≤ 6 * 2000100 := Nat.mul_le_mul_right _ (hr r hm).1
  omega
theorem all_noF {α : Type} {f : α → Bool} {l : List α} {i : Nat} {x : α} (h : l[i]? = some x) (hf : f x = false) : l.all f = false := by
  cases ha : l.all f
  · rfl
  · rw [List.all_eq_true.1 ha x (List.mem_of_getElem? h)] at hf; cases hf
set_option maxHeartbeats 1000000 in
theorem few_fn (L : List Rw) (v : Value) (H : Hp) (hL : RwL0 H v L) : Fn Tryd.prog 4 #[v] H (fun u _ => u = .bool (fewB L)) := by
  obtain ⟨am, cm, rfl⟩ := hL.1.len
  refine Fn.of_T (vs := [.slice am L.length cm]) Tryd.func4 rfl rfl fun w => ?_
  by_cases h12 : 12 < L.length
  · refine zs3 ?_; refine sa ?_; refine so ?_; refine sq ?_; refine zs3 ?_; refine sm ?_; refine sv (PV.lenSl rfl) ?_; refine sv (PV.gtr rfl rfl) ?_; refine so ?_; refine sc rfl (by omega) ?_; refine zs3 ?_; refine sa ?_; refine so ?_
    exact T.retF (Lv.fin (RV.tmp rfl rfl) (by unfold fewB; rw [decide_eq_false (by omega)]; rfl))
  have hb : fewB L = L.all fewR := by unfold fewB; rw [decide_eq_true (by omega), Bool.true_and]
  rw [hb]
  refine zs3 ?_; refine sa ?_; refine so ?_; refine sq ?_; refine zs3 ?_; refine sm ?_; refine sv (PV.lenSl rfl) ?_; refine sv (PV.gtr rfl rfl) ?_; refine so ?_; refine sd rfl (by omega) ?_; refine T.skip ?_; refine sq ?_; refine zs3 ?_; refine sm ?_; refine sv (PV.lenSl rfl) ?_; refine sm ?_; refine so ?_; refine T.block ?_; refine T.loopC [(9, Value.int IntKind.i64 (↑L.length : Int)), (8, Value.slice am L.length cm)] zq8 10 L.length (fun i => (L.take i).all fewR = true) rfl rfl ?_
  rintro i ⟨hi0, hi1⟩
  by_cases hi : i < L.length
  · obtain ⟨b, off, r, rfl, hix, hsub⟩ := RowL.get encRw_len hL.1 hi
    obtain ⟨ar, cr, hrv⟩ := (hL.2 r (List.mem_of_getElem? hix)).1.len
    unfold encRw at hsub
    rw [hrv] at hsub
    by_cases h6 : 6 < r.ks.length
    · have hno := all_noF hix (show fewR r = false by unfold fewR; rw [decide_eq_false (by omega)]; rfl)
      refine zs3 ?_; refine sv (PV.lss rfl rfl) ?_; refine so ?_; refine sq ?_; refine sc rfl (by omega) ?_; refine T.skip ?_; refine sq ?_; refine T.block ?_; refine zs3 ?_; refine sv (PV.indexAddr rfl rfl (by omega)) ?_; refine sv (PV.loadSubAll rfl (by assumption) (by exact rfl)) ?_; refine sy fun b4 => ?_; refine T.storeA Wanted.none rfl rfl zq8 (by exact rfl) zq14 zq13 ?_; refine zs1 ?_; refine sf ?_; refine sl ?_; refine sv (PV.lenSl rfl) ?_; refine sv (PV.gtr rfl rfl) ?_; refine sm ?_; refine T.setT (d := 18) rfl (by omega) ?_; refine sp ?_; refine sp ?_; refine sp ?_; refine sT ?_; refine so ?_; refine T.condT rfl rfl ?_; refine zs3 ?_; refine sa ?_; refine so ?_
      exact T.retF (Lv.fin (RV.tmp rfl rfl) (by rw [hno]))
    · by_cases hn : 1099511627776 < r.n
      · have hno := all_noF hix (show fewR r = false by unfold fewR; rw [decide_eq_false (show ¬ r.n ≤ 1099511627776 by omega)]; simp)
        refine zs3 ?_; refine sv (PV.lss rfl rfl) ?_; refine so ?_; refine sq ?_; refine sc rfl (by omega) ?_; refine T.skip ?_; refine sq ?_; refine T.block ?_; refine zs3 ?_; refine sv (PV.indexAddr rfl rfl (by omega)) ?_; refine sv (PV.loadSubAll rfl (by assumption) (by exact rfl)) ?_; refine sy fun b4 => ?_; refine T.storeA Wanted.none rfl rfl zq8 (by exact rfl) zq14 zq13 ?_; refine zs1 ?_; refine sf ?_; refine sl ?_; refine sv (PV.lenSl rfl) ?_; refine sv (PV.gtr rfl rfl) ?_; refine sm ?_; refine T.setF (d := 18) rfl (by omega) ?_; refine gf ?_; refine gl ?_; refine gv (PV.gtr rfl rfl) ?_; refine sF ?_; refine so ?_; refine sc rfl (by omega) ?_; refine zs3 ?_; refine sa ?_; refine so ?_
        exact T.retF (Lv.fin (RV.tmp rfl rfl) (by rw [hno]))
      · have hok : fewR r = true := by unfold fewR; rw [decide_eq_true (show r.ks.length ≤ 6 by omega), decide_eq_true (show r.n ≤ 1099511627776 by omega)]; rfl
        refine zs3 ?_; refine sv (PV.lss rfl rfl) ?_; refine so ?_; refine sq ?_; refine sc rfl (by omega) ?_; refine T.skip ?_; refine sq ?_; refine T.block ?_; refine zs3 ?_; refine sv (PV.indexAddr rfl rfl (by omega)) ?_; refine sv (PV.loadSubAll rfl (by assumption) (by exact rfl)) ?_; refine sy fun b4 => ?_; refine T.storeA Wanted.none rfl rfl zq8 (by exact rfl) zq14 zq13 ?_; refine zs1 ?_; refine sf ?_; refine sl ?_; refine sv (PV.lenSl rfl) ?_; refine sv (PV.gtr rfl rfl) ?_; refine sm ?_; refine T.setF (d := 18) rfl (by omega) ?_; refine gf ?_; refine gl ?_; refine gv (PV.gtr rfl rfl) ?_; refine sF ?_; refine so ?_; refine sd rfl (by omega) ?_; refine T.skip ?_; refine T.blkEnd ?_; refine sr ?_; refine sv (PV.add rfl rfl (by omega)) ?_; refine sm ?_; refine so ?_
        exact T.nextC hi (all_drop hi1 hix hok) rfl zq8 (by repeat (first | exact Sel.refl _ | exact Sel.nil | (refine Sel.cons zq1 ?_) | (refine Sel.app zq1 ?_) | exact Sel.one zq1))
  · rw [List.take_of_length_le (by omega)] at hi1
    refine zs3 ?_; refine sv (PV.lss rfl rfl) ?_; refine so ?_; refine sq ?_; refine sd rfl (by omega) ?_; refine T.exit rfl ?_; refine zs3 ?_; refine sa ?_; refine so ?_
    exact T.retF (Lv.fin (RV.tmp rfl rfl) (by rw [hi1]))
theorem same_eq2 {l m : List Rw} (h : l.map rwK = m.map rwK) (hl : l.length ≤ 1000000) (H : Hp) (u v : Value) (hu : RwL H u l) (hv : RwL H v m) : Fn Tryd.prog 13 #[u, v] H (fun x _ => x = .bool true) := by
  have := same35_fn l m u v H hu hv hl
  rwa [decide_eq_true h] at this
theorem mar_len (l : List RK) (k : Nat) : (marR l k).length ≤ l.length := by
  have h1 := (sumR_grp (l.map fun r => ([r.1.getD k ⟨#[]⟩], r.2))).length_eq
  have h2 := grpR_len (l.map fun r => ([r.1.getD k ⟨#[]⟩], r.2))
  rw [List.length_map] at h2
  unfold marR
  omega
theorem sum_len (l : List RK) : (sumR l).length ≤ l.length := by
  have h1 := (sumR_grp l).length_eq
  have h2 := grpR_len l
  omega
set_option maxHeartbeats 8000000 in
theorem sums_law (A B : List Rw) (k : Int) (va vb : Value) (H : Hp) (hT : PowT H) (hA0 : RwL0 H va A) (hB0 : RwL0 H vb B) :
    Fn Tryd.prog 3 #[va, vb, .int .i64 k] H (fun u _ => u = .bool true) := by
  have fa := few_fn A va H hA0
  have fb := few_fn B vb H hB0
  obtain ⟨aa, ca, rfl⟩ := hA0.1.len
  obtain ⟨ab, cb, rfl⟩ := hB0.1.len
  refine Fn.of_T (vs := [.slice aa A.length ca, .slice ab B.length cb, .int .i64 k]) Tryd.func3 rfl rfl fun w => ?_
  cases hfa : fewB A
  · rw [hfa] at fa
    refine zs3 ?_; refine sa ?_; refine so ?_; refine sq ?_; refine zs3 ?_; refine sm ?_; refine T.callV Wanted.none rfl rfl (fa) ?_; refine sv (PV.not rfl) ?_; refine sm ?_; refine sp ?_; refine sp ?_; refine sp ?_; refine sT ?_; refine so ?_; refine T.condT rfl rfl ?_; refine zs3 ?_; refine sa ?_; refine so ?_
    exact T.retF (Lv.fin (RV.tmp rfl rfl) rfl)
  cases hfb : fewB B
  · rw [hfa] at fa
    rw [hfb] at fb
    refine zs3 ?_; refine sa ?_; refine so ?_; refine sq ?_; refine zs3 ?_; refine sm ?_; refine T.callV Wanted.none rfl rfl (fa) ?_; refine sv (PV.not rfl) ?_; refine sm ?_; refine gm ?_; refine T.callV (Wanted.guard rfl rfl rfl) rfl rfl (fb) ?_; refine gv (PV.not rfl) ?_; refine sF ?_; refine so ?_; refine T.condT rfl rfl ?_; refine zs3 ?_; refine sa ?_; refine so ?_
    exact T.retF (Lv.fin (RV.tmp rfl rfl) rfl)
  rw [hfa] at fa
  rw [hfb] at fb
  obtain ⟨hA, hAl, hAn⟩ := few_ok hA0 hfa
  obtain ⟨hB, hBl, hBn⟩ := few_ok hB0 hfb
  have m1 := fun H' (h : H.le H') => margin_in A (.slice aa A.length ca) k H' (hT.mono h) (hA.mono h) (by omega) hAn
  have m2 := fun H' (h : H.le H') => margin_ref A (.slice aa A.length ca) k H' (hA.mono h) (by omega) hAn
  have g1 := fun H' (h : H.le H') => merge_in A B (.slice aa A.length ca) (.slice ab B.length cb) H' (hT.mono h) (hA.mono h) (hB.mono h) (by omega) (by omega) hAn hBn
  have g2 := fun H' (h : H.le H') => merge_ref A B (.slice aa A.length ca) (.slice ab B.length cb) H' (hA.mono h) (hB.mono h) (by omega) (by omega) hAn hBn
  have v1 := fun H' (h : H.le H') => valid_in A (.slice aa A.length ca) H' (hT.mono h) (hA.mono h) (by omega)
  have v2 := fun H' (h : H.le H') => valid_ref A (.slice aa A.length ca) H' (hA.mono h) (by omega)
  have t1 := fun H' (h : H.le H') => total_in A (.slice aa A.length ca) H' (hT.mono h) (hA.mono h) (by omega) hAn
  have t2 := fun H' (h : H.le H') => total_ref A (.slice aa A.length ca) H' (hA.mono h) (by omega) hAn
  have hml := mar_len (A.map rwK) k.toNat
  have hsl := sum_len (A.map rwK ++ B.map rwK)
  rw [List.length_map] at hml
  rw [List.length_append, List.length_map, List.length_map] at hsl
  generalize validR (A.map rwK) = q at v1 v2
  generalize totalR (A.map rwK) = z at t1 t2
  generalize marE (A.map rwK) k = e1 at m1 m2
  generalize mergeE (A.map rwK) (B.map rwK) = e2 at g1 g2
  generalize marR (A.map rwK) k.toNat = R1 at m1 m2 hml
  generalize sumR (A.map rwK ++ B.map rwK) = R2 at g1 g2 hsl
  refine zs3 ?_; refine sa ?_; refine so ?_; refine sq ?_; refine zs3 ?_; refine sm ?_; refine T.callV Wanted.none rfl rfl (fa) ?_; refine sv (PV.not rfl) ?_; refine sm ?_; refine gm ?_; refine T.callV (Wanted.guard rfl rfl rfl) rfl rfl (fb) ?_; refine gv (PV.not rfl) ?_; refine sF ?_; refine so ?_; refine T.condF rfl rfl ?_; refine T.skip ?_; refine zs3 ?_; refine sm ?_; refine sm ?_; (refine T.call Wanted.none rfl rfl (m1 _ zq20) ?_; rintro _ H26 h26 ⟨_, A1, rfl, hA1, qa1, qb1⟩; obtain ⟨aa1, ca1, rfl⟩ := hA1.1.len); refine sm ?_; refine sv (PV.extract rfl rfl) ?_; refine sv (PV.extract rfl rfl) ?_; refine sa ?_; refine sa ?_; refine zs1 ?_; refine sm ?_; refine sm ?_; (refine T.call Wanted.none rfl rfl (m2 _ zq20) ?_; rintro _ H32 h32 ⟨_, A2, rfl, hA2, qa2, qb2⟩; obtain ⟨aa2, ca2, rfl⟩ := hA2.1.len); refine sm ?_; refine sv (PV.extract rfl rfl) ?_; refine sv (PV.extract rfl rfl) ?_; refine sa ?_; refine sa ?_; refine zs1 ?_; refine sm ?_; refine sm ?_; (refine T.call Wanted.none rfl rfl (g1 _ zq20) ?_; rintro _ H38 h38 ⟨_, A3, rfl, hA3, qa3, qb3⟩; obtain ⟨aa3, ca3, rfl⟩ := hA3.1.len); refine sm ?_; refine sv (PV.extract rfl rfl) ?_
  refine sv (PV.extract rfl rfl) ?_; refine sa ?_; refine sa ?_; refine zs1 ?_; refine sm ?_; refine sm ?_; (refine T.call Wanted.none rfl rfl (g2 _ zq20) ?_; rintro _ H44 h44 ⟨_, A4, rfl, hA4, qa4, qb4⟩; obtain ⟨aa4, ca4, rfl⟩ := hA4.1.len); refine sm ?_; refine sv (PV.extract rfl rfl) ?_; refine sv (PV.extract rfl rfl) ?_; refine sa ?_; refine sa ?_; refine so ?_
  have e12 : A1.map rwK = A2.map rwK := by
    by_cases h0 : e1 = 0
    · rw [qa1 h0, qa2 h0]
    · rw [qb1 h0, qb2 h0]
  have e34 : A3.map rwK = A4.map rwK := by
    by_cases h0 : e2 = 0
    · rw [qa3 h0, qa4 h0]
    · rw [qb3 h0, qb4 h0]
  have l1 : A1.length ≤ 1000000 := by
    by_cases h0 : e1 = 0
    · have := congrArg List.length (qa1 h0); rw [List.length_map] at this; omega
    · rw [qb1 h0]; simp
  have l3 : A3.length ≤ 1000000 := by
    by_cases h0 : e2 = 0
    · have := congrArg List.length (qa3 h0); rw [List.length_map] at this; omega
    · rw [qb3 h0]; simp
  have d1 : decide (q = q) = true := by simp
  have d2 : decide (z = z) = true := by simp
  have d3 : decide (e1 = e1) = true := by simp
  have d4 : decide (e2 = e2) = true := by simp
  refine zs3 ?_; refine sm ?_; (refine T.callX Wanted.none rfl rfl (v1 _ zq20) ?_; rintro _ rfl); refine sm ?_; (refine T.callX Wanted.none rfl rfl (v2 _ zq20) ?_; rintro _ rfl); refine sv (PV.beql rfl rfl) ?_; refine sm ?_; refine T.pv (PV.move rfl) (Wanted.guard rfl rfl (by assumption)) rfl rfl ?_; (refine T.callX (Wanted.guard rfl rfl (by assumption)) rfl rfl (t1 _ zq20) ?_; rintro _ rfl); refine T.pv (PV.move rfl) (Wanted.guard rfl rfl (by assumption)) rfl rfl ?_; (refine T.callX (Wanted.guard rfl rfl (by assumption)) rfl rfl (t2 _ zq20) ?_; rintro _ rfl); refine T.pv (PV.eql rfl rfl) (Wanted.guard rfl rfl (by assumption)) rfl rfl ?_; refine sv (PV.pickT rfl (by assumption) rfl) ?_; refine sm ?_; refine T.pv (PV.move rfl) (Wanted.guard rfl rfl (by assumption)) rfl rfl ?_; refine T.pv (PV.move rfl) (Wanted.guard rfl rfl (by assumption)) rfl rfl ?_; refine T.pv (PV.eql rfl rfl) (Wanted.guard rfl rfl (by assumption)) rfl rfl ?_; refine sv (PV.pickT rfl (by assumption) rfl) ?_; refine sm ?_; refine T.pv (PV.move rfl) (Wanted.guard rfl rfl (by assumption)) rfl rfl ?_; refine T.pv (PV.move rfl) (Wanted.guard rfl rfl (by assumption)) rfl rfl ?_; (refine T.callX (Wanted.guard rfl rfl (by assumption)) rfl rfl (same_eq2 e12 l1 _ _ _ (hA1.mono zq20) (hA2.mono zq20)) ?_; rintro _ rfl); refine sv (PV.pickT rfl (by assumption) rfl) ?_; refine sm ?_; refine gm ?_; refine gm ?_; refine gv (PV.eql rfl rfl) ?_; refine sT ?_; refine sm ?_; refine T.pv (PV.move rfl) (Wanted.guard rfl rfl (by assumption)) rfl rfl ?_; refine T.pv (PV.move rfl) (Wanted.guard rfl rfl (by assumption)) rfl rfl ?_; (refine T.callX (Wanted.guard rfl rfl (by assumption)) rfl rfl (same_eq2 e34 l3 _ _ _ (hA3.mono zq20) (hA4.mono zq20)) ?_; rintro _ rfl); refine sv (PV.pickT rfl (by assumption) rfl) ?_; refine sm ?_; (refine T.callX (Wanted.guard rfl rfl rfl) rfl rfl (known35_fn _ (hT.mono zq20)) ?_; rintro _ rfl); refine sT ?_; refine sa ?_; refine so ?_
  exact T.retF (Lv.fin (RV.tmp rfl rfl) rfl)
end Go.Proofs.YthacphfjchpoaaaDoor
namespace Go.Proofs.YthacphfjchpoaaaDoor
open Go.RowKit Go.ChangeShapes Go.WideShapes Go.ChangeAt Go.Deep

section
variable {H : Type} {enc : TypeId × Value → H} {P : Program} {w : World} {base : Nat} {spare : Nat → Bool} {held : Bool}
theorem bulk_mem {d : DataW H} : ∀ {l : List (DataW H)}, d ∈ l → Rows.uptoBulk d ≤ Rows.uptoBulkAll l
  | [], h => by cases h
  | x :: l, h => by
    rw [Rows.uptoBulkAll]
    rcases List.mem_cons.1 h with rfl | h
    · omega
    · have := bulk_mem h; omega
theorem bulk_pos (d : DataW H) : 1 ≤ Rows.uptoBulk d := by
  cases d with
  | lit l => cases l <;> simp [Rows.uptoBulk]
  | _ => simp [Rows.uptoBulk]
theorem bulk_len : ∀ (l : List (DataW H)), l.length ≤ Rows.uptoBulkAll l
  | [] => Nat.zero_le _
  | x :: l => by
    rw [Rows.uptoBulkAll, List.length_cons]
    have := bulk_pos x
    have := bulk_len l
    omega
theorem strs_of_trod {t e : TypeId} {fuel : Nat} {v : Value} {x : DataW H × List MemPlace} (ht : P.underlying t = some (.slice e)) (he : P.underlying e = some .string) (ce : P.cellsOf e = 1)
    (h : DataW.trod enc P w base spare held fuel t [v] = some x) {N : Nat} (hb : Rows.uptoBulk x.1 ≤ N) : ∃ l : List ByteArray, StL (fun b => w.heap[b]?) v l ∧ l.length ≤ N ∧ ∀ k ∈ l, k.size ≤ N := by
  rcases open_strs ht he ce h with ⟨hcs, _⟩ | ⟨ad, len, cap, m, Sx, hcs, _, hl, hm, hmm, rfl, hi⟩
  · simp only [List.cons.injEq, and_true] at hcs
    subst hcs
    exact ⟨[], SlR.empty, Nat.zero_le _, by simp⟩
  · simp only [List.cons.injEq, and_true] at hcs
    subst hcs
    have hlm : len ≤ m := by rw [hmm]; split <;> omega
    rw [Rows.uptoBulk] at hb
    have h1 := bulk_len ((List.range len).map fun i => (DataW.lit (.string (Sx i).data.toList) : DataW H))
    rw [List.length_map, List.length_range] at h1
    refine ⟨(List.range len).map Sx, ?_, by rw [List.length_map, List.length_range]; omega, fun k hk => ?_⟩
    · unfold StL
      rw [List.length_map, List.length_range]
      rcases Nat.eq_zero_or_pos len with h00 | hpos
      · subst h00; exact ⟨by simp, .inl ⟨⟨_, _, rfl⟩, rfl⟩⟩
      · refine row_slrX (by omega) hpos hl (by rw [flat_len (f := encT) (sz := 1) (fun _ => rfl), List.length_map, List.length_range]) fun j hj => ?_
        rw [(hi j (by omega)).1]
        have hx : ((List.range len).map Sx)[j]? = some (Sx j) := by rw [List.getElem?_map, List.getElem?_range (by omega)]; rfl
        have hel := flat_elem (f := encT) (sz := 1) (fun _ => rfl) ((List.range len).map Sx) j _ hx
        have := congrArg (fun l => l[0]?) hel
        simp only [Nat.mul_one, List.getElem?_take, List.getElem?_drop, Nat.add_zero] at this
        simpa [encT] using this.symm
    · obtain ⟨i, hir, rfl⟩ := List.mem_map.1 hk
      have h2 : (DataW.lit (.string (Sx i).data.toList) : DataW H) ∈ (List.range len).map fun i => (DataW.lit (.string (Sx i).data.toList) : DataW H) := List.mem_map.2 ⟨i, hir, rfl⟩
      have h3 := bulk_mem h2
      rw [Rows.uptoBulk] at h3
      have h4 : (Sx i).data.toList.length = (Sx i).size := Array.length_toList
      omega
theorem open_rows {r : Reach} {b0 : Nat} {t e te : TypeId} {f0 f1 : Field} {v : Value} {d : DataW H} {p : List MemPlace} (ht : P.underlying t = some (.slice e)) (he : P.underlying e = some (.struct #[f0, f1]))
    (hone : oneCellFields P #[f0, f1] = true) (hC : P.cellsOf e = 2) (k0 : P.underlying f0.type = some (.slice te)) (ks : P.underlying te = some .string) (kc : P.cellsOf te = 1) (k1 : P.underlying f1.type = some (.int .i64))
    (hv : Value.okWide P w r b0 t v) (h : DataW.Trod enc P w base spare held t v d p) (hb : Rows.uptoBulk d ≤ 1048576) :
    ∃ x : List Rw, RwL0 (fun b => w.heap[b]?) v x := by
  obtain ⟨a, len, cap, rfl⟩ := okWide_slice ht hv
  obtain ⟨fuel, hf⟩ := h
  rcases open_slice ht hf with ⟨hcs, _⟩ | ⟨ad, len', cap', m, n, D, Pl, hcs, _, hlc, hm, hmm, hx, hI⟩
  · simp only [Value.cells, List.cons.injEq, and_true] at hcs
    injection hcs with e1 e2 e3
    subst e1 e2 e3
    exact ⟨[], SlR.empty, by simp⟩
  · simp only [Value.cells, List.cons.injEq, and_true] at hcs
    injection hcs with e1 e2 e3
    subst e1 e2 e3
    injection hx with hd hp
    subst hd
    rw [Rows.uptoBulk] at hb
    have hlm : len ≤ m := by rw [hmm]; split <;> omega
    have hE : ∀ i, i < len → ∃ x : Rw, (StL (fun b => w.heap[b]?) x.kv x.ks ∧ x.ks.length ≤ 2000000 ∧ ∀ k ∈ x.ks, k.size ≤ 2000000) ∧ ∀ j, j < 2 → w.cell? (ad.add (i * 2 + j)) = (encRw x)[j]? := by
      intro i hin
      obtain ⟨cs', hc, ht'⟩ := hI i (by omega)
      rw [hC] at hc
      obtain ⟨ys, n', _, hy, _, hyl, hfs⟩ := DataW.trod_struct he ht'
      obtain ⟨_, hcl, hat⟩ := World.cells?_some hc
      injection hy with hy1 hy2
      have hyl2 : ys.length = 2 := hyl
      have field : ∀ (j : Nat) (f : Field), (#[f0, f1] : Array Field)[j]? = some f → j < 2 → ∃ u y, cs'[j]? = some u ∧ ys[j]? = some y ∧ DataW.trod enc P w base spare held n' f.type [u] = some y := by
        intro j f hj hj3
        obtain ⟨ho, hk⟩ := hone_of hone j f hj
        have h1 := hfs j f hj
        rw [ho, hk, List.drop_eq_getElem_cons (by omega)] at h1
        exact ⟨cs'[j]'(by omega), ys[j]'(by omega), List.getElem?_eq_getElem (by omega), List.getElem?_eq_getElem (by omega), by rw [← List.getElem?_eq_getElem, ← h1]; rfl⟩
      obtain ⟨u0, y0, c0, q0, t0⟩ := field 0 f0 rfl (by omega)
      obtain ⟨u1, y1, c1, q1, t1⟩ := field 1 f1 rfl (by omega)
      obtain ⟨x1, hx1, _, _⟩ := DataW.trod_int k1 t1
      obtain rfl : u1 = _ := by simpa using hx1
      have hys : ys = [y0, y1] := by
        apply List.ext_getElem?
        intro j
        rcases (by omega : j = 0 ∨ j = 1 ∨ 2 ≤ j) with rfl | rfl | h3
        · rw [q0]; rfl
        · rw [q1]; rfl
        · rw [List.getElem?_eq_none (by omega), List.getElem?_eq_none (by simpa using h3)]
      have hbi : Rows.uptoBulk y0.1 ≤ 1048576 := by
        have h1 : D i ∈ (List.range len).map D := List.mem_map.2 ⟨i, List.mem_range.2 hin, rfl⟩
        have h2 := bulk_mem h1
        rw [hy1, hys] at h2
        simp only [List.map_cons, List.map_nil, Rows.uptoBulk, Rows.uptoBulkAll] at h2
        omega
      obtain ⟨ls, hls, hlen, hsz⟩ := strs_of_trod k0 ks kc t0 hbi
      refine ⟨⟨u0, ls, x1⟩, ⟨hls, by show ls.length ≤ _; omega, fun k hk => by have := hsz k hk; omega⟩, fun j hj => ?_⟩
      have hadd : ad.add (i * 2 + j) = (ad.add (i * 2)).add j := by rw [Addr.add_add]
      rw [hadd, hat j hj]
      rcases (by omega : j = 0 ∨ j = 1) with rfl | rfl
      · exact c0
      · exact c1
    let F : Nat → Rw := fun i => if hh : i < len then (hE i hh).choose else ⟨.slice none 0 0, [], 0⟩
    have hF : ∀ i, i < len → (StL (fun b => w.heap[b]?) (F i).kv (F i).ks ∧ (F i).ks.length ≤ 2000000 ∧ ∀ k ∈ (F i).ks, k.size ≤ 2000000) ∧ ∀ j, j < 2 → w.cell? (ad.add (i * 2 + j)) = (encRw (F i))[j]? := by
      intro i hh
      have := (hE i hh).choose_spec
      simp only [F, dif_pos hh]; exact this
    refine ⟨(List.range len).map F, ?_, ?_⟩
    · rw [List.length_map, List.length_range]
      rcases Nat.eq_zero_or_pos len with h00 | hpos
      · subst h00; exact ⟨by simp, .inl ⟨⟨_, _, rfl⟩, rfl⟩⟩
      · refine row_slrX (by omega) hpos hlc (by rw [flat_len (f := encRw) (sz := 2) (fun _ => rfl), List.length_map, List.length_range]) fun j hj => ?_
        have hq := Nat.div_add_mod j 2
        have hmod := Nat.mod_lt j (show 0 < 2 by omega)
        have hq' : j / 2 < len := by omega
        have hel := flat_elem (f := encRw) (sz := 2) (fun _ => rfl) ((List.range len).map F) (j / 2) (F (j / 2)) (by rw [List.getElem?_map, List.getElem?_range hq']; rfl)
        have e2 : (((List.range len).map F).flatMap encRw)[j]? = (encRw (F (j / 2)))[j % 2]? := by
          rw [← hel, List.getElem?_take, if_pos hmod, List.getElem?_drop]; congr 1; omega
        rw [e2, ← (hF _ hq').2 _ hmod]
        congr 2; omega
    · intro y hy
      obtain ⟨i, hir, rfl⟩ := List.mem_map.1 hy
      exact (hF i (List.mem_range.1 hir)).1
/-- the wrap: a condition of the specification's own, and what the row lists -/
theorem rih_cond_and {a : Assume} {C : Checked} {os : Os} {f : FuncId} {fn : Func} {s : OpenSpec} {k : (H : Type) → List (DataW H) → Bool} (hk : s.cond = some k) {F : Stop.Interp} {conds : List PathCond} {apart fresh handsOn again : Bool} {X : World → Array Value → Prop}
    (hX : ∀ (w w' : World) (args : Array Value), w.heap = w'.heap → X w args → X w' args)
    (own : ownKnob C.prog.godebug = none) (started : os.Started) (noInit : C.prog.inits.idxOf? f = none) (hfn : C.prog.funcs[f]? = some fn)
    (witness : ∃ (w : World) (tape : Tape) (i : Input), w.os = os ∧ (w.forCall tape i).Shaped C.prog ∧ i.vars = [] ∧ Input.okWide C.prog (w.forCall tape i) .any w.heap.size f i ∧
      ((s.pre enc C.prog fn conds apart (w.forCall tape i).memory i.args ∧ X (w.forCall tape i).memory i.args) ∧ sizedMet enc C.prog fn s apart (w.forCall tape i).memory i.args) ∧ a.holds C.prog (lone (Frame.enter C.prog f i.args .normal) [] (w.forCall tape i)))
    (contract : ∀ (W : World) (base : Nat) (args : Array Value) (ds gs : List (DataW H)) (before : List MemPlace),
      (∀ (j : Nat) t v, fn.params[j]? = some t → args[j]? = some v → Value.okWide C.prog W .any base t v) →
      DataW.Whole enc C.prog fn.params.toList s.vars apart W args.toList ds gs before →
      k H (ds ++ gs) = true → X W args →
      Calls C.prog f args W fun e W' => ∃ v, e = .returned v ∧ (s.at F).post enc C.prog fn apart fresh handsOn again W args v W') :
    ReturnsInHanded a C os f .any (fun w args => (s.pre enc C.prog fn conds apart w args ∧ X w args) ∧ sizedMet enc C.prog fn s apart w args) ((s.at F).post enc C.prog fn apart fresh handsOn again) := by
  refine returnsInHanded_of_calls own started noInit witness ?_
  intro w tape i _ _ _ hok hpre hholds
  obtain ⟨_, _, _, fn', hfn', _, _, _, _, hval⟩ := hok
  have e : fn' = fn := Option.some.inj (hfn'.symm.trans hfn)
  subst e
  obtain ⟨⟨hp, hx⟩, hz⟩ := hpre
  obtain ⟨ds, gs, before, hw, hc, hkk⟩ := (OpenSpec.pre_some hk conds apart _ _).1 hp
  have hw' := DataW.Whole.of_heap (w' := w.forCall tape i) (by rfl) hw
  refine (contract (w.forCall tape i) w.heap.size i.args ds gs before hval hw' hkk (hX _ _ _ (by rfl) hx)).mono fun e W' ⟨v, he, hp⟩ => ?_
  subst he
  exact ChangeSpec.post_blind hp
theorem wit_cond {C : Checked} {os : Os} {f : FuncId} {fn : Func} {s : OpenSpec} {k : (H : Type) → List (DataW H) → Bool} (hk : s.cond = some k) {conds : List PathCond} {apart : Bool} {X : World → Array Value → Prop} (modest : Bool) (w0 : World) (args : Array Value) (fuel : Nat) (hos : w0.os = os)
    (hsh : (w0.forCall (fun _ _ => 0) ⟨#[], args, []⟩).Shaped C.prog)
    (hok : Input.okWideB C.prog (w0.forCall (fun _ _ => 0) ⟨#[], args, []⟩) f ⟨#[], args, []⟩ = true)
    (hpre : (match DataW.whole enc C.prog (w0.forCall (fun _ _ => 0) ⟨#[], args, []⟩).memory fn.params.toList s.vars apart args.toList fuel with
      | some x => conds.all (PathCond.test C.prog ⟨fn.params.toList, x.1, s.bare.plain.varTypes C.prog, x.2.1⟩) && k H (x.1 ++ x.2.1)
      | none => false) = true)
    (hsz : s.bare.sizedB enc C.prog fn apart (w0.forCall (fun _ _ => 0) ⟨#[], args, []⟩).memory args fuel = true)
    (hx : X (w0.forCall (fun _ _ => 0) ⟨#[], args, []⟩).memory args) :
    ∃ (w : World) (tape : Tape) (i : Input), w.os = os ∧ (w.forCall tape i).Shaped C.prog ∧ i.vars = [] ∧ Input.okWide C.prog (w.forCall tape i) .any w.heap.size f i ∧
      ((s.pre enc C.prog fn conds apart (w.forCall tape i).memory i.args ∧ X (w.forCall tape i).memory i.args) ∧ sizedMet enc C.prog fn s apart (w.forCall tape i).memory i.args) ∧ ({ modest := modest } : Assume).holds C.prog (lone (Frame.enter C.prog f i.args .normal) [] (w.forCall tape i)) := by
  refine ⟨w0, fun _ _ => 0, ⟨#[], args, []⟩, hos, hsh, (Input.okWide_of_okWideB (base := 0) hok).1, (Input.okWide_of_okWideB hok).2, ⟨⟨?_, hx⟩, sizedMet_of_sizedB hsz⟩, by
    simp only [Assume.holds]
    exact ⟨by simp, by simp, fun _ => Modest.zero, by simp, by simp⟩⟩
  split at hpre
  · rename_i x hw
    rw [Bool.and_eq_true] at hpre
    exact (OpenSpec.pre_some hk conds apart _ _).2 ⟨x.1, x.2.1, x.2.2, DataW.Whole_of_whole hw, hpre.1, hpre.2⟩
  · cases hpre
end
end Go.Proofs.YthacphfjchpoaaaDoor
