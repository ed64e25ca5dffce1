/- table: the statement Merges. -/
import Derived.Test.YthacphfjchpoaaaGreatDoorFU2a
import Derived.Test.YthacphfjchpoaaaGreatDoorFTN
import Derived.Test.YthacphfjchpoaaaGreatDoorFTZa
namespace Go.Proofs.YthacphfjchpoaaaGreatDoor
open Go.RowKit

theorem mergeE_two {n : Nat} (hn : 1 ≤ n ∧ n ≤ 4) {l m : List RK} (hl : ∀ r ∈ l, r.1.length = n ∧ 1 ≤ r.2) (hm : ∀ r ∈ m, r.1.length = n ∧ 1 ≤ r.2) : mergeE (sumR l) (sumR m) = 0 := by
  have h1 := sumR_valid hn hl
  have h2 := sumR_valid hn hm
  have hk : ∀ {x : List RK}, (∀ r ∈ x, r.1.length = n ∧ 1 ≤ r.2) → sumR x ≠ [] → keysN (sumR x) = n := by
    intro x hx hne
    cases hs : sumR x with
    | nil => exact absurd hs hne
    | cons a t =>
      have ha : a ∈ sumR x := by rw [hs]; exact List.mem_cons_self ..
      obtain ⟨y, hy, he⟩ := (dk_mem x a.1).1 ((sum_mem x a).1 ha).1
      show a.1.length = n
      rw [← he]; exact (hx y hy).1
  unfold mergeE
  rw [if_neg (by rw [h1, h2]; simp), if_neg]
  rintro ⟨e1, e2, e3⟩
  exact e3 ((hk hl e1).trans (hk hm e2).symm)
set_option maxHeartbeats 8000000 in
theorem merges_law (l n : List Int) (v u : Value) (H : Hp) (hT : PowT H) (hv : InL H v l) (hl : l.length ≤ 9223372036854775807) (hr : I64 l) (hv2 : InL H u n) (hl2 : n.length ≤ 9223372036854775807) (hr2 : I64 n) :
    Fn Tryz.prog 8 #[v, u] H (fun u _ => u = .bool true) := by
  refine Fn.of_T (vs := [v, u]) Tryz.func8 rfl rfl fun w => ?_; refine zs3 ?_; refine yq56 ?_; refine T.callW (l0 := []) Wanted.none rfl rfl (new_fn l v H hv hl hr) zq1 ?_
  rintro _ _ _ - ⟨rfl, bt, t, rfl, ht, rfl⟩
  refine yq56 ?_; refine T.callW Wanted.none rfl rfl (corpus_fnN bt t 7 H ht (by omega)) zq1 ?_
  rintro _ H1 _ hle1 ⟨t1, c, rfl, ht1, hc, hg, hb, hnm, rfl⟩
  have hw := wideG hg
  have hmt := fun t H' (h : H1.le H') (ht : Tp.ok H' t) => matches_fn bt t c 1 7 H' ht (hc.mono h) hg hb (by omega) (by omega)
  rw [show ((1 : Nat) : Int) = 1 from rfl] at hmt
  unfold cpV at hmt ⊢
  refine sy fun b6 => ?_; (refine T.storeA Wanted.none rfl rfl (cp_one hc) (by exact rfl) zq14 zq13 ?_); refine so ?_
  (repeat refine sq ?_)
  refine T.regionO [(b6, .cells #[c.va, c.vt, c.vx, c.vr, c.vn, c.vh, c.vs] 32 (0, 0))] (by kernel_rfl) ?_; refine TO.take 0 rfl (by kernel_rfl) (by kernel_rfl) (by kernel_rfl) (PV.move rfl) Wanted.none rfl rfl ?_; refine TO.take 1 rfl (by kernel_rfl) (by kernel_rfl) (by kernel_rfl) (PV.loadAll rfl zq0 (by exact rfl)) Wanted.none rfl rfl ?_; refine TO.take 3 rfl (by kernel_rfl) (by kernel_rfl) (by kernel_rfl) (PV.move rfl) Wanted.none rfl rfl ?_; refine TO.take 4 rfl (by kernel_rfl) (by kernel_rfl) (by kernel_rfl) (PV.loadAll rfl zq0 (by exact rfl)) Wanted.none rfl rfl ?_; refine TO.take 6 rfl (by kernel_rfl) (by kernel_rfl) (by kernel_rfl) (PV.move rfl) Wanted.none rfl rfl ?_; refine TO.step 2 rfl (by kernel_rfl) zq4 zq19 ?_; (refine T.callW Wanted.none rfl rfl (hmt _ _ ?_ ?_) zq1 ?_; (focus exact zq21); (focus assumption); rintro _ H26 _ hle26 ⟨t26, L26, ht26, hL26, hLn26, hfit26, rfl⟩; obtain ⟨aL26, cL26, rfl⟩ := hL26.1.len); refine yq62 ?_; refine TO.step 5 rfl (by kernel_rfl) zq4 zq19 ?_; (refine T.callW Wanted.none rfl rfl (hmt _ _ ?_ ?_) zq1 ?_; (focus exact zq21); (focus assumption); rintro _ H29 _ hle29 ⟨t29, L29, ht29, hL29, hLn29, hfit29, rfl⟩; obtain ⟨aL29, cL29, rfl⟩ := hL29.1.len); refine yq62 ?_; refine TO.step 7 rfl (by kernel_rfl) zq4 zq19 ?_; (refine T.callW (l0 := []) Wanted.none rfl rfl (new_fn n u _ (hv2.mono zq21) hl2 hr2) zq1 ?_; rintro _ _ _ - ⟨rfl, bt2, t3, rfl, ht3, rfl⟩); refine yq62 ?_; refine TO.step 8 rfl (by kernel_rfl) zq4 zq19 ?_; (refine T.callW Wanted.none rfl rfl (groups_fn _ _ _ ht3) zq1 ?_; rintro _ H32 _ hle32 ⟨-, gs, t4, hgs, hgl, hgg, ht4, rfl⟩; obtain ⟨ag, cg, rfl⟩ := hgs.len); refine yq62 ?_; refine yq125 ?_; refine TO.take 11 rfl (by kernel_rfl) (by kernel_rfl) (by kernel_rfl) (PV.assign rfl) Wanted.none rfl rfl ?_; refine TO.done (by kernel_rfl) zq4 zq19 ?_
  (repeat refine sq ?_)
  have hc3 : CpL H32 c := hc.mono zq21
  have hT3 : PowT H32 := hT.mono zq21
  have hLA : MtL H32 _ L26 := hL26.mono zq21
  have hLB : MtL H32 _ L29 := hL29.mono zq21
  have hls : ∀ m ∈ L26 ++ L29, m.ls.length ≤ 1000 := fun m hm => by
    rcases List.mem_append.1 hm with hm | hm
    · have := (hfit26 m hm).2.1; omega
    · have := (hfit29 m hm).2.1; omega
  have hfW : ∀ m ∈ L26 ++ L29, fits c.tx 1 m := fun m hm => by
    rcases List.mem_append.1 hm with hm | hm
    · exact hfit26 m hm
    · exact hfit29 m hm
  have hWl : (L26 ++ L29).length = L26.length + L29.length := List.length_append
  have g4 : 1 ≤ gs.length ∧ gs.length ≤ 4 := by omega
  have heA := count_made hg hgg g4 hfit26
  have heB := count_made hg hgg g4 hfit29
  have heW := count_made hg hgg g4 hfW
  have ca := fun H' (h : H32.le H') vl (hl : StL H' vl [bs [120]]) => count_in c [bs [120]] vl L26 (.slice aL26 L26.length cL26) gs (.slice ag gs.length cg) H' (hT3.mono h) (hc3.mono h) hw hl (by simp) (hLA.mono h) (by omega) (fun m hm => hls m (List.mem_append_left _ hm)) (SlR.mono hgs h) (by omega)
  have cb := fun H' (h : H32.le H') vl (hl : StL H' vl [bs [120]]) => count_in c [bs [120]] vl L29 (.slice aL29 L29.length cL29) gs (.slice ag gs.length cg) H' (hT3.mono h) (hc3.mono h) hw hl (by simp) (hLB.mono h) (by omega) (fun m hm => hls m (List.mem_append_right _ hm)) (SlR.mono hgs h) (by omega)
  have cw := fun H' (h : H32.le H') vl vm (hl : StL H' vl [bs [120]]) (hm : MtL H' vm (L26 ++ L29)) => count_in c [bs [120]] vl (L26 ++ L29) vm gs (.slice ag gs.length cg) H' (hT3.mono h) (hc3.mono h) hw hl (by simp) hm (by omega) hls (SlR.mono hgs h) (by omega)
  simp only [heA] at ca
  simp only [heB] at cb
  simp only [heW] at cw
  unfold cpV at ca cb cw
  refine T.regionO [(b6, .cells #[c.va, c.vt, c.vx, c.vr, c.vn, c.vh, c.vs] 32 (0, 0))] (by kernel_rfl) ?_; refine yq42 ?_; refine yq78 ?_; (refine T.call Wanted.none rfl rfl (labels35_fn _) ?_; intro v35 H35 hle35 hv35; obtain ⟨ad35, cap35, rfl⟩ := hv35.len); refine yq135 ?_; (refine T.call Wanted.none rfl rfl (ca _ zq21 _ (SlR.mono hv35 zq21)) ?_; rintro _ H38 h38 ⟨_, A1, rfl, hA1, qa1, -⟩; obtain ⟨aa1, ca1, rfl⟩ := hA1.1.len); refine yq104 ?_; refine yq47 ?_; refine yq50 ?_; refine TO.done (by kernel_rfl) zq4 zq19 ?_
  (repeat refine sq ?_)
  refine T.regionO [(b6, .cells #[c.va, c.vt, c.vx, c.vr, c.vn, c.vh, c.vs] 32 (0, 0))] (by kernel_rfl) ?_; refine yq42 ?_; refine yq78 ?_; (refine T.call Wanted.none rfl rfl (labels35_fn _) ?_; intro v43 H43 hle43 hv43; obtain ⟨ad43, cap43, rfl⟩ := hv43.len); refine yq135 ?_; (refine T.call Wanted.none rfl rfl (cb _ zq21 _ (SlR.mono hv43 zq21)) ?_; rintro _ H46 h46 ⟨_, A2, rfl, hA2, qa2, -⟩; obtain ⟨aa2, ca2, rfl⟩ := hA2.1.len); refine yq104 ?_; refine yq47 ?_; refine yq50 ?_; refine TO.done (by kernel_rfl) zq4 zq19 ?_
  have qa1 := qa1 trivial
  have qa2 := qa2 trivial
  have hlb : ∀ H' (h : H46.le H'), MtL H' (.slice aL26 L26.length cL26) L26 := fun H' h => hLA.mono zq21
  have hlb2 : ∀ H' (h : H46.le H'), MtL H' (.slice aL29 L29.length cL29) L29 := fun H' h => hLB.mono zq21
  (repeat refine sq ?_)
  refine T.cutHq (γ := RwQ) [(13, Value.int IntKind.i64 0), (12, Value.slice aa2 A2.length ca2), (11, Value.int IntKind.i64 0), (10, Value.slice aa1 A1.length ca1)] (fun g => H46.le g.H ∧ RwL g.H g.v g.A ∧ g.A.map rwK = countR c [bs [120]] (L26 ++ L29) gs) (fun g => [(14, g.v), (15, .int .i64 0)]) (fun _ => [(b6, .cells #[c.va, c.vt, c.vx, c.vr, c.vn, c.vh, c.vs] 32 (0, 0))]) (fun g => g.H) ?_ fun K => ?_
  rotate_left
  · refine T.regionO [(b6, .cells #[c.va, c.vt, c.vx, c.vr, c.vn, c.vh, c.vs] 32 (0, 0))] (by kernel_rfl) ?_; refine TO.take 0 rfl (by kernel_rfl) (by kernel_rfl) (by kernel_rfl) (PV.loadAll rfl zq0 (by exact rfl)) Wanted.none rfl rfl ?_; refine TO.take 3 rfl (by kernel_rfl) (by kernel_rfl) (by kernel_rfl) (PV.move rfl) Wanted.none rfl rfl ?_; refine TO.take 5 rfl (by kernel_rfl) (by kernel_rfl) (by kernel_rfl) (PV.move rfl) Wanted.none rfl rfl ?_; refine TO.take 7 rfl (by kernel_rfl) (by kernel_rfl) (by kernel_rfl) (PV.move rfl) Wanted.none rfl rfl ?_; refine TO.both 1 2 rfl rfl (by kernel_rfl) zq4 zq19 ?_ ?_
    · (refine T.call Wanted.none rfl rfl (labels35_fn _) ?_; intro v51 H51 hle51 hv51; obtain ⟨ad51, cap51, rfl⟩ := hv51.len); refine yq62 ?_; refine TO.step 2 rfl (by kernel_rfl) zq4 zq19 ?_; (refine T.buildSlice Wanted.none rfl rfl zq11 (by exact rfl) (by exact rfl) ?_; intro b52); refine yq135 ?_; (refine T.appendP (lv := []) Wanted.none rfl rfl rfl (Vec.empty 44 3 _) (hlb _ zq21).1.src (one_flatM (hlb _ (Hp.le.refl _)).2) (by omega) zq1 ?_; intro v54 lv54 hv54 _; obtain ⟨ad54, cap54, rfl⟩ := hv54.val); refine yq62 ?_; refine TO.step 6 rfl (by kernel_rfl) zq4 zq19 ?_; (refine T.appendP (lv := lv54) Wanted.none rfl rfl rfl hv54 (hlb2 _ zq21).1.src (one_flatM (hlb2 _ (Hp.le.refl _)).2) (by omega) zq1 ?_; intro v56 lv56 hv56 _; obtain ⟨ad56, cap56, rfl⟩ := hv56.val); refine yq62 ?_; refine TO.step 8 rfl (by kernel_rfl) zq4 zq19 ?_; (refine T.freezeP (lv := lv56) hv56 zq1 ?_; intro H57 h57 hs57; refine T.call Wanted.none rfl rfl (cw _ zq21 _ _ (SlR.mono hv51 zq21) ⟨?_, ?_⟩) ?_; (focus exact (by rw [List.length_append, List.flatMap_append]; simpa using hs57)); (focus exact fun m hm => (List.mem_append.1 hm).elim (fun h => (hlb _ zq21).2 m h) (fun h => (hlb2 _ zq21).2 m h)); rintro _ H58 h58 ⟨_, A3, rfl, hA3, qa3, -⟩; obtain ⟨aa3, ca3, rfl⟩ := hA3.1.len); refine yq62 ?_; refine TO.take 9 rfl (by kernel_rfl) (by kernel_rfl) (by kernel_rfl) (PV.move rfl) Wanted.none rfl rfl ?_; refine TO.take 10 rfl (by kernel_rfl) (by kernel_rfl) (by kernel_rfl) (PV.extract rfl rfl) Wanted.none rfl rfl ?_; refine TO.take 11 rfl (by kernel_rfl) (by kernel_rfl) (by kernel_rfl) (PV.extract rfl rfl) Wanted.none rfl rfl ?_; refine TO.take 12 rfl (by kernel_rfl) (by kernel_rfl) (by kernel_rfl) (PV.assign rfl) Wanted.none rfl rfl ?_; refine TO.take 13 rfl (by kernel_rfl) (by kernel_rfl) (by kernel_rfl) (PV.assign rfl) Wanted.none rfl rfl ?_; refine TO.done (by kernel_rfl) zq4 zq19 ?_; (exact K ⟨_, _, A3⟩ _ _ _ ⟨zq21, hA3, qa3 trivial⟩ zq8 (by repeat (first | exact Sel.refl _ | exact Sel.nil | (refine Sel.cons zq1 ?_) | (refine Sel.app zq1 ?_) | exact Sel.one zq1)) rfl)
    · (refine T.buildSlice Wanted.none rfl rfl zq11 (by exact rfl) (by exact rfl) ?_; intro b52); refine yq62 ?_; refine TO.step 1 rfl (by kernel_rfl) zq4 zq19 ?_; (refine T.call Wanted.none rfl rfl (labels35_fn _) ?_; intro v51 H51 hle51 hv51; obtain ⟨ad51, cap51, rfl⟩ := hv51.len); refine yq135 ?_; (refine T.appendP (lv := []) Wanted.none rfl rfl rfl (Vec.empty 44 3 _) (hlb _ zq21).1.src (one_flatM (hlb _ (Hp.le.refl _)).2) (by omega) zq1 ?_; intro v54 lv54 hv54 _; obtain ⟨ad54, cap54, rfl⟩ := hv54.val); refine yq62 ?_; refine TO.step 6 rfl (by kernel_rfl) zq4 zq19 ?_; (refine T.appendP (lv := lv54) Wanted.none rfl rfl rfl hv54 (hlb2 _ zq21).1.src (one_flatM (hlb2 _ (Hp.le.refl _)).2) (by omega) zq1 ?_; intro v56 lv56 hv56 _; obtain ⟨ad56, cap56, rfl⟩ := hv56.val); refine yq62 ?_; refine TO.step 8 rfl (by kernel_rfl) zq4 zq19 ?_; (refine T.freezeP (lv := lv56) hv56 zq1 ?_; intro H57 h57 hs57; refine T.call Wanted.none rfl rfl (cw _ zq21 _ _ (SlR.mono hv51 zq21) ⟨?_, ?_⟩) ?_; (focus exact (by rw [List.length_append, List.flatMap_append]; simpa using hs57)); (focus exact fun m hm => (List.mem_append.1 hm).elim (fun h => (hlb _ zq21).2 m h) (fun h => (hlb2 _ zq21).2 m h)); rintro _ H58 h58 ⟨_, A3, rfl, hA3, qa3, -⟩; obtain ⟨aa3, ca3, rfl⟩ := hA3.1.len); refine yq62 ?_; refine TO.take 9 rfl (by kernel_rfl) (by kernel_rfl) (by kernel_rfl) (PV.move rfl) Wanted.none rfl rfl ?_; refine TO.take 10 rfl (by kernel_rfl) (by kernel_rfl) (by kernel_rfl) (PV.extract rfl rfl) Wanted.none rfl rfl ?_; refine TO.take 11 rfl (by kernel_rfl) (by kernel_rfl) (by kernel_rfl) (PV.extract rfl rfl) Wanted.none rfl rfl ?_; refine TO.take 12 rfl (by kernel_rfl) (by kernel_rfl) (by kernel_rfl) (PV.assign rfl) Wanted.none rfl rfl ?_; refine TO.take 13 rfl (by kernel_rfl) (by kernel_rfl) (by kernel_rfl) (PV.assign rfl) Wanted.none rfl rfl ?_; refine TO.done (by kernel_rfl) zq4 zq19 ?_; (exact K ⟨_, _, A3⟩ _ _ _ ⟨zq21, hA3, qa3 trivial⟩ zq8 (by repeat (first | exact Sel.refl _ | exact Sel.nil | (refine Sel.cons zq1 ?_) | (refine Sel.app zq1 ?_) | exact Sel.one zq1)) rfl)
  rintro ⟨H6, vW, A3⟩ ⟨h6, hA3, qa3⟩
  dsimp only at h6 hA3 qa3 ⊢
  obtain ⟨aa3, ca3, rfl⟩ := hA3.1.len
  obtain ⟨la, hla⟩ : ∃ la, la = L26.map (rowK c [bs [120]] gs) := ⟨_, rfl⟩
  obtain ⟨lb, hlbq⟩ : ∃ lb, lb = L29.map (rowK c [bs [120]] gs) := ⟨_, rfl⟩
  have r1 : A1.map rwK = sumR la := by rw [qa1, hla]; rfl
  have r2 : A2.map rwK = sumR lb := by rw [qa2, hlbq]; rfl
  have r3 : A3.map rwK = sumR (la ++ lb) := by rw [qa3, hla, hlbq, ← List.map_append]; rfl
  have hA1' : RwL H6 _ A1 := hA1.mono zq21
  have hA2' : RwL H6 _ A2 := hA2.mono zq21
  have s1 : ∀ r ∈ A1, r.n ≤ 1099511627776 := row_small (by omega) (qa1 : A1.map rwK = sumR (L26.map (rowK c [bs [120]] gs)))
  have s2 : ∀ r ∈ A2, r.n ≤ 1099511627776 := row_small (by omega) (qa2 : A2.map rwK = sumR (L29.map (rowK c [bs [120]] gs)))
  have n1 : A1.length ≤ 10 := by have h1 := congrArg List.length qa1; have h2 := countR_len c [bs [120]] L26 gs; rw [List.length_map] at h1; omega
  have n2 : A2.length ≤ 10 := by have h1 := congrArg List.length qa2; have h2 := countR_len c [bs [120]] L29 gs; rw [List.length_map] at h1; omega
  have n3 : A3.length ≤ 20 := by have h1 := congrArg List.length qa3; have h2 := countR_len c [bs [120]] (L26 ++ L29) gs; rw [List.length_map] at h1; omega
  have m12 : mergeE (sumR la) (sumR lb) = 0 := by rw [hla, hlbq]; exact mergeE_two g4 (row_lens hg hfit26) (row_lens hg hfit29)
  have m21 : mergeE (sumR lb) (sumR la) = 0 := by rw [hla, hlbq]; exact mergeE_two g4 (row_lens hg hfit29) (row_lens hg hfit26)
  have mg1 := fun H' (h : H6.le H') => merge_in A1 A2 (.slice aa1 A1.length ca1) (.slice aa2 A2.length ca2) H' (hT3.mono (show H32.le H' from zq21)) (hA1'.mono h) (hA2'.mono h) (by omega) (by omega) s1 s2
  have mg2 := fun H' (h : H6.le H') => merge_in A2 A1 (.slice aa2 A2.length ca2) (.slice aa1 A1.length ca1) H' (hT3.mono (show H32.le H' from zq21)) (hA2'.mono h) (hA1'.mono h) (by omega) (by omega) s2 s1
  simp only [m12, r1, r2, sumR_merge] at mg1
  simp only [m21, r1, r2, sumR_merge] at mg2
  rw [sumR_perm (List.perm_append_comm (l₁ := lb) (l₂ := la))] at mg2
  refine yq137 ?_; (refine T.call Wanted.none rfl rfl (mg1 _ zq21) ?_; rintro _ H64 h64 ⟨_, A4, rfl, hA4, qa4, -⟩; obtain ⟨aa4, ca4, rfl⟩ := hA4.1.len); refine yq146 ?_; refine sa ?_; refine yq56 ?_; refine sm ?_; (refine T.call Wanted.none rfl rfl (mg2 _ zq21) ?_; rintro _ H70 h70 ⟨_, A5, rfl, hA5, qa5, -⟩; obtain ⟨aa5, ca5, rfl⟩ := hA5.1.len); refine yq146 ?_; refine yq55 ?_
  have e34 : A3.map rwK = A4.map rwK := by rw [r3, qa4 trivial]
  have e45 : A4.map rwK = A5.map rwK := by rw [qa4 trivial, qa5 trivial]
  have n4 : A4.length ≤ 20 := by have h1 := congrArg List.length e34; rw [List.length_map, List.length_map] at h1; omega
  refine yq2 ?_; refine yq105 ?_; refine gm ?_; refine yq192 ?_; refine gm ?_; refine yq192 ?_; refine gm ?_; refine yq192 ?_; refine gm ?_; refine yq192 ?_; refine gm ?_; refine gm ?_; (refine T.callX (Wanted.guard rfl rfl rfl) rfl rfl (same_eq e34 (by omega) _ _ _ (hA3.mono zq21) (hA4.mono zq21)) ?_; rintro _ rfl); refine yq141 ?_; refine gm ?_; refine gm ?_; (refine T.callX (Wanted.guard rfl rfl rfl) rfl rfl (same_eq e45 (by omega) _ _ _ (hA4.mono zq21) (hA5.mono zq21)) ?_; rintro _ rfl); refine yq141 ?_; (refine T.callX (Wanted.guard rfl rfl rfl) rfl rfl (known35_fn _ (hT3.mono zq21)) ?_; rintro _ rfl); refine sT ?_; refine yq0 ?_
  exact T.retF (Lv.fin (RV.tmp rfl rfl) rfl)
end Go.Proofs.YthacphfjchpoaaaGreatDoor
