/- lexicon: Build. -/
import Derived.Shelf.Slices.In.SortNone
import Derived.Test.YtecogbhbkccblaaGreatDoorHE
import Derived.Test.YtecogbhbkccblaaGreatDoorHF
set_option maxRecDepth 4000
set_option maxHeartbeats 40000000
set_option linter.all false
namespace Go.Proofs.YtecogbhbkccblaaGreatDoor
open Go.RowKit

theorem flat_str (ks : List ByteArray) : (ks.map fun b => b.data.toList).flatMap (e1 Go.Proofs.encStr) = ks.flatMap encT := by
  rw [flat_e1, flat_T, List.map_map]; rfl
theorem flat_srt (ks : List ByteArray) : (srtL (ks.map fun b => b.data.toList)).flatMap (e1 Go.Proofs.encStr) = (srtW ks).flatMap encT := by
  unfold srtW
  rw [flat_e1, flat_T, List.map_map]; rfl
theorem sortWs_fn (ks : List ByteArray) (v : Value) (lv : List (Nat × Obj)) (H : Hp) (hl : ks.length ≤ 1000000) (hv : RowV 9 encT 1 v lv ks) :
    FnW Tryz.prog 26 #[v] H lv (fun u H' l' => u = .tuple #[] ∧ H' = H ∧ RowV 9 encT 1 v l' (srtW ks)) := by
  have hln : (srtW ks).length = ks.length := (srtW_perm ks).length_eq
  have hfl : ((srtW ks).flatMap encT).length = ks.length := by rw [flat_T, List.length_map, hln]
  have hfk : (ks.flatMap encT).length = ks.length := by rw [flat_T, List.length_map]
  rcases hv.2 with ⟨⟨ad, rfl⟩, rfl, h0⟩ | ⟨b, cap, cs, rfl, rfl, h1, h2, h3, h4⟩
  · have hk0 := List.eq_nil_of_length_eq_zero h0
    subst hk0
    refine FnW.mk fun w hw => callsIn_wide.2 ((Go.Proofs.Any.slices_Sort_string_none (ρ := Tryz.sortStrL_ren) Tryz.sortStrL ad 0 w).mono ?_)
    rintro e w' ⟨rfl, rfl⟩
    exact ⟨_, H, [], rfl, hw, rfl, rfl, by
      obtain ⟨s, hs⟩ : ∃ s, s = srtW [] := ⟨_, rfl⟩
      rw [← hs] at hln ⊢
      have hs0 := List.eq_nil_of_length_eq_zero hln
      subst hs0
      exact Vec.empty _ _ _⟩
  · obtain ⟨tl, rfl⟩ : ∃ tl, cs = ks.flatMap encT ++ tl := ⟨cs.drop (ks.length * 1), by rw [← h4, List.take_append_drop]⟩
    have hs := sortStr_FnW (ρ := Tryz.sortStrL_ren) Tryz.sortStrL (H := H) (b := b) (cap := cap) (el := 9) (ks.map fun b => b.data.toList) tl (by rw [List.length_map]; omega)
    have hq : ((ks.map fun b => b.data.toList).mergeSort fun x y => decide (x ≤ y)).flatMap (e1 Go.Proofs.encStr) = (srtW ks).flatMap encT := flat_srt ks
    rw [flat_str, List.length_map, hq] at hs
    refine hs.mono ?_
    rintro u H' l' ⟨rfl, rfl, rfl⟩
    refine ⟨rfl, rfl, ?_⟩
    unfold RowV
    rw [hln]
    refine ⟨by rw [hfl, Nat.mul_one], .inr ⟨b, cap, (srtW ks).flatMap encT ++ tl, rfl, rfl, h1, h2, ?_, ?_⟩⟩
    · rw [← h3, List.length_append, List.length_append, hfl, hfk]
    · rw [Nat.mul_one, ← hfl, List.take_left]
theorem keys_len {vs ws : List ByteArray} (hn : ws.Nodup) (hm : ∀ w, w ∈ ws ↔ w ∈ vs) : ws.length ≤ vs.length := by
  have h1 := cntW_sum vs ws hn fun v hv => (hm v).2 hv
  have h2 : ∀ l : List ByteArray, (∀ w ∈ l, w ∈ vs) → l.length ≤ (cntW vs l).sum := by
    intro l
    induction l with
    | nil => intro _; exact Nat.zero_le _
    | cons w l ih =>
      intro h
      have := cV_pos.2 (h w List.mem_cons_self)
      have := ih fun x hx => h x (List.mem_cons_of_mem _ hx)
      unfold cntW at *
      rw [List.map_cons, List.sum_cons, List.length_cons]
      omega
  have := h2 ws fun w hw => (hm w).1 hw
  omega
theorem kw_step {α : Type} {lf done : List α} {left left' : Kvs α} {a : α} {v : Value} (h : lf.Perm (done ++ left.map (·.1))) (hp : left.Perm ((a, v) :: left')) : lf.Perm ((done ++ [a]) ++ left'.map (·.1)) := by
  have h2 : (left.map (·.1)).Perm (a :: left'.map (·.1)) := hp.map _
  rw [List.append_assoc]
  exact h.trans (List.Perm.append_left done h2)
theorem kw_len {α : Type} {left left' : Kvs α} {a : α} {v : Value} (hp : left.Perm ((a, v) :: left')) : left'.length < left.length := by
  rw [hp.length_eq]; exact Nat.lt_succ_self _
structure LbG where
  i : Nat
  es : Array MapEntry
  ck : Nat
  ks : Kvs ByteArray
structure LbW where
  seen : Array Nat
  left : Kvs ByteArray
  done : List ByteArray
  wv : Value
  lw : List (Nat × Obj)
structure LbC where
  i : Nat
  cv : Value
  lc : List (Nat × Obj)
structure LbN where
  i : Nat
  nl : List Nat
  ln : List (Nat × Obj)
set_option maxRecDepth 100000 in
theorem lbuild_fn (vs : List ByteArray) (av : Value) (H : Hp) (ha : StL H av vs) (hl : vs.length ≤ 1000) (hv : ∀ v ∈ vs, validS v = true ∧ v.data.size ≤ 120) :
    FnW Tryz.prog 6 #[av] H [] (fun u H' l' => H.le H' ∧ ∃ ws ns xb wv cv nv ad n c, u = .tuple #[.pointer (some ⟨xb, 0, none⟩), nv, .int .i64 0] ∧ l' = [LxB xb wv cv (.slice ad n c)] ∧ StL H' wv ws ∧ NSl H' .i64 cv (cntW vs ws) ∧ NSl H' .i64 nv ns ∧ LexOk vs ws ns) := by
  have um : Tryz.prog.underlying 62 = some (.map 9 3) := Tryz.underlying62
  have us : Tryz.prog.underlying 9 = some .string := Tryz.underlying9
  have uz : ∀ w, (zeroValue 3).run Tryz.prog w = .ok (.int .i64 0) w := fun _ => by kernel_rfl
  obtain ⟨ad0, cap0, rfl⟩ := ha.len
  refine FnW.of_T (vs := [.slice ad0 vs.length cap0]) Tryz.func6 rfl rfl fun w => ?_; refine J17 ?_; refine T.mkMap Wanted.none rfl ?_
  intro bm
  refine J10 ?_; refine T.loopK [(20, Value.int IntKind.i64 (↑vs.length : Int)), (19, Value.slice ad0 vs.length cap0), (5, Value.map (some bm)), (0, Value.slice ad0 vs.length cap0)] zq8 (γ := LbG) (fun g => g.i ≤ vs.length ∧ MapB enS g.es g.ck g.ks ∧ CntOk (vs.take g.i) g.ks) (fun g => [(21, .int .i64 (g.i : Int))]) (fun g => [(bm, .map g.es g.ck)]) (fun _ => H) (fun g => vs.length - g.i) ⟨0, #[], 0, []⟩ ⟨Nat.zero_le _, MapB.empty enS 0, CntOk.nil⟩ zq8 zq23 rfl ?_
  rintro ⟨i, es, ck, ks⟩ ⟨hi, hmb, hco⟩
  dsimp only at hi hmb hco ⊢
  by_cases h : i < vs.length
  · obtain ⟨x, hx⟩ : ∃ x, vs[i]? = some x := ⟨_, List.getElem?_eq_getElem h⟩
    obtain ⟨hx1, hx2⟩ := hv x (List.mem_of_getElem? hx)
    have hcv := cV_le (vs.take i) x
    rw [List.length_take] at hcv
    have hvl := validP_fn x H (by show x.data.size ≤ 20000; omega)
    rw [hx1] at hvl
    obtain ⟨b, off, rfl, hsub⟩ := RowL.at lenT ha hx
    have hd : decide ((i : Int) < (vs.length : Int)) = true := decide_eq_true zO
    have hd4 : decide ((120 : Int) < (x.size : Int)) = false := decide_eq_false (by show ¬ (120 : Int) < (x.data.size : Int); omega)
    refine yq94 ?_; refine J11 ?_; refine yq6 ?_; refine J3 ?_; refine T.callV Wanted.none rfl rfl (hvl) ?_; refine J9 ?_; refine T.pv (v := .int .i64 (cV (vs.take i) x : Nat)) (by rw [← hco.old x]; exact PV.getMapS um us uz rfl rfl hmb (.own zq2)) Wanted.none rfl rfl ?_; refine sv (PV.add rfl rfl zO) ?_; refine T.putMapS um us Wanted.none rfl rfl rfl hmb [] rfl ?_
    intro es' ck' hmb'
    refine J6 ?_
    exact T.nextP ⟨i + 1, es', ck', putB ks x (.int .i64 ((cV (vs.take i) x : Nat) + 1))⟩ ⟨by dsimp only; omega, hmb', by
      have := hco.put x
      dsimp only
      rw [List.take_add_one, hx]; exact this⟩ zE zq8 zq23 rfl
  · have hd : decide ((i : Int) < (vs.length : Int)) = false := decide_eq_false zO
    obtain rfl : i = vs.length := by omega
    rw [List.take_of_length_le (Nat.le_refl _)] at hco
    have hkm : ∀ w, w ∈ ks.map (·.1) ↔ w ∈ vs := hco.keys
    have hkl := keys_len hmb.kd hkm
    rw [List.length_map] at hkl
    have hd5 : decide ((1024 : Int) < (ks.length : Int)) = false := decide_eq_false zO
    refine yq44 ?_; refine J5 ?_; refine sv (PV.lenMap um rfl hmb (.own zq2)) ?_; refine J2 ?_; refine yq6 ?_; refine J3 ?_; refine yq39 ?_; (refine T.box Wanted.none rfl rfl zq15 ?_; intro b42); refine J2 ?_; refine T.freezeK (b := bm) zq1 ?_
    intro H1 hle1 hbm
    refine J4 ?_; refine T.rangeMap um Wanted.none rfl rfl hmb (.fro hbm) ?_
    intro r hr
    refine J2 ?_; refine T.loopK [(44, Value.pointer (some { block := r, off := 0 })), (8, Value.pointer (some { block := b42, off := 0 })), (5, Value.map (some bm)), (0, Value.slice ad0 vs.length cap0)] zq8 (γ := LbW) (fun g => Rnd enS es ck ck ck g.seen g.left ∧ (ks.map (·.1)).Perm (g.done ++ g.left.map (·.1)) ∧ RowV 9 encT 1 g.wv g.lw g.done) (fun _ => []) (fun g => (r, .mapIter (some bm) ck g.seen ck) :: LxB b42 g.wv (.slice none 0 0) (.slice none 0 0) :: g.lw) (fun _ => H1) (fun g => g.left.length) ⟨#[], ks, [], .slice none 0 0, []⟩ ⟨hr, List.Perm.refl _, Vec.nil _ _⟩ zq8 zq23 rfl ?_
    rintro ⟨seen, left, done, wv, lw⟩ ⟨g1, g2, g3⟩
    dsimp only at g1 g2 g3 ⊢
    obtain ⟨aw, cw, rfl⟩ := g3.val
    have hdl : done.length ≤ 1000 := by
      have := g2.length_eq
      rw [List.length_map, List.length_append] at this
      omega
    refine zs3 ?_; refine T.nextMap Wanted.none rfl rfl (.fro hbm) g1 [] rfl ?_ ?_
    · intro hlf
      subst hlf
      rw [List.map_nil, List.append_nil] at g2
      have hso := sortWs_fn done _ lw H1 zO g3
      obtain ⟨ws, hws⟩ : ∃ ws, ws = srtW done := ⟨_, rfl⟩
      have hwp : ws.Perm (ks.map (·.1)) := by rw [hws]; exact (srtW_perm done).trans g2.symm
      have hwo : WordsOk ws := by rw [hws]; exact srtW_ok (g2.nodup_iff.1 hmb.kd)
      have hwm : ∀ w, w ∈ ws ↔ w ∈ vs := fun w => (hwp.mem_iff).trans (hkm w)
      have hwl : ws.length = done.length := by rw [hws]; exact (srtW_perm done).length_eq
      rw [← hws] at hso
      refine J11 ?_; (refine T.callW Wanted.none rfl rfl hso zq1 ?_; rintro _ H2 l2 _ ⟨rfl, hH2, hw2⟩; have hH2 := hH2.symm; subst hH2); refine J12 ?_; refine T.freezeP hw2 zq1 ?_
      intro H3 hle3 hsw
      have hbm3 := hle3 _ _ hbm
      refine T.loopK [(68, Value.int IntKind.i64 (↑done.length : Int)), (67, Value.slice aw done.length cw), (8, Value.pointer (some { block := b42, off := 0 })), (5, Value.map (some bm)), (0, Value.slice ad0 vs.length cap0)] zq8 (γ := LbC) (fun g => g.i ≤ done.length ∧ NRow 3 .i64 g.cv g.lc (cntW vs (ws.take g.i))) (fun g => [(69, .int .i64 (g.i : Int))]) (fun g => LxB b42 (.slice aw done.length cw) g.cv (.slice none 0 0) :: g.lc) (fun _ => H3) (fun g => done.length - g.i) ⟨0, .slice none 0 0, []⟩ ⟨Nat.zero_le _, NRow.nil _ _⟩ zq8 zq23 rfl ?_
      rintro ⟨i, cv, lc⟩ ⟨hi3, hcv⟩
      dsimp only at hi3 hcv ⊢
      obtain ⟨ac, cc, rfl⟩ := hcv.val
      have hcl : (cntW vs (ws.take i)).length = i := by rw [cntW_len, List.length_take]; omega
      by_cases h3 : i < done.length
      · obtain ⟨x, hx⟩ : ∃ x, ws[i]? = some x := ⟨_, List.getElem?_eq_getElem zO⟩
        obtain ⟨b, off, rfl, hsub⟩ := RowL.at lenT hsw hx
        have hd3 : decide ((i : Int) < (done.length : Int)) = true := decide_eq_true zO
        have htk : cntW vs (ws.take (i + 1)) = cntW vs (ws.take i) ++ [cV vs x] := by
          rw [List.take_add_one, hx, Option.toList_some, cntW_snoc]
        refine yq94 ?_; refine J2 ?_
        (repeat refine sq ?_)
        refine T.regionS [LxB b42 (.slice (some ⟨b, off, none⟩) done.length cw) (.slice ac (cntW vs (ws.take i)).length cc) (.slice none 0 0)] 12 zK ?_; refine yq7 ?_; refine yq34 ?_; refine yq104 ?_; refine yq15 ?_
        refine TS.ways [7] zK rfl (.inr ⟨zq4, zq19⟩) ⟨⟨_, rfl, ?_⟩, trivial⟩
        (refine T.pv (v := .int .i64 (cV vs x : Nat)) (by rw [← hco.old x]; exact PV.getMapS um us uz rfl rfl hmb (.fro hbm3)) Wanted.none rfl rfl ?_ /-T.none-/); refine yq4 ?_
        refine yq82 ?_
        (refine T.buildSlice Wanted.none rfl rfl zq11 zX zX ?_; intro b81); refine yq4 ?_
        refine TS.ways [9] zK rfl (.inr ⟨zq4, zq19⟩) ⟨⟨_, rfl, ?_⟩, trivial⟩
        (refine T.appendP (lv := lc) Wanted.none rfl rfl rfl hcv (Src.cells (m := 1) (ys := nV .i64 [cV vs x]) (.own zq2) rfl rfl) (nV_one _ _) zO zq1 ?_; intro v82 lv82 hv82 _; have hv82 := NRow.app hv82; obtain ⟨ad82, cap82, rfl⟩ := hv82.val); refine yq4 ?_; refine TS.takeT 10 rfl zK zK zK zK (PV.nilCheck rfl) Wanted.none rfl rfl ?_; refine TS.take 11 rfl zK zK zK zK (PV.fieldAddr rfl) Wanted.none rfl rfl ?_
        refine TS.ways [12] zK rfl (.inr ⟨zq4, zq19⟩) ⟨⟨_, rfl, ?_⟩, trivial⟩
        refine yq75 ?_; refine J5 ?_
        exact T.nextP ⟨i + 1, .slice ad82 (cntW vs (ws.take i) ++ [cV vs x]).length cap82, lv82⟩ ⟨by dsimp only; omega, by dsimp only; rw [htk]; exact hv82⟩ zE zq8 zq23 rfl
      · have hd3 : decide ((i : Int) < (done.length : Int)) = false := decide_eq_false zO
        obtain rfl : i = done.length := by omega
        rw [← hwl, List.take_of_length_le (Nat.le_refl _)] at hcv
        rw [← hwl, List.take_of_length_le (Nat.le_refl _)]
        refine J7 ?_; refine T.freezeP hcv zq1 ?_
        intro H4 hle4 hcs
        have hsz : ∀ w ∈ ws, w.data.size ≤ 120 := fun w hw => (hv w ((hwm w).1 hw)).2
        have hfi := finish_fn ws b42 (.slice aw ws.length cw) (.slice ac (cntW vs ws).length cc) H4 (by have := hsw.mono hle4; rw [← hwl] at this; exact this) zO hsz
        refine J3 ?_; (refine T.callW Wanted.none rfl rfl hfi zq1 ?_; rintro _ H5 _ _ ⟨rfl, hle5, ad9, n9, c9, rfl⟩); refine J5 ?_; (refine T.makeSliceN (n := vs.length) Wanted.none rfl rfl rfl zO ?_; intro v90 lv90 hv90; obtain ⟨ad90, cap90, rfl⟩ := hv90.val); refine J10 ?_
        have hsw5 : StL H5 (.slice aw ws.length cw) ws := by have := (hsw.mono hle4).mono hle5; rw [← hwl] at this; exact this
        have ha5 := (((ha.mono hle1).mono hle3).mono hle4).mono hle5
        rw [nV_rep] at hv90
        refine T.loopK [(92, Value.int IntKind.i64 (↑vs.length : Int)), (91, Value.slice ad0 vs.length cap0), (12, Value.slice ad90 vs.length cap90), (8, Value.pointer (some { block := b42, off := 0 }))] zq8 (γ := LbN) (fun g => g.i ≤ vs.length ∧ g.nl.length = vs.length ∧ (∀ j, j < g.i → ws[g.nl[j]?.getD 0]? = vs[j]?) ∧ Vec 3 1 (.slice ad90 vs.length cap90) g.ln vs.length (nV .i64 g.nl)) (fun g => [(93, .int .i64 (g.i : Int))]) (fun g => LxB b42 (.slice aw ws.length cw) (.slice ac (cntW vs ws).length cc) (.slice ad9 n9 c9) :: g.ln) (fun _ => H5) (fun g => vs.length - g.i) ⟨0, List.replicate vs.length 0, lv90⟩ ⟨Nat.zero_le _, List.length_replicate, fun j hj => by dsimp only at hj; omega, hv90⟩ zq8 zq23 rfl ?_
        rintro ⟨i, nl, ln⟩ ⟨hi4, hnl, hnm, hln⟩
        dsimp only at hi4 hnl hnm hln ⊢
        by_cases h4 : i < vs.length
        · obtain ⟨x, hx⟩ : ∃ x, vs[i]? = some x := ⟨_, List.getElem?_eq_getElem h4⟩
          obtain ⟨m, hm⟩ := words_at ((hwm x).2 (List.mem_of_getElem? hx))
          have hnu := number_fn ws b42 m x (.slice aw ws.length cw) (.slice ac (cntW vs ws).length cc) (.slice ad9 n9 c9) H5 hsw5 hwo hm zO
          obtain ⟨b, off, rfl, hsub⟩ := RowL.at lenT ha5 hx
          obtain ⟨bq, cq, hve⟩ := hln.ptr zO
          injection hve with e1 e2 e3
          subst e1 e3
          have hd4 : decide ((i : Int) < (vs.length : Int)) = true := decide_eq_true zO
          refine yq98 ?_; refine J8 ?_; (refine T.callWV Wanted.none rfl rfl hnu zq1 ?_); refine J4 ?_; (refine T.storeVecP (lv := ln) Wanted.none rfl rfl rfl hln (by rw [Nat.zero_add, Nat.mul_one, Int.toNat_natCast, nV_len, hnl]; exact h4) zq1 ?_; intro lv3 hv3); refine J6 ?_
          rw [Nat.zero_add, Nat.mul_one, Int.toNat_natCast, nV_set] at hv3
          exact T.nextP ⟨i + 1, nl.set i m, lv3⟩ ⟨by dsimp only; omega, by dsimp only; rw [List.length_set]; exact hnl, fun j hj => by
            dsimp only at hj ⊢
            by_cases e : i = j
            · subst e
              rw [List.getElem?_set_self zO, Option.getD_some, hm, hx]
            · rw [List.getElem?_set_ne e]
              exact hnm j zO, hv3⟩ zE zq8 zq23 rfl
        · have hd4 : decide ((i : Int) < (vs.length : Int)) = false := decide_eq_false zO
          obtain rfl : i = vs.length := by omega
          refine yq44 ?_; refine T.exit rfl ?_; refine T.freezeP hln zq1 ?_
          intro H6 hle6 hnv
          refine J8 ?_
          exact T.retW (Lv.finW [LxB b42 (.slice aw ws.length cw) (.slice ac (cntW vs ws).length cc) (.slice ad9 n9 c9)] zq4 (RV.tmp3 rfl rfl rfl rfl) ⟨((((hle1.trans hle3).trans hle4).trans hle5).trans hle6), ws, nl, b42, _, _, _, _, _, _, rfl, rfl, hsw5.mono hle6, (hcs.mono hle5).mono hle6, by show SlR H6 1 _ nl.length _; rw [hnl]; exact hnv, ⟨hwo, hwm, hnl, fun j hj => hnm j hj⟩⟩)
    · intro a v left' seen' hp g1' hcur
      refine J8 ?_; refine sv (PV.entryMap rfl (.fro hbm) g1'.nd hcur zq2) ?_; refine J10 ?_; (refine T.buildSlice Wanted.none rfl rfl zq11 zX zX ?_; intro b55); (refine T.appendP (lv := lw) Wanted.none rfl rfl rfl g3 (Src.cells (m := 1) (ys := encT a) (.own zq2) rfl rfl) (by intro u hu; rw [List.mem_singleton.1 hu]; rfl) zO zq1 ?_; intro v56 lv56 hv56 _; have hv56 := RowV.snoc (enc := encT) hv56; obtain ⟨ad56, cap56, rfl⟩ := hv56.val); refine J2 ?_; refine yq1 ?_; refine J2 ?_
      exact T.nextP ⟨seen', left', done ++ [a], .slice ad56 (done ++ [a]).length cap56, lv56⟩ ⟨g1', kw_step g2 hp, hv56⟩ (kw_len hp) zq8 zq23 rfl
end Go.Proofs.YtecogbhbkccblaaGreatDoor
