/- lexicon: finish.
   lexicon: Number. -/
import Derived.Test.YtecogbhbkccblaaGreatDoorHD
set_option maxRecDepth 4000
set_option maxHeartbeats 40000000
set_option linter.all false
namespace Go.Proofs.YtecogbhbkccblaaGreatDoor
open Go.RowKit


theorem flat_e1 {α : Type} (enc : α → Value) : ∀ d : List α, d.flatMap (e1 enc) = d.map enc
  | [] => rfl
  | x :: d => by rw [List.flatMap_cons, List.map_cons, flat_e1 enc d]; rfl
theorem flat_T (rs : List ByteArray) : rs.flatMap encT = rs.map fun s => Value.string s := flat_e1 (fun s : ByteArray => Value.string s) rs
theorem flat_T_set (rs : List ByteArray) (i : Nat) (s : ByteArray) : (rs.flatMap encT).set i (.string s) = (rs.set i s).flatMap encT := by
  rw [flat_T, flat_T, List.map_set]
theorem finish1_fn (rs : List ByteArray) (b2 : Nat) (svv : Value) (i j : Nat) (s t : ByteArray) (H : Hp) (hb : H b2 = some (.cells #[svv] 28 (0, 0))) (hs : StL H svv rs) (hi : rs[i]? = some s) (hj : rs[j]? = some t) (hl : rs.length ≤ 10000) : Fn Tryz.prog 60 #[.int .i64 (i : Int), .int .i64 (j : Int), .pointer (some ⟨b2, 0, none⟩)] H (fun u _ => u = .int .i64 (cmpS s t)) := by
  have hil := (List.getElem?_eq_some_iff.1 hi).1
  have hjl := (List.getElem?_eq_some_iff.1 hj).1
  obtain ⟨ad, cap, rfl⟩ := hs.len
  obtain ⟨b, off, rfl, hsub⟩ := RowL.at lenT hs hi
  have hsub2 := RowL.atP lenT hs hj
  have hc := strCompare_fn s t H
  refine Fn.of_T (vs := [.int .i64 (i : Int), .int .i64 (j : Int), .pointer (some ⟨b2, 0, none⟩)]) Tryz.func60 rfl rfl fun w => ?_; refine J4 ?_
  (repeat refine sq ?_)
  refine T.regionOl zK ?_; refine TO.take 0 rfl zK zK zK (PV.load1 rfl zq0 rfl) Wanted.none rfl rfl ?_; refine TO.take 1 rfl zK zK zK (PV.move rfl) Wanted.none rfl rfl ?_; refine yq62 ?_; refine TO.take 4 rfl zK zK zK (PV.load1 rfl zq0 rfl) Wanted.none rfl rfl ?_; refine yq99 ?_; refine TO.take 7 rfl zK zK zK (PV.loadSub0 rfl zA) Wanted.none rfl rfl ?_; refine TO.step 8 rfl zK zq4 zq19 ?_; refine T.callV Wanted.none rfl rfl (hc) ?_; refine yq30 ?_; refine TO.take 9 rfl zK zK zK (PV.assign rfl) Wanted.none rfl rfl ?_; refine yq37 ?_
  exact T.retF (Lv.fin (RV.tmp rfl rfl) rfl)
theorem sortIx_fn (n : Nat) (hn : n ≤ 1000000) (v : Value) (lv : List (Nat × Obj)) (H : Hp) (g : Nat) [Ent Tryz.prog g] (cb : List Value) (f : Nat → ByteArray) (hv : NRow 3 .i64 v lv (List.range n)) (hc : ∀ x y, x < n → y < n → Fn Tryz.prog g ([Value.int .i64 (x : Int), .int .i64 (y : Int)] ++ cb).toArray H (fun u _ => u = .int .i64 (cmpS (f x) (f y)))) :
    FnW Tryz.prog 59 #[v, .func (.func g) #[] cb.toArray] H lv (fun u H' l' => u = .tuple #[] ∧ H' = H ∧ ∃ l2, l2.length = n ∧ NRow 3 .i64 v l' l2) := by
  have hrl : (List.range n).length = n := List.length_range
  rcases hv.2 with ⟨⟨ad, rfl⟩, rfl, h0⟩ | ⟨b, cap, cs, rfl, rfl, h1, h2, h3, h4⟩
  · refine FnW.mk fun w hw => callsIn_wide.2 ((Go.Proofs.AnyF.slices_SortFunc_none (ρ := Tryz.sortZL_ren) { Tryz.sortZL with } ad 0 (.func (.func g) #[] cb.toArray) w).mono ?_)
    rintro e w' ⟨rfl, rfl⟩
    exact ⟨_, H, [], rfl, hw, rfl, rfl, [], by rw [← hrl]; exact h0.symm, Vec.empty _ _ _⟩
  · obtain ⟨tl, rfl⟩ : ∃ tl, cs = nV .i64 (List.range n) ++ tl := ⟨cs.drop ((List.range n).length * 1), by rw [← h4, List.take_append_drop]⟩
    rcases Nat.eq_zero_or_pos n with hn0 | hn0
    · subst hn0
      refine FnW.mk fun w hw => callsIn_wide.2 ((Go.Proofs.AnyF.slices_SortFunc_none (ρ := Tryz.sortZL_ren) { Tryz.sortZL with } (some ⟨b, 0, none⟩) cap (.func (.func g) #[] cb.toArray) w).mono ?_)
      rintro e w' ⟨rfl, rfl⟩
      exact ⟨_, H, _, rfl, hw, rfl, rfl, [], rfl, hv⟩
    · have : Inhabited {x : Nat // x ∈ List.range n} := ⟨⟨0, List.mem_range.2 hn0⟩⟩
      have hfl : ∀ d : List {x : Nat // x ∈ List.range n}, d.flatMap (e1 fun x => Value.int .i64 (x.1 : Int)) = nV .i64 (d.map Subtype.val) := fun d => by
        rw [flat_e1]
        unfold nV
        rw [List.map_map]; rfl
      have hat : (List.range n).attach.map Subtype.val = List.range n := List.attach_map_subtype_val _
      have hal : (List.range n).attach.length = (List.range n).length := List.length_attach
      have hs := sort1_FnW (ρ := Tryz.sortZL_ren) Tryz.sortZL (enc := fun x : {x : Nat // x ∈ List.range n} => Value.int .i64 (x.1 : Int)) (fun _ => rfl) (fun x y => cmpS (f x.1) (f y.1)) (cmpS_swo fun x : {x : Nat // x ∈ List.range n} => f x.1) g cb (H := H) (b := b) (cap := cap) (el := 3) (List.range n).attach tl (fun x y => hc x.1 y.1 (List.mem_range.1 x.2) (List.mem_range.1 y.2)) (by rw [hal, hrl]; omega)
      rw [hfl, hat, hal] at hs
      refine hs.mono ?_
      rintro u H' l' ⟨rfl, rfl, d', hd, rfl⟩
      have hdl : (d'.map Subtype.val).length = n := by rw [List.length_map, hd]; exact hrl
      refine ⟨rfl, rfl, d'.map Subtype.val, hdl, ?_⟩
      rw [hfl]
      refine ⟨by rw [nV_len, Nat.mul_one], .inr ⟨b, cap, nV .i64 (d'.map Subtype.val) ++ tl, by rw [hdl, hrl], rfl, by rw [hdl, ← hrl]; exact h1, h2, ?_, ?_⟩⟩
      · rw [← h3, List.length_append, List.length_append, nV_len, nV_len, hdl, hrl]
      · rw [Nat.mul_one, ← nV_len .i64 (d'.map Subtype.val), List.take_left]
theorem T.freezeK {P : Program} {X : Cx} {e : Env} {l : List (Nat × Obj)} {H : Hp} {D : List Deferred} {k : List It} {b : Nat} {o : Obj} {r : List (Nat × Obj)} (hpk : Pick l [(b, o)] r) (h : ∀ H', H.le H' → H' b = some o → T P X e r H' D k) : T P X e l H D k := T.perm hpk.perm (T.freezeLit h)
structure FnG where
  i : Nat
  bv : Value
  lb : List (Nat × Obj)
  lr : List (Nat × Obj)
  rs : List ByteArray
theorem finish_fn (ws : List ByteArray) (xb : Nat) (wv cv : Value) (H : Hp) (hw : StL H wv ws) (hl : ws.length ≤ 10000) (hsz : ∀ w ∈ ws, w.data.size ≤ 120) : FnW Tryz.prog 27 #[.pointer (some ⟨xb, 0, none⟩)] H [LxB xb wv cv (.slice none 0 0)] (fun u H' l' => u = .tuple #[] ∧ H.le H' ∧ ∃ ad n c, l' = [LxB xb wv cv (.slice ad n c)]) := by
  obtain ⟨aw, cw, rfl⟩ := hw.len
  refine FnW.of_T (vs := [.pointer (some ⟨xb, 0, none⟩)]) Tryz.func27 rfl rfl fun w => ?_; refine J7 ?_; (refine T.makeSliceN (n := ws.length) Wanted.none rfl rfl rfl zO ?_; intro v10 lv10 hv10; obtain ⟨ad10, cap10, rfl⟩ := hv10.val); refine sy fun b2 => ?_; refine yq1 ?_; refine J12 ?_
  have hr0 : RowV 9 encT 1 (.slice ad10 ws.length cap10) lv10 (List.replicate ws.length (⟨#[]⟩ : ByteArray)) := by
    unfold RowV
    rw [List.length_replicate, show (List.replicate ws.length (⟨#[]⟩ : ByteArray)).flatMap encT = ((List.replicate ws.length (⟨#[]⟩ : ByteArray)).map encT).flatten from rfl, List.map_replicate]
    exact hv10
  refine T.loopK [(15, Value.int IntKind.i64 (↑ws.length : Int)), (14, Value.slice aw ws.length cw), (2, Value.pointer (some { block := b2, off := 0 })), (0, Value.pointer (some { block := xb, off := 0 }))] zq8 (γ := FnG) (fun g => g.i ≤ ws.length ∧ g.rs.length = ws.length ∧ Vec 9 1 (.slice ad10 ws.length cap10) g.lr ws.length (g.rs.flatMap encT) ∧ NRow 3 .i64 g.bv g.lb (List.range g.i)) (fun g => [(16, .int .i64 (g.i : Int))]) (fun g => (b2, .cells #[.slice ad10 ws.length cap10] 28 (0, 0)) :: (g.lr ++ (LxB xb (.slice aw ws.length cw) cv g.bv :: g.lb))) (fun _ => H) (fun g => ws.length - g.i) ⟨0, .slice none 0 0, [], lv10, List.replicate ws.length ⟨#[]⟩⟩ ⟨Nat.zero_le _, List.length_replicate, by have := hr0; unfold RowV at this; rw [List.length_replicate] at this; exact this, NRow.nil _ _⟩ zq8 zq23 rfl ?_
  rintro ⟨i, bv, lb, lr, rs⟩ ⟨hi, hrs, hlr, hbv⟩
  dsimp only at hi hrs hlr hbv ⊢
  obtain ⟨ab, cb, rfl⟩ := hbv.val
  have hrg : (List.range i).length = i := List.length_range
  by_cases h : i < ws.length
  · obtain ⟨x, hx⟩ : ∃ x, ws[i]? = some x := ⟨_, List.getElem?_eq_getElem h⟩
    have hx1 := hsz x (List.mem_of_getElem? hx)
    have hrv := reverse_fn x H (by show x.data.size ≤ 20000; omega)
    obtain ⟨y, hy⟩ : ∃ y : ByteArray, y = ⟨(revL x).toArray⟩ := ⟨_, rfl⟩
    rw [← hy] at hrv
    obtain ⟨b, off, rfl, hsub⟩ := RowL.at lenT hw hx
    obtain ⟨bq, cq, hve⟩ := hlr.ptr zO
    injection hve with e1 e2 e3
    subst e1 e3
    have hd : decide ((i : Int) < (ws.length : Int)) = true := decide_eq_true zO
    have hfl : (rs.flatMap encT).length = ws.length := by rw [flat_T, List.length_map]; exact hrs
    refine yq98 ?_; refine J3 ?_
    (repeat refine sq ?_)
    refine T.regionS [(b2, .cells #[.slice (some ⟨bq, 0, none⟩) ws.length cap10] 28 (0, 0))] 5 zK ?_; refine TS.take 0 rfl zK zK zK zK (PV.load1 rfl zq0 rfl) Wanted.none rfl rfl ?_; refine TS.take 1 rfl zK zK zK zK (PV.move rfl) Wanted.none rfl rfl ?_; refine TS.take 2 rfl zK zK zK zK (PV.move rfl) Wanted.none rfl rfl ?_
    refine TS.ways [3] zK rfl zq20 ⟨⟨_, rfl, ?_⟩, trivial⟩
    refine T.callV Wanted.none rfl rfl (hrv) ?_; refine yq4 ?_; refine TS.take 4 rfl zK zK zK zK (PV.indexAddr rfl rfl zO) Wanted.none rfl rfl ?_
    refine TS.ways [5] zK rfl zq20 ⟨⟨_, rfl, ?_⟩, trivial⟩
    (refine T.storeVecP (lv := lr) Wanted.none rfl rfl rfl hlr (by rw [Nat.zero_add, Nat.mul_one, Int.toNat_natCast, hfl]; exact h) zq1 ?_; intro lv3 hv3); refine yq11 ?_; refine J7 ?_; (refine T.buildSlice Wanted.none rfl rfl zq11 zX zX ?_; intro b32); (refine T.appendP (lv := lb) Wanted.none rfl rfl rfl hbv (Src.cells (m := 1) (ys := nV .i64 [i]) (.own zq2) rfl rfl) (nV_one _ _) zO zq1 ?_; intro v33 lv33 hv33 _; have hv33 := NRow.app hv33; obtain ⟨ad33, cap33, rfl⟩ := hv33.val); refine J2 ?_; refine yq1 ?_; refine J6 ?_
    rw [Nat.zero_add, Nat.mul_one, Int.toNat_natCast, flat_T_set] at hv3
    exact T.nextP ⟨i + 1, .slice ad33 (List.range i ++ [i]).length cap33, lv33, lv3, rs.set i y⟩ ⟨by dsimp only; omega, by dsimp only; rw [List.length_set]; exact hrs, hv3, by dsimp only; rw [List.range_succ]; exact hv33⟩ zE zq8 zq23 rfl
  · have hd : decide ((i : Int) < (ws.length : Int)) = false := decide_eq_false zO
    obtain rfl : i = ws.length := by omega
    refine yq44 ?_; refine T.exit rfl ?_; refine T.freezeK (b := b2) zq1 ?_
    intro H1 hle1 hb1
    refine T.freezeP hlr zq1 ?_
    intro H2 hle2 hs2
    rw [← hrs] at hs2
    have hcl : ∀ x y, x < ws.length → y < ws.length → Fn Tryz.prog 60 ([Value.int .i64 (x : Int), .int .i64 (y : Int)] ++ [Value.pointer (some ⟨b2, 0, none⟩)]).toArray H2 (fun u _ => u = .int .i64 (cmpS (rs[x]?.getD ⟨#[]⟩) (rs[y]?.getD ⟨#[]⟩))) := fun x y hx hy => by
      have h1 : rs[x]? = some (rs[x]?.getD ⟨#[]⟩) := by rw [List.getElem?_eq_getElem zO]; rfl
      have h2 : rs[y]? = some (rs[y]?.getD ⟨#[]⟩) := by rw [List.getElem?_eq_getElem zO]; rfl
      exact finish1_fn rs b2 (.slice ad10 rs.length cap10) x y _ _ H2 (by rw [hrs]; exact hle2 _ _ hb1) hs2 h1 h2 zO
    have hst := sortIx_fn ws.length zO _ lb H2 60 [Value.pointer (some ⟨b2, 0, none⟩)] (fun i => rs[i]?.getD ⟨#[]⟩) hbv hcl
    refine J5 ?_; refine sv (PV.makeFunc rfl) ?_; (refine T.callW Wanted.none rfl rfl hst zq1 ?_; rintro _ H3 l3 _ ⟨rfl, hH3, l2, hl2, hv3⟩; have hH3 := hH3.symm; subst hH3); refine so ?_
    exact T.fallW (Lv.finW [LxB xb (.slice aw ws.length cw) cv (.slice ab (List.range ws.length).length cb)] zq4 (RV.none rfl) ⟨rfl, hle1.trans hle2, _, _, _, rfl⟩)

end Go.Proofs.YtecogbhbkccblaaGreatDoor
namespace Go.Proofs.YtecogbhbkccblaaGreatDoor
open Go.RowKit


abbrev bxP (b2 xb : Nat) : Nat × Obj := (b2, .cells #[.pointer (some ⟨xb, 0, none⟩)] 33 (0, 0))
abbrev bxS (b3 : Nat) (s : ByteArray) : Nat × Obj := (b3, .cells #[.string s] 9 (0, 0))
theorem number1_fn (ws : List ByteArray) (xb b2 b3 i : Nat) (s x : ByteArray) (wv cv rv : Value) (H : Hp) (hw : StL H wv ws) (hx : ws[i]? = some x) (hl : ws.length ≤ 10000) : FnW Tryz.prog 63 #[.int .i64 (i : Int), .pointer (some ⟨b2, 0, none⟩), .pointer (some ⟨b3, 0, none⟩)] H [bxS b3 s, bxP b2 xb, LxB xb wv cv rv] (fun u H' l' => u = .bool (!(Op.bytesLess x.data.toList s.data.toList)) ∧ H' = H ∧ l' = [bxS b3 s, bxP b2 xb, LxB xb wv cv rv]) := by
  have hi := (List.getElem?_eq_some_iff.1 hx).1
  obtain ⟨ad, cap, rfl⟩ := hw.len
  obtain ⟨b, off, rfl, hsub⟩ := RowL.at lenT hw hx
  refine FnW.of_T (vs := [.int .i64 (i : Int), .pointer (some ⟨b2, 0, none⟩), .pointer (some ⟨b3, 0, none⟩)]) Tryz.func63 rfl rfl fun w => ?_; refine J4 ?_
  (repeat refine sq ?_)
  refine T.regionOl zK ?_; refine TO.take 0 rfl zK zK zK (PV.load1 rfl zq0 rfl) Wanted.none rfl rfl ?_; refine yq35 ?_; refine yq71 ?_; refine TO.take 5 rfl zK zK zK (PV.indexAddr rfl rfl zO) Wanted.none rfl rfl ?_; refine TO.take 6 rfl zK zK zK (PV.loadSub0 rfl zA) Wanted.none rfl rfl ?_; refine TO.take 7 rfl zK zK zK (PV.load1 rfl zq0 rfl) Wanted.none rfl rfl ?_; refine TO.take 8 rfl zK zK zK (PV.sgeq rfl rfl) Wanted.none rfl rfl ?_; refine TO.take 9 rfl zK zK zK (PV.assign rfl) Wanted.none rfl rfl ?_; refine yq37 ?_
  exact T.retW (Lv.finW _ (List.Sublist.refl _) (RV.tmp rfl rfl) ⟨rfl, rfl, rfl⟩)
theorem number_fn (ws : List ByteArray) (xb m : Nat) (s : ByteArray) (wv cv rv : Value) (H : Hp) (hw : StL H wv ws) (hok : WordsOk ws) (hm : ws[m]? = some s) (hl : ws.length ≤ 10000) : FnW Tryz.prog 28 #[.pointer (some ⟨xb, 0, none⟩), .string s] H [LxB xb wv cv rv] (fun u H' l' => u = .tuple #[.int .i64 (m : Int), .bool true] ∧ H' = H ∧ l' = [LxB xb wv cv rv]) := by
  have hml := (List.getElem?_eq_some_iff.1 hm).1
  have hmg := (List.getElem?_eq_some_iff.1 hm).2
  have hcl : ∀ b2 b3 i, i < ws.length → FnW Tryz.prog 63 ([Value.int .i64 (i : Int)] ++ [Value.pointer (some ⟨b2, 0, none⟩), Value.pointer (some ⟨b3, 0, none⟩)]).toArray H [bxS b3 s, bxP b2 xb, LxB xb wv cv rv] (fun u H' l' => u = .bool (decide (m ≤ i)) ∧ H' = H ∧ l' = [bxS b3 s, bxP b2 xb, LxB xb wv cv rv]) := fun b2 b3 i hi => by
    have h1 := number1_fn ws xb b2 b3 i s ws[i] wv cv rv H hw (List.getElem?_eq_getElem hi) hl
    have h2 : (!(Op.bytesLess ws[i].data.toList s.data.toList)) = decide (m ≤ i) := by
      have h3 := words_lt hok hi hml
      rw [hmg] at h3
      unfold blW at h3
      by_cases h : m ≤ i
      · rw [decide_eq_true h]
        cases h4 : Op.bytesLess ws[i].data.toList s.data.toList with
        | false => rfl
        | true => have := h3.1 h4; omega
      · rw [decide_eq_false h, h3.2 zO]; rfl
    rw [h2] at h1
    exact h1
  have hse := fun b2 b3 => search_fn ws.length m zO zO _ H 63 [.pointer (some ⟨b2, 0, none⟩), .pointer (some ⟨b3, 0, none⟩)] (hcl b2 b3)
  obtain ⟨ad, cap, rfl⟩ := hw.len
  obtain ⟨b, off, rfl, hsub⟩ := RowL.at lenT hw hm
  have hss : decide (s ≠ s) = false := decide_eq_false fun h => h rfl
  have hd : decide ((m : Int) = (ws.length : Int)) = false := decide_eq_false zO
  refine FnW.of_T (vs := [.pointer (some ⟨xb, 0, none⟩), .string s]) Tryz.func28 rfl rfl fun w => ?_; refine zs3 ?_; (refine T.box Wanted.none rfl rfl zq15 ?_; intro b2); (refine T.box Wanted.none rfl rfl zq15 ?_; intro b3); refine J10 ?_; refine sv (PV.makeFunc rfl) ?_; refine T.callWV Wanted.none rfl rfl (hse b2 b3) zq1 ?_; refine J2 ?_
  (repeat refine sq ?_)
  refine T.regionOl zK ?_; refine yq49 ?_; refine TO.take 1 rfl zK zK zK (PV.load1 rfl zq0 rfl) Wanted.none rfl rfl ?_; refine TO.take 2 rfl zK zK zK (PV.nilCheck rfl) Wanted.none rfl rfl ?_; refine yq96 ?_; refine TO.take 5 rfl zK zK zK (PV.lenSl rfl) Wanted.none rfl rfl ?_; refine TO.take 6 rfl zK zK zK (PV.eql rfl rfl) Wanted.none rfl rfl ?_; refine yq83 ?_; refine TO.take 8 rfl zK zK zK (PV.load1 rfl zq0 rfl) (Wanted.guard rfl rfl zA) rfl rfl ?_; refine TO.take 9 rfl zK zK zK (PV.nilCheck rfl) (Wanted.guard rfl rfl zA) rfl rfl ?_; refine TO.take 10 rfl zK zK zK (PV.fieldAddr rfl) (Wanted.guard rfl rfl zA) rfl rfl ?_; refine TO.take 11 rfl zK zK zK (PV.load1 rfl zq0 rfl) (Wanted.guard rfl rfl zA) rfl rfl ?_; refine TO.take 12 rfl zK zK zK (PV.move rfl) (Wanted.guard rfl rfl zA) rfl rfl ?_; refine TO.take 13 rfl zK zK zK (PV.indexAddr rfl rfl zO) (Wanted.guard rfl rfl zA) rfl rfl ?_; refine TO.take 14 rfl zK zK zK (PV.loadSub0 rfl zA) (Wanted.guard rfl rfl zA) rfl rfl ?_; refine TO.take 15 rfl zK zK zK (PV.load1 rfl zq0 rfl) (Wanted.guard rfl rfl zA) rfl rfl ?_; refine TO.take 16 rfl zK zK zK (PV.sneq rfl rfl) (Wanted.guard rfl rfl zA) rfl rfl ?_; refine TO.take 17 rfl zK zK zK (PV.pickF rfl zA rfl) Wanted.none rfl rfl ?_; refine yq37 ?_; refine yq6 ?_; refine J7 ?_
  exact T.retW (Lv.finW [LxB xb (.slice (some ⟨b, off, none⟩) ws.length cap) cv rv] zq4 (RV.tmp2 rfl rfl rfl) ⟨rfl, rfl, rfl⟩)

end Go.Proofs.YtecogbhbkccblaaGreatDoor
