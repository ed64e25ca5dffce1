/- strategy: the law Local. -/
import Derived.Test.YtceaicameojcaaaS16
namespace Go.Proofs.Ytceaicameojcaaa
open Go.RowKit

def shM (m : Mt) : Mt := ⟨m.b + 30, m.e + 30, m.v, m.ls⟩
theorem cmpL_sh (a b : Mt) : cmpL (keyM (shM a)) (keyM (shM b)) = cmpL (keyM a) (keyM b) := by
  unfold keyM shM
  dsimp only
  rw [cmpL, cmpL, cmpL, cmpL]
  repeat' split
  all_goals first | rfl | omega
theorem asc_sh {y : List Mt} (h : ascM y) : ascM (y.map shM) := by
  unfold ascM at *
  rw [List.pairwise_map]
  exact h.imp fun {a b} hab => by unfold ltK at *; rw [cmpL_sh]; exact hab
theorem local_ok {L M : Nat} {x y : List Mt} (hx : goodL L x) (hy : goodL M y) : ascM (x ++ y.map shM) ∧ (∀ m ∈ x ++ y.map shM, okS (spm m)) ∧ (∀ m ∈ y.map shM, okS (spm m)) ∧ ∀ a ∈ x, ∀ c ∈ y.map shM, a.e ≤ c.b := by
  have h1 : ∀ m ∈ y.map shM, okS (spm m) := by
    intro m hm
    obtain ⟨n, hn, rfl⟩ := List.mem_map.1 hm
    have := hy.2.2 n hn
    unfold okM at this
    exact ⟨by show 0 ≤ n.b + 30; omega, by show n.b + 30 < n.e + 30; omega⟩
  have h2 : ∀ a ∈ x, ∀ c ∈ y.map shM, a.e ≤ c.b := by
    intro a ha c hc
    obtain ⟨n, hn, rfl⟩ := List.mem_map.1 hc
    have h3 := hx.2.2 a ha
    have h4 := hy.2.2 n hn
    unfold okM at h3 h4
    show a.e ≤ n.b + 30
    omega
  refine ⟨?_, fun m hm => ?_, h1, h2⟩
  · unfold ascM
    rw [List.pairwise_append]
    refine ⟨hx.1, asc_sh hy.1, fun a ha c hc => ?_⟩
    have h3 := h2 a ha c hc
    have h4 := hx.ok a ha
    have h5 : a.b < a.e := h4.2
    unfold ltK keyM
    rw [cmpL, if_pos (by omega)]; omega
  · rcases List.mem_append.1 hm with h | h
    · exact hx.ok m h
    · exact h1 m h
structure MoG where
  j : Nat
  v : Value
  lv : List (Nat × Obj)
set_option maxHeartbeats 4000000 in
theorem local_fn (l : List Int) (v : Value) (l' : List Int) (v' : Value) (s : Int) (H : Hp) (hv : InL H v l) (hl : l.length ≤ 9223372036854775807) (hr : ∀ x ∈ l, inI64 x) (hv' : InL H v' l') (hl' : l'.length ≤ 9223372036854775807) (hr' : ∀ x ∈ l', inI64 x) (hs : inI64 s) :
    Fn Try.prog 9 #[v, v', .int .i64 s] H (fun u _ => u = .bool true) := by
  refine Fn.of_T (vs := [v, v', .int .i64 s]) Try.func9 rfl rfl fun w => ?_
  refine T.seq ?_
  refine T.region ?_
  refine T.pv (PV.assign rfl) Wanted.none rfl rfl ?_
  refine T.opsNil ?_
  refine T.seq ?_
  refine T.region ?_
  refine T.pv (PV.move rfl) Wanted.none rfl rfl ?_
  refine T.call Wanted.none rfl rfl (list_fn l v H hv hl hr) ?_
  rintro u1 H1 hle1 ⟨x, L, hx, hg⟩
  refine T.pv (PV.move rfl) Wanted.none rfl rfl ?_
  refine T.call Wanted.none rfl rfl (list_fn l' v' H1 (hv'.mono hle1) hl' hr') ?_
  rintro u2 H2 hle2 ⟨y, M, hy, hgy⟩
  replace hx := hx.mono hle2
  have hxl : x.length ≤ 13 := hg.2.1
  have hyl : y.length ≤ 13 := hgy.2.1
  obtain ⟨adx, capx, rfl⟩ := hx.1.len
  obtain ⟨ady, capy, rfl⟩ := hy.1.len
  refine T.pv (PV.assign rfl) Wanted.none rfl rfl ?_
  refine T.pv (PV.assign rfl) Wanted.none rfl rfl ?_
  refine T.opsNil ?_
  obtain ⟨q, hq⟩ : ∃ q : Bool, q = decide (0 < x.length ∧ 0 < y.length ∧ L ≠ M) := ⟨_, rfl⟩
  refine T.seq ?_
  refine T.seq ?_
  refine T.cut1 [(43, .bool q), (7, .slice adx x.length capx), (8, .slice ady y.length capy), (2, .int .i64 s)] [] ?_ fun K => ?_
  rotate_left
  · by_cases h1 : 0 < x.length
    · by_cases h2 : 0 < y.length
      · have hqe : q = decide ((L : Int) ≠ (M : Int)) := by rw [hq, decide_eq_decide]; omega
        subst hqe
        obtain ⟨m, hm⟩ : ∃ z, x[0]? = some z := ⟨_, List.getElem?_eq_getElem h1⟩
        obtain ⟨n, hn⟩ : ∃ z, y[0]? = some z := ⟨_, List.getElem?_eq_getElem h2⟩
        obtain ⟨b1, off1, rfl, hsub1⟩ := hx.1.matchAt hm
        obtain ⟨b2, off2, rfl, hsub2⟩ := hy.1.matchAt hn
        obtain ⟨am, cm, hmv⟩ := (hx.2 m (List.mem_of_getElem? hm)).1.len
        obtain ⟨an, cn, hnv⟩ := (hy.2 n (List.mem_of_getElem? hn)).1.len
        rw [hmv, (hg.2.2 m (List.mem_of_getElem? hm)).2.2.2.2] at hsub1
        rw [hnv, (hgy.2.2 n (List.mem_of_getElem? hn)).2.2.2.2] at hsub2
        refine T.regionQ (by kernel_rfl) ?_
        refine TQ.pv (PV.move rfl) Wanted.none rfl rfl ?_
        refine TQ.pv (PV.lenSl rfl) Wanted.none rfl rfl ?_
        refine TQ.pv (PV.gtr rfl rfl) Wanted.none rfl rfl ?_
        refine TQ.pv (PV.move rfl) Wanted.none rfl rfl ?_
        refine TQ.setT (d := 26) rfl (by omega) ?_
        refine TQ.pv (PV.move rfl) (Wanted.guard rfl rfl rfl) rfl rfl ?_
        refine TQ.pv (PV.lenSl rfl) (Wanted.guard rfl rfl rfl) rfl rfl ?_
        refine TQ.pv (PV.gtr rfl rfl) (Wanted.guard rfl rfl rfl) rfl rfl ?_
        refine TQ.pv (PV.pickT rfl rfl rfl) Wanted.none rfl rfl ?_
        refine TQ.pv (PV.move rfl) Wanted.none rfl rfl ?_
        refine TQ.setT (d := 31) rfl (by omega) ?_
        refine TQ.pv (PV.move rfl) (Wanted.guard rfl rfl rfl) rfl rfl ?_
        refine TQ.pv (PV.indexAddr rfl rfl (by omega)) (Wanted.guard rfl rfl rfl) rfl rfl ?_
        refine TQ.pv (PV.fieldAddr rfl) (Wanted.guard rfl rfl rfl) rfl rfl ?_
        refine TQ.pv (PV.loadSub rfl (by assumption) rfl) (Wanted.guard rfl rfl rfl) rfl rfl ?_
        refine TQ.pv (PV.lenSl rfl) (Wanted.guard rfl rfl rfl) rfl rfl ?_
        refine TQ.pv (PV.move rfl) (Wanted.guard rfl rfl rfl) rfl rfl ?_
        refine TQ.pv (PV.indexAddr rfl rfl (by omega)) (Wanted.guard rfl rfl rfl) rfl rfl ?_
        refine TQ.pv (PV.fieldAddr rfl) (Wanted.guard rfl rfl rfl) rfl rfl ?_
        refine TQ.pv (PV.loadSub rfl (by assumption) rfl) (Wanted.guard rfl rfl rfl) rfl rfl ?_
        refine TQ.pv (PV.lenSl rfl) (Wanted.guard rfl rfl rfl) rfl rfl ?_
        refine TQ.pv (PV.neq rfl rfl) (Wanted.guard rfl rfl rfl) rfl rfl ?_
        refine TQ.pv (PV.pickT rfl rfl rfl) Wanted.none rfl rfl ?_
        refine TQ.nil ?_
        exact K _ _ (by repeat (first | exact trivial | refine And.intro rfl ?_)) (by repeat (first | exact List.Sublist.slnil | exact List.nil_sublist _ | exact List.Sublist.refl _ | exact List.sublist_append_left _ [] | apply List.Sublist.cons_cons | apply List.Sublist.cons | refine List.Sublist.append_left ?_ _ | refine List.sublist_append_of_sublist_right ?_))
      · have hqe : q = false := by rw [hq]; exact decide_eq_false (by omega)
        subst hqe
        refine T.regionQ (by kernel_rfl) ?_
        refine TQ.pv (PV.move rfl) Wanted.none rfl rfl ?_
        refine TQ.pv (PV.lenSl rfl) Wanted.none rfl rfl ?_
        refine TQ.pv (PV.gtr rfl rfl) Wanted.none rfl rfl ?_
        refine TQ.pv (PV.move rfl) Wanted.none rfl rfl ?_
        refine TQ.setT (d := 26) rfl (by omega) ?_
        refine TQ.pv (PV.move rfl) (Wanted.guard rfl rfl rfl) rfl rfl ?_
        refine TQ.pv (PV.lenSl rfl) (Wanted.guard rfl rfl rfl) rfl rfl ?_
        refine TQ.pv (PV.gtr rfl rfl) (Wanted.guard rfl rfl rfl) rfl rfl ?_
        refine TQ.pv (PV.pickT rfl rfl rfl) Wanted.none rfl rfl ?_
        refine TQ.pv (PV.move rfl) Wanted.none rfl rfl ?_
        refine TQ.setF (d := 31) rfl (by omega) ?_
        refine TQ.pass (Unwanted.guard rfl rfl rfl) rfl rfl ?_
        refine TQ.pass (Unwanted.guard rfl rfl rfl) rfl rfl ?_
        refine TQ.pass (Unwanted.guard rfl rfl rfl) rfl rfl ?_
        refine TQ.pass (Unwanted.guard rfl rfl rfl) rfl rfl ?_
        refine TQ.pass (Unwanted.guard rfl rfl rfl) rfl rfl ?_
        refine TQ.pass (Unwanted.guard rfl rfl rfl) rfl rfl ?_
        refine TQ.pass (Unwanted.guard rfl rfl rfl) rfl rfl ?_
        refine TQ.pass (Unwanted.guard rfl rfl rfl) rfl rfl ?_
        refine TQ.pass (Unwanted.guard rfl rfl rfl) rfl rfl ?_
        refine TQ.pass (Unwanted.guard rfl rfl rfl) rfl rfl ?_
        refine TQ.pass (Unwanted.guard rfl rfl rfl) rfl rfl ?_
        refine TQ.pv (PV.pickF rfl rfl rfl) Wanted.none rfl rfl ?_
        refine TQ.nil ?_
        exact K _ _ (by repeat (first | exact trivial | refine And.intro rfl ?_)) (by repeat (first | exact List.Sublist.slnil | exact List.nil_sublist _ | exact List.Sublist.refl _ | exact List.sublist_append_left _ [] | apply List.Sublist.cons_cons | apply List.Sublist.cons | refine List.Sublist.append_left ?_ _ | refine List.sublist_append_of_sublist_right ?_))
    · have hqe : q = false := by rw [hq]; exact decide_eq_false (by omega)
      subst hqe
      refine T.regionQ (by kernel_rfl) ?_
      refine TQ.pv (PV.move rfl) Wanted.none rfl rfl ?_
      refine TQ.pv (PV.lenSl rfl) Wanted.none rfl rfl ?_
      refine TQ.pv (PV.gtr rfl rfl) Wanted.none rfl rfl ?_
      refine TQ.pv (PV.move rfl) Wanted.none rfl rfl ?_
      refine TQ.setF (d := 26) rfl (by omega) ?_
      refine TQ.pass (Unwanted.guard rfl rfl rfl) rfl rfl ?_
      refine TQ.pass (Unwanted.guard rfl rfl rfl) rfl rfl ?_
      refine TQ.pass (Unwanted.guard rfl rfl rfl) rfl rfl ?_
      refine TQ.pv (PV.pickF rfl rfl rfl) Wanted.none rfl rfl ?_
      refine TQ.pv (PV.move rfl) Wanted.none rfl rfl ?_
      refine TQ.pass (Unwanted.guard rfl rfl rfl) rfl rfl ?_
      refine TQ.pass (Unwanted.guard rfl rfl rfl) rfl rfl ?_
      refine TQ.pass (Unwanted.guard rfl rfl rfl) rfl rfl ?_
      refine TQ.pass (Unwanted.guard rfl rfl rfl) rfl rfl ?_
      refine TQ.pass (Unwanted.guard rfl rfl rfl) rfl rfl ?_
      refine TQ.pass (Unwanted.guard rfl rfl rfl) rfl rfl ?_
      refine TQ.pass (Unwanted.guard rfl rfl rfl) rfl rfl ?_
      refine TQ.pass (Unwanted.guard rfl rfl rfl) rfl rfl ?_
      refine TQ.pass (Unwanted.guard rfl rfl rfl) rfl rfl ?_
      refine TQ.pass (Unwanted.guard rfl rfl rfl) rfl rfl ?_
      refine TQ.pass (Unwanted.guard rfl rfl rfl) rfl rfl ?_
      refine TQ.pv (PV.pickF rfl rfl rfl) Wanted.none rfl rfl ?_
      refine TQ.nil ?_
      exact K _ _ (by repeat (first | exact trivial | refine And.intro rfl ?_)) (by repeat (first | exact List.Sublist.slnil | exact List.nil_sublist _ | exact List.Sublist.refl _ | exact List.sublist_append_left _ [] | apply List.Sublist.cons_cons | apply List.Sublist.cons | refine List.Sublist.append_left ?_ _ | refine List.sublist_append_of_sublist_right ?_))
  refine T.cond rfl (fun hc => ?_) (fun hc => ?_)
  · refine T.seq ?_
    refine T.region ?_
    refine T.callV Wanted.none rfl rfl (known_fn _) ?_
    refine T.pv (PV.assign rfl) Wanted.none rfl rfl ?_
    refine T.opsNil ?_
    exact T.retF (Lv.fin (RV.tmp rfl rfl) rfl)
  clear hq
  refine T.skip ?_
  refine T.seq ?_
  refine T.region ?_
  (refine T.buildSlice Wanted.none rfl rfl (by repeat (first | exact FillAll.nil | (apply FillAll.cons; (first | exact CellsR.one rfl | exact CellsR.agg); exact rfl))) (by exact rfl) (by exact rfl) ?_; intro b45)
  refine T.pv (PV.move rfl) Wanted.none rfl rfl ?_
  refine T.append [] (lv := []) (bl := [_]) Wanted.none rfl rfl rfl (Vec.empty 38 3 _) hx.1.src (one_flatM hx.2) (by omega) ?_
  intro v9 lv9 hv9 _
  rw [Nat.zero_add, List.nil_append] at hv9
  refine T.pv (PV.assign rfl) Wanted.none rfl rfl ?_
  refine T.opsNil ?_
  refine T.seq ?_
  refine T.region ?_
  refine T.pv (PV.assign rfl) Wanted.none rfl rfl ?_
  refine T.opsNil ?_
  refine T.seq ?_
  refine T.seq ?_
  refine T.region ?_
  refine T.pv (PV.move rfl) Wanted.none rfl rfl ?_
  refine T.pv (PV.lenSl rfl) Wanted.none rfl rfl ?_
  refine T.pv (PV.move rfl) Wanted.none rfl rfl ?_
  refine T.opsNil ?_
  refine T.block ?_
  refine T.loop (γ := MoG) (fun g => g.j ≤ y.length ∧ MtV g.v g.lv ((y.take g.j).map shM))
    (fun g => [(50, .int .i64 (g.j : Int)), (49, .int .i64 (y.length : Int)), (48, .slice ady y.length capy), (10, g.v), (9, v9), (7, .slice adx x.length capx), (2, .int .i64 s)])
    (fun g => g.lv ++ lv9) (fun _ => H2) (fun g => y.length - g.j) ⟨0, .slice none 0 0, []⟩ ⟨by simp, Vec.nil 38 3⟩ (by repeat (first | exact trivial | refine And.intro rfl ?_)) (by exact List.sublist_append_left lv9 _) rfl ?_
  rintro ⟨j, v10, lv10⟩ ⟨j1, j3⟩
  dsimp only at j1 j3 ⊢
  have hlen : ((y.take j).map shM).length ≤ 13 := by rw [List.length_map, List.length_take]; omega
  by_cases hj : j < y.length
  · obtain ⟨m, hm⟩ : ∃ z, y[j]? = some z := ⟨_, List.getElem?_eq_getElem hj⟩
    have hmem := List.mem_of_getElem? hm
    obtain ⟨b, off, rfl, hsub⟩ := hy.1.matchAt hm
    obtain ⟨am, cm, hmv⟩ := (hy.2 m hmem).1.len
    have hokm := hgy.2.2 m hmem
    unfold okM at hokm
    have hlab : LabOk H2 (shM m) := hy.2 m hmem
    have henc : encM (shM m) = [.int .i64 (m.b + 30), .int .i64 (m.e + 30), .slice am m.ls.length cm] := by unfold encM shM; rw [← hmv]
    rw [hmv] at hsub
    have hsn : (y.take (j + 1)).map shM = (y.take j).map shM ++ [shM m] := by rw [List.take_add_one, hm, List.map_append]; rfl
    refine T.seq ?_
    refine T.region ?_
    refine T.pv (PV.lss rfl rfl) Wanted.none rfl rfl ?_
    refine T.opsNil ?_
    refine T.seq ?_
    refine T.condT rfl (decide_eq_true (by omega)) ?_
    refine T.skip ?_
    refine T.seq ?_
    refine T.block ?_
    refine T.seq ?_
    refine T.region ?_
    refine T.pv (PV.indexAddr rfl rfl (by omega)) Wanted.none rfl rfl ?_
    refine T.pv (PV.loadSubAll rfl (by assumption) (by exact rfl)) Wanted.none rfl rfl ?_
    (refine T.alloc Wanted.none rfl ?_; intro b12)
    refine T.storeA Wanted.none rfl rfl (by repeat (first | exact trivial | refine And.intro rfl ?_)) (by exact rfl) (by repeat (first | exact Upd.head | apply Upd.tail | apply Upd.app)) (by repeat (first | exact Splice.nil | apply Splice.cons | apply Splice.skip)) ?_
    refine T.opsNil ?_
    refine T.seq ?_
    refine T.region ?_
    refine T.pv (PV.fieldAddr rfl) Wanted.none rfl rfl ?_
    refine T.pv (PV.load1 rfl (by first | exact .fro (by assumption) | exact .own (by repeat (first | exact List.Mem.head _ | apply List.Mem.tail | apply List.mem_append_right))) rfl) Wanted.none rfl rfl ?_
    refine T.pv (PV.add rfl rfl (by omega)) Wanted.none rfl rfl ?_
    refine T.pv (PV.fieldAddr rfl) Wanted.none rfl rfl ?_
    refine T.pv (PV.load1 rfl (by first | exact .fro (by assumption) | exact .own (by repeat (first | exact List.Mem.head _ | apply List.Mem.tail | apply List.mem_append_right))) rfl) Wanted.none rfl rfl ?_
    refine T.pv (PV.add rfl rfl (by omega)) Wanted.none rfl rfl ?_
    refine T.pv (PV.fieldAddr rfl) Wanted.none rfl rfl ?_
    refine T.store1 Wanted.none rfl rfl rfl (by repeat (first | exact Upd.head | apply Upd.tail | apply Upd.app)) (by repeat (first | exact Splice.nil | apply Splice.cons | apply Splice.skip)) ?_
    refine T.pv (PV.fieldAddr rfl) Wanted.none rfl rfl ?_
    refine T.store1 Wanted.none rfl rfl rfl (by repeat (first | exact Upd.head | apply Upd.tail | apply Upd.app)) (by repeat (first | exact Splice.nil | apply Splice.cons | apply Splice.skip)) ?_
    refine T.opsNil ?_
    refine T.region ?_
    refine T.pv (PV.move rfl) Wanted.none rfl rfl ?_
    refine T.pv (PV.loadAll rfl (by first | exact .fro (by assumption) | exact .own (by repeat (first | exact List.Mem.head _ | apply List.Mem.tail | apply List.mem_append_right))) (by exact rfl)) Wanted.none rfl rfl ?_
    (refine T.buildSlice Wanted.none rfl rfl (by repeat (first | exact FillAll.nil | (apply FillAll.cons; (first | exact CellsR.one rfl | exact CellsR.agg); exact rfl))) (by exact rfl) (by exact rfl) ?_; intro b64)
    refine T.append [_, _] (lv := lv10) (bl := lv9) Wanted.none rfl rfl rfl j3 (Src.cells (m := 1) (ys := encM (shM m)) (.own (by repeat (first | exact List.Mem.head _ | apply List.Mem.tail | apply List.mem_append_right))) (by rw [henc]; rfl) rfl) (one_encM hlab) (by omega) ?_
    intro v2 lv2 hv2 _
    refine T.pv (PV.assign rfl) Wanted.none rfl rfl ?_
    refine T.opsNil ?_
    refine T.blkEnd ?_
    refine T.region ?_
    refine T.pv (PV.add rfl rfl (by omega)) Wanted.none rfl rfl ?_
    refine T.pv (PV.move rfl) Wanted.none rfl rfl ?_
    refine T.opsNil ?_
    refine T.next ⟨j + 1, v2, lv2⟩ ⟨by dsimp only; omega, ?_⟩ (by dsimp only; omega) (by repeat (first | exact trivial | refine And.intro rfl ?_)) (by exact .cons _ (.cons _ (List.Sublist.refl _))) rfl
    dsimp only
    rw [hsn]
    exact MtV.snoc hv2
  rw [List.take_of_length_le (by omega)] at j3
  have hyl2 : (y.map shM).length ≤ 13 := by rw [List.length_map]; omega
  have hlabs : ∀ m ∈ y.map shM, LabOk H2 m := by
    intro m hm
    obtain ⟨n, hn, rfl⟩ := List.mem_map.1 hm
    exact hy.2 n hn
  refine Vec.freeze (lv := lv10) (l := lv9) j3 ?_
  intro H3 hle3 hmo
  have hmov : MtL H3 v10 (y.map shM) := ⟨hmo, fun m hm => (hlabs m hm).mono hle3⟩
  obtain ⟨g1, g2, g3, g4⟩ := local_ok hg hgy
  clear hlabs hmo j3
  generalize y.map shM = y' at *
  replace hx := hx.mono hle3
  refine T.seq ?_
  refine T.region ?_
  refine T.pv (PV.lss rfl rfl) Wanted.none rfl rfl ?_
  refine T.opsNil ?_
  refine T.seq ?_
  refine T.condF rfl (decide_eq_false (by omega)) ?_
  refine T.exit rfl ?_
  refine T.seq ?_
  refine T.region ?_
  refine T.pv (PV.move rfl) Wanted.none rfl rfl ?_
  refine T.pv (PV.move rfl) Wanted.none rfl rfl ?_
  refine T.appendE [] (lv := lv9) Wanted.none rfl rfl rfl hv9 hmov.1.src (one_flatM hmov.2) (by omega) ?_
  intro v4 lv4 hv4 _
  rw [← List.length_append, ← List.flatMap_append] at hv4
  refine T.pv (PV.assign rfl) Wanted.none rfl rfl ?_
  refine T.opsNil ?_
  refine T.seq ?_
  refine T.region ?_
  refine T.pv (PV.move rfl) Wanted.none rfl rfl ?_
  refine T.callV Wanted.none rfl rfl (mod_fn s 4 H3 hs (by omega)) ?_
  have hk : 0 ≤ s % 4 ∧ s % 4 ≤ 3 := by omega
  generalize s % 4 = k at hk ⊢
  refine T.perm (l' := lv4 ++ []) (by rw [List.append_nil]; exact List.Perm.refl _) ?_
  refine Vec.freeze (lv := lv4) (l := []) (by exact hv4) ?_
  intro H4 hle4 hbo
  have hboth : MtL H4 v4 (x ++ y') := ⟨hbo, fun m hm => by
    rcases List.mem_append.1 hm with h | h
    · exact (hx.2 m h).mono hle4
    · exact (hmov.2 m h).mono hle4⟩
  replace hx := hx.mono hle4
  replace hmov := hmov.mono hle4
  have hgx : goodM k x := hg.good hk
  have hgm : goodM k y' := ⟨hk, g3, (List.pairwise_append.1 g1).2.1⟩
  have hgb : goodM k (x ++ y') := ⟨hk, g2, g1⟩
  have hbl : (x ++ y').length ≤ 26 := by rw [List.length_append]; omega
  have happ : chooseM k (x ++ y') = chooseM k x ++ chooseM k y' := choose_app hg.ok g3 g4
  refine T.pv (PV.assign rfl) Wanted.none rfl rfl ?_
  refine T.opsNil ?_
  refine T.seq ?_
  refine T.region ?_
  refine T.pv (PV.move rfl) Wanted.none rfl rfl ?_
  refine T.pv (PV.move rfl) Wanted.none rfl rfl ?_
  refine T.call Wanted.none rfl rfl (choose_fn k x _ H4 hx (by omega)) ?_
  intro u5 H5 hle5 h5
  obtain ⟨v5, a5, rfl, h5, k5⟩ := choose_ok hgx h5
  refine T.pv (PV.move rfl) Wanted.none rfl rfl ?_
  refine T.pv (PV.extract rfl rfl) Wanted.none rfl rfl ?_
  refine T.pv (PV.extract rfl rfl) Wanted.none rfl rfl ?_
  refine T.pv (PV.assign rfl) Wanted.none rfl rfl ?_
  refine T.pv (PV.assign rfl) Wanted.none rfl rfl ?_
  refine T.opsNil ?_
  refine T.seq ?_
  refine T.region ?_
  refine T.pv (PV.move rfl) Wanted.none rfl rfl ?_
  refine T.pv (PV.move rfl) Wanted.none rfl rfl ?_
  refine T.call Wanted.none rfl rfl (choose_fn k y' _ H5 (hmov.mono hle5) (by omega)) ?_
  intro u6 H6 hle6 h6
  obtain ⟨v6, a6, rfl, h6, k6⟩ := choose_ok hgm h6
  refine T.pv (PV.move rfl) Wanted.none rfl rfl ?_
  refine T.pv (PV.extract rfl rfl) Wanted.none rfl rfl ?_
  refine T.pv (PV.extract rfl rfl) Wanted.none rfl rfl ?_
  refine T.pv (PV.assign rfl) Wanted.none rfl rfl ?_
  refine T.pv (PV.assign rfl) Wanted.none rfl rfl ?_
  refine T.opsNil ?_
  refine T.seq ?_
  refine T.region ?_
  refine T.pv (PV.move rfl) Wanted.none rfl rfl ?_
  refine T.pv (PV.move rfl) Wanted.none rfl rfl ?_
  refine T.call Wanted.none rfl rfl (choose_fn k (x ++ y') _ H6 (hboth.mono (hle5.trans hle6)) (by omega)) ?_
  intro u7 H7 hle7 h7
  obtain ⟨v7, a7, rfl, h7, k7⟩ := choose_ok hgb h7
  have l5 : a5.length ≤ 13 := by rw [map_len k5]; exact Nat.le_trans (choose_sub k x).length_le hxl
  have l6 : a6.length ≤ 13 := by rw [map_len k6]; exact Nat.le_trans (choose_sub k y').length_le hyl2
  have l7 : a7.length ≤ 26 := by rw [map_len k7]; exact Nat.le_trans (choose_sub k _).length_le hbl
  replace h5 := h5.mono (hle6.trans hle7)
  replace h6 := h6.mono hle7
  refine T.pv (PV.move rfl) Wanted.none rfl rfl ?_
  refine T.pv (PV.extract rfl rfl) Wanted.none rfl rfl ?_
  refine T.pv (PV.extract rfl rfl) Wanted.none rfl rfl ?_
  refine T.pv (PV.assign rfl) Wanted.none rfl rfl ?_
  refine T.pv (PV.assign rfl) Wanted.none rfl rfl ?_
  refine T.opsNil ?_
  refine T.seq ?_
  refine T.region ?_
  refine T.pv (PV.move rfl) Wanted.none rfl rfl ?_
  refine T.pv (PV.eql rfl rfl) Wanted.none rfl rfl ?_
  refine T.pv (PV.move rfl) Wanted.none rfl rfl ?_
  refine T.pv (PV.move rfl) (Wanted.guard rfl rfl rfl) rfl rfl ?_
  refine T.pv (PV.eql rfl rfl) (Wanted.guard rfl rfl rfl) rfl rfl ?_
  refine T.pv (PV.pickT rfl rfl rfl) Wanted.none rfl rfl ?_
  refine T.pv (PV.move rfl) Wanted.none rfl rfl ?_
  refine T.pv (PV.move rfl) (Wanted.guard rfl rfl rfl) rfl rfl ?_
  refine T.pv (PV.eql rfl rfl) (Wanted.guard rfl rfl rfl) rfl rfl ?_
  refine T.pv (PV.pickT rfl rfl rfl) Wanted.none rfl rfl ?_
  refine T.pv (PV.move rfl) Wanted.none rfl rfl ?_
  refine T.pv (PV.move rfl) (Wanted.guard rfl rfl rfl) rfl rfl ?_
  (refine T.buildSlice (Wanted.guard rfl rfl rfl) rfl rfl (by repeat (first | exact FillAll.nil | (apply FillAll.cons; (first | exact CellsR.one rfl | exact CellsR.agg); exact rfl))) (by exact rfl) (by exact rfl) ?_; intro b102)
  refine T.pv (PV.move rfl) (Wanted.guard rfl rfl rfl) rfl rfl ?_
  refine T.setT (d := 100) rfl (by omega) ?_
  refine T.append [] (lv := []) (bl := [_]) (Wanted.guard rfl rfl rfl) rfl rfl rfl (Vec.empty 38 3 _) h5.1.src (one_flatM h5.2) (by omega) ?_
  intro v8 lv8 hv8 _
  rw [Nat.zero_add, List.nil_append] at hv8
  refine T.pv (PV.move rfl) (Wanted.guard rfl rfl rfl) rfl rfl ?_
  refine T.append [] (lv := lv8) (bl := [_]) (Wanted.guard rfl rfl rfl) rfl rfl rfl hv8 h6.1.src (one_flatM h6.2) (by omega) ?_
  intro v10 lv10 hv10 _
  rw [← List.length_append, ← List.flatMap_append] at hv10
  refine Vec.freeze (lv := lv10) (l := [_]) (by exact hv10) ?_
  intro H8 hle8 hab
  have hAB : MtL H8 v10 (a5 ++ a6) := ⟨hab, fun m hm => by
    rcases List.mem_append.1 hm with h | h
    · exact (h5.2 m h).mono hle8
    · exact (h6.2 m h).mono hle8⟩
  have hsame := same24_fn a7 (a5 ++ a6) v7 v10 H8 (h7.mono hle8) hAB (by omega)
  have hkk : a7.map keyM = (a5 ++ a6).map keyM := by rw [k7, happ, List.map_append, List.map_append, k5, k6]
  rw [decide_eq_true hkk] at hsame
  refine T.callV (Wanted.guard rfl rfl rfl) rfl rfl (hsame) ?_
  refine T.pv (PV.pickT rfl rfl rfl) Wanted.none rfl rfl ?_
  refine T.pv (PV.move rfl) Wanted.none rfl rfl ?_
  refine T.callV (Wanted.guard rfl rfl rfl) rfl rfl (known_fn _) ?_
  refine T.pv (PV.pickT rfl rfl rfl) Wanted.none rfl rfl ?_
  refine T.pv (PV.assign rfl) Wanted.none rfl rfl ?_
  refine T.opsNil ?_
  exact T.retF (Lv.fin (RV.tmp rfl rfl) rfl)
end Go.Proofs.Ytceaicameojcaaa
