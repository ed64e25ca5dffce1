/- interval: the laws' own functions. -/
import Derived.Test.YtapakgncdmmmaaaI10
namespace Go.Proofs.Ytapakgncdmmmaaa
open Go.RowKit

def awL : List Sp := [(3, 4), (0, 2), (0, 5), (3, 4)]
theorem awChk : chk1 awL = 0 := by decide
theorem awNorm : normS awL = [(0, 5), (0, 2), (3, 4)] := by
  refine sorted_ext ltS_sto _ _ (normS_sorted awL) (by simp [ltS]) fun x => ?_
  rw [normS_mem]
  simp only [awL, List.mem_cons, List.not_mem_nil, or_false]
  constructor
  · rintro (h | h | h | h) <;> simp [h]
  · rintro (h | h | h) <;> simp [h]
theorem awRel : relI (0, 4) (2, 4) = 4 := by decide
set_option maxHeartbeats 1000000 in
theorem awake_fn (H : Hp) : Fn Try.prog 13 #[] H (fun v _ => v = .bool true) := by
  refine Fn.of_T (vs := []) Try.func13 rfl rfl fun w => ?_
  refine T.seq ?_
  refine T.region ?_
  refine T.pv (PV.assign rfl) Wanted.none rfl rfl ?_
  refine T.opsNil ?_
  refine T.seq ?_
  refine T.region ?_
  refine T.pv (PV.build rfl (by repeat (first | exact FillR.nil | (apply FillR.cons rfl; (first | exact CellsR.one rfl | exact CellsR.agg); rfl; repeat (first | exact Splice.nil | apply Splice.cons | apply Splice.skip))))) Wanted.none rfl rfl ?_
  refine T.pv (PV.build rfl (by repeat (first | exact FillR.nil | (apply FillR.cons rfl; (first | exact CellsR.one rfl | exact CellsR.agg); rfl; repeat (first | exact Splice.nil | apply Splice.cons | apply Splice.skip))))) Wanted.none rfl rfl ?_
  refine T.pv (PV.build rfl (by repeat (first | exact FillR.nil | (apply FillR.cons rfl; (first | exact CellsR.one rfl | exact CellsR.agg); rfl; repeat (first | exact Splice.nil | apply Splice.cons | apply Splice.skip))))) Wanted.none rfl rfl ?_
  refine T.pv (PV.build rfl (by repeat (first | exact FillR.nil | (apply FillR.cons rfl; (first | exact CellsR.one rfl | exact CellsR.agg); rfl; repeat (first | exact Splice.nil | apply Splice.cons | apply Splice.skip))))) Wanted.none rfl rfl ?_
  (refine T.buildSlice Wanted.none rfl rfl (by repeat (first | exact FillAll.nil | (apply FillAll.cons; (first | exact CellsR.one rfl | exact CellsR.agg); exact rfl))) (by exact rfl) (by exact rfl) ?_; intro b8)
  refine T.freezeLit ?_
  intro H1 hle1 hH1
  have hv1 : SpL H1 (.slice (some ⟨b8, 0, none⟩) 4 4) awL := SlR.lit (n := 4) hH1 rfl
  refine T.call Wanted.none rfl rfl (normalize_fn awL _ H1 hv1 (by decide)) ?_
  rintro _ H2 hle2 ⟨r, rfl, hr⟩
  rw [awChk, if_pos rfl, awNorm] at hr
  rw [awChk]
  refine T.pv (PV.move rfl) Wanted.none rfl rfl ?_
  refine T.pv (PV.extract rfl rfl) Wanted.none rfl rfl ?_
  refine T.pv (PV.extract rfl rfl) Wanted.none rfl rfl ?_
  refine T.pv (PV.assign rfl) Wanted.none rfl rfl ?_
  refine T.pv (PV.assign rfl) Wanted.none rfl rfl ?_
  refine T.opsNil ?_
  refine T.seq ?_
  refine T.region ?_
  refine T.pv (PV.move rfl) Wanted.none rfl rfl ?_
  refine T.pv (PV.eql rfl rfl) Wanted.none rfl rfl ?_
  refine T.pv (PV.move rfl) Wanted.none rfl rfl ?_
  refine T.pv (PV.move rfl) (Wanted.guard rfl rfl rfl) rfl rfl ?_
  refine T.pv (PV.build rfl (by repeat (first | exact FillR.nil | (apply FillR.cons rfl; (first | exact CellsR.one rfl | exact CellsR.agg); rfl; repeat (first | exact Splice.nil | apply Splice.cons | apply Splice.skip))))) (Wanted.guard rfl rfl rfl) rfl rfl ?_
  refine T.pv (PV.build rfl (by repeat (first | exact FillR.nil | (apply FillR.cons rfl; (first | exact CellsR.one rfl | exact CellsR.agg); rfl; repeat (first | exact Splice.nil | apply Splice.cons | apply Splice.skip))))) (Wanted.guard rfl rfl rfl) rfl rfl ?_
  refine T.pv (PV.build rfl (by repeat (first | exact FillR.nil | (apply FillR.cons rfl; (first | exact CellsR.one rfl | exact CellsR.agg); rfl; repeat (first | exact Splice.nil | apply Splice.cons | apply Splice.skip))))) (Wanted.guard rfl rfl rfl) rfl rfl ?_
  (refine T.buildSlice (Wanted.guard rfl rfl rfl) rfl rfl (by repeat (first | exact FillAll.nil | (apply FillAll.cons; (first | exact CellsR.one rfl | exact CellsR.agg); exact rfl))) (by exact rfl) (by exact rfl) ?_; intro b19)
  refine T.setT (d := 14) rfl (by omega) ?_
  refine T.freezeLit ?_
  intro H3 hle3 hH3
  have hv3 : SpL H3 (.slice (some ⟨b19, 0, none⟩) 3 3) [(0, 5), (0, 2), (3, 4)] := SlR.lit (n := 3) hH3 rfl
  have hs := same_fn [(0, 5), (0, 2), (3, 4)] [(0, 5), (0, 2), (3, 4)] _ _ H3 (hr.mono hle3) hv3 (by decide)
  rw [decide_eq_true rfl] at hs
  have hrel := relation_fn (0, 4) (2, 4) H3
  rw [awRel] at hrel
  unfold spV at hrel
  refine T.callV (Wanted.guard rfl rfl rfl) rfl rfl (hs) ?_
  refine T.pv (PV.pickT rfl rfl rfl) Wanted.none rfl rfl ?_
  refine T.pv (PV.move rfl) Wanted.none rfl rfl ?_
  refine T.pv (PV.build rfl (by repeat (first | exact FillR.nil | (apply FillR.cons rfl; (first | exact CellsR.one rfl | exact CellsR.agg); rfl; repeat (first | exact Splice.nil | apply Splice.cons | apply Splice.skip))))) (Wanted.guard rfl rfl rfl) rfl rfl ?_
  refine T.pv (PV.build rfl (by repeat (first | exact FillR.nil | (apply FillR.cons rfl; (first | exact CellsR.one rfl | exact CellsR.agg); rfl; repeat (first | exact Splice.nil | apply Splice.cons | apply Splice.skip))))) (Wanted.guard rfl rfl rfl) rfl rfl ?_
  refine T.callV (Wanted.guard rfl rfl rfl) rfl rfl (hrel) ?_
  refine T.pv (PV.eql rfl rfl) (Wanted.guard rfl rfl rfl) rfl rfl ?_
  refine T.pv (PV.pickT rfl rfl rfl) Wanted.none rfl rfl ?_
  refine T.pv (PV.assign rfl) Wanted.none rfl rfl ?_
  refine T.opsNil ?_
  exact T.retF (Lv.fin (RV.tmp rfl rfl) (by rfl))
set_option maxHeartbeats 1000000 in
theorem has_fn (l : List Sp) (s : Sp) (v : Value) (H : Hp) (hv : SpL H v l) (hl : l.length ≤ maxLen) : Fn Try.prog 26 #[v, spV s] H (fun v _ => v = .bool (decide (s ∈ l))) := by
  obtain ⟨ad, cap, rfl⟩ := hv.len
  refine Fn.of_T (vs := [.slice ad l.length cap, spV s]) Try.func26 rfl rfl fun w => ?_
  unfold maxLen at hl
  unfold spV
  refine T.seq ?_
  refine T.region ?_
  (refine T.box Wanted.none rfl rfl (by first | exact CellsR.one rfl | exact CellsR.agg) ?_; intro b3)
  refine T.pv (PV.assign rfl) Wanted.none rfl rfl ?_
  refine T.opsNil ?_
  refine T.seq ?_
  refine T.seq ?_
  refine T.region ?_
  refine T.pv (PV.move rfl) Wanted.none rfl rfl ?_
  refine T.pv (PV.lenSl rfl) Wanted.none rfl rfl ?_
  refine T.pv (PV.move rfl) Wanted.none rfl rfl ?_
  refine T.opsNil ?_
  refine T.block ?_
  refine T.loop (γ := Nat) (fun j => j ≤ l.length ∧ s ∉ l.take j)
    (fun j => [(9, .int .i64 (j : Int)), (8, .int .i64 (l.length : Int)), (7, .slice ad l.length cap), (3, .pointer (some ⟨b3, 0, none⟩))])
    (fun _ => [(b3, Obj.cells [.int .i64 s.1, .int .i64 s.2].toArray 23)]) (fun _ => H) (fun j => l.length - j) 0 ⟨by simp, by simp⟩ (by repeat (first | exact trivial | refine And.intro rfl ?_)) (by repeat (first | exact List.Sublist.slnil | exact List.nil_sublist _ | exact List.Sublist.refl _ | exact List.sublist_append_left _ [] | apply List.Sublist.cons_cons | apply List.Sublist.cons | refine List.Sublist.append_left ?_ _ | refine List.sublist_append_of_sublist_right ?_)) rfl ?_
  rintro j ⟨j1, j2⟩
  by_cases hj : j < l.length
  · obtain ⟨x, hxj⟩ : ∃ x, l[j]? = some x := ⟨_, List.getElem?_eq_getElem hj⟩
    obtain ⟨b, off, rfl, hsub⟩ := hv.span hxj
    by_cases hx : x.1 = s.1 ∧ x.2 = s.2
    · have hm : s ∈ l := by
        have : x = s := Prod.ext hx.1 hx.2
        subst this; exact List.mem_of_getElem? hxj
      have hq := eqS_true hx
      refine T.seq ?_
      refine T.region ?_
      refine T.pv (PV.lss rfl rfl) Wanted.none rfl rfl ?_
      refine T.opsNil ?_
      refine T.seq ?_
      refine T.condT rfl (decide_eq_true (by omega)) ?_
      refine T.skip ?_
      refine T.seq ?_
      refine T.block ?_
      refine T.seq ?_
      refine T.region ?_
      refine T.pv (PV.indexAddr rfl rfl (by omega)) Wanted.none rfl rfl ?_
      refine T.pv (PV.loadSubAll rfl (by assumption) (by exact rfl)) Wanted.none rfl rfl ?_
      (refine T.alloc Wanted.none rfl ?_; intro b6)
      refine T.storeA Wanted.none rfl rfl (by repeat (first | exact trivial | refine And.intro rfl ?_)) (by exact rfl) (by repeat (first | exact Upd.head | apply Upd.tail | apply Upd.app)) (by repeat (first | exact Splice.nil | apply Splice.cons | apply Splice.skip)) ?_
      refine T.opsNil ?_
      refine T.seq ?_
      refine T.region ?_
      refine T.pv (PV.loadAll rfl (by first | exact .fro (by assumption) | exact .own (by repeat (first | exact List.Mem.head _ | apply List.Mem.tail | apply List.mem_append_right))) (by exact rfl)) Wanted.none rfl rfl ?_
      refine T.pv (PV.loadAll rfl (by first | exact .fro (by assumption) | exact .own (by repeat (first | exact List.Mem.head _ | apply List.Mem.tail | apply List.mem_append_right))) (by exact rfl)) Wanted.none rfl rfl ?_
      refine T.pv (PV.aeql rfl rfl rfl rfl) Wanted.none rfl rfl ?_
      refine T.opsNil ?_
      refine T.condT rfl (by assumption) ?_
      refine T.seq ?_
      refine T.region ?_
      refine T.pv (PV.assign rfl) Wanted.none rfl rfl ?_
      refine T.opsNil ?_

      exact T.retF (Lv.fin (RV.tmp rfl rfl) (boolT hm))
    · have hq := eqS_false hx
      refine T.seq ?_
      refine T.region ?_
      refine T.pv (PV.lss rfl rfl) Wanted.none rfl rfl ?_
      refine T.opsNil ?_
      refine T.seq ?_
      refine T.condT rfl (decide_eq_true (by omega)) ?_
      refine T.skip ?_
      refine T.seq ?_
      refine T.block ?_
      refine T.seq ?_
      refine T.region ?_
      refine T.pv (PV.indexAddr rfl rfl (by omega)) Wanted.none rfl rfl ?_
      refine T.pv (PV.loadSubAll rfl (by assumption) (by exact rfl)) Wanted.none rfl rfl ?_
      (refine T.alloc Wanted.none rfl ?_; intro b6)
      refine T.storeA Wanted.none rfl rfl (by repeat (first | exact trivial | refine And.intro rfl ?_)) (by exact rfl) (by repeat (first | exact Upd.head | apply Upd.tail | apply Upd.app)) (by repeat (first | exact Splice.nil | apply Splice.cons | apply Splice.skip)) ?_
      refine T.opsNil ?_
      refine T.seq ?_
      refine T.region ?_
      refine T.pv (PV.loadAll rfl (by first | exact .fro (by assumption) | exact .own (by repeat (first | exact List.Mem.head _ | apply List.Mem.tail | apply List.mem_append_right))) (by exact rfl)) Wanted.none rfl rfl ?_
      refine T.pv (PV.loadAll rfl (by first | exact .fro (by assumption) | exact .own (by repeat (first | exact List.Mem.head _ | apply List.Mem.tail | apply List.mem_append_right))) (by exact rfl)) Wanted.none rfl rfl ?_
      refine T.pv (PV.aeql rfl rfl rfl rfl) Wanted.none rfl rfl ?_
      refine T.opsNil ?_
      refine T.condF rfl (by assumption) ?_
      refine T.skip ?_
      refine T.blkEnd ?_
      refine T.region ?_
      refine T.pv (PV.add rfl rfl (by omega)) Wanted.none rfl rfl ?_
      refine T.pv (PV.move rfl) Wanted.none rfl rfl ?_
      refine T.opsNil ?_
      exact T.next (j + 1) ⟨by omega, by
        rw [List.take_add_one, hxj, List.mem_append]; rintro (h | h)
        · exact j2 h
        · simp at h; subst h; exact hx ⟨rfl, rfl⟩⟩ (by omega) (by repeat (first | exact trivial | refine And.intro rfl ?_)) (by repeat (first | exact List.Sublist.slnil | exact List.nil_sublist _ | exact List.Sublist.refl _ | exact List.sublist_append_left _ [] | apply List.Sublist.cons_cons | apply List.Sublist.cons | refine List.Sublist.append_left ?_ _ | refine List.sublist_append_of_sublist_right ?_)) rfl
  · rw [List.take_of_length_le (by omega)] at j2
    refine T.seq ?_
    refine T.region ?_
    refine T.pv (PV.lss rfl rfl) Wanted.none rfl rfl ?_
    refine T.opsNil ?_
    refine T.seq ?_
    refine T.condF rfl (decide_eq_false (by omega)) ?_
    refine T.exit rfl ?_
    refine T.seq ?_
    refine T.region ?_
    refine T.pv (PV.assign rfl) Wanted.none rfl rfl ?_
    refine T.opsNil ?_
    exact T.retF (Lv.fin (RV.tmp rfl rfl) (boolF j2))
set_option maxHeartbeats 1000000 in
theorem long_fn (ps : List (Value × List Sp)) (v : Value) (H : Hp) (hv : SlR H 1 v ps.length (ps.flatMap fun p => [p.1])) (hps : ∀ p ∈ ps, SpL H p.1 p.2) (hl : ps.length ≤ 1000) (hm : ∀ p ∈ ps, p.2.length ≤ maxLen) : Fn Try.prog 14 #[v] H (fun v _ => v = .bool ((ps.map (·.2)).any fun l => decide (60 < l.length))) := by
  obtain ⟨ad, cap, rfl⟩ := hv.len
  refine Fn.of_T (vs := [.slice ad ps.length cap]) Try.func14 rfl rfl fun w => ?_
  refine T.seq ?_
  refine T.region ?_
  refine T.pv (PV.assign rfl) Wanted.none rfl rfl ?_
  refine T.opsNil ?_
  refine T.seq ?_
  refine T.seq ?_
  refine T.region ?_
  refine T.pv (PV.move rfl) Wanted.none rfl rfl ?_
  refine T.pv (PV.lenSl rfl) Wanted.none rfl rfl ?_
  refine T.pv (PV.move rfl) Wanted.none rfl rfl ?_
  refine T.opsNil ?_
  refine T.block ?_
  refine T.loop (γ := Nat) (fun i => i ≤ ps.length ∧ ((ps.map (·.2)).take i).any (fun l => decide (60 < l.length)) = false)
    (fun i => [(7, .int .i64 (i : Int)), (6, .int .i64 (ps.length : Int)), (5, .slice ad ps.length cap)])
    (fun _ => []) (fun _ => H) (fun i => ps.length - i) 0 ⟨by simp, by simp⟩ (by repeat (first | exact trivial | refine And.intro rfl ?_)) (by repeat (first | exact List.Sublist.slnil | exact List.nil_sublist _ | exact List.Sublist.refl _ | exact List.sublist_append_left _ [] | apply List.Sublist.cons_cons | apply List.Sublist.cons | refine List.Sublist.append_left ?_ _ | refine List.sublist_append_of_sublist_right ?_)) rfl ?_
  rintro i ⟨h1, h2⟩
  by_cases hi : i < ps.length
  · obtain ⟨⟨u, l⟩, hx⟩ : ∃ x, ps[i]? = some x := ⟨_, List.getElem?_eq_getElem hi⟩
    obtain ⟨b, off, cap', hve, hsub⟩ := hv.elem (i := i) (by omega) (flat_elem (f := fun p : Value × List Sp => [p.1]) (fun _ => rfl) ps i _ hx)
    injection hve with e1 e2 e3
    subst e1 e3
    have hu := hps _ (List.mem_of_getElem? hx)
    have hml := hm _ (List.mem_of_getElem? hx)
    dsimp only at hu hsub hml
    obtain ⟨adu, capu, rfl⟩ := hu.len
    have hx2 : (ps.map (·.2))[i]? = some l := by rw [List.getElem?_map, hx]; rfl
    unfold maxLen at hml
    by_cases hlong : 60 < l.length
    · have hk : (ps.map (·.2)).any (fun l => decide (60 < l.length)) = true := List.any_eq_true.2 ⟨l, List.mem_of_getElem? hx2, decide_eq_true hlong⟩
      refine T.seq ?_
      refine T.region ?_
      refine T.pv (PV.lss rfl rfl) Wanted.none rfl rfl ?_
      refine T.opsNil ?_
      refine T.seq ?_
      refine T.condT rfl (decide_eq_true (by omega)) ?_
      refine T.skip ?_
      refine T.seq ?_
      refine T.block ?_
      refine T.seq ?_
      refine T.region ?_
      refine T.pv (PV.indexAddr rfl rfl (by omega)) Wanted.none rfl rfl ?_
      refine T.pv (PV.loadSub0 rfl (by assumption)) Wanted.none rfl rfl ?_
      refine T.pv (PV.assign rfl) Wanted.none rfl rfl ?_
      refine T.opsNil ?_
      refine T.seq ?_
      refine T.region ?_
      refine T.pv (PV.move rfl) Wanted.none rfl rfl ?_
      refine T.pv (PV.lenSl rfl) Wanted.none rfl rfl ?_
      refine T.pv (PV.gtr rfl rfl) Wanted.none rfl rfl ?_
      refine T.opsNil ?_
      refine T.condT rfl (decide_eq_true (by omega)) ?_
      refine T.seq ?_
      refine T.region ?_
      refine T.pv (PV.assign rfl) Wanted.none rfl rfl ?_
      refine T.opsNil ?_
      exact T.retF (Lv.fin (RV.tmp rfl rfl) (by rw [hk]))
    · refine T.seq ?_
      refine T.region ?_
      refine T.pv (PV.lss rfl rfl) Wanted.none rfl rfl ?_
      refine T.opsNil ?_
      refine T.seq ?_
      refine T.condT rfl (decide_eq_true (by omega)) ?_
      refine T.skip ?_
      refine T.seq ?_
      refine T.block ?_
      refine T.seq ?_
      refine T.region ?_
      refine T.pv (PV.indexAddr rfl rfl (by omega)) Wanted.none rfl rfl ?_
      refine T.pv (PV.loadSub0 rfl (by assumption)) Wanted.none rfl rfl ?_
      refine T.pv (PV.assign rfl) Wanted.none rfl rfl ?_
      refine T.opsNil ?_
      refine T.seq ?_
      refine T.region ?_
      refine T.pv (PV.move rfl) Wanted.none rfl rfl ?_
      refine T.pv (PV.lenSl rfl) Wanted.none rfl rfl ?_
      refine T.pv (PV.gtr rfl rfl) Wanted.none rfl rfl ?_
      refine T.opsNil ?_
      refine T.condF rfl (decide_eq_false (by omega)) ?_
      refine T.skip ?_
      refine T.blkEnd ?_
      refine T.region ?_
      refine T.pv (PV.add rfl rfl (by omega)) Wanted.none rfl rfl ?_
      refine T.pv (PV.move rfl) Wanted.none rfl rfl ?_
      refine T.opsNil ?_
      refine T.next (i + 1) ⟨by omega, ?_⟩ (by omega) (by repeat (first | exact trivial | refine And.intro rfl ?_)) (by repeat (first | exact List.Sublist.slnil | exact List.nil_sublist _ | exact List.Sublist.refl _ | exact List.sublist_append_left _ [] | apply List.Sublist.cons_cons | apply List.Sublist.cons | refine List.Sublist.append_left ?_ _ | refine List.sublist_append_of_sublist_right ?_)) rfl
      rw [List.take_add_one, hx2, List.any_append, h2]
      simp [hlong]
  · rw [List.take_of_length_le (by simp; omega)] at h2
    refine T.seq ?_
    refine T.region ?_
    refine T.pv (PV.lss rfl rfl) Wanted.none rfl rfl ?_
    refine T.opsNil ?_
    refine T.seq ?_
    refine T.condF rfl (decide_eq_false (by omega)) ?_
    refine T.exit rfl ?_
    refine T.seq ?_
    refine T.region ?_
    refine T.pv (PV.assign rfl) Wanted.none rfl rfl ?_
    refine T.opsNil ?_
    exact T.retF (Lv.fin (RV.tmp rfl rfl) (by rw [h2]))
def turnL (l : List Sp) (k : Nat) : List Sp := (List.range l.length).map (fun i => (l[(i + k) % l.length]?).getD (0, 0)) ++ l.take 1
structure TuG where
  j : Nat
  c : List Sp
  v : Value
  lv : List (Nat × Obj)
theorem range_snoc {β : Type} (f : Nat → β) (j : Nat) : (List.range (j + 1)).map f = (List.range j).map f ++ [f j] := by rw [List.range_succ, List.map_append]; rfl
set_option maxHeartbeats 2000000 in
theorem turned_fn (l : List Sp) (k : Nat) (v : Value) (H : Hp) (hv : SpL H v l) (hl : l.length ≤ 4096) (hk : k ≤ 100) : Fn Try.prog 22 #[v, .int .i64 (k : Int)] H (fun u H' => SpL H' u (turnL l k)) := by
  obtain ⟨ad, cap, rfl⟩ := hv.len
  refine Fn.of_T (vs := [.slice ad l.length cap, .int .i64 (k : Int)]) Try.func22 rfl rfl fun w => ?_
  refine T.seq ?_
  refine T.region ?_
  refine T.pv (PV.assign rfl) Wanted.none rfl rfl ?_
  refine T.opsNil ?_
  refine T.seq ?_
  refine T.region ?_
  refine T.pv (PV.assign rfl) Wanted.none rfl rfl ?_
  refine T.opsNil ?_
  refine T.seq ?_
  refine T.seq ?_
  refine T.region ?_
  refine T.pv (PV.move rfl) Wanted.none rfl rfl ?_
  refine T.pv (PV.lenSl rfl) Wanted.none rfl rfl ?_
  refine T.pv (PV.move rfl) Wanted.none rfl rfl ?_
  refine T.opsNil ?_
  refine T.block ?_
  refine T.loop (γ := TuG) (fun g => g.j ≤ l.length ∧ g.c = (List.range g.j).map (fun i => (l[(i + k) % l.length]?).getD (0, 0)) ∧ SpV g.v g.lv g.c)
    (fun g => [(9, .int .i64 (g.j : Int)), (8, .int .i64 (l.length : Int)), (5, g.v), (0, .slice ad l.length cap), (1, .int .i64 (k : Int))])
    (fun g => g.lv) (fun _ => H) (fun g => l.length - g.j) ⟨0, [], .slice none 0 0, []⟩ ⟨by simp, rfl, Vec.nil _ _⟩ (by repeat (first | exact trivial | refine And.intro rfl ?_)) (by repeat (first | exact List.Sublist.slnil | exact List.nil_sublist _ | exact List.Sublist.refl _ | exact List.sublist_append_left _ [] | apply List.Sublist.cons_cons | apply List.Sublist.cons | refine List.Sublist.append_left ?_ _ | refine List.sublist_append_of_sublist_right ?_)) rfl ?_
  rintro ⟨j, c, vc, lv⟩ ⟨j1, j2, j3⟩
  dsimp only at j1 j2 j3 ⊢
  have hcl : c.length = j := by rw [j2]; simp
  obtain ⟨advc, capvc, rfl⟩ := j3.val
  by_cases hj : j < l.length
  · have hmod : (j + k) % l.length < l.length := Nat.mod_lt _ (by omega)
    obtain ⟨x, hx⟩ : ∃ x, l[(j + k) % l.length]? = some x := ⟨_, List.getElem?_eq_getElem hmod⟩
    obtain ⟨b, off, rfl, hsub⟩ := hv.span hx
    have he : ((j : Int) + k).tmod l.length = (((j + k) % l.length : Nat) : Int) := by
      rw [Int.tmod_eq_emod_of_nonneg (by omega)]; push_cast; rfl
    refine T.seq ?_
    refine T.region ?_
    refine T.pv (PV.lss rfl rfl) Wanted.none rfl rfl ?_
    refine T.opsNil ?_
    refine T.seq ?_
    refine T.condT rfl (decide_eq_true (by omega)) ?_
    refine T.skip ?_
    refine T.seq ?_
    refine T.block ?_
    refine T.seq ?_
    refine T.region ?_
    refine T.pv (PV.move rfl) Wanted.none rfl rfl ?_
    refine T.pv (PV.assign rfl) Wanted.none rfl rfl ?_
    refine T.opsNil ?_
    refine T.region ?_
    refine T.pv (PV.move rfl) Wanted.none rfl rfl ?_
    refine T.pv (PV.move rfl) Wanted.none rfl rfl ?_
    refine T.pv (PV.move rfl) Wanted.none rfl rfl ?_
    refine T.pv (PV.move rfl) Wanted.none rfl rfl ?_
    refine T.pv (PV.add rfl rfl (by omega)) Wanted.none rfl rfl ?_
    refine T.pv (PV.move rfl) Wanted.none rfl rfl ?_
    refine T.pv (PV.lenSl rfl) Wanted.none rfl rfl ?_
    refine T.pv (PV.rem rfl rfl (by omega)) Wanted.none rfl rfl ?_
    refine T.pv (PV.indexAddr rfl rfl (by omega)) Wanted.none rfl rfl ?_
    refine T.pv (PV.loadSubAll rfl (by assumption) (by exact rfl)) Wanted.none rfl rfl ?_
    (refine T.buildSlice Wanted.none rfl rfl (by repeat (first | exact FillAll.nil | (apply FillAll.cons; (first | exact CellsR.one rfl | exact CellsR.agg); exact rfl))) (by exact rfl) (by exact rfl) ?_; intro b22)
    refine T.appendE [_] (lv := lv) Wanted.none rfl rfl rfl j3 (Src.cells (m := 1) (ys := encS x) (.own (by repeat (first | exact List.Mem.head _ | apply List.Mem.tail | apply List.mem_append_right))) rfl rfl) (one_encS x) (by omega) ?_
    intro v2 lv2 hv2 _
    refine T.pv (PV.assign rfl) Wanted.none rfl rfl ?_
    refine T.opsNil ?_
    refine T.blkEnd ?_
    refine T.region ?_
    refine T.pv (PV.add rfl rfl (by omega)) Wanted.none rfl rfl ?_
    refine T.pv (PV.move rfl) Wanted.none rfl rfl ?_
    refine T.opsNil ?_
    refine T.next ⟨j + 1, c ++ [x], v2, lv2⟩ ⟨by dsimp only; omega, ?_, ?_⟩ (by dsimp only; omega) (by repeat (first | exact trivial | refine And.intro rfl ?_)) (by repeat (first | exact List.Sublist.slnil | exact List.nil_sublist _ | exact List.Sublist.refl _ | exact List.sublist_append_left _ [] | apply List.Sublist.cons_cons | apply List.Sublist.cons | refine List.Sublist.append_left ?_ _ | refine List.sublist_append_of_sublist_right ?_)) rfl
    · dsimp only
      rw [range_snoc, ← j2, hx]; rfl
    · show Vec 23 2 _ _ _ _
      rw [List.length_append, List.flatMap_append]; exact hv2
  · have hjl : j = l.length := by omega
    rw [hjl] at j2
    by_cases h0 : 0 < l.length
    · obtain ⟨x, hx⟩ : ∃ x, l[0]? = some x := ⟨_, List.getElem?_eq_getElem h0⟩
      obtain ⟨b, off, rfl, hsub⟩ := hv.span hx
      refine T.seq ?_
      refine T.region ?_
      refine T.pv (PV.lss rfl rfl) Wanted.none rfl rfl ?_
      refine T.opsNil ?_
      refine T.seq ?_
      refine T.condF rfl (decide_eq_false (by omega)) ?_
      refine T.exit rfl ?_
      refine T.seq ?_
      refine T.seq ?_
      refine T.region ?_
      refine T.pv (PV.move rfl) Wanted.none rfl rfl ?_
      refine T.pv (PV.lenSl rfl) Wanted.none rfl rfl ?_
      refine T.pv (PV.gtr rfl rfl) Wanted.none rfl rfl ?_
      refine T.opsNil ?_
      refine T.condT rfl (decide_eq_true (by omega)) ?_
      refine T.region ?_
      refine T.pv (PV.move rfl) Wanted.none rfl rfl ?_
      refine T.pv (PV.move rfl) Wanted.none rfl rfl ?_
      refine T.pv (PV.indexAddr rfl rfl (by omega)) Wanted.none rfl rfl ?_
      refine T.pv (PV.loadSubAll rfl (by assumption) (by exact rfl)) Wanted.none rfl rfl ?_
      (refine T.buildSlice Wanted.none rfl rfl (by repeat (first | exact FillAll.nil | (apply FillAll.cons; (first | exact CellsR.one rfl | exact CellsR.agg); exact rfl))) (by exact rfl) (by exact rfl) ?_; intro b32)
      refine T.appendE [_] (lv := lv) Wanted.none rfl rfl rfl j3 (Src.cells (m := 1) (ys := encS x) (.own (by repeat (first | exact List.Mem.head _ | apply List.Mem.tail | apply List.mem_append_right))) rfl rfl) (one_encS x) (by omega) ?_
      intro v2 lv2 hv2 _
      have ht : turnL l k = c ++ [x] := by
        unfold turnL
        rw [← j2]
        congr 1
        cases l with
        | nil => cases hx
        | cons y ys => simp at hx; subst hx; rfl
      have hv3 : SpV v2 lv2 (turnL l k) := by
        rw [ht]
        show Vec 23 2 _ _ _ _
        rw [List.length_append, List.flatMap_append]; exact hv2
      refine T.pv (PV.assign rfl) Wanted.none rfl rfl ?_
      refine T.opsNil ?_
      refine T.seq ?_
      refine T.region ?_
      refine T.pv (PV.move rfl) Wanted.none rfl rfl ?_
      refine T.pv (PV.assign rfl) Wanted.none rfl rfl ?_
      refine T.opsNil ?_
      exact T.retF (Vec.freezeLv (l' := []) hv3 (by rw [List.append_nil]; exact .cons _ (List.Sublist.refl _)) fun H' _ hsl => Lv.fin (RV.tmp rfl rfl) hsl)
    · have ht : turnL l k = c := by
        unfold turnL
        rw [← j2]
        have : l = [] := List.length_eq_zero_iff.1 (by omega)
        subst this
        simp
      have j4 := j3; rw [← ht] at j4
      refine T.seq ?_
      refine T.region ?_
      refine T.pv (PV.lss rfl rfl) Wanted.none rfl rfl ?_
      refine T.opsNil ?_
      refine T.seq ?_
      refine T.condF rfl (decide_eq_false (by omega)) ?_
      refine T.exit rfl ?_
      refine T.seq ?_
      refine T.seq ?_
      refine T.region ?_
      refine T.pv (PV.move rfl) Wanted.none rfl rfl ?_
      refine T.pv (PV.lenSl rfl) Wanted.none rfl rfl ?_
      refine T.pv (PV.gtr rfl rfl) Wanted.none rfl rfl ?_
      refine T.opsNil ?_
      refine T.condF rfl (decide_eq_false (by omega)) ?_
      refine T.skip ?_
      refine T.seq ?_
      refine T.region ?_
      refine T.pv (PV.move rfl) Wanted.none rfl rfl ?_
      refine T.pv (PV.assign rfl) Wanted.none rfl rfl ?_
      refine T.opsNil ?_
      refine T.retF (Vec.freezeLv (l' := []) j4 (by rw [List.append_nil]; exact List.Sublist.refl _) fun H' _ hsl => Lv.fin (RV.tmp rfl rfl) ?_)
      rw [← ht]; exact hsl
end Go.Proofs.Ytapakgncdmmmaaa
