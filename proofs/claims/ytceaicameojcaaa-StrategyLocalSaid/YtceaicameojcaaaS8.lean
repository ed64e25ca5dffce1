/- strategy: lists of matches: Same, span, Spans, the reference's Spans. -/
import Derived.Test.YtceaicameojcaaaS7
import Derived.Test.YtceaicameojcaaaS2b
namespace Go.Proofs.Ytceaicameojcaaa
open Go.RowKit

theorem same27_fn (l m : List Sp) (v u : Value) (H : Hp) (hv : SpL H v l) (hu : SpL H u m) (hml : l.length ≤ 1000000) : Fn Try.prog 15 #[v, u] H (fun v _ => v = .bool (decide (l = m))) := by
  obtain ⟨adv, capv, rfl⟩ := hv.len
  obtain ⟨adu, capu, rfl⟩ := hu.len
  refine Fn.of_T (vs := [.slice adv l.length capv, .slice adu m.length capu]) Try.func15 rfl rfl fun w => ?_
  by_cases hlen : l.length = m.length
  · refine T.seq ?_
    refine T.region ?_
    refine T.pv (PV.assign rfl) Wanted.none rfl rfl ?_
    refine T.opsNil ?_
    refine T.seq ?_
    refine T.seq ?_
    refine T.region ?_
    refine T.pv (PV.move rfl) Wanted.none rfl rfl ?_
    refine T.pv (PV.lenSl rfl) Wanted.none rfl rfl ?_
    refine T.pv (PV.move rfl) Wanted.none rfl rfl ?_
    refine T.pv (PV.lenSl rfl) Wanted.none rfl rfl ?_
    refine T.pv (PV.neq rfl rfl) Wanted.none rfl rfl ?_
    refine T.opsNil ?_
    refine T.condF rfl (decide_eq_false (by omega)) ?_
    refine T.skip ?_
    refine T.seq ?_
    refine T.seq ?_
    refine T.region ?_
    refine T.pv (PV.move rfl) Wanted.none rfl rfl ?_
    refine T.pv (PV.lenSl rfl) Wanted.none rfl rfl ?_
    refine T.pv (PV.move rfl) Wanted.none rfl rfl ?_
    refine T.opsNil ?_
    refine T.block ?_
    refine T.loop (γ := Nat) (fun j => j ≤ l.length ∧ l.take j = m.take j)
      (fun j => [(0, .slice adv l.length capv), (1, .slice adu m.length capu), (13, .int .i64 (j : Int)), (12, .int .i64 (l.length : Int))])
      (fun _ => []) (fun _ => H) (fun j => l.length - j) 0 ⟨by simp, by simp⟩ (by repeat (first | exact trivial | refine And.intro rfl ?_)) (by repeat (first | exact List.Sublist.slnil | exact List.nil_sublist _ | exact List.Sublist.refl _ | exact List.sublist_append_left _ [] | apply List.Sublist.cons_cons | apply List.Sublist.cons | refine List.Sublist.append_left ?_ _ | refine List.sublist_append_of_sublist_right ?_)) rfl ?_
    rintro j ⟨j1, j2⟩
    by_cases hj : j < l.length
    · obtain ⟨x, hxj⟩ : ∃ x, l[j]? = some x := ⟨_, List.getElem?_eq_getElem hj⟩
      obtain ⟨y, hyj⟩ : ∃ y, m[j]? = some y := ⟨_, List.getElem?_eq_getElem (by omega)⟩
      obtain ⟨bv, offv, rfl, hsubv⟩ := hv.span hxj
      obtain ⟨bu, offu, rfl, hsubu⟩ := hu.span hyj
      refine T.seq ?_
      refine T.region ?_
      refine T.pv (PV.lss rfl rfl) Wanted.none rfl rfl ?_
      refine T.opsNil ?_
      refine T.seq ?_
      refine T.condT rfl (decide_eq_true (by omega)) ?_
      refine T.skip ?_
      refine T.seq ?_
      refine T.block ?_
      refine T.seq ?_
      refine T.region ?_
      refine T.pv (PV.move rfl) Wanted.none rfl rfl ?_
      refine T.pv (PV.assign rfl) Wanted.none rfl rfl ?_
      refine T.opsNil ?_
      refine T.seq ?_
      refine T.regionQ (by kernel_rfl) ?_
      refine TQ.pv (PV.move rfl) Wanted.none rfl rfl ?_
      refine TQ.pv (PV.move rfl) Wanted.none rfl rfl ?_
      refine TQ.pv (PV.indexAddr rfl rfl (by omega)) Wanted.none rfl rfl ?_
      refine TQ.pv (PV.loadSubAll rfl (by assumption) (by exact rfl)) Wanted.none rfl rfl ?_
      refine TQ.pv (PV.move rfl) Wanted.none rfl rfl ?_
      refine TQ.pv (PV.move rfl) Wanted.none rfl rfl ?_
      refine TQ.pv (PV.indexAddr rfl rfl (by omega)) Wanted.none rfl rfl ?_
      refine TQ.pv (PV.loadSubAll rfl (by assumption) (by exact rfl)) Wanted.none rfl rfl ?_
      refine TQ.pv (PV.aneq rfl rfl rfl rfl) Wanted.none rfl rfl ?_
      refine TQ.nil ?_
      rw [eqS_eq]
      refine T.cond rfl (fun hc => ?_) (fun hc => ?_)
      · have hne : ¬ x = y := by simpa using hc
        refine T.seq ?_
        refine T.region ?_
        refine T.pv (PV.assign rfl) Wanted.none rfl rfl ?_
        refine T.opsNil ?_
        refine T.retF (Lv.fin (RV.tmp rfl rfl) ?_)
        rw [decide_eq_false]
        rintro rfl
        rw [hxj] at hyj
        exact hne (Option.some.inj hyj)
      · have heq : x = y := by simpa using hc
        refine T.skip ?_
        refine T.blkEnd ?_
        refine T.region ?_
        refine T.pv (PV.add rfl rfl (by omega)) Wanted.none rfl rfl ?_
        refine T.pv (PV.move rfl) Wanted.none rfl rfl ?_
        refine T.opsNil ?_
        exact T.next (j + 1) ⟨by omega, by rw [List.take_add_one, List.take_add_one, j2, hxj, hyj, heq]⟩ (by omega) (by repeat (first | exact trivial | refine And.intro rfl ?_)) (by repeat (first | exact List.Sublist.slnil | exact List.nil_sublist _ | exact List.Sublist.refl _ | exact List.sublist_append_left _ [] | apply List.Sublist.cons_cons | apply List.Sublist.cons | refine List.Sublist.append_left ?_ _ | refine List.sublist_append_of_sublist_right ?_)) rfl
    · rw [List.take_of_length_le (by omega), List.take_of_length_le (by omega)] at j2
      refine T.seq ?_
      refine T.region ?_
      refine T.pv (PV.lss rfl rfl) Wanted.none rfl rfl ?_
      refine T.opsNil ?_
      refine T.seq ?_
      refine T.condF rfl (decide_eq_false (by omega)) ?_
      refine T.exit rfl ?_
      refine T.seq ?_
      refine T.region ?_
      refine T.pv (PV.assign rfl) Wanted.none rfl rfl ?_
      refine T.opsNil ?_
      exact T.retF (Lv.fin (RV.tmp rfl rfl) (by rw [decide_eq_true j2]))
  · refine T.seq ?_
    refine T.region ?_
    refine T.pv (PV.assign rfl) Wanted.none rfl rfl ?_
    refine T.opsNil ?_
    refine T.seq ?_
    refine T.seq ?_
    refine T.region ?_
    refine T.pv (PV.move rfl) Wanted.none rfl rfl ?_
    refine T.pv (PV.lenSl rfl) Wanted.none rfl rfl ?_
    refine T.pv (PV.move rfl) Wanted.none rfl rfl ?_
    refine T.pv (PV.lenSl rfl) Wanted.none rfl rfl ?_
    refine T.pv (PV.neq rfl rfl) Wanted.none rfl rfl ?_
    refine T.opsNil ?_
    refine T.condT rfl (decide_eq_true (by omega)) ?_
    refine T.seq ?_
    refine T.region ?_
    refine T.pv (PV.assign rfl) Wanted.none rfl rfl ?_
    refine T.opsNil ?_
    refine T.retF (Lv.fin (RV.tmp rfl rfl) ?_)
    rw [decide_eq_false]
    rintro rfl
    exact hlen rfl
/-! ### lists of matches -/
def encM (m : Mt) : List Value := [.int .i64 m.b, .int .i64 m.e, m.v]
theorem encM_len (m : Mt) : (encM m).length = 3 := rfl
def MtL (H : Hp) (v : Value) (l : List Mt) : Prop := SlR H 3 v l.length (l.flatMap encM) ∧ ∀ m ∈ l, LabOk H m
theorem LabOk.mono {H H' : Hp} {m : Mt} (h : LabOk H m) (hl : H.le H') : LabOk H' m := ⟨h.1.mono hl, h.2⟩
theorem MtL.mono {H H' : Hp} {v : Value} {l : List Mt} (h : MtL H v l) (hl : H.le H') : MtL H' v l := ⟨h.1.mono hl, fun m hm => (h.2 m hm).mono hl⟩
theorem SlR.matchAt {H : Hp} {ad : Option Addr} {n cap : Nat} {l : List Mt} (h : SlR H 3 (.slice ad n cap) l.length (l.flatMap encM)) {i : Nat} {m : Mt} (hx : l[i]? = some m) : ∃ b off, ad = some ⟨b, off, none⟩ ∧ SubC H b (off + i * 3) [.int .i64 m.b, .int .i64 m.e, m.v] := by
  have hi := (List.getElem?_eq_some_iff.1 hx).1
  obtain ⟨b, off, cap', hve, hsub⟩ := h.elem (i := i) hi (flat_elem encM_len l i m hx)
  injection hve with e1 e2 e3
  exact ⟨b, off, e1, hsub⟩
theorem key_take {l m : List Mt} {j : Nat} {x y : Mt} (hx : l[j]? = some x) (hy : m[j]? = some y) (h : (l.take j).map keyM = (m.take j).map keyM) (e : keyM x = keyM y) : (l.take (j + 1)).map keyM = (m.take (j + 1)).map keyM := by
  rw [List.take_add_one, List.take_add_one, hx, hy, List.map_append, List.map_append, h]
  simp [e]
set_option maxHeartbeats 1000000 in
theorem same24_fn (l m : List Mt) (v u : Value) (H : Hp) (hv : MtL H v l) (hu : MtL H u m) (hml : l.length ≤ 1000000) : Fn Try.prog 14 #[v, u] H (fun v _ => v = .bool (decide (l.map keyM = m.map keyM))) := by
  obtain ⟨adv, capv, rfl⟩ := hv.1.len
  obtain ⟨adu, capu, rfl⟩ := hu.1.len
  refine Fn.of_T (vs := [.slice adv l.length capv, .slice adu m.length capu]) Try.func14 rfl rfl fun w => ?_
  by_cases hlen : l.length = m.length
  · refine T.seq ?_
    refine T.region ?_
    refine T.pv (PV.assign rfl) Wanted.none rfl rfl ?_
    refine T.opsNil ?_
    refine T.seq ?_
    refine T.seq ?_
    refine T.region ?_
    refine T.pv (PV.move rfl) Wanted.none rfl rfl ?_
    refine T.pv (PV.lenSl rfl) Wanted.none rfl rfl ?_
    refine T.pv (PV.move rfl) Wanted.none rfl rfl ?_
    refine T.pv (PV.lenSl rfl) Wanted.none rfl rfl ?_
    refine T.pv (PV.neq rfl rfl) Wanted.none rfl rfl ?_
    refine T.opsNil ?_
    refine T.condF rfl (decide_eq_false (by omega)) ?_
    refine T.skip ?_
    refine T.seq ?_
    refine T.seq ?_
    refine T.region ?_
    refine T.pv (PV.move rfl) Wanted.none rfl rfl ?_
    refine T.pv (PV.lenSl rfl) Wanted.none rfl rfl ?_
    refine T.pv (PV.move rfl) Wanted.none rfl rfl ?_
    refine T.opsNil ?_
    refine T.block ?_
    refine T.loop (γ := Nat) (fun j => j ≤ l.length ∧ (l.take j).map keyM = (m.take j).map keyM)
      (fun j => [(0, .slice adv l.length capv), (1, .slice adu m.length capu), (13, .int .i64 (j : Int)), (12, .int .i64 (l.length : Int))])
      (fun _ => []) (fun _ => H) (fun j => l.length - j) 0 ⟨by simp, by simp⟩ (by repeat (first | exact trivial | refine And.intro rfl ?_)) (by repeat (first | exact List.Sublist.slnil | exact List.nil_sublist _ | exact List.Sublist.refl _ | exact List.sublist_append_left _ [] | apply List.Sublist.cons_cons | apply List.Sublist.cons | refine List.Sublist.append_left ?_ _ | refine List.sublist_append_of_sublist_right ?_)) rfl ?_
    rintro j ⟨j1, j2⟩
    by_cases hj : j < l.length
    · obtain ⟨x, hxj⟩ : ∃ x, l[j]? = some x := ⟨_, List.getElem?_eq_getElem hj⟩
      obtain ⟨y, hyj⟩ : ∃ y, m[j]? = some y := ⟨_, List.getElem?_eq_getElem (by omega)⟩
      obtain ⟨bv, offv, rfl, hsubv⟩ := hv.1.matchAt hxj
      obtain ⟨bu, offu, rfl, hsubu⟩ := hu.1.matchAt hyj
      have hcall := refCompare_fn x y H (hv.2 x (List.mem_of_getElem? hxj)) (hu.2 y (List.mem_of_getElem? hyj))
      unfold mtV at hcall
      by_cases hc : keyM x = keyM y
      · rw [(cmpL_eq _ _).2 hc] at hcall
        refine T.seq ?_
        refine T.region ?_
        refine T.pv (PV.lss rfl rfl) Wanted.none rfl rfl ?_
        refine T.opsNil ?_
        refine T.seq ?_
        refine T.condT rfl (decide_eq_true (by omega)) ?_
        refine T.skip ?_
        refine T.seq ?_
        refine T.block ?_
        refine T.seq ?_
        refine T.region ?_
        refine T.pv (PV.move rfl) Wanted.none rfl rfl ?_
        refine T.pv (PV.assign rfl) Wanted.none rfl rfl ?_
        refine T.opsNil ?_
        refine T.seq ?_
        refine T.regionQ (by kernel_rfl) ?_
        refine TQ.pv (PV.move rfl) Wanted.none rfl rfl ?_
        refine TQ.pv (PV.move rfl) Wanted.none rfl rfl ?_
        refine TQ.pv (PV.indexAddr rfl rfl (by omega)) Wanted.none rfl rfl ?_
        refine TQ.pv (PV.loadSubAll rfl (by assumption) (by exact rfl)) Wanted.none rfl rfl ?_
        refine TQ.pv (PV.move rfl) Wanted.none rfl rfl ?_
        refine TQ.pv (PV.move rfl) Wanted.none rfl rfl ?_
        refine TQ.pv (PV.indexAddr rfl rfl (by omega)) Wanted.none rfl rfl ?_
        refine TQ.pv (PV.loadSubAll rfl (by assumption) (by exact rfl)) Wanted.none rfl rfl ?_
        refine TQ.callV Wanted.none rfl rfl (hcall) ?_
        refine TQ.pv (PV.neq rfl rfl) Wanted.none rfl rfl ?_
        refine TQ.nil ?_
        refine T.condF rfl rfl ?_
        refine T.skip ?_
        refine T.blkEnd ?_
        refine T.region ?_
        refine T.pv (PV.add rfl rfl (by omega)) Wanted.none rfl rfl ?_
        refine T.pv (PV.move rfl) Wanted.none rfl rfl ?_
        refine T.opsNil ?_
        exact T.next (j + 1) ⟨by omega, key_take hxj hyj j2 hc⟩ (by omega) (by repeat (first | exact trivial | refine And.intro rfl ?_)) (by repeat (first | exact List.Sublist.slnil | exact List.nil_sublist _ | exact List.Sublist.refl _ | exact List.sublist_append_left _ [] | apply List.Sublist.cons_cons | apply List.Sublist.cons | refine List.Sublist.append_left ?_ _ | refine List.sublist_append_of_sublist_right ?_)) rfl
      · have hcn : cmpL (keyM x) (keyM y) ≠ 0 := fun h => hc ((cmpL_eq _ _).1 h)
        refine T.seq ?_
        refine T.region ?_
        refine T.pv (PV.lss rfl rfl) Wanted.none rfl rfl ?_
        refine T.opsNil ?_
        refine T.seq ?_
        refine T.condT rfl (decide_eq_true (by omega)) ?_
        refine T.skip ?_
        refine T.seq ?_
        refine T.block ?_
        refine T.seq ?_
        refine T.region ?_
        refine T.pv (PV.move rfl) Wanted.none rfl rfl ?_
        refine T.pv (PV.assign rfl) Wanted.none rfl rfl ?_
        refine T.opsNil ?_
        refine T.seq ?_
        refine T.regionQ (by kernel_rfl) ?_
        refine TQ.pv (PV.move rfl) Wanted.none rfl rfl ?_
        refine TQ.pv (PV.move rfl) Wanted.none rfl rfl ?_
        refine TQ.pv (PV.indexAddr rfl rfl (by omega)) Wanted.none rfl rfl ?_
        refine TQ.pv (PV.loadSubAll rfl (by assumption) (by exact rfl)) Wanted.none rfl rfl ?_
        refine TQ.pv (PV.move rfl) Wanted.none rfl rfl ?_
        refine TQ.pv (PV.move rfl) Wanted.none rfl rfl ?_
        refine TQ.pv (PV.indexAddr rfl rfl (by omega)) Wanted.none rfl rfl ?_
        refine TQ.pv (PV.loadSubAll rfl (by assumption) (by exact rfl)) Wanted.none rfl rfl ?_
        refine TQ.callV Wanted.none rfl rfl (hcall) ?_
        refine TQ.pv (PV.neq rfl rfl) Wanted.none rfl rfl ?_
        refine TQ.nil ?_
        refine T.condT rfl (decide_eq_true (by omega)) ?_
        refine T.seq ?_
        refine T.region ?_
        refine T.pv (PV.assign rfl) Wanted.none rfl rfl ?_
        refine T.opsNil ?_
        refine T.retF (Lv.fin (RV.tmp rfl rfl) ?_)
        rw [decide_eq_false]
        intro h
        have := congrArg (fun t => t[j]?) h
        simp only [List.getElem?_map, hxj, hyj, Option.map_some, Option.some.injEq] at this
        exact hc this
    · rw [List.take_of_length_le (by omega), List.take_of_length_le (by omega)] at j2
      refine T.seq ?_
      refine T.region ?_
      refine T.pv (PV.lss rfl rfl) Wanted.none rfl rfl ?_
      refine T.opsNil ?_
      refine T.seq ?_
      refine T.condF rfl (decide_eq_false (by omega)) ?_
      refine T.exit rfl ?_
      refine T.seq ?_
      refine T.region ?_
      refine T.pv (PV.assign rfl) Wanted.none rfl rfl ?_
      refine T.opsNil ?_
      exact T.retF (Lv.fin (RV.tmp rfl rfl) (by rw [decide_eq_true j2]))
  · refine T.seq ?_
    refine T.region ?_
    refine T.pv (PV.assign rfl) Wanted.none rfl rfl ?_
    refine T.opsNil ?_
    refine T.seq ?_
    refine T.seq ?_
    refine T.region ?_
    refine T.pv (PV.move rfl) Wanted.none rfl rfl ?_
    refine T.pv (PV.lenSl rfl) Wanted.none rfl rfl ?_
    refine T.pv (PV.move rfl) Wanted.none rfl rfl ?_
    refine T.pv (PV.lenSl rfl) Wanted.none rfl rfl ?_
    refine T.pv (PV.neq rfl rfl) Wanted.none rfl rfl ?_
    refine T.opsNil ?_
    refine T.condT rfl (decide_eq_true (by omega)) ?_
    refine T.seq ?_
    refine T.region ?_
    refine T.pv (PV.assign rfl) Wanted.none rfl rfl ?_
    refine T.opsNil ?_
    refine T.retF (Lv.fin (RV.tmp rfl rfl) ?_)
    rw [decide_eq_false]
    intro h
    have := congrArg List.length h
    simp at this
    exact hlen this
theorem span_fn (m : Mt) (H : Hp) : Fn Try.prog 29 #[mtV m] H (fun u _ => u = spV (spm m)) := by
  refine Fn.of_T (vs := [mtV m]) Try.func29 rfl rfl fun w => ?_
  unfold mtV
  refine T.seq ?_
  refine T.region ?_
  (refine T.box Wanted.none rfl rfl (by first | exact CellsR.one rfl | exact CellsR.agg) ?_; intro b1)
  (refine T.alloc Wanted.none rfl ?_; intro b2)
  refine T.opsNil ?_
  refine T.seq ?_
  refine T.region ?_
  refine T.pv (PV.fieldAddr rfl) Wanted.none rfl rfl ?_
  refine T.pv (PV.load1 rfl (by first | exact .fro (by assumption) | exact .own (by repeat (first | exact List.Mem.head _ | apply List.Mem.tail | apply List.mem_append_right))) rfl) Wanted.none rfl rfl ?_
  refine T.pv (PV.fieldAddr rfl) Wanted.none rfl rfl ?_
  refine T.pv (PV.load1 rfl (by first | exact .fro (by assumption) | exact .own (by repeat (first | exact List.Mem.head _ | apply List.Mem.tail | apply List.mem_append_right))) rfl) Wanted.none rfl rfl ?_
  refine T.pv (PV.build rfl (by repeat (first | exact FillR.nil | (apply FillR.cons rfl; (first | exact CellsR.one rfl | exact CellsR.agg); rfl; repeat (first | exact Splice.nil | apply Splice.cons | apply Splice.skip))))) Wanted.none rfl rfl ?_
  refine T.storeA Wanted.none rfl rfl (by repeat (first | exact trivial | refine And.intro rfl ?_)) (by exact rfl) (by repeat (first | exact Upd.head | apply Upd.tail | apply Upd.app)) (by repeat (first | exact Splice.nil | apply Splice.cons | apply Splice.skip)) ?_
  refine T.opsNil ?_
  exact T.retF (Lv.fin (v := .agg #[.int .i64 m.b, .int .i64 m.e]) (RV.cell rfl (CV.agg (cs := [.int .i64 m.b, .int .i64 m.e]) rfl (.own (by repeat (first | exact List.Mem.head _ | apply List.Mem.tail | apply List.mem_append_right))) rfl)) rfl)
set_option maxHeartbeats 1000000 in
theorem spans_fn (l : List Mt) (v : Value) (H : Hp) (hv : MtL H v l) (hl : l.length ≤ 1000000) : Fn Try.prog 16 #[v] H (fun u H' => SpL H' u (spM l)) := by
  obtain ⟨ad, cap, rfl⟩ := hv.1.len
  refine Fn.of_T (vs := [.slice ad l.length cap]) Try.func16 rfl rfl fun w => ?_
  refine T.seq ?_
  refine T.region ?_
  refine T.pv (PV.assign rfl) Wanted.none rfl rfl ?_
  refine T.opsNil ?_
  refine T.seq ?_
  refine T.region ?_
  refine T.pv (PV.assign rfl) Wanted.none rfl rfl ?_
  refine T.opsNil ?_
  refine T.seq ?_
  refine T.seq ?_
  refine T.region ?_
  refine T.pv (PV.move rfl) Wanted.none rfl rfl ?_
  refine T.pv (PV.lenSl rfl) Wanted.none rfl rfl ?_
  refine T.pv (PV.move rfl) Wanted.none rfl rfl ?_
  refine T.opsNil ?_
  refine T.block ?_
  refine T.loop (γ := VG) (fun g => g.j ≤ l.length ∧ SpV g.v g.lv ((l.take g.j).map spm))
    (fun g => [(8, .int .i64 (g.j : Int)), (7, .int .i64 (l.length : Int)), (6, .slice ad l.length cap), (3, g.v)])
    (fun g => g.lv) (fun _ => H) (fun g => l.length - g.j) ⟨0, 0, .slice none 0 0, []⟩ ⟨by simp, Vec.nil 40 2⟩ (by repeat (first | exact trivial | refine And.intro rfl ?_)) (by repeat (first | exact List.Sublist.slnil | exact List.nil_sublist _ | exact List.Sublist.refl _ | exact List.sublist_append_left _ [] | apply List.Sublist.cons_cons | apply List.Sublist.cons | refine List.Sublist.append_left ?_ _ | refine List.sublist_append_of_sublist_right ?_)) rfl ?_
  rintro ⟨j, z, u, lv⟩ ⟨j1, j3⟩
  dsimp only at j1 j3 ⊢
  have hlen : ((l.take j).map spm).length = j := by rw [List.length_map, List.length_take]; omega
  by_cases hj : j < l.length
  · obtain ⟨m, hx⟩ : ∃ x, l[j]? = some x := ⟨_, List.getElem?_eq_getElem hj⟩
    obtain ⟨b, off, rfl, hsub⟩ := hv.1.matchAt hx
    have hcall := span_fn m H
    obtain ⟨am, cm, hmv⟩ := (hv.2 m (List.mem_of_getElem? hx)).1.len
    unfold mtV spV at hcall
    rw [hmv] at hcall hsub
    have hsn : (l.take (j + 1)).map spm = (l.take j).map spm ++ [spm m] := by rw [List.take_add_one, hx, List.map_append]; rfl
    refine T.seq ?_
    refine T.region ?_
    refine T.pv (PV.lss rfl rfl) Wanted.none rfl rfl ?_
    refine T.opsNil ?_
    refine T.seq ?_
    refine T.condT rfl (decide_eq_true (by omega)) ?_
    refine T.skip ?_
    refine T.seq ?_
    refine T.block ?_
    refine T.seq ?_
    refine T.region ?_
    refine T.pv (PV.indexAddr rfl rfl (by omega)) Wanted.none rfl rfl ?_
    refine T.pv (PV.loadSubAll rfl (by assumption) (by exact rfl)) Wanted.none rfl rfl ?_
    (refine T.alloc Wanted.none rfl ?_; intro b5)
    refine T.storeA Wanted.none rfl rfl (by repeat (first | exact trivial | refine And.intro rfl ?_)) (by exact rfl) (by repeat (first | exact Upd.head | apply Upd.tail | apply Upd.app)) (by repeat (first | exact Splice.nil | apply Splice.cons | apply Splice.skip)) ?_
    refine T.opsNil ?_
    refine T.region ?_
    refine T.pv (PV.move rfl) Wanted.none rfl rfl ?_
    refine T.pv (PV.loadAll rfl (by first | exact .fro (by assumption) | exact .own (by repeat (first | exact List.Mem.head _ | apply List.Mem.tail | apply List.mem_append_right))) (by exact rfl)) Wanted.none rfl rfl ?_
    refine T.callV Wanted.none rfl rfl (hcall) ?_
    (refine T.buildSlice Wanted.none rfl rfl (by repeat (first | exact FillAll.nil | (apply FillAll.cons; (first | exact CellsR.one rfl | exact CellsR.agg); exact rfl))) (by exact rfl) (by exact rfl) ?_; intro b15)
    refine T.appendE [_, _] (lv := lv) Wanted.none rfl rfl rfl j3 (Src.cells (m := 1) (ys := encS (spm m)) (.own (by repeat (first | exact List.Mem.head _ | apply List.Mem.tail | apply List.mem_append_right))) rfl rfl) (one_encS (spm m)) (by omega) ?_
    intro v2 lv2 hv2 _
    refine T.pv (PV.assign rfl) Wanted.none rfl rfl ?_
    refine T.opsNil ?_
    refine T.blkEnd ?_
    refine T.region ?_
    refine T.pv (PV.add rfl rfl (by omega)) Wanted.none rfl rfl ?_
    refine T.pv (PV.move rfl) Wanted.none rfl rfl ?_
    refine T.opsNil ?_
    refine T.next ⟨j + 1, 0, v2, lv2⟩ ⟨by dsimp only; omega, ?_⟩ (by dsimp only; omega) (by repeat (first | exact trivial | refine And.intro rfl ?_)) (by repeat (first | exact List.Sublist.slnil | exact List.nil_sublist _ | exact List.Sublist.refl _ | exact List.sublist_append_left _ [] | apply List.Sublist.cons_cons | apply List.Sublist.cons | refine List.Sublist.append_left ?_ _ | refine List.sublist_append_of_sublist_right ?_)) rfl
    dsimp only
    rw [hsn]
    exact SpV.snoc hv2
  · rw [List.take_of_length_le (by omega)] at j3
    have hsl : (sortC (l.map spm)).length = (l.map spm).length := List.length_mergeSort _
    have hml : (l.map spm).length = l.length := List.length_map ..
    have hsp : spM l = dedupAdj (sortC (l.map spm)) := spansOf_eq (spansL_sorted _) (spansL_mem _)
    refine T.seq ?_
    refine T.region ?_
    refine T.pv (PV.lss rfl rfl) Wanted.none rfl rfl ?_
    refine T.opsNil ?_
    refine T.seq ?_
    refine T.condF rfl (decide_eq_false (by omega)) ?_
    refine T.exit rfl ?_
    refine T.seq ?_
    refine T.region ?_
    refine T.pv (PV.move rfl) Wanted.none rfl rfl ?_
    refine T.callW Wanted.none rfl rfl (sort_fn _ u lv _ j3 (by omega)) Pick.all ?_
    rintro v2 H2 l2 _ ⟨rfl, rfl, hv2⟩
    refine T.opsNil ?_
    refine T.seq ?_
    refine T.region ?_
    refine T.pv (PV.move rfl) Wanted.none rfl rfl ?_
    refine T.callW Wanted.none rfl rfl (compact_fn _ u l2 _ hv2 (by omega)) Pick.allA ?_
    rintro v3 H3 l3 _ ⟨rfl, hv3⟩
    refine T.pv (PV.assign rfl) Wanted.none rfl rfl ?_
    refine T.opsNil ?_
    rw [hsp]
    exact T.retF (Vec.freezeLv (l' := []) hv3 (by rw [List.append_nil]; first | exact List.Sublist.refl _ | exact List.sublist_append_left l3 _) fun H' _ hsl => Lv.fin (RV.tmp rfl rfl) hsl)
structure RG where
  j : Nat
  v : Value
  H : Hp
set_option maxHeartbeats 1000000 in
theorem refSpans_fn (l : List Mt) (v : Value) (H : Hp) (hv : MtL H v l) (hl : l.length ≤ 1000000) : Fn Try.prog 17 #[v] H (fun u H' => SpL H' u (spM l)) := by
  obtain ⟨ad, cap, rfl⟩ := hv.1.len
  refine Fn.of_T (vs := [.slice ad l.length cap]) Try.func17 rfl rfl fun w => ?_
  refine T.seq ?_
  refine T.region ?_
  refine T.pv (PV.assign rfl) Wanted.none rfl rfl ?_
  refine T.opsNil ?_
  refine T.seq ?_
  refine T.region ?_
  refine T.pv (PV.assign rfl) Wanted.none rfl rfl ?_
  refine T.opsNil ?_
  refine T.seq ?_
  refine T.seq ?_
  refine T.region ?_
  refine T.pv (PV.move rfl) Wanted.none rfl rfl ?_
  refine T.pv (PV.lenSl rfl) Wanted.none rfl rfl ?_
  refine T.pv (PV.move rfl) Wanted.none rfl rfl ?_
  refine T.opsNil ?_
  refine T.block ?_
  refine T.loop (γ := RG) (fun g => g.j ≤ l.length ∧ H.le g.H ∧ SpL g.H g.v (spM (l.take g.j)))
    (fun g => [(8, .int .i64 (g.j : Int)), (7, .int .i64 (l.length : Int)), (6, .slice ad l.length cap), (3, g.v)])
    (fun _ => []) (fun g => g.H) (fun g => l.length - g.j) ⟨0, .slice none 0 0, H⟩ ⟨by simp, Hp.le.refl _, SlR.empty⟩ (by repeat (first | exact trivial | refine And.intro rfl ?_)) (by repeat (first | exact List.Sublist.slnil | exact List.nil_sublist _ | exact List.Sublist.refl _ | exact List.sublist_append_left _ [] | apply List.Sublist.cons_cons | apply List.Sublist.cons | refine List.Sublist.append_left ?_ _ | refine List.sublist_append_of_sublist_right ?_)) rfl ?_
  rintro ⟨j, u, Hk⟩ ⟨j1, j2, j3⟩
  dsimp only at j1 j2 j3 ⊢
  by_cases hj : j < l.length
  · obtain ⟨m, hx⟩ : ∃ x, l[j]? = some x := ⟨_, List.getElem?_eq_getElem hj⟩
    have hvk := hv.mono j2
    obtain ⟨b, off, rfl, hsub⟩ := hvk.1.matchAt hx
    obtain ⟨am, cm, hmv⟩ := (hv.2 m (List.mem_of_getElem? hx)).1.len
    rw [hmv] at hsub
    have hlen := spM_len (l.take j)
    have htl : (l.take j).length ≤ j := List.length_take_le _ _
    refine T.seq ?_
    refine T.region ?_
    refine T.pv (PV.lss rfl rfl) Wanted.none rfl rfl ?_
    refine T.opsNil ?_
    refine T.seq ?_
    refine T.condT rfl (decide_eq_true (by omega)) ?_
    refine T.skip ?_
    refine T.seq ?_
    refine T.block ?_
    refine T.seq ?_
    refine T.region ?_
    refine T.pv (PV.indexAddr rfl rfl (by omega)) Wanted.none rfl rfl ?_
    refine T.pv (PV.loadSubAll rfl (by assumption) (by exact rfl)) Wanted.none rfl rfl ?_
    (refine T.alloc Wanted.none rfl ?_; intro b5)
    refine T.storeA Wanted.none rfl rfl (by repeat (first | exact trivial | refine And.intro rfl ?_)) (by exact rfl) (by repeat (first | exact Upd.head | apply Upd.tail | apply Upd.app)) (by repeat (first | exact Splice.nil | apply Splice.cons | apply Splice.skip)) ?_
    refine T.opsNil ?_
    refine T.region ?_
    refine T.pv (PV.move rfl) Wanted.none rfl rfl ?_
    refine T.pv (PV.fieldAddr rfl) Wanted.none rfl rfl ?_
    refine T.pv (PV.load1 rfl (by first | exact .fro (by assumption) | exact .own (by repeat (first | exact List.Mem.head _ | apply List.Mem.tail | apply List.mem_append_right))) rfl) Wanted.none rfl rfl ?_
    refine T.pv (PV.fieldAddr rfl) Wanted.none rfl rfl ?_
    refine T.pv (PV.load1 rfl (by first | exact .fro (by assumption) | exact .own (by repeat (first | exact List.Mem.head _ | apply List.Mem.tail | apply List.mem_append_right))) rfl) Wanted.none rfl rfl ?_
    refine T.pv (PV.build rfl (by repeat (first | exact FillR.nil | (apply FillR.cons rfl; (first | exact CellsR.one rfl | exact CellsR.agg); rfl; repeat (first | exact Splice.nil | apply Splice.cons | apply Splice.skip))))) Wanted.none rfl rfl ?_
    refine T.call Wanted.none rfl rfl (insert_fn _ (spm m) u Hk j3 (by omega) (spM_sorted _)) ?_
    intro u2 H2 hle2 hu2
    refine T.pv (PV.assign rfl) Wanted.none rfl rfl ?_
    refine T.opsNil ?_
    refine T.blkEnd ?_
    refine T.region ?_
    refine T.pv (PV.add rfl rfl (by omega)) Wanted.none rfl rfl ?_
    refine T.pv (PV.move rfl) Wanted.none rfl rfl ?_
    refine T.opsNil ?_
    refine T.next ⟨j + 1, u2, H2⟩ ⟨by dsimp only; omega, j2.trans hle2, ?_⟩ (by dsimp only; omega) (by repeat (first | exact trivial | refine And.intro rfl ?_)) (by repeat (first | exact List.Sublist.slnil | exact List.nil_sublist _ | exact List.Sublist.refl _ | exact List.sublist_append_left _ [] | apply List.Sublist.cons_cons | apply List.Sublist.cons | refine List.Sublist.append_left ?_ _ | refine List.sublist_append_of_sublist_right ?_)) rfl
    dsimp only
    have hsp : spM (l.take (j + 1)) = insC (spM (l.take j)) (spm m) := by
      unfold spM spansOf
      rw [List.take_add_one, hx, Option.toList_some, List.map_append, List.foldl_append]; rfl
    rw [hsp]
    exact hu2
  · rw [List.take_of_length_le (by omega)] at j3
    refine T.seq ?_
    refine T.region ?_
    refine T.pv (PV.lss rfl rfl) Wanted.none rfl rfl ?_
    refine T.opsNil ?_
    refine T.seq ?_
    refine T.condF rfl (decide_eq_false (by omega)) ?_
    refine T.exit rfl ?_
    refine T.seq ?_
    refine T.region ?_
    refine T.pv (PV.move rfl) Wanted.none rfl rfl ?_
    refine T.pv (PV.assign rfl) Wanted.none rfl rfl ?_
    refine T.opsNil ?_
    exact T.retF (Lv.fin (RV.tmp rfl rfl) j3)
end Go.Proofs.Ytceaicameojcaaa
