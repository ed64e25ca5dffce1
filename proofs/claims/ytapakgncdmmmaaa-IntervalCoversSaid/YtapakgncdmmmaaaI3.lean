/- interval: check, the reference's Check, Same, insert, Normalize. -/
import Derived.Test.YtapakgncdmmmaaaI2
namespace Go.Proofs.Ytapakgncdmmmaaa
open Go.RowKit

def chk1 (l : List Sp) : Int := if 4096 < l.length then 2 else if l.all okS then 0 else 8
def chkL : List (List Sp) → Int
  | [] => 0
  | l :: ls => if chk1 l ≠ 0 then chk1 l else chkL ls
/-- An element of a list of spans that is only read. -/
theorem SlR.span {H : Hp} {ad : Option Addr} {n cap : Nat} {l : List Sp} (h : SlR H 2 (.slice ad n cap) l.length (l.flatMap encS)) {i : Nat} {x : Sp} (hx : l[i]? = some x) : ∃ b off, ad = some ⟨b, off, none⟩ ∧ SubC H b (off + i * 2) [.int .i64 x.1, .int .i64 x.2] := by
  have hi := (List.getElem?_eq_some_iff.1 hx).1
  obtain ⟨b, off, cap', hve, hsub⟩ := h.elem (i := i) hi (flat_elem encS_len l i x hx)
  injection hve with e1 e2 e3
  exact ⟨b, off, e1, hsub⟩
theorem all_take {l : List Sp} {p : Sp → Bool} {i : Nat} {x : Sp} (hx : l[i]? = some x) (h : (l.take i).all p = true) : (l.take (i + 1)).all p = p x := by
  rw [List.take_add_one, hx, List.all_append, h]; simp
theorem all_false {l : List Sp} {p : Sp → Bool} {i : Nat} {x : Sp} (hx : l[i]? = some x) (h : p x = false) : l.all p = false := by
  rw [Bool.eq_false_iff]
  intro hall
  rw [List.all_eq_true.1 hall x (List.mem_of_getElem? hx)] at h
  cases h
structure KG where
  j : Nat
  b : Nat
set_option maxHeartbeats 1000000 in
theorem check_fn (ps : List (Value × List Sp)) (v : Value) (H : Hp) (hv : SlR H 1 v ps.length (ps.flatMap fun p => [p.1])) (hps : ∀ p ∈ ps, SpL H p.1 p.2) (hl : ps.length ≤ 1000) (hm : ∀ p ∈ ps, p.2.length ≤ maxLen) : Fn Try.prog 28 #[v] H (fun v _ => v = .int .i64 (chkL (ps.map (·.2)))) := by
  obtain ⟨ad, cap, rfl⟩ := hv.len
  refine Fn.of_T (vs := [.slice ad ps.length cap]) Try.func28 rfl rfl fun w => ?_
  refine T.seq ?_
  refine T.region ?_
  refine T.pv (PV.assign rfl) Wanted.none rfl rfl ?_
  refine T.opsNil ?_
  refine T.seq ?_
  refine T.seq ?_
  refine T.region ?_
  refine T.pv (PV.move rfl) Wanted.none rfl rfl ?_
  refine T.pv (PV.lenSl rfl) Wanted.none rfl rfl ?_
  refine T.pv (PV.move rfl) Wanted.none rfl rfl ?_
  refine T.opsNil ?_
  refine T.block ?_
  refine T.loop (γ := Nat) (fun i => i ≤ ps.length ∧ chkL ((ps.map (·.2)).drop i) = chkL (ps.map (·.2)))
    (fun i => [(9, .int .i64 (i : Int)), (8, .int .i64 (ps.length : Int)), (7, .slice ad ps.length cap)])
    (fun _ => []) (fun _ => H) (fun i => ps.length - i) 0 ⟨by simp, by simp⟩ (by repeat (first | exact trivial | refine And.intro rfl ?_)) (by repeat (first | exact List.Sublist.slnil | exact List.nil_sublist _ | exact List.Sublist.refl _ | exact List.sublist_append_left _ [] | apply List.Sublist.cons_cons | apply List.Sublist.cons | refine List.Sublist.append_left ?_ _ | refine List.sublist_append_of_sublist_right ?_)) rfl ?_
  rintro i ⟨h1, h2⟩
  by_cases hi : i < ps.length
  · obtain ⟨⟨u, l⟩, hx⟩ : ∃ x, ps[i]? = some x := ⟨_, List.getElem?_eq_getElem hi⟩
    obtain ⟨b, off, cap', hve, hsub⟩ := hv.elem (i := i) (by omega) (flat_elem (f := fun p : Value × List Sp => [p.1]) (fun _ => rfl) ps i _ hx)
    injection hve with e1 e2 e3
    subst e1 e3
    have hu := hps _ (List.mem_of_getElem? hx)
    have hml := hm _ (List.mem_of_getElem? hx)
    dsimp only at hu hsub hml
    obtain ⟨adu, capu, rfl⟩ := hu.len
    have hstep : chkL ((ps.map (·.2)).drop i) = if chk1 l ≠ 0 then chk1 l else chkL ((ps.map (·.2)).drop (i + 1)) := by
      rw [List.drop_eq_getElem_cons (by simpa using hi), chkL]
      have : (ps.map (·.2))[i]'(by simpa using hi) = l := by
        rw [List.getElem_map, (List.getElem?_eq_some_iff.1 hx).2]
      rw [this]
    rw [h2] at hstep
    unfold maxLen at hml
    by_cases hlong : 4096 < l.length
    · have hk : chk1 l = 2 := by unfold chk1; rw [if_pos hlong]
      rw [hk, if_pos (by omega)] at hstep
      refine T.seq ?_
      refine T.region ?_
      refine T.pv (PV.lss rfl rfl) Wanted.none rfl rfl ?_
      refine T.opsNil ?_
      refine T.seq ?_
      refine T.condT rfl (decide_eq_true (by omega)) ?_
      refine T.skip ?_
      refine T.seq ?_
      refine T.block ?_
      refine T.seq ?_
      refine T.region ?_
      refine T.pv (PV.indexAddr rfl rfl (by omega)) Wanted.none rfl rfl ?_
      refine T.pv (PV.loadSub0 rfl (by assumption)) Wanted.none rfl rfl ?_
      refine T.pv (PV.assign rfl) Wanted.none rfl rfl ?_
      refine T.opsNil ?_
      refine T.seq ?_
      refine T.seq ?_
      refine T.region ?_
      refine T.pv (PV.move rfl) Wanted.none rfl rfl ?_
      refine T.pv (PV.lenSl rfl) Wanted.none rfl rfl ?_
      refine T.pv (PV.gtr rfl rfl) Wanted.none rfl rfl ?_
      refine T.opsNil ?_
      refine T.condT rfl (decide_eq_true (by omega)) ?_
      refine T.seq ?_
      refine T.region ?_
      refine T.pv (PV.assign rfl) Wanted.none rfl rfl ?_
      refine T.opsNil ?_
      exact T.retF (Lv.fin (RV.tmp rfl rfl) (by rw [hstep]))
    · refine T.seq ?_
      refine T.region ?_
      refine T.pv (PV.lss rfl rfl) Wanted.none rfl rfl ?_
      refine T.opsNil ?_
      refine T.seq ?_
      refine T.condT rfl (decide_eq_true (by omega)) ?_
      refine T.skip ?_
      refine T.seq ?_
      refine T.block ?_
      refine T.seq ?_
      refine T.region ?_
      refine T.pv (PV.indexAddr rfl rfl (by omega)) Wanted.none rfl rfl ?_
      refine T.pv (PV.loadSub0 rfl (by assumption)) Wanted.none rfl rfl ?_
      refine T.pv (PV.assign rfl) Wanted.none rfl rfl ?_
      refine T.opsNil ?_
      refine T.seq ?_
      refine T.seq ?_
      refine T.region ?_
      refine T.pv (PV.move rfl) Wanted.none rfl rfl ?_
      refine T.pv (PV.lenSl rfl) Wanted.none rfl rfl ?_
      refine T.pv (PV.gtr rfl rfl) Wanted.none rfl rfl ?_
      refine T.opsNil ?_
      refine T.condF rfl (decide_eq_false (by omega)) ?_
      refine T.skip ?_
      refine T.seq ?_
      refine T.region ?_
      refine T.pv (PV.move rfl) Wanted.none rfl rfl ?_
      refine T.pv (PV.lenSl rfl) Wanted.none rfl rfl ?_
      refine T.pv (PV.move rfl) Wanted.none rfl rfl ?_
      refine T.opsNil ?_
      refine T.block ?_
      refine T.loop (γ := Nat) (fun j => j ≤ l.length ∧ (l.take j).all okS = true)
        (fun j => [(9, .int .i64 (i : Int)), (8, .int .i64 (ps.length : Int)), (7, .slice (some ⟨b, off, none⟩) ps.length cap), (18, .int .i64 (j : Int)), (17, .int .i64 (l.length : Int)), (16, .slice adu l.length capu)])
        (fun _ => []) (fun _ => H) (fun j => l.length - j) 0 ⟨by simp, by simp⟩ (by repeat (first | exact trivial | refine And.intro rfl ?_)) (by repeat (first | exact List.Sublist.slnil | exact List.nil_sublist _ | exact List.Sublist.refl _ | exact List.sublist_append_left _ [] | apply List.Sublist.cons_cons | apply List.Sublist.cons | refine List.Sublist.append_left ?_ _ | refine List.sublist_append_of_sublist_right ?_)) rfl ?_
      rintro j ⟨j1, j2⟩
      by_cases hj : j < l.length
      · obtain ⟨x, hxj⟩ : ∃ x, l[j]? = some x := ⟨_, List.getElem?_eq_getElem hj⟩
        obtain ⟨bu, offu, rfl, hsubu⟩ := hu.span hxj
        have hat := all_take (p := okS) hxj j2
        have v1 := valid_fn x H
        unfold spV at v1
        cases hok : okS x with
        | true =>
          have hok' : decide (0 ≤ x.1 ∧ x.1 < x.2) = true := hok
          rw [hok'] at v1
          rw [hok] at hat
          refine T.seq ?_
          refine T.region ?_
          refine T.pv (PV.lss rfl rfl) Wanted.none rfl rfl ?_
          refine T.opsNil ?_
          refine T.seq ?_
          refine T.condT rfl (decide_eq_true (by omega)) ?_
          refine T.skip ?_
          refine T.seq ?_
          refine T.block ?_
          refine T.seq ?_
          refine T.region ?_
          refine T.pv (PV.indexAddr rfl rfl (by omega)) Wanted.none rfl rfl ?_
          refine T.pv (PV.loadSubAll rfl (by assumption) (by exact rfl)) Wanted.none rfl rfl ?_
          (refine T.alloc Wanted.none rfl ?_; intro b6)
          refine T.storeA Wanted.none rfl rfl (by repeat (first | exact trivial | refine And.intro rfl ?_)) (by exact rfl) (by repeat (first | exact Upd.head | apply Upd.tail | apply Upd.app)) (by repeat (first | exact Splice.nil | apply Splice.cons | apply Splice.skip)) ?_
          refine T.opsNil ?_
          refine T.seq ?_
          refine T.region ?_
          refine T.pv (PV.loadAll rfl (by first | exact .fro (by assumption) | exact .own (by repeat (first | exact List.Mem.head _ | apply List.Mem.tail | apply List.mem_append_right))) (by exact rfl)) Wanted.none rfl rfl ?_
          refine T.callV Wanted.none rfl rfl (v1) ?_
          refine T.pv (PV.not rfl) Wanted.none rfl rfl ?_
          refine T.opsNil ?_
          refine T.condF rfl rfl ?_
          refine T.skip ?_
          refine T.blkEnd ?_
          refine T.region ?_
          refine T.pv (PV.add rfl rfl (by omega)) Wanted.none rfl rfl ?_
          refine T.pv (PV.move rfl) Wanted.none rfl rfl ?_
          refine T.opsNil ?_
          exact T.next (j + 1) ⟨by omega, hat⟩ (by omega) (by repeat (first | exact trivial | refine And.intro rfl ?_)) (by repeat (first | exact List.Sublist.slnil | exact List.nil_sublist _ | exact List.Sublist.refl _ | exact List.sublist_append_left _ [] | apply List.Sublist.cons_cons | apply List.Sublist.cons | refine List.Sublist.append_left ?_ _ | refine List.sublist_append_of_sublist_right ?_)) rfl
        | false =>
          have hok' : decide (0 ≤ x.1 ∧ x.1 < x.2) = false := hok
          rw [hok'] at v1
          have hk : chk1 l = 8 := by unfold chk1; rw [if_neg hlong, all_false hxj hok]; rfl
          rw [hk, if_pos (by omega)] at hstep
          refine T.seq ?_
          refine T.region ?_
          refine T.pv (PV.lss rfl rfl) Wanted.none rfl rfl ?_
          refine T.opsNil ?_
          refine T.seq ?_
          refine T.condT rfl (decide_eq_true (by omega)) ?_
          refine T.skip ?_
          refine T.seq ?_
          refine T.block ?_
          refine T.seq ?_
          refine T.region ?_
          refine T.pv (PV.indexAddr rfl rfl (by omega)) Wanted.none rfl rfl ?_
          refine T.pv (PV.loadSubAll rfl (by assumption) (by exact rfl)) Wanted.none rfl rfl ?_
          (refine T.alloc Wanted.none rfl ?_; intro b6)
          refine T.storeA Wanted.none rfl rfl (by repeat (first | exact trivial | refine And.intro rfl ?_)) (by exact rfl) (by repeat (first | exact Upd.head | apply Upd.tail | apply Upd.app)) (by repeat (first | exact Splice.nil | apply Splice.cons | apply Splice.skip)) ?_
          refine T.opsNil ?_
          refine T.seq ?_
          refine T.region ?_
          refine T.pv (PV.loadAll rfl (by first | exact .fro (by assumption) | exact .own (by repeat (first | exact List.Mem.head _ | apply List.Mem.tail | apply List.mem_append_right))) (by exact rfl)) Wanted.none rfl rfl ?_
          refine T.callV Wanted.none rfl rfl (v1) ?_
          refine T.pv (PV.not rfl) Wanted.none rfl rfl ?_
          refine T.opsNil ?_
          refine T.condT rfl rfl ?_
          refine T.seq ?_
          refine T.region ?_
          refine T.pv (PV.assign rfl) Wanted.none rfl rfl ?_
          refine T.opsNil ?_
          exact T.retF (Lv.fin (RV.tmp rfl rfl) (by rw [hstep]))
      · rw [List.take_of_length_le (by omega)] at j2
        have hk : chk1 l = 0 := by unfold chk1; rw [if_neg hlong, j2]; rfl
        rw [hk, if_neg (by omega)] at hstep
        refine T.seq ?_
        refine T.region ?_
        refine T.pv (PV.lss rfl rfl) Wanted.none rfl rfl ?_
        refine T.opsNil ?_
        refine T.seq ?_
        refine T.condF rfl (decide_eq_false (by omega)) ?_
        refine T.exit rfl ?_
        refine T.blkEnd ?_
        refine T.region ?_
        refine T.pv (PV.add rfl rfl (by omega)) Wanted.none rfl rfl ?_
        refine T.pv (PV.move rfl) Wanted.none rfl rfl ?_
        refine T.opsNil ?_
        exact T.next (i + 1) ⟨by omega, hstep.symm⟩ (by omega) (by repeat (first | exact trivial | refine And.intro rfl ?_)) (by repeat (first | exact List.Sublist.slnil | exact List.nil_sublist _ | exact List.Sublist.refl _ | exact List.sublist_append_left _ [] | apply List.Sublist.cons_cons | apply List.Sublist.cons | refine List.Sublist.append_left ?_ _ | refine List.sublist_append_of_sublist_right ?_)) rfl
  · rw [List.drop_of_length_le (by simp; omega)] at h2
    refine T.seq ?_
    refine T.region ?_
    refine T.pv (PV.lss rfl rfl) Wanted.none rfl rfl ?_
    refine T.opsNil ?_
    refine T.seq ?_
    refine T.condF rfl (decide_eq_false (by omega)) ?_
    refine T.exit rfl ?_
    refine T.seq ?_
    refine T.region ?_
    refine T.pv (PV.assign rfl) Wanted.none rfl rfl ?_
    refine T.opsNil ?_
    exact T.retF (Lv.fin (RV.tmp rfl rfl) (by rw [← h2]; rfl))
set_option maxHeartbeats 1000000 in
theorem refCheck_fn (l : List Sp) (v : Value) (H : Hp) (hu : SpL H v l) (hml : l.length ≤ maxLen) : Fn Try.prog 30 #[v] H (fun v _ => v = .int .i64 (chk1 l)) := by
  obtain ⟨adu, capu, rfl⟩ := hu.len
  refine Fn.of_T (vs := [.slice adu l.length capu]) Try.func30 rfl rfl fun w => ?_
  unfold maxLen at hml
  by_cases hlong : 4096 < l.length
  · have hk : chk1 l = 2 := by unfold chk1; rw [if_pos hlong]
    refine T.seq ?_
    refine T.region ?_
    refine T.pv (PV.assign rfl) Wanted.none rfl rfl ?_
    refine T.opsNil ?_
    refine T.seq ?_
    refine T.seq ?_
    refine T.region ?_
    refine T.pv (PV.move rfl) Wanted.none rfl rfl ?_
    refine T.pv (PV.lenSl rfl) Wanted.none rfl rfl ?_
    refine T.pv (PV.gtr rfl rfl) Wanted.none rfl rfl ?_
    refine T.opsNil ?_
    refine T.condT rfl (decide_eq_true (by omega)) ?_
    refine T.seq ?_
    refine T.region ?_
    refine T.pv (PV.assign rfl) Wanted.none rfl rfl ?_
    refine T.opsNil ?_
    exact T.retF (Lv.fin (RV.tmp rfl rfl) (by rw [hk]))
  · refine T.seq ?_
    refine T.region ?_
    refine T.pv (PV.assign rfl) Wanted.none rfl rfl ?_
    refine T.opsNil ?_
    refine T.seq ?_
    refine T.seq ?_
    refine T.region ?_
    refine T.pv (PV.move rfl) Wanted.none rfl rfl ?_
    refine T.pv (PV.lenSl rfl) Wanted.none rfl rfl ?_
    refine T.pv (PV.gtr rfl rfl) Wanted.none rfl rfl ?_
    refine T.opsNil ?_
    refine T.condF rfl (decide_eq_false (by omega)) ?_
    refine T.skip ?_
    refine T.seq ?_
    refine T.seq ?_
    refine T.region ?_
    refine T.pv (PV.move rfl) Wanted.none rfl rfl ?_
    refine T.pv (PV.lenSl rfl) Wanted.none rfl rfl ?_
    refine T.pv (PV.move rfl) Wanted.none rfl rfl ?_
    refine T.opsNil ?_
    refine T.block ?_
    refine T.loop (γ := Nat) (fun j => j ≤ l.length ∧ (l.take j).all okS = true)
      (fun j => [(10, .int .i64 (j : Int)), (9, .int .i64 (l.length : Int)), (8, .slice adu l.length capu)])
      (fun _ => []) (fun _ => H) (fun j => l.length - j) 0 ⟨by simp, by simp⟩ (by repeat (first | exact trivial | refine And.intro rfl ?_)) (by repeat (first | exact List.Sublist.slnil | exact List.nil_sublist _ | exact List.Sublist.refl _ | exact List.sublist_append_left _ [] | apply List.Sublist.cons_cons | apply List.Sublist.cons | refine List.Sublist.append_left ?_ _ | refine List.sublist_append_of_sublist_right ?_)) rfl ?_
    rintro j ⟨j1, j2⟩
    by_cases hj : j < l.length
    · obtain ⟨x, hxj⟩ : ∃ x, l[j]? = some x := ⟨_, List.getElem?_eq_getElem hj⟩
      obtain ⟨bu, offu, rfl, hsubu⟩ := hu.span hxj
      have hat := all_take (p := okS) hxj j2
      have v1 := refValid_fn x H
      unfold spV at v1
      cases hok : okS x with
      | true =>
        have hok' : decide (0 ≤ x.1 ∧ x.1 < x.2) = true := hok
        rw [hok'] at v1
        rw [hok] at hat
        refine T.seq ?_
        refine T.region ?_
        refine T.pv (PV.lss rfl rfl) Wanted.none rfl rfl ?_
        refine T.opsNil ?_
        refine T.seq ?_
        refine T.condT rfl (decide_eq_true (by omega)) ?_
        refine T.skip ?_
        refine T.seq ?_
        refine T.block ?_
        refine T.seq ?_
        refine T.region ?_
        refine T.pv (PV.indexAddr rfl rfl (by omega)) Wanted.none rfl rfl ?_
        refine T.pv (PV.loadSubAll rfl (by assumption) (by exact rfl)) Wanted.none rfl rfl ?_
        (refine T.alloc Wanted.none rfl ?_; intro b4)
        refine T.storeA Wanted.none rfl rfl (by repeat (first | exact trivial | refine And.intro rfl ?_)) (by exact rfl) (by repeat (first | exact Upd.head | apply Upd.tail | apply Upd.app)) (by repeat (first | exact Splice.nil | apply Splice.cons | apply Splice.skip)) ?_
        refine T.opsNil ?_
        refine T.seq ?_
        refine T.region ?_
        refine T.pv (PV.loadAll rfl (by first | exact .fro (by assumption) | exact .own (by repeat (first | exact List.Mem.head _ | apply List.Mem.tail | apply List.mem_append_right))) (by exact rfl)) Wanted.none rfl rfl ?_
        refine T.callV Wanted.none rfl rfl (v1) ?_
        refine T.pv (PV.not rfl) Wanted.none rfl rfl ?_
        refine T.opsNil ?_
        refine T.condF rfl rfl ?_
        refine T.skip ?_
        refine T.blkEnd ?_
        refine T.region ?_
        refine T.pv (PV.add rfl rfl (by omega)) Wanted.none rfl rfl ?_
        refine T.pv (PV.move rfl) Wanted.none rfl rfl ?_
        refine T.opsNil ?_
        exact T.next (j + 1) ⟨by omega, hat⟩ (by omega) (by repeat (first | exact trivial | refine And.intro rfl ?_)) (by repeat (first | exact List.Sublist.slnil | exact List.nil_sublist _ | exact List.Sublist.refl _ | exact List.sublist_append_left _ [] | apply List.Sublist.cons_cons | apply List.Sublist.cons | refine List.Sublist.append_left ?_ _ | refine List.sublist_append_of_sublist_right ?_)) rfl
      | false =>
        have hok' : decide (0 ≤ x.1 ∧ x.1 < x.2) = false := hok
        rw [hok'] at v1
        have hk : chk1 l = 8 := by unfold chk1; rw [if_neg hlong, all_false hxj hok]; rfl
        refine T.seq ?_
        refine T.region ?_
        refine T.pv (PV.lss rfl rfl) Wanted.none rfl rfl ?_
        refine T.opsNil ?_
        refine T.seq ?_
        refine T.condT rfl (decide_eq_true (by omega)) ?_
        refine T.skip ?_
        refine T.seq ?_
        refine T.block ?_
        refine T.seq ?_
        refine T.region ?_
        refine T.pv (PV.indexAddr rfl rfl (by omega)) Wanted.none rfl rfl ?_
        refine T.pv (PV.loadSubAll rfl (by assumption) (by exact rfl)) Wanted.none rfl rfl ?_
        (refine T.alloc Wanted.none rfl ?_; intro b4)
        refine T.storeA Wanted.none rfl rfl (by repeat (first | exact trivial | refine And.intro rfl ?_)) (by exact rfl) (by repeat (first | exact Upd.head | apply Upd.tail | apply Upd.app)) (by repeat (first | exact Splice.nil | apply Splice.cons | apply Splice.skip)) ?_
        refine T.opsNil ?_
        refine T.seq ?_
        refine T.region ?_
        refine T.pv (PV.loadAll rfl (by first | exact .fro (by assumption) | exact .own (by repeat (first | exact List.Mem.head _ | apply List.Mem.tail | apply List.mem_append_right))) (by exact rfl)) Wanted.none rfl rfl ?_
        refine T.callV Wanted.none rfl rfl (v1) ?_
        refine T.pv (PV.not rfl) Wanted.none rfl rfl ?_
        refine T.opsNil ?_
        refine T.condT rfl rfl ?_
        refine T.seq ?_
        refine T.region ?_
        refine T.pv (PV.assign rfl) Wanted.none rfl rfl ?_
        refine T.opsNil ?_
        exact T.retF (Lv.fin (RV.tmp rfl rfl) (by rw [hk]))
    · rw [List.take_of_length_le (by omega)] at j2
      have hk : chk1 l = 0 := by unfold chk1; rw [if_neg hlong, j2]; rfl
      refine T.seq ?_
      refine T.region ?_
      refine T.pv (PV.lss rfl rfl) Wanted.none rfl rfl ?_
      refine T.opsNil ?_
      refine T.seq ?_
      refine T.condF rfl (decide_eq_false (by omega)) ?_
      refine T.exit rfl ?_
      refine T.seq ?_
      refine T.region ?_
      refine T.pv (PV.assign rfl) Wanted.none rfl rfl ?_
      refine T.opsNil ?_
      exact T.retF (Lv.fin (RV.tmp rfl rfl) (by rw [hk]))
set_option maxHeartbeats 1000000 in
theorem same_fn (l m : List Sp) (v u : Value) (H : Hp) (hv : SpL H v l) (hu : SpL H u m) (hml : l.length ≤ maxLen) : Fn Try.prog 19 #[v, u] H (fun v _ => v = .bool (decide (l = m))) := by
  obtain ⟨adv, capv, rfl⟩ := hv.len
  obtain ⟨adu, capu, rfl⟩ := hu.len
  refine Fn.of_T (vs := [.slice adv l.length capv, .slice adu m.length capu]) Try.func19 rfl rfl fun w => ?_
  unfold maxLen at hml
  by_cases hlen : l.length = m.length
  · refine T.seq ?_
    refine T.region ?_
    refine T.pv (PV.assign rfl) Wanted.none rfl rfl ?_
    refine T.opsNil ?_
    refine T.seq ?_
    refine T.seq ?_
    refine T.region ?_
    refine T.pv (PV.move rfl) Wanted.none rfl rfl ?_
    refine T.pv (PV.lenSl rfl) Wanted.none rfl rfl ?_
    refine T.pv (PV.move rfl) Wanted.none rfl rfl ?_
    refine T.pv (PV.lenSl rfl) Wanted.none rfl rfl ?_
    refine T.pv (PV.neq rfl rfl) Wanted.none rfl rfl ?_
    refine T.opsNil ?_
    refine T.condF rfl (decide_eq_false (by omega)) ?_
    refine T.skip ?_
    refine T.seq ?_
    refine T.seq ?_
    refine T.region ?_
    refine T.pv (PV.move rfl) Wanted.none rfl rfl ?_
    refine T.pv (PV.lenSl rfl) Wanted.none rfl rfl ?_
    refine T.pv (PV.move rfl) Wanted.none rfl rfl ?_
    refine T.opsNil ?_
    refine T.block ?_
    refine T.loop (γ := Nat) (fun j => j ≤ l.length ∧ l.take j = m.take j)
      (fun j => [(0, .slice adv l.length capv), (1, .slice adu m.length capu), (13, .int .i64 (j : Int)), (12, .int .i64 (l.length : Int))])
      (fun _ => []) (fun _ => H) (fun j => l.length - j) 0 ⟨by simp, by simp⟩ (by repeat (first | exact trivial | refine And.intro rfl ?_)) (by repeat (first | exact List.Sublist.slnil | exact List.nil_sublist _ | exact List.Sublist.refl _ | exact List.sublist_append_left _ [] | apply List.Sublist.cons_cons | apply List.Sublist.cons | refine List.Sublist.append_left ?_ _ | refine List.sublist_append_of_sublist_right ?_)) rfl ?_
    rintro j ⟨j1, j2⟩
    by_cases hj : j < l.length
    · obtain ⟨x, hxj⟩ : ∃ x, l[j]? = some x := ⟨_, List.getElem?_eq_getElem hj⟩
      obtain ⟨y, hyj⟩ : ∃ y, m[j]? = some y := ⟨_, List.getElem?_eq_getElem (by omega)⟩
      obtain ⟨bv, offv, rfl, hsubv⟩ := hv.span hxj
      obtain ⟨bu, offu, rfl, hsubu⟩ := hu.span hyj
      refine T.seq ?_
      refine T.region ?_
      refine T.pv (PV.lss rfl rfl) Wanted.none rfl rfl ?_
      refine T.opsNil ?_
      refine T.seq ?_
      refine T.condT rfl (decide_eq_true (by omega)) ?_
      refine T.skip ?_
      refine T.seq ?_
      refine T.block ?_
      refine T.seq ?_
      refine T.region ?_
      refine T.pv (PV.move rfl) Wanted.none rfl rfl ?_
      refine T.pv (PV.assign rfl) Wanted.none rfl rfl ?_
      refine T.opsNil ?_
      refine T.seq ?_
      refine T.regionQ (by kernel_rfl) ?_
      refine TQ.pv (PV.move rfl) Wanted.none rfl rfl ?_
      refine TQ.pv (PV.move rfl) Wanted.none rfl rfl ?_
      refine TQ.pv (PV.indexAddr rfl rfl (by omega)) Wanted.none rfl rfl ?_
      refine TQ.pv (PV.loadSubAll rfl (by assumption) (by exact rfl)) Wanted.none rfl rfl ?_
      refine TQ.pv (PV.move rfl) Wanted.none rfl rfl ?_
      refine TQ.pv (PV.move rfl) Wanted.none rfl rfl ?_
      refine TQ.pv (PV.indexAddr rfl rfl (by omega)) Wanted.none rfl rfl ?_
      refine TQ.pv (PV.loadSubAll rfl (by assumption) (by exact rfl)) Wanted.none rfl rfl ?_
      refine TQ.pv (PV.aneq rfl rfl rfl rfl) Wanted.none rfl rfl ?_
      refine TQ.nil ?_
      rw [eqS_eq]
      refine T.cond rfl (fun hc => ?_) (fun hc => ?_)
      · have hne : ¬ x = y := by simpa using hc
        refine T.seq ?_
        refine T.region ?_
        refine T.pv (PV.assign rfl) Wanted.none rfl rfl ?_
        refine T.opsNil ?_
        refine T.retF (Lv.fin (RV.tmp rfl rfl) ?_)
        rw [decide_eq_false]
        rintro rfl
        rw [hxj] at hyj
        exact hne (Option.some.inj hyj)
      · have heq : x = y := by simpa using hc
        refine T.skip ?_
        refine T.blkEnd ?_
        refine T.region ?_
        refine T.pv (PV.add rfl rfl (by omega)) Wanted.none rfl rfl ?_
        refine T.pv (PV.move rfl) Wanted.none rfl rfl ?_
        refine T.opsNil ?_
        exact T.next (j + 1) ⟨by omega, by rw [List.take_add_one, List.take_add_one, j2, hxj, hyj, heq]⟩ (by omega) (by repeat (first | exact trivial | refine And.intro rfl ?_)) (by repeat (first | exact List.Sublist.slnil | exact List.nil_sublist _ | exact List.Sublist.refl _ | exact List.sublist_append_left _ [] | apply List.Sublist.cons_cons | apply List.Sublist.cons | refine List.Sublist.append_left ?_ _ | refine List.sublist_append_of_sublist_right ?_)) rfl
    · rw [List.take_of_length_le (by omega), List.take_of_length_le (by omega)] at j2
      refine T.seq ?_
      refine T.region ?_
      refine T.pv (PV.lss rfl rfl) Wanted.none rfl rfl ?_
      refine T.opsNil ?_
      refine T.seq ?_
      refine T.condF rfl (decide_eq_false (by omega)) ?_
      refine T.exit rfl ?_
      refine T.seq ?_
      refine T.region ?_
      refine T.pv (PV.assign rfl) Wanted.none rfl rfl ?_
      refine T.opsNil ?_
      exact T.retF (Lv.fin (RV.tmp rfl rfl) (by rw [decide_eq_true j2]))
  · refine T.seq ?_
    refine T.region ?_
    refine T.pv (PV.assign rfl) Wanted.none rfl rfl ?_
    refine T.opsNil ?_
    refine T.seq ?_
    refine T.seq ?_
    refine T.region ?_
    refine T.pv (PV.move rfl) Wanted.none rfl rfl ?_
    refine T.pv (PV.lenSl rfl) Wanted.none rfl rfl ?_
    refine T.pv (PV.move rfl) Wanted.none rfl rfl ?_
    refine T.pv (PV.lenSl rfl) Wanted.none rfl rfl ?_
    refine T.pv (PV.neq rfl rfl) Wanted.none rfl rfl ?_
    refine T.opsNil ?_
    refine T.condT rfl (decide_eq_true (by omega)) ?_
    refine T.seq ?_
    refine T.region ?_
    refine T.pv (PV.assign rfl) Wanted.none rfl rfl ?_
    refine T.opsNil ?_
    refine T.retF (Lv.fin (RV.tmp rfl rfl) ?_)
    rw [decide_eq_false]
    rintro rfl
    exact hlen rfl
end Go.Proofs.Ytapakgncdmmmaaa
