/- strategy: the reference's Chosen. -/
import Derived.Test.YtceaicameojcaaaS8
namespace Go.Proofs.Ytceaicameojcaaa
open Go.RowKit

def badR (k : Int) (s t : Sp) : Bool := (decide (k = 1) && conS s t) || (decide (k = 2) && conS t s)
def okR (k : Int) (s t : Sp) : Bool := !(badR k s t) || decide (t = s)
theorem keepR_all (k : Int) (l : List Sp) (s : Sp) : keepR k l s = l.all (okR k s) := rfl
theorem okR_take {k : Int} {l : List Sp} {s t : Sp} {j : Nat} (ht : l[j]? = some t) : (l.take (j + 1)).all (okR k s) = ((l.take j).all (okR k s) && okR k s t) := by
  rw [List.take_add_one, ht, List.all_append]; simp
structure CHG where
  j : Nat
  v : Value
  lv : List (Nat × Obj)
set_option maxHeartbeats 4000000 in
theorem chosen_fn (k : Int) (l : List Sp) (v : Value) (H : Hp) (hv : SpL H v l) (hl : l.length ≤ 1000000) (hs : l.Pairwise ltC) (hok : ∀ s ∈ l, 0 ≤ s.1 ∧ s.1 < s.2) : Fn Try.prog 32 #[.int .i64 k, v] H (fun u H' => SpL H' u (chosenL k l)) := by
  obtain ⟨ad, cap, rfl⟩ := hv.len
  refine Fn.of_T (vs := [.int .i64 k, .slice ad l.length cap]) Try.func32 rfl rfl fun w => ?_
  refine T.seq ?_
  refine T.region ?_
  refine T.pv (PV.assign rfl) Wanted.none rfl rfl ?_
  refine T.opsNil ?_
  refine T.seq ?_
  refine T.region ?_
  refine T.pv (PV.assign rfl) Wanted.none rfl rfl ?_
  refine T.opsNil ?_
  refine T.seq ?_
  refine T.seq ?_
  refine T.region ?_
  refine T.pv (PV.move rfl) Wanted.none rfl rfl ?_
  refine T.pv (PV.lenSl rfl) Wanted.none rfl rfl ?_
  refine T.pv (PV.move rfl) Wanted.none rfl rfl ?_
  refine T.opsNil ?_
  refine T.block ?_
  refine T.loop (γ := CHG) (fun g => g.j ≤ l.length ∧ SpV g.v g.lv (if k = 3 then [] else (l.take g.j).filter (keepR k l)))
    (fun g => [(17, .int .i64 (g.j : Int)), (16, .int .i64 (l.length : Int)), (15, .slice ad l.length cap), (5, g.v), (0, .int .i64 k), (1, .slice ad l.length cap)])
    (fun g => g.lv) (fun _ => H) (fun g => l.length - g.j) ⟨0, .slice none 0 0, []⟩ ⟨by simp, by dsimp only; rw [List.take_zero, List.filter_nil, ite_self]; exact Vec.nil 40 2⟩ (by repeat (first | exact trivial | refine And.intro rfl ?_)) (by repeat (first | exact List.Sublist.slnil | exact List.nil_sublist _ | exact List.Sublist.refl _ | exact List.sublist_append_left _ [] | apply List.Sublist.cons_cons | apply List.Sublist.cons | refine List.Sublist.append_left ?_ _ | refine List.sublist_append_of_sublist_right ?_)) rfl ?_
  rintro ⟨i, u, lv⟩ ⟨j1, j3⟩
  dsimp only at j1 j3 ⊢
  by_cases hi : i < l.length
  · obtain ⟨s, hx⟩ : ∃ x, l[i]? = some x := ⟨_, List.getElem?_eq_getElem hi⟩
    have hlen : ((l.take i).filter (keepR k l)).length ≤ l.length := Nat.le_trans (List.length_filter_le _ _) (List.length_take_le' _ _)
    obtain ⟨b, off, rfl, hsub⟩ := hv.span hx
    refine T.seq ?_
    refine T.region ?_
    refine T.pv (PV.lss rfl rfl) Wanted.none rfl rfl ?_
    refine T.opsNil ?_
    refine T.seq ?_
    refine T.condT rfl (decide_eq_true (by omega)) ?_
    refine T.skip ?_
    refine T.seq ?_
    refine T.block ?_
    refine T.seq ?_
    refine T.region ?_
    refine T.pv (PV.move rfl) Wanted.none rfl rfl ?_
    refine T.pv (PV.indexAddr rfl rfl (by omega)) Wanted.none rfl rfl ?_
    refine T.pv (PV.loadSubAll rfl (by assumption) (by exact rfl)) Wanted.none rfl rfl ?_
    (refine T.alloc Wanted.none rfl ?_; intro b7)
    refine T.pv (PV.assign rfl) Wanted.none rfl rfl ?_
    refine T.storeA Wanted.none rfl rfl (by repeat (first | exact trivial | refine And.intro rfl ?_)) (by exact rfl) (by repeat (first | exact Upd.head | apply Upd.tail | apply Upd.app)) (by repeat (first | exact Splice.nil | apply Splice.cons | apply Splice.skip)) ?_
    refine T.opsNil ?_
    refine T.seq ?_
    refine T.region ?_
    refine T.pv (PV.assign rfl) Wanted.none rfl rfl ?_
    refine T.opsNil ?_
    refine T.seq ?_
    refine T.seq ?_
    refine T.region ?_
    refine T.pv (PV.move rfl) Wanted.none rfl rfl ?_
    refine T.pv (PV.lenSl rfl) Wanted.none rfl rfl ?_
    refine T.pv (PV.move rfl) Wanted.none rfl rfl ?_
    refine T.opsNil ?_
    refine T.block ?_
    refine T.loop (γ := Nat) (fun j => j ≤ l.length)
      (fun j => [(24, .int .i64 (j : Int)), (23, .int .i64 (l.length : Int)), (22, .slice (some ⟨b, off, none⟩) l.length cap), (8, .bool ((l.take j).all (okR k s))), (7, .pointer (some ⟨b7, 0, none⟩)), (6, .int .i64 (i : Int)), (17, .int .i64 (i : Int)), (16, .int .i64 (l.length : Int)), (15, .slice (some ⟨b, off, none⟩) l.length cap), (5, u), (0, .int .i64 k), (1, .slice (some ⟨b, off, none⟩) l.length cap)])
      (fun _ => (b7, .cells #[.int .i64 s.1, .int .i64 s.2] 40 (0, 0)) :: lv) (fun _ => H) (fun j => l.length - j) 0 (by simp) (by repeat (first | exact trivial | refine And.intro rfl ?_)) (by repeat (first | exact List.Sublist.slnil | exact List.nil_sublist _ | exact List.Sublist.refl _ | exact List.sublist_append_left _ [] | apply List.Sublist.cons_cons | apply List.Sublist.cons | refine List.Sublist.append_left ?_ _ | refine List.sublist_append_of_sublist_right ?_)) rfl ?_
    intro j i1
    by_cases hj : j < l.length
    · obtain ⟨t, ht⟩ : ∃ x, l[j]? = some x := ⟨_, List.getElem?_eq_getElem hj⟩
      have hsub2 := hv.spanP ht
      have htk := okR_take (k := k) (s := s) ht
      by_cases hij : i = j
      · subst hij
        rw [hx] at ht
        injection ht with ht
        subst ht
        have hb : okR k s s = true := by simp [okR]
        rw [hb, Bool.and_true] at htk
        refine T.seq ?_
        refine T.region ?_
        refine T.pv (PV.lss rfl rfl) Wanted.none rfl rfl ?_
        refine T.opsNil ?_
        refine T.seq ?_
        refine T.condT rfl (decide_eq_true (by omega)) ?_
        refine T.skip ?_
        refine T.seq ?_
        refine T.block ?_
        refine T.seq ?_
        refine T.region ?_
        refine T.pv (PV.move rfl) Wanted.none rfl rfl ?_
        refine T.pv (PV.indexAddr rfl rfl (by omega)) Wanted.none rfl rfl ?_
        refine T.pv (PV.loadSubAll rfl (by assumption) (by exact rfl)) Wanted.none rfl rfl ?_
        (refine T.alloc Wanted.none rfl ?_; intro b10)
        refine T.pv (PV.assign rfl) Wanted.none rfl rfl ?_
        refine T.storeA Wanted.none rfl rfl (by repeat (first | exact trivial | refine And.intro rfl ?_)) (by exact rfl) (by repeat (first | exact Upd.head | apply Upd.tail | apply Upd.app)) (by repeat (first | exact Splice.nil | apply Splice.cons | apply Splice.skip)) ?_
        refine T.opsNil ?_
        refine T.seq ?_
        refine T.region ?_
        refine T.pv (PV.move rfl) Wanted.none rfl rfl ?_
        refine T.pv (PV.move rfl) Wanted.none rfl rfl ?_
        refine T.pv (PV.neq rfl rfl) Wanted.none rfl rfl ?_
        refine T.pv (PV.move rfl) Wanted.none rfl rfl ?_
        refine T.setF (d := 32) rfl (by omega) ?_
        refine T.pass (Unwanted.guard rfl rfl rfl) rfl rfl ?_
        refine T.pass (Unwanted.guard rfl rfl rfl) rfl rfl ?_
        refine T.pass (Unwanted.guard rfl rfl rfl) rfl rfl ?_
        refine T.pass (Unwanted.undef rfl rfl) rfl rfl ?_
        refine T.pass (Unwanted.undef rfl rfl) rfl rfl ?_
        refine T.pass (Unwanted.undef rfl rfl) rfl rfl ?_
        refine T.pass (Unwanted.guard rfl rfl rfl) rfl rfl ?_
        refine T.pass (Unwanted.guard rfl rfl rfl) rfl rfl ?_
        refine T.pass (Unwanted.undef rfl rfl) rfl rfl ?_
        refine T.pass (Unwanted.undef rfl rfl) rfl rfl ?_
        refine T.pass (Unwanted.undef rfl rfl) rfl rfl ?_
        refine T.pass (Unwanted.undef rfl rfl) rfl rfl ?_
        refine T.pass (Unwanted.undef rfl rfl) rfl rfl ?_
        refine T.pass (Unwanted.undef rfl rfl) rfl rfl ?_
        refine T.pass (Unwanted.undef rfl rfl) rfl rfl ?_
        refine T.pass (Unwanted.guard rfl rfl rfl) rfl rfl ?_
        refine T.pv (PV.pickF rfl rfl rfl) Wanted.none rfl rfl ?_
        refine T.opsNil ?_
        refine T.condF rfl rfl ?_
        refine T.skip ?_
        refine T.blkEnd ?_
        refine T.region ?_
        refine T.pv (PV.add rfl rfl (by omega)) Wanted.none rfl rfl ?_
        refine T.pv (PV.move rfl) Wanted.none rfl rfl ?_
        refine T.opsNil ?_
        rw [← htk]
        exact T.next (i + 1) (by omega) (by omega) (by repeat (first | exact trivial | refine And.intro rfl ?_)) (by repeat (first | exact List.Sublist.slnil | exact List.nil_sublist _ | exact List.Sublist.refl _ | exact List.sublist_append_left _ [] | apply List.Sublist.cons_cons | apply List.Sublist.cons | refine List.Sublist.append_left ?_ _ | refine List.sublist_append_of_sublist_right ?_)) rfl
      · have hne : t ≠ s := by
          rintro rfl
          rcases Nat.lt_or_ge i j with h | h
          · exact ltC_sto.irr _ (asc_at hs hx ht h)
          · exact ltC_sto.irr _ (asc_at hs ht hx (by omega))
        have hokr : okR k s t = !(badR k s t) := by simp [okR, hne]
        have hc1 := contains_fn s t H
        have hc2 := contains_fn t s H
        unfold spV at hc1 hc2
        rcases (by omega : k = 1 ∨ k = 2 ∨ (k ≠ 1 ∧ k ≠ 2)) with rfl | rfl | ⟨hk1, hk2⟩
        · have hbad : badR 1 s t = conS s t := by simp [badR]
          by_cases hc : s.1 ≤ t.1 ∧ t.2 ≤ s.2
          · have : okR 1 s t = false := by rw [hokr, hbad]; simp [conS, hc]
            rw [this, Bool.and_false] at htk
            rw [decide_eq_true hc] at hc1
            refine T.seq ?_
            refine T.region ?_
            refine T.pv (PV.lss rfl rfl) Wanted.none rfl rfl ?_
            refine T.opsNil ?_
            refine T.seq ?_
            refine T.condT rfl (decide_eq_true (by omega)) ?_
            refine T.skip ?_
            refine T.seq ?_
            refine T.block ?_
            refine T.seq ?_
            refine T.region ?_
            refine T.pv (PV.move rfl) Wanted.none rfl rfl ?_
            refine T.pv (PV.indexAddr rfl rfl (by omega)) Wanted.none rfl rfl ?_
            refine T.pv (PV.loadSubAll rfl (by assumption) (by exact rfl)) Wanted.none rfl rfl ?_
            (refine T.alloc Wanted.none rfl ?_; intro b10)
            refine T.pv (PV.assign rfl) Wanted.none rfl rfl ?_
            refine T.storeA Wanted.none rfl rfl (by repeat (first | exact trivial | refine And.intro rfl ?_)) (by exact rfl) (by repeat (first | exact Upd.head | apply Upd.tail | apply Upd.app)) (by repeat (first | exact Splice.nil | apply Splice.cons | apply Splice.skip)) ?_
            refine T.opsNil ?_
            refine T.seq ?_
            refine T.region ?_
            refine T.pv (PV.move rfl) Wanted.none rfl rfl ?_
            refine T.pv (PV.move rfl) Wanted.none rfl rfl ?_
            refine T.pv (PV.neq rfl rfl) Wanted.none rfl rfl ?_
            refine T.pv (PV.move rfl) Wanted.none rfl rfl ?_
            refine T.setT (d := 32) rfl (by omega) ?_
            refine T.pv (PV.move rfl) (Wanted.guard rfl rfl rfl) rfl rfl ?_
            refine T.pv (PV.eql rfl rfl) (Wanted.guard rfl rfl rfl) rfl rfl ?_
            refine T.pv (PV.move rfl) (Wanted.guard rfl rfl rfl) rfl rfl ?_
            refine T.pv (PV.loadAll rfl (by first | exact .fro (by assumption) | exact .own (by repeat (first | exact List.Mem.head _ | apply List.Mem.tail | apply List.mem_append_right))) (by exact rfl)) (Wanted.guard rfl rfl rfl) rfl rfl ?_
            refine T.pv (PV.loadAll rfl (by first | exact .fro (by assumption) | exact .own (by repeat (first | exact List.Mem.head _ | apply List.Mem.tail | apply List.mem_append_right))) (by exact rfl)) (Wanted.guard rfl rfl rfl) rfl rfl ?_
            refine T.callV (Wanted.guard rfl rfl rfl) rfl rfl (hc1) ?_
            refine T.pv (PV.pickT rfl rfl rfl) (Wanted.guard rfl rfl rfl) rfl rfl ?_
            refine T.pv (PV.move rfl) (Wanted.guard rfl rfl rfl) rfl rfl ?_
            refine T.pass (Unwanted.guard rfl rfl rfl) rfl rfl ?_
            refine T.pass (Unwanted.guard rfl rfl rfl) rfl rfl ?_
            refine T.pass (Unwanted.guard rfl rfl rfl) rfl rfl ?_
            refine T.pass (Unwanted.undef rfl rfl) rfl rfl ?_
            refine T.pass (Unwanted.undef rfl rfl) rfl rfl ?_
            refine T.pass (Unwanted.undef rfl rfl) rfl rfl ?_
            refine T.pass (Unwanted.guard rfl rfl rfl) rfl rfl ?_
            refine T.pv (PV.pickT rfl rfl rfl) (Wanted.guard rfl rfl rfl) rfl rfl ?_
            refine T.pv (PV.pickT rfl rfl rfl) Wanted.none rfl rfl ?_
            refine T.opsNil ?_
            refine T.condT rfl rfl ?_
            refine T.region ?_
            refine T.pv (PV.assign rfl) Wanted.none rfl rfl ?_
            refine T.opsNil ?_
            refine T.blkEnd ?_
            refine T.region ?_
            refine T.pv (PV.add rfl rfl (by omega)) Wanted.none rfl rfl ?_
            refine T.pv (PV.move rfl) Wanted.none rfl rfl ?_
            refine T.opsNil ?_
            rw [← htk]
            exact T.next (j + 1) (by omega) (by omega) (by repeat (first | exact trivial | refine And.intro rfl ?_)) (by repeat (first | exact List.Sublist.slnil | exact List.nil_sublist _ | exact List.Sublist.refl _ | exact List.sublist_append_left _ [] | apply List.Sublist.cons_cons | apply List.Sublist.cons | refine List.Sublist.append_left ?_ _ | refine List.sublist_append_of_sublist_right ?_)) rfl
          · have : okR 1 s t = true := by rw [hokr, hbad]; unfold conS; rw [decide_eq_false hc]; rfl
            rw [this, Bool.and_true] at htk
            rw [decide_eq_false hc] at hc1
            refine T.seq ?_
            refine T.region ?_
            refine T.pv (PV.lss rfl rfl) Wanted.none rfl rfl ?_
            refine T.opsNil ?_
            refine T.seq ?_
            refine T.condT rfl (decide_eq_true (by omega)) ?_
            refine T.skip ?_
            refine T.seq ?_
            refine T.block ?_
            refine T.seq ?_
            refine T.region ?_
            refine T.pv (PV.move rfl) Wanted.none rfl rfl ?_
            refine T.pv (PV.indexAddr rfl rfl (by omega)) Wanted.none rfl rfl ?_
            refine T.pv (PV.loadSubAll rfl (by assumption) (by exact rfl)) Wanted.none rfl rfl ?_
            (refine T.alloc Wanted.none rfl ?_; intro b10)
            refine T.pv (PV.assign rfl) Wanted.none rfl rfl ?_
            refine T.storeA Wanted.none rfl rfl (by repeat (first | exact trivial | refine And.intro rfl ?_)) (by exact rfl) (by repeat (first | exact Upd.head | apply Upd.tail | apply Upd.app)) (by repeat (first | exact Splice.nil | apply Splice.cons | apply Splice.skip)) ?_
            refine T.opsNil ?_
            refine T.seq ?_
            refine T.region ?_
            refine T.pv (PV.move rfl) Wanted.none rfl rfl ?_
            refine T.pv (PV.move rfl) Wanted.none rfl rfl ?_
            refine T.pv (PV.neq rfl rfl) Wanted.none rfl rfl ?_
            refine T.pv (PV.move rfl) Wanted.none rfl rfl ?_
            refine T.setT (d := 32) rfl (by omega) ?_
            refine T.pv (PV.move rfl) (Wanted.guard rfl rfl rfl) rfl rfl ?_
            refine T.pv (PV.eql rfl rfl) (Wanted.guard rfl rfl rfl) rfl rfl ?_
            refine T.pv (PV.move rfl) (Wanted.guard rfl rfl rfl) rfl rfl ?_
            refine T.pv (PV.loadAll rfl (by first | exact .fro (by assumption) | exact .own (by repeat (first | exact List.Mem.head _ | apply List.Mem.tail | apply List.mem_append_right))) (by exact rfl)) (Wanted.guard rfl rfl rfl) rfl rfl ?_
            refine T.pv (PV.loadAll rfl (by first | exact .fro (by assumption) | exact .own (by repeat (first | exact List.Mem.head _ | apply List.Mem.tail | apply List.mem_append_right))) (by exact rfl)) (Wanted.guard rfl rfl rfl) rfl rfl ?_
            refine T.callV (Wanted.guard rfl rfl rfl) rfl rfl (hc1) ?_
            refine T.pv (PV.pickT rfl rfl rfl) (Wanted.guard rfl rfl rfl) rfl rfl ?_
            refine T.pv (PV.move rfl) (Wanted.guard rfl rfl rfl) rfl rfl ?_
            refine T.pv (PV.move rfl) (Wanted.guard rfl rfl rfl) rfl rfl ?_
            refine T.pv (PV.eql rfl rfl) (Wanted.guard rfl rfl rfl) rfl rfl ?_
            refine T.pv (PV.move rfl) (Wanted.guard rfl rfl rfl) rfl rfl ?_
            refine T.pass (Unwanted.guard rfl rfl rfl) rfl rfl ?_
            refine T.pass (Unwanted.guard rfl rfl rfl) rfl rfl ?_
            refine T.pass (Unwanted.guard rfl rfl rfl) rfl rfl ?_
            refine T.pv (PV.pickF rfl rfl rfl) (Wanted.guard rfl rfl rfl) rfl rfl ?_
            refine T.pv (PV.pickF rfl rfl rfl) (Wanted.guard rfl rfl rfl) rfl rfl ?_
            refine T.pv (PV.pickT rfl rfl rfl) Wanted.none rfl rfl ?_
            refine T.opsNil ?_
            refine T.condF rfl rfl ?_
            refine T.skip ?_
            refine T.blkEnd ?_
            refine T.region ?_
            refine T.pv (PV.add rfl rfl (by omega)) Wanted.none rfl rfl ?_
            refine T.pv (PV.move rfl) Wanted.none rfl rfl ?_
            refine T.opsNil ?_
            rw [← htk]
            exact T.next (j + 1) (by omega) (by omega) (by repeat (first | exact trivial | refine And.intro rfl ?_)) (by repeat (first | exact List.Sublist.slnil | exact List.nil_sublist _ | exact List.Sublist.refl _ | exact List.sublist_append_left _ [] | apply List.Sublist.cons_cons | apply List.Sublist.cons | refine List.Sublist.append_left ?_ _ | refine List.sublist_append_of_sublist_right ?_)) rfl
        · have hbad : badR 2 s t = conS t s := by simp [badR]
          by_cases hc : t.1 ≤ s.1 ∧ s.2 ≤ t.2
          · have : okR 2 s t = false := by rw [hokr, hbad]; simp [conS, hc]
            rw [this, Bool.and_false] at htk
            rw [decide_eq_true hc] at hc2
            refine T.seq ?_
            refine T.region ?_
            refine T.pv (PV.lss rfl rfl) Wanted.none rfl rfl ?_
            refine T.opsNil ?_
            refine T.seq ?_
            refine T.condT rfl (decide_eq_true (by omega)) ?_
            refine T.skip ?_
            refine T.seq ?_
            refine T.block ?_
            refine T.seq ?_
            refine T.region ?_
            refine T.pv (PV.move rfl) Wanted.none rfl rfl ?_
            refine T.pv (PV.indexAddr rfl rfl (by omega)) Wanted.none rfl rfl ?_
            refine T.pv (PV.loadSubAll rfl (by assumption) (by exact rfl)) Wanted.none rfl rfl ?_
            (refine T.alloc Wanted.none rfl ?_; intro b10)
            refine T.pv (PV.assign rfl) Wanted.none rfl rfl ?_
            refine T.storeA Wanted.none rfl rfl (by repeat (first | exact trivial | refine And.intro rfl ?_)) (by exact rfl) (by repeat (first | exact Upd.head | apply Upd.tail | apply Upd.app)) (by repeat (first | exact Splice.nil | apply Splice.cons | apply Splice.skip)) ?_
            refine T.opsNil ?_
            refine T.seq ?_
            refine T.region ?_
            refine T.pv (PV.move rfl) Wanted.none rfl rfl ?_
            refine T.pv (PV.move rfl) Wanted.none rfl rfl ?_
            refine T.pv (PV.neq rfl rfl) Wanted.none rfl rfl ?_
            refine T.pv (PV.move rfl) Wanted.none rfl rfl ?_
            refine T.setT (d := 32) rfl (by omega) ?_
            refine T.pv (PV.move rfl) (Wanted.guard rfl rfl rfl) rfl rfl ?_
            refine T.pv (PV.eql rfl rfl) (Wanted.guard rfl rfl rfl) rfl rfl ?_
            refine T.pv (PV.move rfl) (Wanted.guard rfl rfl rfl) rfl rfl ?_
            refine T.pass (Unwanted.guard rfl rfl rfl) rfl rfl ?_
            refine T.pass (Unwanted.guard rfl rfl rfl) rfl rfl ?_
            refine T.pass (Unwanted.guard rfl rfl rfl) rfl rfl ?_
            refine T.pv (PV.pickF rfl rfl rfl) (Wanted.guard rfl rfl rfl) rfl rfl ?_
            refine T.pv (PV.move rfl) (Wanted.guard rfl rfl rfl) rfl rfl ?_
            refine T.pv (PV.move rfl) (Wanted.guard rfl rfl rfl) rfl rfl ?_
            refine T.pv (PV.eql rfl rfl) (Wanted.guard rfl rfl rfl) rfl rfl ?_
            refine T.pv (PV.move rfl) (Wanted.guard rfl rfl rfl) rfl rfl ?_
            refine T.pv (PV.loadAll rfl (by first | exact .fro (by assumption) | exact .own (by repeat (first | exact List.Mem.head _ | apply List.Mem.tail | apply List.mem_append_right))) (by exact rfl)) (Wanted.guard rfl rfl rfl) rfl rfl ?_
            refine T.pv (PV.loadAll rfl (by first | exact .fro (by assumption) | exact .own (by repeat (first | exact List.Mem.head _ | apply List.Mem.tail | apply List.mem_append_right))) (by exact rfl)) (Wanted.guard rfl rfl rfl) rfl rfl ?_
            refine T.callV (Wanted.guard rfl rfl rfl) rfl rfl (hc2) ?_
            refine T.pv (PV.pickT rfl rfl rfl) (Wanted.guard rfl rfl rfl) rfl rfl ?_
            refine T.pv (PV.pickF rfl rfl rfl) (Wanted.guard rfl rfl rfl) rfl rfl ?_
            refine T.pv (PV.pickT rfl rfl rfl) Wanted.none rfl rfl ?_
            refine T.opsNil ?_
            refine T.condT rfl rfl ?_
            refine T.region ?_
            refine T.pv (PV.assign rfl) Wanted.none rfl rfl ?_
            refine T.opsNil ?_
            refine T.blkEnd ?_
            refine T.region ?_
            refine T.pv (PV.add rfl rfl (by omega)) Wanted.none rfl rfl ?_
            refine T.pv (PV.move rfl) Wanted.none rfl rfl ?_
            refine T.opsNil ?_
            rw [← htk]
            exact T.next (j + 1) (by omega) (by omega) (by repeat (first | exact trivial | refine And.intro rfl ?_)) (by repeat (first | exact List.Sublist.slnil | exact List.nil_sublist _ | exact List.Sublist.refl _ | exact List.sublist_append_left _ [] | apply List.Sublist.cons_cons | apply List.Sublist.cons | refine List.Sublist.append_left ?_ _ | refine List.sublist_append_of_sublist_right ?_)) rfl
          · have : okR 2 s t = true := by rw [hokr, hbad]; unfold conS; rw [decide_eq_false hc]; rfl
            rw [this, Bool.and_true] at htk
            rw [decide_eq_false hc] at hc2
            refine T.seq ?_
            refine T.region ?_
            refine T.pv (PV.lss rfl rfl) Wanted.none rfl rfl ?_
            refine T.opsNil ?_
            refine T.seq ?_
            refine T.condT rfl (decide_eq_true (by omega)) ?_
            refine T.skip ?_
            refine T.seq ?_
            refine T.block ?_
            refine T.seq ?_
            refine T.region ?_
            refine T.pv (PV.move rfl) Wanted.none rfl rfl ?_
            refine T.pv (PV.indexAddr rfl rfl (by omega)) Wanted.none rfl rfl ?_
            refine T.pv (PV.loadSubAll rfl (by assumption) (by exact rfl)) Wanted.none rfl rfl ?_
            (refine T.alloc Wanted.none rfl ?_; intro b10)
            refine T.pv (PV.assign rfl) Wanted.none rfl rfl ?_
            refine T.storeA Wanted.none rfl rfl (by repeat (first | exact trivial | refine And.intro rfl ?_)) (by exact rfl) (by repeat (first | exact Upd.head | apply Upd.tail | apply Upd.app)) (by repeat (first | exact Splice.nil | apply Splice.cons | apply Splice.skip)) ?_
            refine T.opsNil ?_
            refine T.seq ?_
            refine T.region ?_
            refine T.pv (PV.move rfl) Wanted.none rfl rfl ?_
            refine T.pv (PV.move rfl) Wanted.none rfl rfl ?_
            refine T.pv (PV.neq rfl rfl) Wanted.none rfl rfl ?_
            refine T.pv (PV.move rfl) Wanted.none rfl rfl ?_
            refine T.setT (d := 32) rfl (by omega) ?_
            refine T.pv (PV.move rfl) (Wanted.guard rfl rfl rfl) rfl rfl ?_
            refine T.pv (PV.eql rfl rfl) (Wanted.guard rfl rfl rfl) rfl rfl ?_
            refine T.pv (PV.move rfl) (Wanted.guard rfl rfl rfl) rfl rfl ?_
            refine T.pass (Unwanted.guard rfl rfl rfl) rfl rfl ?_
            refine T.pass (Unwanted.guard rfl rfl rfl) rfl rfl ?_
            refine T.pass (Unwanted.guard rfl rfl rfl) rfl rfl ?_
            refine T.pv (PV.pickF rfl rfl rfl) (Wanted.guard rfl rfl rfl) rfl rfl ?_
            refine T.pv (PV.move rfl) (Wanted.guard rfl rfl rfl) rfl rfl ?_
            refine T.pv (PV.move rfl) (Wanted.guard rfl rfl rfl) rfl rfl ?_
            refine T.pv (PV.eql rfl rfl) (Wanted.guard rfl rfl rfl) rfl rfl ?_
            refine T.pv (PV.move rfl) (Wanted.guard rfl rfl rfl) rfl rfl ?_
            refine T.pv (PV.loadAll rfl (by first | exact .fro (by assumption) | exact .own (by repeat (first | exact List.Mem.head _ | apply List.Mem.tail | apply List.mem_append_right))) (by exact rfl)) (Wanted.guard rfl rfl rfl) rfl rfl ?_
            refine T.pv (PV.loadAll rfl (by first | exact .fro (by assumption) | exact .own (by repeat (first | exact List.Mem.head _ | apply List.Mem.tail | apply List.mem_append_right))) (by exact rfl)) (Wanted.guard rfl rfl rfl) rfl rfl ?_
            refine T.callV (Wanted.guard rfl rfl rfl) rfl rfl (hc2) ?_
            refine T.pv (PV.pickT rfl rfl rfl) (Wanted.guard rfl rfl rfl) rfl rfl ?_
            refine T.pv (PV.pickF rfl rfl rfl) (Wanted.guard rfl rfl rfl) rfl rfl ?_
            refine T.pv (PV.pickT rfl rfl rfl) Wanted.none rfl rfl ?_
            refine T.opsNil ?_
            refine T.condF rfl rfl ?_
            refine T.skip ?_
            refine T.blkEnd ?_
            refine T.region ?_
            refine T.pv (PV.add rfl rfl (by omega)) Wanted.none rfl rfl ?_
            refine T.pv (PV.move rfl) Wanted.none rfl rfl ?_
            refine T.opsNil ?_
            rw [← htk]
            exact T.next (j + 1) (by omega) (by omega) (by repeat (first | exact trivial | refine And.intro rfl ?_)) (by repeat (first | exact List.Sublist.slnil | exact List.nil_sublist _ | exact List.Sublist.refl _ | exact List.sublist_append_left _ [] | apply List.Sublist.cons_cons | apply List.Sublist.cons | refine List.Sublist.append_left ?_ _ | refine List.sublist_append_of_sublist_right ?_)) rfl
        · have : okR k s t = true := by rw [hokr]; simp [badR, hk1, hk2]
          rw [this, Bool.and_true] at htk
          refine T.seq ?_
          refine T.region ?_
          refine T.pv (PV.lss rfl rfl) Wanted.none rfl rfl ?_
          refine T.opsNil ?_
          refine T.seq ?_
          refine T.condT rfl (decide_eq_true (by omega)) ?_
          refine T.skip ?_
          refine T.seq ?_
          refine T.block ?_
          refine T.seq ?_
          refine T.region ?_
          refine T.pv (PV.move rfl) Wanted.none rfl rfl ?_
          refine T.pv (PV.indexAddr rfl rfl (by omega)) Wanted.none rfl rfl ?_
          refine T.pv (PV.loadSubAll rfl (by assumption) (by exact rfl)) Wanted.none rfl rfl ?_
          (refine T.alloc Wanted.none rfl ?_; intro b10)
          refine T.pv (PV.assign rfl) Wanted.none rfl rfl ?_
          refine T.storeA Wanted.none rfl rfl (by repeat (first | exact trivial | refine And.intro rfl ?_)) (by exact rfl) (by repeat (first | exact Upd.head | apply Upd.tail | apply Upd.app)) (by repeat (first | exact Splice.nil | apply Splice.cons | apply Splice.skip)) ?_
          refine T.opsNil ?_
          refine T.seq ?_
          refine T.region ?_
          refine T.pv (PV.move rfl) Wanted.none rfl rfl ?_
          refine T.pv (PV.move rfl) Wanted.none rfl rfl ?_
          refine T.pv (PV.neq rfl rfl) Wanted.none rfl rfl ?_
          refine T.pv (PV.move rfl) Wanted.none rfl rfl ?_
          refine T.setT (d := 32) rfl (by omega) ?_
          refine T.pv (PV.move rfl) (Wanted.guard rfl rfl rfl) rfl rfl ?_
          refine T.pv (PV.eql rfl rfl) (Wanted.guard rfl rfl rfl) rfl rfl ?_
          refine T.pv (PV.move rfl) (Wanted.guard rfl rfl rfl) rfl rfl ?_
          refine T.setF (d := 35) rfl (by omega) ?_
          refine T.pass (Unwanted.guard rfl rfl rfl) rfl rfl ?_
          refine T.pass (Unwanted.guard rfl rfl rfl) rfl rfl ?_
          refine T.pass (Unwanted.guard rfl rfl rfl) rfl rfl ?_
          refine T.pv (PV.pickF rfl rfl rfl) (Wanted.guard rfl rfl rfl) rfl rfl ?_
          refine T.pv (PV.move rfl) (Wanted.guard rfl rfl rfl) rfl rfl ?_
          refine T.pv (PV.move rfl) (Wanted.guard rfl rfl rfl) rfl rfl ?_
          refine T.pv (PV.eql rfl rfl) (Wanted.guard rfl rfl rfl) rfl rfl ?_
          refine T.pv (PV.move rfl) (Wanted.guard rfl rfl rfl) rfl rfl ?_
          refine T.setF (d := 43) rfl (by omega) ?_
          refine T.pass (Unwanted.guard rfl rfl rfl) rfl rfl ?_
          refine T.pass (Unwanted.guard rfl rfl rfl) rfl rfl ?_
          refine T.pass (Unwanted.guard rfl rfl rfl) rfl rfl ?_
          refine T.pv (PV.pickF rfl rfl rfl) (Wanted.guard rfl rfl rfl) rfl rfl ?_
          refine T.pv (PV.pickF rfl rfl rfl) (Wanted.guard rfl rfl rfl) rfl rfl ?_
          refine T.pv (PV.pickT rfl rfl rfl) Wanted.none rfl rfl ?_
          refine T.opsNil ?_
          refine T.condF rfl rfl ?_
          refine T.skip ?_
          refine T.blkEnd ?_
          refine T.region ?_
          refine T.pv (PV.add rfl rfl (by omega)) Wanted.none rfl rfl ?_
          refine T.pv (PV.move rfl) Wanted.none rfl rfl ?_
          refine T.opsNil ?_
          rw [← htk]
          exact T.next (j + 1) (by omega) (by omega) (by repeat (first | exact trivial | refine And.intro rfl ?_)) (by repeat (first | exact List.Sublist.slnil | exact List.nil_sublist _ | exact List.Sublist.refl _ | exact List.sublist_append_left _ [] | apply List.Sublist.cons_cons | apply List.Sublist.cons | refine List.Sublist.append_left ?_ _ | refine List.sublist_append_of_sublist_right ?_)) rfl
    · rw [List.take_of_length_le (by omega), ← keepR_all]
      have hfl := filter_take_snoc (k := keepR k l) hx
      cases hkeep : keepR k l s with
      | false =>
        rw [hkeep, if_neg (by simp)] at hfl
        refine T.seq ?_
        refine T.region ?_
        refine T.pv (PV.lss rfl rfl) Wanted.none rfl rfl ?_
        refine T.opsNil ?_
        refine T.seq ?_
        refine T.condF rfl (decide_eq_false (by omega)) ?_
        refine T.exit rfl ?_
        refine T.seq ?_
        refine T.region ?_
        refine T.pv (PV.move rfl) Wanted.none rfl rfl ?_
        refine T.pv (PV.move rfl) Wanted.none rfl rfl ?_
        refine T.pass (Unwanted.guard rfl rfl rfl) rfl rfl ?_
        refine T.pass (Unwanted.guard rfl rfl rfl) rfl rfl ?_
        refine T.pv (PV.pickF rfl rfl rfl) Wanted.none rfl rfl ?_
        refine T.opsNil ?_
        refine T.condF rfl rfl ?_
        refine T.skip ?_
        refine T.blkEnd ?_
        refine T.region ?_
        refine T.pv (PV.add rfl rfl (by omega)) Wanted.none rfl rfl ?_
        refine T.pv (PV.move rfl) Wanted.none rfl rfl ?_
        refine T.opsNil ?_
        exact T.next ⟨i + 1, u, lv⟩ ⟨by dsimp only; omega, by dsimp only; rw [hfl]; exact j3⟩ (by dsimp only; omega) (by repeat (first | exact trivial | refine And.intro rfl ?_)) (by repeat (first | exact List.Sublist.slnil | exact List.nil_sublist _ | exact List.Sublist.refl _ | exact List.sublist_append_left _ [] | apply List.Sublist.cons_cons | apply List.Sublist.cons | refine List.Sublist.append_left ?_ _ | refine List.sublist_append_of_sublist_right ?_)) rfl
      | true =>
        rw [hkeep, if_pos rfl] at hfl
        by_cases hk : k = 3
        · rw [if_pos hk] at j3
          refine T.seq ?_
          refine T.region ?_
          refine T.pv (PV.lss rfl rfl) Wanted.none rfl rfl ?_
          refine T.opsNil ?_
          refine T.seq ?_
          refine T.condF rfl (decide_eq_false (by omega)) ?_
          refine T.exit rfl ?_
          refine T.seq ?_
          refine T.region ?_
          refine T.pv (PV.move rfl) Wanted.none rfl rfl ?_
          refine T.pv (PV.move rfl) Wanted.none rfl rfl ?_
          refine T.pv (PV.move rfl) (Wanted.guard rfl rfl rfl) rfl rfl ?_
          refine T.pv (PV.neq rfl rfl) (Wanted.guard rfl rfl rfl) rfl rfl ?_
          refine T.pv (PV.pickT rfl rfl rfl) Wanted.none rfl rfl ?_
          refine T.opsNil ?_
          refine T.condF rfl (decide_eq_false (by omega)) ?_
          refine T.skip ?_
          refine T.blkEnd ?_
          refine T.region ?_
          refine T.pv (PV.add rfl rfl (by omega)) Wanted.none rfl rfl ?_
          refine T.pv (PV.move rfl) Wanted.none rfl rfl ?_
          refine T.opsNil ?_
          exact T.next ⟨i + 1, u, lv⟩ ⟨by dsimp only; omega, by dsimp only; rw [if_pos hk]; exact j3⟩ (by dsimp only; omega) (by repeat (first | exact trivial | refine And.intro rfl ?_)) (by repeat (first | exact List.Sublist.slnil | exact List.nil_sublist _ | exact List.Sublist.refl _ | exact List.sublist_append_left _ [] | apply List.Sublist.cons_cons | apply List.Sublist.cons | refine List.Sublist.append_left ?_ _ | refine List.sublist_append_of_sublist_right ?_)) rfl
        · rw [if_neg hk] at j3
          refine T.seq ?_
          refine T.region ?_
          refine T.pv (PV.lss rfl rfl) Wanted.none rfl rfl ?_
          refine T.opsNil ?_
          refine T.seq ?_
          refine T.condF rfl (decide_eq_false (by omega)) ?_
          refine T.exit rfl ?_
          refine T.seq ?_
          refine T.region ?_
          refine T.pv (PV.move rfl) Wanted.none rfl rfl ?_
          refine T.pv (PV.move rfl) Wanted.none rfl rfl ?_
          refine T.pv (PV.move rfl) (Wanted.guard rfl rfl rfl) rfl rfl ?_
          refine T.pv (PV.neq rfl rfl) (Wanted.guard rfl rfl rfl) rfl rfl ?_
          refine T.pv (PV.pickT rfl rfl rfl) Wanted.none rfl rfl ?_
          refine T.opsNil ?_
          refine T.condT rfl (decide_eq_true (by omega)) ?_
          refine T.region ?_
          refine T.pv (PV.move rfl) Wanted.none rfl rfl ?_
          refine T.pv (PV.loadAll rfl (by first | exact .fro (by assumption) | exact .own (by repeat (first | exact List.Mem.head _ | apply List.Mem.tail | apply List.mem_append_right))) (by exact rfl)) Wanted.none rfl rfl ?_
          (refine T.buildSlice Wanted.none rfl rfl (by repeat (first | exact FillAll.nil | (apply FillAll.cons; (first | exact CellsR.one rfl | exact CellsR.agg); exact rfl))) (by exact rfl) (by exact rfl) ?_; intro b58)
          refine T.appendE [_, _] (lv := lv) Wanted.none rfl rfl rfl j3 (Src.cells (m := 1) (ys := encS s) (.own (by repeat (first | exact List.Mem.head _ | apply List.Mem.tail | apply List.mem_append_right))) rfl rfl) (one_encS s) (by omega) ?_
          intro v2 lv2 hv2 _
          refine T.pv (PV.assign rfl) Wanted.none rfl rfl ?_
          refine T.opsNil ?_
          refine T.blkEnd ?_
          refine T.region ?_
          refine T.pv (PV.add rfl rfl (by omega)) Wanted.none rfl rfl ?_
          refine T.pv (PV.move rfl) Wanted.none rfl rfl ?_
          refine T.opsNil ?_
          exact T.next ⟨i + 1, v2, lv2⟩ ⟨by dsimp only; omega, by dsimp only; rw [if_neg hk, hfl]; exact SpV.snoc hv2⟩ (by dsimp only; omega) (by repeat (first | exact trivial | refine And.intro rfl ?_)) (by repeat (first | exact List.Sublist.slnil | exact List.nil_sublist _ | exact List.Sublist.refl _ | exact List.sublist_append_left _ [] | apply List.Sublist.cons_cons | apply List.Sublist.cons | refine List.Sublist.append_left ?_ _ | refine List.sublist_append_of_sublist_right ?_)) rfl
  · rw [List.take_of_length_le (by omega)] at j3
    by_cases hk : k = 3
    · subst hk
      rw [if_pos rfl] at j3
      rw [chosen3]
      refine T.seq ?_
      refine T.region ?_
      refine T.pv (PV.lss rfl rfl) Wanted.none rfl rfl ?_
      refine T.opsNil ?_
      refine T.seq ?_
      refine T.condF rfl (decide_eq_false (by omega)) ?_
      refine T.exit rfl ?_
      refine T.seq ?_
      refine T.seq ?_
      refine T.region ?_
      refine T.pv (PV.move rfl) Wanted.none rfl rfl ?_
      refine T.pv (PV.eql rfl rfl) Wanted.none rfl rfl ?_
      refine T.opsNil ?_
      refine T.condT rfl rfl ?_
      refine T.seq ?_
      refine T.region ?_
      refine T.pv (PV.assign rfl) Wanted.none rfl rfl ?_
      refine T.opsNil ?_
      refine T.block ?_
      refine T.loop (γ := OG) (fun g => 0 ≤ g.z ∧ g.o ++ tradF g.z l = tradF 0 l ∧ SpV g.v g.lv g.o)
        (fun g => [(11, .int .i64 g.z), (5, g.v), (1, .slice ad l.length cap)]) (fun g => g.lv) (fun _ => H) (fun g => (tradF g.z l).length) ⟨0, 0, [], u, lv⟩ ⟨Int.le_refl _, rfl, j3⟩ (by repeat (first | exact trivial | refine And.intro rfl ?_)) (by repeat (first | exact List.Sublist.slnil | exact List.nil_sublist _ | exact List.Sublist.refl _ | exact List.sublist_append_left _ [] | apply List.Sublist.cons_cons | apply List.Sublist.cons | refine List.Sublist.append_left ?_ _ | refine List.sublist_append_of_sublist_right ?_)) rfl ?_
      rintro ⟨_, z, o, u2, lv2⟩ ⟨z1, z2, z3⟩
      dsimp only at z1 z2 z3 ⊢
      have hlen : o.length ≤ l.length := by
        have := (tradF_sub 0 l).length_le
        rw [← z2, List.length_append] at this; omega
      refine T.block ?_
      refine T.seq ?_
      refine T.region ?_
      refine T.pv (PV.build rfl (by repeat (first | exact FillR.nil | (apply FillR.cons rfl; (first | exact CellsR.one rfl | exact CellsR.agg); rfl; repeat (first | exact Splice.nil | apply Splice.cons | apply Splice.skip))))) Wanted.none rfl rfl ?_
      (refine T.alloc Wanted.none rfl ?_; intro b12)
      refine T.storeA Wanted.none rfl rfl (by repeat (first | exact trivial | refine And.intro rfl ?_)) (by exact rfl) (by repeat (first | exact Upd.head | apply Upd.tail | apply Upd.app)) (by repeat (first | exact Splice.nil | apply Splice.cons | apply Splice.skip)) ?_
      refine T.opsNil ?_
      refine T.seq ?_
      refine T.seq ?_
      refine T.region ?_
      refine T.pv (PV.move rfl) Wanted.none rfl rfl ?_
      refine T.pv (PV.lenSl rfl) Wanted.none rfl rfl ?_
      refine T.pv (PV.move rfl) Wanted.none rfl rfl ?_
      refine T.opsNil ?_
      refine T.block ?_
      refine T.loop (γ := Nat × Sp) (fun g => g.1 ≤ l.length ∧ g.2 = (l.take g.1).foldl (bstep z) (-1, 0))
        (fun g => [(66, .int .i64 (g.1 : Int)), (65, .int .i64 (l.length : Int)), (64, .slice ad l.length cap), (12, .pointer (some ⟨b12, 0, none⟩)), (11, .int .i64 z), (5, u2), (1, .slice ad l.length cap)])
        (fun g => (b12, .cells #[.int .i64 g.2.1, .int .i64 g.2.2] 40 (0, 0)) :: lv2) (fun _ => H) (fun g => l.length - g.1) (0, (-1, 0)) ⟨by simp, rfl⟩ (by repeat (first | exact trivial | refine And.intro rfl ?_)) (by repeat (first | exact List.Sublist.slnil | exact List.nil_sublist _ | exact List.Sublist.refl _ | exact List.sublist_append_left _ [] | apply List.Sublist.cons_cons | apply List.Sublist.cons | refine List.Sublist.append_left ?_ _ | refine List.sublist_append_of_sublist_right ?_)) rfl ?_
      rintro ⟨j, c⟩ ⟨g1, g2⟩
      dsimp only at g1 g2 ⊢
      by_cases hj : j < l.length
      · obtain ⟨s, hx⟩ : ∃ x, l[j]? = some x := ⟨_, List.getElem?_eq_getElem hj⟩
        obtain ⟨b, off, rfl, hsub⟩ := hv.span hx
        have hst : (l.take (j + 1)).foldl (bstep z) (-1, 0) = bstep z c s := by rw [List.take_add_one, hx, Option.toList_some, List.foldl_append, ← g2]; rfl
        refine T.seq ?_
        refine T.region ?_
        refine T.pv (PV.lss rfl rfl) Wanted.none rfl rfl ?_
        refine T.opsNil ?_
        refine T.seq ?_
        refine T.condT rfl (decide_eq_true (by omega)) ?_
        refine T.skip ?_
        refine T.seq ?_
        refine T.block ?_
        refine T.seq ?_
        refine T.region ?_
        refine T.pv (PV.indexAddr rfl rfl (by omega)) Wanted.none rfl rfl ?_
        refine T.pv (PV.loadSubAll rfl (by assumption) (by exact rfl)) Wanted.none rfl rfl ?_
        (refine T.alloc Wanted.none rfl ?_; intro b14)
        refine T.storeA Wanted.none rfl rfl (by repeat (first | exact trivial | refine And.intro rfl ?_)) (by exact rfl) (by repeat (first | exact Upd.head | apply Upd.tail | apply Upd.app)) (by repeat (first | exact Splice.nil | apply Splice.cons | apply Splice.skip)) ?_
        refine T.opsNil ?_
        obtain ⟨q, hq⟩ : ∃ q : Bool, q = decide (z ≤ s.1 ∧ (c.1 = -1 ∨ s.1 < c.1 ∨ (s.1 = c.1 ∧ c.2 < s.2))) := ⟨_, rfl⟩
        refine T.seq ?_
        refine T.cut1 [(99, .bool q), (14, .pointer (some ⟨b14, 0, none⟩)), (66, .int .i64 (j : Int)), (65, .int .i64 (l.length : Int)), (64, .slice (some ⟨b, off, none⟩) l.length cap), (12, .pointer (some ⟨b12, 0, none⟩)), (11, .int .i64 z), (5, u2), (1, .slice (some ⟨b, off, none⟩) l.length cap)]
          ((b14, .cells #[.int .i64 s.1, .int .i64 s.2] 40 (0, 0)) :: (b12, .cells #[.int .i64 c.1, .int .i64 c.2] 40 (0, 0)) :: lv2) ?_ fun K => ?_
        rotate_left
        · by_cases q1 : z ≤ s.1
          · by_cases q2 : c.1 = -1
            · have : q = true := by rw [hq]; exact decide_eq_true ⟨q1, .inl q2⟩
              subst this
              refine T.region ?_
              refine T.pv (PV.fieldAddr rfl) Wanted.none rfl rfl ?_
              refine T.pv (PV.load1 rfl (by first | exact .fro (by assumption) | exact .own (by repeat (first | exact List.Mem.head _ | apply List.Mem.tail | apply List.mem_append_right))) rfl) Wanted.none rfl rfl ?_
              refine T.pv (PV.move rfl) Wanted.none rfl rfl ?_
              refine T.pv (PV.geq rfl rfl) Wanted.none rfl rfl ?_
              refine T.pv (PV.move rfl) Wanted.none rfl rfl ?_
              refine T.setT (d := 74) rfl (by omega) ?_
              refine T.pv (PV.fieldAddr rfl) (Wanted.guard rfl rfl rfl) rfl rfl ?_
              refine T.pv (PV.load1 rfl (by first | exact .fro (by assumption) | exact .own (by repeat (first | exact List.Mem.head _ | apply List.Mem.tail | apply List.mem_append_right))) rfl) (Wanted.guard rfl rfl rfl) rfl rfl ?_
              refine T.pv (PV.eql rfl rfl) (Wanted.guard rfl rfl rfl) rfl rfl ?_
              refine T.pv (PV.move rfl) (Wanted.guard rfl rfl rfl) rfl rfl ?_
              refine T.setT (d := 78) rfl (by omega) ?_
              refine T.pass (Unwanted.guard rfl rfl rfl) rfl rfl ?_
              refine T.pass (Unwanted.guard rfl rfl rfl) rfl rfl ?_
              refine T.pass (Unwanted.guard rfl rfl rfl) rfl rfl ?_
              refine T.pass (Unwanted.guard rfl rfl rfl) rfl rfl ?_
              refine T.pass (Unwanted.guard rfl rfl rfl) rfl rfl ?_
              refine T.pv (PV.pickT rfl rfl rfl) (Wanted.guard rfl rfl rfl) rfl rfl ?_
              refine T.pv (PV.move rfl) (Wanted.guard rfl rfl rfl) rfl rfl ?_
              refine T.pass (Unwanted.guard rfl rfl rfl) rfl rfl ?_
              refine T.pass (Unwanted.guard rfl rfl rfl) rfl rfl ?_
              refine T.pass (Unwanted.guard rfl rfl rfl) rfl rfl ?_
              refine T.pass (Unwanted.guard rfl rfl rfl) rfl rfl ?_
              refine T.pass (Unwanted.guard rfl rfl rfl) rfl rfl ?_
              refine T.pass (Unwanted.guard rfl rfl rfl) rfl rfl ?_
              refine T.pass (Unwanted.undef rfl rfl) rfl rfl ?_
              refine T.pass (Unwanted.undef rfl rfl) rfl rfl ?_
              refine T.pass (Unwanted.undef rfl rfl) rfl rfl ?_
              refine T.pass (Unwanted.undef rfl rfl) rfl rfl ?_
              refine T.pass (Unwanted.undef rfl rfl) rfl rfl ?_
              refine T.pass (Unwanted.guard rfl rfl rfl) rfl rfl ?_
              refine T.pv (PV.pickT rfl rfl rfl) (Wanted.guard rfl rfl rfl) rfl rfl ?_
              refine T.pv (PV.pickT rfl rfl rfl) Wanted.none rfl rfl ?_
              refine T.opsNil ?_
              exact K _ _ (by repeat (first | exact trivial | refine And.intro rfl ?_)) (by repeat (first | exact List.Sublist.slnil | exact List.nil_sublist _ | exact List.Sublist.refl _ | exact List.sublist_append_left _ [] | apply List.Sublist.cons_cons | apply List.Sublist.cons | refine List.Sublist.append_left ?_ _ | refine List.sublist_append_of_sublist_right ?_))
            · by_cases q3 : s.1 < c.1
              · have : q = true := by rw [hq]; exact decide_eq_true ⟨q1, .inr (.inl q3)⟩
                subst this
                refine T.region ?_
                refine T.pv (PV.fieldAddr rfl) Wanted.none rfl rfl ?_
                refine T.pv (PV.load1 rfl (by first | exact .fro (by assumption) | exact .own (by repeat (first | exact List.Mem.head _ | apply List.Mem.tail | apply List.mem_append_right))) rfl) Wanted.none rfl rfl ?_
                refine T.pv (PV.move rfl) Wanted.none rfl rfl ?_
                refine T.pv (PV.geq rfl rfl) Wanted.none rfl rfl ?_
                refine T.pv (PV.move rfl) Wanted.none rfl rfl ?_
                refine T.setT (d := 74) rfl (by omega) ?_
                refine T.pv (PV.fieldAddr rfl) (Wanted.guard rfl rfl rfl) rfl rfl ?_
                refine T.pv (PV.load1 rfl (by first | exact .fro (by assumption) | exact .own (by repeat (first | exact List.Mem.head _ | apply List.Mem.tail | apply List.mem_append_right))) rfl) (Wanted.guard rfl rfl rfl) rfl rfl ?_
                refine T.pv (PV.eql rfl rfl) (Wanted.guard rfl rfl rfl) rfl rfl ?_
                refine T.pv (PV.move rfl) (Wanted.guard rfl rfl rfl) rfl rfl ?_
                refine T.setF (d := 78) rfl (by omega) ?_
                refine T.pv (PV.fieldAddr rfl) (Wanted.guard rfl rfl rfl) rfl rfl ?_
                refine T.pv (PV.load1 rfl (by first | exact .fro (by assumption) | exact .own (by repeat (first | exact List.Mem.head _ | apply List.Mem.tail | apply List.mem_append_right))) rfl) (Wanted.guard rfl rfl rfl) rfl rfl ?_
                refine T.pv (PV.fieldAddr rfl) (Wanted.guard rfl rfl rfl) rfl rfl ?_
                refine T.pv (PV.load1 rfl (by first | exact .fro (by assumption) | exact .own (by repeat (first | exact List.Mem.head _ | apply List.Mem.tail | apply List.mem_append_right))) rfl) (Wanted.guard rfl rfl rfl) rfl rfl ?_
                refine T.pv (PV.lss rfl rfl) (Wanted.guard rfl rfl rfl) rfl rfl ?_
                refine T.pv (PV.pickF rfl rfl rfl) (Wanted.guard rfl rfl rfl) rfl rfl ?_
                refine T.pv (PV.move rfl) (Wanted.guard rfl rfl rfl) rfl rfl ?_
                refine T.setT (d := 85) rfl (by omega) ?_
                refine T.pass (Unwanted.guard rfl rfl rfl) rfl rfl ?_
                refine T.pass (Unwanted.guard rfl rfl rfl) rfl rfl ?_
                refine T.pass (Unwanted.guard rfl rfl rfl) rfl rfl ?_
                refine T.pass (Unwanted.guard rfl rfl rfl) rfl rfl ?_
                refine T.pass (Unwanted.guard rfl rfl rfl) rfl rfl ?_
                refine T.pass (Unwanted.guard rfl rfl rfl) rfl rfl ?_
                refine T.pass (Unwanted.undef rfl rfl) rfl rfl ?_
                refine T.pass (Unwanted.undef rfl rfl) rfl rfl ?_
                refine T.pass (Unwanted.undef rfl rfl) rfl rfl ?_
                refine T.pass (Unwanted.undef rfl rfl) rfl rfl ?_
                refine T.pass (Unwanted.undef rfl rfl) rfl rfl ?_
                refine T.pass (Unwanted.guard rfl rfl rfl) rfl rfl ?_
                refine T.pv (PV.pickT rfl rfl rfl) (Wanted.guard rfl rfl rfl) rfl rfl ?_
                refine T.pv (PV.pickT rfl rfl rfl) Wanted.none rfl rfl ?_
                refine T.opsNil ?_
                exact K _ _ (by repeat (first | exact trivial | refine And.intro rfl ?_)) (by repeat (first | exact List.Sublist.slnil | exact List.nil_sublist _ | exact List.Sublist.refl _ | exact List.sublist_append_left _ [] | apply List.Sublist.cons_cons | apply List.Sublist.cons | refine List.Sublist.append_left ?_ _ | refine List.sublist_append_of_sublist_right ?_))
              · by_cases q4 : s.1 = c.1
                · have : q = decide (c.2 < s.2) := by rw [hq, decide_eq_decide]; omega
                  subst this
                  refine T.region ?_
                  refine T.pv (PV.fieldAddr rfl) Wanted.none rfl rfl ?_
                  refine T.pv (PV.load1 rfl (by first | exact .fro (by assumption) | exact .own (by repeat (first | exact List.Mem.head _ | apply List.Mem.tail | apply List.mem_append_right))) rfl) Wanted.none rfl rfl ?_
                  refine T.pv (PV.move rfl) Wanted.none rfl rfl ?_
                  refine T.pv (PV.geq rfl rfl) Wanted.none rfl rfl ?_
                  refine T.pv (PV.move rfl) Wanted.none rfl rfl ?_
                  refine T.setT (d := 74) rfl (by omega) ?_
                  refine T.pv (PV.fieldAddr rfl) (Wanted.guard rfl rfl rfl) rfl rfl ?_
                  refine T.pv (PV.load1 rfl (by first | exact .fro (by assumption) | exact .own (by repeat (first | exact List.Mem.head _ | apply List.Mem.tail | apply List.mem_append_right))) rfl) (Wanted.guard rfl rfl rfl) rfl rfl ?_
                  refine T.pv (PV.eql rfl rfl) (Wanted.guard rfl rfl rfl) rfl rfl ?_
                  refine T.pv (PV.move rfl) (Wanted.guard rfl rfl rfl) rfl rfl ?_
                  refine T.setF (d := 78) rfl (by omega) ?_
                  refine T.pv (PV.fieldAddr rfl) (Wanted.guard rfl rfl rfl) rfl rfl ?_
                  refine T.pv (PV.load1 rfl (by first | exact .fro (by assumption) | exact .own (by repeat (first | exact List.Mem.head _ | apply List.Mem.tail | apply List.mem_append_right))) rfl) (Wanted.guard rfl rfl rfl) rfl rfl ?_
                  refine T.pv (PV.fieldAddr rfl) (Wanted.guard rfl rfl rfl) rfl rfl ?_
                  refine T.pv (PV.load1 rfl (by first | exact .fro (by assumption) | exact .own (by repeat (first | exact List.Mem.head _ | apply List.Mem.tail | apply List.mem_append_right))) rfl) (Wanted.guard rfl rfl rfl) rfl rfl ?_
                  refine T.pv (PV.lss rfl rfl) (Wanted.guard rfl rfl rfl) rfl rfl ?_
                  refine T.pv (PV.pickF rfl rfl rfl) (Wanted.guard rfl rfl rfl) rfl rfl ?_
                  refine T.pv (PV.move rfl) (Wanted.guard rfl rfl rfl) rfl rfl ?_
                  refine T.setF (d := 85) rfl (by omega) ?_
                  refine T.pv (PV.fieldAddr rfl) (Wanted.guard rfl rfl rfl) rfl rfl ?_
                  refine T.pv (PV.load1 rfl (by first | exact .fro (by assumption) | exact .own (by repeat (first | exact List.Mem.head _ | apply List.Mem.tail | apply List.mem_append_right))) rfl) (Wanted.guard rfl rfl rfl) rfl rfl ?_
                  refine T.pv (PV.fieldAddr rfl) (Wanted.guard rfl rfl rfl) rfl rfl ?_
                  refine T.pv (PV.load1 rfl (by first | exact .fro (by assumption) | exact .own (by repeat (first | exact List.Mem.head _ | apply List.Mem.tail | apply List.mem_append_right))) rfl) (Wanted.guard rfl rfl rfl) rfl rfl ?_
                  refine T.pv (PV.eql rfl rfl) (Wanted.guard rfl rfl rfl) rfl rfl ?_
                  refine T.pv (PV.move rfl) (Wanted.guard rfl rfl rfl) rfl rfl ?_
                  refine T.setT (d := 91) rfl (by omega) ?_
                  refine T.pv (PV.fieldAddr rfl) (Wanted.guard rfl rfl rfl) rfl rfl ?_
                  refine T.pv (PV.load1 rfl (by first | exact .fro (by assumption) | exact .own (by repeat (first | exact List.Mem.head _ | apply List.Mem.tail | apply List.mem_append_right))) rfl) (Wanted.guard rfl rfl rfl) rfl rfl ?_
                  refine T.pv (PV.fieldAddr rfl) (Wanted.guard rfl rfl rfl) rfl rfl ?_
                  refine T.pv (PV.load1 rfl (by first | exact .fro (by assumption) | exact .own (by repeat (first | exact List.Mem.head _ | apply List.Mem.tail | apply List.mem_append_right))) rfl) (Wanted.guard rfl rfl rfl) rfl rfl ?_
                  refine T.pv (PV.gtr rfl rfl) (Wanted.guard rfl rfl rfl) rfl rfl ?_
                  refine T.pv (PV.pickT rfl rfl rfl) (Wanted.guard rfl rfl rfl) rfl rfl ?_
                  refine T.pv (PV.pickF rfl rfl rfl) (Wanted.guard rfl rfl rfl) rfl rfl ?_
                  refine T.pv (PV.pickT rfl rfl rfl) Wanted.none rfl rfl ?_
                  refine T.opsNil ?_
                  exact K _ _ (by repeat (first | exact trivial | refine And.intro rfl ?_)) (by repeat (first | exact List.Sublist.slnil | exact List.nil_sublist _ | exact List.Sublist.refl _ | exact List.sublist_append_left _ [] | apply List.Sublist.cons_cons | apply List.Sublist.cons | refine List.Sublist.append_left ?_ _ | refine List.sublist_append_of_sublist_right ?_))
                · have : q = false := by rw [hq]; exact decide_eq_false (by omega)
                  subst this
                  refine T.region ?_
                  refine T.pv (PV.fieldAddr rfl) Wanted.none rfl rfl ?_
                  refine T.pv (PV.load1 rfl (by first | exact .fro (by assumption) | exact .own (by repeat (first | exact List.Mem.head _ | apply List.Mem.tail | apply List.mem_append_right))) rfl) Wanted.none rfl rfl ?_
                  refine T.pv (PV.move rfl) Wanted.none rfl rfl ?_
                  refine T.pv (PV.geq rfl rfl) Wanted.none rfl rfl ?_
                  refine T.pv (PV.move rfl) Wanted.none rfl rfl ?_
                  refine T.setT (d := 74) rfl (by omega) ?_
                  refine T.pv (PV.fieldAddr rfl) (Wanted.guard rfl rfl rfl) rfl rfl ?_
                  refine T.pv (PV.load1 rfl (by first | exact .fro (by assumption) | exact .own (by repeat (first | exact List.Mem.head _ | apply List.Mem.tail | apply List.mem_append_right))) rfl) (Wanted.guard rfl rfl rfl) rfl rfl ?_
                  refine T.pv (PV.eql rfl rfl) (Wanted.guard rfl rfl rfl) rfl rfl ?_
                  refine T.pv (PV.move rfl) (Wanted.guard rfl rfl rfl) rfl rfl ?_
                  refine T.setF (d := 78) rfl (by omega) ?_
                  refine T.pv (PV.fieldAddr rfl) (Wanted.guard rfl rfl rfl) rfl rfl ?_
                  refine T.pv (PV.load1 rfl (by first | exact .fro (by assumption) | exact .own (by repeat (first | exact List.Mem.head _ | apply List.Mem.tail | apply List.mem_append_right))) rfl) (Wanted.guard rfl rfl rfl) rfl rfl ?_
                  refine T.pv (PV.fieldAddr rfl) (Wanted.guard rfl rfl rfl) rfl rfl ?_
                  refine T.pv (PV.load1 rfl (by first | exact .fro (by assumption) | exact .own (by repeat (first | exact List.Mem.head _ | apply List.Mem.tail | apply List.mem_append_right))) rfl) (Wanted.guard rfl rfl rfl) rfl rfl ?_
                  refine T.pv (PV.lss rfl rfl) (Wanted.guard rfl rfl rfl) rfl rfl ?_
                  refine T.pv (PV.pickF rfl rfl rfl) (Wanted.guard rfl rfl rfl) rfl rfl ?_
                  refine T.pv (PV.move rfl) (Wanted.guard rfl rfl rfl) rfl rfl ?_
                  refine T.setF (d := 85) rfl (by omega) ?_
                  refine T.pv (PV.fieldAddr rfl) (Wanted.guard rfl rfl rfl) rfl rfl ?_
                  refine T.pv (PV.load1 rfl (by first | exact .fro (by assumption) | exact .own (by repeat (first | exact List.Mem.head _ | apply List.Mem.tail | apply List.mem_append_right))) rfl) (Wanted.guard rfl rfl rfl) rfl rfl ?_
                  refine T.pv (PV.fieldAddr rfl) (Wanted.guard rfl rfl rfl) rfl rfl ?_
                  refine T.pv (PV.load1 rfl (by first | exact .fro (by assumption) | exact .own (by repeat (first | exact List.Mem.head _ | apply List.Mem.tail | apply List.mem_append_right))) rfl) (Wanted.guard rfl rfl rfl) rfl rfl ?_
                  refine T.pv (PV.eql rfl rfl) (Wanted.guard rfl rfl rfl) rfl rfl ?_
                  refine T.pv (PV.move rfl) (Wanted.guard rfl rfl rfl) rfl rfl ?_
                  refine T.setF (d := 91) rfl (by omega) ?_
                  refine T.pass (Unwanted.guard rfl rfl rfl) rfl rfl ?_
                  refine T.pass (Unwanted.guard rfl rfl rfl) rfl rfl ?_
                  refine T.pass (Unwanted.guard rfl rfl rfl) rfl rfl ?_
                  refine T.pass (Unwanted.guard rfl rfl rfl) rfl rfl ?_
                  refine T.pass (Unwanted.guard rfl rfl rfl) rfl rfl ?_
                  refine T.pv (PV.pickF rfl rfl rfl) (Wanted.guard rfl rfl rfl) rfl rfl ?_
                  refine T.pv (PV.pickF rfl rfl rfl) (Wanted.guard rfl rfl rfl) rfl rfl ?_
                  refine T.pv (PV.pickT rfl rfl rfl) Wanted.none rfl rfl ?_
                  refine T.opsNil ?_
                  exact K _ _ (by repeat (first | exact trivial | refine And.intro rfl ?_)) (by repeat (first | exact List.Sublist.slnil | exact List.nil_sublist _ | exact List.Sublist.refl _ | exact List.sublist_append_left _ [] | apply List.Sublist.cons_cons | apply List.Sublist.cons | refine List.Sublist.append_left ?_ _ | refine List.sublist_append_of_sublist_right ?_))
          · have : q = false := by rw [hq]; exact decide_eq_false (by omega)
            subst this
            refine T.region ?_
            refine T.pv (PV.fieldAddr rfl) Wanted.none rfl rfl ?_
            refine T.pv (PV.load1 rfl (by first | exact .fro (by assumption) | exact .own (by repeat (first | exact List.Mem.head _ | apply List.Mem.tail | apply List.mem_append_right))) rfl) Wanted.none rfl rfl ?_
            refine T.pv (PV.move rfl) Wanted.none rfl rfl ?_
            refine T.pv (PV.geq rfl rfl) Wanted.none rfl rfl ?_
            refine T.pv (PV.move rfl) Wanted.none rfl rfl ?_
            refine T.setF (d := 74) rfl (by omega) ?_
            refine T.pass (Unwanted.guard rfl rfl rfl) rfl rfl ?_
            refine T.pass (Unwanted.guard rfl rfl rfl) rfl rfl ?_
            refine T.pass (Unwanted.guard rfl rfl rfl) rfl rfl ?_
            refine T.pass (Unwanted.guard rfl rfl rfl) rfl rfl ?_
            refine T.pass (Unwanted.undef rfl rfl) rfl rfl ?_
            refine T.pass (Unwanted.undef rfl rfl) rfl rfl ?_
            refine T.pass (Unwanted.undef rfl rfl) rfl rfl ?_
            refine T.pass (Unwanted.undef rfl rfl) rfl rfl ?_
            refine T.pass (Unwanted.undef rfl rfl) rfl rfl ?_
            refine T.pass (Unwanted.guard rfl rfl rfl) rfl rfl ?_
            refine T.pass (Unwanted.guard rfl rfl rfl) rfl rfl ?_
            refine T.pass (Unwanted.undef rfl rfl) rfl rfl ?_
            refine T.pass (Unwanted.undef rfl rfl) rfl rfl ?_
            refine T.pass (Unwanted.undef rfl rfl) rfl rfl ?_
            refine T.pass (Unwanted.undef rfl rfl) rfl rfl ?_
            refine T.pass (Unwanted.undef rfl rfl) rfl rfl ?_
            refine T.pass (Unwanted.undef rfl rfl) rfl rfl ?_
            refine T.pass (Unwanted.undef rfl rfl) rfl rfl ?_
            refine T.pass (Unwanted.undef rfl rfl) rfl rfl ?_
            refine T.pass (Unwanted.undef rfl rfl) rfl rfl ?_
            refine T.pass (Unwanted.undef rfl rfl) rfl rfl ?_
            refine T.pass (Unwanted.undef rfl rfl) rfl rfl ?_
            refine T.pass (Unwanted.undef rfl rfl) rfl rfl ?_
            refine T.pass (Unwanted.guard rfl rfl rfl) rfl rfl ?_
            refine T.pv (PV.pickF rfl rfl rfl) Wanted.none rfl rfl ?_
            refine T.opsNil ?_
            exact K _ _ (by repeat (first | exact trivial | refine And.intro rfl ?_)) (by repeat (first | exact List.Sublist.slnil | exact List.nil_sublist _ | exact List.Sublist.refl _ | exact List.sublist_append_left _ [] | apply List.Sublist.cons_cons | apply List.Sublist.cons | refine List.Sublist.append_left ?_ _ | refine List.sublist_append_of_sublist_right ?_))
        refine T.cond rfl (fun hc => ?_) (fun hc => ?_)
        · rw [hq, decide_eq_true_eq] at hc
          unfold bstep at hst
          rw [if_pos hc] at hst
          refine T.region ?_
          refine T.pv (PV.loadAll rfl (by first | exact .fro (by assumption) | exact .own (by repeat (first | exact List.Mem.head _ | apply List.Mem.tail | apply List.mem_append_right))) (by exact rfl)) Wanted.none rfl rfl ?_
          refine T.storeA Wanted.none rfl rfl (by repeat (first | exact trivial | refine And.intro rfl ?_)) (by exact rfl) (by repeat (first | exact Upd.head | apply Upd.tail | apply Upd.app)) (by repeat (first | exact Splice.nil | apply Splice.cons | apply Splice.skip)) ?_
          refine T.opsNil ?_
          refine T.blkEnd ?_
          refine T.region ?_
          refine T.pv (PV.add rfl rfl (by omega)) Wanted.none rfl rfl ?_
          refine T.pv (PV.move rfl) Wanted.none rfl rfl ?_
          refine T.opsNil ?_
          exact T.next (j + 1, s) ⟨by dsimp only; omega, hst.symm⟩ (by dsimp only; omega) (by repeat (first | exact trivial | refine And.intro rfl ?_)) (by repeat (first | exact List.Sublist.slnil | exact List.nil_sublist _ | exact List.Sublist.refl _ | exact List.sublist_append_left _ [] | apply List.Sublist.cons_cons | apply List.Sublist.cons | refine List.Sublist.append_left ?_ _ | refine List.sublist_append_of_sublist_right ?_)) rfl
        · rw [hq, decide_eq_false_iff_not] at hc
          unfold bstep at hst
          rw [if_neg hc] at hst
          refine T.skip ?_
          refine T.blkEnd ?_
          refine T.region ?_
          refine T.pv (PV.add rfl rfl (by omega)) Wanted.none rfl rfl ?_
          refine T.pv (PV.move rfl) Wanted.none rfl rfl ?_
          refine T.opsNil ?_
          exact T.next (j + 1, c) ⟨by dsimp only; omega, hst.symm⟩ (by dsimp only; omega) (by repeat (first | exact trivial | refine And.intro rfl ?_)) (by repeat (first | exact List.Sublist.slnil | exact List.nil_sublist _ | exact List.Sublist.refl _ | exact List.sublist_append_left _ [] | apply List.Sublist.cons_cons | apply List.Sublist.cons | refine List.Sublist.append_left ?_ _ | refine List.sublist_append_of_sublist_right ?_)) rfl
      · rw [List.take_of_length_le (by omega), best_all z z1 l hs] at g2
        have htb := trad_best z l hs (fun s hs => (hok s hs).2)
        cases hb : bestG z l with
        | none =>
          rw [hb] at g2 htb
          dsimp only [Option.getD_none] at g2 htb
          subst g2
          rw [htb, List.append_nil] at z2
          subst z2
          refine T.seq ?_
          refine T.region ?_
          refine T.pv (PV.lss rfl rfl) Wanted.none rfl rfl ?_
          refine T.opsNil ?_
          refine T.seq ?_
          refine T.condF rfl (decide_eq_false (by omega)) ?_
          refine T.exit rfl ?_
          refine T.seq ?_
          refine T.seq ?_
          refine T.region ?_
          refine T.pv (PV.fieldAddr rfl) Wanted.none rfl rfl ?_
          refine T.pv (PV.load1 rfl (by first | exact .fro (by assumption) | exact .own (by repeat (first | exact List.Mem.head _ | apply List.Mem.tail | apply List.mem_append_right))) rfl) Wanted.none rfl rfl ?_
          refine T.pv (PV.eql rfl rfl) Wanted.none rfl rfl ?_
          refine T.opsNil ?_
          refine T.condT rfl rfl ?_
          refine T.exit rfl ?_
          refine T.seq ?_
          refine T.region ?_
          refine T.pv (PV.move rfl) Wanted.none rfl rfl ?_
          refine T.pv (PV.assign rfl) Wanted.none rfl rfl ?_
          refine T.opsNil ?_
          exact T.retF (Vec.freezeLv (l' := []) z3 (by rw [List.append_nil]; first | exact List.Sublist.refl _ | exact .cons _ (List.Sublist.refl _)) fun H' _ hsl => Lv.fin (RV.tmp rfl rfl) hsl)
        | some c2 =>
          rw [hb] at g2 htb
          dsimp only [Option.getD_some] at g2 htb
          subst g2
          obtain ⟨t1, t2, t3⟩ := htb
          have hc0 := hok _ t1
          rw [t3] at z2
          refine T.seq ?_
          refine T.region ?_
          refine T.pv (PV.lss rfl rfl) Wanted.none rfl rfl ?_
          refine T.opsNil ?_
          refine T.seq ?_
          refine T.condF rfl (decide_eq_false (by omega)) ?_
          refine T.exit rfl ?_
          refine T.seq ?_
          refine T.seq ?_
          refine T.region ?_
          refine T.pv (PV.fieldAddr rfl) Wanted.none rfl rfl ?_
          refine T.pv (PV.load1 rfl (by first | exact .fro (by assumption) | exact .own (by repeat (first | exact List.Mem.head _ | apply List.Mem.tail | apply List.mem_append_right))) rfl) Wanted.none rfl rfl ?_
          refine T.pv (PV.eql rfl rfl) Wanted.none rfl rfl ?_
          refine T.opsNil ?_
          refine T.condF rfl (decide_eq_false (by omega)) ?_
          refine T.skip ?_
          refine T.regionOr (lc := [(b12, .cells #[.int .i64 c.1, .int .i64 c.2] 40 (0, 0))]) (by repeat (first | exact List.Sublist.slnil | exact List.nil_sublist _ | exact List.Sublist.refl _ | exact List.sublist_append_left _ [] | apply List.Sublist.cons_cons | apply List.Sublist.cons | refine List.Sublist.append_left ?_ _ | refine List.sublist_append_of_sublist_right ?_)) (by kernel_rfl) ?_
          refine TO.take 0 rfl (by kernel_rfl) (by kernel_rfl) (by kernel_rfl) (PV.move rfl) Wanted.none rfl rfl ?_
          refine TO.take 1 rfl (by kernel_rfl) (by kernel_rfl) (by kernel_rfl) (PV.loadAll rfl (by first | exact .fro (by assumption) | exact .own (by repeat (first | exact List.Mem.head _ | apply List.Mem.tail | apply List.mem_append_right))) (by exact rfl)) Wanted.none rfl rfl ?_
          refine TO.take 4 rfl (by kernel_rfl) (by kernel_rfl) (by kernel_rfl) (PV.fieldAddr rfl) Wanted.none rfl rfl ?_
          refine TO.take 5 rfl (by kernel_rfl) (by kernel_rfl) (by kernel_rfl) (PV.load1 rfl (by first | exact .fro (by assumption) | exact .own (by repeat (first | exact List.Mem.head _ | apply List.Mem.tail | apply List.mem_append_right))) rfl) Wanted.none rfl rfl ?_
          refine TO.step 2 rfl (by kernel_rfl) (by repeat (first | exact List.Sublist.slnil | exact List.nil_sublist _ | exact List.Sublist.refl _ | exact List.sublist_append_left _ [] | apply List.Sublist.cons_cons | apply List.Sublist.cons | refine List.Sublist.append_left ?_ _ | refine List.sublist_append_of_sublist_right ?_)) (by first | exact Hp.le.refl _ | assumption | exact Hp.le.trans (by assumption) (by assumption)) ?_
          (refine T.buildSlice Wanted.none rfl rfl (by repeat (first | exact FillAll.nil | (apply FillAll.cons; (first | exact CellsR.one rfl | exact CellsR.agg); exact rfl))) (by exact rfl) (by exact rfl) ?_; intro b107)
          refine T.opsNil ?_
          refine TO.back ?_
          refine TO.step 3 rfl (by kernel_rfl) (by repeat (first | exact List.Sublist.slnil | exact List.nil_sublist _ | exact List.Sublist.refl _ | exact List.sublist_append_left _ [] | apply List.Sublist.cons_cons | apply List.Sublist.cons | refine List.Sublist.append_left ?_ _ | refine List.sublist_append_of_sublist_right ?_)) (by first | exact Hp.le.refl _ | assumption | exact Hp.le.trans (by assumption) (by assumption)) ?_
          refine T.appendE [_, _] (lv := lv2) Wanted.none rfl rfl rfl z3 (Src.cells (m := 1) (ys := encS c) (.own (by repeat (first | exact List.Mem.head _ | apply List.Mem.tail | apply List.mem_append_right))) rfl rfl) (one_encS c) (by omega) ?_
          intro v3 lv3 hv3 _
          refine T.opsNil ?_
          refine TO.back ?_
          refine TO.take 6 rfl (by kernel_rfl) (by kernel_rfl) (by kernel_rfl) (PV.assign rfl) Wanted.none rfl rfl ?_
          refine TO.take 7 rfl (by kernel_rfl) (by kernel_rfl) (by kernel_rfl) (PV.assign rfl) Wanted.none rfl rfl ?_
          refine TO.done (by kernel_rfl) (by repeat (first | exact List.Sublist.slnil | exact List.nil_sublist _ | exact List.Sublist.refl _ | exact List.sublist_append_left _ [] | apply List.Sublist.cons_cons | apply List.Sublist.cons | refine List.Sublist.append_left ?_ _ | refine List.sublist_append_of_sublist_right ?_)) (by first | exact Hp.le.refl _ | assumption | exact Hp.le.trans (by assumption) (by assumption)) ?_
          refine T.blkEnd ?_
          exact T.next ⟨0, c.2, o ++ [c], v3, lv3⟩ ⟨by dsimp only; omega, by dsimp only; rw [List.append_assoc]; exact z2, SpV.snoc hv3⟩ (by dsimp only; rw [t3]; simp) (by repeat (first | exact trivial | refine And.intro rfl ?_)) (by repeat (first | exact List.Sublist.slnil | exact List.nil_sublist _ | exact List.Sublist.refl _ | exact List.sublist_append_left _ [] | apply List.Sublist.cons_cons | apply List.Sublist.cons | refine List.Sublist.append_left ?_ _ | refine List.sublist_append_of_sublist_right ?_)) rfl
    · rw [if_neg hk, ← chosen_ref k l hk] at j3
      refine T.seq ?_
      refine T.region ?_
      refine T.pv (PV.lss rfl rfl) Wanted.none rfl rfl ?_
      refine T.opsNil ?_
      refine T.seq ?_
      refine T.condF rfl (decide_eq_false (by omega)) ?_
      refine T.exit rfl ?_
      refine T.seq ?_
      refine T.seq ?_
      refine T.region ?_
      refine T.pv (PV.move rfl) Wanted.none rfl rfl ?_
      refine T.pv (PV.eql rfl rfl) Wanted.none rfl rfl ?_
      refine T.opsNil ?_
      refine T.condF rfl (decide_eq_false (by omega)) ?_
      refine T.skip ?_
      refine T.seq ?_
      refine T.region ?_
      refine T.pv (PV.move rfl) Wanted.none rfl rfl ?_
      refine T.pv (PV.assign rfl) Wanted.none rfl rfl ?_
      refine T.opsNil ?_
      exact T.retF (Vec.freezeLv (l' := []) j3 (by rw [List.append_nil]; exact List.Sublist.refl _) fun H' _ hsl => Lv.fin (RV.tmp rfl rfl) hsl)
end Go.Proofs.Ytceaicameojcaaa
