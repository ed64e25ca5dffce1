/- strategy: Reverse of spans. -/
import Derived.Test.YtceaicameojcaaaS2
namespace Go.Proofs.Ytceaicameojcaaa
open Go.RowKit

def revAt (L : List Sp) (i : Nat) (c : List Sp) : Prop := c.length = L.length ∧ ∀ k, c[k]? = if k < i ∨ L.length ≤ k + i then L.reverse[k]? else L[k]?
theorem revAt.swap {L c : List Sp} {i j : Nat} {x y : Sp} (h : revAt L i c) (hij : i + j + 1 = L.length) (hlt : i < j) (hx : c[i]? = some x) (hy : c[j]? = some y) : revAt L (i + 1) ((c.set i y).set j x) := by
  refine ⟨by simp [h.1], fun k => ?_⟩
  have hX : L[i]? = some x := by rw [← hx, h.2 i, if_neg (by omega)]
  have hY : L[j]? = some y := by rw [← hy, h.2 j, if_neg (by omega)]
  have hl := h.1
  rw [List.getElem?_set]
  by_cases h1 : j = k
  · subst h1
    rw [if_pos rfl, if_pos (by simp; omega), if_pos (by omega), List.getElem?_reverse (by omega), ← hX]
    congr 1; omega
  · rw [if_neg h1, List.getElem?_set]
    by_cases h2 : i = k
    · subst h2
      rw [if_pos rfl, if_pos (by omega), if_pos (by omega), List.getElem?_reverse (by omega), ← hY]
      congr 1; omega
    · rw [if_neg h2, h.2 k]
      by_cases h3 : k < i ∨ L.length ≤ k + i
      · rw [if_pos h3, if_pos (by omega)]
      · rw [if_neg h3, if_neg (by omega)]
theorem revAt.done {L c : List Sp} {i : Nat} (h : revAt L i c) (hi : L.length ≤ 2 * i + 1) : c = L.reverse := by
  apply List.ext_getElem?
  intro k
  rw [h.2 k]
  by_cases h3 : k < i ∨ L.length ≤ k + i
  · rw [if_pos h3]
  · rw [if_neg h3, List.getElem?_reverse (by omega)]
    congr 1; omega
set_option maxHeartbeats 2000000 in
theorem reverse_fn (l : List Sp) (v : Value) (lv : List (Nat × Obj)) (H : Hp) (hv : SpV v lv l) (hl : l.length ≤ 1000000) : FnW Try.prog 40 #[v] H lv (fun u H' l' => u = .tuple #[] ∧ H' = H ∧ SpV v l' l.reverse) := by
  obtain ⟨ad, cap, rfl⟩ := hv.val
  refine FnW.of_T (vs := [.slice ad l.length cap]) Try.func40 rfl rfl fun w => ?_
  by_cases h0 : l = []
  · subst h0
    refine T.seq ?_
    refine T.region ?_
    refine T.pv (PV.move rfl) Wanted.none rfl rfl ?_
    refine T.pv (PV.lenSl rfl) Wanted.none rfl rfl ?_
    refine T.pv (PV.sub rfl rfl (by omega)) Wanted.none rfl rfl ?_
    refine T.pv (PV.assign rfl) Wanted.none rfl rfl ?_
    refine T.pv (PV.assign rfl) Wanted.none rfl rfl ?_
    refine T.opsNil ?_
    refine T.block ?_
    refine T.loop (γ := Unit) (fun _ => True) (fun _ => [(2, .int .i64 0), (3, .int .i64 ((([] : List Sp).length : Int) - 1))]) (fun _ => lv) (fun _ => H) (fun _ => 0) () trivial (by repeat (first | exact trivial | refine And.intro rfl ?_)) (by repeat (first | exact List.Sublist.slnil | exact List.nil_sublist _ | exact List.Sublist.refl _ | exact List.sublist_append_left _ [] | apply List.Sublist.cons_cons | apply List.Sublist.cons | refine List.Sublist.append_left ?_ _ | refine List.sublist_append_of_sublist_right ?_)) rfl ?_
    rintro _ _
    refine T.seq ?_
    refine T.seq ?_
    refine T.region ?_
    refine T.pv (PV.move rfl) Wanted.none rfl rfl ?_
    refine T.pv (PV.move rfl) Wanted.none rfl rfl ?_
    refine T.pv (PV.lss rfl rfl) Wanted.none rfl rfl ?_
    refine T.opsNil ?_
    refine T.condF rfl rfl ?_
    refine T.exit rfl ?_
    exact T.fallW (Lv.finW lv (List.Sublist.refl _) (RV.none rfl) ⟨rfl, rfl, hv⟩)
  · have hpos : 0 < l.length := List.length_pos_iff.2 h0
    have hne : l.flatMap encS ≠ [] := by intro h; have := congrArg List.length h; rw [flatS_len] at this; simp at this; omega
    obtain ⟨b, cap', hve⟩ := hv.ptr (by omega)
    injection hve with e1 e2 e3
    subst e1 e3
    obtain ⟨_, r1, r2, tl, rfl, r3⟩ := hv.row hne
    refine T.seq ?_
    refine T.region ?_
    refine T.pv (PV.move rfl) Wanted.none rfl rfl ?_
    refine T.pv (PV.lenSl rfl) Wanted.none rfl rfl ?_
    refine T.pv (PV.sub rfl rfl (by omega)) Wanted.none rfl rfl ?_
    refine T.pv (PV.assign rfl) Wanted.none rfl rfl ?_
    refine T.pv (PV.assign rfl) Wanted.none rfl rfl ?_
    refine T.opsNil ?_
    refine T.block ?_
    rw [show (l.length : Int) - 1 = ((l.length - 1 : Nat) : Int) by omega]
    refine T.loop (γ := Nat × Nat × List Sp) (fun g => g.1 + g.2.1 + 1 = l.length ∧ g.1 ≤ g.2.1 + 1 ∧ revAt l g.1 g.2.2)
      (fun g => [(0, .slice (some ⟨b, 0, none⟩) l.length cap), (2, .int .i64 (g.1 : Int)), (3, .int .i64 (g.2.1 : Int))])
      (fun g => [(b, .cells (g.2.2.flatMap encS ++ tl).toArray 40 (0, 0))]) (fun _ => H) (fun g => g.2.1 + 1) (0, l.length - 1, l) ⟨by dsimp only; omega, by dsimp only; omega, rfl, fun k => ?_⟩ (by repeat (first | exact trivial | refine And.intro rfl ?_)) (by repeat (first | exact List.Sublist.slnil | exact List.nil_sublist _ | exact List.Sublist.refl _ | exact List.sublist_append_left _ [] | apply List.Sublist.cons_cons | apply List.Sublist.cons | refine List.Sublist.append_left ?_ _ | refine List.sublist_append_of_sublist_right ?_)) rfl ?_
    · by_cases h3 : k < 0 ∨ l.length ≤ k + 0
      · rw [if_pos h3, List.getElem?_eq_none (by dsimp only; omega), List.getElem?_eq_none (by simp; omega)]
      · rw [if_neg h3]
    rintro ⟨i, j, c⟩ ⟨i1, i2, i3⟩
    dsimp only at i1 i2 i3 ⊢
    by_cases hij : i < j
    · obtain ⟨x, hx⟩ : ∃ x, c[i]? = some x := ⟨_, List.getElem?_eq_getElem (by have := i3.1; omega)⟩
      obtain ⟨y, hy⟩ : ∃ y, c[j]? = some y := ⟨_, List.getElem?_eq_getElem (by have := i3.1; omega)⟩
      have g1 := getE tl hx
      have g2 := getE tl hy
      refine T.seq ?_
      refine T.seq ?_
      refine T.region ?_
      refine T.pv (PV.move rfl) Wanted.none rfl rfl ?_
      refine T.pv (PV.move rfl) Wanted.none rfl rfl ?_
      refine T.pv (PV.lss rfl rfl) Wanted.none rfl rfl ?_
      refine T.opsNil ?_
      refine T.condT rfl (decide_eq_true (by omega)) ?_
      refine T.skip ?_
      refine T.seq ?_
      refine T.block ?_
      refine T.regionOr (lc := []) (List.nil_sublist _) (by kernel_rfl) ?_
      refine TO.take 0 rfl (by kernel_rfl) (by kernel_rfl) (by kernel_rfl) (PV.move rfl) Wanted.none rfl rfl ?_
      refine TO.take 1 rfl (by kernel_rfl) (by kernel_rfl) (by kernel_rfl) (PV.move rfl) Wanted.none rfl rfl ?_
      refine TO.take 2 rfl (by kernel_rfl) (by kernel_rfl) (by kernel_rfl) (PV.move rfl) Wanted.none rfl rfl ?_
      refine TO.take 3 rfl (by kernel_rfl) (by kernel_rfl) (by kernel_rfl) (PV.move rfl) Wanted.none rfl rfl ?_
      refine TO.take 4 rfl (by kernel_rfl) (by kernel_rfl) (by kernel_rfl) (PV.move rfl) Wanted.none rfl rfl ?_
      refine TO.take 5 rfl (by kernel_rfl) (by kernel_rfl) (by kernel_rfl) (PV.move rfl) Wanted.none rfl rfl ?_
      refine TO.take 6 rfl (by kernel_rfl) (by kernel_rfl) (by kernel_rfl) (PV.indexAddr rfl rfl (by omega)) Wanted.none rfl rfl ?_
      refine TO.take 8 rfl (by kernel_rfl) (by kernel_rfl) (by kernel_rfl) (PV.move rfl) Wanted.none rfl rfl ?_
      refine TO.take 9 rfl (by kernel_rfl) (by kernel_rfl) (by kernel_rfl) (PV.move rfl) Wanted.none rfl rfl ?_
      refine TO.take 10 rfl (by kernel_rfl) (by kernel_rfl) (by kernel_rfl) (PV.indexAddr rfl rfl (by omega)) Wanted.none rfl rfl ?_
      refine TO.both 7 11 rfl rfl (by kernel_rfl) (List.nil_sublist _) (Hp.le.refl _) ?_ ?_
      · refine T.pv (PV.loadAgg rfl (by first | exact .fro (by assumption) | exact .own (by repeat (first | exact List.Mem.head _ | apply List.Mem.tail | apply List.mem_append_right))) (by assumption) (by exact rfl)) Wanted.none rfl rfl ?_
        refine T.opsNil ?_
        refine TO.back ?_
        refine TO.step 11 rfl (by kernel_rfl) (by repeat (first | exact List.Sublist.slnil | exact List.nil_sublist _ | exact List.Sublist.refl _ | exact List.sublist_append_left _ [] | apply List.Sublist.cons_cons | apply List.Sublist.cons | refine List.Sublist.append_left ?_ _ | refine List.sublist_append_of_sublist_right ?_)) (by first | exact Hp.le.refl _ | assumption | exact Hp.le.trans (by assumption) (by assumption)) ?_
        refine T.pv (PV.loadAgg rfl (by first | exact .fro (by assumption) | exact .own (by repeat (first | exact List.Mem.head _ | apply List.Mem.tail | apply List.mem_append_right))) (by assumption) (by exact rfl)) Wanted.none rfl rfl ?_
        refine T.opsNil ?_
        refine TO.back ?_
        refine TO.take 12 rfl (by kernel_rfl) (by kernel_rfl) (by kernel_rfl) (PV.indexAddr rfl rfl (by omega)) Wanted.none rfl rfl ?_
        refine TO.step 13 rfl (by kernel_rfl) (by repeat (first | exact List.Sublist.slnil | exact List.nil_sublist _ | exact List.Sublist.refl _ | exact List.sublist_append_left _ [] | apply List.Sublist.cons_cons | apply List.Sublist.cons | refine List.Sublist.append_left ?_ _ | refine List.sublist_append_of_sublist_right ?_)) (by first | exact Hp.le.refl _ | assumption | exact Hp.le.trans (by assumption) (by assumption)) ?_
        refine T.storeA Wanted.none rfl rfl ⟨rfl, rfl, trivial⟩ (by exact rfl) Upd.head (splice_set y tl (by have := i3.1; omega)) ?_
        refine T.opsNil ?_
        refine TO.back ?_
        refine TO.take 14 rfl (by kernel_rfl) (by kernel_rfl) (by kernel_rfl) (PV.indexAddr rfl rfl (by omega)) Wanted.none rfl rfl ?_
        refine TO.step 15 rfl (by kernel_rfl) (by repeat (first | exact List.Sublist.slnil | exact List.nil_sublist _ | exact List.Sublist.refl _ | exact List.sublist_append_left _ [] | apply List.Sublist.cons_cons | apply List.Sublist.cons | refine List.Sublist.append_left ?_ _ | refine List.sublist_append_of_sublist_right ?_)) (by first | exact Hp.le.refl _ | assumption | exact Hp.le.trans (by assumption) (by assumption)) ?_
        refine T.storeA Wanted.none rfl rfl ⟨rfl, rfl, trivial⟩ (by exact rfl) Upd.head (splice_set x tl (by rw [List.length_set]; have := i3.1; omega)) ?_
        refine T.opsNil ?_
        refine TO.back ?_
        refine TO.done (by kernel_rfl) (by repeat (first | exact List.Sublist.slnil | exact List.nil_sublist _ | exact List.Sublist.refl _ | exact List.sublist_append_left _ [] | apply List.Sublist.cons_cons | apply List.Sublist.cons | refine List.Sublist.append_left ?_ _ | refine List.sublist_append_of_sublist_right ?_)) (by first | exact Hp.le.refl _ | assumption | exact Hp.le.trans (by assumption) (by assumption)) ?_
        refine T.blkEnd ?_
        refine T.region ?_
        refine T.pv (PV.move rfl) Wanted.none rfl rfl ?_
        refine T.pv (PV.add rfl rfl (by omega)) Wanted.none rfl rfl ?_
        refine T.pv (PV.move rfl) Wanted.none rfl rfl ?_
        refine T.pv (PV.sub rfl rfl (by omega)) Wanted.none rfl rfl ?_
        refine T.pv (PV.assign rfl) Wanted.none rfl rfl ?_
        refine T.pv (PV.assign rfl) Wanted.none rfl rfl ?_
        refine T.opsNil ?_
        rw [show (j : Int) - 1 = ((j - 1 : Nat) : Int) by omega]
        exact T.next (i + 1, j - 1, (c.set i y).set j x) ⟨by dsimp only; omega, by dsimp only; omega, i3.swap i1 hij hx hy⟩ (by dsimp only; omega) (by repeat (first | exact trivial | refine And.intro rfl ?_)) (by repeat (first | exact List.Sublist.slnil | exact List.nil_sublist _ | exact List.Sublist.refl _ | exact List.sublist_append_left _ [] | apply List.Sublist.cons_cons | apply List.Sublist.cons | refine List.Sublist.append_left ?_ _ | refine List.sublist_append_of_sublist_right ?_)) rfl
      · refine T.pv (PV.loadAgg rfl (by first | exact .fro (by assumption) | exact .own (by repeat (first | exact List.Mem.head _ | apply List.Mem.tail | apply List.mem_append_right))) (by assumption) (by exact rfl)) Wanted.none rfl rfl ?_
        refine T.opsNil ?_
        refine TO.back ?_
        refine TO.step 7 rfl (by kernel_rfl) (by repeat (first | exact List.Sublist.slnil | exact List.nil_sublist _ | exact List.Sublist.refl _ | exact List.sublist_append_left _ [] | apply List.Sublist.cons_cons | apply List.Sublist.cons | refine List.Sublist.append_left ?_ _ | refine List.sublist_append_of_sublist_right ?_)) (by first | exact Hp.le.refl _ | assumption | exact Hp.le.trans (by assumption) (by assumption)) ?_
        refine T.pv (PV.loadAgg rfl (by first | exact .fro (by assumption) | exact .own (by repeat (first | exact List.Mem.head _ | apply List.Mem.tail | apply List.mem_append_right))) (by assumption) (by exact rfl)) Wanted.none rfl rfl ?_
        refine T.opsNil ?_
        refine TO.back ?_
        refine TO.take 12 rfl (by kernel_rfl) (by kernel_rfl) (by kernel_rfl) (PV.indexAddr rfl rfl (by omega)) Wanted.none rfl rfl ?_
        refine TO.step 13 rfl (by kernel_rfl) (by repeat (first | exact List.Sublist.slnil | exact List.nil_sublist _ | exact List.Sublist.refl _ | exact List.sublist_append_left _ [] | apply List.Sublist.cons_cons | apply List.Sublist.cons | refine List.Sublist.append_left ?_ _ | refine List.sublist_append_of_sublist_right ?_)) (by first | exact Hp.le.refl _ | assumption | exact Hp.le.trans (by assumption) (by assumption)) ?_
        refine T.storeA Wanted.none rfl rfl ⟨rfl, rfl, trivial⟩ (by exact rfl) Upd.head (splice_set y tl (by have := i3.1; omega)) ?_
        refine T.opsNil ?_
        refine TO.back ?_
        refine TO.take 14 rfl (by kernel_rfl) (by kernel_rfl) (by kernel_rfl) (PV.indexAddr rfl rfl (by omega)) Wanted.none rfl rfl ?_
        refine TO.step 15 rfl (by kernel_rfl) (by repeat (first | exact List.Sublist.slnil | exact List.nil_sublist _ | exact List.Sublist.refl _ | exact List.sublist_append_left _ [] | apply List.Sublist.cons_cons | apply List.Sublist.cons | refine List.Sublist.append_left ?_ _ | refine List.sublist_append_of_sublist_right ?_)) (by first | exact Hp.le.refl _ | assumption | exact Hp.le.trans (by assumption) (by assumption)) ?_
        refine T.storeA Wanted.none rfl rfl ⟨rfl, rfl, trivial⟩ (by exact rfl) Upd.head (splice_set x tl (by rw [List.length_set]; have := i3.1; omega)) ?_
        refine T.opsNil ?_
        refine TO.back ?_
        refine TO.done (by kernel_rfl) (by repeat (first | exact List.Sublist.slnil | exact List.nil_sublist _ | exact List.Sublist.refl _ | exact List.sublist_append_left _ [] | apply List.Sublist.cons_cons | apply List.Sublist.cons | refine List.Sublist.append_left ?_ _ | refine List.sublist_append_of_sublist_right ?_)) (by first | exact Hp.le.refl _ | assumption | exact Hp.le.trans (by assumption) (by assumption)) ?_
        refine T.blkEnd ?_
        refine T.region ?_
        refine T.pv (PV.move rfl) Wanted.none rfl rfl ?_
        refine T.pv (PV.add rfl rfl (by omega)) Wanted.none rfl rfl ?_
        refine T.pv (PV.move rfl) Wanted.none rfl rfl ?_
        refine T.pv (PV.sub rfl rfl (by omega)) Wanted.none rfl rfl ?_
        refine T.pv (PV.assign rfl) Wanted.none rfl rfl ?_
        refine T.pv (PV.assign rfl) Wanted.none rfl rfl ?_
        refine T.opsNil ?_
        rw [show (j : Int) - 1 = ((j - 1 : Nat) : Int) by omega]
        exact T.next (i + 1, j - 1, (c.set i y).set j x) ⟨by dsimp only; omega, by dsimp only; omega, i3.swap i1 hij hx hy⟩ (by dsimp only; omega) (by repeat (first | exact trivial | refine And.intro rfl ?_)) (by repeat (first | exact List.Sublist.slnil | exact List.nil_sublist _ | exact List.Sublist.refl _ | exact List.sublist_append_left _ [] | apply List.Sublist.cons_cons | apply List.Sublist.cons | refine List.Sublist.append_left ?_ _ | refine List.sublist_append_of_sublist_right ?_)) rfl
    · refine T.seq ?_
      refine T.seq ?_
      refine T.region ?_
      refine T.pv (PV.move rfl) Wanted.none rfl rfl ?_
      refine T.pv (PV.move rfl) Wanted.none rfl rfl ?_
      refine T.pv (PV.lss rfl rfl) Wanted.none rfl rfl ?_
      refine T.opsNil ?_
      refine T.condF rfl (decide_eq_false (by omega)) ?_
      refine T.exit rfl ?_
      have hc := i3.done (by omega)
      have hcl : (c.flatMap encS ++ tl).length = cap * 2 := by rw [← r3, List.length_append, List.length_append, flatS_len, flatS_len, i3.1]
      refine T.fallW (Lv.finW _ (List.Sublist.refl _) (RV.none rfl) ⟨rfl, rfl, ?_⟩)
      have hlr : l.reverse.length = l.length := List.length_reverse
      refine ⟨flatS_len _, .inr ⟨b, cap, _, by rw [hlr], rfl, by rw [hlr]; omega, r2, hcl, ?_⟩⟩
      rw [hc, hlr, ← hlr, ← flatS_len, List.take_left]
end Go.Proofs.Ytceaicameojcaaa
