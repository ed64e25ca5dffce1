/- strategy: lists of spans: Compact. -/
import Derived.Test.YtceaicameojcaaaS1
import Derived.Test.YtceaicameojcaaaSO
namespace Go.Proofs.Ytceaicameojcaaa
open Go.RowKit

theorem flatS_len (l : List Sp) : (l.flatMap encS).length = l.length * 2 := flat_len encS_len l
theorem one_flatS (l : List Sp) : ∀ v ∈ l.flatMap encS, v.oneCell' = true := by
  intro v hv
  obtain ⟨s, _, hs⟩ := List.mem_flatMap.1 hv
  exact one_encS s v hs
abbrev SpL (H : Hp) (v : Value) (l : List Sp) : Prop := SlR H 2 v l.length (l.flatMap encS)
abbrev SpV (v : Value) (lv : List (Nat × Obj)) (l : List Sp) : Prop := Vec 40 2 v lv l.length (l.flatMap encS)

/-! ### Compact -/
structure CG where
  j : Nat
  k : Nat
  c : List Sp
theorem getE {l : List Sp} {i : Nat} {s : Sp} (tl : List Value) (h : l[i]? = some s) : ((l.flatMap encS ++ tl).drop (0 + ((i : Nat) : Int).toNat * 2)).take 2 = [.int .i64 s.1, .int .i64 s.2] := by
  have h1 := flat_elem encS_len l i s h
  have hi := (List.getElem?_eq_some_iff.1 h).1
  have hl := flatS_len l
  rw [Nat.zero_add, Int.toNat_natCast, List.drop_append_of_le_length (by omega), List.take_append_of_le_length (by rw [List.length_drop]; omega), h1]; rfl
theorem getE2 {c : List Sp} {k j : Nat} {s : Sp} (tl : List Value) (h : c[k + j]? = some s) : ((c.flatMap encS ++ tl).drop (0 + ((k : Nat) : Int).toNat * 2 + ((j : Nat) : Int).toNat * 2)).take 2 = [.int .i64 s.1, .int .i64 s.2] := by
  have := getE tl h
  rw [show 0 + ((k : Nat) : Int).toNat * 2 + ((j : Nat) : Int).toNat * 2 = 0 + ((k + j : Nat) : Int).toNat * 2 by omega]
  exact this
theorem Splice.skips {pre : List Value} : ∀ {c : List Value} {o : Nat} {vs c' : List Value}, Splice c o vs c' → Splice (pre ++ c) (pre.length + o) vs (pre ++ c') := by
  induction pre with
  | nil => intro c o vs c' h; simpa using h
  | cons p pre ih =>
    intro c o vs c' h
    rw [List.cons_append, List.cons_append, List.length_cons, show pre.length + 1 + o = (pre.length + o) + 1 by omega]
    exact .skip (ih h)
theorem splice_set {c : List Sp} {m : Nat} (x : Sp) (tl : List Value) (h : m < c.length) : Splice (c.flatMap encS ++ tl) (0 + ((m : Nat) : Int).toNat * 2) [.int .i64 x.1, .int .i64 x.2] ((c.set m x).flatMap encS ++ tl) := by
  have e1 : c.flatMap encS ++ tl = (c.take m).flatMap encS ++ (encS c[m] ++ ((c.drop (m + 1)).flatMap encS ++ tl)) := by
    have : c.flatMap encS = (c.take m).flatMap encS ++ (encS c[m] ++ (c.drop (m + 1)).flatMap encS) := by rw [← List.flatMap_cons, ← List.drop_eq_getElem_cons h, ← List.flatMap_append, List.take_append_drop]
    rw [this, List.append_assoc, List.append_assoc]
  have e2 : (c.set m x).flatMap encS ++ tl = (c.take m).flatMap encS ++ (encS x ++ ((c.drop (m + 1)).flatMap encS ++ tl)) := by
    rw [List.set_eq_take_append_cons_drop, if_pos h]
    simp
  have e3 : 0 + ((m : Nat) : Int).toNat * 2 = ((c.take m).flatMap encS).length + 0 := by rw [flatS_len, List.length_take, Nat.min_eq_left (by omega)]; omega
  rw [e1, e2, e3]
  exact Splice.skips (.cons (.cons .nil))
set_option maxHeartbeats 2000000 in
theorem compact_fn (l : List Sp) (v : Value) (lv : List (Nat × Obj)) (H : Hp) (hv : SpV v lv l) (hl : l.length ≤ 1000000) : FnW Try.prog 34 #[v] H lv (fun u H' l' => H' = H ∧ SpV u l' (dedupAdj l)) := by
  obtain ⟨ad, cap, rfl⟩ := hv.val
  refine FnW.of_T (vs := [.slice ad l.length cap]) Try.func34 rfl rfl fun w => ?_
  refine T.seq ?_
  refine T.region ?_
  refine T.pv (PV.assign rfl) Wanted.none rfl rfl ?_
  refine T.opsNil ?_
  refine T.seq ?_
  refine T.seq ?_
  refine T.region ?_
  refine T.pv (PV.move rfl) Wanted.none rfl rfl ?_
  refine T.pv (PV.lenSl rfl) Wanted.none rfl rfl ?_
  refine T.pv (PV.lss rfl rfl) Wanted.none rfl rfl ?_
  refine T.opsNil ?_
  by_cases h2 : l.length < 2
  · refine T.condT rfl (decide_eq_true (by omega)) ?_
    refine T.seq ?_
    refine T.region ?_
    refine T.pv (PV.move rfl) Wanted.none rfl rfl ?_
    refine T.pv (PV.assign rfl) Wanted.none rfl rfl ?_
    refine T.opsNil ?_
    have hd : dedupAdj l = l := by
      match l, h2 with
      | [], _ => rfl
      | [x], _ => rfl
    exact T.retW (Lv.finW lv (List.Sublist.refl _) (RV.tmp rfl rfl) ⟨rfl, by rw [hd]; exact hv⟩)
  · have hne : l.flatMap encS ≠ [] := by intro h; have := congrArg List.length h; rw [flatS_len] at this; simp at this; omega
    obtain ⟨b, cap', hve⟩ := hv.ptr (by omega)
    injection hve with e1 e2 e3
    subst e1 e3
    obtain ⟨_, r1, r2, tl, rfl, r3⟩ := hv.row hne
    refine T.condF rfl (decide_eq_false (by omega)) ?_
    refine T.skip ?_
    refine T.seq ?_
    refine T.seq ?_
    refine T.region ?_
    refine T.pv (PV.assign rfl) Wanted.none rfl rfl ?_
    refine T.opsNil ?_
    refine T.block ?_
    refine T.loop (γ := Nat) (fun k => 1 ≤ k ∧ k ≤ l.length ∧ dedupAdj (l.take k) = l.take k)
      (fun k => [(0, .slice (some ⟨b, 0, none⟩) l.length cap), (2, .slice none 0 0), (3, .int .i64 (k : Int))])
      (fun _ => [(b, .cells (l.flatMap encS ++ tl).toArray 40 (0, 0))]) (fun _ => H) (fun k => l.length - k) 1 ⟨by omega, by omega, ?_⟩ (by repeat (first | exact trivial | refine And.intro rfl ?_)) (by repeat (first | exact List.Sublist.slnil | exact List.nil_sublist _ | exact List.Sublist.refl _ | exact List.sublist_append_left _ [] | apply List.Sublist.cons_cons | apply List.Sublist.cons | refine List.Sublist.append_left ?_ _ | refine List.sublist_append_of_sublist_right ?_)) rfl ?_
    · match l, h2 with
      | x :: t, _ => rfl
    rintro k ⟨k1, k2, k3⟩
    by_cases hk : k < l.length
    · obtain ⟨x, hx⟩ : ∃ x, l[k]? = some x := ⟨_, List.getElem?_eq_getElem hk⟩
      obtain ⟨y, hy⟩ : ∃ y, l[k - 1]? = some y := ⟨_, List.getElem?_eq_getElem (by omega)⟩
      have g1 := getE tl hx
      have g2 := getE tl hy
      rw [show ((k - 1 : Nat) : Int) = (k : Int) - 1 by omega] at g2
      refine T.seq ?_
      refine T.seq ?_
      refine T.region ?_
      refine T.pv (PV.move rfl) Wanted.none rfl rfl ?_
      refine T.pv (PV.move rfl) Wanted.none rfl rfl ?_
      refine T.pv (PV.lenSl rfl) Wanted.none rfl rfl ?_
      refine T.pv (PV.lss rfl rfl) Wanted.none rfl rfl ?_
      refine T.opsNil ?_
      refine T.condT rfl (decide_eq_true (by omega)) ?_
      refine T.skip ?_
      refine T.seq ?_
      refine T.block ?_
      refine T.seq ?_
      refine T.regionQ (by kernel_rfl) ?_
      refine TQ.pv (PV.move rfl) Wanted.none rfl rfl ?_
      refine TQ.pv (PV.move rfl) Wanted.none rfl rfl ?_
      refine TQ.pv (PV.indexAddr rfl rfl (by omega)) Wanted.none rfl rfl ?_
      refine TQ.pv (PV.loadAgg rfl (by first | exact .fro (by assumption) | exact .own (by repeat (first | exact List.Mem.head _ | apply List.Mem.tail | apply List.mem_append_right))) (by assumption) (by exact rfl)) Wanted.none rfl rfl ?_
      refine TQ.pv (PV.move rfl) Wanted.none rfl rfl ?_
      refine TQ.pv (PV.move rfl) Wanted.none rfl rfl ?_
      refine TQ.pv (PV.sub rfl rfl (by omega)) Wanted.none rfl rfl ?_
      refine TQ.pv (PV.indexAddr rfl rfl (by omega)) Wanted.none rfl rfl ?_
      refine TQ.pv (PV.loadAgg rfl (by first | exact .fro (by assumption) | exact .own (by repeat (first | exact List.Mem.head _ | apply List.Mem.tail | apply List.mem_append_right))) (by assumption) (by exact rfl)) Wanted.none rfl rfl ?_
      refine TQ.pv (PV.aeql rfl rfl rfl rfl) Wanted.none rfl rfl ?_
      refine TQ.nil ?_
      have hlast : (l.take k).getLast? = some y := by
        rw [List.getLast?_eq_getElem?, List.length_take, Nat.min_eq_left (by omega), List.getElem?_take, if_pos (by omega), hy]
      have hsn : l.take (k + 1) = l.take k ++ [x] := by rw [List.take_add_one, hx]; rfl
      have hdd := dedupAdj_snoc x (l.take k)
      rw [hlast, ← hsn, k3] at hdd
      rw [eqS_eq]
      refine T.condD rfl (fun hc => ?_) (fun hc => ?_)
      · subst hc
        rw [if_pos rfl] at hdd
        refine T.seq ?_
        refine T.region ?_
        refine T.pv (PV.move rfl) Wanted.none rfl rfl ?_
        refine T.pv (PV.move rfl) Wanted.none rfl rfl ?_
        refine T.pv (PV.sliceLP rfl rfl (by omega)) Wanted.none rfl rfl ?_
        refine T.pv (PV.assign rfl) Wanted.none rfl rfl ?_
        refine T.opsNil ?_
        refine T.seq ?_
        refine T.seq ?_
        refine T.region ?_
        refine T.pv (PV.assign rfl) Wanted.none rfl rfl ?_
        refine T.opsNil ?_
        refine T.block ?_
        refine T.loop (γ := CG) (fun g => 1 ≤ g.j ∧ k + g.j ≤ l.length ∧ 1 ≤ g.k ∧ g.k < k + g.j ∧ g.c.length = l.length ∧ g.c.take g.k = dedupAdj (l.take (k + g.j)) ∧ g.c.drop (k + g.j - 1) = l.drop (k + g.j - 1))
          (fun g => [(0, .slice (some ⟨b, 0, none⟩) l.length cap), (2, .slice none 0 0), (3, .int .i64 (g.k : Int)), (4, .slice (some ⟨b, 0 + ((k : Nat) : Int).toNat * 2, none⟩) (l.length - ((k : Nat) : Int).toNat) (cap - ((k : Nat) : Int).toNat)), (5, .int .i64 (g.j : Int))])
          (fun g => [(b, .cells (g.c.flatMap encS ++ tl).toArray 40 (0, 0))]) (fun _ => H) (fun g => l.length - (k + g.j)) ⟨1, k, l⟩ ⟨by dsimp only; omega, by dsimp only; omega, by dsimp only; omega, by dsimp only; omega, rfl, hdd.symm, rfl⟩ (by repeat (first | exact trivial | refine And.intro rfl ?_)) (by repeat (first | exact List.Sublist.slnil | exact List.nil_sublist _ | exact List.Sublist.refl _ | exact List.sublist_append_left _ [] | apply List.Sublist.cons_cons | apply List.Sublist.cons | refine List.Sublist.append_left ?_ _ | refine List.sublist_append_of_sublist_right ?_)) rfl ?_
        rintro ⟨j, m, c⟩ ⟨i1, i2, i3, i4, i5, i6, i7⟩
        dsimp only at i1 i2 i3 i4 i5 i6 i7 ⊢
        by_cases hj : k + j < l.length
        · obtain ⟨u, hu⟩ : ∃ u, l[k + j]? = some u := ⟨_, List.getElem?_eq_getElem hj⟩
          obtain ⟨z, hz⟩ : ∃ z, l[k + j - 1]? = some z := ⟨_, List.getElem?_eq_getElem (by omega)⟩
          have hcu : c[k + j]? = some u := by
            have := congrArg (fun l => l[1]?) i7
            simp only [List.getElem?_drop] at this
            rw [show k + j - 1 + 1 = k + j by omega] at this
            rw [this, hu]
          have hcz : c[k + (j - 1)]? = some z := by
            have := congrArg (fun l => l[0]?) i7
            simp only [List.getElem?_drop, Nat.add_zero] at this
            rw [show k + (j - 1) = k + j - 1 by omega, this, hz]
          have g3 := getE2 tl hcu
          have g4 := getE2 tl hcz
          rw [show ((j - 1 : Nat) : Int) = (j : Int) - 1 by omega] at g4
          have hlast2 : (l.take (k + j)).getLast? = some z := by
            rw [List.getLast?_eq_getElem?, List.length_take, Nat.min_eq_left (by omega), List.getElem?_take, if_pos (by omega), hz]
          have hsn2 : l.take (k + (j + 1)) = l.take (k + j) ++ [u] := by rw [← Nat.add_assoc, List.take_add_one, hu]; rfl
          have hd2 := dedupAdj_snoc u (l.take (k + j))
          rw [hlast2, ← hsn2] at hd2
          refine T.seq ?_
          refine T.seq ?_
          refine T.region ?_
          refine T.pv (PV.move rfl) Wanted.none rfl rfl ?_
          refine T.pv (PV.move rfl) Wanted.none rfl rfl ?_
          refine T.pv (PV.lenSl rfl) Wanted.none rfl rfl ?_
          refine T.pv (PV.lss rfl rfl) Wanted.none rfl rfl ?_
          refine T.opsNil ?_
          refine T.condT rfl (decide_eq_true (by omega)) ?_
          refine T.skip ?_
          refine T.seq ?_
          refine T.block ?_
          refine T.seq ?_
          refine T.regionQ (by kernel_rfl) ?_
          refine TQ.pv (PV.move rfl) Wanted.none rfl rfl ?_
          refine TQ.pv (PV.move rfl) Wanted.none rfl rfl ?_
          refine TQ.pv (PV.indexAddr rfl rfl (by omega)) Wanted.none rfl rfl ?_
          refine TQ.pv (PV.loadAgg rfl (by first | exact .fro (by assumption) | exact .own (by repeat (first | exact List.Mem.head _ | apply List.Mem.tail | apply List.mem_append_right))) (by assumption) (by exact rfl)) Wanted.none rfl rfl ?_
          refine TQ.pv (PV.move rfl) Wanted.none rfl rfl ?_
          refine TQ.pv (PV.move rfl) Wanted.none rfl rfl ?_
          refine TQ.pv (PV.sub rfl rfl (by omega)) Wanted.none rfl rfl ?_
          refine TQ.pv (PV.indexAddr rfl rfl (by omega)) Wanted.none rfl rfl ?_
          refine TQ.pv (PV.loadAgg rfl (by first | exact .fro (by assumption) | exact .own (by repeat (first | exact List.Mem.head _ | apply List.Mem.tail | apply List.mem_append_right))) (by assumption) (by exact rfl)) Wanted.none rfl rfl ?_
          refine TQ.pv (PV.aneq rfl rfl rfl rfl) Wanted.none rfl rfl ?_
          refine TQ.nil ?_
          rw [eqS_eq]
          refine T.cond rfl (fun hc => ?_) (fun hc => ?_)
          · have hne2 : ¬ u = z := by simpa using hc
            rw [if_neg (fun e => hne2 (by injection e with e; exact e.symm))] at hd2
            refine T.seq ?_
            refine T.region ?_
            refine T.pv (PV.move rfl) Wanted.none rfl rfl ?_
            refine T.pv (PV.move rfl) Wanted.none rfl rfl ?_
            refine T.pv (PV.move rfl) Wanted.none rfl rfl ?_
            refine T.pv (PV.move rfl) Wanted.none rfl rfl ?_
            refine T.pv (PV.indexAddr rfl rfl (by omega)) Wanted.none rfl rfl ?_
            refine T.pv (PV.loadAgg rfl (by first | exact .fro (by assumption) | exact .own (by repeat (first | exact List.Mem.head _ | apply List.Mem.tail | apply List.mem_append_right))) (by assumption) (by exact rfl)) Wanted.none rfl rfl ?_
            refine T.pv (PV.indexAddr rfl rfl (by omega)) Wanted.none rfl rfl ?_
            refine T.storeA Wanted.none rfl rfl ⟨rfl, rfl, trivial⟩ (by exact rfl) Upd.head (splice_set u tl (by omega)) ?_
            refine T.opsNil ?_
            refine T.region ?_
            refine T.pv (PV.move rfl) Wanted.none rfl rfl ?_
            refine T.pv (PV.add rfl rfl (by omega)) Wanted.none rfl rfl ?_
            refine T.pv (PV.assign rfl) Wanted.none rfl rfl ?_
            refine T.opsNil ?_
            refine T.blkEnd ?_
            refine T.region ?_
            refine T.pv (PV.move rfl) Wanted.none rfl rfl ?_
            refine T.pv (PV.add rfl rfl (by omega)) Wanted.none rfl rfl ?_
            refine T.pv (PV.assign rfl) Wanted.none rfl rfl ?_
            refine T.opsNil ?_
            refine T.next ⟨j + 1, m + 1, c.set m u⟩ ⟨by dsimp only; omega, by dsimp only; omega, by dsimp only; omega, by dsimp only; omega, by dsimp only; rw [List.length_set]; exact i5, ?_, ?_⟩ (by dsimp only; omega) (by repeat (first | exact trivial | refine And.intro rfl ?_)) (by repeat (first | exact List.Sublist.slnil | exact List.nil_sublist _ | exact List.Sublist.refl _ | exact List.sublist_append_left _ [] | apply List.Sublist.cons_cons | apply List.Sublist.cons | refine List.Sublist.append_left ?_ _ | refine List.sublist_append_of_sublist_right ?_)) rfl
            · dsimp only
              rw [hd2, ← i6, List.take_add_one, List.getElem?_set_self (by omega), List.take_set_of_le (Nat.le_refl _)]; rfl
            · dsimp only
              rw [show k + (j + 1) - 1 = k + j - 1 + 1 by omega, ← List.drop_drop, ← List.drop_drop, ← i7, List.drop_drop, List.drop_drop, List.drop_set_of_lt (by omega)]
          · have heq2 : u = z := by simpa using hc
            rw [if_pos (by rw [heq2])] at hd2
            refine T.skip ?_
            refine T.blkEnd ?_
            refine T.region ?_
            refine T.pv (PV.move rfl) Wanted.none rfl rfl ?_
            refine T.pv (PV.add rfl rfl (by omega)) Wanted.none rfl rfl ?_
            refine T.pv (PV.assign rfl) Wanted.none rfl rfl ?_
            refine T.opsNil ?_
            refine T.next ⟨j + 1, m, c⟩ ⟨by dsimp only; omega, by dsimp only; omega, by dsimp only; omega, by dsimp only; omega, i5, by dsimp only; rw [hd2]; exact i6, ?_⟩ (by dsimp only; omega) (by repeat (first | exact trivial | refine And.intro rfl ?_)) (by repeat (first | exact List.Sublist.slnil | exact List.nil_sublist _ | exact List.Sublist.refl _ | exact List.sublist_append_left _ [] | apply List.Sublist.cons_cons | apply List.Sublist.cons | refine List.Sublist.append_left ?_ _ | refine List.sublist_append_of_sublist_right ?_)) rfl
            dsimp only
            rw [show k + (j + 1) - 1 = k + j - 1 + 1 by omega, ← List.drop_drop, ← List.drop_drop, i7]
        · have hke : l.take (k + j) = l := List.take_of_length_le (by omega)
          rw [hke] at i6
          have hdl := dedupAdj_len l
          have hml : m = (dedupAdj l).length := by rw [← i6, List.length_take, i5]; omega
          have hcl : (c.flatMap encS ++ tl).length = cap * 2 := by rw [← r3, List.length_append, List.length_append, flatS_len, flatS_len, i5]
          refine T.seq ?_
          refine T.seq ?_
          refine T.region ?_
          refine T.pv (PV.move rfl) Wanted.none rfl rfl ?_
          refine T.pv (PV.move rfl) Wanted.none rfl rfl ?_
          refine T.pv (PV.lenSl rfl) Wanted.none rfl rfl ?_
          refine T.pv (PV.lss rfl rfl) Wanted.none rfl rfl ?_
          refine T.opsNil ?_
          refine T.condF rfl (decide_eq_false (by omega)) ?_
          refine T.exit rfl ?_
          refine T.seq ?_
          refine T.region ?_
          refine T.pv (PV.move rfl) Wanted.none rfl rfl ?_
          refine T.pv (PV.move rfl) Wanted.none rfl rfl ?_
          refine T.pv (PV.sliceLP rfl rfl (by omega)) Wanted.none rfl rfl ?_
          refine T.clearOwn [] Wanted.none rfl rfl rfl (by exact ⟨rfl, rfl, trivial⟩) (by rw [hcl, Int.toNat_natCast]; omega) ?_
          intro zs hzs
          refine T.opsNil ?_
          refine T.seq ?_
          refine T.region ?_
          refine T.pv (PV.move rfl) Wanted.none rfl rfl ?_
          refine T.pv (PV.move rfl) Wanted.none rfl rfl ?_
          refine T.pv (PV.sliceH rfl rfl (by omega)) Wanted.none rfl rfl ?_
          refine T.pv (PV.assign rfl) Wanted.none rfl rfl ?_
          refine T.opsNil ?_
          have hpre : (c.flatMap encS ++ tl).take (0 + ((m : Nat) : Int).toNat * 2) = (dedupAdj l).flatMap encS := by
            rw [Nat.zero_add, Int.toNat_natCast, List.take_append_of_le_length (by rw [flatS_len]; omega), ← i6]
            conv => lhs; rw [← List.take_append_drop m c, List.flatMap_append]
            exact List.take_left' (by rw [flatS_len, List.length_take]; omega)
          refine T.retW (Lv.finW _ (List.Sublist.refl _) (RV.tmp rfl rfl) ⟨rfl, ?_⟩)
          rw [hpre, Int.toNat_natCast]
          refine ⟨flatS_len _, .inr ⟨b, cap, _, by rw [hml], rfl, by omega, r2, ?_, ?_⟩⟩
          · rw [List.length_append, List.length_append, hzs, flatS_len, List.length_drop, hcl, Int.toNat_natCast]; omega
          · rw [List.append_assoc, ← flatS_len, List.take_left]
      · rw [if_neg (fun e => hc (by injection e with e; exact e.symm))] at hdd
        refine T.skip ?_
        refine T.blkEnd ?_
        refine T.region ?_
        refine T.pv (PV.move rfl) Wanted.none rfl rfl ?_
        refine T.pv (PV.add rfl rfl (by omega)) Wanted.none rfl rfl ?_
        refine T.pv (PV.assign rfl) Wanted.none rfl rfl ?_
        refine T.opsNil ?_
        exact T.next (k + 1) ⟨by omega, by omega, by rw [hdd, hsn]⟩ (by omega) (by repeat (first | exact trivial | refine And.intro rfl ?_)) (by repeat (first | exact List.Sublist.slnil | exact List.nil_sublist _ | exact List.Sublist.refl _ | exact List.sublist_append_left _ [] | apply List.Sublist.cons_cons | apply List.Sublist.cons | refine List.Sublist.append_left ?_ _ | refine List.sublist_append_of_sublist_right ?_)) rfl
    · refine T.seq ?_
      refine T.seq ?_
      refine T.region ?_
      refine T.pv (PV.move rfl) Wanted.none rfl rfl ?_
      refine T.pv (PV.move rfl) Wanted.none rfl rfl ?_
      refine T.pv (PV.lenSl rfl) Wanted.none rfl rfl ?_
      refine T.pv (PV.lss rfl rfl) Wanted.none rfl rfl ?_
      refine T.opsNil ?_
      refine T.condF rfl (decide_eq_false (by omega)) ?_
      refine T.exit rfl ?_
      refine T.seq ?_
      refine T.region ?_
      refine T.pv (PV.move rfl) Wanted.none rfl rfl ?_
      refine T.pv (PV.assign rfl) Wanted.none rfl rfl ?_
      refine T.opsNil ?_
      have hke : l.take k = l := List.take_of_length_le (by omega)
      rw [hke] at k3
      exact T.retW (Lv.finW _ (List.Sublist.refl _) (RV.tmp rfl rfl) ⟨rfl, by rw [k3]; exact hv⟩)

end Go.Proofs.Ytceaicameojcaaa
