/- strategy: the laws' lists of matches. -/
import Derived.Test.YtceaicameojcaaaS11
namespace Go.Proofs.Ytceaicameojcaaa
open Go.RowKit

theorem takeM (l : List Mt) (k : Nat) (h : k ≤ l.length) : (l.flatMap encM).take (k * 3) = (l.take k).flatMap encM := by
  have : l.flatMap encM = (l.take k).flatMap encM ++ (l.drop k).flatMap encM := by rw [← List.flatMap_append, List.take_append_drop]
  rw [this, List.take_left' (by rw [flatM_len, List.length_take]; congr 1; omega)]
theorem dropM (l : List Mt) (k : Nat) (h : k ≤ l.length) : (l.flatMap encM).drop (k * 3) = (l.drop k).flatMap encM := by
  have : l.flatMap encM = (l.take k).flatMap encM ++ (l.drop k).flatMap encM := by rw [← List.flatMap_append, List.take_append_drop]
  rw [this, List.drop_left' (by rw [flatM_len, List.length_take]; congr 1; omega)]
theorem MtS.pre {H : Hp} {ad : Option Addr} {cap : Nat} {l : List Mt} (h : SlR H 3 (.slice ad l.length cap) l.length (l.flatMap encM)) {k : Nat} (hk : k ≤ l.length) : SlR H 3 (.slice ad ((k : Nat) : Int).toNat cap) k ((l.take k).flatMap encM) := by
  have := h.pre hk
  rw [takeM l k hk] at this
  rw [Int.toNat_natCast]; exact this
theorem MtS.suf {H : Hp} {ad : Option Addr} {cap : Nat} {l : List Mt} (h : SlR H 3 (.slice ad l.length cap) l.length (l.flatMap encM)) {k : Nat} (hk : k ≤ l.length) : SlR H 3 (slV 3 ad ((k : Nat) : Int).toNat l.length cap) (l.length - k) ((l.drop k).flatMap encM) := by
  have := h.slice (lo := k) (hi := l.length) hk (Nat.le_refl _)
  rw [dropM l k hk, List.take_of_length_le (by rw [flatM_len, List.length_drop]; omega)] at this
  rw [Int.toNat_natCast]; exact this
theorem appM {H : Hp} {v : Value} {l r : List Mt} {k : Nat} {s : Mt} (h : SlR H 3 v (0 + k + 1 + (l.length - k)) ([] ++ (l.take k).flatMap encM ++ encM s ++ (l.drop k).flatMap encM)) (hk : k ≤ l.length) (hr : r = l.take k ++ s :: l.drop k) : SlR H 3 v r.length (r.flatMap encM) := by
  subst hr
  have e1 : (l.take k ++ s :: l.drop k).length = 0 + k + 1 + (l.length - k) := by rw [List.length_append, List.length_cons, List.length_take, List.length_drop]; omega
  have e2 : (l.take k ++ s :: l.drop k).flatMap encM = [] ++ (l.take k).flatMap encM ++ encM s ++ (l.drop k).flatMap encM := by simp
  rw [e1, e2]; exact h
theorem one_flatM {H : Hp} {l : List Mt} (h : ∀ m ∈ l, LabOk H m) : ∀ v ∈ l.flatMap encM, v.oneCell' = true := by
  intro v hv
  obtain ⟨s, hs, hs2⟩ := List.mem_flatMap.1 hv
  exact one_encM (h s hs) v hs2
theorem T.sub {P : Program} {X : Cx} {e : Env} {l l' : List (Nat × Obj)} {H : Hp} {D : List Deferred} {k : List It} (hl : List.Sublist l' l) (h : T P X e l' H D k) : T P X e l H D k := T.mk fun a w ha hw => h.get a w ha (hw.sub hl)
/-- the rest once, for all that a region may have come to -/
theorem T.cut1F {P : Program} {X : Cx} {e : Env} {l : List (Nat × Obj)} {H : Hp} {D : List Deferred} {a : It} {k : List It} {γ : Type} (C : γ → Prop) (e' : γ → Env) (l' : γ → List (Nat × Obj)) (K : ∀ g, C g → T P X (e' g) (l' g) H D k)
    (h : (∀ g e l, C g → Env.Sub (e' g) e → List.Sublist (l' g) l → T P X e l H D k) → T P X e l H D (a :: k)) : T P X e l H D (a :: k) :=
  h fun g _ _ hc he hl => T.weak he hl (K g hc)
theorem T.cut2F {P : Program} {X : Cx} {e : Env} {l : List (Nat × Obj)} {H : Hp} {D : List Deferred} {a b : It} {k : List It} {γ : Type} (C : γ → Prop) (e' : γ → Env) (l' : γ → List (Nat × Obj)) (K : ∀ g, C g → T P X (e' g) (l' g) H D k)
    (h : (∀ g e l, C g → Env.Sub (e' g) e → List.Sublist (l' g) l → T P X e l H D k) → T P X e l H D (a :: b :: k)) : T P X e l H D (a :: b :: k) :=
  h fun g _ _ hc he hl => T.weak he hl (K g hc)
/-- a match of a made list -/
def okM (L : Nat) (m : Mt) : Prop := 0 ≤ m.b ∧ m.b ≤ 8 ∧ m.b < m.e ∧ m.e ≤ 14 ∧ m.ls.length = L
def goodL (L : Nat) (a : List Mt) : Prop := ascM a ∧ a.length ≤ 13 ∧ ∀ m ∈ a, okM L m
theorem goodL.ok {L : Nat} {a : List Mt} (h : goodL L a) : ∀ m ∈ a, okS (spm m) := fun m hm => ⟨(h.2.2 m hm).1, (h.2.2 m hm).2.2.1⟩
theorem goodL.good {L : Nat} {a : List Mt} (h : goodL L a) {k : Int} (hk : 0 ≤ k ∧ k ≤ 3) : goodM k a := ⟨hk, h.ok, h.1⟩
abbrev insM (l : List Mt) (m : Mt) : List Mt := insB keyM ltK l m
structure LiG where
  n : Nat
  t : Tp
  v : Value
  a : List Mt
  H : Hp
structure LaG where
  i : Nat
  t : Tp
  v : Value
  lv : List (Nat × Obj)
  ls : List Int
set_option maxHeartbeats 4000000 in
theorem list_fn (l : List Int) (v : Value) (H : Hp) (hv : InL H v l) (hl : l.length ≤ 9223372036854775807) (hr : ∀ x ∈ l, -9223372036854775808 ≤ x ∧ x ≤ 9223372036854775807) : Fn Try.prog 10 #[v] H (fun u H' => ∃ a L, MtL H' u a ∧ goodL L a) := by
  obtain ⟨ad, cap, rfl⟩ := hv.len
  refine Fn.of_T (vs := [.slice ad l.length cap]) Try.func10 rfl rfl fun w => ?_
  refine T.seq ?_
  refine T.region ?_
  refine T.pv (PV.assign rfl) Wanted.none rfl rfl ?_
  refine T.opsNil ?_
  refine T.seq ?_
  refine T.region ?_
  refine T.pv (PV.move rfl) Wanted.none rfl rfl ?_
  refine T.callW Wanted.none rfl rfl (new_fn l _ H hv hl hr) Pick.nil ?_
  rintro u1 H1 l1 _ ⟨rfl, bt, t1, rfl, ht1, rfl⟩
  refine T.pv (PV.assign rfl) Wanted.none rfl rfl ?_
  refine T.opsNil ?_
  refine T.seq ?_
  refine T.region ?_
  refine T.pv (PV.move rfl) Wanted.none rfl rfl ?_
  refine T.callW Wanted.none rfl rfl (next_fn bt t1 2 _ ht1 (by omega)) (by first | exact .all | exact .allA | exact .leave .all | exact .leave .allA) ?_
  rintro u2 H2 l2 _ ⟨rfl, L, t2, rfl, hL, ht2, rfl⟩
  refine T.pv (PV.assign rfl) Wanted.none rfl rfl ?_
  refine T.opsNil ?_
  refine T.seq ?_
  refine T.region ?_
  refine T.pv (PV.assign rfl) Wanted.none rfl rfl ?_
  refine T.opsNil ?_
  refine T.seq ?_
  refine T.seq ?_
  refine T.region ?_
  refine T.pv (PV.move rfl) Wanted.none rfl rfl ?_
  refine T.callW Wanted.none rfl rfl (next_fn bt t2 14 _ ht2 (by omega)) (by first | exact .all | exact .allA | exact .leave .all | exact .leave .allA) ?_
  rintro u3 H3 l3 _ ⟨rfl, n, t3, rfl, hn, ht3, rfl⟩
  refine T.pv (PV.assign rfl) Wanted.none rfl rfl ?_
  refine T.opsNil ?_
  refine T.block ?_
  obtain ⟨L, rfl⟩ : ∃ k : Nat, L = (k : Int) := ⟨L.toNat, by omega⟩
  obtain ⟨n, rfl⟩ : ∃ k : Nat, n = (k : Int) := ⟨n.toNat, by omega⟩
  refine T.loop (γ := LiG) (fun g => H.le g.H ∧ g.t.ok g.H ∧ MtL g.H g.v g.a ∧ ascM g.a ∧ g.a.length + g.n ≤ 13 ∧ ∀ m ∈ g.a, okM L m)
    (fun g => [(6, .int .i64 (g.n : Int)), (5, g.v), (4, .int .i64 (L : Int)), (3, .pointer (some ⟨bt, 0, none⟩))])
    (fun g => [Tp.blk bt g.t]) (fun g => g.H) (fun g => g.n) ⟨n, t3, .slice none 0 0, [], H⟩ ⟨Hp.le.refl _, ht3, ⟨SlR.empty, by simp⟩, List.Pairwise.nil, by dsimp only [List.length_nil]; omega, by simp⟩ (by repeat (first | exact trivial | refine And.intro rfl ?_)) (by repeat (first | exact List.Sublist.slnil | exact List.nil_sublist _ | exact List.Sublist.refl _ | exact List.sublist_append_left _ [] | apply List.Sublist.cons_cons | apply List.Sublist.cons | refine List.Sublist.append_left ?_ _ | refine List.sublist_append_of_sublist_right ?_)) rfl ?_
  rintro ⟨n, t, u, a, Hj⟩ ⟨g1, g2, g3, g4, g5, g6⟩
  dsimp only at g1 g2 g3 g4 g5 g6 ⊢
  by_cases hn0 : n = 0
  · subst hn0
    refine T.seq ?_
    refine T.seq ?_
    refine T.region ?_
    refine T.pv (PV.move rfl) Wanted.none rfl rfl ?_
    refine T.pv (PV.gtr rfl rfl) Wanted.none rfl rfl ?_
    refine T.opsNil ?_
    refine T.condF rfl rfl ?_
    refine T.exit rfl ?_
    refine T.seq ?_
    refine T.region ?_
    refine T.pv (PV.move rfl) Wanted.none rfl rfl ?_
    refine T.pv (PV.assign rfl) Wanted.none rfl rfl ?_
    refine T.opsNil ?_
    exact T.retF (Lv.fin (RV.tmp rfl rfl) ⟨a, L, g3, g4, by omega, g6⟩)
  refine T.seq ?_
  refine T.seq ?_
  refine T.region ?_
  refine T.pv (PV.move rfl) Wanted.none rfl rfl ?_
  refine T.pv (PV.gtr rfl rfl) Wanted.none rfl rfl ?_
  refine T.opsNil ?_
  refine T.condT rfl (decide_eq_true (by omega)) ?_
  refine T.skip ?_
  refine T.seq ?_
  refine T.block ?_
  refine T.seq ?_
  refine T.region ?_
  refine T.pv (PV.move rfl) Wanted.none rfl rfl ?_
  refine T.callW Wanted.none rfl rfl (next_fn bt t 9 _ g2 (by omega)) (by first | exact .all | exact .allA | exact .leave .all | exact .leave .allA) ?_
  rintro u4 H4 l4 _ ⟨rfl, mb, t4, rfl, hmb, ht4, rfl⟩
  have hend : ∀ x : Int, 0 ≤ x ∧ x < 5 → -9223372036854775808 ≤ mb + 1 + x ∧ mb + 1 + x ≤ 9223372036854775807 := fun x hx => by omega
  refine T.pv (PV.build rfl (by repeat (first | exact FillR.nil | (apply FillR.cons rfl; (first | exact CellsR.one rfl | exact CellsR.agg); rfl; repeat (first | exact Splice.nil | apply Splice.cons | apply Splice.skip))))) Wanted.none rfl rfl ?_
  (refine T.alloc Wanted.none rfl ?_; intro b7)
  refine T.storeA Wanted.none rfl rfl (by repeat (first | exact trivial | refine And.intro rfl ?_)) (by exact rfl) (by repeat (first | exact Upd.head | apply Upd.tail | apply Upd.app)) (by repeat (first | exact Splice.nil | apply Splice.cons | apply Splice.skip)) ?_
  refine T.opsNil ?_
  refine T.seq ?_
  refine T.cut1F (fun (p : Tp × Int) => p.1.ok Hj ∧ mb < p.2 ∧ p.2 ≤ 14) (fun p => [(7, .pointer (some ⟨b7, 0, none⟩)), (6, .int .i64 (n : Int)), (5, u), (4, .int .i64 (L : Int)), (3, .pointer (some ⟨bt, 0, none⟩))])
    (fun p => [Tp.blk bt p.1, (b7, .cells #[.int .i64 mb, .int .i64 p.2, .slice none 0 0] 38 (0, 0))]) ?_ fun K => ?_
  rotate_left
  · refine T.regionOr (lc := []) (List.nil_sublist _) (by kernel_rfl) ?_
    refine TO.take 0 rfl (by kernel_rfl) (by kernel_rfl) (by kernel_rfl) (PV.fieldAddr rfl) Wanted.none rfl rfl ?_
    refine TO.take 3 rfl (by kernel_rfl) (by kernel_rfl) (by kernel_rfl) (PV.move rfl) Wanted.none rfl rfl ?_
    refine TO.both 1 4 rfl rfl (by kernel_rfl) (List.nil_sublist _) (Hp.le.refl _) ?_ ?_
    · refine T.pv (PV.load1 rfl (by first | exact .fro (by assumption) | exact .own (by repeat (first | exact List.Mem.head _ | apply List.Mem.tail | apply List.mem_append_right))) rfl) Wanted.none rfl rfl ?_
      refine T.opsNil ?_
      refine TO.back ?_
      refine TO.take 2 rfl (by kernel_rfl) (by kernel_rfl) (by kernel_rfl) (PV.add rfl rfl (by omega)) Wanted.none rfl rfl ?_
      refine TO.step 4 rfl (by kernel_rfl) (by repeat (first | exact List.Sublist.slnil | exact List.nil_sublist _ | exact List.Sublist.refl _ | exact List.sublist_append_left _ [] | apply List.Sublist.cons_cons | apply List.Sublist.cons | refine List.Sublist.append_left ?_ _ | refine List.sublist_append_of_sublist_right ?_)) (by first | exact Hp.le.refl _ | assumption | exact Hp.le.trans (by assumption) (by assumption)) ?_
      refine T.callW Wanted.none rfl rfl (next_fn bt t4 5 _ ht4 (by omega)) (by first | exact .all | exact .allA | exact .leave .all | exact .leave .allA | exact .take .nil) ?_
      rintro u5 H5 l5 _ ⟨rfl, me, t5, rfl, hme, ht5, rfl⟩
      refine T.opsNil ?_
      refine TO.back ?_
      refine TO.take 5 rfl (by kernel_rfl) (by kernel_rfl) (by kernel_rfl) (PV.add rfl rfl (by omega)) Wanted.none rfl rfl ?_
      refine TO.take 6 rfl (by kernel_rfl) (by kernel_rfl) (by kernel_rfl) (PV.fieldAddr rfl) Wanted.none rfl rfl ?_
      refine TO.step 7 rfl (by kernel_rfl) (by repeat (first | exact List.Sublist.slnil | exact List.nil_sublist _ | exact List.Sublist.refl _ | exact List.sublist_append_left _ [] | apply List.Sublist.cons_cons | apply List.Sublist.cons | refine List.Sublist.append_left ?_ _ | refine List.sublist_append_of_sublist_right ?_)) (by first | exact Hp.le.refl _ | assumption | exact Hp.le.trans (by assumption) (by assumption)) ?_
      refine T.store1 Wanted.none rfl rfl rfl (by repeat (first | exact Upd.head | apply Upd.tail | apply Upd.app)) (by repeat (first | exact Splice.nil | apply Splice.cons | apply Splice.skip)) ?_
      refine T.opsNil ?_
      refine TO.back ?_
      refine TO.done (by kernel_rfl) (by repeat (first | exact List.Sublist.slnil | exact List.nil_sublist _ | exact List.Sublist.refl _ | exact List.sublist_append_left _ [] | apply List.Sublist.cons_cons | apply List.Sublist.cons | refine List.Sublist.append_left ?_ _ | refine List.sublist_append_of_sublist_right ?_)) (by first | exact Hp.le.refl _ | assumption | exact Hp.le.trans (by assumption) (by assumption)) ?_
      exact K (t5, mb + 1 + me) _ _ ⟨ht5, by dsimp only; omega, by dsimp only; omega⟩ (by repeat (first | exact trivial | refine And.intro rfl ?_)) (by repeat (first | exact List.Sublist.slnil | exact List.nil_sublist _ | exact List.Sublist.refl _ | exact List.sublist_append_left _ [] | apply List.Sublist.cons_cons | apply List.Sublist.cons | refine List.Sublist.append_left ?_ _ | refine List.sublist_append_of_sublist_right ?_))
    · skip
      refine T.callW Wanted.none rfl rfl (next_fn bt t4 5 _ ht4 (by omega)) (by first | exact .all | exact .allA | exact .leave .all | exact .leave .allA | exact .take .nil) ?_
      rintro u5 H5 l5 _ ⟨rfl, me, t5, rfl, hme, ht5, rfl⟩
      refine T.opsNil ?_
      refine TO.back ?_
      refine TO.step 1 rfl (by kernel_rfl) (by repeat (first | exact List.Sublist.slnil | exact List.nil_sublist _ | exact List.Sublist.refl _ | exact List.sublist_append_left _ [] | apply List.Sublist.cons_cons | apply List.Sublist.cons | refine List.Sublist.append_left ?_ _ | refine List.sublist_append_of_sublist_right ?_)) (by first | exact Hp.le.refl _ | assumption | exact Hp.le.trans (by assumption) (by assumption)) ?_
      refine T.pv (PV.load1 rfl (by first | exact .fro (by assumption) | exact .own (by repeat (first | exact List.Mem.head _ | apply List.Mem.tail | apply List.mem_append_right))) rfl) Wanted.none rfl rfl ?_
      refine T.opsNil ?_
      refine TO.back ?_
      refine TO.take 2 rfl (by kernel_rfl) (by kernel_rfl) (by kernel_rfl) (PV.add rfl rfl (by omega)) Wanted.none rfl rfl ?_
      refine TO.take 5 rfl (by kernel_rfl) (by kernel_rfl) (by kernel_rfl) (PV.add rfl rfl (by omega)) Wanted.none rfl rfl ?_
      refine TO.take 6 rfl (by kernel_rfl) (by kernel_rfl) (by kernel_rfl) (PV.fieldAddr rfl) Wanted.none rfl rfl ?_
      refine TO.step 7 rfl (by kernel_rfl) (by repeat (first | exact List.Sublist.slnil | exact List.nil_sublist _ | exact List.Sublist.refl _ | exact List.sublist_append_left _ [] | apply List.Sublist.cons_cons | apply List.Sublist.cons | refine List.Sublist.append_left ?_ _ | refine List.sublist_append_of_sublist_right ?_)) (by first | exact Hp.le.refl _ | assumption | exact Hp.le.trans (by assumption) (by assumption)) ?_
      refine T.store1 Wanted.none rfl rfl rfl (by repeat (first | exact Upd.head | apply Upd.tail | apply Upd.app)) (by repeat (first | exact Splice.nil | apply Splice.cons | apply Splice.skip)) ?_
      refine T.opsNil ?_
      refine TO.back ?_
      refine TO.done (by kernel_rfl) (by repeat (first | exact List.Sublist.slnil | exact List.nil_sublist _ | exact List.Sublist.refl _ | exact List.sublist_append_left _ [] | apply List.Sublist.cons_cons | apply List.Sublist.cons | refine List.Sublist.append_left ?_ _ | refine List.sublist_append_of_sublist_right ?_)) (by first | exact Hp.le.refl _ | assumption | exact Hp.le.trans (by assumption) (by assumption)) ?_
      exact K (t5, mb + 1 + me) _ _ ⟨ht5, by dsimp only; omega, by dsimp only; omega⟩ (by repeat (first | exact trivial | refine And.intro rfl ?_)) (by repeat (first | exact List.Sublist.slnil | exact List.nil_sublist _ | exact List.Sublist.refl _ | exact List.sublist_append_left _ [] | apply List.Sublist.cons_cons | apply List.Sublist.cons | refine List.Sublist.append_left ?_ _ | refine List.sublist_append_of_sublist_right ?_))
  rintro ⟨t5, me⟩ ⟨ht5, hme1, hme2⟩
  dsimp only at ht5 hme1 hme2 ⊢
  refine T.seq ?_
  refine T.seq ?_
  refine T.region ?_
  refine T.pv (PV.assign rfl) Wanted.none rfl rfl ?_
  refine T.opsNil ?_
  refine T.block ?_
  refine T.loop (γ := LaG) (fun g => g.i ≤ L ∧ g.t.ok Hj ∧ Vec 3 1 g.v g.lv g.ls.length (intsV g.ls) ∧ g.ls.length = g.i)
    (fun g => [(8, .int .i64 (g.i : Int)), (7, .pointer (some ⟨b7, 0, none⟩)), (6, .int .i64 (n : Int)), (5, u), (4, .int .i64 (L : Int)), (3, .pointer (some ⟨bt, 0, none⟩))])
    (fun g => [Tp.blk bt g.t, (b7, .cells #[.int .i64 mb, .int .i64 me, g.v] 38 (0, 0))] ++ g.lv) (fun _ => Hj) (fun g => L - g.i) ⟨0, t5, .slice none 0 0, [], []⟩ ⟨by simp, ht5, Vec.nil _ _, rfl⟩ (by repeat (first | exact trivial | refine And.intro rfl ?_)) (by repeat (first | exact List.Sublist.slnil | exact List.nil_sublist _ | exact List.Sublist.refl _ | exact List.sublist_append_left _ [] | apply List.Sublist.cons_cons | apply List.Sublist.cons | refine List.Sublist.append_left ?_ _ | refine List.sublist_append_of_sublist_right ?_)) rfl ?_
  rintro ⟨i, t6, vl, lvl, ls⟩ ⟨i1, ht6, hvl, hls⟩
  dsimp only at i1 ht6 hvl hls ⊢
  obtain ⟨avl, cvl, rfl⟩ := hvl.val
  by_cases hiL : i < L
  · refine T.seq ?_
    refine T.seq ?_
    refine T.region ?_
    refine T.pv (PV.move rfl) Wanted.none rfl rfl ?_
    refine T.pv (PV.move rfl) Wanted.none rfl rfl ?_
    refine T.pv (PV.lss rfl rfl) Wanted.none rfl rfl ?_
    refine T.opsNil ?_
    refine T.condT rfl (decide_eq_true (by omega)) ?_
    refine T.skip ?_
    refine T.seq ?_
    refine T.block ?_
    refine T.cut2F (fun (g : LaG) => g.i = i + 1 ∧ g.t.ok Hj ∧ Vec 3 1 g.v g.lv g.ls.length (intsV g.ls) ∧ g.ls.length = g.i)
      (fun g => [(8, .int .i64 (i : Int)), (7, .pointer (some ⟨b7, 0, none⟩)), (6, .int .i64 (n : Int)), (5, u), (4, .int .i64 (L : Int)), (3, .pointer (some ⟨bt, 0, none⟩))])
      (fun g => [Tp.blk bt g.t, (b7, .cells #[.int .i64 mb, .int .i64 me, g.v] 38 (0, 0))] ++ g.lv) ?_ fun K => ?_
    rotate_left
    · refine T.regionOr (lc := []) (List.nil_sublist _) (by kernel_rfl) ?_
      refine TO.take 0 rfl (by kernel_rfl) (by kernel_rfl) (by kernel_rfl) (PV.fieldAddr rfl) Wanted.none rfl rfl ?_
      refine TO.take 2 rfl (by kernel_rfl) (by kernel_rfl) (by kernel_rfl) (PV.move rfl) Wanted.none rfl rfl ?_
      refine TO.both 1 3 rfl rfl (by kernel_rfl) (List.nil_sublist _) (Hp.le.refl _) ?_ ?_
      · refine T.pv (PV.load1 rfl (by first | exact .fro (by assumption) | exact .own (by repeat (first | exact List.Mem.head _ | apply List.Mem.tail | apply List.mem_append_right))) rfl) Wanted.none rfl rfl ?_
        refine T.opsNil ?_
        refine TO.back ?_
        refine TO.step 3 rfl (by kernel_rfl) (by repeat (first | exact List.Sublist.slnil | exact List.nil_sublist _ | exact List.Sublist.refl _ | exact List.sublist_append_left _ [] | apply List.Sublist.cons_cons | apply List.Sublist.cons | refine List.Sublist.append_left ?_ _ | refine List.sublist_append_of_sublist_right ?_)) (by first | exact Hp.le.refl _ | assumption | exact Hp.le.trans (by assumption) (by assumption)) ?_
        refine T.callW Wanted.none rfl rfl (next_fn bt t6 5 _ ht6 (by omega)) (by first | exact .all | exact .allA | exact .leave .all | exact .leave .allA | exact .take .nil) ?_
        rintro u7 H7 l7 _ ⟨rfl, lab, t7, rfl, hlab, ht7, rfl⟩
        refine T.opsNil ?_
        refine TO.back ?_
        refine TO.take 4 rfl (by kernel_rfl) (by kernel_rfl) (by kernel_rfl) (PV.sub rfl rfl (by omega)) Wanted.none rfl rfl ?_
        refine TO.step 5 rfl (by kernel_rfl) (by repeat (first | exact List.Sublist.slnil | exact List.nil_sublist _ | exact List.Sublist.refl _ | exact List.sublist_append_left _ [] | apply List.Sublist.cons_cons | apply List.Sublist.cons | refine List.Sublist.append_left ?_ _ | refine List.sublist_append_of_sublist_right ?_)) (by first | exact Hp.le.refl _ | assumption | exact Hp.le.trans (by assumption) (by assumption)) ?_
        (refine T.buildSlice Wanted.none rfl rfl (by repeat (first | exact FillAll.nil | (apply FillAll.cons; (first | exact CellsR.one rfl | exact CellsR.agg); exact rfl))) (by exact rfl) (by exact rfl) ?_; intro b40)
        refine T.opsNil ?_
        refine TO.back ?_
        refine TO.step 6 rfl (by kernel_rfl) (by repeat (first | exact List.Sublist.slnil | exact List.nil_sublist _ | exact List.Sublist.refl _ | exact List.sublist_append_left _ [] | apply List.Sublist.cons_cons | apply List.Sublist.cons | refine List.Sublist.append_left ?_ _ | refine List.sublist_append_of_sublist_right ?_)) (by first | exact Hp.le.refl _ | assumption | exact Hp.le.trans (by assumption) (by assumption)) ?_
        refine T.appendE [_, _, _] (lv := lvl) Wanted.none rfl rfl rfl hvl (Src.cells (m := 1) (ys := intsV [lab - 1]) (.own (by repeat (first | exact List.Mem.head _ | apply List.Mem.tail | apply List.mem_append_right))) rfl rfl) (one_ints _) (by omega) ?_
        intro v2 lv2 hv2 _
        obtain ⟨av2, cv2, rfl⟩ := hv2.val
        refine T.opsNil ?_
        refine TO.back ?_
        refine TO.take 7 rfl (by kernel_rfl) (by kernel_rfl) (by kernel_rfl) (PV.fieldAddr rfl) Wanted.none rfl rfl ?_
        refine TO.step 8 rfl (by kernel_rfl) (by repeat (first | exact List.Sublist.slnil | exact List.nil_sublist _ | exact List.Sublist.refl _ | exact List.sublist_append_left _ [] | apply List.Sublist.cons_cons | apply List.Sublist.cons | refine List.Sublist.append_left ?_ _ | refine List.sublist_append_of_sublist_right ?_)) (by first | exact Hp.le.refl _ | assumption | exact Hp.le.trans (by assumption) (by assumption)) ?_
        refine T.store1 Wanted.none rfl rfl rfl (by repeat (first | exact Upd.head | apply Upd.tail | apply Upd.app)) (by repeat (first | exact Splice.nil | apply Splice.cons | apply Splice.skip)) ?_
        refine T.opsNil ?_
        refine TO.back ?_
        refine TO.done (by kernel_rfl) (by repeat (first | exact List.Sublist.slnil | exact List.nil_sublist _ | exact List.Sublist.refl _ | exact List.sublist_append_left _ [] | apply List.Sublist.cons_cons | apply List.Sublist.cons | refine List.Sublist.append_left ?_ _ | refine List.sublist_append_of_sublist_right ?_)) (by first | exact Hp.le.refl _ | assumption | exact Hp.le.trans (by assumption) (by assumption)) ?_
        refine T.blkEnd ?_
        refine K ⟨i + 1, t7, _, lv2, ls ++ [lab - 1]⟩ _ _ ⟨rfl, ht7, ?_, by simp [hls]⟩ (by repeat (first | exact trivial | refine And.intro rfl ?_)) (by repeat (first | exact List.Sublist.slnil | exact List.nil_sublist _ | exact List.Sublist.refl _ | exact List.sublist_append_left _ [] | apply List.Sublist.cons_cons | apply List.Sublist.cons | refine List.Sublist.append_left ?_ _ | refine List.sublist_append_of_sublist_right ?_))
        dsimp only
        rw [List.length_append, show intsV (ls ++ [lab - 1]) = intsV ls ++ intsV [lab - 1] by simp [intsV]]
        exact hv2
      · skip
        refine T.callW Wanted.none rfl rfl (next_fn bt t6 5 _ ht6 (by omega)) (by first | exact .all | exact .allA | exact .leave .all | exact .leave .allA | exact .take .nil) ?_
        rintro u7 H7 l7 _ ⟨rfl, lab, t7, rfl, hlab, ht7, rfl⟩
        refine T.opsNil ?_
        refine TO.back ?_
        refine TO.take 4 rfl (by kernel_rfl) (by kernel_rfl) (by kernel_rfl) (PV.sub rfl rfl (by omega)) Wanted.none rfl rfl ?_
        refine TO.both 1 5 rfl rfl (by kernel_rfl) (List.nil_sublist _) (Hp.le.refl _) ?_ ?_
        · refine T.pv (PV.load1 rfl (by first | exact .fro (by assumption) | exact .own (by repeat (first | exact List.Mem.head _ | apply List.Mem.tail | apply List.mem_append_right))) rfl) Wanted.none rfl rfl ?_
          refine T.opsNil ?_
          refine TO.back ?_
          refine TO.step 5 rfl (by kernel_rfl) (by repeat (first | exact List.Sublist.slnil | exact List.nil_sublist _ | exact List.Sublist.refl _ | exact List.sublist_append_left _ [] | apply List.Sublist.cons_cons | apply List.Sublist.cons | refine List.Sublist.append_left ?_ _ | refine List.sublist_append_of_sublist_right ?_)) (by first | exact Hp.le.refl _ | assumption | exact Hp.le.trans (by assumption) (by assumption)) ?_
          (refine T.buildSlice Wanted.none rfl rfl (by repeat (first | exact FillAll.nil | (apply FillAll.cons; (first | exact CellsR.one rfl | exact CellsR.agg); exact rfl))) (by exact rfl) (by exact rfl) ?_; intro b40)
          refine T.opsNil ?_
          refine TO.back ?_
          refine TO.step 6 rfl (by kernel_rfl) (by repeat (first | exact List.Sublist.slnil | exact List.nil_sublist _ | exact List.Sublist.refl _ | exact List.sublist_append_left _ [] | apply List.Sublist.cons_cons | apply List.Sublist.cons | refine List.Sublist.append_left ?_ _ | refine List.sublist_append_of_sublist_right ?_)) (by first | exact Hp.le.refl _ | assumption | exact Hp.le.trans (by assumption) (by assumption)) ?_
          refine T.appendE [_, _, _] (lv := lvl) Wanted.none rfl rfl rfl hvl (Src.cells (m := 1) (ys := intsV [lab - 1]) (.own (by repeat (first | exact List.Mem.head _ | apply List.Mem.tail | apply List.mem_append_right))) rfl rfl) (one_ints _) (by omega) ?_
          intro v2 lv2 hv2 _
          obtain ⟨av2, cv2, rfl⟩ := hv2.val
          refine T.opsNil ?_
          refine TO.back ?_
          refine TO.take 7 rfl (by kernel_rfl) (by kernel_rfl) (by kernel_rfl) (PV.fieldAddr rfl) Wanted.none rfl rfl ?_
          refine TO.step 8 rfl (by kernel_rfl) (by repeat (first | exact List.Sublist.slnil | exact List.nil_sublist _ | exact List.Sublist.refl _ | exact List.sublist_append_left _ [] | apply List.Sublist.cons_cons | apply List.Sublist.cons | refine List.Sublist.append_left ?_ _ | refine List.sublist_append_of_sublist_right ?_)) (by first | exact Hp.le.refl _ | assumption | exact Hp.le.trans (by assumption) (by assumption)) ?_
          refine T.store1 Wanted.none rfl rfl rfl (by repeat (first | exact Upd.head | apply Upd.tail | apply Upd.app)) (by repeat (first | exact Splice.nil | apply Splice.cons | apply Splice.skip)) ?_
          refine T.opsNil ?_
          refine TO.back ?_
          refine TO.done (by kernel_rfl) (by repeat (first | exact List.Sublist.slnil | exact List.nil_sublist _ | exact List.Sublist.refl _ | exact List.sublist_append_left _ [] | apply List.Sublist.cons_cons | apply List.Sublist.cons | refine List.Sublist.append_left ?_ _ | refine List.sublist_append_of_sublist_right ?_)) (by first | exact Hp.le.refl _ | assumption | exact Hp.le.trans (by assumption) (by assumption)) ?_
          refine T.blkEnd ?_
          refine K ⟨i + 1, t7, _, lv2, ls ++ [lab - 1]⟩ _ _ ⟨rfl, ht7, ?_, by simp [hls]⟩ (by repeat (first | exact trivial | refine And.intro rfl ?_)) (by repeat (first | exact List.Sublist.slnil | exact List.nil_sublist _ | exact List.Sublist.refl _ | exact List.sublist_append_left _ [] | apply List.Sublist.cons_cons | apply List.Sublist.cons | refine List.Sublist.append_left ?_ _ | refine List.sublist_append_of_sublist_right ?_))
          dsimp only
          rw [List.length_append, show intsV (ls ++ [lab - 1]) = intsV ls ++ intsV [lab - 1] by simp [intsV]]
          exact hv2
        · (refine T.buildSlice Wanted.none rfl rfl (by repeat (first | exact FillAll.nil | (apply FillAll.cons; (first | exact CellsR.one rfl | exact CellsR.agg); exact rfl))) (by exact rfl) (by exact rfl) ?_; intro b40)
          refine T.opsNil ?_
          refine TO.back ?_
          refine TO.step 1 rfl (by kernel_rfl) (by repeat (first | exact List.Sublist.slnil | exact List.nil_sublist _ | exact List.Sublist.refl _ | exact List.sublist_append_left _ [] | apply List.Sublist.cons_cons | apply List.Sublist.cons | refine List.Sublist.append_left ?_ _ | refine List.sublist_append_of_sublist_right ?_)) (by first | exact Hp.le.refl _ | assumption | exact Hp.le.trans (by assumption) (by assumption)) ?_
          refine T.pv (PV.load1 rfl (by first | exact .fro (by assumption) | exact .own (by repeat (first | exact List.Mem.head _ | apply List.Mem.tail | apply List.mem_append_right))) rfl) Wanted.none rfl rfl ?_
          refine T.opsNil ?_
          refine TO.back ?_
          refine TO.step 6 rfl (by kernel_rfl) (by repeat (first | exact List.Sublist.slnil | exact List.nil_sublist _ | exact List.Sublist.refl _ | exact List.sublist_append_left _ [] | apply List.Sublist.cons_cons | apply List.Sublist.cons | refine List.Sublist.append_left ?_ _ | refine List.sublist_append_of_sublist_right ?_)) (by first | exact Hp.le.refl _ | assumption | exact Hp.le.trans (by assumption) (by assumption)) ?_
          refine T.appendE [_, _, _] (lv := lvl) Wanted.none rfl rfl rfl hvl (Src.cells (m := 1) (ys := intsV [lab - 1]) (.own (by repeat (first | exact List.Mem.head _ | apply List.Mem.tail | apply List.mem_append_right))) rfl rfl) (one_ints _) (by omega) ?_
          intro v2 lv2 hv2 _
          obtain ⟨av2, cv2, rfl⟩ := hv2.val
          refine T.opsNil ?_
          refine TO.back ?_
          refine TO.take 7 rfl (by kernel_rfl) (by kernel_rfl) (by kernel_rfl) (PV.fieldAddr rfl) Wanted.none rfl rfl ?_
          refine TO.step 8 rfl (by kernel_rfl) (by repeat (first | exact List.Sublist.slnil | exact List.nil_sublist _ | exact List.Sublist.refl _ | exact List.sublist_append_left _ [] | apply List.Sublist.cons_cons | apply List.Sublist.cons | refine List.Sublist.append_left ?_ _ | refine List.sublist_append_of_sublist_right ?_)) (by first | exact Hp.le.refl _ | assumption | exact Hp.le.trans (by assumption) (by assumption)) ?_
          refine T.store1 Wanted.none rfl rfl rfl (by repeat (first | exact Upd.head | apply Upd.tail | apply Upd.app)) (by repeat (first | exact Splice.nil | apply Splice.cons | apply Splice.skip)) ?_
          refine T.opsNil ?_
          refine TO.back ?_
          refine TO.done (by kernel_rfl) (by repeat (first | exact List.Sublist.slnil | exact List.nil_sublist _ | exact List.Sublist.refl _ | exact List.sublist_append_left _ [] | apply List.Sublist.cons_cons | apply List.Sublist.cons | refine List.Sublist.append_left ?_ _ | refine List.sublist_append_of_sublist_right ?_)) (by first | exact Hp.le.refl _ | assumption | exact Hp.le.trans (by assumption) (by assumption)) ?_
          refine T.blkEnd ?_
          refine K ⟨i + 1, t7, _, lv2, ls ++ [lab - 1]⟩ _ _ ⟨rfl, ht7, ?_, by simp [hls]⟩ (by repeat (first | exact trivial | refine And.intro rfl ?_)) (by repeat (first | exact List.Sublist.slnil | exact List.nil_sublist _ | exact List.Sublist.refl _ | exact List.sublist_append_left _ [] | apply List.Sublist.cons_cons | apply List.Sublist.cons | refine List.Sublist.append_left ?_ _ | refine List.sublist_append_of_sublist_right ?_))
          dsimp only
          rw [List.length_append, show intsV (ls ++ [lab - 1]) = intsV ls ++ intsV [lab - 1] by simp [intsV]]
          exact hv2
    rintro ⟨i', t7, vl2, lvl2, ls2⟩ ⟨rfl, ht7, hvl2, hls2⟩
    dsimp only at ht7 hvl2 hls2 ⊢
    refine T.region ?_
    refine T.pv (PV.move rfl) Wanted.none rfl rfl ?_
    refine T.pv (PV.add rfl rfl (by omega)) Wanted.none rfl rfl ?_
    refine T.pv (PV.assign rfl) Wanted.none rfl rfl ?_
    refine T.opsNil ?_
    exact T.next ⟨i + 1, t7, vl2, lvl2, ls2⟩ ⟨by dsimp only; omega, ht7, hvl2, hls2⟩ (by dsimp only; omega) (by repeat (first | exact trivial | refine And.intro rfl ?_)) (by repeat (first | exact List.Sublist.slnil | exact List.nil_sublist _ | exact List.Sublist.refl _ | exact List.sublist_append_left _ [] | apply List.Sublist.cons_cons | apply List.Sublist.cons | refine List.Sublist.append_left ?_ _ | refine List.sublist_append_of_sublist_right ?_)) rfl
  obtain rfl : i = L := by omega
  refine T.perm (l' := lvl ++ [_, _]) List.perm_append_comm ?_
  refine Vec.freeze (lv := lvl) (l := [_, _]) hvl ?_
  intro H4 hle4 hla
  replace g3 := g3.mono hle4
  replace ht6 := ht6.mono hle4
  replace g1 := g1.trans hle4
  obtain ⟨m, hm⟩ : ∃ m : Mt, m = ⟨mb, me, .slice avl ls.length cvl, ls⟩ := ⟨_, rfl⟩
  have hlab : LabOk H4 m := by subst hm; exact ⟨hla, by dsimp only; omega⟩
  have hok : okM i m := by subst hm; exact ⟨by dsimp only; omega, by dsimp only; omega, by dsimp only; omega, by dsimp only; omega, hls⟩
  have hmV : mtV m = .agg #[.int .i64 mb, .int .i64 me, .slice avl ls.length cvl] := by subst hm; rfl
  have hmE : encM m = [.int .i64 mb, .int .i64 me, .slice avl ls.length cvl] := by subst hm; rfl
  have hmlab : m.ls.length ≤ 17592186044000 := hlab.2
  clear hm hvl hend
  obtain ⟨adu, capu, rfl⟩ := g3.1.len
  have hcap := g3.1.cap
  refine T.seq ?_
  refine T.seq ?_
  refine T.region ?_
  refine T.pv (PV.move rfl) Wanted.none rfl rfl ?_
  refine T.pv (PV.move rfl) Wanted.none rfl rfl ?_
  refine T.pv (PV.lss rfl rfl) Wanted.none rfl rfl ?_
  refine T.opsNil ?_
  refine T.condF rfl (decide_eq_false (by omega)) ?_
  refine T.exit rfl ?_
  refine T.seq ?_
  refine T.region ?_
  refine T.pv (PV.move rfl) Wanted.none rfl rfl ?_
  refine T.pv (PV.lenSl rfl) Wanted.none rfl rfl ?_
  refine T.pv (PV.assign rfl) Wanted.none rfl rfl ?_
  refine T.opsNil ?_
  refine T.seq ?_
  refine T.block ?_
  refine T.loop (γ := Nat) (fun k => k ≤ a.length ∧ ∀ x ∈ a.drop k, ltK (keyM m) (keyM x))
    (fun k => [(9, .int .i64 (k : Int)), (7, .pointer (some ⟨b7, 0, none⟩)), (6, .int .i64 (n : Int)), (5, .slice adu a.length capu), (4, .int .i64 (i : Int)), (3, .pointer (some ⟨bt, 0, none⟩))])
    (fun _ => [Tp.blk bt t6, (b7, .cells #[.int .i64 mb, .int .i64 me, .slice avl ls.length cvl] 38 (0, 0))]) (fun _ => H4) (fun k => k) a.length ⟨by simp, by simp⟩ (by repeat (first | exact trivial | refine And.intro rfl ?_)) (by repeat (first | exact List.Sublist.slnil | exact List.nil_sublist _ | exact List.Sublist.refl _ | exact List.sublist_append_left _ [] | apply List.Sublist.cons_cons | apply List.Sublist.cons | refine List.Sublist.append_left ?_ _ | refine List.sublist_append_of_sublist_right ?_)) rfl ?_
  rintro k ⟨k1, k2⟩
  have hread : ∀ (i : Nat) (x : Mt), k = i + 1 → a[i]? = some x → ∃ b off, adu = some ⟨b, off, none⟩ ∧ SubC H4 b (off + ((k : Int) - 1).toNat * 3) [.int .i64 x.b, .int .i64 x.e, x.v] := by
    intro i x hk hx
    obtain ⟨b, off, e, hsub0⟩ := g3.1.matchAt hx
    refine ⟨b, off, e, ?_⟩
    rwa [show ((k : Int) - 1).toNat = i by omega]
  obtain ⟨q, hq⟩ : ∃ q : Bool, q = decide (∃ x, a[k - 1]? = some x ∧ 0 < k ∧ ltK (keyM m) (keyM x)) := ⟨_, rfl⟩
  refine T.seq ?_
  refine T.seq ?_
  refine T.cut1 [(56, .bool q), (9, .int .i64 (k : Int)), (7, .pointer (some ⟨b7, 0, none⟩)), (6, .int .i64 (n : Int)), (5, .slice adu a.length capu), (4, .int .i64 (i : Int)), (3, .pointer (some ⟨bt, 0, none⟩))]
    [Tp.blk bt t6, (b7, .cells #[.int .i64 mb, .int .i64 me, .slice avl ls.length cvl] 38 (0, 0))] ?_ fun K => ?_
  rotate_left
  · cases k with
    | zero =>
      have hqf : q = false := by rw [hq]; exact decide_eq_false (by rintro ⟨x, _, h, _⟩; omega)
      subst hqf
      refine T.regionQ (by kernel_rfl) ?_
      refine TQ.pv (PV.move rfl) Wanted.none rfl rfl ?_
      refine TQ.pv (PV.gtr rfl rfl) Wanted.none rfl rfl ?_
      refine TQ.pv (PV.move rfl) Wanted.none rfl rfl ?_
      refine TQ.pass (Unwanted.guard rfl rfl rfl) rfl rfl ?_
      refine TQ.pass (Unwanted.guard rfl rfl rfl) rfl rfl ?_
      refine TQ.pass (Unwanted.guard rfl rfl rfl) rfl rfl ?_
      refine TQ.pass (Unwanted.guard rfl rfl rfl) rfl rfl ?_
      refine TQ.pass (Unwanted.guard rfl rfl rfl) rfl rfl ?_
      refine TQ.pass (Unwanted.guard rfl rfl rfl) rfl rfl ?_
      refine TQ.pass (Unwanted.guard rfl rfl rfl) rfl rfl ?_
      refine TQ.pass (Unwanted.guard rfl rfl rfl) rfl rfl ?_
      refine TQ.pv (PV.pickF rfl rfl rfl) Wanted.none rfl rfl ?_
      refine TQ.nil ?_
      exact K _ _ (by repeat (first | exact trivial | refine And.intro rfl ?_)) (by repeat (first | exact List.Sublist.slnil | exact List.nil_sublist _ | exact List.Sublist.refl _ | exact List.sublist_append_left _ [] | apply List.Sublist.cons_cons | apply List.Sublist.cons | refine List.Sublist.append_left ?_ _ | refine List.sublist_append_of_sublist_right ?_))
    | succ i0 =>
      obtain ⟨x, hx⟩ : ∃ x, a[i0]? = some x := ⟨_, List.getElem?_eq_getElem (by omega)⟩
      obtain ⟨b, off, rfl, hsub⟩ := hread i0 x rfl hx
      have hqx : q = decide (ltK (keyM m) (keyM x)) := by
        rw [hq, decide_eq_decide]
        constructor
        · rintro ⟨y, hy, _, h⟩
          rw [Nat.add_sub_cancel, hx] at hy; injection hy with hy; subst hy; exact h
        · intro h; exact ⟨x, hx, by omega, h⟩
      have hqe : q = decide (cmpL (keyM m) (keyM x) < 0) := by rw [hqx, decide_eq_decide]; exact Iff.rfl
      subst hqe
      have hcall := refCompare_fn m x H4 hlab (g3.2 x (List.mem_of_getElem? hx))
      rw [hmV] at hcall
      unfold mtV at hcall
      refine T.regionQ (by kernel_rfl) ?_
      refine TQ.pv (PV.move rfl) Wanted.none rfl rfl ?_
      refine TQ.pv (PV.gtr rfl rfl) Wanted.none rfl rfl ?_
      refine TQ.pv (PV.move rfl) Wanted.none rfl rfl ?_
      refine TQ.setT (d := 47) rfl (by omega) ?_
      refine TQ.pv (PV.loadAll rfl (by first | exact .fro (by assumption) | exact .own (by repeat (first | exact List.Mem.head _ | apply List.Mem.tail | apply List.mem_append_right))) (by exact rfl)) (Wanted.guard rfl rfl rfl) rfl rfl ?_
      refine TQ.pv (PV.move rfl) (Wanted.guard rfl rfl rfl) rfl rfl ?_
      refine TQ.pv (PV.move rfl) (Wanted.guard rfl rfl rfl) rfl rfl ?_
      refine TQ.pv (PV.sub rfl rfl (by omega)) (Wanted.guard rfl rfl rfl) rfl rfl ?_
      refine TQ.pv (PV.indexAddr rfl rfl (by omega)) (Wanted.guard rfl rfl rfl) rfl rfl ?_
      refine TQ.pv (PV.loadSubAll rfl (by assumption) (by exact rfl)) (Wanted.guard rfl rfl rfl) rfl rfl ?_
      refine TQ.callV (Wanted.guard rfl rfl rfl) rfl rfl (hcall) ?_
      refine TQ.pv (PV.lss rfl rfl) (Wanted.guard rfl rfl rfl) rfl rfl ?_
      refine TQ.pv (PV.pickT rfl rfl rfl) Wanted.none rfl rfl ?_
      refine TQ.nil ?_
      exact K _ _ (by repeat (first | exact trivial | refine And.intro rfl ?_)) (by repeat (first | exact List.Sublist.slnil | exact List.nil_sublist _ | exact List.Sublist.refl _ | exact List.sublist_append_left _ [] | apply List.Sublist.cons_cons | apply List.Sublist.cons | refine List.Sublist.append_left ?_ _ | refine List.sublist_append_of_sublist_right ?_))
  refine T.cond rfl (fun hc => ?_) (fun hc => ?_)
  · rw [hq, decide_eq_true_eq] at hc
    obtain ⟨x, hx, hk0, hlt⟩ := hc
    have hdr : a.drop (k - 1) = x :: a.drop k := by
      have := List.getElem?_eq_some_iff.1 hx
      rw [List.drop_eq_getElem_cons this.1, this.2, show k - 1 + 1 = k by omega]
    refine T.skip ?_
    refine T.block ?_
    refine T.region ?_
    refine T.pv (PV.move rfl) Wanted.none rfl rfl ?_
    refine T.pv (PV.sub rfl rfl (by omega)) Wanted.none rfl rfl ?_
    refine T.pv (PV.assign rfl) Wanted.none rfl rfl ?_
    refine T.opsNil ?_
    refine T.blkEnd ?_
    rw [show (k : Int) - 1 = ((k - 1 : Nat) : Int) by omega]
    refine T.next (k - 1) ⟨by omega, fun y hy => ?_⟩ (by omega) (by repeat (first | exact trivial | refine And.intro rfl ?_)) (by repeat (first | exact List.Sublist.slnil | exact List.nil_sublist _ | exact List.Sublist.refl _ | exact List.sublist_append_left _ [] | apply List.Sublist.cons_cons | apply List.Sublist.cons | refine List.Sublist.append_left ?_ _ | refine List.sublist_append_of_sublist_right ?_)) rfl
    rw [hdr] at hy
    rcases List.mem_cons.1 hy with h | h
    · subst h; exact hlt
    · exact k2 y h
  rw [hq, decide_eq_false_iff_not] at hc
  refine T.exit rfl ?_
  obtain ⟨r, hr⟩ : ∃ r : Bool, r = !decide (∃ x, a[k - 1]? = some x ∧ 0 < k ∧ keyM m = keyM x) := ⟨_, rfl⟩
  refine T.seq ?_
  refine T.cut1 [(70, .bool r), (9, .int .i64 (k : Int)), (7, .pointer (some ⟨b7, 0, none⟩)), (6, .int .i64 (n : Int)), (5, .slice adu a.length capu), (4, .int .i64 (i : Int)), (3, .pointer (some ⟨bt, 0, none⟩))]
    [Tp.blk bt t6, (b7, .cells #[.int .i64 mb, .int .i64 me, .slice avl ls.length cvl] 38 (0, 0))] ?_ fun K => ?_
  rotate_left
  · cases k with
    | zero =>
      have hrf : r = true := by rw [hr, decide_eq_false (by rintro ⟨x, _, h, _⟩; omega)]; rfl
      subst hrf
      refine T.regionQ (by kernel_rfl) ?_
      refine TQ.pv (PV.move rfl) Wanted.none rfl rfl ?_
      refine TQ.pv (PV.eql rfl rfl) Wanted.none rfl rfl ?_
      refine TQ.pv (PV.move rfl) Wanted.none rfl rfl ?_
      refine TQ.pass (Unwanted.guard rfl rfl rfl) rfl rfl ?_
      refine TQ.pass (Unwanted.guard rfl rfl rfl) rfl rfl ?_
      refine TQ.pass (Unwanted.guard rfl rfl rfl) rfl rfl ?_
      refine TQ.pass (Unwanted.guard rfl rfl rfl) rfl rfl ?_
      refine TQ.pass (Unwanted.guard rfl rfl rfl) rfl rfl ?_
      refine TQ.pass (Unwanted.guard rfl rfl rfl) rfl rfl ?_
      refine TQ.pass (Unwanted.guard rfl rfl rfl) rfl rfl ?_
      refine TQ.pass (Unwanted.guard rfl rfl rfl) rfl rfl ?_
      refine TQ.pv (PV.pickT rfl rfl rfl) Wanted.none rfl rfl ?_
      refine TQ.nil ?_
      exact K _ _ (by repeat (first | exact trivial | refine And.intro rfl ?_)) (by repeat (first | exact List.Sublist.slnil | exact List.nil_sublist _ | exact List.Sublist.refl _ | exact List.sublist_append_left _ [] | apply List.Sublist.cons_cons | apply List.Sublist.cons | refine List.Sublist.append_left ?_ _ | refine List.sublist_append_of_sublist_right ?_))
    | succ i0 =>
      obtain ⟨x, hx⟩ : ∃ x, a[i0]? = some x := ⟨_, List.getElem?_eq_getElem (by omega)⟩
      obtain ⟨b, off, rfl, hsub⟩ := hread i0 x rfl hx
      have hrx : r = !decide (cmpL (keyM m) (keyM x) = 0) := by
        rw [hr]
        congr 1
        rw [decide_eq_decide, cmpL_eq]
        constructor
        · rintro ⟨y, hy, _, h⟩
          rw [Nat.add_sub_cancel, hx] at hy; injection hy with hy; subst hy; exact h
        · intro h; exact ⟨x, hx, by omega, h⟩
      have hcall := refCompare_fn m x H4 hlab (g3.2 x (List.mem_of_getElem? hx))
      rw [hmV] at hcall
      unfold mtV at hcall
      by_cases hz : cmpL (keyM m) (keyM x) = 0
      · rw [decide_eq_true hz] at hrx
        rw [hz] at hcall
        subst hrx
        refine T.regionQ (by kernel_rfl) ?_
        refine TQ.pv (PV.move rfl) Wanted.none rfl rfl ?_
        refine TQ.pv (PV.eql rfl rfl) Wanted.none rfl rfl ?_
        refine TQ.pv (PV.move rfl) Wanted.none rfl rfl ?_
        refine TQ.pv (PV.loadAll rfl (by first | exact .fro (by assumption) | exact .own (by repeat (first | exact List.Mem.head _ | apply List.Mem.tail | apply List.mem_append_right))) (by exact rfl)) (Wanted.guard rfl rfl rfl) rfl rfl ?_
        refine TQ.pv (PV.move rfl) (Wanted.guard rfl rfl rfl) rfl rfl ?_
        refine TQ.pv (PV.move rfl) (Wanted.guard rfl rfl rfl) rfl rfl ?_
        refine TQ.pv (PV.sub rfl rfl (by omega)) (Wanted.guard rfl rfl rfl) rfl rfl ?_
        refine TQ.pv (PV.indexAddr rfl rfl (by omega)) (Wanted.guard rfl rfl rfl) rfl rfl ?_
        refine TQ.pv (PV.loadSubAll rfl (by assumption) (by exact rfl)) (Wanted.guard rfl rfl rfl) rfl rfl ?_
        refine TQ.callV (Wanted.guard rfl rfl rfl) rfl rfl (hcall) ?_
        refine TQ.pv (PV.neq rfl rfl) (Wanted.guard rfl rfl rfl) rfl rfl ?_
        refine TQ.pv (PV.pickF rfl rfl rfl) Wanted.none rfl rfl ?_
        refine TQ.nil ?_
        exact K _ _ (by repeat (first | exact trivial | refine And.intro rfl ?_)) (by repeat (first | exact List.Sublist.slnil | exact List.nil_sublist _ | exact List.Sublist.refl _ | exact List.sublist_append_left _ [] | apply List.Sublist.cons_cons | apply List.Sublist.cons | refine List.Sublist.append_left ?_ _ | refine List.sublist_append_of_sublist_right ?_))
      · rw [decide_eq_false hz] at hrx
        have hrx2 : r = decide (cmpL (keyM m) (keyM x) ≠ 0) := by rw [hrx, decide_eq_true hz]; rfl
        subst hrx2
        refine T.regionQ (by kernel_rfl) ?_
        refine TQ.pv (PV.move rfl) Wanted.none rfl rfl ?_
        refine TQ.pv (PV.eql rfl rfl) Wanted.none rfl rfl ?_
        refine TQ.pv (PV.move rfl) Wanted.none rfl rfl ?_
        refine TQ.pv (PV.loadAll rfl (by first | exact .fro (by assumption) | exact .own (by repeat (first | exact List.Mem.head _ | apply List.Mem.tail | apply List.mem_append_right))) (by exact rfl)) (Wanted.guard rfl rfl rfl) rfl rfl ?_
        refine TQ.pv (PV.move rfl) (Wanted.guard rfl rfl rfl) rfl rfl ?_
        refine TQ.pv (PV.move rfl) (Wanted.guard rfl rfl rfl) rfl rfl ?_
        refine TQ.pv (PV.sub rfl rfl (by omega)) (Wanted.guard rfl rfl rfl) rfl rfl ?_
        refine TQ.pv (PV.indexAddr rfl rfl (by omega)) (Wanted.guard rfl rfl rfl) rfl rfl ?_
        refine TQ.pv (PV.loadSubAll rfl (by assumption) (by exact rfl)) (Wanted.guard rfl rfl rfl) rfl rfl ?_
        refine TQ.callV (Wanted.guard rfl rfl rfl) rfl rfl (hcall) ?_
        refine TQ.pv (PV.neq rfl rfl) (Wanted.guard rfl rfl rfl) rfl rfl ?_
        refine TQ.pv (PV.pickF rfl rfl rfl) Wanted.none rfl rfl ?_
        refine TQ.nil ?_
        exact K _ _ (by repeat (first | exact trivial | refine And.intro rfl ?_)) (by repeat (first | exact List.Sublist.slnil | exact List.nil_sublist _ | exact List.Sublist.refl _ | exact List.sublist_append_left _ [] | apply List.Sublist.cons_cons | apply List.Sublist.cons | refine List.Sublist.append_left ?_ _ | refine List.sublist_append_of_sublist_right ?_))
  refine T.cond rfl (fun hc2 => ?_) (fun hc2 => ?_)
  rotate_left
  · refine T.skip ?_
    refine T.blkEnd ?_
    refine T.region ?_
    refine T.pv (PV.move rfl) Wanted.none rfl rfl ?_
    refine T.pv (PV.sub rfl rfl (by omega)) Wanted.none rfl rfl ?_
    refine T.pv (PV.assign rfl) Wanted.none rfl rfl ?_
    refine T.opsNil ?_
    rw [show (n : Int) - 1 = ((n - 1 : Nat) : Int) by omega]
    exact T.next ⟨n - 1, t6, .slice adu a.length capu, a, H4⟩ ⟨g1, ht6, g3, g4, by dsimp only; omega, g6⟩ (by dsimp only; omega) (by repeat (first | exact trivial | refine And.intro rfl ?_)) (by repeat (first | exact List.Sublist.slnil | exact List.nil_sublist _ | exact List.Sublist.refl _ | exact List.sublist_append_left _ [] | apply List.Sublist.cons_cons | apply List.Sublist.cons | refine List.Sublist.append_left ?_ _ | refine List.sublist_append_of_sublist_right ?_)) rfl
  rw [hr, Bool.not_eq_true', decide_eq_false_iff_not] at hc2
  have hres : insM a m = a.take k ++ m :: a.drop k := insB_new _ _ ltK_sto k1 g4 k2 (by
    rcases Nat.eq_zero_or_pos k with h0 | h0
    · exact .inl h0
    · refine .inr fun y hy => ?_
      rcases ltK_sto.tri (keyM y) (keyM m) with h | h | h
      · exact h
      · exact absurd ⟨y, hy, h0, h.symm⟩ hc2
      · exact absurd ⟨y, hy, h0, h⟩ hc)
  have hsort : ascM (insM a m) := insB_sorted _ _ ltK_sto m a g4
  have hmem : ∀ y ∈ insM a m, y ∈ a ∨ y = m := fun y hy => insB_sub _ _ m a y hy
  have hlen : (insM a m).length ≤ a.length + 1 := insB_len _ _ a m
  skip
  refine T.regionOr (lc := [(b7, .cells #[.int .i64 mb, .int .i64 me, .slice avl ls.length cvl] 38 (0, 0))]) (by repeat (first | exact List.Sublist.slnil | exact List.nil_sublist _ | exact List.Sublist.refl _ | exact List.sublist_append_left _ [] | apply List.Sublist.cons_cons | apply List.Sublist.cons | refine List.Sublist.append_left ?_ _ | refine List.sublist_append_of_sublist_right ?_)) (by kernel_rfl) ?_
  refine TO.take 1 rfl (by kernel_rfl) (by kernel_rfl) (by kernel_rfl) (PV.move rfl) Wanted.none rfl rfl ?_
  refine TO.take 2 rfl (by kernel_rfl) (by kernel_rfl) (by kernel_rfl) (PV.move rfl) Wanted.none rfl rfl ?_
  refine TO.take 3 rfl (by kernel_rfl) (by kernel_rfl) (by kernel_rfl) (PV.sliceH rfl rfl (by omega)) Wanted.none rfl rfl ?_
  refine TO.take 5 rfl (by kernel_rfl) (by kernel_rfl) (by kernel_rfl) (PV.loadAll rfl (by first | exact .fro (by assumption) | exact .own (by repeat (first | exact List.Mem.head _ | apply List.Mem.tail | apply List.mem_append_right))) (by exact rfl)) Wanted.none rfl rfl ?_
  refine TO.take 8 rfl (by kernel_rfl) (by kernel_rfl) (by kernel_rfl) (PV.move rfl) Wanted.none rfl rfl ?_
  refine TO.take 9 rfl (by kernel_rfl) (by kernel_rfl) (by kernel_rfl) (PV.move rfl) Wanted.none rfl rfl ?_
  refine TO.take 10 rfl (by kernel_rfl) (by kernel_rfl) (by kernel_rfl) (PV.sliceL rfl rfl (by omega)) Wanted.none rfl rfl ?_
  have htkl : (a.take k).length ≤ a.length := List.length_take_le' _ _
  refine TO.both 0 6 rfl rfl (by kernel_rfl) (by repeat (first | exact List.Sublist.slnil | exact List.nil_sublist _ | exact List.Sublist.refl _ | exact List.sublist_append_left _ [] | apply List.Sublist.cons_cons | apply List.Sublist.cons | refine List.Sublist.append_left ?_ _ | refine List.sublist_append_of_sublist_right ?_)) (Hp.le.refl _) ?_ ?_
  · (refine T.buildSlice Wanted.none rfl rfl (by repeat (first | exact FillAll.nil | (apply FillAll.cons; (first | exact CellsR.one rfl | exact CellsR.agg); exact rfl))) (by exact rfl) (by exact rfl) ?_; intro b71)
    refine T.opsNil ?_
    refine TO.back ?_
    refine TO.both 4 6 rfl rfl (by kernel_rfl) (by repeat (first | exact List.Sublist.slnil | exact List.nil_sublist _ | exact List.Sublist.refl _ | exact List.sublist_append_left _ [] | apply List.Sublist.cons_cons | apply List.Sublist.cons | refine List.Sublist.append_left ?_ _ | refine List.sublist_append_of_sublist_right ?_)) (Hp.le.refl _) ?_ ?_
    · skip
      refine T.append [] (lv := []) (bl := [_, _, _]) Wanted.none rfl rfl rfl (Vec.empty 38 3 _) (MtS.pre g3.1 k1).src (one_flatM fun x hx => g3.2 x (List.mem_of_mem_take hx)) (by omega) ?_
      intro v1 lv1 hv1 _
      refine T.opsNil ?_
      refine TO.back ?_
      refine TO.step 6 rfl (by kernel_rfl) (by repeat (first | exact List.Sublist.slnil | exact List.nil_sublist _ | exact List.Sublist.refl _ | exact List.sublist_append_left _ [] | apply List.Sublist.cons_cons | apply List.Sublist.cons | refine List.Sublist.append_left ?_ _ | refine List.sublist_append_of_sublist_right ?_)) (by first | exact Hp.le.refl _ | assumption | exact Hp.le.trans (by assumption) (by assumption)) ?_
      (refine T.buildSlice Wanted.none rfl rfl (by repeat (first | exact FillAll.nil | (apply FillAll.cons; (first | exact CellsR.one rfl | exact CellsR.agg); exact rfl))) (by exact rfl) (by exact rfl) ?_; intro b77)
      refine T.opsNil ?_
      refine TO.back ?_
      refine TO.step 7 rfl (by kernel_rfl) (by repeat (first | exact List.Sublist.slnil | exact List.nil_sublist _ | exact List.Sublist.refl _ | exact List.sublist_append_left _ [] | apply List.Sublist.cons_cons | apply List.Sublist.cons | refine List.Sublist.append_left ?_ _ | refine List.sublist_append_of_sublist_right ?_)) (by first | exact Hp.le.refl _ | assumption | exact Hp.le.trans (by assumption) (by assumption)) ?_
      refine T.append [_] (lv := lv1) (bl := [_, _, _]) Wanted.none rfl rfl rfl hv1 (Src.cells (m := 1) (ys := encM m) (.own (by repeat (first | exact List.Mem.head _ | apply List.Mem.tail | apply List.mem_append_right))) (by rw [hmE]; rfl) rfl) (one_encM hlab) (by omega) ?_
      intro v2 lv2 hv2 _
      refine T.opsNil ?_
      refine TO.back ?_
      refine TO.step 11 rfl (by kernel_rfl) (by repeat (first | exact List.Sublist.slnil | exact List.nil_sublist _ | exact List.Sublist.refl _ | exact List.sublist_append_left _ [] | apply List.Sublist.cons_cons | apply List.Sublist.cons | refine List.Sublist.append_left ?_ _ | refine List.sublist_append_of_sublist_right ?_)) (by first | exact Hp.le.refl _ | assumption | exact Hp.le.trans (by assumption) (by assumption)) ?_
      refine T.append [_] (lv := lv2) (bl := [_, _, _]) Wanted.none rfl rfl rfl hv2 (MtS.suf g3.1 k1).src (one_flatM fun x hx => g3.2 x (List.mem_of_mem_drop hx)) (by omega) ?_
      intro v3 lv3 hv3 _
      refine T.opsNil ?_
      refine TO.back ?_
      refine TO.take 12 rfl (by kernel_rfl) (by kernel_rfl) (by kernel_rfl) (PV.assign rfl) Wanted.none rfl rfl ?_
      refine TO.done (by kernel_rfl) (by repeat (first | exact List.Sublist.slnil | exact List.nil_sublist _ | exact List.Sublist.refl _ | exact List.sublist_append_left _ [] | apply List.Sublist.cons_cons | apply List.Sublist.cons | refine List.Sublist.append_left ?_ _ | refine List.sublist_append_of_sublist_right ?_)) (by first | exact Hp.le.refl _ | assumption | exact Hp.le.trans (by assumption) (by assumption)) ?_
      refine T.blkEnd ?_
      refine T.region ?_
      refine T.pv (PV.move rfl) Wanted.none rfl rfl ?_
      refine T.pv (PV.sub rfl rfl (by omega)) Wanted.none rfl rfl ?_
      refine T.pv (PV.assign rfl) Wanted.none rfl rfl ?_
      refine T.opsNil ?_
      rw [show (n : Int) - 1 = ((n - 1 : Nat) : Int) by omega]
      refine T.sub (l' := lv3 ++ [_, _, _]) (.cons _ (List.Sublist.refl _)) ?_
      refine Vec.freeze (lv := lv3) (l := [_, _, _]) hv3 ?_
      intro H5 hle5 hsl
      have hsl2 := appM hsl k1 hres
      refine T.next ⟨n - 1, t6, v3, insM a m, H5⟩ ⟨g1.trans hle5, ht6.mono hle5, ⟨hsl2, fun y hy => ?_⟩, hsort, by dsimp only; omega, fun y hy => ?_⟩ (by dsimp only; omega) (by repeat (first | exact trivial | refine And.intro rfl ?_)) (by repeat (first | exact List.Sublist.slnil | exact List.nil_sublist _ | exact List.Sublist.refl _ | exact List.sublist_append_left _ [] | apply List.Sublist.cons_cons | apply List.Sublist.cons | refine List.Sublist.append_left ?_ _ | refine List.sublist_append_of_sublist_right ?_)) rfl
      · rcases hmem y hy with h | h
        · exact (g3.2 y h).mono hle5
        · subst h; exact hlab.mono hle5
      · rcases hmem y hy with h | h
        · exact g6 y h
        · subst h; exact hok
    · (refine T.buildSlice Wanted.none rfl rfl (by repeat (first | exact FillAll.nil | (apply FillAll.cons; (first | exact CellsR.one rfl | exact CellsR.agg); exact rfl))) (by exact rfl) (by exact rfl) ?_; intro b77)
      refine T.opsNil ?_
      refine TO.back ?_
      refine TO.step 4 rfl (by kernel_rfl) (by repeat (first | exact List.Sublist.slnil | exact List.nil_sublist _ | exact List.Sublist.refl _ | exact List.sublist_append_left _ [] | apply List.Sublist.cons_cons | apply List.Sublist.cons | refine List.Sublist.append_left ?_ _ | refine List.sublist_append_of_sublist_right ?_)) (by first | exact Hp.le.refl _ | assumption | exact Hp.le.trans (by assumption) (by assumption)) ?_
      refine T.append [_] (lv := []) (bl := [_, _, _]) Wanted.none rfl rfl rfl (Vec.empty 38 3 _) (MtS.pre g3.1 k1).src (one_flatM fun x hx => g3.2 x (List.mem_of_mem_take hx)) (by omega) ?_
      intro v1 lv1 hv1 _
      refine T.opsNil ?_
      refine TO.back ?_
      refine TO.step 7 rfl (by kernel_rfl) (by repeat (first | exact List.Sublist.slnil | exact List.nil_sublist _ | exact List.Sublist.refl _ | exact List.sublist_append_left _ [] | apply List.Sublist.cons_cons | apply List.Sublist.cons | refine List.Sublist.append_left ?_ _ | refine List.sublist_append_of_sublist_right ?_)) (by first | exact Hp.le.refl _ | assumption | exact Hp.le.trans (by assumption) (by assumption)) ?_
      refine T.append [_] (lv := lv1) (bl := [_, _, _]) Wanted.none rfl rfl rfl hv1 (Src.cells (m := 1) (ys := encM m) (.own (by repeat (first | exact List.Mem.head _ | apply List.Mem.tail | apply List.mem_append_right))) (by rw [hmE]; rfl) rfl) (one_encM hlab) (by omega) ?_
      intro v2 lv2 hv2 _
      refine T.opsNil ?_
      refine TO.back ?_
      refine TO.step 11 rfl (by kernel_rfl) (by repeat (first | exact List.Sublist.slnil | exact List.nil_sublist _ | exact List.Sublist.refl _ | exact List.sublist_append_left _ [] | apply List.Sublist.cons_cons | apply List.Sublist.cons | refine List.Sublist.append_left ?_ _ | refine List.sublist_append_of_sublist_right ?_)) (by first | exact Hp.le.refl _ | assumption | exact Hp.le.trans (by assumption) (by assumption)) ?_
      refine T.append [_] (lv := lv2) (bl := [_, _, _]) Wanted.none rfl rfl rfl hv2 (MtS.suf g3.1 k1).src (one_flatM fun x hx => g3.2 x (List.mem_of_mem_drop hx)) (by omega) ?_
      intro v3 lv3 hv3 _
      refine T.opsNil ?_
      refine TO.back ?_
      refine TO.take 12 rfl (by kernel_rfl) (by kernel_rfl) (by kernel_rfl) (PV.assign rfl) Wanted.none rfl rfl ?_
      refine TO.done (by kernel_rfl) (by repeat (first | exact List.Sublist.slnil | exact List.nil_sublist _ | exact List.Sublist.refl _ | exact List.sublist_append_left _ [] | apply List.Sublist.cons_cons | apply List.Sublist.cons | refine List.Sublist.append_left ?_ _ | refine List.sublist_append_of_sublist_right ?_)) (by first | exact Hp.le.refl _ | assumption | exact Hp.le.trans (by assumption) (by assumption)) ?_
      refine T.blkEnd ?_
      refine T.region ?_
      refine T.pv (PV.move rfl) Wanted.none rfl rfl ?_
      refine T.pv (PV.sub rfl rfl (by omega)) Wanted.none rfl rfl ?_
      refine T.pv (PV.assign rfl) Wanted.none rfl rfl ?_
      refine T.opsNil ?_
      rw [show (n : Int) - 1 = ((n - 1 : Nat) : Int) by omega]
      refine T.sub (l' := lv3 ++ [_, _, _]) (.cons _ (List.Sublist.refl _)) ?_
      refine Vec.freeze (lv := lv3) (l := [_, _, _]) hv3 ?_
      intro H5 hle5 hsl
      have hsl2 := appM hsl k1 hres
      refine T.next ⟨n - 1, t6, v3, insM a m, H5⟩ ⟨g1.trans hle5, ht6.mono hle5, ⟨hsl2, fun y hy => ?_⟩, hsort, by dsimp only; omega, fun y hy => ?_⟩ (by dsimp only; omega) (by repeat (first | exact trivial | refine And.intro rfl ?_)) (by repeat (first | exact List.Sublist.slnil | exact List.nil_sublist _ | exact List.Sublist.refl _ | exact List.sublist_append_left _ [] | apply List.Sublist.cons_cons | apply List.Sublist.cons | refine List.Sublist.append_left ?_ _ | refine List.sublist_append_of_sublist_right ?_)) rfl
      · rcases hmem y hy with h | h
        · exact (g3.2 y h).mono hle5
        · subst h; exact hlab.mono hle5
      · rcases hmem y hy with h | h
        · exact g6 y h
        · subst h; exact hok
  · (refine T.buildSlice Wanted.none rfl rfl (by repeat (first | exact FillAll.nil | (apply FillAll.cons; (first | exact CellsR.one rfl | exact CellsR.agg); exact rfl))) (by exact rfl) (by exact rfl) ?_; intro b77)
    refine T.opsNil ?_
    refine TO.back ?_
    refine TO.step 0 rfl (by kernel_rfl) (by repeat (first | exact List.Sublist.slnil | exact List.nil_sublist _ | exact List.Sublist.refl _ | exact List.sublist_append_left _ [] | apply List.Sublist.cons_cons | apply List.Sublist.cons | refine List.Sublist.append_left ?_ _ | refine List.sublist_append_of_sublist_right ?_)) (by first | exact Hp.le.refl _ | assumption | exact Hp.le.trans (by assumption) (by assumption)) ?_
    (refine T.buildSlice Wanted.none rfl rfl (by repeat (first | exact FillAll.nil | (apply FillAll.cons; (first | exact CellsR.one rfl | exact CellsR.agg); exact rfl))) (by exact rfl) (by exact rfl) ?_; intro b71)
    refine T.opsNil ?_
    refine TO.back ?_
    refine TO.step 4 rfl (by kernel_rfl) (by repeat (first | exact List.Sublist.slnil | exact List.nil_sublist _ | exact List.Sublist.refl _ | exact List.sublist_append_left _ [] | apply List.Sublist.cons_cons | apply List.Sublist.cons | refine List.Sublist.append_left ?_ _ | refine List.sublist_append_of_sublist_right ?_)) (by first | exact Hp.le.refl _ | assumption | exact Hp.le.trans (by assumption) (by assumption)) ?_
    refine T.append [_, _] (lv := []) (bl := [_, _]) Wanted.none rfl rfl rfl (Vec.empty 38 3 _) (MtS.pre g3.1 k1).src (one_flatM fun x hx => g3.2 x (List.mem_of_mem_take hx)) (by omega) ?_
    intro v1 lv1 hv1 _
    refine T.opsNil ?_
    refine TO.back ?_
    refine TO.step 7 rfl (by kernel_rfl) (by repeat (first | exact List.Sublist.slnil | exact List.nil_sublist _ | exact List.Sublist.refl _ | exact List.sublist_append_left _ [] | apply List.Sublist.cons_cons | apply List.Sublist.cons | refine List.Sublist.append_left ?_ _ | refine List.sublist_append_of_sublist_right ?_)) (by first | exact Hp.le.refl _ | assumption | exact Hp.le.trans (by assumption) (by assumption)) ?_
    refine T.append [_, _] (lv := lv1) (bl := [_, _]) Wanted.none rfl rfl rfl hv1 (Src.cells (m := 1) (ys := encM m) (.own (by repeat (first | exact List.Mem.head _ | apply List.Mem.tail | apply List.mem_append_right))) (by rw [hmE]; rfl) rfl) (one_encM hlab) (by omega) ?_
    intro v2 lv2 hv2 _
    refine T.opsNil ?_
    refine TO.back ?_
    refine TO.step 11 rfl (by kernel_rfl) (by repeat (first | exact List.Sublist.slnil | exact List.nil_sublist _ | exact List.Sublist.refl _ | exact List.sublist_append_left _ [] | apply List.Sublist.cons_cons | apply List.Sublist.cons | refine List.Sublist.append_left ?_ _ | refine List.sublist_append_of_sublist_right ?_)) (by first | exact Hp.le.refl _ | assumption | exact Hp.le.trans (by assumption) (by assumption)) ?_
    refine T.append [_, _] (lv := lv2) (bl := [_, _]) Wanted.none rfl rfl rfl hv2 (MtS.suf g3.1 k1).src (one_flatM fun x hx => g3.2 x (List.mem_of_mem_drop hx)) (by omega) ?_
    intro v3 lv3 hv3 _
    refine T.opsNil ?_
    refine TO.back ?_
    refine TO.take 12 rfl (by kernel_rfl) (by kernel_rfl) (by kernel_rfl) (PV.assign rfl) Wanted.none rfl rfl ?_
    refine TO.done (by kernel_rfl) (by repeat (first | exact List.Sublist.slnil | exact List.nil_sublist _ | exact List.Sublist.refl _ | exact List.sublist_append_left _ [] | apply List.Sublist.cons_cons | apply List.Sublist.cons | refine List.Sublist.append_left ?_ _ | refine List.sublist_append_of_sublist_right ?_)) (by first | exact Hp.le.refl _ | assumption | exact Hp.le.trans (by assumption) (by assumption)) ?_
    refine T.blkEnd ?_
    refine T.region ?_
    refine T.pv (PV.move rfl) Wanted.none rfl rfl ?_
    refine T.pv (PV.sub rfl rfl (by omega)) Wanted.none rfl rfl ?_
    refine T.pv (PV.assign rfl) Wanted.none rfl rfl ?_
    refine T.opsNil ?_
    rw [show (n : Int) - 1 = ((n - 1 : Nat) : Int) by omega]
    refine T.sub (l' := lv3 ++ [_, _]) (.cons _ (.cons _ (List.Sublist.refl _))) ?_
    refine Vec.freeze (lv := lv3) (l := [_, _]) hv3 ?_
    intro H5 hle5 hsl
    have hsl2 := appM hsl k1 hres
    refine T.next ⟨n - 1, t6, v3, insM a m, H5⟩ ⟨g1.trans hle5, ht6.mono hle5, ⟨hsl2, fun y hy => ?_⟩, hsort, by dsimp only; omega, fun y hy => ?_⟩ (by dsimp only; omega) (by repeat (first | exact trivial | refine And.intro rfl ?_)) (by repeat (first | exact List.Sublist.slnil | exact List.nil_sublist _ | exact List.Sublist.refl _ | exact List.sublist_append_left _ [] | apply List.Sublist.cons_cons | apply List.Sublist.cons | refine List.Sublist.append_left ?_ _ | refine List.sublist_append_of_sublist_right ?_)) rfl
    · rcases hmem y hy with h | h
      · exact (g3.2 y h).mono hle5
      · subst h; exact hlab.mono hle5
    · rcases hmem y hy with h | h
      · exact g6 y h
      · subst h; exact hok
end Go.Proofs.Ytceaicameojcaaa
