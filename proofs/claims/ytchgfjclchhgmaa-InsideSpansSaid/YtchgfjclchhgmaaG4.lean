/- regions: comparing integers and spans.
   regions: lists of spans: Compact.
   regions: lists of integers, matches: comparing.
   regions: the reference's Insert.
   regions: lists of spans, of matches: Same.
   regions: numbers of a tape. -/
import Derived.Test.YtchgfjclchhgmaaG3
namespace Go.Proofs.Ytchgfjclchhgmaa
open Go.RowKit


def encS (s : Sp) : List Value := [.int .i64 s.1, .int .i64 s.2]
theorem encS_len (s : Sp) : (encS s).length = 2 := rfl
theorem one_encS (s : Sp) : ∀ v ∈ encS s, v.oneCell' = true := by intro v hv; simp [encS] at hv; rcases hv with rfl | rfl <;> rfl
def spV (s : Sp) : Value := .agg #[.int .i64 s.1, .int .i64 s.2]
def cmpI (a b : Int) : Int := if a < b then -1 else if b < a then 1 else 0
theorem boolV {p q : Prop} {i : Decidable p} {j : Decidable q} (h : p ↔ q) : Value.bool (decide p) = .bool (decide q) := by rw [decide_eq_decide.2 h]
theorem boolF {q : Prop} {j : Decidable q} (h : ¬ q) : Value.bool false = .bool (decide q) := by rw [decide_eq_false h]
theorem boolT {q : Prop} {j : Decidable q} (h : q) : Value.bool true = .bool (decide q) := by rw [decide_eq_true h]
theorem isNaN_fn (a : Int) (H : Hp) : Fn Try.prog 68 #[.int .i64 a] H (fun v _ => v = .bool false) := by
  refine Fn.of_T (vs := [.int .i64 a]) Try.func68 rfl rfl fun w => ?_
  have h : decide (a ≠ a) = false := by simp
  refine T.seq ?_
  refine T.region ?_
  refine T.pv (PV.assign rfl) Wanted.none rfl rfl ?_
  refine T.opsNil ?_
  refine T.seq ?_
  refine T.region ?_
  refine T.pv (PV.move rfl) Wanted.none rfl rfl ?_
  refine T.pv (PV.move rfl) Wanted.none rfl rfl ?_
  refine T.pv (PV.neq rfl rfl) Wanted.none rfl rfl ?_
  refine T.pv (PV.assign rfl) Wanted.none rfl rfl ?_
  refine T.opsNil ?_
  exact T.retF (Lv.fin (RV.tmp rfl rfl) (by rw [h]))
theorem cmpCompare_fn (a b : Int) (H : Hp) : Fn Try.prog 46 #[.int .i64 a, .int .i64 b] H (fun v _ => v = .int .i64 (cmpI a b)) := by
  refine Fn.of_T (vs := [.int .i64 a, .int .i64 b]) Try.func46 rfl rfl fun w => ?_
  refine T.seq ?_
  refine T.region ?_
  refine T.pv (PV.assign rfl) Wanted.none rfl rfl ?_
  refine T.opsNil ?_
  refine T.seq ?_
  refine T.region ?_
  refine T.pv (PV.move rfl) Wanted.none rfl rfl ?_
  refine T.callV Wanted.none rfl rfl (isNaN_fn _ H) ?_
  refine T.pv (PV.assign rfl) Wanted.none rfl rfl ?_
  refine T.opsNil ?_
  refine T.seq ?_
  refine T.region ?_
  refine T.pv (PV.move rfl) Wanted.none rfl rfl ?_
  refine T.callV Wanted.none rfl rfl (isNaN_fn _ H) ?_
  refine T.pv (PV.assign rfl) Wanted.none rfl rfl ?_
  refine T.opsNil ?_
  refine T.seq ?_
  refine T.seq ?_
  refine T.region ?_
  refine T.pv (PV.move rfl) Wanted.none rfl rfl ?_
  refine T.opsNil ?_
  refine T.condF rfl rfl ?_
  refine T.skip ?_
  refine T.seq ?_
  refine T.seq ?_
  refine T.region ?_
  refine T.pv (PV.move rfl) Wanted.none rfl rfl ?_
  refine T.opsNil ?_
  refine T.condF rfl rfl ?_
  refine T.skip ?_
  refine T.seq ?_
  refine T.seq ?_
  refine T.region ?_
  refine T.pv (PV.move rfl) Wanted.none rfl rfl ?_
  refine T.pv (PV.move rfl) Wanted.none rfl rfl ?_
  refine T.pv (PV.lss rfl rfl) Wanted.none rfl rfl ?_
  refine T.opsNil ?_
  refine T.condD rfl (fun h0 => ?_) (fun h0 => ?_)
  · refine T.seq ?_
    refine T.region ?_
    refine T.pv (PV.assign rfl) Wanted.none rfl rfl ?_
    refine T.opsNil ?_
    (refine T.retF (Lv.fin (RV.tmp rfl rfl) ?_); congr 1; unfold cmpI; split <;> (try split) <;> omega)
  · refine T.skip ?_
    refine T.seq ?_
    refine T.seq ?_
    refine T.region ?_
    refine T.pv (PV.move rfl) Wanted.none rfl rfl ?_
    refine T.pv (PV.move rfl) Wanted.none rfl rfl ?_
    refine T.pv (PV.gtr rfl rfl) Wanted.none rfl rfl ?_
    refine T.opsNil ?_
    refine T.condD rfl (fun h1 => ?_) (fun h1 => ?_)
    · refine T.seq ?_
      refine T.region ?_
      refine T.pv (PV.assign rfl) Wanted.none rfl rfl ?_
      refine T.opsNil ?_
      (refine T.retF (Lv.fin (RV.tmp rfl rfl) ?_); congr 1; unfold cmpI; split <;> (try split) <;> omega)
    · refine T.skip ?_
      refine T.seq ?_
      refine T.region ?_
      refine T.pv (PV.assign rfl) Wanted.none rfl rfl ?_
      refine T.opsNil ?_
      (refine T.retF (Lv.fin (RV.tmp rfl rfl) ?_); congr 1; unfold cmpI; split <;> (try split) <;> omega)
def orI : List Int → Int
  | [] => 0
  | a :: l => if a ≠ 0 then a else orI l
def intsV (l : List Int) : List Value := l.flatMap fun a => [.int .i64 a]
theorem orI_drop {l : List Int} {i : Nat} {a : Int} (h : l[i]? = some a) : orI (l.drop i) = if a ≠ 0 then a else orI (l.drop (i + 1)) := by
  have hi := List.getElem?_eq_some_iff.1 h
  rw [List.drop_eq_getElem_cons hi.1, hi.2, orI]
theorem cmpOr_fn (l : List Int) (v : Value) (H : Hp) (hv : SlR H 1 v l.length (intsV l)) (hl : l.length ≤ 1000) : Fn Try.prog 45 #[v] H (fun v _ => v = .int .i64 (orI l)) := by
  obtain ⟨ad, cap, rfl⟩ := hv.len
  refine Fn.of_T (vs := [.slice ad l.length cap]) Try.func45 rfl rfl fun w => ?_
  refine T.seq ?_
  refine T.region ?_
  refine T.pv (PV.assign rfl) Wanted.none rfl rfl ?_
  refine T.opsNil ?_
  refine T.seq ?_
  refine T.region ?_
  refine T.pv (PV.assign rfl) Wanted.none rfl rfl ?_
  refine T.opsNil ?_
  refine T.seq ?_
  refine T.seq ?_
  refine T.region ?_
  refine T.pv (PV.move rfl) Wanted.none rfl rfl ?_
  refine T.pv (PV.lenSl rfl) Wanted.none rfl rfl ?_
  refine T.pv (PV.move rfl) Wanted.none rfl rfl ?_
  refine T.opsNil ?_
  refine T.block ?_
  refine T.loop (γ := Nat) (fun i => i ≤ l.length ∧ orI (l.drop i) = orI l)
    (fun i => [(2, .int .i64 0), (3, .int .i64 0), (8, .int .i64 (i : Int)), (7, .int .i64 (l.length : Int)), (6, .slice ad l.length cap)])
    (fun _ => []) (fun _ => H) (fun i => l.length - i) 0 ⟨by simp, by simp⟩ zq8 zq4 rfl ?_
  rintro i ⟨h1, h2⟩
  by_cases hi : i < l.length
  · obtain ⟨x, hx⟩ : ∃ x, l[i]? = some x := ⟨_, List.getElem?_eq_getElem hi⟩
    obtain ⟨b, off, cap', hve, hsub⟩ := hv.elem (i := i) (by omega) (flat_elem (f := fun a : Int => [Value.int .i64 a]) (fun _ => rfl) l i x hx)
    injection hve with e1 e2 e3
    subst e1 e3
    have ho := orI_drop hx
    refine T.seq ?_
    refine T.region ?_
    refine T.pv (PV.lss rfl rfl) Wanted.none rfl rfl ?_
    refine T.opsNil ?_
    refine T.seq ?_
    refine T.condT rfl (decide_eq_true (by omega)) ?_
    refine T.skip ?_
    refine T.seq ?_
    refine T.block ?_
    refine T.seq ?_
    refine T.region ?_
    refine T.pv (PV.indexAddr rfl rfl (by omega)) Wanted.none rfl rfl ?_
    refine T.pv (PV.loadSub0 rfl (by assumption)) Wanted.none rfl rfl ?_
    refine T.pv (PV.assign rfl) Wanted.none rfl rfl ?_
    refine T.opsNil ?_
    refine T.seq ?_
    refine T.region ?_
    refine T.pv (PV.move rfl) Wanted.none rfl rfl ?_
    refine T.pv (PV.move rfl) Wanted.none rfl rfl ?_
    refine T.pv (PV.neq rfl rfl) Wanted.none rfl rfl ?_
    refine T.opsNil ?_
    refine T.condD rfl (fun hc => ?_) (fun hc => ?_)
    · rw [if_pos hc] at ho
      refine T.seq ?_
      refine T.region ?_
      refine T.pv (PV.move rfl) Wanted.none rfl rfl ?_
      refine T.pv (PV.assign rfl) Wanted.none rfl rfl ?_
      refine T.opsNil ?_
      exact T.retF (Lv.fin (RV.tmp rfl rfl) (by rw [← h2, ho]))
    · rw [if_neg hc] at ho
      refine T.skip ?_
      refine T.blkEnd ?_
      refine T.region ?_
      refine T.pv (PV.add rfl rfl (by omega)) Wanted.none rfl rfl ?_
      refine T.pv (PV.move rfl) Wanted.none rfl rfl ?_
      refine T.opsNil ?_
      exact T.next (i + 1) ⟨by omega, by rw [← h2, ho]⟩ (by omega) zq8 zq4 rfl
  · rw [List.drop_of_length_le (by omega)] at h2
    refine T.seq ?_
    refine T.region ?_
    refine T.pv (PV.lss rfl rfl) Wanted.none rfl rfl ?_
    refine T.opsNil ?_
    refine T.seq ?_
    refine T.condF rfl (decide_eq_false (by omega)) ?_
    refine T.exit rfl ?_
    refine T.seq ?_
    refine T.region ?_
    refine T.pv (PV.move rfl) Wanted.none rfl rfl ?_
    refine T.pv (PV.assign rfl) Wanted.none rfl rfl ?_
    refine T.opsNil ?_
    exact T.retF (Lv.fin (RV.tmp rfl rfl) (by rw [← h2]; rfl))
theorem SlR.lit {H : Hp} {sz b t n : Nat} {fz : Nat × Nat} {xs : List Value} (h : H b = some (.cells xs.toArray t fz)) (hn : xs.length = n * sz) : SlR H sz (.slice (some ⟨b, 0, none⟩) n n) n xs :=
  ⟨hn, .inr ⟨b, 0, n, xs, t, fz, rfl, h, by rw [List.drop_zero, List.take_of_length_le (by omega)], Nat.le_refl _⟩⟩
theorem T.freezeLit {P : Program} {X : Cx} {e : Env} {l : List (Nat × Obj)} {H : Hp} {D : List Deferred} {k : List It} {b : Nat} {o : Obj} (h : ∀ H1, H.le H1 → H1 b = some o → T P X e l H1 D k) : T P X e ((b, o) :: l) H D k :=
  T.mk fun a w ha hw => (h (H.put b o) (Hp.le_put (hw.own _ List.mem_cons_self).2.1) Hp.put_same).get a w ha hw.freeze
theorem eqS_true {a b : Sp} (h : a.1 = b.1 ∧ a.2 = b.2) : eqCells [.int .i64 a.1, .int .i64 a.2] [.int .i64 b.1, .int .i64 b.2] = true := by simp [eqCells, cellEq, h.1, h.2]
theorem eqS_false {a b : Sp} (h : ¬ (a.1 = b.1 ∧ a.2 = b.2)) : eqCells [.int .i64 a.1, .int .i64 a.2] [.int .i64 b.1, .int .i64 b.2] = false := by
  rw [Bool.eq_false_iff]; simpa [eqCells, cellEq] using h
theorem eqS_eq (a b : Sp) : eqCells [.int .i64 a.1, .int .i64 a.2] [.int .i64 b.1, .int .i64 b.2] = decide (a = b) := by
  by_cases h : a.1 = b.1 ∧ a.2 = b.2
  · rw [eqS_true h, decide_eq_true (Prod.ext h.1 h.2)]
  · rw [eqS_false h, decide_eq_false (fun e => h (by rw [e]; exact ⟨rfl, rfl⟩))]
/-- order of spans: by begin, then by end -/
def ordC (a b : Sp) : Int := orI [cmpI a.1 b.1, cmpI a.2 b.2]
theorem compare_fn (a b : Sp) (H : Hp) : Fn Try.prog 44 #[spV a, spV b] H (fun v _ => v = .int .i64 (ordC a b)) := by
  refine Fn.of_T (vs := [spV a, spV b]) Try.func44 rfl rfl fun w => ?_
  unfold spV
  refine T.seq ?_
  refine T.region ?_
  (refine T.box Wanted.none rfl rfl zq15 ?_; intro b2)
  (refine T.box Wanted.none rfl rfl zq15 ?_; intro b3)
  refine T.pv (PV.assign rfl) Wanted.none rfl rfl ?_
  refine T.opsNil ?_
  refine T.seq ?_
  refine T.regionT 10 (by kernel_rfl) ?_
  refine TQ.pv (PV.fieldAddr rfl) Wanted.none rfl rfl ?_
  refine TQ.pv (PV.load1 rfl zq0 rfl) Wanted.none rfl rfl ?_
  refine TQ.pv (PV.fieldAddr rfl) Wanted.none rfl rfl ?_
  refine TQ.pv (PV.load1 rfl zq0 rfl) Wanted.none rfl rfl ?_
  refine TQ.callV Wanted.none rfl rfl (cmpCompare_fn _ _ H) ?_
  refine TQ.pv (PV.fieldAddr rfl) Wanted.none rfl rfl ?_
  refine TQ.pv (PV.load1 rfl zq0 rfl) Wanted.none rfl rfl ?_
  refine TQ.pv (PV.fieldAddr rfl) Wanted.none rfl rfl ?_
  refine TQ.pv (PV.load1 rfl zq0 rfl) Wanted.none rfl rfl ?_
  refine TQ.callV Wanted.none rfl rfl (cmpCompare_fn _ _ H) ?_
  refine TQ.nil ?_
  (refine T.buildSlice Wanted.none rfl rfl zq11 (by exact rfl) (by exact rfl) ?_; intro b15)
  refine T.freezeLit ?_
  intro H1 hle1 hH1
  have hsl : SlR H1 1 _ _ (intsV [cmpI a.1 b.1, cmpI a.2 b.2]) := SlR.lit (n := 2) hH1 rfl
  refine T.callV Wanted.none rfl rfl (cmpOr_fn [cmpI a.1 b.1, cmpI a.2 b.2] _ H1 hsl (Nat.le_of_ble_eq_true rfl)) ?_
  refine T.pv (PV.assign rfl) Wanted.none rfl rfl ?_
  refine T.opsNil ?_
  exact T.retF (Lv.fin (RV.tmp rfl rfl) rfl)
theorem contains_fn (s t : Sp) (H : Hp) : Fn Try.prog 35 #[spV s, spV t] H (fun v _ => v = .bool (decide (s.1 ≤ t.1 ∧ t.2 ≤ s.2))) := by
  refine Fn.of_T (vs := [spV s, spV t]) Try.func35 rfl rfl fun w => ?_
  unfold spV
  refine T.seq ?_
  refine T.region ?_
  (refine T.box Wanted.none rfl rfl zq15 ?_; intro b2)
  (refine T.box Wanted.none rfl rfl zq15 ?_; intro b3)
  refine T.pv (PV.assign rfl) Wanted.none rfl rfl ?_
  refine T.opsNil ?_
  refine T.seq ?_
  refine T.region ?_
  refine T.pv (PV.fieldAddr rfl) Wanted.none rfl rfl ?_
  refine T.pv (PV.load1 rfl zq0 rfl) Wanted.none rfl rfl ?_
  refine T.pv (PV.fieldAddr rfl) Wanted.none rfl rfl ?_
  refine T.pv (PV.load1 rfl zq0 rfl) Wanted.none rfl rfl ?_
  refine T.pv (PV.leq rfl rfl) Wanted.none rfl rfl ?_
  refine T.pv (PV.move rfl) Wanted.none rfl rfl ?_
  refine T.splitD (d := 10) rfl (fun h0 => ?_) (fun h0 => ?_)
  · refine T.pv (PV.fieldAddr rfl) (Wanted.guard rfl rfl rfl) rfl rfl ?_
    refine T.pv (PV.load1 rfl zq0 rfl) (Wanted.guard rfl rfl rfl) rfl rfl ?_
    refine T.pv (PV.fieldAddr rfl) (Wanted.guard rfl rfl rfl) rfl rfl ?_
    refine T.pv (PV.load1 rfl zq0 rfl) (Wanted.guard rfl rfl rfl) rfl rfl ?_
    refine T.pv (PV.leq rfl rfl) (Wanted.guard rfl rfl rfl) rfl rfl ?_
    refine T.pv (PV.pickT rfl rfl rfl) Wanted.none rfl rfl ?_
    refine T.pv (PV.assign rfl) Wanted.none rfl rfl ?_
    refine T.opsNil ?_
    (first | exact T.retF (Lv.fin (RV.tmp rfl rfl) (boolV (by omega))) | exact T.retF (Lv.fin (RV.tmp rfl rfl) (boolF (by omega))) | exact T.retF (Lv.fin (RV.tmp rfl rfl) (boolT (by omega))))
  · refine T.pass (Unwanted.guard rfl rfl rfl) rfl rfl ?_
    refine T.pass (Unwanted.guard rfl rfl rfl) rfl rfl ?_
    refine T.pass (Unwanted.guard rfl rfl rfl) rfl rfl ?_
    refine T.pass (Unwanted.guard rfl rfl rfl) rfl rfl ?_
    refine T.pass (Unwanted.guard rfl rfl rfl) rfl rfl ?_
    refine T.pv (PV.pickF rfl rfl rfl) Wanted.none rfl rfl ?_
    refine T.pv (PV.assign rfl) Wanted.none rfl rfl ?_
    refine T.opsNil ?_
    (first | exact T.retF (Lv.fin (RV.tmp rfl rfl) (boolV (by omega))) | exact T.retF (Lv.fin (RV.tmp rfl rfl) (boolF (by omega))) | exact T.retF (Lv.fin (RV.tmp rfl rfl) (boolT (by omega))))
end Go.Proofs.Ytchgfjclchhgmaa
namespace Go.Proofs.Ytchgfjclchhgmaa
open Go.RowKit


theorem flatS_len (l : List Sp) : (l.flatMap encS).length = l.length * 2 := flat_len encS_len l
theorem one_flatS (l : List Sp) : ∀ v ∈ l.flatMap encS, v.oneCell' = true := by
  intro v hv
  obtain ⟨s, _, hs⟩ := List.mem_flatMap.1 hv
  exact one_encS s v hs
abbrev SpL (H : Hp) (v : Value) (l : List Sp) : Prop := SlR H 2 v l.length (l.flatMap encS)
abbrev SpV (v : Value) (lv : List (Nat × Obj)) (l : List Sp) : Prop := Vec 25 2 v lv l.length (l.flatMap encS)
/-! ### Compact -/
structure CG where
  j : Nat
  k : Nat
  c : List Sp
theorem getE {l : List Sp} {i : Nat} {s : Sp} (tl : List Value) (h : l[i]? = some s) : ((l.flatMap encS ++ tl).drop (0 + ((i : Nat) : Int).toNat * 2)).take 2 = [.int .i64 s.1, .int .i64 s.2] := by
  have h1 := flat_elem encS_len l i s h
  have hi := (List.getElem?_eq_some_iff.1 h).1
  have hl := flatS_len l
  rw [Nat.zero_add, Int.toNat_natCast, List.drop_append_of_le_length (by omega), List.take_append_of_le_length (by rw [List.length_drop]; omega), h1]; rfl
theorem getE2 {c : List Sp} {k j : Nat} {s : Sp} (tl : List Value) (h : c[k + j]? = some s) : ((c.flatMap encS ++ tl).drop (0 + ((k : Nat) : Int).toNat * 2 + ((j : Nat) : Int).toNat * 2)).take 2 = [.int .i64 s.1, .int .i64 s.2] := by
  have := getE tl h
  rw [show 0 + ((k : Nat) : Int).toNat * 2 + ((j : Nat) : Int).toNat * 2 = 0 + ((k + j : Nat) : Int).toNat * 2 by omega]
  exact this
theorem Splice.skips {pre : List Value} : ∀ {c : List Value} {o : Nat} {vs c' : List Value}, Splice c o vs c' → Splice (pre ++ c) (pre.length + o) vs (pre ++ c') := by
  induction pre with
  | nil => intro c o vs c' h; simpa using h
  | cons p pre ih =>
    intro c o vs c' h
    rw [List.cons_append, List.cons_append, List.length_cons, show pre.length + 1 + o = (pre.length + o) + 1 by omega]
    exact .skip (ih h)
theorem splice_set {c : List Sp} {m : Nat} (x : Sp) (tl : List Value) (h : m < c.length) : Splice (c.flatMap encS ++ tl) (0 + ((m : Nat) : Int).toNat * 2) [.int .i64 x.1, .int .i64 x.2] ((c.set m x).flatMap encS ++ tl) := by
  have e1 : c.flatMap encS ++ tl = (c.take m).flatMap encS ++ (encS c[m] ++ ((c.drop (m + 1)).flatMap encS ++ tl)) := by
    have : c.flatMap encS = (c.take m).flatMap encS ++ (encS c[m] ++ (c.drop (m + 1)).flatMap encS) := by rw [← List.flatMap_cons, ← List.drop_eq_getElem_cons h, ← List.flatMap_append, List.take_append_drop]
    rw [this, List.append_assoc, List.append_assoc]
  have e2 : (c.set m x).flatMap encS ++ tl = (c.take m).flatMap encS ++ (encS x ++ ((c.drop (m + 1)).flatMap encS ++ tl)) := by
    rw [List.set_eq_take_append_cons_drop, if_pos h]
    simp
  have e3 : 0 + ((m : Nat) : Int).toNat * 2 = ((c.take m).flatMap encS).length + 0 := by rw [flatS_len, List.length_take, Nat.min_eq_left (by omega)]; omega
  rw [e1, e2, e3]
  exact Splice.skips (.cons (.cons .nil))
set_option maxHeartbeats 2000000 in
theorem compact_fn (l : List Sp) (v : Value) (lv : List (Nat × Obj)) (H : Hp) (hv : SpV v lv l) (hl : l.length ≤ 1000000) : FnW Try.prog 47 #[v] H lv (fun u H' l' => H' = H ∧ SpV u l' (dedupAdj l)) := by
  obtain ⟨ad, cap, rfl⟩ := hv.val
  refine FnW.of_T (vs := [.slice ad l.length cap]) Try.func47 rfl rfl fun w => ?_
  refine T.seq ?_
  refine T.region ?_
  refine T.pv (PV.assign rfl) Wanted.none rfl rfl ?_
  refine T.opsNil ?_
  refine T.seq ?_
  refine T.seq ?_
  refine T.region ?_
  refine T.pv (PV.move rfl) Wanted.none rfl rfl ?_
  refine T.pv (PV.lenSl rfl) Wanted.none rfl rfl ?_
  refine T.pv (PV.lss rfl rfl) Wanted.none rfl rfl ?_
  refine T.opsNil ?_
  by_cases h2 : l.length < 2
  · refine T.condT rfl (decide_eq_true (by omega)) ?_
    refine T.seq ?_
    refine T.region ?_
    refine T.pv (PV.move rfl) Wanted.none rfl rfl ?_
    refine T.pv (PV.assign rfl) Wanted.none rfl rfl ?_
    refine T.opsNil ?_
    have hd : dedupAdj l = l := by
      match l, h2 with
      | [], _ => rfl
      | [x], _ => rfl
    exact T.retW (Lv.finW lv (List.Sublist.refl _) (RV.tmp rfl rfl) ⟨rfl, by rw [hd]; exact hv⟩)
  · have hne : l.flatMap encS ≠ [] := by intro h; have := congrArg List.length h; rw [flatS_len] at this; simp at this; omega
    obtain ⟨b, cap', hve⟩ := hv.ptr (by omega)
    injection hve with e1 e2 e3
    subst e1 e3
    obtain ⟨_, r1, r2, tl, rfl, r3⟩ := hv.row hne
    refine T.condF rfl (decide_eq_false (by omega)) ?_
    refine T.skip ?_
    refine T.seq ?_
    refine T.seq ?_
    refine T.region ?_
    refine T.pv (PV.assign rfl) Wanted.none rfl rfl ?_
    refine T.opsNil ?_
    refine T.block ?_
    refine T.loop (γ := Nat) (fun k => 1 ≤ k ∧ k ≤ l.length ∧ dedupAdj (l.take k) = l.take k)
      (fun k => [(0, .slice (some ⟨b, 0, none⟩) l.length cap), (2, .slice none 0 0), (3, .int .i64 (k : Int))])
      (fun _ => [(b, .cells (l.flatMap encS ++ tl).toArray 25 (0, 0))]) (fun _ => H) (fun k => l.length - k) 1 ⟨by omega, by omega, ?_⟩ zq8 zq4 rfl ?_
    · match l, h2 with
      | x :: t, _ => rfl
    rintro k ⟨k1, k2, k3⟩
    by_cases hk : k < l.length
    · obtain ⟨x, hx⟩ : ∃ x, l[k]? = some x := ⟨_, List.getElem?_eq_getElem hk⟩
      obtain ⟨y, hy⟩ : ∃ y, l[k - 1]? = some y := ⟨_, List.getElem?_eq_getElem (by omega)⟩
      have g1 := getE tl hx
      have g2 := getE tl hy
      rw [show ((k - 1 : Nat) : Int) = (k : Int) - 1 by omega] at g2
      refine T.seq ?_
      refine T.seq ?_
      refine T.region ?_
      refine T.pv (PV.move rfl) Wanted.none rfl rfl ?_
      refine T.pv (PV.move rfl) Wanted.none rfl rfl ?_
      refine T.pv (PV.lenSl rfl) Wanted.none rfl rfl ?_
      refine T.pv (PV.lss rfl rfl) Wanted.none rfl rfl ?_
      refine T.opsNil ?_
      refine T.condT rfl (decide_eq_true (by omega)) ?_
      refine T.skip ?_
      refine T.seq ?_
      refine T.block ?_
      refine T.seq ?_
      refine T.regionQ (by kernel_rfl) ?_
      refine TQ.pv (PV.move rfl) Wanted.none rfl rfl ?_
      refine TQ.pv (PV.move rfl) Wanted.none rfl rfl ?_
      refine TQ.pv (PV.indexAddr rfl rfl (by omega)) Wanted.none rfl rfl ?_
      refine TQ.pv (PV.loadAgg rfl zq0 (by assumption) (by exact rfl)) Wanted.none rfl rfl ?_
      refine TQ.pv (PV.move rfl) Wanted.none rfl rfl ?_
      refine TQ.pv (PV.move rfl) Wanted.none rfl rfl ?_
      refine TQ.pv (PV.sub rfl rfl (by omega)) Wanted.none rfl rfl ?_
      refine TQ.pv (PV.indexAddr rfl rfl (by omega)) Wanted.none rfl rfl ?_
      refine TQ.pv (PV.loadAgg rfl zq0 (by assumption) (by exact rfl)) Wanted.none rfl rfl ?_
      refine TQ.pv (PV.aeql rfl rfl rfl rfl) Wanted.none rfl rfl ?_
      refine TQ.nil ?_
      have hlast : (l.take k).getLast? = some y := by
        rw [List.getLast?_eq_getElem?, List.length_take, Nat.min_eq_left (by omega), List.getElem?_take, if_pos (by omega), hy]
      have hsn : l.take (k + 1) = l.take k ++ [x] := by rw [List.take_add_one, hx]; rfl
      have hdd := dedupAdj_snoc x (l.take k)
      rw [hlast, ← hsn, k3] at hdd
      rw [eqS_eq]
      refine T.condD rfl (fun hc => ?_) (fun hc => ?_)
      · subst hc
        rw [if_pos rfl] at hdd
        refine T.seq ?_
        refine T.region ?_
        refine T.pv (PV.move rfl) Wanted.none rfl rfl ?_
        refine T.pv (PV.move rfl) Wanted.none rfl rfl ?_
        refine T.pv (PV.sliceLP rfl rfl (by omega)) Wanted.none rfl rfl ?_
        refine T.pv (PV.assign rfl) Wanted.none rfl rfl ?_
        refine T.opsNil ?_
        refine T.seq ?_
        refine T.seq ?_
        refine T.region ?_
        refine T.pv (PV.assign rfl) Wanted.none rfl rfl ?_
        refine T.opsNil ?_
        refine T.block ?_
        refine T.loop (γ := CG) (fun g => 1 ≤ g.j ∧ k + g.j ≤ l.length ∧ 1 ≤ g.k ∧ g.k < k + g.j ∧ g.c.length = l.length ∧ g.c.take g.k = dedupAdj (l.take (k + g.j)) ∧ g.c.drop (k + g.j - 1) = l.drop (k + g.j - 1))
          (fun g => [(0, .slice (some ⟨b, 0, none⟩) l.length cap), (2, .slice none 0 0), (3, .int .i64 (g.k : Int)), (4, .slice (some ⟨b, 0 + ((k : Nat) : Int).toNat * 2, none⟩) (l.length - ((k : Nat) : Int).toNat) (cap - ((k : Nat) : Int).toNat)), (5, .int .i64 (g.j : Int))])
          (fun g => [(b, .cells (g.c.flatMap encS ++ tl).toArray 25 (0, 0))]) (fun _ => H) (fun g => l.length - (k + g.j)) ⟨1, k, l⟩ ⟨by dsimp only; omega, by dsimp only; omega, by dsimp only; omega, by dsimp only; omega, rfl, hdd.symm, rfl⟩ zq8 zq4 rfl ?_
        rintro ⟨j, m, c⟩ ⟨i1, i2, i3, i4, i5, i6, i7⟩
        dsimp only at i1 i2 i3 i4 i5 i6 i7 ⊢
        by_cases hj : k + j < l.length
        · obtain ⟨u, hu⟩ : ∃ u, l[k + j]? = some u := ⟨_, List.getElem?_eq_getElem hj⟩
          obtain ⟨z, hz⟩ : ∃ z, l[k + j - 1]? = some z := ⟨_, List.getElem?_eq_getElem (by omega)⟩
          have hcu : c[k + j]? = some u := by
            have := congrArg (fun l => l[1]?) i7
            simp only [List.getElem?_drop] at this
            rw [show k + j - 1 + 1 = k + j by omega] at this
            rw [this, hu]
          have hcz : c[k + (j - 1)]? = some z := by
            have := congrArg (fun l => l[0]?) i7
            simp only [List.getElem?_drop, Nat.add_zero] at this
            rw [show k + (j - 1) = k + j - 1 by omega, this, hz]
          have g3 := getE2 tl hcu
          have g4 := getE2 tl hcz
          rw [show ((j - 1 : Nat) : Int) = (j : Int) - 1 by omega] at g4
          have hlast2 : (l.take (k + j)).getLast? = some z := by
            rw [List.getLast?_eq_getElem?, List.length_take, Nat.min_eq_left (by omega), List.getElem?_take, if_pos (by omega), hz]
          have hsn2 : l.take (k + (j + 1)) = l.take (k + j) ++ [u] := by rw [← Nat.add_assoc, List.take_add_one, hu]; rfl
          have hd2 := dedupAdj_snoc u (l.take (k + j))
          rw [hlast2, ← hsn2] at hd2
          refine T.seq ?_
          refine T.seq ?_
          refine T.region ?_
          refine T.pv (PV.move rfl) Wanted.none rfl rfl ?_
          refine T.pv (PV.move rfl) Wanted.none rfl rfl ?_
          refine T.pv (PV.lenSl rfl) Wanted.none rfl rfl ?_
          refine T.pv (PV.lss rfl rfl) Wanted.none rfl rfl ?_
          refine T.opsNil ?_
          refine T.condT rfl (decide_eq_true (by omega)) ?_
          refine T.skip ?_
          refine T.seq ?_
          refine T.block ?_
          refine T.seq ?_
          refine T.regionQ (by kernel_rfl) ?_
          refine TQ.pv (PV.move rfl) Wanted.none rfl rfl ?_
          refine TQ.pv (PV.move rfl) Wanted.none rfl rfl ?_
          refine TQ.pv (PV.indexAddr rfl rfl (by omega)) Wanted.none rfl rfl ?_
          refine TQ.pv (PV.loadAgg rfl zq0 (by assumption) (by exact rfl)) Wanted.none rfl rfl ?_
          refine TQ.pv (PV.move rfl) Wanted.none rfl rfl ?_
          refine TQ.pv (PV.move rfl) Wanted.none rfl rfl ?_
          refine TQ.pv (PV.sub rfl rfl (by omega)) Wanted.none rfl rfl ?_
          refine TQ.pv (PV.indexAddr rfl rfl (by omega)) Wanted.none rfl rfl ?_
          refine TQ.pv (PV.loadAgg rfl zq0 (by assumption) (by exact rfl)) Wanted.none rfl rfl ?_
          refine TQ.pv (PV.aneq rfl rfl rfl rfl) Wanted.none rfl rfl ?_
          refine TQ.nil ?_
          rw [eqS_eq]
          refine T.cond rfl (fun hc => ?_) (fun hc => ?_)
          · have hne2 : ¬ u = z := by simpa using hc
            rw [if_neg (fun e => hne2 (by injection e with e; exact e.symm))] at hd2
            refine T.seq ?_
            refine T.region ?_
            refine T.pv (PV.move rfl) Wanted.none rfl rfl ?_
            refine T.pv (PV.move rfl) Wanted.none rfl rfl ?_
            refine T.pv (PV.move rfl) Wanted.none rfl rfl ?_
            refine T.pv (PV.move rfl) Wanted.none rfl rfl ?_
            refine T.pv (PV.indexAddr rfl rfl (by omega)) Wanted.none rfl rfl ?_
            refine T.pv (PV.loadAgg rfl zq0 (by assumption) (by exact rfl)) Wanted.none rfl rfl ?_
            refine T.pv (PV.indexAddr rfl rfl (by omega)) Wanted.none rfl rfl ?_
            refine T.storeA Wanted.none rfl rfl ⟨rfl, rfl, trivial⟩ (by exact rfl) Upd.head (splice_set u tl (by omega)) ?_
            refine T.opsNil ?_
            refine T.region ?_
            refine T.pv (PV.move rfl) Wanted.none rfl rfl ?_
            refine T.pv (PV.add rfl rfl (by omega)) Wanted.none rfl rfl ?_
            refine T.pv (PV.assign rfl) Wanted.none rfl rfl ?_
            refine T.opsNil ?_
            refine T.blkEnd ?_
            refine T.region ?_
            refine T.pv (PV.move rfl) Wanted.none rfl rfl ?_
            refine T.pv (PV.add rfl rfl (by omega)) Wanted.none rfl rfl ?_
            refine T.pv (PV.assign rfl) Wanted.none rfl rfl ?_
            refine T.opsNil ?_
            refine T.next ⟨j + 1, m + 1, c.set m u⟩ ⟨by dsimp only; omega, by dsimp only; omega, by dsimp only; omega, by dsimp only; omega, by dsimp only; rw [List.length_set]; exact i5, ?_, ?_⟩ (by dsimp only; omega) zq8 zq4 rfl
            · dsimp only
              rw [hd2, ← i6, List.take_add_one, List.getElem?_set_self (by omega), List.take_set_of_le (Nat.le_refl _)]; rfl
            · dsimp only
              rw [show k + (j + 1) - 1 = k + j - 1 + 1 by omega, ← List.drop_drop, ← List.drop_drop, ← i7, List.drop_drop, List.drop_drop, List.drop_set_of_lt (by omega)]
          · have heq2 : u = z := by simpa using hc
            rw [if_pos (by rw [heq2])] at hd2
            refine T.skip ?_
            refine T.blkEnd ?_
            refine T.region ?_
            refine T.pv (PV.move rfl) Wanted.none rfl rfl ?_
            refine T.pv (PV.add rfl rfl (by omega)) Wanted.none rfl rfl ?_
            refine T.pv (PV.assign rfl) Wanted.none rfl rfl ?_
            refine T.opsNil ?_
            refine T.next ⟨j + 1, m, c⟩ ⟨by dsimp only; omega, by dsimp only; omega, by dsimp only; omega, by dsimp only; omega, i5, by dsimp only; rw [hd2]; exact i6, ?_⟩ (by dsimp only; omega) zq8 zq4 rfl
            dsimp only
            rw [show k + (j + 1) - 1 = k + j - 1 + 1 by omega, ← List.drop_drop, ← List.drop_drop, i7]
        · have hke : l.take (k + j) = l := List.take_of_length_le (by omega)
          rw [hke] at i6
          have hdl := dedupAdj_len l
          have hml : m = (dedupAdj l).length := by rw [← i6, List.length_take, i5]; omega
          have hcl : (c.flatMap encS ++ tl).length = cap * 2 := by rw [← r3, List.length_append, List.length_append, flatS_len, flatS_len, i5]
          refine T.seq ?_
          refine T.seq ?_
          refine T.region ?_
          refine T.pv (PV.move rfl) Wanted.none rfl rfl ?_
          refine T.pv (PV.move rfl) Wanted.none rfl rfl ?_
          refine T.pv (PV.lenSl rfl) Wanted.none rfl rfl ?_
          refine T.pv (PV.lss rfl rfl) Wanted.none rfl rfl ?_
          refine T.opsNil ?_
          refine T.condF rfl (decide_eq_false (by omega)) ?_
          refine T.exit rfl ?_
          refine T.seq ?_
          refine T.region ?_
          refine T.pv (PV.move rfl) Wanted.none rfl rfl ?_
          refine T.pv (PV.move rfl) Wanted.none rfl rfl ?_
          refine T.pv (PV.sliceLP rfl rfl (by omega)) Wanted.none rfl rfl ?_
          refine T.clearOwn [] Wanted.none rfl rfl rfl (by exact ⟨rfl, rfl, trivial⟩) (by rw [hcl, Int.toNat_natCast]; omega) ?_
          intro zs hzs
          refine T.opsNil ?_
          refine T.seq ?_
          refine T.region ?_
          refine T.pv (PV.move rfl) Wanted.none rfl rfl ?_
          refine T.pv (PV.move rfl) Wanted.none rfl rfl ?_
          refine T.pv (PV.sliceH rfl rfl (by omega)) Wanted.none rfl rfl ?_
          refine T.pv (PV.assign rfl) Wanted.none rfl rfl ?_
          refine T.opsNil ?_
          have hpre : (c.flatMap encS ++ tl).take (0 + ((m : Nat) : Int).toNat * 2) = (dedupAdj l).flatMap encS := by
            rw [Nat.zero_add, Int.toNat_natCast, List.take_append_of_le_length (by rw [flatS_len]; omega), ← i6]
            conv => lhs; rw [← List.take_append_drop m c, List.flatMap_append]
            exact List.take_left' (by rw [flatS_len, List.length_take]; omega)
          refine T.retW (Lv.finW _ (List.Sublist.refl _) (RV.tmp rfl rfl) ⟨rfl, ?_⟩)
          rw [hpre, Int.toNat_natCast]
          refine ⟨flatS_len _, .inr ⟨b, cap, _, by rw [hml], rfl, by omega, r2, ?_, ?_⟩⟩
          · rw [List.length_append, List.length_append, hzs, flatS_len, List.length_drop, hcl, Int.toNat_natCast]; omega
          · rw [List.append_assoc, ← flatS_len, List.take_left]
      · rw [if_neg (fun e => hc (by injection e with e; exact e.symm))] at hdd
        refine T.skip ?_
        refine T.blkEnd ?_
        refine T.region ?_
        refine T.pv (PV.move rfl) Wanted.none rfl rfl ?_
        refine T.pv (PV.add rfl rfl (by omega)) Wanted.none rfl rfl ?_
        refine T.pv (PV.assign rfl) Wanted.none rfl rfl ?_
        refine T.opsNil ?_
        exact T.next (k + 1) ⟨by omega, by omega, by rw [hdd, hsn]⟩ (by omega) zq8 zq4 rfl
    · refine T.seq ?_
      refine T.seq ?_
      refine T.region ?_
      refine T.pv (PV.move rfl) Wanted.none rfl rfl ?_
      refine T.pv (PV.move rfl) Wanted.none rfl rfl ?_
      refine T.pv (PV.lenSl rfl) Wanted.none rfl rfl ?_
      refine T.pv (PV.lss rfl rfl) Wanted.none rfl rfl ?_
      refine T.opsNil ?_
      refine T.condF rfl (decide_eq_false (by omega)) ?_
      refine T.exit rfl ?_
      refine T.seq ?_
      refine T.region ?_
      refine T.pv (PV.move rfl) Wanted.none rfl rfl ?_
      refine T.pv (PV.assign rfl) Wanted.none rfl rfl ?_
      refine T.opsNil ?_
      have hke : l.take k = l := List.take_of_length_le (by omega)
      rw [hke] at k3
      exact T.retW (Lv.finW _ (List.Sublist.refl _) (RV.tmp rfl rfl) ⟨rfl, by rw [k3]; exact hv⟩)
end Go.Proofs.Ytchgfjclchhgmaa
namespace Go.Proofs.Ytchgfjclchhgmaa
open Go.RowKit

theorem SlR.span {H : Hp} {ad : Option Addr} {n cap : Nat} {l : List Sp} (h : SlR H 2 (.slice ad n cap) l.length (l.flatMap encS)) {i : Nat} {x : Sp} (hx : l[i]? = some x) : ∃ b off, ad = some ⟨b, off, none⟩ ∧ SubC H b (off + i * 2) [.int .i64 x.1, .int .i64 x.2] := by
  have hi := (List.getElem?_eq_some_iff.1 hx).1
  obtain ⟨b, off, cap', hve, hsub⟩ := h.elem (i := i) hi (flat_elem encS_len l i x hx)
  injection hve with e1 e2 e3
  exact ⟨b, off, e1, hsub⟩
theorem SlR.spanP {H : Hp} {b off : Nat} {n cap : Nat} {l : List Sp} (h : SlR H 2 (.slice (some ⟨b, off, none⟩) n cap) l.length (l.flatMap encS)) {i : Nat} {x : Sp} (hx : l[i]? = some x) : SubC H b (off + i * 2) [.int .i64 x.1, .int .i64 x.2] := by
  obtain ⟨b', off', e, hs⟩ := h.span hx
  injection e with e
  injection e with e1 e2
  subst e1 e2
  exact hs

theorem ints_len (l : List Int) : (intsV l).length = l.length := by
  have := flat_len (f := fun a : Int => [Value.int .i64 a]) (fun _ => rfl) l
  rw [Nat.mul_one] at this; exact this
theorem one_ints (l : List Int) : ∀ v ∈ intsV l, v.oneCell' = true := by
  intro v hv
  obtain ⟨s, _, hs⟩ := List.mem_flatMap.1 hv
  simp at hs; subst hs; rfl
abbrev InL (H : Hp) (v : Value) (l : List Int) : Prop := SlR H 1 v l.length (intsV l)
theorem SlR.intAt {H : Hp} {ad : Option Addr} {n cap : Nat} {l : List Int} (h : SlR H 1 (.slice ad n cap) l.length (intsV l)) {i : Nat} {x : Int} (hx : l[i]? = some x) : ∃ b off, ad = some ⟨b, off, none⟩ ∧ SubC H b (off + i * 1) [.int .i64 x] := by
  have hi := (List.getElem?_eq_some_iff.1 hx).1
  obtain ⟨b, off, cap', hve, hsub⟩ := h.elem (i := i) hi (flat_elem (f := fun a : Int => [Value.int .i64 a]) (fun _ => rfl) l i x hx)
  injection hve with e1 e2 e3
  exact ⟨b, off, e1, hsub⟩
theorem cmpL_drop {a b : List Int} {i : Nat} {x y : Int} (hx : a[i]? = some x) (hy : b[i]? = some y) : cmpL (a.drop i) (b.drop i) = if x < y then -1 else if y < x then 1 else cmpL (a.drop (i + 1)) (b.drop (i + 1)) := by
  have h1 := List.getElem?_eq_some_iff.1 hx
  have h2 := List.getElem?_eq_some_iff.1 hy
  rw [List.drop_eq_getElem_cons h1.1, List.drop_eq_getElem_cons h2.1, h1.2, h2.2, cmpL]
theorem cmpL_nil (b : List Int) : cmpL [] b = if 0 < b.length then -1 else 0 := by cases b <;> simp [cmpL]
theorem cmpL_nil2 {a : List Int} (h : 0 < a.length) : cmpL a [] = 1 := by cases a <;> simp_all [cmpL]
theorem clone_fn (l : List Int) (v : Value) (H : Hp) (hv : InL H v l) (hl : l.length ≤ 17592186044000) : Fn Try.prog 42 #[v] H (fun u H' => InL H' u l) := by
  obtain ⟨ad, cap, rfl⟩ := hv.len
  refine Fn.of_T (vs := [.slice ad l.length cap]) Try.func42 rfl rfl fun w => ?_
  cases had : ad with
  | none =>
    subst had
    have hl0 : l = [] := by
      rcases hv.2 with ⟨_, h0⟩ | ⟨b, off, cap, cs, t, fz, h1, _⟩
      · exact List.eq_nil_of_length_eq_zero h0
      · cases h1
    subst hl0
    refine T.seq ?_
    refine T.region ?_
    refine T.pv (PV.assign rfl) Wanted.none rfl rfl ?_
    refine T.opsNil ?_
    refine T.seq ?_
    refine T.seq ?_
    refine T.region ?_
    refine T.pv (PV.move rfl) Wanted.none rfl rfl ?_
    refine T.pv (PV.slNilR rfl rfl) Wanted.none rfl rfl ?_
    refine T.opsNil ?_
    refine T.condT rfl rfl ?_
    refine T.seq ?_
    refine T.region ?_
    refine T.pv (PV.assign rfl) Wanted.none rfl rfl ?_
    refine T.opsNil ?_
    exact T.retF (Lv.fin (RV.tmp rfl rfl) (SlR.empty))
  | some a =>
    subst had
    refine T.seq ?_
    refine T.region ?_
    refine T.pv (PV.assign rfl) Wanted.none rfl rfl ?_
    refine T.opsNil ?_
    refine T.seq ?_
    refine T.seq ?_
    refine T.region ?_
    refine T.pv (PV.move rfl) Wanted.none rfl rfl ?_
    refine T.pv (PV.slNilR rfl rfl) Wanted.none rfl rfl ?_
    refine T.opsNil ?_
    refine T.condF rfl rfl ?_
    refine T.skip ?_
    refine T.seq ?_
    refine T.region ?_
    (refine T.buildSlice Wanted.none rfl rfl zq11 (by exact rfl) (by exact rfl) ?_; intro b5)
    refine T.pv (PV.move rfl) Wanted.none rfl rfl ?_
    refine T.append [] (lv := []) (bl := [_]) Wanted.none rfl rfl rfl (Vec.empty 3 1 _) hv.src (one_ints l) (by omega) ?_
    intro v' lv' hv' hnil
    rw [Nat.zero_add, List.nil_append] at hv'
    refine T.pv (PV.assign rfl) Wanted.none rfl rfl ?_
    refine T.opsNil ?_
    exact T.retF (Vec.freezeLv (l' := []) hv' (by rw [List.append_nil]; exact List.sublist_append_left lv' _) fun H' _ hsl => Lv.fin (RV.tmp rfl rfl) hsl)
/-! ### matches -/
def mtV (m : Mt) : Value := .agg #[.int .i64 m.b, .int .i64 m.e, m.v]
def LabOk (H : Hp) (m : Mt) : Prop := InL H m.v m.ls ∧ m.ls.length ≤ 17592186044000
/-! ### the reference's Compare -/
theorem Vec.lit2 (a b : Int) (blk : Nat) : Vec 3 1 (.slice (some ⟨blk, 0, none⟩) 2 2) [(blk, .cells #[.int .i64 a, .int .i64 b] 3 (0, 0))] 2 (intsV [a, b]) :=
  ⟨rfl, .inr ⟨blk, 2, [.int .i64 a, .int .i64 b], rfl, rfl, Nat.le_refl _, by decide, rfl, rfl⟩⟩
structure CmG where
  j : Nat
set_option maxHeartbeats 2000000 in
theorem refCompare_fn (a b : Mt) (H : Hp) (ha : LabOk H a) (hb : LabOk H b) : Fn Try.prog 39 #[mtV a, mtV b] H (fun u _ => u = .int .i64 (cmpL (keyM a) (keyM b))) := by
  refine Fn.of_T (vs := [mtV a, mtV b]) Try.func39 rfl rfl fun w => ?_
  unfold mtV
  have hla := ha.2
  have hlb := hb.2
  refine T.seq ?_
  refine T.region ?_
  (refine T.box Wanted.none rfl rfl zq15 ?_; intro b2)
  (refine T.box Wanted.none rfl rfl zq15 ?_; intro b3)
  refine T.pv (PV.assign rfl) Wanted.none rfl rfl ?_
  refine T.opsNil ?_
  refine T.seq ?_
  refine T.region ?_
  refine T.pv (PV.fieldAddr rfl) Wanted.none rfl rfl ?_
  refine T.pv (PV.load1 rfl zq0 rfl) Wanted.none rfl rfl ?_
  refine T.pv (PV.fieldAddr rfl) Wanted.none rfl rfl ?_
  refine T.pv (PV.load1 rfl zq0 rfl) Wanted.none rfl rfl ?_
  (refine T.buildSlice Wanted.none rfl rfl zq11 (by exact rfl) (by exact rfl) ?_; intro b12)
  refine T.pv (PV.fieldAddr rfl) Wanted.none rfl rfl ?_
  refine T.pv (PV.load1 rfl zq0 rfl) Wanted.none rfl rfl ?_
  refine T.append [] (lv := [_]) (bl := [_, _]) Wanted.none rfl rfl rfl (Vec.lit2 a.b a.e b12) ha.1.src (one_ints _) (by omega) ?_
  intro v1 lv1 hv1 _
  rw [show (2 + a.ls.length) = (keyM a).length by unfold keyM; simp; omega, show intsV [a.b, a.e] ++ intsV a.ls = intsV (keyM a) from rfl] at hv1
  refine Vec.freeze (lv := lv1) (l := [_, _]) hv1 ?_
  intro H1 hle1 hx
  refine T.pv (PV.assign rfl) Wanted.none rfl rfl ?_
  refine T.opsNil ?_
  refine T.seq ?_
  refine T.region ?_
  refine T.pv (PV.fieldAddr rfl) Wanted.none rfl rfl ?_
  refine T.pv (PV.load1 rfl zq0 rfl) Wanted.none rfl rfl ?_
  refine T.pv (PV.fieldAddr rfl) Wanted.none rfl rfl ?_
  refine T.pv (PV.load1 rfl zq0 rfl) Wanted.none rfl rfl ?_
  (refine T.buildSlice Wanted.none rfl rfl zq11 (by exact rfl) (by exact rfl) ?_; intro b20)
  refine T.pv (PV.fieldAddr rfl) Wanted.none rfl rfl ?_
  refine T.pv (PV.load1 rfl zq0 rfl) Wanted.none rfl rfl ?_
  refine T.append [] (lv := [_]) (bl := [_, _]) Wanted.none rfl rfl rfl (Vec.lit2 b.b b.e b20) (hb.1.mono hle1).src (one_ints _) (by omega) ?_
  intro v2 lv2 hv2 _
  rw [show (2 + b.ls.length) = (keyM b).length by unfold keyM; simp; omega, show intsV [b.b, b.e] ++ intsV b.ls = intsV (keyM b) from rfl] at hv2
  refine Vec.freeze (lv := lv2) (l := [_, _]) hv2 ?_
  intro H2 hle2 hy
  replace hx := hx.mono hle2
  have hka : (keyM a).length ≤ 17592186044002 := by unfold keyM; simp; omega
  have hkb : (keyM b).length ≤ 17592186044002 := by unfold keyM; simp; omega
  clear hv1 hv2
  generalize keyM a = ka at *
  generalize keyM b = kb at *
  obtain ⟨ada, capa, rfl⟩ := hx.len
  obtain ⟨adb, capb, rfl⟩ := hy.len
  refine T.pv (PV.assign rfl) Wanted.none rfl rfl ?_
  refine T.opsNil ?_
  refine T.seq ?_
  refine T.seq ?_
  refine T.region ?_
  refine T.pv (PV.assign rfl) Wanted.none rfl rfl ?_
  refine T.opsNil ?_
  refine T.block ?_
  refine T.loop (γ := Nat) (fun i => i ≤ ka.length ∧ i ≤ kb.length ∧ cmpL (ka.drop i) (kb.drop i) = cmpL ka kb)
    (fun i => [(7, .int .i64 (i : Int)), (5, .slice ada ka.length capa), (6, .slice adb kb.length capb)])
    (fun _ => []) (fun _ => H2) (fun i => ka.length - i) 0 ⟨by simp, by simp, rfl⟩ zq8 zq4 rfl ?_
  rintro i ⟨i1, i2, i3⟩
  by_cases hi : i < ka.length
  · obtain ⟨x, hax⟩ : ∃ x, ka[i]? = some x := ⟨_, List.getElem?_eq_getElem hi⟩
    obtain ⟨b1, off1, rfl, hsub⟩ := hx.intAt hax
    by_cases hj : i < kb.length
    · obtain ⟨y, hby⟩ : ∃ x, kb[i]? = some x := ⟨_, List.getElem?_eq_getElem hj⟩
      obtain ⟨b2, off2, rfl, hsub2⟩ := hy.intAt hby
      rw [cmpL_drop hax hby] at i3
      by_cases h1 : x < y
      · rw [if_pos h1] at i3
        refine T.seq ?_
        refine T.seq ?_
        refine T.region ?_
        refine T.pv (PV.move rfl) Wanted.none rfl rfl ?_
        refine T.pv (PV.move rfl) Wanted.none rfl rfl ?_
        refine T.pv (PV.lenSl rfl) Wanted.none rfl rfl ?_
        refine T.pv (PV.lss rfl rfl) Wanted.none rfl rfl ?_
        refine T.pv (PV.move rfl) Wanted.none rfl rfl ?_
        refine T.setT (d := 28) rfl (by omega) ?_
        refine T.pv (PV.move rfl) (Wanted.guard rfl rfl rfl) rfl rfl ?_
        refine T.pv (PV.move rfl) (Wanted.guard rfl rfl rfl) rfl rfl ?_
        refine T.pv (PV.lenSl rfl) (Wanted.guard rfl rfl rfl) rfl rfl ?_
        refine T.pv (PV.lss rfl rfl) (Wanted.guard rfl rfl rfl) rfl rfl ?_
        refine T.pv (PV.pickT rfl rfl rfl) Wanted.none rfl rfl ?_
        refine T.opsNil ?_
        refine T.condT rfl (decide_eq_true (by omega)) ?_
        refine T.skip ?_
        refine T.seq ?_
        refine T.block ?_
        refine T.seq ?_
        refine T.regionQ (by kernel_rfl) ?_
        refine TQ.pv (PV.move rfl) Wanted.none rfl rfl ?_
        refine TQ.pv (PV.move rfl) Wanted.none rfl rfl ?_
        refine TQ.pv (PV.indexAddr rfl rfl (by omega)) Wanted.none rfl rfl ?_
        refine TQ.pv (PV.loadSub0 rfl (by assumption)) Wanted.none rfl rfl ?_
        refine TQ.pv (PV.move rfl) Wanted.none rfl rfl ?_
        refine TQ.pv (PV.move rfl) Wanted.none rfl rfl ?_
        refine TQ.pv (PV.indexAddr rfl rfl (by omega)) Wanted.none rfl rfl ?_
        refine TQ.pv (PV.loadSub0 rfl (by assumption)) Wanted.none rfl rfl ?_
        refine TQ.pv (PV.neq rfl rfl) Wanted.none rfl rfl ?_
        refine TQ.nil ?_
        refine T.condT rfl (decide_eq_true (by omega)) ?_
        refine T.seq ?_
        refine T.seq ?_
        refine T.regionQ (by kernel_rfl) ?_
        refine TQ.pv (PV.move rfl) Wanted.none rfl rfl ?_
        refine TQ.pv (PV.move rfl) Wanted.none rfl rfl ?_
        refine TQ.pv (PV.indexAddr rfl rfl (by omega)) Wanted.none rfl rfl ?_
        refine TQ.pv (PV.loadSub0 rfl (by assumption)) Wanted.none rfl rfl ?_
        refine TQ.pv (PV.move rfl) Wanted.none rfl rfl ?_
        refine TQ.pv (PV.move rfl) Wanted.none rfl rfl ?_
        refine TQ.pv (PV.indexAddr rfl rfl (by omega)) Wanted.none rfl rfl ?_
        refine TQ.pv (PV.loadSub0 rfl (by assumption)) Wanted.none rfl rfl ?_
        refine TQ.pv (PV.lss rfl rfl) Wanted.none rfl rfl ?_
        refine TQ.nil ?_
        refine T.condT rfl (decide_eq_true (by omega)) ?_
        refine T.seq ?_
        refine T.region ?_
        refine T.pv (PV.assign rfl) Wanted.none rfl rfl ?_
        refine T.opsNil ?_
        exact T.retF (Lv.fin (RV.tmp rfl rfl) (by rw [← i3]))
      · rw [if_neg h1] at i3
        by_cases h2 : y < x
        · rw [if_pos h2] at i3
          refine T.seq ?_
          refine T.seq ?_
          refine T.region ?_
          refine T.pv (PV.move rfl) Wanted.none rfl rfl ?_
          refine T.pv (PV.move rfl) Wanted.none rfl rfl ?_
          refine T.pv (PV.lenSl rfl) Wanted.none rfl rfl ?_
          refine T.pv (PV.lss rfl rfl) Wanted.none rfl rfl ?_
          refine T.pv (PV.move rfl) Wanted.none rfl rfl ?_
          refine T.setT (d := 28) rfl (by omega) ?_
          refine T.pv (PV.move rfl) (Wanted.guard rfl rfl rfl) rfl rfl ?_
          refine T.pv (PV.move rfl) (Wanted.guard rfl rfl rfl) rfl rfl ?_
          refine T.pv (PV.lenSl rfl) (Wanted.guard rfl rfl rfl) rfl rfl ?_
          refine T.pv (PV.lss rfl rfl) (Wanted.guard rfl rfl rfl) rfl rfl ?_
          refine T.pv (PV.pickT rfl rfl rfl) Wanted.none rfl rfl ?_
          refine T.opsNil ?_
          refine T.condT rfl (decide_eq_true (by omega)) ?_
          refine T.skip ?_
          refine T.seq ?_
          refine T.block ?_
          refine T.seq ?_
          refine T.regionQ (by kernel_rfl) ?_
          refine TQ.pv (PV.move rfl) Wanted.none rfl rfl ?_
          refine TQ.pv (PV.move rfl) Wanted.none rfl rfl ?_
          refine TQ.pv (PV.indexAddr rfl rfl (by omega)) Wanted.none rfl rfl ?_
          refine TQ.pv (PV.loadSub0 rfl (by assumption)) Wanted.none rfl rfl ?_
          refine TQ.pv (PV.move rfl) Wanted.none rfl rfl ?_
          refine TQ.pv (PV.move rfl) Wanted.none rfl rfl ?_
          refine TQ.pv (PV.indexAddr rfl rfl (by omega)) Wanted.none rfl rfl ?_
          refine TQ.pv (PV.loadSub0 rfl (by assumption)) Wanted.none rfl rfl ?_
          refine TQ.pv (PV.neq rfl rfl) Wanted.none rfl rfl ?_
          refine TQ.nil ?_
          refine T.condT rfl (decide_eq_true (by omega)) ?_
          refine T.seq ?_
          refine T.seq ?_
          refine T.regionQ (by kernel_rfl) ?_
          refine TQ.pv (PV.move rfl) Wanted.none rfl rfl ?_
          refine TQ.pv (PV.move rfl) Wanted.none rfl rfl ?_
          refine TQ.pv (PV.indexAddr rfl rfl (by omega)) Wanted.none rfl rfl ?_
          refine TQ.pv (PV.loadSub0 rfl (by assumption)) Wanted.none rfl rfl ?_
          refine TQ.pv (PV.move rfl) Wanted.none rfl rfl ?_
          refine TQ.pv (PV.move rfl) Wanted.none rfl rfl ?_
          refine TQ.pv (PV.indexAddr rfl rfl (by omega)) Wanted.none rfl rfl ?_
          refine TQ.pv (PV.loadSub0 rfl (by assumption)) Wanted.none rfl rfl ?_
          refine TQ.pv (PV.lss rfl rfl) Wanted.none rfl rfl ?_
          refine TQ.nil ?_
          refine T.condF rfl (decide_eq_false (by omega)) ?_
          refine T.skip ?_
          refine T.seq ?_
          refine T.region ?_
          refine T.pv (PV.assign rfl) Wanted.none rfl rfl ?_
          refine T.opsNil ?_
          exact T.retF (Lv.fin (RV.tmp rfl rfl) (by rw [← i3]))
        · rw [if_neg h2] at i3
          obtain rfl : x = y := by omega
          refine T.seq ?_
          refine T.seq ?_
          refine T.region ?_
          refine T.pv (PV.move rfl) Wanted.none rfl rfl ?_
          refine T.pv (PV.move rfl) Wanted.none rfl rfl ?_
          refine T.pv (PV.lenSl rfl) Wanted.none rfl rfl ?_
          refine T.pv (PV.lss rfl rfl) Wanted.none rfl rfl ?_
          refine T.pv (PV.move rfl) Wanted.none rfl rfl ?_
          refine T.setT (d := 28) rfl (by omega) ?_
          refine T.pv (PV.move rfl) (Wanted.guard rfl rfl rfl) rfl rfl ?_
          refine T.pv (PV.move rfl) (Wanted.guard rfl rfl rfl) rfl rfl ?_
          refine T.pv (PV.lenSl rfl) (Wanted.guard rfl rfl rfl) rfl rfl ?_
          refine T.pv (PV.lss rfl rfl) (Wanted.guard rfl rfl rfl) rfl rfl ?_
          refine T.pv (PV.pickT rfl rfl rfl) Wanted.none rfl rfl ?_
          refine T.opsNil ?_
          refine T.condT rfl (decide_eq_true (by omega)) ?_
          refine T.skip ?_
          refine T.seq ?_
          refine T.block ?_
          refine T.seq ?_
          refine T.regionQ (by kernel_rfl) ?_
          refine TQ.pv (PV.move rfl) Wanted.none rfl rfl ?_
          refine TQ.pv (PV.move rfl) Wanted.none rfl rfl ?_
          refine TQ.pv (PV.indexAddr rfl rfl (by omega)) Wanted.none rfl rfl ?_
          refine TQ.pv (PV.loadSub0 rfl (by assumption)) Wanted.none rfl rfl ?_
          refine TQ.pv (PV.move rfl) Wanted.none rfl rfl ?_
          refine TQ.pv (PV.move rfl) Wanted.none rfl rfl ?_
          refine TQ.pv (PV.indexAddr rfl rfl (by omega)) Wanted.none rfl rfl ?_
          refine TQ.pv (PV.loadSub0 rfl (by assumption)) Wanted.none rfl rfl ?_
          refine TQ.pv (PV.neq rfl rfl) Wanted.none rfl rfl ?_
          refine TQ.nil ?_
          refine T.condF rfl (decide_eq_false (by omega)) ?_
          refine T.skip ?_
          refine T.blkEnd ?_
          refine T.region ?_
          refine T.pv (PV.move rfl) Wanted.none rfl rfl ?_
          refine T.pv (PV.add rfl rfl (by omega)) Wanted.none rfl rfl ?_
          refine T.pv (PV.assign rfl) Wanted.none rfl rfl ?_
          refine T.opsNil ?_
          exact T.next (i + 1) ⟨by omega, by omega, i3⟩ (by omega) zq8 zq4 rfl
    · rw [List.drop_of_length_le (by omega : kb.length ≤ i), cmpL_nil2 (by rw [List.length_drop]; omega)] at i3
      refine T.seq ?_
      refine T.seq ?_
      refine T.region ?_
      refine T.pv (PV.move rfl) Wanted.none rfl rfl ?_
      refine T.pv (PV.move rfl) Wanted.none rfl rfl ?_
      refine T.pv (PV.lenSl rfl) Wanted.none rfl rfl ?_
      refine T.pv (PV.lss rfl rfl) Wanted.none rfl rfl ?_
      refine T.pv (PV.move rfl) Wanted.none rfl rfl ?_
      refine T.setT (d := 28) rfl (by omega) ?_
      refine T.pv (PV.move rfl) (Wanted.guard rfl rfl rfl) rfl rfl ?_
      refine T.pv (PV.move rfl) (Wanted.guard rfl rfl rfl) rfl rfl ?_
      refine T.pv (PV.lenSl rfl) (Wanted.guard rfl rfl rfl) rfl rfl ?_
      refine T.pv (PV.lss rfl rfl) (Wanted.guard rfl rfl rfl) rfl rfl ?_
      refine T.pv (PV.pickT rfl rfl rfl) Wanted.none rfl rfl ?_
      refine T.opsNil ?_
      refine T.condF rfl (decide_eq_false (by omega)) ?_
      refine T.exit rfl ?_
      refine T.seq ?_
      refine T.seq ?_
      refine T.region ?_
      refine T.pv (PV.move rfl) Wanted.none rfl rfl ?_
      refine T.pv (PV.lenSl rfl) Wanted.none rfl rfl ?_
      refine T.pv (PV.move rfl) Wanted.none rfl rfl ?_
      refine T.pv (PV.lenSl rfl) Wanted.none rfl rfl ?_
      refine T.pv (PV.neq rfl rfl) Wanted.none rfl rfl ?_
      refine T.opsNil ?_
      refine T.condT rfl (decide_eq_true (by omega)) ?_
      refine T.seq ?_
      refine T.seq ?_
      refine T.region ?_
      refine T.pv (PV.move rfl) Wanted.none rfl rfl ?_
      refine T.pv (PV.lenSl rfl) Wanted.none rfl rfl ?_
      refine T.pv (PV.move rfl) Wanted.none rfl rfl ?_
      refine T.pv (PV.lenSl rfl) Wanted.none rfl rfl ?_
      refine T.pv (PV.lss rfl rfl) Wanted.none rfl rfl ?_
      refine T.opsNil ?_
      refine T.condF rfl (decide_eq_false (by omega)) ?_
      refine T.skip ?_
      refine T.seq ?_
      refine T.region ?_
      refine T.pv (PV.assign rfl) Wanted.none rfl rfl ?_
      refine T.opsNil ?_
      exact T.retF (Lv.fin (RV.tmp rfl rfl) (by rw [← i3]))
  · rw [List.drop_of_length_le (by omega : ka.length ≤ i), cmpL_nil, List.length_drop] at i3
    by_cases hj : ka.length < kb.length
    · rw [if_pos (by omega)] at i3
      refine T.seq ?_
      refine T.seq ?_
      refine T.region ?_
      refine T.pv (PV.move rfl) Wanted.none rfl rfl ?_
      refine T.pv (PV.move rfl) Wanted.none rfl rfl ?_
      refine T.pv (PV.lenSl rfl) Wanted.none rfl rfl ?_
      refine T.pv (PV.lss rfl rfl) Wanted.none rfl rfl ?_
      refine T.pv (PV.move rfl) Wanted.none rfl rfl ?_
      refine T.setF (d := 28) rfl (by omega) ?_
      refine T.pass (Unwanted.guard rfl rfl rfl) rfl rfl ?_
      refine T.pass (Unwanted.guard rfl rfl rfl) rfl rfl ?_
      refine T.pass (Unwanted.guard rfl rfl rfl) rfl rfl ?_
      refine T.pass (Unwanted.guard rfl rfl rfl) rfl rfl ?_
      refine T.pv (PV.pickF rfl rfl rfl) Wanted.none rfl rfl ?_
      refine T.opsNil ?_
      refine T.condF rfl rfl ?_
      refine T.exit rfl ?_
      refine T.seq ?_
      refine T.seq ?_
      refine T.region ?_
      refine T.pv (PV.move rfl) Wanted.none rfl rfl ?_
      refine T.pv (PV.lenSl rfl) Wanted.none rfl rfl ?_
      refine T.pv (PV.move rfl) Wanted.none rfl rfl ?_
      refine T.pv (PV.lenSl rfl) Wanted.none rfl rfl ?_
      refine T.pv (PV.neq rfl rfl) Wanted.none rfl rfl ?_
      refine T.opsNil ?_
      refine T.condT rfl (decide_eq_true (by omega)) ?_
      refine T.seq ?_
      refine T.seq ?_
      refine T.region ?_
      refine T.pv (PV.move rfl) Wanted.none rfl rfl ?_
      refine T.pv (PV.lenSl rfl) Wanted.none rfl rfl ?_
      refine T.pv (PV.move rfl) Wanted.none rfl rfl ?_
      refine T.pv (PV.lenSl rfl) Wanted.none rfl rfl ?_
      refine T.pv (PV.lss rfl rfl) Wanted.none rfl rfl ?_
      refine T.opsNil ?_
      refine T.condT rfl (decide_eq_true (by omega)) ?_
      refine T.seq ?_
      refine T.region ?_
      refine T.pv (PV.assign rfl) Wanted.none rfl rfl ?_
      refine T.opsNil ?_
      exact T.retF (Lv.fin (RV.tmp rfl rfl) (by rw [← i3]))
    · rw [if_neg (by omega)] at i3
      refine T.seq ?_
      refine T.seq ?_
      refine T.region ?_
      refine T.pv (PV.move rfl) Wanted.none rfl rfl ?_
      refine T.pv (PV.move rfl) Wanted.none rfl rfl ?_
      refine T.pv (PV.lenSl rfl) Wanted.none rfl rfl ?_
      refine T.pv (PV.lss rfl rfl) Wanted.none rfl rfl ?_
      refine T.pv (PV.move rfl) Wanted.none rfl rfl ?_
      refine T.setF (d := 28) rfl (by omega) ?_
      refine T.pass (Unwanted.guard rfl rfl rfl) rfl rfl ?_
      refine T.pass (Unwanted.guard rfl rfl rfl) rfl rfl ?_
      refine T.pass (Unwanted.guard rfl rfl rfl) rfl rfl ?_
      refine T.pass (Unwanted.guard rfl rfl rfl) rfl rfl ?_
      refine T.pv (PV.pickF rfl rfl rfl) Wanted.none rfl rfl ?_
      refine T.opsNil ?_
      refine T.condF rfl rfl ?_
      refine T.exit rfl ?_
      refine T.seq ?_
      refine T.seq ?_
      refine T.region ?_
      refine T.pv (PV.move rfl) Wanted.none rfl rfl ?_
      refine T.pv (PV.lenSl rfl) Wanted.none rfl rfl ?_
      refine T.pv (PV.move rfl) Wanted.none rfl rfl ?_
      refine T.pv (PV.lenSl rfl) Wanted.none rfl rfl ?_
      refine T.pv (PV.neq rfl rfl) Wanted.none rfl rfl ?_
      refine T.opsNil ?_
      refine T.condF rfl (decide_eq_false (by omega)) ?_
      refine T.skip ?_
      refine T.seq ?_
      refine T.region ?_
      refine T.pv (PV.assign rfl) Wanted.none rfl rfl ?_
      refine T.opsNil ?_
      exact T.retF (Lv.fin (RV.tmp rfl rfl) (by rw [← i3]))
end Go.Proofs.Ytchgfjclchhgmaa
namespace Go.Proofs.Ytchgfjclchhgmaa
open Go.RowKit


theorem takeS (l : List Sp) (k : Nat) (h : k ≤ l.length) : (l.flatMap encS).take (k * 2) = (l.take k).flatMap encS := by
  have : l.flatMap encS = (l.take k).flatMap encS ++ (l.drop k).flatMap encS := by rw [← List.flatMap_append, List.take_append_drop]
  rw [this, List.take_left' (by rw [flatS_len, List.length_take]; congr 1; omega)]
theorem dropS (l : List Sp) (k : Nat) (h : k ≤ l.length) : (l.flatMap encS).drop (k * 2) = (l.drop k).flatMap encS := by
  have : l.flatMap encS = (l.take k).flatMap encS ++ (l.drop k).flatMap encS := by rw [← List.flatMap_append, List.take_append_drop]
  rw [this, List.drop_left' (by rw [flatS_len, List.length_take]; congr 1; omega)]
theorem SpL.pre {H : Hp} {ad : Option Addr} {cap : Nat} {l : List Sp} (h : SlR H 2 (.slice ad l.length cap) l.length (l.flatMap encS)) {k : Nat} (hk : k ≤ l.length) : SlR H 2 (.slice ad ((k : Nat) : Int).toNat cap) k ((l.take k).flatMap encS) := by
  have := h.pre hk
  rw [takeS l k hk] at this
  rw [Int.toNat_natCast]; exact this
theorem SpL.suf {H : Hp} {ad : Option Addr} {cap : Nat} {l : List Sp} (h : SlR H 2 (.slice ad l.length cap) l.length (l.flatMap encS)) {k : Nat} (hk : k ≤ l.length) : SlR H 2 (slV 2 ad ((k : Nat) : Int).toNat l.length cap) (l.length - k) ((l.drop k).flatMap encS) := by
  have := h.slice (lo := k) (hi := l.length) hk (Nat.le_refl _)
  rw [dropS l k hk, List.take_of_length_le (by rw [flatS_len, List.length_drop]; omega)] at this
  rw [Int.toNat_natCast]; exact this
theorem SpL.sufP {H : Hp} {b off : Nat} {cap : Nat} {l : List Sp} (h : SlR H 2 (.slice (some ⟨b, off, none⟩) l.length cap) l.length (l.flatMap encS)) {k : Nat} (hk : k < l.length) : SlR H 2 (.slice (some ⟨b, off + ((k : Nat) : Int).toNat * 2, none⟩) (l.length - ((k : Nat) : Int).toNat) (cap - ((k : Nat) : Int).toNat)) (l.length - k) ((l.drop k).flatMap encS) := by
  have := SpL.suf h (Nat.le_of_lt hk)
  have hc := h.cap
  unfold slV at this
  rw [if_neg (by omega)] at this
  simpa [addr_add] using this
theorem app3 {H : Hp} {v : Value} {l r : List Sp} {k : Nat} {s : Sp} (h : SlR H 2 v (0 + k + 1 + (l.length - k)) ([] ++ (l.take k).flatMap encS ++ encS s ++ (l.drop k).flatMap encS)) (hk : k ≤ l.length) (hr : r = l.take k ++ s :: l.drop k) : SpL H v r := by
  subst hr
  have e1 : (l.take k ++ s :: l.drop k).length = 0 + k + 1 + (l.length - k) := by rw [List.length_append, List.length_cons, List.length_take, List.length_drop]; omega
  have e2 : (l.take k ++ s :: l.drop k).flatMap encS = [] ++ (l.take k).flatMap encS ++ encS s ++ (l.drop k).flatMap encS := by simp
  show SlR H 2 v _ _
  rw [e1, e2]; exact h
theorem T.cut1 {P : Program} {X : Cx} {e : Env} {l : List (Nat × Obj)} {H : Hp} {D : List Deferred} {a : It} {k : List It} (e' : Env) (l' : List (Nat × Obj)) (K : T P X e' l' H D k)
    (h : (∀ e l, Env.Sub e' e → List.Sublist l' l → T P X e l H D k) → T P X e l H D (a :: k)) : T P X e l H D (a :: k) := h fun _ _ he hl => T.weak he hl K
theorem T.cut2 {P : Program} {X : Cx} {e : Env} {l : List (Nat × Obj)} {H : Hp} {D : List Deferred} {a b : It} {k : List It} (e' : Env) (l' : List (Nat × Obj)) (K : T P X e' l' H D k)
    (h : (∀ e l, Env.Sub e' e → List.Sublist l' l → T P X e l H D k) → T P X e l H D (a :: b :: k)) : T P X e l H D (a :: b :: k) := h fun _ _ he hl => T.weak he hl K
set_option maxHeartbeats 2000000 in
theorem insert_fn (l : List Sp) (s : Sp) (v : Value) (H : Hp) (hv : SpL H v l) (hl : l.length ≤ 1000000) (hs : l.Pairwise ltC) : Fn Try.prog 48 #[v, spV s] H (fun u H' => SpL H' u (insC l s)) := by
  obtain ⟨ad, cap, rfl⟩ := hv.len
  have hcap := hv.cap
  refine Fn.of_T (vs := [.slice ad l.length cap, spV s]) Try.func48 rfl rfl fun w => ?_
  unfold spV
  refine T.seq ?_
  refine T.region ?_
  (refine T.box Wanted.none rfl rfl zq15 ?_; intro b3)
  refine T.pv (PV.assign rfl) Wanted.none rfl rfl ?_
  refine T.opsNil ?_
  refine T.seq ?_
  refine T.region ?_
  refine T.pv (PV.move rfl) Wanted.none rfl rfl ?_
  refine T.pv (PV.lenSl rfl) Wanted.none rfl rfl ?_
  refine T.pv (PV.assign rfl) Wanted.none rfl rfl ?_
  refine T.opsNil ?_
  refine T.seq ?_
  refine T.block ?_
  refine T.loop (γ := Nat) (fun k => k ≤ l.length ∧ ∀ x ∈ l.drop k, ltC s x)
    (fun k => [(0, .slice ad l.length cap), (3, .pointer (some ⟨b3, 0, none⟩)), (5, .int .i64 (k : Int))])
    (fun _ => [(b3, .cells #[.int .i64 s.1, .int .i64 s.2] 25 (0, 0))]) (fun _ => H) (fun k => k) l.length ⟨by simp, by simp⟩ zq8 zq4 rfl ?_
  rintro k ⟨k1, k2⟩
  have hread : ∀ (i : Nat) (x : Sp), k = i + 1 → l[i]? = some x → ∃ b off, ad = some ⟨b, off, none⟩ ∧ SubC H b (off + ((k : Int) - 1).toNat * 2) [.int .i64 x.1, .int .i64 x.2] := by
    intro i x hk hx
    obtain ⟨b, off, e, hsub0⟩ := hv.span hx
    refine ⟨b, off, e, ?_⟩
    rwa [show ((k : Int) - 1).toNat = i by omega]
  obtain ⟨q, hq⟩ : ∃ q : Bool, q = decide (∃ x, l[k - 1]? = some x ∧ 0 < k ∧ ltC s x) := ⟨_, rfl⟩
  refine T.seq ?_
  refine T.seq ?_
  refine T.cut1 [(42, .bool q), (0, .slice ad l.length cap), (3, .pointer (some ⟨b3, 0, none⟩)), (5, .int .i64 (k : Int))] [(b3, .cells #[.int .i64 s.1, .int .i64 s.2] 25 (0, 0))] ?_ fun K => ?_
  rotate_left
  · cases k with
    | zero =>
      have hqf : q = false := by rw [hq]; exact decide_eq_false (by rintro ⟨x, _, h, _⟩; omega)
      subst hqf
      refine T.regionQ (by kernel_rfl) ?_
      refine TQ.pv (PV.move rfl) Wanted.none rfl rfl ?_
      refine TQ.pv (PV.gtr rfl rfl) Wanted.none rfl rfl ?_
      refine TQ.pv (PV.move rfl) Wanted.none rfl rfl ?_
      refine TQ.pass (Unwanted.guard rfl rfl rfl) rfl rfl ?_
      refine TQ.pass (Unwanted.guard rfl rfl rfl) rfl rfl ?_
      refine TQ.pass (Unwanted.guard rfl rfl rfl) rfl rfl ?_
      refine TQ.pass (Unwanted.guard rfl rfl rfl) rfl rfl ?_
      refine TQ.pass (Unwanted.guard rfl rfl rfl) rfl rfl ?_
      refine TQ.pass (Unwanted.guard rfl rfl rfl) rfl rfl ?_
      refine TQ.pass (Unwanted.guard rfl rfl rfl) rfl rfl ?_
      refine TQ.pass (Unwanted.guard rfl rfl rfl) rfl rfl ?_
      refine TQ.pass (Unwanted.guard rfl rfl rfl) rfl rfl ?_
      refine TQ.pass (Unwanted.guard rfl rfl rfl) rfl rfl ?_
      refine TQ.pass (Unwanted.undef rfl rfl) rfl rfl ?_
      refine TQ.pass (Unwanted.undef rfl rfl) rfl rfl ?_
      refine TQ.pass (Unwanted.undef rfl rfl) rfl rfl ?_
      refine TQ.pass (Unwanted.undef rfl rfl) rfl rfl ?_
      refine TQ.pass (Unwanted.undef rfl rfl) rfl rfl ?_
      refine TQ.pass (Unwanted.undef rfl rfl) rfl rfl ?_
      refine TQ.pass (Unwanted.undef rfl rfl) rfl rfl ?_
      refine TQ.pass (Unwanted.undef rfl rfl) rfl rfl ?_
      refine TQ.pass (Unwanted.undef rfl rfl) rfl rfl ?_
      refine TQ.pass (Unwanted.undef rfl rfl) rfl rfl ?_
      refine TQ.pass (Unwanted.undef rfl rfl) rfl rfl ?_
      refine TQ.pass (Unwanted.undef rfl rfl) rfl rfl ?_
      refine TQ.pass (Unwanted.undef rfl rfl) rfl rfl ?_
      refine TQ.pass (Unwanted.undef rfl rfl) rfl rfl ?_
      refine TQ.pass (Unwanted.undef rfl rfl) rfl rfl ?_
      refine TQ.pass (Unwanted.undef rfl rfl) rfl rfl ?_
      refine TQ.pass (Unwanted.undef rfl rfl) rfl rfl ?_
      refine TQ.pass (Unwanted.undef rfl rfl) rfl rfl ?_
      refine TQ.pass (Unwanted.undef rfl rfl) rfl rfl ?_
      refine TQ.pass (Unwanted.undef rfl rfl) rfl rfl ?_
      refine TQ.pass (Unwanted.guard rfl rfl rfl) rfl rfl ?_
      refine TQ.pv (PV.pickF rfl rfl rfl) Wanted.none rfl rfl ?_
      refine TQ.nil ?_
      exact K _ _ zq8 zq4
    | succ i =>
      obtain ⟨x, hx⟩ : ∃ x, l[i]? = some x := ⟨_, List.getElem?_eq_getElem (by omega)⟩
      obtain ⟨b, off, rfl, hsub⟩ := hread i x rfl hx
      have hqx : q = decide (ltC s x) := by
        rw [hq, decide_eq_decide]
        constructor
        · rintro ⟨y, hy, _, h⟩
          rw [Nat.add_sub_cancel, hx] at hy; injection hy with hy; subst hy; exact h
        · intro h; exact ⟨x, hx, by omega, h⟩
      by_cases h1 : s.1 < x.1
      · rw [decide_eq_true (show ltC s x from .inl h1)] at hqx
        subst hqx
        refine T.regionQ (by kernel_rfl) ?_
        refine TQ.pv (PV.move rfl) Wanted.none rfl rfl ?_
        refine TQ.pv (PV.gtr rfl rfl) Wanted.none rfl rfl ?_
        refine TQ.pv (PV.move rfl) Wanted.none rfl rfl ?_
        refine TQ.setT (d := 10) rfl (by omega) ?_
        refine TQ.pv (PV.fieldAddr rfl) (Wanted.guard rfl rfl rfl) rfl rfl ?_
        refine TQ.pv (PV.load1 rfl zq0 rfl) (Wanted.guard rfl rfl rfl) rfl rfl ?_
        refine TQ.pv (PV.move rfl) (Wanted.guard rfl rfl rfl) rfl rfl ?_
        refine TQ.pv (PV.move rfl) (Wanted.guard rfl rfl rfl) rfl rfl ?_
        refine TQ.pv (PV.sub rfl rfl (by omega)) (Wanted.guard rfl rfl rfl) rfl rfl ?_
        refine TQ.pv (PV.indexAddr rfl rfl (by omega)) (Wanted.guard rfl rfl rfl) rfl rfl ?_
        refine TQ.pv (PV.fieldAddr rfl) (Wanted.guard rfl rfl rfl) rfl rfl ?_
        refine TQ.pv (PV.loadSub rfl (by assumption) rfl) (Wanted.guard rfl rfl rfl) rfl rfl ?_
        refine TQ.pv (PV.lss rfl rfl) (Wanted.guard rfl rfl rfl) rfl rfl ?_
        refine TQ.pv (PV.move rfl) (Wanted.guard rfl rfl rfl) rfl rfl ?_
        refine TQ.setT (d := 20) rfl (by omega) ?_
        refine TQ.pass (Unwanted.guard rfl rfl rfl) rfl rfl ?_
        refine TQ.pass (Unwanted.guard rfl rfl rfl) rfl rfl ?_
        refine TQ.pass (Unwanted.guard rfl rfl rfl) rfl rfl ?_
        refine TQ.pass (Unwanted.guard rfl rfl rfl) rfl rfl ?_
        refine TQ.pass (Unwanted.guard rfl rfl rfl) rfl rfl ?_
        refine TQ.pass (Unwanted.guard rfl rfl rfl) rfl rfl ?_
        refine TQ.pass (Unwanted.guard rfl rfl rfl) rfl rfl ?_
        refine TQ.pass (Unwanted.guard rfl rfl rfl) rfl rfl ?_
        refine TQ.pass (Unwanted.guard rfl rfl rfl) rfl rfl ?_
        refine TQ.pass (Unwanted.guard rfl rfl rfl) rfl rfl ?_
        refine TQ.pass (Unwanted.undef rfl rfl) rfl rfl ?_
        refine TQ.pass (Unwanted.undef rfl rfl) rfl rfl ?_
        refine TQ.pass (Unwanted.undef rfl rfl) rfl rfl ?_
        refine TQ.pass (Unwanted.undef rfl rfl) rfl rfl ?_
        refine TQ.pass (Unwanted.undef rfl rfl) rfl rfl ?_
        refine TQ.pass (Unwanted.undef rfl rfl) rfl rfl ?_
        refine TQ.pass (Unwanted.undef rfl rfl) rfl rfl ?_
        refine TQ.pass (Unwanted.undef rfl rfl) rfl rfl ?_
        refine TQ.pass (Unwanted.undef rfl rfl) rfl rfl ?_
        refine TQ.pass (Unwanted.guard rfl rfl rfl) rfl rfl ?_
        refine TQ.pv (PV.pickT rfl rfl rfl) (Wanted.guard rfl rfl rfl) rfl rfl ?_
        refine TQ.pv (PV.pickT rfl rfl rfl) Wanted.none rfl rfl ?_
        refine TQ.nil ?_
        exact K _ _ zq8 zq4
      · by_cases h3 : s.1 = x.1
        · have hqe : q = decide (s.2 < x.2) := by rw [hqx, decide_eq_decide]; unfold ltC; omega
          subst hqe
          refine T.regionQ (by kernel_rfl) ?_
          refine TQ.pv (PV.move rfl) Wanted.none rfl rfl ?_
          refine TQ.pv (PV.gtr rfl rfl) Wanted.none rfl rfl ?_
          refine TQ.pv (PV.move rfl) Wanted.none rfl rfl ?_
          refine TQ.setT (d := 10) rfl (by omega) ?_
          refine TQ.pv (PV.fieldAddr rfl) (Wanted.guard rfl rfl rfl) rfl rfl ?_
          refine TQ.pv (PV.load1 rfl zq0 rfl) (Wanted.guard rfl rfl rfl) rfl rfl ?_
          refine TQ.pv (PV.move rfl) (Wanted.guard rfl rfl rfl) rfl rfl ?_
          refine TQ.pv (PV.move rfl) (Wanted.guard rfl rfl rfl) rfl rfl ?_
          refine TQ.pv (PV.sub rfl rfl (by omega)) (Wanted.guard rfl rfl rfl) rfl rfl ?_
          refine TQ.pv (PV.indexAddr rfl rfl (by omega)) (Wanted.guard rfl rfl rfl) rfl rfl ?_
          refine TQ.pv (PV.fieldAddr rfl) (Wanted.guard rfl rfl rfl) rfl rfl ?_
          refine TQ.pv (PV.loadSub rfl (by assumption) rfl) (Wanted.guard rfl rfl rfl) rfl rfl ?_
          refine TQ.pv (PV.lss rfl rfl) (Wanted.guard rfl rfl rfl) rfl rfl ?_
          refine TQ.pv (PV.move rfl) (Wanted.guard rfl rfl rfl) rfl rfl ?_
          refine TQ.setF (d := 20) rfl (by omega) ?_
          refine TQ.pv (PV.fieldAddr rfl) (Wanted.guard rfl rfl rfl) rfl rfl ?_
          refine TQ.pv (PV.load1 rfl zq0 rfl) (Wanted.guard rfl rfl rfl) rfl rfl ?_
          refine TQ.pv (PV.move rfl) (Wanted.guard rfl rfl rfl) rfl rfl ?_
          refine TQ.pv (PV.move rfl) (Wanted.guard rfl rfl rfl) rfl rfl ?_
          refine TQ.pv (PV.sub rfl rfl (by omega)) (Wanted.guard rfl rfl rfl) rfl rfl ?_
          refine TQ.pv (PV.indexAddr rfl rfl (by omega)) (Wanted.guard rfl rfl rfl) rfl rfl ?_
          refine TQ.pv (PV.fieldAddr rfl) (Wanted.guard rfl rfl rfl) rfl rfl ?_
          refine TQ.pv (PV.loadSub rfl (by assumption) rfl) (Wanted.guard rfl rfl rfl) rfl rfl ?_
          refine TQ.pv (PV.eql rfl rfl) (Wanted.guard rfl rfl rfl) rfl rfl ?_
          refine TQ.pv (PV.move rfl) (Wanted.guard rfl rfl rfl) rfl rfl ?_
          refine TQ.setT (d := 30) rfl (by omega) ?_
          refine TQ.pv (PV.fieldAddr rfl) (Wanted.guard rfl rfl rfl) rfl rfl ?_
          refine TQ.pv (PV.load1 rfl zq0 rfl) (Wanted.guard rfl rfl rfl) rfl rfl ?_
          refine TQ.pv (PV.move rfl) (Wanted.guard rfl rfl rfl) rfl rfl ?_
          refine TQ.pv (PV.move rfl) (Wanted.guard rfl rfl rfl) rfl rfl ?_
          refine TQ.pv (PV.sub rfl rfl (by omega)) (Wanted.guard rfl rfl rfl) rfl rfl ?_
          refine TQ.pv (PV.indexAddr rfl rfl (by omega)) (Wanted.guard rfl rfl rfl) rfl rfl ?_
          refine TQ.pv (PV.fieldAddr rfl) (Wanted.guard rfl rfl rfl) rfl rfl ?_
          refine TQ.pv (PV.loadSub rfl (by assumption) rfl) (Wanted.guard rfl rfl rfl) rfl rfl ?_
          refine TQ.pv (PV.lss rfl rfl) (Wanted.guard rfl rfl rfl) rfl rfl ?_
          refine TQ.pv (PV.pickT rfl rfl rfl) (Wanted.guard rfl rfl rfl) rfl rfl ?_
          refine TQ.pv (PV.pickF rfl rfl rfl) (Wanted.guard rfl rfl rfl) rfl rfl ?_
          refine TQ.pv (PV.pickT rfl rfl rfl) Wanted.none rfl rfl ?_
          refine TQ.nil ?_
          exact K _ _ zq8 zq4
        · rw [decide_eq_false (show ¬ ltC s x by unfold ltC; omega)] at hqx
          subst hqx
          refine T.regionQ (by kernel_rfl) ?_
          refine TQ.pv (PV.move rfl) Wanted.none rfl rfl ?_
          refine TQ.pv (PV.gtr rfl rfl) Wanted.none rfl rfl ?_
          refine TQ.pv (PV.move rfl) Wanted.none rfl rfl ?_
          refine TQ.setT (d := 10) rfl (by omega) ?_
          refine TQ.pv (PV.fieldAddr rfl) (Wanted.guard rfl rfl rfl) rfl rfl ?_
          refine TQ.pv (PV.load1 rfl zq0 rfl) (Wanted.guard rfl rfl rfl) rfl rfl ?_
          refine TQ.pv (PV.move rfl) (Wanted.guard rfl rfl rfl) rfl rfl ?_
          refine TQ.pv (PV.move rfl) (Wanted.guard rfl rfl rfl) rfl rfl ?_
          refine TQ.pv (PV.sub rfl rfl (by omega)) (Wanted.guard rfl rfl rfl) rfl rfl ?_
          refine TQ.pv (PV.indexAddr rfl rfl (by omega)) (Wanted.guard rfl rfl rfl) rfl rfl ?_
          refine TQ.pv (PV.fieldAddr rfl) (Wanted.guard rfl rfl rfl) rfl rfl ?_
          refine TQ.pv (PV.loadSub rfl (by assumption) rfl) (Wanted.guard rfl rfl rfl) rfl rfl ?_
          refine TQ.pv (PV.lss rfl rfl) (Wanted.guard rfl rfl rfl) rfl rfl ?_
          refine TQ.pv (PV.move rfl) (Wanted.guard rfl rfl rfl) rfl rfl ?_
          refine TQ.setF (d := 20) rfl (by omega) ?_
          refine TQ.pv (PV.fieldAddr rfl) (Wanted.guard rfl rfl rfl) rfl rfl ?_
          refine TQ.pv (PV.load1 rfl zq0 rfl) (Wanted.guard rfl rfl rfl) rfl rfl ?_
          refine TQ.pv (PV.move rfl) (Wanted.guard rfl rfl rfl) rfl rfl ?_
          refine TQ.pv (PV.move rfl) (Wanted.guard rfl rfl rfl) rfl rfl ?_
          refine TQ.pv (PV.sub rfl rfl (by omega)) (Wanted.guard rfl rfl rfl) rfl rfl ?_
          refine TQ.pv (PV.indexAddr rfl rfl (by omega)) (Wanted.guard rfl rfl rfl) rfl rfl ?_
          refine TQ.pv (PV.fieldAddr rfl) (Wanted.guard rfl rfl rfl) rfl rfl ?_
          refine TQ.pv (PV.loadSub rfl (by assumption) rfl) (Wanted.guard rfl rfl rfl) rfl rfl ?_
          refine TQ.pv (PV.eql rfl rfl) (Wanted.guard rfl rfl rfl) rfl rfl ?_
          refine TQ.pv (PV.move rfl) (Wanted.guard rfl rfl rfl) rfl rfl ?_
          refine TQ.setF (d := 30) rfl (by omega) ?_
          refine TQ.pass (Unwanted.guard rfl rfl rfl) rfl rfl ?_
          refine TQ.pass (Unwanted.guard rfl rfl rfl) rfl rfl ?_
          refine TQ.pass (Unwanted.guard rfl rfl rfl) rfl rfl ?_
          refine TQ.pass (Unwanted.guard rfl rfl rfl) rfl rfl ?_
          refine TQ.pass (Unwanted.guard rfl rfl rfl) rfl rfl ?_
          refine TQ.pass (Unwanted.guard rfl rfl rfl) rfl rfl ?_
          refine TQ.pass (Unwanted.guard rfl rfl rfl) rfl rfl ?_
          refine TQ.pass (Unwanted.guard rfl rfl rfl) rfl rfl ?_
          refine TQ.pass (Unwanted.guard rfl rfl rfl) rfl rfl ?_
          refine TQ.pv (PV.pickF rfl rfl rfl) (Wanted.guard rfl rfl rfl) rfl rfl ?_
          refine TQ.pv (PV.pickF rfl rfl rfl) (Wanted.guard rfl rfl rfl) rfl rfl ?_
          refine TQ.pv (PV.pickT rfl rfl rfl) Wanted.none rfl rfl ?_
          refine TQ.nil ?_
          exact K _ _ zq8 zq4
  refine T.cond rfl (fun hc => ?_) (fun hc => ?_)
  · rw [hq, decide_eq_true_eq] at hc
    obtain ⟨x, hx, hk0, hlt⟩ := hc
    have hdr : l.drop (k - 1) = x :: l.drop k := by
      have := List.getElem?_eq_some_iff.1 hx
      rw [List.drop_eq_getElem_cons this.1, this.2, show k - 1 + 1 = k by omega]
    refine T.skip ?_
    refine T.block ?_
    refine T.region ?_
    refine T.pv (PV.move rfl) Wanted.none rfl rfl ?_
    refine T.pv (PV.sub rfl rfl (by omega)) Wanted.none rfl rfl ?_
    refine T.pv (PV.assign rfl) Wanted.none rfl rfl ?_
    refine T.opsNil ?_
    refine T.blkEnd ?_
    rw [show (k : Int) - 1 = ((k - 1 : Nat) : Int) by omega]
    refine T.next (k - 1) ⟨by omega, fun y hy => ?_⟩ (by omega) zq8 zq4 rfl
    rw [hdr] at hy
    rcases List.mem_cons.1 hy with h | h
    · subst h; exact hlt
    · exact k2 y h
  · rw [hq, decide_eq_false_iff_not] at hc
    refine T.exit rfl ?_
    obtain ⟨r, hr⟩ : ∃ r : Bool, r = decide (0 < k ∧ l[k - 1]? = some s) := ⟨_, rfl⟩
    refine T.seq ?_
    refine T.seq ?_
    refine T.cut1 [(55, .bool r), (0, .slice ad l.length cap), (3, .pointer (some ⟨b3, 0, none⟩)), (5, .int .i64 (k : Int))] [(b3, .cells #[.int .i64 s.1, .int .i64 s.2] 25 (0, 0))] ?_ fun K => ?_
    rotate_left
    · cases k with
      | zero =>
        have hrf : r = false := by rw [hr]; exact decide_eq_false (by omega)
        subst hrf
        refine T.regionQ (by kernel_rfl) ?_
        refine TQ.pv (PV.move rfl) Wanted.none rfl rfl ?_
        refine TQ.pv (PV.gtr rfl rfl) Wanted.none rfl rfl ?_
        refine TQ.pv (PV.move rfl) Wanted.none rfl rfl ?_
        refine TQ.pass (Unwanted.guard rfl rfl rfl) rfl rfl ?_
        refine TQ.pass (Unwanted.guard rfl rfl rfl) rfl rfl ?_
        refine TQ.pass (Unwanted.guard rfl rfl rfl) rfl rfl ?_
        refine TQ.pass (Unwanted.guard rfl rfl rfl) rfl rfl ?_
        refine TQ.pass (Unwanted.guard rfl rfl rfl) rfl rfl ?_
        refine TQ.pass (Unwanted.guard rfl rfl rfl) rfl rfl ?_
        refine TQ.pass (Unwanted.guard rfl rfl rfl) rfl rfl ?_
        refine TQ.pv (PV.pickF rfl rfl rfl) Wanted.none rfl rfl ?_
        refine TQ.nil ?_
        exact K _ _ zq8 zq4
      | succ i =>
        obtain ⟨x, hx⟩ : ∃ x, l[i]? = some x := ⟨_, List.getElem?_eq_getElem (by omega)⟩
        obtain ⟨b, off, rfl, hsub⟩ := hread i x rfl hx
        have hrx : r = decide (x = s) := by
          rw [hr, decide_eq_decide, Nat.add_sub_cancel, hx]
          exact ⟨fun h => Option.some.inj h.2, fun h => ⟨by omega, by rw [h]⟩⟩
        have hqq := eqS_eq x s
        rw [← hrx] at hqq
        refine T.regionQ (by kernel_rfl) ?_
        refine TQ.pv (PV.move rfl) Wanted.none rfl rfl ?_
        refine TQ.pv (PV.gtr rfl rfl) Wanted.none rfl rfl ?_
        refine TQ.pv (PV.move rfl) Wanted.none rfl rfl ?_
        refine TQ.setT (d := 47) rfl (by omega) ?_
        refine TQ.pv (PV.move rfl) (Wanted.guard rfl rfl rfl) rfl rfl ?_
        refine TQ.pv (PV.move rfl) (Wanted.guard rfl rfl rfl) rfl rfl ?_
        refine TQ.pv (PV.sub rfl rfl (by omega)) (Wanted.guard rfl rfl rfl) rfl rfl ?_
        refine TQ.pv (PV.indexAddr rfl rfl (by omega)) (Wanted.guard rfl rfl rfl) rfl rfl ?_
        refine TQ.pv (PV.loadSubAll rfl (by assumption) (by exact rfl)) (Wanted.guard rfl rfl rfl) rfl rfl ?_
        refine TQ.pv (PV.loadAll rfl zq0 (by exact rfl)) (Wanted.guard rfl rfl rfl) rfl rfl ?_
        refine TQ.pv (PV.aeql rfl rfl rfl rfl) (Wanted.guard rfl rfl rfl) rfl rfl ?_
        refine TQ.pv (PV.pickT rfl rfl rfl) Wanted.none rfl rfl ?_
        refine TQ.nil ?_
        rw [hqq]
        exact K _ _ zq8 zq4
    refine T.cond rfl (fun hc2 => ?_) (fun hc2 => ?_)
    · rw [hr, decide_eq_true_eq] at hc2
      have hres : insC l s = l := insB_old _ _ ltC_sto hs (List.mem_of_getElem? hc2.2) rfl
      rw [hres]
      refine T.seq ?_
      refine T.region ?_
      refine T.pv (PV.move rfl) Wanted.none rfl rfl ?_
      refine T.pv (PV.assign rfl) Wanted.none rfl rfl ?_
      refine T.opsNil ?_
      exact T.retF (Lv.fin (RV.tmp rfl rfl) hv)
    · rw [hr, decide_eq_false_iff_not] at hc2
      have hres : insC l s = l.take k ++ s :: l.drop k := insB_new _ _ ltC_sto k1 hs k2 (by
        rcases Nat.eq_zero_or_pos k with h0 | h0
        · exact .inl h0
        · refine .inr fun y hy => ?_
          rcases ltC_sto.tri y s with h | h | h
          · exact h
          · subst h; exact absurd ⟨h0, hy⟩ hc2
          · exact absurd ⟨y, hy, h0, h⟩ hc)
      refine T.skip ?_
      refine T.seq ?_
      refine T.regionOl (by kernel_rfl) ?_
      refine TO.take 1 rfl (by kernel_rfl) (by kernel_rfl) (by kernel_rfl) (PV.move rfl) Wanted.none rfl rfl ?_
      refine TO.take 2 rfl (by kernel_rfl) (by kernel_rfl) (by kernel_rfl) (PV.move rfl) Wanted.none rfl rfl ?_
      refine TO.take 3 rfl (by kernel_rfl) (by kernel_rfl) (by kernel_rfl) (PV.sliceH rfl rfl (by omega)) Wanted.none rfl rfl ?_
      refine TO.take 5 rfl (by kernel_rfl) (by kernel_rfl) (by kernel_rfl) (PV.loadAll rfl zq0 (by exact rfl)) Wanted.none rfl rfl ?_
      refine TO.take 8 rfl (by kernel_rfl) (by kernel_rfl) (by kernel_rfl) (PV.move rfl) Wanted.none rfl rfl ?_
      refine TO.take 9 rfl (by kernel_rfl) (by kernel_rfl) (by kernel_rfl) (PV.move rfl) Wanted.none rfl rfl ?_
      refine TO.take 10 rfl (by kernel_rfl) (by kernel_rfl) (by kernel_rfl) (PV.sliceL rfl rfl (by omega)) Wanted.none rfl rfl ?_
      refine TO.both 0 6 rfl rfl (by kernel_rfl) zq4 (Hp.le.refl _) ?_ ?_
      · (refine T.buildSlice Wanted.none rfl rfl zq11 (by exact rfl) (by exact rfl) ?_; intro b57)
        refine T.opsNil ?_
        refine TO.back ?_
        refine TO.both 4 6 rfl rfl (by kernel_rfl) zq4 (Hp.le.refl _) ?_ ?_
        · skip
          refine T.append [] (lv := []) (bl := [_, _]) Wanted.none rfl rfl rfl (Vec.empty 25 2 _) (SpL.pre hv k1).src (one_flatS _) (by omega) ?_
          intro v1 lv1 hv1 _
          refine T.opsNil ?_
          refine TO.back ?_
          refine TO.step 6 rfl (by kernel_rfl) zq4 zq10 ?_
          (refine T.buildSlice Wanted.none rfl rfl zq11 (by exact rfl) (by exact rfl) ?_; intro b63)
          refine T.opsNil ?_
          refine TO.back ?_
          refine TO.step 7 rfl (by kernel_rfl) zq4 zq10 ?_
          refine T.append [_] (lv := lv1) (bl := [_, _]) Wanted.none rfl rfl rfl hv1 (Src.cells (m := 1) (ys := encS s) (.own zq2) rfl rfl) (one_encS s) (by omega) ?_
          intro v2 lv2 hv2 _
          refine T.opsNil ?_
          refine TO.back ?_
          refine TO.step 11 rfl (by kernel_rfl) zq4 zq10 ?_
          refine T.append [_] (lv := lv2) (bl := [_, _]) Wanted.none rfl rfl rfl hv2 (SpL.suf hv k1).src (one_flatS _) (by omega) ?_
          intro v3 lv3 hv3 _
          refine T.opsNil ?_
          refine TO.back ?_
          refine TO.take 12 rfl (by kernel_rfl) (by kernel_rfl) (by kernel_rfl) (PV.assign rfl) Wanted.none rfl rfl ?_
          refine TO.done (by kernel_rfl) zq4 zq10 ?_
          refine T.retF (Vec.freezeLv (l' := []) hv3 (by rw [List.append_nil]; exact (.cons _ (List.sublist_append_left lv3 _))) fun H' _ hsl => Lv.fin (RV.tmp rfl rfl) ?_)
          exact app3 hsl k1 hres
        · (refine T.buildSlice Wanted.none rfl rfl zq11 (by exact rfl) (by exact rfl) ?_; intro b63)
          refine T.opsNil ?_
          refine TO.back ?_
          refine TO.step 4 rfl (by kernel_rfl) zq4 zq10 ?_
          refine T.append [_] (lv := []) (bl := [_, _]) Wanted.none rfl rfl rfl (Vec.empty 25 2 _) (SpL.pre hv k1).src (one_flatS _) (by omega) ?_
          intro v1 lv1 hv1 _
          refine T.opsNil ?_
          refine TO.back ?_
          refine TO.step 7 rfl (by kernel_rfl) zq4 zq10 ?_
          refine T.append [_] (lv := lv1) (bl := [_, _]) Wanted.none rfl rfl rfl hv1 (Src.cells (m := 1) (ys := encS s) (.own zq2) rfl rfl) (one_encS s) (by omega) ?_
          intro v2 lv2 hv2 _
          refine T.opsNil ?_
          refine TO.back ?_
          refine TO.step 11 rfl (by kernel_rfl) zq4 zq10 ?_
          refine T.append [_] (lv := lv2) (bl := [_, _]) Wanted.none rfl rfl rfl hv2 (SpL.suf hv k1).src (one_flatS _) (by omega) ?_
          intro v3 lv3 hv3 _
          refine T.opsNil ?_
          refine TO.back ?_
          refine TO.take 12 rfl (by kernel_rfl) (by kernel_rfl) (by kernel_rfl) (PV.assign rfl) Wanted.none rfl rfl ?_
          refine TO.done (by kernel_rfl) zq4 zq10 ?_
          refine T.retF (Vec.freezeLv (l' := []) hv3 (by rw [List.append_nil]; exact (.cons _ (List.sublist_append_left lv3 _))) fun H' _ hsl => Lv.fin (RV.tmp rfl rfl) ?_)
          exact app3 hsl k1 hres
      · (refine T.buildSlice Wanted.none rfl rfl zq11 (by exact rfl) (by exact rfl) ?_; intro b63)
        refine T.opsNil ?_
        refine TO.back ?_
        refine TO.step 0 rfl (by kernel_rfl) zq4 zq10 ?_
        (refine T.buildSlice Wanted.none rfl rfl zq11 (by exact rfl) (by exact rfl) ?_; intro b57)
        refine T.opsNil ?_
        refine TO.back ?_
        refine TO.step 4 rfl (by kernel_rfl) zq4 zq10 ?_
        refine T.append [_, _] (lv := []) (bl := [_]) Wanted.none rfl rfl rfl (Vec.empty 25 2 _) (SpL.pre hv k1).src (one_flatS _) (by omega) ?_
        intro v1 lv1 hv1 _
        refine T.opsNil ?_
        refine TO.back ?_
        refine TO.step 7 rfl (by kernel_rfl) zq4 zq10 ?_
        refine T.append [_, _] (lv := lv1) (bl := [_]) Wanted.none rfl rfl rfl hv1 (Src.cells (m := 1) (ys := encS s) (.own zq2) rfl rfl) (one_encS s) (by omega) ?_
        intro v2 lv2 hv2 _
        refine T.opsNil ?_
        refine TO.back ?_
        refine TO.step 11 rfl (by kernel_rfl) zq4 zq10 ?_
        refine T.append [_, _] (lv := lv2) (bl := [_]) Wanted.none rfl rfl rfl hv2 (SpL.suf hv k1).src (one_flatS _) (by omega) ?_
        intro v3 lv3 hv3 _
        refine T.opsNil ?_
        refine TO.back ?_
        refine TO.take 12 rfl (by kernel_rfl) (by kernel_rfl) (by kernel_rfl) (PV.assign rfl) Wanted.none rfl rfl ?_
        refine TO.done (by kernel_rfl) zq4 zq10 ?_
        refine T.retF (Vec.freezeLv (l' := []) hv3 (by rw [List.append_nil]; exact (.cons _ (.cons _ (List.sublist_append_left lv3 _)))) fun H' _ hsl => Lv.fin (RV.tmp rfl rfl) ?_)
        exact app3 hsl k1 hres
end Go.Proofs.Ytchgfjclchhgmaa
namespace Go.Proofs.Ytchgfjclchhgmaa
open Go.RowKit


theorem same27_fn (l m : List Sp) (v u : Value) (H : Hp) (hv : SpL H v l) (hu : SpL H u m) (hml : l.length ≤ 1000000) : Fn Try.prog 28 #[v, u] H (fun v _ => v = .bool (decide (l = m))) := by
  obtain ⟨adv, capv, rfl⟩ := hv.len
  obtain ⟨adu, capu, rfl⟩ := hu.len
  refine Fn.of_T (vs := [.slice adv l.length capv, .slice adu m.length capu]) Try.func28 rfl rfl fun w => ?_
  by_cases hlen : l.length = m.length
  · refine T.seq ?_
    refine T.region ?_
    refine T.pv (PV.assign rfl) Wanted.none rfl rfl ?_
    refine T.opsNil ?_
    refine T.seq ?_
    refine T.seq ?_
    refine T.region ?_
    refine T.pv (PV.move rfl) Wanted.none rfl rfl ?_
    refine T.pv (PV.lenSl rfl) Wanted.none rfl rfl ?_
    refine T.pv (PV.move rfl) Wanted.none rfl rfl ?_
    refine T.pv (PV.lenSl rfl) Wanted.none rfl rfl ?_
    refine T.pv (PV.neq rfl rfl) Wanted.none rfl rfl ?_
    refine T.opsNil ?_
    refine T.condF rfl (decide_eq_false (by omega)) ?_
    refine T.skip ?_
    refine T.seq ?_
    refine T.seq ?_
    refine T.region ?_
    refine T.pv (PV.move rfl) Wanted.none rfl rfl ?_
    refine T.pv (PV.lenSl rfl) Wanted.none rfl rfl ?_
    refine T.pv (PV.move rfl) Wanted.none rfl rfl ?_
    refine T.opsNil ?_
    refine T.block ?_
    refine T.loop (γ := Nat) (fun j => j ≤ l.length ∧ l.take j = m.take j)
      (fun j => [(0, .slice adv l.length capv), (1, .slice adu m.length capu), (13, .int .i64 (j : Int)), (12, .int .i64 (l.length : Int))])
      (fun _ => []) (fun _ => H) (fun j => l.length - j) 0 ⟨by simp, by simp⟩ zq8 zq4 rfl ?_
    rintro j ⟨j1, j2⟩
    by_cases hj : j < l.length
    · obtain ⟨x, hxj⟩ : ∃ x, l[j]? = some x := ⟨_, List.getElem?_eq_getElem hj⟩
      obtain ⟨y, hyj⟩ : ∃ y, m[j]? = some y := ⟨_, List.getElem?_eq_getElem (by omega)⟩
      obtain ⟨bv, offv, rfl, hsubv⟩ := hv.span hxj
      obtain ⟨bu, offu, rfl, hsubu⟩ := hu.span hyj
      refine T.seq ?_
      refine T.region ?_
      refine T.pv (PV.lss rfl rfl) Wanted.none rfl rfl ?_
      refine T.opsNil ?_
      refine T.seq ?_
      refine T.condT rfl (decide_eq_true (by omega)) ?_
      refine T.skip ?_
      refine T.seq ?_
      refine T.block ?_
      refine T.seq ?_
      refine T.region ?_
      refine T.pv (PV.move rfl) Wanted.none rfl rfl ?_
      refine T.pv (PV.assign rfl) Wanted.none rfl rfl ?_
      refine T.opsNil ?_
      refine T.seq ?_
      refine T.regionQ (by kernel_rfl) ?_
      refine TQ.pv (PV.move rfl) Wanted.none rfl rfl ?_
      refine TQ.pv (PV.move rfl) Wanted.none rfl rfl ?_
      refine TQ.pv (PV.indexAddr rfl rfl (by omega)) Wanted.none rfl rfl ?_
      refine TQ.pv (PV.loadSubAll rfl (by assumption) (by exact rfl)) Wanted.none rfl rfl ?_
      refine TQ.pv (PV.move rfl) Wanted.none rfl rfl ?_
      refine TQ.pv (PV.move rfl) Wanted.none rfl rfl ?_
      refine TQ.pv (PV.indexAddr rfl rfl (by omega)) Wanted.none rfl rfl ?_
      refine TQ.pv (PV.loadSubAll rfl (by assumption) (by exact rfl)) Wanted.none rfl rfl ?_
      refine TQ.pv (PV.aneq rfl rfl rfl rfl) Wanted.none rfl rfl ?_
      refine TQ.nil ?_
      rw [eqS_eq]
      refine T.cond rfl (fun hc => ?_) (fun hc => ?_)
      · have hne : ¬ x = y := by simpa using hc
        refine T.seq ?_
        refine T.region ?_
        refine T.pv (PV.assign rfl) Wanted.none rfl rfl ?_
        refine T.opsNil ?_
        refine T.retF (Lv.fin (RV.tmp rfl rfl) ?_)
        rw [decide_eq_false]
        rintro rfl
        rw [hxj] at hyj
        exact hne (Option.some.inj hyj)
      · have heq : x = y := by simpa using hc
        refine T.skip ?_
        refine T.blkEnd ?_
        refine T.region ?_
        refine T.pv (PV.add rfl rfl (by omega)) Wanted.none rfl rfl ?_
        refine T.pv (PV.move rfl) Wanted.none rfl rfl ?_
        refine T.opsNil ?_
        exact T.next (j + 1) ⟨by omega, by rw [List.take_add_one, List.take_add_one, j2, hxj, hyj, heq]⟩ (by omega) zq8 zq4 rfl
    · rw [List.take_of_length_le (by omega), List.take_of_length_le (by omega)] at j2
      refine T.seq ?_
      refine T.region ?_
      refine T.pv (PV.lss rfl rfl) Wanted.none rfl rfl ?_
      refine T.opsNil ?_
      refine T.seq ?_
      refine T.condF rfl (decide_eq_false (by omega)) ?_
      refine T.exit rfl ?_
      refine T.seq ?_
      refine T.region ?_
      refine T.pv (PV.assign rfl) Wanted.none rfl rfl ?_
      refine T.opsNil ?_
      exact T.retF (Lv.fin (RV.tmp rfl rfl) (by rw [decide_eq_true j2]))
  · refine T.seq ?_
    refine T.region ?_
    refine T.pv (PV.assign rfl) Wanted.none rfl rfl ?_
    refine T.opsNil ?_
    refine T.seq ?_
    refine T.seq ?_
    refine T.region ?_
    refine T.pv (PV.move rfl) Wanted.none rfl rfl ?_
    refine T.pv (PV.lenSl rfl) Wanted.none rfl rfl ?_
    refine T.pv (PV.move rfl) Wanted.none rfl rfl ?_
    refine T.pv (PV.lenSl rfl) Wanted.none rfl rfl ?_
    refine T.pv (PV.neq rfl rfl) Wanted.none rfl rfl ?_
    refine T.opsNil ?_
    refine T.condT rfl (decide_eq_true (by omega)) ?_
    refine T.seq ?_
    refine T.region ?_
    refine T.pv (PV.assign rfl) Wanted.none rfl rfl ?_
    refine T.opsNil ?_
    refine T.retF (Lv.fin (RV.tmp rfl rfl) ?_)
    rw [decide_eq_false]
    rintro rfl
    exact hlen rfl
/-! ### lists of matches -/
def encM (m : Mt) : List Value := [.int .i64 m.b, .int .i64 m.e, m.v]
theorem encM_len (m : Mt) : (encM m).length = 3 := rfl
def MtL (H : Hp) (v : Value) (l : List Mt) : Prop := SlR H 3 v l.length (l.flatMap encM) ∧ ∀ m ∈ l, LabOk H m
theorem LabOk.mono {H H' : Hp} {m : Mt} (h : LabOk H m) (hl : H.le H') : LabOk H' m := ⟨h.1.mono hl, h.2⟩
theorem MtL.mono {H H' : Hp} {v : Value} {l : List Mt} (h : MtL H v l) (hl : H.le H') : MtL H' v l := ⟨h.1.mono hl, fun m hm => (h.2 m hm).mono hl⟩
theorem SlR.matchAt {H : Hp} {ad : Option Addr} {n cap : Nat} {l : List Mt} (h : SlR H 3 (.slice ad n cap) l.length (l.flatMap encM)) {i : Nat} {m : Mt} (hx : l[i]? = some m) : ∃ b off, ad = some ⟨b, off, none⟩ ∧ SubC H b (off + i * 3) [.int .i64 m.b, .int .i64 m.e, m.v] := by
  have hi := (List.getElem?_eq_some_iff.1 hx).1
  obtain ⟨b, off, cap', hve, hsub⟩ := h.elem (i := i) hi (flat_elem encM_len l i m hx)
  injection hve with e1 e2 e3
  exact ⟨b, off, e1, hsub⟩
theorem key_take {l m : List Mt} {j : Nat} {x y : Mt} (hx : l[j]? = some x) (hy : m[j]? = some y) (h : (l.take j).map keyM = (m.take j).map keyM) (e : keyM x = keyM y) : (l.take (j + 1)).map keyM = (m.take (j + 1)).map keyM := by
  rw [List.take_add_one, List.take_add_one, hx, hy, List.map_append, List.map_append, h]
  simp [e]
set_option maxHeartbeats 1000000 in
theorem same24_fn (l m : List Mt) (v u : Value) (H : Hp) (hv : MtL H v l) (hu : MtL H u m) (hml : l.length ≤ 1000000) : Fn Try.prog 25 #[v, u] H (fun v _ => v = .bool (decide (l.map keyM = m.map keyM))) := by
  obtain ⟨adv, capv, rfl⟩ := hv.1.len
  obtain ⟨adu, capu, rfl⟩ := hu.1.len
  refine Fn.of_T (vs := [.slice adv l.length capv, .slice adu m.length capu]) Try.func25 rfl rfl fun w => ?_
  by_cases hlen : l.length = m.length
  · refine T.seq ?_
    refine T.region ?_
    refine T.pv (PV.assign rfl) Wanted.none rfl rfl ?_
    refine T.opsNil ?_
    refine T.seq ?_
    refine T.seq ?_
    refine T.region ?_
    refine T.pv (PV.move rfl) Wanted.none rfl rfl ?_
    refine T.pv (PV.lenSl rfl) Wanted.none rfl rfl ?_
    refine T.pv (PV.move rfl) Wanted.none rfl rfl ?_
    refine T.pv (PV.lenSl rfl) Wanted.none rfl rfl ?_
    refine T.pv (PV.neq rfl rfl) Wanted.none rfl rfl ?_
    refine T.opsNil ?_
    refine T.condF rfl (decide_eq_false (by omega)) ?_
    refine T.skip ?_
    refine T.seq ?_
    refine T.seq ?_
    refine T.region ?_
    refine T.pv (PV.move rfl) Wanted.none rfl rfl ?_
    refine T.pv (PV.lenSl rfl) Wanted.none rfl rfl ?_
    refine T.pv (PV.move rfl) Wanted.none rfl rfl ?_
    refine T.opsNil ?_
    refine T.block ?_
    refine T.loop (γ := Nat) (fun j => j ≤ l.length ∧ (l.take j).map keyM = (m.take j).map keyM)
      (fun j => [(0, .slice adv l.length capv), (1, .slice adu m.length capu), (13, .int .i64 (j : Int)), (12, .int .i64 (l.length : Int))])
      (fun _ => []) (fun _ => H) (fun j => l.length - j) 0 ⟨by simp, by simp⟩ zq8 zq4 rfl ?_
    rintro j ⟨j1, j2⟩
    by_cases hj : j < l.length
    · obtain ⟨x, hxj⟩ : ∃ x, l[j]? = some x := ⟨_, List.getElem?_eq_getElem hj⟩
      obtain ⟨y, hyj⟩ : ∃ y, m[j]? = some y := ⟨_, List.getElem?_eq_getElem (by omega)⟩
      obtain ⟨bv, offv, rfl, hsubv⟩ := hv.1.matchAt hxj
      obtain ⟨bu, offu, rfl, hsubu⟩ := hu.1.matchAt hyj
      have hcall := refCompare_fn x y H (hv.2 x (List.mem_of_getElem? hxj)) (hu.2 y (List.mem_of_getElem? hyj))
      unfold mtV at hcall
      by_cases hc : keyM x = keyM y
      · rw [(cmpL_eq _ _).2 hc] at hcall
        refine T.seq ?_
        refine T.region ?_
        refine T.pv (PV.lss rfl rfl) Wanted.none rfl rfl ?_
        refine T.opsNil ?_
        refine T.seq ?_
        refine T.condT rfl (decide_eq_true (by omega)) ?_
        refine T.skip ?_
        refine T.seq ?_
        refine T.block ?_
        refine T.seq ?_
        refine T.region ?_
        refine T.pv (PV.move rfl) Wanted.none rfl rfl ?_
        refine T.pv (PV.assign rfl) Wanted.none rfl rfl ?_
        refine T.opsNil ?_
        refine T.seq ?_
        refine T.regionQ (by kernel_rfl) ?_
        refine TQ.pv (PV.move rfl) Wanted.none rfl rfl ?_
        refine TQ.pv (PV.move rfl) Wanted.none rfl rfl ?_
        refine TQ.pv (PV.indexAddr rfl rfl (by omega)) Wanted.none rfl rfl ?_
        refine TQ.pv (PV.loadSubAll rfl (by assumption) (by exact rfl)) Wanted.none rfl rfl ?_
        refine TQ.pv (PV.move rfl) Wanted.none rfl rfl ?_
        refine TQ.pv (PV.move rfl) Wanted.none rfl rfl ?_
        refine TQ.pv (PV.indexAddr rfl rfl (by omega)) Wanted.none rfl rfl ?_
        refine TQ.pv (PV.loadSubAll rfl (by assumption) (by exact rfl)) Wanted.none rfl rfl ?_
        refine TQ.callV Wanted.none rfl rfl (hcall) ?_
        refine TQ.pv (PV.neq rfl rfl) Wanted.none rfl rfl ?_
        refine TQ.nil ?_
        refine T.condF rfl rfl ?_
        refine T.skip ?_
        refine T.blkEnd ?_
        refine T.region ?_
        refine T.pv (PV.add rfl rfl (by omega)) Wanted.none rfl rfl ?_
        refine T.pv (PV.move rfl) Wanted.none rfl rfl ?_
        refine T.opsNil ?_
        exact T.next (j + 1) ⟨by omega, key_take hxj hyj j2 hc⟩ (by omega) zq8 zq4 rfl
      · have hcn : cmpL (keyM x) (keyM y) ≠ 0 := fun h => hc ((cmpL_eq _ _).1 h)
        refine T.seq ?_
        refine T.region ?_
        refine T.pv (PV.lss rfl rfl) Wanted.none rfl rfl ?_
        refine T.opsNil ?_
        refine T.seq ?_
        refine T.condT rfl (decide_eq_true (by omega)) ?_
        refine T.skip ?_
        refine T.seq ?_
        refine T.block ?_
        refine T.seq ?_
        refine T.region ?_
        refine T.pv (PV.move rfl) Wanted.none rfl rfl ?_
        refine T.pv (PV.assign rfl) Wanted.none rfl rfl ?_
        refine T.opsNil ?_
        refine T.seq ?_
        refine T.regionQ (by kernel_rfl) ?_
        refine TQ.pv (PV.move rfl) Wanted.none rfl rfl ?_
        refine TQ.pv (PV.move rfl) Wanted.none rfl rfl ?_
        refine TQ.pv (PV.indexAddr rfl rfl (by omega)) Wanted.none rfl rfl ?_
        refine TQ.pv (PV.loadSubAll rfl (by assumption) (by exact rfl)) Wanted.none rfl rfl ?_
        refine TQ.pv (PV.move rfl) Wanted.none rfl rfl ?_
        refine TQ.pv (PV.move rfl) Wanted.none rfl rfl ?_
        refine TQ.pv (PV.indexAddr rfl rfl (by omega)) Wanted.none rfl rfl ?_
        refine TQ.pv (PV.loadSubAll rfl (by assumption) (by exact rfl)) Wanted.none rfl rfl ?_
        refine TQ.callV Wanted.none rfl rfl (hcall) ?_
        refine TQ.pv (PV.neq rfl rfl) Wanted.none rfl rfl ?_
        refine TQ.nil ?_
        refine T.condT rfl (decide_eq_true (by omega)) ?_
        refine T.seq ?_
        refine T.region ?_
        refine T.pv (PV.assign rfl) Wanted.none rfl rfl ?_
        refine T.opsNil ?_
        refine T.retF (Lv.fin (RV.tmp rfl rfl) ?_)
        rw [decide_eq_false]
        intro h
        have := congrArg (fun t => t[j]?) h
        simp only [List.getElem?_map, hxj, hyj, Option.map_some, Option.some.injEq] at this
        exact hc this
    · rw [List.take_of_length_le (by omega), List.take_of_length_le (by omega)] at j2
      refine T.seq ?_
      refine T.region ?_
      refine T.pv (PV.lss rfl rfl) Wanted.none rfl rfl ?_
      refine T.opsNil ?_
      refine T.seq ?_
      refine T.condF rfl (decide_eq_false (by omega)) ?_
      refine T.exit rfl ?_
      refine T.seq ?_
      refine T.region ?_
      refine T.pv (PV.assign rfl) Wanted.none rfl rfl ?_
      refine T.opsNil ?_
      exact T.retF (Lv.fin (RV.tmp rfl rfl) (by rw [decide_eq_true j2]))
  · refine T.seq ?_
    refine T.region ?_
    refine T.pv (PV.assign rfl) Wanted.none rfl rfl ?_
    refine T.opsNil ?_
    refine T.seq ?_
    refine T.seq ?_
    refine T.region ?_
    refine T.pv (PV.move rfl) Wanted.none rfl rfl ?_
    refine T.pv (PV.lenSl rfl) Wanted.none rfl rfl ?_
    refine T.pv (PV.move rfl) Wanted.none rfl rfl ?_
    refine T.pv (PV.lenSl rfl) Wanted.none rfl rfl ?_
    refine T.pv (PV.neq rfl rfl) Wanted.none rfl rfl ?_
    refine T.opsNil ?_
    refine T.condT rfl (decide_eq_true (by omega)) ?_
    refine T.seq ?_
    refine T.region ?_
    refine T.pv (PV.assign rfl) Wanted.none rfl rfl ?_
    refine T.opsNil ?_
    refine T.retF (Lv.fin (RV.tmp rfl rfl) ?_)
    rw [decide_eq_false]
    intro h
    have := congrArg List.length h
    simp at this
    exact hlen this
end Go.Proofs.Ytchgfjclchhgmaa
namespace Go.Proofs.Ytchgfjclchhgmaa
open Go.RowKit

theorem flatM_len (l : List Mt) : (l.flatMap encM).length = l.length * 3 := flat_len encM_len l
abbrev MtV (v : Value) (lv : List (Nat × Obj)) (l : List Mt) : Prop := Vec 77 3 v lv l.length (l.flatMap encM)
theorem MtV.snoc {v : Value} {lv : List (Nat × Obj)} {l : List Mt} {x : Mt} (h : Vec 77 3 v lv (l.length + 1) (l.flatMap encM ++ encM x)) : MtV v lv (l ++ [x]) := by
  unfold MtV
  rw [List.length_append, List.flatMap_append, List.flatMap_singleton]
  exact h
theorem one_encM {H : Hp} {m : Mt} (h : LabOk H m) : ∀ v ∈ encM m, v.oneCell' = true := by
  obtain ⟨am, cm, hmv⟩ := h.1.len
  intro v hv
  simp only [encM, List.mem_cons, List.not_mem_nil, or_false] at hv
  rcases hv with rfl | rfl | rfl
  · rfl
  · rfl
  · rw [hmv]; rfl
theorem takeM (l : List Mt) (k : Nat) (h : k ≤ l.length) : (l.flatMap encM).take (k * 3) = (l.take k).flatMap encM := by
  have : l.flatMap encM = (l.take k).flatMap encM ++ (l.drop k).flatMap encM := by rw [← List.flatMap_append, List.take_append_drop]
  rw [this, List.take_left' (by rw [flatM_len, List.length_take]; congr 1; omega)]
theorem dropM (l : List Mt) (k : Nat) (h : k ≤ l.length) : (l.flatMap encM).drop (k * 3) = (l.drop k).flatMap encM := by
  have : l.flatMap encM = (l.take k).flatMap encM ++ (l.drop k).flatMap encM := by rw [← List.flatMap_append, List.take_append_drop]
  rw [this, List.drop_left' (by rw [flatM_len, List.length_take]; congr 1; omega)]
theorem MtS.pre {H : Hp} {ad : Option Addr} {cap : Nat} {l : List Mt} (h : SlR H 3 (.slice ad l.length cap) l.length (l.flatMap encM)) {k : Nat} (hk : k ≤ l.length) : SlR H 3 (.slice ad ((k : Nat) : Int).toNat cap) k ((l.take k).flatMap encM) := by
  have := h.pre hk
  rw [takeM l k hk] at this
  rw [Int.toNat_natCast]; exact this
theorem MtS.suf {H : Hp} {ad : Option Addr} {cap : Nat} {l : List Mt} (h : SlR H 3 (.slice ad l.length cap) l.length (l.flatMap encM)) {k : Nat} (hk : k ≤ l.length) : SlR H 3 (slV 3 ad ((k : Nat) : Int).toNat l.length cap) (l.length - k) ((l.drop k).flatMap encM) := by
  have := h.slice (lo := k) (hi := l.length) hk (Nat.le_refl _)
  rw [dropM l k hk, List.take_of_length_le (by rw [flatM_len, List.length_drop]; omega)] at this
  rw [Int.toNat_natCast]; exact this
theorem one_flatM {H : Hp} {l : List Mt} (h : ∀ m ∈ l, LabOk H m) : ∀ v ∈ l.flatMap encM, v.oneCell' = true := by
  intro v hv
  obtain ⟨s, hs, hs2⟩ := List.mem_flatMap.1 hv
  exact one_encM (h s hs) v hs2
theorem T.sub {P : Program} {X : Cx} {e : Env} {l l' : List (Nat × Obj)} {H : Hp} {D : List Deferred} {k : List It} (hl : List.Sublist l' l) (h : T P X e l' H D k) : T P X e l H D k := T.mk fun a w ha hw => h.get a w ha (hw.sub hl)
/-- the rest once, for all that a region may have come to -/
theorem T.cut1F {P : Program} {X : Cx} {e : Env} {l : List (Nat × Obj)} {H : Hp} {D : List Deferred} {a : It} {k : List It} {γ : Type} (C : γ → Prop) (e' : γ → Env) (l' : γ → List (Nat × Obj)) (K : ∀ g, C g → T P X (e' g) (l' g) H D k)
    (h : (∀ g e l, C g → Env.Sub (e' g) e → List.Sublist (l' g) l → T P X e l H D k) → T P X e l H D (a :: k)) : T P X e l H D (a :: k) :=
  h fun g _ _ hc he hl => T.weak he hl (K g hc)
theorem T.cut2F {P : Program} {X : Cx} {e : Env} {l : List (Nat × Obj)} {H : Hp} {D : List Deferred} {a b : It} {k : List It} {γ : Type} (C : γ → Prop) (e' : γ → Env) (l' : γ → List (Nat × Obj)) (K : ∀ g, C g → T P X (e' g) (l' g) H D k)
    (h : (∀ g e l, C g → Env.Sub (e' g) e → List.Sublist (l' g) l → T P X e l H D k) → T P X e l H D (a :: b :: k)) : T P X e l H D (a :: b :: k) :=
  h fun g _ _ hc he hl => T.weak he hl (K g hc)

theorem PV.nilCheck {P : Program} {e : Env} {l : List (Nat × Obj)} {H : Hp} {dst : Option Tmp} {ty : TypeId} {pos : String} {after : Array Edge} {gd : Option (Nat × Bool)} {x : Operand} {ad : Addr} (hx : evE e x = some (.pointer (some ad))) : PV P e l H ⟨dst, .nilCheck x, ty, pos, after, gd⟩ (.pointer (some ad)) := PV.mk fun X D a w ha hw => by
  simp [execOp, ha.eval hx]
theorem mod_fn (x n : Int) (H : Hp) (hx : -9223372036854775808 ≤ x ∧ x ≤ 9223372036854775807) (hn : 1 ≤ n ∧ n ≤ 1000000) : Fn Try.prog 38 #[.int .i64 x, .int .i64 n] H (fun u _ => u = .int .i64 (x % n)) := by
  refine Fn.of_T (vs := [.int .i64 x, .int .i64 n]) Try.func38 rfl rfl fun w => ?_
  have hb : -n < x.tmod n ∧ x.tmod n < n := by
    have h1 := Int.tmod_lt_of_pos x (by omega : 0 < n)
    have h2 := Int.lt_tmod_of_pos x (by omega : 0 < n)
    exact ⟨h2, h1⟩
  have he : x % n = if x.tmod n < 0 then x.tmod n + n else x.tmod n := by
    have h0 := Int.emod_nonneg x (by omega : n ≠ 0)
    have h1 := Int.emod_lt_of_pos x (by omega : 0 < n)
    have h2 : x % n = (x.tmod n) % n := by
      have h3 : x.tmod n + n * x.tdiv n = x := Int.tmod_add_mul_tdiv x n
      conv => lhs; rw [← h3]
      rw [Int.add_mul_emod_self_left]
    split
    · rw [h2, ← Int.add_emod_right]; exact Int.emod_eq_of_lt (by omega) (by omega)
    · rw [h2]; exact Int.emod_eq_of_lt (by omega) (by omega)
  rw [he]
  refine T.seq ?_
  refine T.region ?_
  refine T.pv (PV.assign rfl) Wanted.none rfl rfl ?_
  refine T.opsNil ?_
  refine T.seq ?_
  refine T.seq ?_
  refine T.region ?_
  refine T.pv (PV.move rfl) Wanted.none rfl rfl ?_
  refine T.pv (PV.lss rfl rfl) Wanted.none rfl rfl ?_
  refine T.opsNil ?_
  refine T.condF rfl (decide_eq_false (by omega)) ?_
  refine T.skip ?_
  refine T.seq ?_
  refine T.region ?_
  refine T.pv (PV.move rfl) Wanted.none rfl rfl ?_
  refine T.pv (PV.move rfl) Wanted.none rfl rfl ?_
  refine T.pv (PV.rem rfl rfl (by omega)) Wanted.none rfl rfl ?_
  refine T.pv (PV.assign rfl) Wanted.none rfl rfl ?_
  refine T.opsNil ?_
  refine T.seq ?_
  refine T.seq ?_
  refine T.region ?_
  refine T.pv (PV.move rfl) Wanted.none rfl rfl ?_
  refine T.pv (PV.lss rfl rfl) Wanted.none rfl rfl ?_
  refine T.opsNil ?_
  split
  · refine T.condT rfl (decide_eq_true (by omega)) ?_
    refine T.region ?_
    refine T.pv (PV.move rfl) Wanted.none rfl rfl ?_
    refine T.pv (PV.move rfl) Wanted.none rfl rfl ?_
    refine T.pv (PV.add rfl rfl (by omega)) Wanted.none rfl rfl ?_
    refine T.pv (PV.assign rfl) Wanted.none rfl rfl ?_
    refine T.opsNil ?_
    refine T.seq ?_
    refine T.region ?_
    refine T.pv (PV.move rfl) Wanted.none rfl rfl ?_
    refine T.pv (PV.assign rfl) Wanted.none rfl rfl ?_
    refine T.opsNil ?_
    exact T.retF (Lv.fin (RV.tmp rfl rfl) rfl)
  · refine T.condF rfl (decide_eq_false (by omega)) ?_
    refine T.skip ?_
    refine T.seq ?_
    refine T.region ?_
    refine T.pv (PV.move rfl) Wanted.none rfl rfl ?_
    refine T.pv (PV.assign rfl) Wanted.none rfl rfl ?_
    refine T.opsNil ?_
    exact T.retF (Lv.fin (RV.tmp rfl rfl) rfl)
/-- a tape: at most 120 numbers that are only read, and a place -/
structure Tp where
  v : Value
  xs : List Int
  at_ : Nat
def Tp.ok (H : Hp) (t : Tp) : Prop := InL H t.v t.xs ∧ t.xs.length ≤ 120 ∧ t.at_ ≤ t.xs.length ∧ ∀ x ∈ t.xs, -9223372036854775808 ≤ x ∧ x ≤ 9223372036854775807
def Tp.blk (b : Nat) (t : Tp) : Nat × Obj := (b, .cells #[t.v, .int .i64 (t.at_ : Int)] 61 (0, 0))
theorem Tp.ok.mono {H H' : Hp} {t : Tp} (h : t.ok H) (hl : H.le H') : t.ok H' := ⟨h.1.mono hl, h.2⟩
theorem SlR.pre1 {H : Hp} {ad : Option Addr} {cap : Nat} {l : List Int} (h : SlR H 1 (.slice ad l.length cap) l.length (intsV l)) {k : Nat} (hk : k ≤ l.length) : InL H (.slice ad k cap) (l.take k) := by
  have := h.pre hk
  have e : (l.take k).length = k := by rw [List.length_take]; omega
  have e2 : (intsV l).take (k * 1) = intsV (l.take k) := by
    have e3 : intsV l = intsV (l.take k) ++ intsV (l.drop k) := by unfold intsV; rw [← List.flatMap_append, List.take_append_drop]
    rw [e3, List.take_left' (by rw [ints_len, e, Nat.mul_one])]
  unfold InL
  rw [e, ← e2]; exact this
theorem new_fn (l : List Int) (v : Value) (H : Hp) (hv : InL H v l) (hl : l.length ≤ 9223372036854775807) (hr : ∀ x ∈ l, -9223372036854775808 ≤ x ∧ x ≤ 9223372036854775807) : FnW Try.prog 11 #[v] H [] (fun u H' l' => H = H' ∧ ∃ b t, u = .pointer (some ⟨b, 0, none⟩) ∧ t.ok H ∧ l' = [Tp.blk b t]) := by
  obtain ⟨ad, cap, rfl⟩ := hv.len
  have hcap := hv.cap
  refine FnW.of_T (vs := [.slice ad l.length cap]) Try.func11 rfl rfl fun w => ?_
  by_cases h : 120 < l.length
  · refine T.seq ?_
    refine T.region ?_
    refine T.pv (PV.assign rfl) Wanted.none rfl rfl ?_
    refine T.opsNil ?_
    refine T.seq ?_
    refine T.seq ?_
    refine T.region ?_
    refine T.pv (PV.move rfl) Wanted.none rfl rfl ?_
    refine T.pv (PV.lenSl rfl) Wanted.none rfl rfl ?_
    refine T.pv (PV.gtr rfl rfl) Wanted.none rfl rfl ?_
    refine T.opsNil ?_
    refine T.condT rfl (decide_eq_true (by omega)) ?_
    refine T.region ?_
    refine T.pv (PV.move rfl) Wanted.none rfl rfl ?_
    refine T.pv (PV.sliceH rfl rfl (by omega)) Wanted.none rfl rfl ?_
    refine T.pv (PV.assign rfl) Wanted.none rfl rfl ?_
    refine T.opsNil ?_
    refine T.seq ?_
    refine T.region ?_
    refine T.pv (PV.move rfl) Wanted.none rfl rfl ?_
    refine T.pv (PV.build rfl zq12) Wanted.none rfl rfl ?_
    (refine T.box Wanted.none rfl rfl zq15 ?_; intro b10)
    refine T.pv (PV.assign rfl) Wanted.none rfl rfl ?_
    refine T.opsNil ?_
    refine T.retW (Lv.finW _ (List.Sublist.refl _) (RV.tmp rfl rfl) ⟨rfl, _, ⟨.slice ad 120 cap, l.take 120, 0⟩, rfl, ⟨hv.pre1 (by omega), by rw [List.length_take]; omega, by simp, fun x hx => hr x (List.mem_of_mem_take hx)⟩, rfl⟩)
  · refine T.seq ?_
    refine T.region ?_
    refine T.pv (PV.assign rfl) Wanted.none rfl rfl ?_
    refine T.opsNil ?_
    refine T.seq ?_
    refine T.seq ?_
    refine T.region ?_
    refine T.pv (PV.move rfl) Wanted.none rfl rfl ?_
    refine T.pv (PV.lenSl rfl) Wanted.none rfl rfl ?_
    refine T.pv (PV.gtr rfl rfl) Wanted.none rfl rfl ?_
    refine T.opsNil ?_
    refine T.condF rfl (decide_eq_false (by omega)) ?_
    refine T.skip ?_
    refine T.seq ?_
    refine T.region ?_
    refine T.pv (PV.move rfl) Wanted.none rfl rfl ?_
    refine T.pv (PV.build rfl zq12) Wanted.none rfl rfl ?_
    (refine T.box Wanted.none rfl rfl zq15 ?_; intro b10)
    refine T.pv (PV.assign rfl) Wanted.none rfl rfl ?_
    refine T.opsNil ?_
    refine T.retW (Lv.finW _ (List.Sublist.refl _) (RV.tmp rfl rfl) ⟨rfl, _, ⟨.slice ad l.length cap, l, 0⟩, rfl, ⟨hv, by dsimp only; omega, by simp, hr⟩, rfl⟩)
theorem next_fn (b : Nat) (t : Tp) (n : Int) (H : Hp) (ht : t.ok H) (hn : 1 ≤ n ∧ n ≤ 1000000) : FnW Try.prog 21 #[.pointer (some ⟨b, 0, none⟩), .int .i64 n] H [Tp.blk b t] (fun u H' l' => H = H' ∧ ∃ x t', u = .int .i64 x ∧ (0 ≤ x ∧ x < n) ∧ t'.ok H ∧ l' = [Tp.blk b t']) := by
  obtain ⟨v, xs, i⟩ := t
  obtain ⟨h1, h2, h3, h4⟩ := ht
  dsimp only at h1 h2 h3 h4
  obtain ⟨ad, cap, rfl⟩ := h1.len
  refine FnW.of_T (vs := [.pointer (some ⟨b, 0, none⟩), .int .i64 n]) Try.func21 rfl rfl fun w => ?_
  unfold Tp.blk
  dsimp only
  by_cases hi : i < xs.length
  · obtain ⟨x, hx⟩ : ∃ x, xs[i]? = some x := ⟨_, List.getElem?_eq_getElem hi⟩
    obtain ⟨bs, off, rfl, hsub0⟩ := h1.intAt hx
    have hsub : SubC H bs (off + ((i : Int) + 1 - 1).toNat * 1) [.int .i64 x] := by rwa [show ((i : Int) + 1 - 1).toNat = i by omega]
    clear hsub0
    have hm := mod_fn x n H (h4 x (List.mem_of_getElem? hx)) hn
    refine T.seq ?_
    refine T.region ?_
    refine T.pv (PV.assign rfl) Wanted.none rfl rfl ?_
    refine T.opsNil ?_
    refine T.seq ?_
    refine T.seq ?_
    refine T.regionQ (by kernel_rfl) ?_
    refine TQ.pv (PV.move rfl) Wanted.none rfl rfl ?_
    refine TQ.pv (PV.nilCheck rfl) Wanted.none rfl rfl ?_
    refine TQ.pv (PV.fieldAddr rfl) Wanted.none rfl rfl ?_
    refine TQ.pv (PV.load1 rfl zq0 rfl) Wanted.none rfl rfl ?_
    refine TQ.pv (PV.move rfl) Wanted.none rfl rfl ?_
    refine TQ.pv (PV.nilCheck rfl) Wanted.none rfl rfl ?_
    refine TQ.pv (PV.fieldAddr rfl) Wanted.none rfl rfl ?_
    refine TQ.pv (PV.load1 rfl zq0 rfl) Wanted.none rfl rfl ?_
    refine TQ.pv (PV.lenSl rfl) Wanted.none rfl rfl ?_
    refine TQ.pv (PV.geq rfl rfl) Wanted.none rfl rfl ?_
    refine TQ.nil ?_
    refine T.condF rfl (decide_eq_false (by omega)) ?_
    refine T.skip ?_
    refine T.seq ?_
    refine T.region ?_
    refine T.pv (PV.move rfl) Wanted.none rfl rfl ?_
    refine T.pv (PV.nilCheck rfl) Wanted.none rfl rfl ?_
    refine T.pv (PV.fieldAddr rfl) Wanted.none rfl rfl ?_
    refine T.pv (PV.load1 rfl zq0 rfl) Wanted.none rfl rfl ?_
    refine T.pv (PV.add rfl rfl (by omega)) Wanted.none rfl rfl ?_
    refine T.pv (PV.nilCheck rfl) Wanted.none rfl rfl ?_
    refine T.pv (PV.fieldAddr rfl) Wanted.none rfl rfl ?_
    refine T.store1 Wanted.none rfl rfl rfl zq14 zq13 ?_
    refine T.opsNil ?_
    refine T.seq ?_
    refine T.regionQ (by kernel_rfl) ?_
    refine TQ.pv (PV.move rfl) Wanted.none rfl rfl ?_
    refine TQ.pv (PV.nilCheck rfl) Wanted.none rfl rfl ?_
    refine TQ.pv (PV.fieldAddr rfl) Wanted.none rfl rfl ?_
    refine TQ.pv (PV.load1 rfl zq0 rfl) Wanted.none rfl rfl ?_
    refine TQ.pv (PV.move rfl) Wanted.none rfl rfl ?_
    refine TQ.pv (PV.nilCheck rfl) Wanted.none rfl rfl ?_
    refine TQ.pv (PV.fieldAddr rfl) Wanted.none rfl rfl ?_
    refine TQ.pv (PV.load1 rfl zq0 rfl) Wanted.none rfl rfl ?_
    refine TQ.pv (PV.sub rfl rfl (by omega)) Wanted.none rfl rfl ?_
    refine TQ.pv (PV.indexAddr rfl rfl (by omega)) Wanted.none rfl rfl ?_
    refine TQ.pv (PV.loadSub0 rfl (by assumption)) Wanted.none rfl rfl ?_
    refine TQ.pv (PV.move rfl) Wanted.none rfl rfl ?_
    refine TQ.callV Wanted.none rfl rfl (hm) ?_
    refine TQ.pv (PV.assign rfl) Wanted.none rfl rfl ?_
    refine TQ.nil ?_
    refine T.retW (Lv.finW _ (List.Sublist.refl _) (RV.tmp rfl rfl) ⟨rfl, x % n, ⟨.slice (some ⟨bs, off, none⟩) xs.length cap, xs, i + 1⟩, rfl, ⟨Int.emod_nonneg _ (by omega), Int.emod_lt_of_pos _ (by omega)⟩, ⟨h1, h2, by dsimp only; omega, h4⟩, ?_⟩)
    rfl
  · refine T.seq ?_
    refine T.region ?_
    refine T.pv (PV.assign rfl) Wanted.none rfl rfl ?_
    refine T.opsNil ?_
    refine T.seq ?_
    refine T.seq ?_
    refine T.regionQ (by kernel_rfl) ?_
    refine TQ.pv (PV.move rfl) Wanted.none rfl rfl ?_
    refine TQ.pv (PV.nilCheck rfl) Wanted.none rfl rfl ?_
    refine TQ.pv (PV.fieldAddr rfl) Wanted.none rfl rfl ?_
    refine TQ.pv (PV.load1 rfl zq0 rfl) Wanted.none rfl rfl ?_
    refine TQ.pv (PV.move rfl) Wanted.none rfl rfl ?_
    refine TQ.pv (PV.nilCheck rfl) Wanted.none rfl rfl ?_
    refine TQ.pv (PV.fieldAddr rfl) Wanted.none rfl rfl ?_
    refine TQ.pv (PV.load1 rfl zq0 rfl) Wanted.none rfl rfl ?_
    refine TQ.pv (PV.lenSl rfl) Wanted.none rfl rfl ?_
    refine TQ.pv (PV.geq rfl rfl) Wanted.none rfl rfl ?_
    refine TQ.nil ?_
    refine T.condT rfl (decide_eq_true (by omega)) ?_
    refine T.seq ?_
    refine T.region ?_
    refine T.pv (PV.assign rfl) Wanted.none rfl rfl ?_
    refine T.opsNil ?_
    refine T.retW (Lv.finW _ (List.Sublist.refl _) (RV.tmp rfl rfl) ⟨rfl, 0, ⟨.slice ad xs.length cap, xs, i⟩, rfl, ⟨by omega, by omega⟩, ⟨h1, h2, h3, h4⟩, rfl⟩)
end Go.Proofs.Ytchgfjclchhgmaa
