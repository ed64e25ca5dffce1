/- strategy: the small functions. -/
import Derived.Test.YtceaicameojcaaaXF
import Derived.Test.YtceaicameojcaaaXT
import Derived.Test.YtceaicameojcaaaSQ
namespace Go.Proofs.Ytceaicameojcaaa
open Go.RowKit

def encS (s : Sp) : List Value := [.int .i64 s.1, .int .i64 s.2]
theorem encS_len (s : Sp) : (encS s).length = 2 := rfl
theorem one_encS (s : Sp) : ∀ v ∈ encS s, v.oneCell' = true := by intro v hv; simp [encS] at hv; rcases hv with rfl | rfl <;> rfl
def spV (s : Sp) : Value := .agg #[.int .i64 s.1, .int .i64 s.2]
def cmpI (a b : Int) : Int := if a < b then -1 else if b < a then 1 else 0

theorem boolV {p q : Prop} {i : Decidable p} {j : Decidable q} (h : p ↔ q) : Value.bool (decide p) = .bool (decide q) := by rw [decide_eq_decide.2 h]
theorem boolF {q : Prop} {j : Decidable q} (h : ¬ q) : Value.bool false = .bool (decide q) := by rw [decide_eq_false h]
theorem boolT {q : Prop} {j : Decidable q} (h : q) : Value.bool true = .bool (decide q) := by rw [decide_eq_true h]
theorem isNaN_fn (a : Int) (H : Hp) : Fn Try.prog 43 #[.int .i64 a] H (fun v _ => v = .bool false) := by
  refine Fn.of_T (vs := [.int .i64 a]) Try.func43 rfl rfl fun w => ?_
  have h : decide (a ≠ a) = false := by simp
  refine T.seq ?_
  refine T.region ?_
  refine T.pv (PV.assign rfl) Wanted.none rfl rfl ?_
  refine T.opsNil ?_
  refine T.seq ?_
  refine T.region ?_
  refine T.pv (PV.move rfl) Wanted.none rfl rfl ?_
  refine T.pv (PV.move rfl) Wanted.none rfl rfl ?_
  refine T.pv (PV.neq rfl rfl) Wanted.none rfl rfl ?_
  refine T.pv (PV.assign rfl) Wanted.none rfl rfl ?_
  refine T.opsNil ?_
  exact T.retF (Lv.fin (RV.tmp rfl rfl) (by rw [h]))
theorem cmpCompare_fn (a b : Int) (H : Hp) : Fn Try.prog 38 #[.int .i64 a, .int .i64 b] H (fun v _ => v = .int .i64 (cmpI a b)) := by
  refine Fn.of_T (vs := [.int .i64 a, .int .i64 b]) Try.func38 rfl rfl fun w => ?_
  refine T.seq ?_
  refine T.region ?_
  refine T.pv (PV.assign rfl) Wanted.none rfl rfl ?_
  refine T.opsNil ?_
  refine T.seq ?_
  refine T.region ?_
  refine T.pv (PV.move rfl) Wanted.none rfl rfl ?_
  refine T.callV Wanted.none rfl rfl (isNaN_fn _ H) ?_
  refine T.pv (PV.assign rfl) Wanted.none rfl rfl ?_
  refine T.opsNil ?_
  refine T.seq ?_
  refine T.region ?_
  refine T.pv (PV.move rfl) Wanted.none rfl rfl ?_
  refine T.callV Wanted.none rfl rfl (isNaN_fn _ H) ?_
  refine T.pv (PV.assign rfl) Wanted.none rfl rfl ?_
  refine T.opsNil ?_
  refine T.seq ?_
  refine T.seq ?_
  refine T.region ?_
  refine T.pv (PV.move rfl) Wanted.none rfl rfl ?_
  refine T.opsNil ?_
  refine T.condF rfl rfl ?_
  refine T.skip ?_
  refine T.seq ?_
  refine T.seq ?_
  refine T.region ?_
  refine T.pv (PV.move rfl) Wanted.none rfl rfl ?_
  refine T.opsNil ?_
  refine T.condF rfl rfl ?_
  refine T.skip ?_
  refine T.seq ?_
  refine T.seq ?_
  refine T.region ?_
  refine T.pv (PV.move rfl) Wanted.none rfl rfl ?_
  refine T.pv (PV.move rfl) Wanted.none rfl rfl ?_
  refine T.pv (PV.lss rfl rfl) Wanted.none rfl rfl ?_
  refine T.opsNil ?_
  refine T.condD rfl (fun h0 => ?_) (fun h0 => ?_)
  · refine T.seq ?_
    refine T.region ?_
    refine T.pv (PV.assign rfl) Wanted.none rfl rfl ?_
    refine T.opsNil ?_
    (refine T.retF (Lv.fin (RV.tmp rfl rfl) ?_); congr 1; unfold cmpI; split <;> (try split) <;> omega)
  · refine T.skip ?_
    refine T.seq ?_
    refine T.seq ?_
    refine T.region ?_
    refine T.pv (PV.move rfl) Wanted.none rfl rfl ?_
    refine T.pv (PV.move rfl) Wanted.none rfl rfl ?_
    refine T.pv (PV.gtr rfl rfl) Wanted.none rfl rfl ?_
    refine T.opsNil ?_
    refine T.condD rfl (fun h1 => ?_) (fun h1 => ?_)
    · refine T.seq ?_
      refine T.region ?_
      refine T.pv (PV.assign rfl) Wanted.none rfl rfl ?_
      refine T.opsNil ?_
      (refine T.retF (Lv.fin (RV.tmp rfl rfl) ?_); congr 1; unfold cmpI; split <;> (try split) <;> omega)
    · refine T.skip ?_
      refine T.seq ?_
      refine T.region ?_
      refine T.pv (PV.assign rfl) Wanted.none rfl rfl ?_
      refine T.opsNil ?_
      (refine T.retF (Lv.fin (RV.tmp rfl rfl) ?_); congr 1; unfold cmpI; split <;> (try split) <;> omega)
def orI : List Int → Int
  | [] => 0
  | a :: l => if a ≠ 0 then a else orI l
def intsV (l : List Int) : List Value := l.flatMap fun a => [.int .i64 a]
theorem orI_drop {l : List Int} {i : Nat} {a : Int} (h : l[i]? = some a) : orI (l.drop i) = if a ≠ 0 then a else orI (l.drop (i + 1)) := by
  have hi := List.getElem?_eq_some_iff.1 h
  rw [List.drop_eq_getElem_cons hi.1, hi.2, orI]
theorem cmpOr_fn (l : List Int) (v : Value) (H : Hp) (hv : SlR H 1 v l.length (intsV l)) (hl : l.length ≤ 1000) : Fn Try.prog 37 #[v] H (fun v _ => v = .int .i64 (orI l)) := by
  obtain ⟨ad, cap, rfl⟩ := hv.len
  refine Fn.of_T (vs := [.slice ad l.length cap]) Try.func37 rfl rfl fun w => ?_
  refine T.seq ?_
  refine T.region ?_
  refine T.pv (PV.assign rfl) Wanted.none rfl rfl ?_
  refine T.opsNil ?_
  refine T.seq ?_
  refine T.region ?_
  refine T.pv (PV.assign rfl) Wanted.none rfl rfl ?_
  refine T.opsNil ?_
  refine T.seq ?_
  refine T.seq ?_
  refine T.region ?_
  refine T.pv (PV.move rfl) Wanted.none rfl rfl ?_
  refine T.pv (PV.lenSl rfl) Wanted.none rfl rfl ?_
  refine T.pv (PV.move rfl) Wanted.none rfl rfl ?_
  refine T.opsNil ?_
  refine T.block ?_
  refine T.loop (γ := Nat) (fun i => i ≤ l.length ∧ orI (l.drop i) = orI l)
    (fun i => [(2, .int .i64 0), (3, .int .i64 0), (8, .int .i64 (i : Int)), (7, .int .i64 (l.length : Int)), (6, .slice ad l.length cap)])
    (fun _ => []) (fun _ => H) (fun i => l.length - i) 0 ⟨by simp, by simp⟩ (by repeat (first | exact trivial | refine And.intro rfl ?_)) (by repeat (first | exact List.Sublist.slnil | exact List.nil_sublist _ | exact List.Sublist.refl _ | exact List.sublist_append_left _ [] | apply List.Sublist.cons_cons | apply List.Sublist.cons | refine List.Sublist.append_left ?_ _ | refine List.sublist_append_of_sublist_right ?_)) rfl ?_
  rintro i ⟨h1, h2⟩
  by_cases hi : i < l.length
  · obtain ⟨x, hx⟩ : ∃ x, l[i]? = some x := ⟨_, List.getElem?_eq_getElem hi⟩
    obtain ⟨b, off, cap', hve, hsub⟩ := hv.elem (i := i) (by omega) (flat_elem (f := fun a : Int => [Value.int .i64 a]) (fun _ => rfl) l i x hx)
    injection hve with e1 e2 e3
    subst e1 e3
    have ho := orI_drop hx
    refine T.seq ?_
    refine T.region ?_
    refine T.pv (PV.lss rfl rfl) Wanted.none rfl rfl ?_
    refine T.opsNil ?_
    refine T.seq ?_
    refine T.condT rfl (decide_eq_true (by omega)) ?_
    refine T.skip ?_
    refine T.seq ?_
    refine T.block ?_
    refine T.seq ?_
    refine T.region ?_
    refine T.pv (PV.indexAddr rfl rfl (by omega)) Wanted.none rfl rfl ?_
    refine T.pv (PV.loadSub0 rfl (by assumption)) Wanted.none rfl rfl ?_
    refine T.pv (PV.assign rfl) Wanted.none rfl rfl ?_
    refine T.opsNil ?_
    refine T.seq ?_
    refine T.region ?_
    refine T.pv (PV.move rfl) Wanted.none rfl rfl ?_
    refine T.pv (PV.move rfl) Wanted.none rfl rfl ?_
    refine T.pv (PV.neq rfl rfl) Wanted.none rfl rfl ?_
    refine T.opsNil ?_
    refine T.condD rfl (fun hc => ?_) (fun hc => ?_)
    · rw [if_pos hc] at ho
      refine T.seq ?_
      refine T.region ?_
      refine T.pv (PV.move rfl) Wanted.none rfl rfl ?_
      refine T.pv (PV.assign rfl) Wanted.none rfl rfl ?_
      refine T.opsNil ?_
      exact T.retF (Lv.fin (RV.tmp rfl rfl) (by rw [← h2, ho]))
    · rw [if_neg hc] at ho
      refine T.skip ?_
      refine T.blkEnd ?_
      refine T.region ?_
      refine T.pv (PV.add rfl rfl (by omega)) Wanted.none rfl rfl ?_
      refine T.pv (PV.move rfl) Wanted.none rfl rfl ?_
      refine T.opsNil ?_
      exact T.next (i + 1) ⟨by omega, by rw [← h2, ho]⟩ (by omega) (by repeat (first | exact trivial | refine And.intro rfl ?_)) (by repeat (first | exact List.Sublist.slnil | exact List.nil_sublist _ | exact List.Sublist.refl _ | exact List.sublist_append_left _ [] | apply List.Sublist.cons_cons | apply List.Sublist.cons | refine List.Sublist.append_left ?_ _ | refine List.sublist_append_of_sublist_right ?_)) rfl
  · rw [List.drop_of_length_le (by omega)] at h2
    refine T.seq ?_
    refine T.region ?_
    refine T.pv (PV.lss rfl rfl) Wanted.none rfl rfl ?_
    refine T.opsNil ?_
    refine T.seq ?_
    refine T.condF rfl (decide_eq_false (by omega)) ?_
    refine T.exit rfl ?_
    refine T.seq ?_
    refine T.region ?_
    refine T.pv (PV.move rfl) Wanted.none rfl rfl ?_
    refine T.pv (PV.assign rfl) Wanted.none rfl rfl ?_
    refine T.opsNil ?_
    exact T.retF (Lv.fin (RV.tmp rfl rfl) (by rw [← h2]; rfl))
theorem SlR.lit {H : Hp} {sz b t n : Nat} {fz : Nat × Nat} {xs : List Value} (h : H b = some (.cells xs.toArray t fz)) (hn : xs.length = n * sz) : SlR H sz (.slice (some ⟨b, 0, none⟩) n n) n xs :=
  ⟨hn, .inr ⟨b, 0, n, xs, t, fz, rfl, h, by rw [List.drop_zero, List.take_of_length_le (by omega)], Nat.le_refl _⟩⟩
theorem T.freezeLit {P : Program} {X : Cx} {e : Env} {l : List (Nat × Obj)} {H : Hp} {D : List Deferred} {k : List It} {b : Nat} {o : Obj} (h : ∀ H1, H.le H1 → H1 b = some o → T P X e l H1 D k) : T P X e ((b, o) :: l) H D k :=
  T.mk fun a w ha hw => (h (H.put b o) (Hp.le_put (hw.own _ List.mem_cons_self).2.1) Hp.put_same).get a w ha hw.freeze
theorem eqS_true {a b : Sp} (h : a.1 = b.1 ∧ a.2 = b.2) : eqCells [.int .i64 a.1, .int .i64 a.2] [.int .i64 b.1, .int .i64 b.2] = true := by simp [eqCells, cellEq, h.1, h.2]
theorem eqS_false {a b : Sp} (h : ¬ (a.1 = b.1 ∧ a.2 = b.2)) : eqCells [.int .i64 a.1, .int .i64 a.2] [.int .i64 b.1, .int .i64 b.2] = false := by
  rw [Bool.eq_false_iff]; simpa [eqCells, cellEq] using h
theorem eqS_eq (a b : Sp) : eqCells [.int .i64 a.1, .int .i64 a.2] [.int .i64 b.1, .int .i64 b.2] = decide (a = b) := by
  by_cases h : a.1 = b.1 ∧ a.2 = b.2
  · rw [eqS_true h, decide_eq_true (Prod.ext h.1 h.2)]
  · rw [eqS_false h, decide_eq_false (fun e => h (by rw [e]; exact ⟨rfl, rfl⟩))]
/-- order of spans: by begin, then by end -/
def ordC (a b : Sp) : Int := orI [cmpI a.1 b.1, cmpI a.2 b.2]
theorem compare_fn (a b : Sp) (H : Hp) : Fn Try.prog 30 #[spV a, spV b] H (fun v _ => v = .int .i64 (ordC a b)) := by
  refine Fn.of_T (vs := [spV a, spV b]) Try.func30 rfl rfl fun w => ?_
  unfold spV
  refine T.seq ?_
  refine T.region ?_
  (refine T.box Wanted.none rfl rfl (by first | exact CellsR.one rfl | exact CellsR.agg) ?_; intro b2)
  (refine T.box Wanted.none rfl rfl (by first | exact CellsR.one rfl | exact CellsR.agg) ?_; intro b3)
  refine T.pv (PV.assign rfl) Wanted.none rfl rfl ?_
  refine T.opsNil ?_
  refine T.seq ?_
  refine T.regionT 10 (by kernel_rfl) ?_
  refine TQ.pv (PV.fieldAddr rfl) Wanted.none rfl rfl ?_
  refine TQ.pv (PV.load1 rfl (by first | exact .fro (by assumption) | exact .own (by repeat (first | exact List.Mem.head _ | apply List.Mem.tail | apply List.mem_append_right))) rfl) Wanted.none rfl rfl ?_
  refine TQ.pv (PV.fieldAddr rfl) Wanted.none rfl rfl ?_
  refine TQ.pv (PV.load1 rfl (by first | exact .fro (by assumption) | exact .own (by repeat (first | exact List.Mem.head _ | apply List.Mem.tail | apply List.mem_append_right))) rfl) Wanted.none rfl rfl ?_
  refine TQ.callV Wanted.none rfl rfl (cmpCompare_fn _ _ H) ?_
  refine TQ.pv (PV.fieldAddr rfl) Wanted.none rfl rfl ?_
  refine TQ.pv (PV.load1 rfl (by first | exact .fro (by assumption) | exact .own (by repeat (first | exact List.Mem.head _ | apply List.Mem.tail | apply List.mem_append_right))) rfl) Wanted.none rfl rfl ?_
  refine TQ.pv (PV.fieldAddr rfl) Wanted.none rfl rfl ?_
  refine TQ.pv (PV.load1 rfl (by first | exact .fro (by assumption) | exact .own (by repeat (first | exact List.Mem.head _ | apply List.Mem.tail | apply List.mem_append_right))) rfl) Wanted.none rfl rfl ?_
  refine TQ.callV Wanted.none rfl rfl (cmpCompare_fn _ _ H) ?_
  refine TQ.nil ?_
  (refine T.buildSlice Wanted.none rfl rfl (by repeat (first | exact FillAll.nil | (apply FillAll.cons; (first | exact CellsR.one rfl | exact CellsR.agg); exact rfl))) (by exact rfl) (by exact rfl) ?_; intro b15)
  refine T.freezeLit ?_
  intro H1 hle1 hH1
  have hsl : SlR H1 1 _ _ (intsV [cmpI a.1 b.1, cmpI a.2 b.2]) := SlR.lit (n := 2) hH1 rfl
  refine T.callV Wanted.none rfl rfl (cmpOr_fn [cmpI a.1 b.1, cmpI a.2 b.2] _ H1 hsl (Nat.le_of_ble_eq_true rfl)) ?_
  refine T.pv (PV.assign rfl) Wanted.none rfl rfl ?_
  refine T.opsNil ?_
  exact T.retF (Lv.fin (RV.tmp rfl rfl) rfl)
theorem contains_fn (s t : Sp) (H : Hp) : Fn Try.prog 20 #[spV s, spV t] H (fun v _ => v = .bool (decide (s.1 ≤ t.1 ∧ t.2 ≤ s.2))) := by
  refine Fn.of_T (vs := [spV s, spV t]) Try.func20 rfl rfl fun w => ?_
  unfold spV
  refine T.seq ?_
  refine T.region ?_
  (refine T.box Wanted.none rfl rfl (by first | exact CellsR.one rfl | exact CellsR.agg) ?_; intro b2)
  (refine T.box Wanted.none rfl rfl (by first | exact CellsR.one rfl | exact CellsR.agg) ?_; intro b3)
  refine T.pv (PV.assign rfl) Wanted.none rfl rfl ?_
  refine T.opsNil ?_
  refine T.seq ?_
  refine T.region ?_
  refine T.pv (PV.fieldAddr rfl) Wanted.none rfl rfl ?_
  refine T.pv (PV.load1 rfl (by first | exact .fro (by assumption) | exact .own (by repeat (first | exact List.Mem.head _ | apply List.Mem.tail | apply List.mem_append_right))) rfl) Wanted.none rfl rfl ?_
  refine T.pv (PV.fieldAddr rfl) Wanted.none rfl rfl ?_
  refine T.pv (PV.load1 rfl (by first | exact .fro (by assumption) | exact .own (by repeat (first | exact List.Mem.head _ | apply List.Mem.tail | apply List.mem_append_right))) rfl) Wanted.none rfl rfl ?_
  refine T.pv (PV.leq rfl rfl) Wanted.none rfl rfl ?_
  refine T.pv (PV.move rfl) Wanted.none rfl rfl ?_
  refine T.splitD (d := 10) rfl (fun h0 => ?_) (fun h0 => ?_)
  · refine T.pv (PV.fieldAddr rfl) (Wanted.guard rfl rfl rfl) rfl rfl ?_
    refine T.pv (PV.load1 rfl (by first | exact .fro (by assumption) | exact .own (by repeat (first | exact List.Mem.head _ | apply List.Mem.tail | apply List.mem_append_right))) rfl) (Wanted.guard rfl rfl rfl) rfl rfl ?_
    refine T.pv (PV.fieldAddr rfl) (Wanted.guard rfl rfl rfl) rfl rfl ?_
    refine T.pv (PV.load1 rfl (by first | exact .fro (by assumption) | exact .own (by repeat (first | exact List.Mem.head _ | apply List.Mem.tail | apply List.mem_append_right))) rfl) (Wanted.guard rfl rfl rfl) rfl rfl ?_
    refine T.pv (PV.leq rfl rfl) (Wanted.guard rfl rfl rfl) rfl rfl ?_
    refine T.pv (PV.pickT rfl rfl rfl) Wanted.none rfl rfl ?_
    refine T.pv (PV.assign rfl) Wanted.none rfl rfl ?_
    refine T.opsNil ?_
    (first | exact T.retF (Lv.fin (RV.tmp rfl rfl) (boolV (by omega))) | exact T.retF (Lv.fin (RV.tmp rfl rfl) (boolF (by omega))) | exact T.retF (Lv.fin (RV.tmp rfl rfl) (boolT (by omega))))
  · refine T.pass (Unwanted.guard rfl rfl rfl) rfl rfl ?_
    refine T.pass (Unwanted.guard rfl rfl rfl) rfl rfl ?_
    refine T.pass (Unwanted.guard rfl rfl rfl) rfl rfl ?_
    refine T.pass (Unwanted.guard rfl rfl rfl) rfl rfl ?_
    refine T.pass (Unwanted.guard rfl rfl rfl) rfl rfl ?_
    refine T.pv (PV.pickF rfl rfl rfl) Wanted.none rfl rfl ?_
    refine T.pv (PV.assign rfl) Wanted.none rfl rfl ?_
    refine T.opsNil ?_
    (first | exact T.retF (Lv.fin (RV.tmp rfl rfl) (boolV (by omega))) | exact T.retF (Lv.fin (RV.tmp rfl rfl) (boolF (by omega))) | exact T.retF (Lv.fin (RV.tmp rfl rfl) (boolT (by omega))))
end Go.Proofs.Ytceaicameojcaaa
