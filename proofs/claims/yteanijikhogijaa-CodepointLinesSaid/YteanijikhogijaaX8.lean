/- codepoint: the reference's units. -/
import Derived.Test.YteanijikhogijaaX7
namespace Go.Proofs.Yteanijikhogijaa
open Go.RowKit

def encA (u : U) : List Value := [.int .i32 (u.r : Int), .int .i64 (u.at_ : Int), .int .i64 (u.sz : Int), .bool false]
def encF (u : U) : List Value := [.int .i32 (u.r : Int), .int .i64 (u.at_ : Int), .int .i64 (u.sz : Int), .bool (okU u)]
def encZ (r a : Nat) : List Value := [.int .i32 (r : Int), .int .i64 (a : Int), .int .i64 0, .bool false]
theorem encA_len (u : U) : (encA u).length = 4 := rfl
theorem encF_len (u : U) : (encF u).length = 4 := rfl
theorem one_encA (u : U) : ∀ v ∈ encA u, v.oneCell' = true := by intro v hv; simp [encA] at hv; rcases hv with rfl | rfl | rfl | rfl <;> rfl
theorem idx_app {pre l : List Value} {m i : Nat} (h : pre.length = m) : (pre ++ l)[m + i]? = l[i]? := by subst h; rw [List.getElem?_append_right (by omega)]; congr 1; omega
theorem set_app {pre l : List Value} {m i : Nat} {v : Value} (h : pre.length = m) : (pre ++ l).set (m + i) v = pre ++ l.set i v := by subst h; rw [List.set_append_right _ _ (by omega)]; congr 2; omega
theorem take_flat {us : List U} {k : Nat} {u : U} (f : U → List Value) (h : us[k]? = some u) : (us.take (k + 1)).flatMap f = (us.take k).flatMap f ++ f u := by rw [List.take_add_one, h]; simp
theorem take_flat_len {us : List U} {k : Nat} (f : U → List Value) (hf : ∀ u, (f u).length = 4) (h : k ≤ us.length) : ((us.take k).flatMap f).length = k * 4 := by rw [flat_len hf, List.length_take]; congr 1; omega
structure VG where
  n : Nat
  p : Nat
  k : Nat
  v : Value
  lv : List (Nat × Obj)

set_option maxHeartbeats 1000000 in
theorem refUnits_fn (s : ByteArray) (H : Hp) (hs : s.size ≤ 4000) : Fn Try.prog 19 #[.string s] H (fun v H' => SlR H' 4 v (units s).length ((units s).flatMap encF)) := by
  refine Fn.of_T (vs := [.string s]) Try.func19 rfl rfl fun w => ?_
  refine T.seq ?_
  refine T.region ?_
  refine T.pv (PV.assign rfl) Wanted.none rfl rfl ?_
  refine T.opsNil ?_
  refine T.seq ?_
  refine T.region ?_
  refine T.pv (PV.assign rfl) Wanted.none rfl rfl ?_
  refine T.opsNil ?_
  refine T.seq ?_
  refine T.seq ?_
  refine T.region ?_
  refine T.pv (PV.move rfl) Wanted.none rfl rfl ?_
  (refine T.rangeStr Wanted.none rfl rfl ?_; intro b8)
  refine T.opsNil ?_
  refine T.block ?_
  have hul := units_len s
  refine T.loop (γ := VG) (fun g => s.size ≤ g.p + g.n ∧ g.p ≤ s.size ∧ g.k ≤ (units s).length ∧
      ((g.k = 0 ∧ g.p = 0 ∧ units s = unitsFrom s g.n 0 ∧ Vec 41 4 g.v g.lv 0 []) ∨ ∃ k r a : Nat, g.k = k + 1 ∧ a ≤ g.p ∧ (units s).drop k = ⟨r, a, g.p - a⟩ :: unitsFrom s g.n g.p ∧ Vec 41 4 g.v g.lv (k + 1) (((units s).take k).flatMap encA ++ encZ r a)))
    (fun g => [(0, .string s), (3, g.v), (8, .pointer (some ⟨b8, 0, none⟩))])
    (fun g => (b8, .stringIter s g.p) :: g.lv) (fun _ => H) (fun g => g.n) ⟨s.size, 0, 0, .slice none 0 0, []⟩ ⟨by simp, by simp, by simp, .inl ⟨rfl, rfl, rfl, Vec.nil _ _⟩⟩ (by repeat (first | exact trivial | refine And.intro rfl ?_)) (by repeat (first | exact List.Sublist.slnil | exact List.nil_sublist _ | exact List.Sublist.refl _ | exact List.sublist_append_left _ [] | apply List.Sublist.cons_cons | apply List.Sublist.cons | refine List.Sublist.append_left ?_ _)) rfl ?_
  rintro ⟨n, p, k, v, lv⟩ ⟨h1, h2, h3, h4⟩
  dsimp only at h1 h2 h3 h4 ⊢
  refine T.seq ?_
  refine T.region ?_
  by_cases hp : p < s.size
  · obtain ⟨d1, d2, d3⟩ := decode_width s p hp
    obtain ⟨rr, wd, hd⟩ : ∃ r wd, Utf8.decode s p = (r, wd) := ⟨_, _, rfl⟩
    rw [hd] at d1 d2 d3
    dsimp only at d1 d2 d3
    obtain ⟨n, rfl⟩ : ∃ m, n = m + 1 := ⟨n - 1, by omega⟩
    refine T.nextStr (by first | exact Wanted.none | exact Wanted.guard rfl rfl (by first | rfl | assumption)) rfl rfl (by assumption) (by assumption) (by repeat (first | exact Upd.head | apply Upd.tail | apply Upd.app)) ?_
    rcases h4 with ⟨rfl, rfl, h5, hv⟩ | ⟨k, r, a, rfl, ha, h5, hv⟩
    · obtain ⟨ad, cap, rfl⟩ := hv.val
      refine T.pv (PV.extract rfl rfl) Wanted.none rfl rfl ?_
      refine T.opsNil ?_
      refine T.seq ?_
      refine T.condT rfl rfl ?_
      refine T.skip ?_
      refine T.block ?_
      refine T.seq ?_
      refine T.region ?_
      refine T.pv (PV.extract rfl rfl) Wanted.none rfl rfl ?_
      refine T.pv (PV.extract rfl rfl) Wanted.none rfl rfl ?_
      refine T.pv (PV.assign rfl) Wanted.none rfl rfl ?_
      refine T.pv (PV.assign rfl) Wanted.none rfl rfl ?_
      refine T.opsNil ?_
      refine T.seq ?_
      refine T.seq ?_
      refine T.region ?_
      refine T.pv (PV.move rfl) Wanted.none rfl rfl ?_
      refine T.pv (PV.lenSl rfl) Wanted.none rfl rfl ?_
      refine T.pv (PV.gtr rfl rfl) Wanted.none rfl rfl ?_
      refine T.opsNil ?_
      refine T.condF rfl rfl ?_
      refine T.skip ?_
      refine T.region ?_
      refine T.pv (PV.move rfl) Wanted.none rfl rfl ?_
      refine T.pv (PV.move rfl) Wanted.none rfl rfl ?_
      refine T.pv (PV.move rfl) Wanted.none rfl rfl ?_
      refine T.pv (PV.build rfl (by repeat (first | exact FillR.nil | (apply FillR.cons rfl; (first | exact CellsR.one rfl | exact CellsR.agg); rfl; repeat (first | exact Splice.nil | apply Splice.cons | apply Splice.skip))))) Wanted.none rfl rfl ?_
      (refine T.buildSlice Wanted.none rfl rfl (by repeat (first | exact FillAll.nil | (apply FillAll.cons; (first | exact CellsR.one rfl | exact CellsR.agg); exact rfl))) (by exact rfl) (by exact rfl) ?_; intro b35)
      refine T.appendE [_, _] Wanted.none rfl rfl rfl hv (Src.cells (m := 1) (ys := encZ rr 0) (.own (by repeat (first | exact List.Mem.head _ | apply List.Mem.tail | apply List.mem_append_right))) rfl rfl) (fun v hv => one_encA ⟨rr, 0, 0⟩ v (by simpa [encA, encZ] using hv)) (by omega) ?_
      intro v' lv' hv' hnil
      refine T.pv (PV.assign rfl) Wanted.none rfl rfl ?_
      refine T.opsNil ?_
      refine T.blkEnd ?_
      refine T.next ⟨n, 0 + wd, 1, v', lv'⟩ ⟨by dsimp only; omega, by dsimp only; omega, ?_, .inr ⟨0, rr, 0, rfl, by dsimp only; omega, ?_, ?_⟩⟩ (by dsimp only; omega) (by repeat (first | exact trivial | refine And.intro rfl ?_)) (by repeat (first | exact List.Sublist.slnil | exact List.nil_sublist _ | exact List.Sublist.refl _ | exact List.sublist_append_left _ [] | apply List.Sublist.cons_cons | apply List.Sublist.cons | refine List.Sublist.append_left ?_ _)) rfl
      · dsimp only; rw [h5, unitsFrom, if_pos hp]; simp
      · dsimp only; rw [h5, unitsFrom, if_pos hp, hd]; simp
      · simpa using hv'
    · obtain ⟨b, cap, rfl⟩ := hv.ptr (by omega)
      have hk : (units s)[k]? = some ⟨r, a, p - a⟩ := by have := congrArg (fun l => l[0]?) h5; simpa using this
      have hpl := take_flat_len (k := k) (us := units s) encA encA_len (by omega)
      have hld : (((units s).take k).flatMap encA ++ encZ r a)[0 + (((k + 1 : Nat) : Int) - 1).toNat * 4 + 1]? = some (.int .i64 a) := by
        rw [show 0 + (((k + 1 : Nat) : Int) - 1).toNat * 4 + 1 = k * 4 + 1 by omega, idx_app hpl]; rfl
      refine T.pv (PV.extract rfl rfl) Wanted.none rfl rfl ?_
      refine T.opsNil ?_
      refine T.seq ?_
      refine T.condT rfl rfl ?_
      refine T.skip ?_
      refine T.block ?_
      refine T.seq ?_
      refine T.region ?_
      refine T.pv (PV.extract rfl rfl) Wanted.none rfl rfl ?_
      refine T.pv (PV.extract rfl rfl) Wanted.none rfl rfl ?_
      refine T.pv (PV.assign rfl) Wanted.none rfl rfl ?_
      refine T.pv (PV.assign rfl) Wanted.none rfl rfl ?_
      refine T.opsNil ?_
      refine T.seq ?_
      refine T.seq ?_
      refine T.region ?_
      refine T.pv (PV.move rfl) Wanted.none rfl rfl ?_
      refine T.pv (PV.lenSl rfl) Wanted.none rfl rfl ?_
      refine T.pv (PV.gtr rfl rfl) Wanted.none rfl rfl ?_
      refine T.opsNil ?_
      refine T.condT rfl (decide_eq_true (by omega)) ?_
      refine T.region ?_
      refine T.pv (PV.move rfl) Wanted.none rfl rfl ?_
      refine T.pv (PV.move rfl) Wanted.none rfl rfl ?_
      refine T.pv (PV.lenSl rfl) Wanted.none rfl rfl ?_
      refine T.pv (PV.sub rfl rfl (by omega)) Wanted.none rfl rfl ?_
      refine T.pv (PV.move rfl) Wanted.none rfl rfl ?_
      refine T.pv (PV.move rfl) Wanted.none rfl rfl ?_
      refine T.pv (PV.move rfl) Wanted.none rfl rfl ?_
      refine T.pv (PV.lenSl rfl) Wanted.none rfl rfl ?_
      refine T.pv (PV.sub rfl rfl (by omega)) Wanted.none rfl rfl ?_
      refine T.pv (PV.indexAddr rfl rfl (by omega)) Wanted.none rfl rfl ?_
      refine T.pv (PV.fieldAddr rfl) Wanted.none rfl rfl ?_
      refine T.pv (PV.loadVec rfl (by assumption) (by repeat (first | exact List.Sublist.slnil | exact List.nil_sublist _ | exact List.Sublist.refl _ | exact List.sublist_append_left _ [] | apply List.Sublist.cons_cons | apply List.Sublist.cons | refine List.Sublist.append_left ?_ _)) (by assumption)) Wanted.none rfl rfl ?_
      refine T.pv (PV.sub rfl rfl (by omega)) Wanted.none rfl rfl ?_
      refine T.pv (PV.indexAddr rfl rfl (by omega)) Wanted.none rfl rfl ?_
      refine T.pv (PV.fieldAddr rfl) Wanted.none rfl rfl ?_
      refine T.storeVecE [_] Wanted.none rfl rfl rfl hv (by rw [List.length_append, hpl]; simp [encZ] <;> omega) ?_
      intro lv1 hv1
      rw [show 0 + (((k + 1 : Nat) : Int) - 1).toNat * 4 + 2 = k * 4 + 2 by omega, set_app hpl] at hv1
      have hx1 : ((units s).take k).flatMap encA ++ (encZ r a).set 2 (.int .i64 ((p : Int) - a)) = ((units s).take (k + 1)).flatMap encA := by
        rw [take_flat encA hk]
        have : ((p - a : Nat) : Int) = (p : Int) - a := by omega
        simp [encZ, encA, this]
      rw [hx1] at hv1
      refine T.opsNil ?_
      refine T.region ?_
      refine T.pv (PV.move rfl) Wanted.none rfl rfl ?_
      refine T.pv (PV.move rfl) Wanted.none rfl rfl ?_
      refine T.pv (PV.move rfl) Wanted.none rfl rfl ?_
      refine T.pv (PV.build rfl (by repeat (first | exact FillR.nil | (apply FillR.cons rfl; (first | exact CellsR.one rfl | exact CellsR.agg); rfl; repeat (first | exact Splice.nil | apply Splice.cons | apply Splice.skip))))) Wanted.none rfl rfl ?_
      (refine T.buildSlice Wanted.none rfl rfl (by repeat (first | exact FillAll.nil | (apply FillAll.cons; (first | exact CellsR.one rfl | exact CellsR.agg); exact rfl))) (by exact rfl) (by exact rfl) ?_; intro b35)
      refine T.appendE [_, _] Wanted.none rfl rfl rfl hv1 (Src.cells (m := 1) (ys := encZ rr p) (.own (by repeat (first | exact List.Mem.head _ | apply List.Mem.tail | apply List.mem_append_right))) rfl rfl) (fun v hv => one_encA ⟨rr, p, 0⟩ v (by simpa [encA, encZ] using hv)) (by omega) ?_
      intro v' lv' hv' hnil
      refine T.pv (PV.assign rfl) Wanted.none rfl rfl ?_
      refine T.opsNil ?_
      refine T.blkEnd ?_
      have h8 : (units s).drop (k + 1) = unitsFrom s (n + 1) p := by rw [← List.drop_drop, h5]; rfl
      have h9 : (units s).drop (k + 1) = ⟨rr, p, wd⟩ :: unitsFrom s n (p + wd) := by rw [h8, unitsFrom, if_pos hp, hd]
      have h10 : (units s)[k + 1]? = some ⟨rr, p, wd⟩ := by have := congrArg (fun l => l[0]?) h9; simpa using this
      have h11 := (List.getElem?_eq_some_iff.1 h10).1
      refine T.next ⟨n, p + wd, k + 1 + 1, v', lv'⟩ ⟨by dsimp only; omega, by dsimp only; omega, by dsimp only; omega, .inr ⟨k + 1, rr, p, rfl, by dsimp only; omega, ?_, ?_⟩⟩ (by dsimp only; omega) (by repeat (first | exact trivial | refine And.intro rfl ?_)) (by repeat (first | exact List.Sublist.slnil | exact List.nil_sublist _ | exact List.Sublist.refl _ | exact List.sublist_append_left _ [] | apply List.Sublist.cons_cons | apply List.Sublist.cons | refine List.Sublist.append_left ?_ _)) rfl
      · dsimp only; rw [h9, Nat.add_sub_cancel_left]
      · exact hv'
  · refine T.nextStrEnd (by first | exact Wanted.none | exact Wanted.guard rfl rfl (by first | rfl | assumption)) rfl rfl (by repeat (first | exact List.Mem.head _ | apply List.Mem.tail | apply List.mem_append_right)) (by omega) ?_
    rcases h4 with ⟨rfl, rfl, h5, hv⟩ | ⟨k, r, a, rfl, ha, h5, hv⟩
    · obtain ⟨ad, cap, rfl⟩ := hv.val
      have h0 : units s = [] := by rw [h5]; cases n <;> simp [unitsFrom, hp]
      refine T.pv (PV.extract rfl rfl) Wanted.none rfl rfl ?_
      refine T.opsNil ?_
      refine T.seq ?_
      refine T.condF rfl rfl ?_
      refine T.exit rfl ?_
      refine T.seq ?_
      refine T.seq ?_
      refine T.region ?_
      refine T.pv (PV.move rfl) Wanted.none rfl rfl ?_
      refine T.pv (PV.lenSl rfl) Wanted.none rfl rfl ?_
      refine T.pv (PV.gtr rfl rfl) Wanted.none rfl rfl ?_
      refine T.opsNil ?_
      refine T.condF rfl rfl ?_
      refine T.skip ?_
      refine T.seq ?_
      refine T.seq ?_
      refine T.region ?_
      refine T.pv (PV.move rfl) Wanted.none rfl rfl ?_
      refine T.pv (PV.lenSl rfl) Wanted.none rfl rfl ?_
      refine T.pv (PV.move rfl) Wanted.none rfl rfl ?_
      refine T.opsNil ?_
      refine T.block ?_
      refine T.loop (γ := Unit) (fun _ => True) (fun _ => [(57, .int .i64 0), (58, .int .i64 0), (3, .slice ad 0 cap)]) (fun _ => lv) (fun _ => H) (fun _ => 0) () trivial (by repeat (first | exact trivial | refine And.intro rfl ?_)) (by repeat (first | exact List.Sublist.slnil | exact List.nil_sublist _ | exact List.Sublist.refl _ | exact List.sublist_append_left _ [] | apply List.Sublist.cons_cons | apply List.Sublist.cons | refine List.Sublist.append_left ?_ _)) rfl ?_
      intro _ _
      refine T.seq ?_
      refine T.region ?_
      refine T.pv (PV.lss rfl rfl) Wanted.none rfl rfl ?_
      refine T.opsNil ?_
      refine T.seq ?_
      refine T.condF rfl rfl ?_
      refine T.exit rfl ?_
      refine T.seq ?_
      refine T.region ?_
      refine T.pv (PV.move rfl) Wanted.none rfl rfl ?_
      refine T.pv (PV.assign rfl) Wanted.none rfl rfl ?_
      refine T.opsNil ?_
      rw [h0]
      exact T.retF (Vec.freezeLv (l' := []) hv (by rw [List.append_nil]; exact (by repeat (first | exact List.Sublist.slnil | exact List.nil_sublist _ | exact List.Sublist.refl _ | exact List.sublist_append_left _ [] | apply List.Sublist.cons_cons | apply List.Sublist.cons | refine List.Sublist.append_left ?_ _))) fun H' _ hsl => Lv.fin (RV.tmp rfl rfl) hsl)
    · obtain ⟨b, cap, rfl⟩ := hv.ptr (by omega)
      have hp0 : p = s.size := by omega
      have h8 : unitsFrom s n p = [] := by cases n <;> simp [unitsFrom, hp]
      rw [h8] at h5
      have hk : (units s)[k]? = some ⟨r, a, p - a⟩ := by have := congrArg (fun l => l[0]?) h5; simpa using this
      have hlen : (units s).length = k + 1 := by
        have := congrArg List.length h5
        simp at this
        have h9 := (List.getElem?_eq_some_iff.1 hk).1
        omega
      have hpl := take_flat_len (k := k) (us := units s) encA encA_len (by omega)
      have hld : (((units s).take k).flatMap encA ++ encZ r a)[0 + (((k + 1 : Nat) : Int) - 1).toNat * 4 + 1]? = some (.int .i64 a) := by
        rw [show 0 + (((k + 1 : Nat) : Int) - 1).toNat * 4 + 1 = k * 4 + 1 by omega, idx_app hpl]; rfl
      refine T.pv (PV.extract rfl rfl) Wanted.none rfl rfl ?_
      refine T.opsNil ?_
      refine T.seq ?_
      refine T.condF rfl rfl ?_
      refine T.exit rfl ?_
      refine T.seq ?_
      refine T.seq ?_
      refine T.region ?_
      refine T.pv (PV.move rfl) Wanted.none rfl rfl ?_
      refine T.pv (PV.lenSl rfl) Wanted.none rfl rfl ?_
      refine T.pv (PV.gtr rfl rfl) Wanted.none rfl rfl ?_
      refine T.opsNil ?_
      refine T.condT rfl (decide_eq_true (by omega)) ?_
      refine T.region ?_
      refine T.pv (PV.move rfl) Wanted.none rfl rfl ?_
      refine T.pv (PV.move rfl) Wanted.none rfl rfl ?_
      refine T.pv (PV.lenSl rfl) Wanted.none rfl rfl ?_
      refine T.pv (PV.sub rfl rfl (by omega)) Wanted.none rfl rfl ?_
      refine T.pv (PV.move rfl) Wanted.none rfl rfl ?_
      refine T.pv (PV.lenStr rfl) Wanted.none rfl rfl ?_
      refine T.pv (PV.move rfl) Wanted.none rfl rfl ?_
      refine T.pv (PV.move rfl) Wanted.none rfl rfl ?_
      refine T.pv (PV.lenSl rfl) Wanted.none rfl rfl ?_
      refine T.pv (PV.sub rfl rfl (by omega)) Wanted.none rfl rfl ?_
      refine T.pv (PV.indexAddr rfl rfl (by omega)) Wanted.none rfl rfl ?_
      refine T.pv (PV.fieldAddr rfl) Wanted.none rfl rfl ?_
      refine T.pv (PV.loadVec rfl (by assumption) (by repeat (first | exact List.Sublist.slnil | exact List.nil_sublist _ | exact List.Sublist.refl _ | exact List.sublist_append_left _ [] | apply List.Sublist.cons_cons | apply List.Sublist.cons | refine List.Sublist.append_left ?_ _)) (by assumption)) Wanted.none rfl rfl ?_
      refine T.pv (PV.sub rfl rfl (by omega)) Wanted.none rfl rfl ?_
      refine T.pv (PV.indexAddr rfl rfl (by omega)) Wanted.none rfl rfl ?_
      refine T.pv (PV.fieldAddr rfl) Wanted.none rfl rfl ?_
      refine T.storeVecE [_] Wanted.none rfl rfl rfl hv (by rw [List.length_append, hpl]; simp [encZ] <;> omega) ?_
      intro lv1 hv1
      rw [show 0 + (((k + 1 : Nat) : Int) - 1).toNat * 4 + 2 = k * 4 + 2 by omega, set_app hpl] at hv1
      have hx1 : ((units s).take k).flatMap encA ++ (encZ r a).set 2 (.int .i64 ((s.size : Int) - a)) = (units s).flatMap encA := by
        have h9 : (units s).take (k + 1) = units s := List.take_of_length_le (by omega)
        have := take_flat encA hk
        rw [h9] at this
        rw [this]
        have : ((p - a : Nat) : Int) = (s.size : Int) - a := by omega
        simp [encZ, encA, this]
      rw [hx1] at hv1
      refine T.opsNil ?_
      refine T.seq ?_
      refine T.seq ?_
      refine T.region ?_
      refine T.pv (PV.move rfl) Wanted.none rfl rfl ?_
      refine T.pv (PV.lenSl rfl) Wanted.none rfl rfl ?_
      refine T.pv (PV.move rfl) Wanted.none rfl rfl ?_
      refine T.opsNil ?_
      refine T.block ?_
      refine T.loop (γ := Nat × List (Nat × Obj)) (fun g => g.1 ≤ k + 1 ∧ Vec 41 4 (.slice (some ⟨b, 0, none⟩) (k + 1) cap) g.2 (k + 1) (((units s).take g.1).flatMap encF ++ ((units s).drop g.1).flatMap encA))
        (fun g => [(57, .int .i64 ((k + 1 : Nat) : Int)), (58, .int .i64 (g.1 : Int)), (3, .slice (some ⟨b, 0, none⟩) (k + 1) cap)]) (fun g => g.2) (fun _ => H) (fun g => k + 1 - g.1) (0, lv1) ⟨by simp, by simpa using hv1⟩ (by repeat (first | exact trivial | refine And.intro rfl ?_)) (by repeat (first | exact List.Sublist.slnil | exact List.nil_sublist _ | exact List.Sublist.refl _ | exact List.sublist_append_left _ [] | apply List.Sublist.cons_cons | apply List.Sublist.cons | refine List.Sublist.append_left ?_ _)) rfl ?_
      rintro ⟨i, lv⟩ ⟨g1, g2⟩
      dsimp only at g1 g2 ⊢
      by_cases hi : i < k + 1
      · obtain ⟨x, hx⟩ : ∃ x, (units s)[i]? = some x := ⟨_, List.getElem?_eq_getElem (by omega)⟩
        have hfl := take_flat_len (k := i) (us := units s) encF encF_len (by omega)
        have hdr : (units s).drop i = x :: (units s).drop (i + 1) := by
          rw [List.drop_eq_getElem_cons (by omega), (List.getElem?_eq_some_iff.1 hx).2]
        rw [hdr, List.flatMap_cons] at g2
        have hi1 : ∀ f, 0 + ((i : Nat) : Int).toNat * 4 + f = i * 4 + f := fun f => by omega
        have hl0 : (((units s).take i).flatMap encF ++ (encA x ++ ((units s).drop (i + 1)).flatMap encA))[0 + ((i : Nat) : Int).toNat * 4 + 0]? = some (.int .i32 x.r) := by rw [hi1, idx_app hfl]; rfl
        have hl2 : (((units s).take i).flatMap encF ++ (encA x ++ ((units s).drop (i + 1)).flatMap encA))[0 + ((i : Nat) : Int).toNat * 4 + 2]? = some (.int .i64 x.sz) := by rw [hi1, idx_app hfl]; rfl
        have hset : ∀ v : Value, v = .bool (okU x) → (((units s).take i).flatMap encF ++ (encA x ++ ((units s).drop (i + 1)).flatMap encA)).set (0 + ((i : Nat) : Int).toNat * 4 + 3) v = ((units s).take (i + 1)).flatMap encF ++ ((units s).drop (i + 1)).flatMap encA := by
          rintro v rfl
          rw [hi1, set_app hfl, take_flat encF hx]
          simp [encA, encF]
        have hlen4 : (0 + ((i : Nat) : Int).toNat * 4 + 3) < (((units s).take i).flatMap encF ++ (encA x ++ ((units s).drop (i + 1)).flatMap encA)).length := by
          rw [hi1, List.length_append, List.length_append, hfl, encA_len]; omega
        by_cases hr : x.r = 65533
        · have hr1 : decide ((x.r : Int) ≠ 65533) = false := by simp [hr]
          refine T.seq ?_
          refine T.region ?_
          refine T.pv (PV.lss rfl rfl) Wanted.none rfl rfl ?_
          refine T.opsNil ?_
          refine T.seq ?_
          refine T.condT rfl (decide_eq_true (by omega)) ?_
          refine T.skip ?_
          refine T.seq ?_
          refine T.block ?_
          refine T.seq ?_
          refine T.region ?_
          refine T.pv (PV.move rfl) Wanted.none rfl rfl ?_
          refine T.pv (PV.assign rfl) Wanted.none rfl rfl ?_
          refine T.opsNil ?_
          refine T.region ?_
          refine T.pv (PV.move rfl) Wanted.none rfl rfl ?_
          refine T.pv (PV.move rfl) Wanted.none rfl rfl ?_
          refine T.pv (PV.move rfl) Wanted.none rfl rfl ?_
          refine T.pv (PV.move rfl) Wanted.none rfl rfl ?_
          refine T.pv (PV.indexAddr rfl rfl (by omega)) Wanted.none rfl rfl ?_
          refine T.pv (PV.fieldAddr rfl) Wanted.none rfl rfl ?_
          refine T.pv (PV.loadVec rfl (by assumption) (by repeat (first | exact List.Sublist.slnil | exact List.nil_sublist _ | exact List.Sublist.refl _ | exact List.sublist_append_left _ [] | apply List.Sublist.cons_cons | apply List.Sublist.cons | refine List.Sublist.append_left ?_ _)) (by assumption)) Wanted.none rfl rfl ?_
          refine T.pv (PV.neq rfl rfl) Wanted.none rfl rfl ?_
          refine T.pv (PV.move rfl) Wanted.none rfl rfl ?_
          refine T.pv (PV.move rfl) (Wanted.guard rfl rfl (by assumption)) rfl rfl ?_
          refine T.pv (PV.move rfl) (Wanted.guard rfl rfl (by assumption)) rfl rfl ?_
          refine T.pv (PV.indexAddr rfl rfl (by omega)) (Wanted.guard rfl rfl (by assumption)) rfl rfl ?_
          refine T.pv (PV.fieldAddr rfl) (Wanted.guard rfl rfl (by assumption)) rfl rfl ?_
          refine T.pv (PV.loadVec rfl (by assumption) (by repeat (first | exact List.Sublist.slnil | exact List.nil_sublist _ | exact List.Sublist.refl _ | exact List.sublist_append_left _ [] | apply List.Sublist.cons_cons | apply List.Sublist.cons | refine List.Sublist.append_left ?_ _)) (by assumption)) (Wanted.guard rfl rfl (by assumption)) rfl rfl ?_
          refine T.pv (PV.eql rfl rfl) (Wanted.guard rfl rfl (by assumption)) rfl rfl ?_
          refine T.pv (PV.pickF rfl (by assumption) rfl) Wanted.none rfl rfl ?_
          refine T.pv (PV.indexAddr rfl rfl (by omega)) Wanted.none rfl rfl ?_
          refine T.pv (PV.fieldAddr rfl) Wanted.none rfl rfl ?_
          refine T.storeVecE [] Wanted.none rfl rfl rfl g2 hlen4 ?_
          intro lv2 hv2
          rw [hset _ (by simp only [okU, hr]; rw [Value.bool.injEq]; simp; omega)] at hv2
          refine T.opsNil ?_
          refine T.blkEnd ?_
          refine T.region ?_
          refine T.pv (PV.add rfl rfl (by omega)) Wanted.none rfl rfl ?_
          refine T.pv (PV.move rfl) Wanted.none rfl rfl ?_
          refine T.opsNil ?_
          refine T.next (i + 1, lv2) ⟨by dsimp only; omega, hv2⟩ (by dsimp only; omega) (by repeat (first | exact trivial | refine And.intro rfl ?_)) (by repeat (first | exact List.Sublist.slnil | exact List.nil_sublist _ | exact List.Sublist.refl _ | exact List.sublist_append_left _ [] | apply List.Sublist.cons_cons | apply List.Sublist.cons | refine List.Sublist.append_left ?_ _)) rfl
        · have hr1 : decide ((x.r : Int) ≠ 65533) = true := by simp; omega
          refine T.seq ?_
          refine T.region ?_
          refine T.pv (PV.lss rfl rfl) Wanted.none rfl rfl ?_
          refine T.opsNil ?_
          refine T.seq ?_
          refine T.condT rfl (decide_eq_true (by omega)) ?_
          refine T.skip ?_
          refine T.seq ?_
          refine T.block ?_
          refine T.seq ?_
          refine T.region ?_
          refine T.pv (PV.move rfl) Wanted.none rfl rfl ?_
          refine T.pv (PV.assign rfl) Wanted.none rfl rfl ?_
          refine T.opsNil ?_
          refine T.region ?_
          refine T.pv (PV.move rfl) Wanted.none rfl rfl ?_
          refine T.pv (PV.move rfl) Wanted.none rfl rfl ?_
          refine T.pv (PV.move rfl) Wanted.none rfl rfl ?_
          refine T.pv (PV.move rfl) Wanted.none rfl rfl ?_
          refine T.pv (PV.indexAddr rfl rfl (by omega)) Wanted.none rfl rfl ?_
          refine T.pv (PV.fieldAddr rfl) Wanted.none rfl rfl ?_
          refine T.pv (PV.loadVec rfl (by assumption) (by repeat (first | exact List.Sublist.slnil | exact List.nil_sublist _ | exact List.Sublist.refl _ | exact List.sublist_append_left _ [] | apply List.Sublist.cons_cons | apply List.Sublist.cons | refine List.Sublist.append_left ?_ _)) (by assumption)) Wanted.none rfl rfl ?_
          refine T.pv (PV.neq rfl rfl) Wanted.none rfl rfl ?_
          refine T.pv (PV.move rfl) Wanted.none rfl rfl ?_
          refine T.pass (Unwanted.guard rfl rfl (by assumption)) rfl rfl ?_
          refine T.pass (Unwanted.guard rfl rfl (by assumption)) rfl rfl ?_
          refine T.pass (Unwanted.guard rfl rfl (by assumption)) rfl rfl ?_
          refine T.pass (Unwanted.guard rfl rfl (by assumption)) rfl rfl ?_
          refine T.pass (Unwanted.guard rfl rfl (by assumption)) rfl rfl ?_
          refine T.pass (Unwanted.guard rfl rfl (by assumption)) rfl rfl ?_
          refine T.pv (PV.pickT rfl (by assumption) rfl) Wanted.none rfl rfl ?_
          refine T.pv (PV.indexAddr rfl rfl (by omega)) Wanted.none rfl rfl ?_
          refine T.pv (PV.fieldAddr rfl) Wanted.none rfl rfl ?_
          refine T.storeVecE [] Wanted.none rfl rfl rfl g2 hlen4 ?_
          intro lv2 hv2
          rw [hset _ (by simp [okU, hr])] at hv2
          refine T.opsNil ?_
          refine T.blkEnd ?_
          refine T.region ?_
          refine T.pv (PV.add rfl rfl (by omega)) Wanted.none rfl rfl ?_
          refine T.pv (PV.move rfl) Wanted.none rfl rfl ?_
          refine T.opsNil ?_
          refine T.next (i + 1, lv2) ⟨by dsimp only; omega, hv2⟩ (by dsimp only; omega) (by repeat (first | exact trivial | refine And.intro rfl ?_)) (by repeat (first | exact List.Sublist.slnil | exact List.nil_sublist _ | exact List.Sublist.refl _ | exact List.sublist_append_left _ [] | apply List.Sublist.cons_cons | apply List.Sublist.cons | refine List.Sublist.append_left ?_ _)) rfl
      · obtain rfl : i = k + 1 := by omega
        rw [List.take_of_length_le (by omega), List.drop_of_length_le (by omega), List.flatMap_nil, List.append_nil] at g2
        refine T.seq ?_
        refine T.region ?_
        refine T.pv (PV.lss rfl rfl) Wanted.none rfl rfl ?_
        refine T.opsNil ?_
        refine T.seq ?_
        refine T.condF rfl (decide_eq_false (by omega)) ?_
        refine T.exit rfl ?_
        refine T.seq ?_
        refine T.region ?_
        refine T.pv (PV.move rfl) Wanted.none rfl rfl ?_
        refine T.pv (PV.assign rfl) Wanted.none rfl rfl ?_
        refine T.opsNil ?_
        rw [hlen]
        exact T.retF (Vec.freezeLv (l' := []) g2 (by rw [List.append_nil]; exact (by repeat (first | exact List.Sublist.slnil | exact List.nil_sublist _ | exact List.Sublist.refl _ | exact List.sublist_append_left _ [] | apply List.Sublist.cons_cons | apply List.Sublist.cons | refine List.Sublist.append_left ?_ _))) fun H' _ hsl => Lv.fin (RV.tmp rfl rfl) hsl)

end Go.Proofs.Yteanijikhogijaa
