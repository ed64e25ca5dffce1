/- table: sum: what it keeps; sorting rows.
   table: sum: the program. -/
import Derived.Test.YthacphfjchpoaaaGreatDoorGF
namespace Go.Proofs.YthacphfjchpoaaaGreatDoor
open Go.RowKit

/-! ### the map from keys to places -/
def idxM (R : List Rw) : List (ByteArray × Value) := R.zipIdx.map fun p => (joinB p.1.ks, Value.int .i64 (p.2 : Int))
theorem idxM_snoc (R : List Rw) (r : Rw) : idxM (R ++ [r]) = idxM R ++ [(joinB r.ks, .int .i64 (R.length : Int))] := by
  unfold idxM
  rw [List.zipIdx_append, List.map_append]
  simp
theorem look_idx (k : List ByteArray) : ∀ R : List Rw, ((∀ r ∈ R, r.ks ≠ k) ∧ lookS (idxM R) (joinB k) = none) ∨ ∃ (j : Nat) (y : Rw), R[j]? = some y ∧ y.ks = k ∧ lookS (idxM R) (joinB k) = some (.int .i64 (j : Int)) := by
  refine snocInd (.inl ⟨by simp, rfl⟩) fun R r ih => ?_
  rw [idxM_snoc, lookS_snoc]
  rcases ih with ⟨h1, h2⟩ | ⟨j, y, h1, h2, h3⟩
  · rw [h2]
    by_cases he : r.ks = k
    · refine .inr ⟨R.length, r, by simp, he, ?_⟩
      dsimp only
      rw [if_pos (by rw [he])]
    · refine .inl ⟨fun x hx => ?_, ?_⟩
      · rcases List.mem_append.1 hx with hx | hx
        · exact h1 x hx
        · rw [List.mem_singleton] at hx; subst hx; exact he
      · dsimp only
        rw [if_neg (fun h => he (joinB_inj h))]
  · refine .inr ⟨j, y, ?_, h2, by rw [h3]⟩
    rw [List.getElem?_append_left (List.getElem?_eq_some_iff.1 h1).1]; exact h1
theorem idxM_keys {R Q : List Rw} (h : R.map (·.ks) = Q.map (·.ks)) : idxM R = idxM Q := by
  unfold idxM
  apply List.ext_getElem?
  intro i
  have hi := congrArg (fun l => l[i]?) h
  simp only [List.getElem?_map, List.getElem?_zipIdx] at hi ⊢
  cases h1 : R[i]? with
  | none =>
    cases h2 : Q[i]? with
    | none => rfl
    | some y => rw [h1, h2] at hi; cases hi
  | some x =>
    cases h2 : Q[i]? with
    | none => rw [h1, h2] at hi; cases hi
    | some y =>
      rw [h1, h2] at hi
      have he : x.ks = y.ks := Option.some.inj hi
      simp only [Option.map_some]
      rw [he]
/-! ### one row more -/
theorem grp_push {l : List RK} {r : RK} (h : ∀ x ∈ grpR l, x.1 ≠ r.1) : grpR (l ++ [r]) = grpR l ++ [r] := by
  have hn : r.1 ∉ dk l := by
    intro hm
    rw [← grpR_keys] at hm
    obtain ⟨x, hx, he⟩ := List.mem_map.1 hm
    exact h x hx he
  have ht : tot l r.1 = 0 := tot_miss (fun h2 => hn ((dk_mem l r.1).2 h2))
  unfold grpR
  rw [dk_snoc, if_neg hn, List.map_append]
  have e1 : (dk l).map (fun k => (k, tot (l ++ [r]) k)) = (dk l).map fun k => (k, tot l k) := by
    refine List.map_congr_left fun k hk => ?_
    have : r.1 ≠ k := fun e => hn (e ▸ hk)
    rw [tot_append, tot_cons, if_neg this]; simp [tot_nil]
  rw [e1]
  congr 1
  rw [List.map_cons, List.map_nil, tot_append, tot_cons, if_pos rfl, ht]
  simp [tot_nil]
theorem grp_at {l : List RK} {j : Nat} {y : RK} (h : (grpR l)[j]? = some y) : y.2 = tot l y.1 := by
  unfold grpR at h
  rw [List.getElem?_map] at h
  cases hd : (dk l)[j]? with
  | none => rw [hd] at h; cases h
  | some k => rw [hd] at h; obtain rfl := Option.some.inj h; rfl
theorem grp_set {l : List RK} {r y : RK} {j : Nat} (h : (grpR l)[j]? = some y) (he : y.1 = r.1) : grpR (l ++ [r]) = (grpR l).set j (r.1, y.2 + r.2) := by
  have hm : r.1 ∈ dk l := by
    rw [← grpR_keys, ← he]
    exact List.mem_map_of_mem (List.mem_of_getElem? h)
  have hjd : (dk l)[j]? = some r.1 := by
    unfold grpR at h
    rw [List.getElem?_map] at h
    cases hd : (dk l)[j]? with
    | none => rw [hd] at h; cases h
    | some k => rw [hd] at h; obtain rfl := Option.some.inj h; rw [← he]
  have hyt := grp_at h
  rw [he] at hyt
  have hjl := (List.getElem?_eq_some_iff.1 hjd).1
  apply List.ext_getElem?
  intro i
  rw [List.getElem?_set]
  unfold grpR
  rw [dk_snoc, if_pos hm, List.getElem?_map, List.getElem?_map, List.length_map]
  by_cases hi : j = i
  · subst hi
    rw [if_pos rfl, if_pos hjl, hjd]
    simp [tot_append, tot_cons, tot_nil, hyt]
  · rw [if_neg hi]
    cases hd : (dk l)[i]? with
    | none => rfl
    | some k =>
      have hk : r.1 ≠ k := by
        intro e
        have hp : (dk l).Pairwise (· ≠ ·) := dk_nodup l
        obtain ⟨l1, e1⟩ := List.getElem?_eq_some_iff.1 hjd
        obtain ⟨l2, e2⟩ := List.getElem?_eq_some_iff.1 hd
        have := List.pairwise_iff_getElem.1 hp
        rcases Nat.lt_trichotomy j i with h3 | h3 | h3
        · exact this j i l1 l2 h3 (by rw [e1, e2, e])
        · exact hi h3
        · exact this i j l2 l1 h3 (by rw [e1, e2, e])
      simp [tot_append, tot_cons, tot_nil, hk]
theorem tot_bound {m : Int} (hm : 0 ≤ m) : ∀ {l : List RK}, (∀ r ∈ l, 0 ≤ r.2 ∧ r.2 ≤ m) → ∀ k, 0 ≤ tot l k ∧ tot l k ≤ l.length * m
  | [], _, k => by simp [tot]
  | a :: l, h, k => by
    have h1 := tot_bound hm (l := l) (fun r hr => h r (List.mem_cons_of_mem _ hr)) k
    have h2 := h a (List.mem_cons_self ..)
    rw [tot_cons, List.length_cons]
    have e : ((l.length + 1 : Nat) : Int) * m = l.length * m + m := by rw [Int.natCast_add, Int.add_mul]; simp
    rw [e]
    split <;> omega
/-! ### a list of strings, copied -/
set_option maxHeartbeats 1000000 in
theorem cloneS_fn (l : List ByteArray) (v : Value) (H : Hp) (hv : StL H v l) (hl : l.length ≤ 1000000) : Fn Tryz.prog 68 #[v] H (fun u H' => StL H' u l) := by
  obtain ⟨ad, cap, rfl⟩ := hv.len
  refine Fn.of_T (vs := [.slice ad l.length cap]) Tryz.func68 rfl rfl fun w => ?_
  cases had : ad with
  | none =>
    subst had
    have hl0 : l = [] := by
      rcases hv.2 with ⟨_, h0⟩ | ⟨b, off, cap, cs, t, fz, h1, _⟩
      · exact List.eq_nil_of_length_eq_zero h0
      · cases h1
    subst hl0
    refine yq25 ?_; refine yq14 ?_; refine sv (PV.slNilR rfl rfl) ?_; refine yq36 ?_; refine yq25 ?_
    exact T.retF (Lv.fin (RV.tmp rfl rfl) (SlR.empty))
  | some a =>
    subst had
    refine yq25 ?_; refine yq14 ?_; refine sv (PV.slNilR rfl rfl) ?_; refine yq92 ?_; refine zs3 ?_; (refine T.buildSlice Wanted.none rfl rfl zq11 (by exact rfl) (by exact rfl) ?_; intro b5); refine sm ?_; refine T.append [] (lv := []) (bl := [_]) Wanted.none rfl rfl rfl (Vec.empty 9 1 _) hv.src (RowL.one fun x _ => one_encT x) (by omega) ?_
    intro v' lv' hv' hnil
    rw [Nat.zero_add, List.nil_append] at hv'
    refine yq0 ?_
    exact T.retF (Vec.freezeLv (l' := []) hv' (by rw [List.append_nil]; exact List.sublist_append_left lv' _) fun H' _ hsl => Lv.fin (RV.tmp rfl rfl) hsl)
/-! ### sorting -/
abbrev RwIn (S : List Rw) := {r : Rw // r ∈ S}
def ordW (S : List Rw) (a b : RwIn S) : Int := cR (rwK a.1) (rwK b.1)
theorem ordW_lt (S : List Rw) (a b : RwIn S) : Go.Proofs.ltOf (ordW S) a b = decide (cR (rwK a.1) (rwK b.1) < 0) := rfl
theorem ordW_swo (S : List Rw) : Go.Sort.SWO (Go.Proofs.ltOf (ordW S)) where
  irrefl x := by
    rw [ordW_lt, decide_eq_false_iff_not]
    have := cR_neg (rwK x.1) (rwK x.1)
    omega
  trans x y z h1 h2 := by
    rw [ordW_lt, decide_eq_true_eq] at *
    exact cR_trans h1 h2
  ntrans x y z h1 h2 := by
    rw [ordW_lt] at *
    exact ltR_ord.trans (rwK z.1) (rwK y.1) (rwK x.1) h2 h1
def encRwIn {S : List Rw} (r : RwIn S) : List Value := encRw r.1
set_option maxHeartbeats 1000000 in
theorem sortRw_fn (S : List Rw) (v : Value) (lv : List (Nat × Obj)) (H : Hp) (hv : RowV 52 encRw 2 v lv S) (hok : ∀ x ∈ S, RwOk H x) (hinj : ∀ x ∈ S, ∀ y ∈ S, rwK x = rwK y → x = y) (hl : S.length ≤ 1000000) :
    FnW Tryz.prog 69 #[v, .func (.func 44) #[] #[]] H lv (fun u H' l' => u = .tuple #[] ∧ H' = H ∧ ∃ Q, Q.Perm S ∧ (Q.Pairwise fun a b => cR (rwK b) (rwK a) ≥ 0) ∧ RowV 52 encRw 2 v l' Q) := by
  obtain ⟨ad, cap, rfl⟩ := hv.val
  rcases Nat.eq_zero_or_pos S.length with h0 | h0
  · have hS : S = [] := List.eq_nil_of_length_eq_zero h0
    subst hS
    refine FnW.mk fun w hw => callsIn_wide.2 ((Go.Proofs.AnyF.slices_SortFunc_none (ρ := Tryz.sortL_ren) { Tryz.sortL with } ad cap (.func (.func 44) #[] #[]) w).mono ?_)
    rintro e w' ⟨rfl, rfl⟩
    exact ⟨_, H, lv, rfl, hw, rfl, rfl, [], List.Perm.refl _, List.Pairwise.nil, hv⟩
  · rcases hv.2 with ⟨⟨ad', hve⟩, rfl, h00⟩ | ⟨b, cap', cs, hve, rfl, h2, h3, h4, h5⟩
    · omega
    · injection hve with e1 e2 e3
      subst e1 e3
      obtain ⟨x0, hx0⟩ : ∃ x, S[0]? = some x := ⟨_, List.getElem?_eq_getElem (by omega)⟩
      haveI : Inhabited (RwIn S) := ⟨⟨x0, List.mem_of_getElem? hx0⟩⟩
      obtain ⟨d, hd0⟩ : ∃ d : List (RwIn S), d = S.attach := ⟨_, rfl⟩
      have hd : d.map Subtype.val = S := by rw [hd0, List.attach_map_subtype_val]
      have hdl : d.length = S.length := by rw [hd0, List.length_attach]
      have henc : ∀ l : List (RwIn S), l.flatMap encRwIn = (l.map Subtype.val).flatMap encRw := fun l => by rw [List.flatMap_map]; rfl
      obtain ⟨tl, rfl⟩ : ∃ tl, cs = d.flatMap encRwIn ++ tl := by
        refine ⟨cs.drop (S.length * 2), ?_⟩
        rw [henc, hd, ← h5, List.take_append_drop]
      have hcmp : ∀ x y : RwIn S, Fn Tryz.prog 44 ([Value.agg (encRwIn x).toArray, .agg (encRwIn y).toArray] ++ []).toArray H (fun v _ => v = .int .i64 (ordW S x y)) := fun x y => compareR_fn x.1 y.1 H (hok x.1 x.2) (hok y.1 y.2)
      have hf := sort_FnW (ρ := Tryz.sortL_ren) Tryz.sortL (enc := encRwIn) (k := 2) (b := b) (cap := cap) (el := 52) (by intro w; exact Tryz.isAgg52 w) (by intro w; exact Tryz.sizeOf52 w) (fun x => encRw_len x.1) (fun x => one_encRw (hok x.1 x.2)) (ordW S) (ordW_swo S) (fun x y h1 h2 => by
        rw [ordW_lt, decide_eq_false_iff_not] at h1 h2
        have := cR_neg (rwK x.1) (rwK y.1)
        exact Subtype.ext (hinj x.1 x.2 y.1 y.2 (cR_eq (by omega)))) 44 [] d tl hcmp (by omega)
      rw [hdl] at hf
      refine hf.mono ?_
      rintro v H' l' ⟨rfl, rfl, rfl⟩
      obtain ⟨Q, hQ⟩ : ∃ Q, Q = d.mergeSort fun x y => !(Go.Proofs.ltOf (ordW S)) y x := ⟨_, rfl⟩
      rw [← hQ]
      have hQp : Q.Perm d := by rw [hQ]; exact List.mergeSort_perm _ _
      have hQl : (Q.map Subtype.val).length = S.length := by rw [List.length_map, hQp.length_eq, hdl]
      have hpw : Q.Pairwise fun a b => cR (rwK b.1) (rwK a.1) ≥ 0 := by
        rw [hQ]
        have h := List.pairwise_mergeSort (le := fun x y => !(Go.Proofs.ltOf (ordW S)) y x) (fun a b c h1 h2 => by
          simp only [Bool.not_eq_true'] at *
          exact (ordW_swo S).ntrans _ _ _ h2 h1) (fun a b => by
          simp only [ordW_lt, Bool.or_eq_true, Bool.not_eq_true', decide_eq_false_iff_not]
          have := cR_neg (rwK a.1) (rwK b.1)
          omega) d
        refine h.imp ?_
        intro a b hab
        simp only [ordW_lt, Bool.not_eq_true', decide_eq_false_iff_not] at hab
        omega
      refine ⟨rfl, rfl, Q.map Subtype.val, by have h := hQp.map Subtype.val; rw [hd] at h; exact h, List.pairwise_map.2 hpw, ?_⟩
      have hfl := flat_len encRw_len (Q.map Subtype.val)
      refine ⟨hfl, .inr ⟨b, cap, Q.flatMap encRwIn ++ tl, by rw [hQl], rfl, by rw [hQl]; exact h2, h3, ?_, ?_⟩⟩
      · rw [← h4, List.length_append, List.length_append, henc, henc, hfl, flat_len encRw_len, hQl, List.length_map, hdl]
      · rw [henc, ← hfl, List.take_left]
end Go.Proofs.YthacphfjchpoaaaGreatDoor
namespace Go.Proofs.YthacphfjchpoaaaGreatDoor
open Go.RowKit

structure SmR where
  i : Nat
  H : Hp
  v : Value
  lv : List (Nat × Obj)
  es : Array MapEntry
  ck : Nat
  R : List Rw
theorem set_row (R : List Rw) (j : Nat) (y : Rw) (m : Int) (h : R[j]? = some y) : (R.flatMap encRw).set (j * 2 + 1) (.int .i64 m) = (R.set j ⟨y.kv, y.ks, m⟩).flatMap encRw := by
  induction R generalizing j with
  | nil => simp at h
  | cons a R ih =>
    cases j with
    | zero =>
      simp only [List.getElem?_cons_zero, Option.some.injEq] at h
      subst h
      rfl
    | succ j =>
      have := ih j (by simpa using h)
      simp only [List.flatMap_cons, List.set_cons_succ]
      rw [← this, List.set_append, if_neg (by rw [encRw_len]; omega), encRw_len, show (j + 1) * 2 + 1 - 2 = j * 2 + 1 by omega]
theorem row_cell {R : List Rw} {j : Nat} {y : Rw} (h : R[j]? = some y) : (R.flatMap encRw)[j * 2 + 1]? = some (.int .i64 y.n) := by
  have h1 := flat_elem encRw_len R j y h
  have := congrArg (fun l => l[1]?) h1
  simp only [List.getElem?_take, List.getElem?_drop] at this
  simpa [encRw] using this
theorem set_rowV {t : TypeId} {v : Value} {lv : List (Nat × Obj)} {S : List Rw} {j o : Nat} {y : Rw} {m : Int} (hy : S[j]? = some y) (ho : o = j * 2 + 1) (h : Vec t 2 v lv S.length ((S.flatMap encRw).set o (.int .i64 m))) : RowV t encRw 2 v lv (S.set j ⟨y.kv, y.ks, m⟩) := by
  subst ho
  show Vec _ _ _ _ _ _
  rw [List.length_set, ← set_row S j y m hy]
  exact h
theorem set_ok {H : Hp} {S : List Rw} {j : Nat} {y : Rw} {m : Int} (hok : ∀ r ∈ S, RwOk H r) (hy : S[j]? = some y) : ∀ r ∈ S.set j ⟨y.kv, y.ks, m⟩, RwOk H r := by
  intro r hr
  rcases List.mem_or_eq_of_mem_set hr with h | rfl
  · exact hok r h
  · exact hok y (List.mem_of_getElem? hy)
theorem set_keys {S : List Rw} {j : Nat} {y : Rw} {m : Int} (hy : S[j]? = some y) : (S.set j ⟨y.kv, y.ks, m⟩).map (·.ks) = S.map (·.ks) := by
  rw [List.map_set]
  apply List.ext_getElem?
  intro i
  rw [List.getElem?_set]
  by_cases h : j = i
  · subst h
    rw [if_pos rfl, if_pos (by rw [List.length_map]; exact (List.getElem?_eq_some_iff.1 hy).1), List.getElem?_map, hy]; rfl
  · rw [if_neg h]
theorem rw_inj : ∀ {l : List Rw}, (l.map (·.ks)).Nodup → ∀ x ∈ l, ∀ y ∈ l, rwK x = rwK y → x = y
  | [], _, x, hx, _, _, _ => by cases hx
  | a :: l, h, x, hx, y, hy, e => by
    rw [List.map_cons, List.nodup_cons] at h
    have ek : x.ks = y.ks := congrArg Prod.fst e
    rcases List.mem_cons.1 hx with rfl | hx1
    · rcases List.mem_cons.1 hy with rfl | hy1
      · rfl
      · exact absurd (List.mem_map.2 ⟨y, hy1, ek.symm⟩) h.1
    · rcases List.mem_cons.1 hy with rfl | hy1
      · exact absurd (List.mem_map.2 ⟨x, hx1, ek⟩) h.1
      · exact rw_inj h.2 x hx1 y hy1 e
theorem rw_keys {R : List Rw} {l : List RK} (h : R.map rwK = grpR l) : (R.map (·.ks)).Nodup := by
  have h1 := congrArg (List.map (·.1)) h
  rw [grpR_keys, List.map_map] at h1
  have h2 := dk_nodup l
  rw [← h1] at h2
  exact h2
set_option maxHeartbeats 8000000 in
theorem sum_fn (L : List Rw) (v : Value) (H : Hp) (hT : PowT H) (hL : RwL H v L) (hLl : L.length ≤ 1000) (hn : ∀ r ∈ L, 0 ≤ r.n ∧ r.n ≤ 1099511627776) :
    Fn Tryz.prog 34 #[v] H (fun u H' => ∃ A, RwL H' u A ∧ A.map rwK = sumR (L.map rwK)) := by
  obtain ⟨am, cm, rfl⟩ := hL.1.len
  refine Fn.of_T (vs := [.slice am L.length cm]) Tryz.func34 rfl rfl fun w => ?_; refine yq25 ?_
  (repeat refine sq ?_)
  refine sr ?_; refine T.newMap Wanted.none rfl ?_
  intro b10
  refine yq23 ?_; refine yq0 ?_; refine yq112 ?_; refine T.loopK [(12, Value.int IntKind.i64 (↑L.length : Int)), (11, Value.slice am L.length cm), (3, Value.map (some b10))] zq8 (γ := SmR) (fun g => g.i ≤ L.length ∧ H.le g.H ∧ RowV 52 encRw 2 g.v g.lv g.R ∧ (∀ r ∈ g.R, RwOk g.H r) ∧ g.R.map rwK = grpR ((L.take g.i).map rwK) ∧ MapS g.es.toList (idxM g.R)) (fun g => [(13, .int .i64 (g.i : Int)), (4, g.v)]) (fun g => g.lv ++ [(b10, .map g.es g.ck)]) (fun g => g.H) (fun g => L.length - g.i) ⟨0, H, .slice none 0 0, [], #[], 0, []⟩ ⟨by simp, Hp.le.refl _, Vec.nil _ _, by simp, by simp [grpR, dk], rfl⟩ zq8 (by repeat (first | exact Sel.refl _ | exact Sel.nil | (refine Sel.cons zq1 ?_) | (refine Sel.app zq1 ?_) | exact Sel.one zq1)) rfl ?_
  rintro ⟨i, H2, v, lv, es, ck, R⟩ ⟨g1, g2, g3, g4, g5, g6⟩
  dsimp only at g1 g2 g3 g4 g5 g6 ⊢
  obtain ⟨adv, capv, rfl⟩ := g3.val
  have hRl : R.length ≤ i := by
    have h1 := congrArg List.length g5
    have h2 := grpR_len ((L.take i).map rwK)
    rw [List.length_map] at h1
    rw [List.length_map, List.length_take] at h2
    omega
  by_cases hi : i < L.length
  · obtain ⟨bx, off, r, rfl, hix, hsub⟩ := RowL.get encRw_len (hL.1.mono g2) hi
    have hmm := List.mem_of_getElem? hix
    have hrok := (hL.2 r hmm).mono g2
    obtain ⟨ar, cr, hrv⟩ := hrok.1.len
    have hrs := hrok.1
    rw [hrv] at hrs
    unfold encRw at hsub
    rw [hrv] at hsub
    have hjn := join_fn r.ks _ H2 (hT.mono g2) hrs hrok.2.1 hrok.2.2
    have hrn := hn r hmm
    have htk : (L.take (i + 1)).map rwK = (L.take i).map rwK ++ [rwK r] := by rw [List.take_add_one, hix, List.map_append]; rfl
    refine yq110 ?_; refine sy fun b6 => ?_; refine yq115 ?_; refine T.callV Wanted.none rfl rfl (hjn) ?_; refine yq56 ?_; refine sm ?_; refine sv (PV.mapGet2 (es := es) (clock := ck) (kt := 9) (vt := 3) (z := .int .i64 0) (by kernel_rfl) (by kernel_rfl) (fun _ => by kernel_rfl) rfl rfl g6 (by simp)) ?_
    rcases look_idx r.ks R with ⟨k1, k2⟩ | ⟨j, y, k1, k3, k2⟩
    · rw [k2]
      dsimp only [Option.getD, Option.isSome]
      refine yq146 ?_; refine yq55 ?_; refine yq14 ?_; refine sv (PV.not rfl) ?_; refine yq36 ?_; refine yq2 ?_; refine sv (PV.lenSl rfl) ?_; refine yq56 ?_; refine yq162 ?_; refine T.mapPush (kt := 9) (vt := 3) (by kernel_rfl) (by kernel_rfl) Wanted.none rfl rfl rfl g6 k2 ((b6, .cells #[.slice ar r.ks.length cr, .int .i64 r.n] 52 (0, 0)) :: lv) rfl ?_
      intro es2 ck2 hs2
      refine zs2 ?_; refine sm ?_; refine yq5 ?_; (refine T.call Wanted.none rfl rfl (cloneS_fn r.ks _ H2 hrs (by have := hrok.2.1; omega)) ?_; intro v36 H36 h36 hv36; obtain ⟨ad36, cap36, rfl⟩ := hv36.len); refine sv (PV.build rfl zq12) ?_; (refine T.buildSlice Wanted.none rfl rfl zq11 (by exact rfl) (by exact rfl) ?_; intro b38); (refine T.appendP (lv := lv) Wanted.none rfl rfl rfl g3 (Src.cells (m := 1) (ys := [.slice ad36 r.ks.length cap36, .int .i64 0]) (.own zq2) rfl rfl) (by intro v hv; simp only [List.mem_cons, List.not_mem_nil, or_false] at hv; rcases hv with rfl | rfl <;> rfl) (by omega) zq1 ?_; intro v39 lv39 hv39 _; obtain ⟨ad39, cap39, rfl⟩ := hv39.val); refine yq0 ?_
      obtain ⟨y0, hy0⟩ : ∃ y0 : Rw, y0 = ⟨.slice ad36 r.ks.length cap36, r.ks, 0⟩ := ⟨_, rfl⟩
      have hva : RowV 52 encRw 2 (.slice ad39 (R.length + 1) cap39) lv39 (R ++ [y0]) := by rw [hy0]; exact RowV.snoc hv39
      clear hv39
      have hRl1 : (R ++ [y0]).length = R.length + 1 := by simp
      have hy1 : (R ++ [y0])[R.length]? = some y0 := by simp
      obtain ⟨bm, capm, hve⟩ := hva.ptr (by omega)
      injection hve with q1 q2 q3
      subst q1 q3
      have hcell : ((R ++ [y0]).flatMap encRw)[0 + ((R.length : Nat) : Int).toNat * 2 + 1]? = some (.int .i64 0) := by have := row_cell hy1; rw [hy0] at this ⊢; simpa using this
      have hfl := flat_len encRw_len (R ++ [y0])
      (repeat refine sq ?_)
      refine T.regionS (lv39 ++ [(b6, .cells #[.slice ar r.ks.length cr, .int .i64 r.n] 52 (0, 0))]) 10 (by kernel_rfl) ?_
      have hng : ∀ x ∈ grpR ((L.take i).map rwK), x.1 ≠ (rwK r).1 := by
        intro x hx
        rw [← g5] at hx
        obtain ⟨z, hz, rfl⟩ := List.mem_map.1 hx
        exact k1 z hz
      have hA : ((R ++ [y0]).set R.length ⟨y0.kv, y0.ks, 0 + r.n⟩).map rwK = grpR ((L.take (i + 1)).map rwK) := by
        rw [htk, grp_push hng, ← g5, List.map_set, List.map_append, List.set_append, if_neg (by simp)]
        simp [rwK, hy0]
      have hM : MapS es2.toList (idxM ((R ++ [y0]).set R.length ⟨y0.kv, y0.ks, 0 + r.n⟩)) := by
        rw [idxM_keys (set_keys hy1), idxM_snoc, hy0]; exact hs2
      have hok1 : ∀ x ∈ R ++ [y0], RwOk H36 x := by
        intro x hx
        rcases List.mem_append.1 hx with hx | hx
        · exact (g4 x hx).mono h36
        · rw [List.mem_singleton] at hx; subst hx; rw [hy0]; exact ⟨hv36, hrok.2⟩
      refine yq131 ?_; refine TS.take 2 rfl (by kernel_rfl) (by kernel_rfl) (by kernel_rfl) (by kernel_rfl) (PV.indexAddr rfl rfl (by omega)) Wanted.none rfl rfl ?_; refine TS.take 3 rfl (by kernel_rfl) (by kernel_rfl) (by kernel_rfl) (by kernel_rfl) (PV.fieldAddr rfl) Wanted.none rfl rfl ?_; refine TS.take 4 rfl (by kernel_rfl) (by kernel_rfl) (by kernel_rfl) (by kernel_rfl) (PV.loadVec rfl (by assumption) zq4 (by assumption)) Wanted.none rfl rfl ?_; refine TS.take 5 rfl (by kernel_rfl) (by kernel_rfl) (by kernel_rfl) (by kernel_rfl) (PV.fieldAddr rfl) Wanted.none rfl rfl ?_; refine TS.take 6 rfl (by kernel_rfl) (by kernel_rfl) (by kernel_rfl) (by kernel_rfl) (PV.load1 rfl zq0 rfl) Wanted.none rfl rfl ?_; refine TS.take 7 rfl (by kernel_rfl) (by kernel_rfl) (by kernel_rfl) (by kernel_rfl) (PV.add rfl rfl (by omega)) Wanted.none rfl rfl ?_
      refine TS.ways [8] (by kernel_rfl) rfl zq18 ⟨⟨_, rfl, ?_⟩, trivial⟩
      refine sv (PV.indexAddr rfl rfl (by omega)) ?_; refine yq24 ?_; refine TS.take 9 rfl (by kernel_rfl) (by kernel_rfl) (by kernel_rfl) (by kernel_rfl) (PV.fieldAddr rfl) Wanted.none rfl rfl ?_
      refine TS.ways [10] (by kernel_rfl) rfl zq18 ⟨⟨_, rfl, ?_⟩, trivial⟩
      (refine T.storeVec [] Wanted.none rfl rfl rfl hva (by rw [hfl]; omega) ?_; intro lv49 hv49); refine yq86 ?_; refine yq61 ?_; (exact T.nextP ⟨i + 1, H36, _, lv49, es2, ck2, (R ++ [y0]).set R.length ⟨y0.kv, y0.ks, 0 + r.n⟩⟩ ⟨by dsimp only; omega, g2.trans h36, set_rowV hy1 (by omega) hv49, set_ok hok1 hy1, hA, hM⟩ (by dsimp only; omega) zq8 (by repeat (first | exact Sel.refl _ | exact Sel.nil | (refine Sel.cons zq1 ?_) | (refine Sel.app zq1 ?_) | exact Sel.one zq1)) rfl)
    · rw [k2]
      dsimp only [Option.getD, Option.isSome]
      have hjl := (List.getElem?_eq_some_iff.1 k1).1
      obtain ⟨bm, capm, hve⟩ := g3.ptr (by omega)
      injection hve with q1 q2 q3
      subst q1 q3
      have hyt : y.n = tot ((L.take i).map rwK) y.ks := by
        have h1 := congrArg (fun l => l[j]?) g5
        simp only [List.getElem?_map, k1, Option.map_some] at h1
        exact grp_at h1.symm
      have hbd := tot_bound (m := 1099511627776) (by omega) (l := (L.take i).map rwK) (by rintro x hx; obtain ⟨z, hz, rfl⟩ := List.mem_map.1 hx; exact hn z (List.mem_of_mem_take hz)) y.ks
      have hlen : ((L.take i).map rwK).length ≤ 1000 := by rw [List.length_map, List.length_take]; omega
      have hcell : (R.flatMap encRw)[0 + ((j : Nat) : Int).toNat * 2 + 1]? = some (.int .i64 y.n) := by have := row_cell k1; simpa using this
      have hfl := flat_len encRw_len R
      refine yq146 ?_; refine yq55 ?_; refine yq14 ?_; refine sv (PV.not rfl) ?_; refine yq92 ?_
      (repeat refine sq ?_)
      refine T.regionS ((b6, .cells #[.slice ar r.ks.length cr, .int .i64 r.n] 52 (0, 0)) :: lv) 10 (by kernel_rfl) ?_
      have hB : (R.set j ⟨y.kv, y.ks, y.n + r.n⟩).map rwK = grpR ((L.take (i + 1)).map rwK) := by
        have hj2 : (grpR ((L.take i).map rwK))[j]? = some (rwK y) := by rw [← g5, List.getElem?_map, k1]; rfl
        rw [htk, grp_set (r := rwK r) hj2 k3, ← g5, List.map_set]
        simp only [rwK, k3]
      have hM : MapS es.toList (idxM (R.set j ⟨y.kv, y.ks, y.n + r.n⟩)) := by rw [idxM_keys (set_keys k1)]; exact g6
      refine yq131 ?_; refine TS.take 2 rfl (by kernel_rfl) (by kernel_rfl) (by kernel_rfl) (by kernel_rfl) (PV.indexAddr rfl rfl (by omega)) Wanted.none rfl rfl ?_; refine TS.take 3 rfl (by kernel_rfl) (by kernel_rfl) (by kernel_rfl) (by kernel_rfl) (PV.fieldAddr rfl) Wanted.none rfl rfl ?_; refine TS.take 4 rfl (by kernel_rfl) (by kernel_rfl) (by kernel_rfl) (by kernel_rfl) (PV.loadVec rfl (by assumption) zq4 (by assumption)) Wanted.none rfl rfl ?_; refine TS.take 5 rfl (by kernel_rfl) (by kernel_rfl) (by kernel_rfl) (by kernel_rfl) (PV.fieldAddr rfl) Wanted.none rfl rfl ?_; refine TS.take 6 rfl (by kernel_rfl) (by kernel_rfl) (by kernel_rfl) (by kernel_rfl) (PV.load1 rfl zq0 rfl) Wanted.none rfl rfl ?_; refine TS.take 7 rfl (by kernel_rfl) (by kernel_rfl) (by kernel_rfl) (by kernel_rfl) (PV.add rfl rfl (by omega)) Wanted.none rfl rfl ?_
      refine TS.ways [8] (by kernel_rfl) rfl zq18 ⟨⟨_, rfl, ?_⟩, trivial⟩
      refine sv (PV.indexAddr rfl rfl (by omega)) ?_; refine yq24 ?_; refine TS.take 9 rfl (by kernel_rfl) (by kernel_rfl) (by kernel_rfl) (by kernel_rfl) (PV.fieldAddr rfl) Wanted.none rfl rfl ?_
      refine TS.ways [10] (by kernel_rfl) rfl zq18 ⟨⟨_, rfl, ?_⟩, trivial⟩
      (refine T.storeVec [(b6, .cells #[.slice ar r.ks.length cr, .int .i64 r.n] 52 (0, 0))] Wanted.none rfl rfl rfl g3 (by rw [hfl]; omega) ?_; intro lv49 hv49); refine yq86 ?_; refine yq61 ?_; (exact T.nextP ⟨i + 1, H2, _, lv49, es, ck, R.set j ⟨y.kv, y.ks, y.n + r.n⟩⟩ ⟨by dsimp only; omega, g2, set_rowV k1 (by omega) hv49, set_ok g4 k1, hB, hM⟩ (by dsimp only; omega) zq8 (by repeat (first | exact Sel.refl _ | exact Sel.nil | (refine Sel.cons zq1 ?_) | (refine Sel.app zq1 ?_) | exact Sel.one zq1)) rfl)
  · rw [List.take_of_length_le (by omega)] at g5
    have hso := sortRw_fn R (.slice adv R.length capv) lv H2 g3 g4 (rw_inj (rw_keys g5)) (by omega)
    refine yq74 ?_; refine yq2 ?_; (refine T.callW Wanted.none rfl rfl hso zq1 ?_; rintro _ HA lv2 _ ⟨rfl, rfl, Q, hQp, hQs, h2⟩); refine zs1 ?_; refine sm ?_; refine yq0 ?_
    have hfin : Q.map rwK = sumR (L.map rwK) := by
      refine sortR_uniq ?_ (List.pairwise_map.2 hQs) (sortK_pw _)
      refine (hQp.map rwK).trans ?_
      rw [g5]
      exact (sumR_grp _).symm
    have hQl : Q.length = R.length := hQp.length_eq
    rw [← hQl] at h2 ⊢
    refine T.retF (Vec.freezeLv (l' := []) h2 (by rw [List.append_nil]; exact zq4) fun H' hleF hsl => Lv.fin (RV.tmp rfl rfl) ⟨Q, ⟨hsl, fun r hr => (g4 r (hQp.mem_iff.1 hr)).mono hleF⟩, hfin⟩)
end Go.Proofs.YthacphfjchpoaaaGreatDoor
