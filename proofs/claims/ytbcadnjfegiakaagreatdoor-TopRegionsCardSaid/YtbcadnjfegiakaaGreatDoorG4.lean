/- regions: comparing integers and spans.
   regions: lists of spans: Compact.
   regions: lists of integers, matches: comparing.
   regions: the reference's Insert.
   regions: lists of spans, of matches: Same.
   regions: numbers of a tape. -/
import Derived.Test.YtbcadnjfegiakaaGreatDoorG3
namespace Go.Proofs.YtbcadnjfegiakaaGreatDoor
open Go.RowKit



def encS (s : Sp) : List Value := [.int .i64 s.1, .int .i64 s.2]
theorem encS_len (s : Sp) : (encS s).length = 2 := rfl
theorem one_encS (s : Sp) : ∀ v ∈ encS s, v.oneCell' = true := by intro v hv; simp [encS] at hv; rcases hv with rfl | rfl <;> rfl
def spV (s : Sp) : Value := .agg #[.int .i64 s.1, .int .i64 s.2]
def cmpI (a b : Int) : Int := if a < b then -1 else if b < a then 1 else 0
theorem isNaN_fn (a : Int) (H : Hp) : Fn Tryz.prog 46 #[.int .i64 a] H (fun v _ => v = .bool false) := by
  refine Fn.of_T (vs := [.int .i64 a]) Tryz.func46 rfl rfl fun w => ?_
  have h : decide (a ≠ a) = false := by simp
  refine zs3 ?_; refine yq28 ?_; refine sm ?_; refine sv (PV.neq rfl rfl) ?_; refine yq0 ?_
  exact T.retF (Lv.fin (RV.tmp rfl rfl) (by rw [h]))
theorem cmpCompare_fn (a b : Int) (H : Hp) : Fn Tryz.prog 26 #[.int .i64 a, .int .i64 b] H (fun v _ => v = .int .i64 (cmpI a b)) := by
  refine Fn.of_T (vs := [.int .i64 a, .int .i64 b]) Tryz.func26 rfl rfl fun w => ?_; refine zs3 ?_; refine yq28 ?_; refine T.callV Wanted.none rfl rfl (isNaN_fn _ H) ?_; refine yq28 ?_; refine T.callV Wanted.none rfl rfl (isNaN_fn _ H) ?_; refine yq11 ?_; refine yq4 ?_; refine so ?_; refine yq7 ?_; refine sq ?_; refine yq4 ?_; refine so ?_; refine yq7 ?_; refine sq ?_; refine yq4 ?_; refine sm ?_; refine yq2 ?_
  refine T.condD rfl (fun h0 => ?_) (fun h0 => ?_)
  · refine zs3 ?_; refine yq0 ?_; (refine T.retF (Lv.fin (RV.tmp rfl rfl) ?_); congr 1; unfold cmpI; split <;> (try split) <;> omega)
  · refine T.skip ?_; refine sq ?_; refine yq4 ?_; refine sm ?_; refine sv (PV.gtr rfl rfl) ?_; refine so ?_
    refine T.condD rfl (fun h1 => ?_) (fun h1 => ?_)
    · refine zs3 ?_; refine yq0 ?_; (refine T.retF (Lv.fin (RV.tmp rfl rfl) ?_); congr 1; unfold cmpI; split <;> (try split) <;> omega)
    · refine T.skip ?_; refine zs3 ?_; refine yq0 ?_; (refine T.retF (Lv.fin (RV.tmp rfl rfl) ?_); congr 1; unfold cmpI; split <;> (try split) <;> omega)
def orI : List Int → Int
  | [] => 0
  | a :: l => if a ≠ 0 then a else orI l
def intsV (l : List Int) : List Value := l.flatMap fun a => [.int .i64 a]
theorem orI_drop {l : List Int} {i : Nat} {a : Int} (h : l[i]? = some a) : orI (l.drop i) = if a ≠ 0 then a else orI (l.drop (i + 1)) := by
  have hi := List.getElem?_eq_some_iff.1 h
  rw [List.drop_eq_getElem_cons hi.1, hi.2, orI]
theorem cmpOr_fn (l : List Int) (v : Value) (H : Hp) (hv : SlR H 1 v l.length (intsV l)) (hl : l.length ≤ 1000) : Fn Tryz.prog 25 #[v] H (fun v _ => v = .int .i64 (orI l)) := by
  obtain ⟨ad, cap, rfl⟩ := hv.len
  refine Fn.of_T (vs := [.slice ad l.length cap]) Tryz.func25 rfl rfl fun w => ?_; refine zs3 ?_; refine yq14 ?_; refine yq11 ?_; refine yq30 ?_; refine yq35 ?_
  refine T.loop (γ := Nat) (fun i => i ≤ l.length ∧ orI (l.drop i) = orI l)
    (fun i => [(2, .int .i64 0), (3, .int .i64 0), (8, .int .i64 (i : Int)), (7, .int .i64 (l.length : Int)), (6, .slice ad l.length cap)])
    (fun _ => []) (fun _ => H) (fun i => l.length - i) 0 ⟨by simp, by simp⟩ zq8 zq4 rfl ?_
  rintro i ⟨h1, h2⟩
  by_cases hi : i < l.length
  · obtain ⟨x, hx⟩ : ∃ x, l[i]? = some x := ⟨_, List.getElem?_eq_getElem hi⟩
    obtain ⟨b, off, cap', hve, hsub⟩ := hv.elem (i := i) (by omega) (flat_elem (f := fun a : Int => [Value.int .i64 a]) (fun _ => rfl) l i x hx)
    injection hve with e1 e2 e3
    subst e1 e3
    have ho := orI_drop hx
    refine yq16 ?_; refine sC rfl (by omega) ?_; refine yq25 ?_; refine zs3 ?_; refine yq27 ?_; refine yq28 ?_; refine sm ?_; refine yq29 ?_
    refine T.condD rfl (fun hc => ?_) (fun hc => ?_)
    · rw [if_pos hc] at ho
      refine yq4 ?_; refine yq0 ?_
      exact T.retF (Lv.fin (RV.tmp rfl rfl) (by rw [← h2, ho]))
    · rw [if_neg hc] at ho
      refine T.skip ?_; refine yq33 ?_; refine yq23 ?_
      exact T.next (i + 1) ⟨by omega, by rw [← h2, ho]⟩ (by omega) zq8 zq4 rfl
  · rw [List.drop_of_length_le (by omega)] at h2
    refine yq16 ?_; refine yq21 ?_; refine yq4 ?_; refine yq0 ?_
    exact T.retF (Lv.fin (RV.tmp rfl rfl) (by rw [← h2]; rfl))
theorem SlR.lit {H : Hp} {sz b t n : Nat} {fz : Nat × Nat} {xs : List Value} (h : H b = some (.cells xs.toArray t fz)) (hn : xs.length = n * sz) : SlR H sz (.slice (some ⟨b, 0, none⟩) n n) n xs :=
  ⟨hn, .inr ⟨b, 0, n, xs, t, fz, rfl, h, by rw [List.drop_zero, List.take_of_length_le (by omega)], Nat.le_refl _⟩⟩
theorem T.freezeLit {P : Program} {X : Cx} {e : Env} {l : List (Nat × Obj)} {H : Hp} {D : List Deferred} {k : List It} {b : Nat} {o : Obj} (h : ∀ H1, H.le H1 → H1 b = some o → T P X e l H1 D k) : T P X e ((b, o) :: l) H D k :=
  T.mk fun a w ha hw => (h (H.put b o) (Hp.le_put (hw.own _ List.mem_cons_self).2.1) Hp.put_same).get a w ha hw.freeze
theorem eqS_true {a b : Sp} (h : a.1 = b.1 ∧ a.2 = b.2) : eqCells [.int .i64 a.1, .int .i64 a.2] [.int .i64 b.1, .int .i64 b.2] = true := by simp [eqCells, cellEq, h.1, h.2]
theorem eqS_false {a b : Sp} (h : ¬ (a.1 = b.1 ∧ a.2 = b.2)) : eqCells [.int .i64 a.1, .int .i64 a.2] [.int .i64 b.1, .int .i64 b.2] = false := by
  rw [Bool.eq_false_iff]; simpa [eqCells, cellEq] using h
theorem eqS_eq (a b : Sp) : eqCells [.int .i64 a.1, .int .i64 a.2] [.int .i64 b.1, .int .i64 b.2] = decide (a = b) := by
  by_cases h : a.1 = b.1 ∧ a.2 = b.2
  · rw [eqS_true h, decide_eq_true (Prod.ext h.1 h.2)]
  · rw [eqS_false h, decide_eq_false (fun e => h (by rw [e]; exact ⟨rfl, rfl⟩))]
/-- order of spans: by begin, then by end -/
def ordC (a b : Sp) : Int := orI [cmpI a.1 b.1, cmpI a.2 b.2]

end Go.Proofs.YtbcadnjfegiakaaGreatDoor
namespace Go.Proofs.YtbcadnjfegiakaaGreatDoor
open Go.RowKit



theorem flatS_len (l : List Sp) : (l.flatMap encS).length = l.length * 2 := flat_len encS_len l
theorem one_flatS (l : List Sp) : ∀ v ∈ l.flatMap encS, v.oneCell' = true := by
  intro v hv
  obtain ⟨s, _, hs⟩ := List.mem_flatMap.1 hv
  exact one_encS s v hs
abbrev SpL (H : Hp) (v : Value) (l : List Sp) : Prop := SlR H 2 v l.length (l.flatMap encS)
abbrev SpV (v : Value) (lv : List (Nat × Obj)) (l : List Sp) : Prop := Vec 57 2 v lv l.length (l.flatMap encS)
/-! ### Compact -/
structure CG where
  j : Nat
  k : Nat
  c : List Sp
theorem getE {l : List Sp} {i : Nat} {s : Sp} (tl : List Value) (h : l[i]? = some s) : ((l.flatMap encS ++ tl).drop (0 + ((i : Nat) : Int).toNat * 2)).take 2 = [.int .i64 s.1, .int .i64 s.2] := by
  have h1 := flat_elem encS_len l i s h
  have hi := (List.getElem?_eq_some_iff.1 h).1
  have hl := flatS_len l
  rw [Nat.zero_add, Int.toNat_natCast, List.drop_append_of_le_length (by omega), List.take_append_of_le_length (by rw [List.length_drop]; omega), h1]; rfl
theorem getE2 {c : List Sp} {k j : Nat} {s : Sp} (tl : List Value) (h : c[k + j]? = some s) : ((c.flatMap encS ++ tl).drop (0 + ((k : Nat) : Int).toNat * 2 + ((j : Nat) : Int).toNat * 2)).take 2 = [.int .i64 s.1, .int .i64 s.2] := by
  have := getE tl h
  rw [show 0 + ((k : Nat) : Int).toNat * 2 + ((j : Nat) : Int).toNat * 2 = 0 + ((k + j : Nat) : Int).toNat * 2 by omega]
  exact this
theorem Splice.skips {pre : List Value} : ∀ {c : List Value} {o : Nat} {vs c' : List Value}, Splice c o vs c' → Splice (pre ++ c) (pre.length + o) vs (pre ++ c') := by
  induction pre with
  | nil => intro c o vs c' h; simpa using h
  | cons p pre ih =>
    intro c o vs c' h
    rw [List.cons_append, List.cons_append, List.length_cons, show pre.length + 1 + o = (pre.length + o) + 1 by omega]
    exact .skip (ih h)
theorem splice_set {c : List Sp} {m : Nat} (x : Sp) (tl : List Value) (h : m < c.length) : Splice (c.flatMap encS ++ tl) (0 + ((m : Nat) : Int).toNat * 2) [.int .i64 x.1, .int .i64 x.2] ((c.set m x).flatMap encS ++ tl) := by
  have e1 : c.flatMap encS ++ tl = (c.take m).flatMap encS ++ (encS c[m] ++ ((c.drop (m + 1)).flatMap encS ++ tl)) := by
    have : c.flatMap encS = (c.take m).flatMap encS ++ (encS c[m] ++ (c.drop (m + 1)).flatMap encS) := by rw [← List.flatMap_cons, ← List.drop_eq_getElem_cons h, ← List.flatMap_append, List.take_append_drop]
    rw [this, List.append_assoc, List.append_assoc]
  have e2 : (c.set m x).flatMap encS ++ tl = (c.take m).flatMap encS ++ (encS x ++ ((c.drop (m + 1)).flatMap encS ++ tl)) := by
    rw [List.set_eq_take_append_cons_drop, if_pos h]
    simp
  have e3 : 0 + ((m : Nat) : Int).toNat * 2 = ((c.take m).flatMap encS).length + 0 := by rw [flatS_len, List.length_take, Nat.min_eq_left (by omega)]; omega
  rw [e1, e2, e3]
  exact Splice.skips (.cons (.cons .nil))

end Go.Proofs.YtbcadnjfegiakaaGreatDoor
namespace Go.Proofs.YtbcadnjfegiakaaGreatDoor
open Go.RowKit


theorem SlR.span {H : Hp} {ad : Option Addr} {n cap : Nat} {l : List Sp} (h : SlR H 2 (.slice ad n cap) l.length (l.flatMap encS)) {i : Nat} {x : Sp} (hx : l[i]? = some x) : ∃ b off, ad = some ⟨b, off, none⟩ ∧ SubC H b (off + i * 2) [.int .i64 x.1, .int .i64 x.2] := by
  have hi := (List.getElem?_eq_some_iff.1 hx).1
  obtain ⟨b, off, cap', hve, hsub⟩ := h.elem (i := i) hi (flat_elem encS_len l i x hx)
  injection hve with e1 e2 e3
  exact ⟨b, off, e1, hsub⟩
theorem one_ints (l : List Int) : ∀ v ∈ intsV l, v.oneCell' = true := by
  intro v hv
  obtain ⟨s, _, hs⟩ := List.mem_flatMap.1 hv
  simp at hs; subst hs; rfl
abbrev InL (H : Hp) (v : Value) (l : List Int) : Prop := SlR H 1 v l.length (intsV l)
theorem SlR.intAt {H : Hp} {ad : Option Addr} {n cap : Nat} {l : List Int} (h : SlR H 1 (.slice ad n cap) l.length (intsV l)) {i : Nat} {x : Int} (hx : l[i]? = some x) : ∃ b off, ad = some ⟨b, off, none⟩ ∧ SubC H b (off + i * 1) [.int .i64 x] := by
  have hi := (List.getElem?_eq_some_iff.1 hx).1
  obtain ⟨b, off, cap', hve, hsub⟩ := h.elem (i := i) hi (flat_elem (f := fun a : Int => [Value.int .i64 a]) (fun _ => rfl) l i x hx)
  injection hve with e1 e2 e3
  exact ⟨b, off, e1, hsub⟩
theorem cmpL_drop {a b : List Int} {i : Nat} {x y : Int} (hx : a[i]? = some x) (hy : b[i]? = some y) : cmpL (a.drop i) (b.drop i) = if x < y then -1 else if y < x then 1 else cmpL (a.drop (i + 1)) (b.drop (i + 1)) := by
  have h1 := List.getElem?_eq_some_iff.1 hx
  have h2 := List.getElem?_eq_some_iff.1 hy
  rw [List.drop_eq_getElem_cons h1.1, List.drop_eq_getElem_cons h2.1, h1.2, h2.2, cmpL]
theorem cmpL_nil (b : List Int) : cmpL [] b = if 0 < b.length then -1 else 0 := by cases b <;> simp [cmpL]
theorem cmpL_nil2 {a : List Int} (h : 0 < a.length) : cmpL a [] = 1 := by cases a <;> simp_all [cmpL]
theorem clone_fn (l : List Int) (v : Value) (H : Hp) (hv : InL H v l) (hl : l.length ≤ 17592186044000) : Fn Tryz.prog 83 #[v] H (fun u H' => InL H' u l) := by
  obtain ⟨ad, cap, rfl⟩ := hv.len
  refine Fn.of_T (vs := [.slice ad l.length cap]) Tryz.func83 rfl rfl fun w => ?_
  cases had : ad with
  | none =>
    subst had
    have hl0 : l = [] := by
      rcases hv.2 with ⟨_, h0⟩ | ⟨b, off, cap, cs, t, fz, h1, _⟩
      · exact List.eq_nil_of_length_eq_zero h0
      · cases h1
    subst hl0
    refine zs3 ?_; refine yq11 ?_; refine yq4 ?_; refine sv (PV.slNilR rfl rfl) ?_; refine so ?_; refine T.condT rfl rfl ?_; refine zs3 ?_; refine yq0 ?_
    exact T.retF (Lv.fin (RV.tmp rfl rfl) (SlR.empty))
  | some a =>
    subst had
    refine zs3 ?_; refine yq11 ?_; refine yq4 ?_; refine sv (PV.slNilR rfl rfl) ?_; refine so ?_; refine yq7 ?_; refine zs3 ?_; (refine T.buildSlice Wanted.none rfl rfl zq11 (by exact rfl) (by exact rfl) ?_; intro b5); refine sm ?_; refine T.append [] (lv := []) (bl := [_]) Wanted.none rfl rfl rfl (Vec.empty 3 1 _) hv.src (one_ints l) (by omega) ?_
    intro v' lv' hv' hnil
    rw [Nat.zero_add, List.nil_append] at hv'
    refine yq0 ?_
    exact T.retF (Vec.freezeLv (l' := []) hv' (by rw [List.append_nil]; exact List.sublist_append_left lv' _) fun H' _ hsl => Lv.fin (RV.tmp rfl rfl) hsl)
/-! ### matches -/
def mtV (m : Mt) : Value := .agg #[.int .i64 m.b, .int .i64 m.e, m.v]
def LabOk (H : Hp) (m : Mt) : Prop := InL H m.v m.ls ∧ m.ls.length ≤ 17592186044000
end Go.Proofs.YtbcadnjfegiakaaGreatDoor
namespace Go.Proofs.YtbcadnjfegiakaaGreatDoor
open Go.RowKit



theorem takeS (l : List Sp) (k : Nat) (h : k ≤ l.length) : (l.flatMap encS).take (k * 2) = (l.take k).flatMap encS := by
  have : l.flatMap encS = (l.take k).flatMap encS ++ (l.drop k).flatMap encS := by rw [← List.flatMap_append, List.take_append_drop]
  rw [this, List.take_left' (by rw [flatS_len, List.length_take]; congr 1; omega)]
theorem SpL.pre {H : Hp} {ad : Option Addr} {cap : Nat} {l : List Sp} (h : SlR H 2 (.slice ad l.length cap) l.length (l.flatMap encS)) {k : Nat} (hk : k ≤ l.length) : SlR H 2 (.slice ad ((k : Nat) : Int).toNat cap) k ((l.take k).flatMap encS) := by
  have := h.pre hk
  rw [takeS l k hk] at this
  rw [Int.toNat_natCast]; exact this
end Go.Proofs.YtbcadnjfegiakaaGreatDoor
namespace Go.Proofs.YtbcadnjfegiakaaGreatDoor
open Go.RowKit



/-! ### lists of matches -/
def encM (m : Mt) : List Value := [.int .i64 m.b, .int .i64 m.e, m.v]
theorem encM_len (m : Mt) : (encM m).length = 3 := rfl
def MtL (H : Hp) (v : Value) (l : List Mt) : Prop := SlR H 3 v l.length (l.flatMap encM) ∧ ∀ m ∈ l, LabOk H m
theorem LabOk.mono {H H' : Hp} {m : Mt} (h : LabOk H m) (hl : H.le H') : LabOk H' m := ⟨h.1.mono hl, h.2⟩
theorem MtL.mono {H H' : Hp} {v : Value} {l : List Mt} (h : MtL H v l) (hl : H.le H') : MtL H' v l := ⟨h.1.mono hl, fun m hm => (h.2 m hm).mono hl⟩
theorem SlR.matchAt {H : Hp} {ad : Option Addr} {n cap : Nat} {l : List Mt} (h : SlR H 3 (.slice ad n cap) l.length (l.flatMap encM)) {i : Nat} {m : Mt} (hx : l[i]? = some m) : ∃ b off, ad = some ⟨b, off, none⟩ ∧ SubC H b (off + i * 3) [.int .i64 m.b, .int .i64 m.e, m.v] := by
  have hi := (List.getElem?_eq_some_iff.1 hx).1
  obtain ⟨b, off, cap', hve, hsub⟩ := h.elem (i := i) hi (flat_elem encM_len l i m hx)
  injection hve with e1 e2 e3
  exact ⟨b, off, e1, hsub⟩
end Go.Proofs.YtbcadnjfegiakaaGreatDoor
namespace Go.Proofs.YtbcadnjfegiakaaGreatDoor
open Go.RowKit


theorem flatM_len (l : List Mt) : (l.flatMap encM).length = l.length * 3 := flat_len encM_len l
abbrev MtV (v : Value) (lv : List (Nat × Obj)) (l : List Mt) : Prop := Vec 71 3 v lv l.length (l.flatMap encM)
theorem MtV.snoc {v : Value} {lv : List (Nat × Obj)} {l : List Mt} {x : Mt} (h : Vec 71 3 v lv (l.length + 1) (l.flatMap encM ++ encM x)) : MtV v lv (l ++ [x]) := by
  unfold MtV
  rw [List.length_append, List.flatMap_append, List.flatMap_singleton]
  exact h
theorem one_encM {H : Hp} {m : Mt} (h : LabOk H m) : ∀ v ∈ encM m, v.oneCell' = true := by
  obtain ⟨am, cm, hmv⟩ := h.1.len
  intro v hv
  simp only [encM, List.mem_cons, List.not_mem_nil, or_false] at hv
  rcases hv with rfl | rfl | rfl
  · rfl
  · rfl
  · rw [hmv]; rfl
theorem takeM (l : List Mt) (k : Nat) (h : k ≤ l.length) : (l.flatMap encM).take (k * 3) = (l.take k).flatMap encM := by
  have : l.flatMap encM = (l.take k).flatMap encM ++ (l.drop k).flatMap encM := by rw [← List.flatMap_append, List.take_append_drop]
  rw [this, List.take_left' (by rw [flatM_len, List.length_take]; congr 1; omega)]
theorem MtS.pre {H : Hp} {ad : Option Addr} {cap : Nat} {l : List Mt} (h : SlR H 3 (.slice ad l.length cap) l.length (l.flatMap encM)) {k : Nat} (hk : k ≤ l.length) : SlR H 3 (.slice ad ((k : Nat) : Int).toNat cap) k ((l.take k).flatMap encM) := by
  have := h.pre hk
  rw [takeM l k hk] at this
  rw [Int.toNat_natCast]; exact this
theorem one_flatM {H : Hp} {l : List Mt} (h : ∀ m ∈ l, LabOk H m) : ∀ v ∈ l.flatMap encM, v.oneCell' = true := by
  intro v hv
  obtain ⟨s, hs, hs2⟩ := List.mem_flatMap.1 hv
  exact one_encM (h s hs) v hs2
theorem T.sub {P : Program} {X : Cx} {e : Env} {l l' : List (Nat × Obj)} {H : Hp} {D : List Deferred} {k : List It} (hl : List.Sublist l' l) (h : T P X e l' H D k) : T P X e l H D k := T.mk fun a w ha hw => h.get a w ha (hw.sub hl)
theorem PV.nilCheck {P : Program} {e : Env} {l : List (Nat × Obj)} {H : Hp} {dst : Option Tmp} {ty : TypeId} {pos : String} {after : Array Edge} {gd : Option (Nat × Bool)} {x : Operand} {ad : Addr} (hx : evE e x = some (.pointer (some ad))) : PV P e l H ⟨dst, .nilCheck x, ty, pos, after, gd⟩ (.pointer (some ad)) := PV.mk fun X D a w ha hw => by
  simp [execOp, ha.eval hx]
/-- a tape: at most 120 numbers that are only read, and a place -/
structure Tp where
  v : Value
  xs : List Int
  at_ : Nat
def Tp.ok (H : Hp) (t : Tp) : Prop := InL H t.v t.xs ∧ t.xs.length ≤ 120 ∧ t.at_ ≤ t.xs.length ∧ ∀ x ∈ t.xs, -9223372036854775808 ≤ x ∧ x ≤ 9223372036854775807
theorem Tp.ok.mono {H H' : Hp} {t : Tp} (h : t.ok H) (hl : H.le H') : t.ok H' := ⟨h.1.mono hl, h.2⟩
end Go.Proofs.YtbcadnjfegiakaaGreatDoor
