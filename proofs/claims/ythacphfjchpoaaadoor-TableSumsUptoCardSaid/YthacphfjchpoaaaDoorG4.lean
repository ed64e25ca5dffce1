/- regions: comparing integers and spans.
   regions: lists of spans: Compact.
   regions: lists of integers, matches: comparing.
   regions: the reference's Insert.
   regions: lists of spans, of matches: Same.
   regions: numbers of a tape. -/
import Derived.Test.YthacphfjchpoaaaDoorG3
namespace Go.Proofs.YthacphfjchpoaaaDoor
open Go.RowKit



def encS (s : Sp) : List Value := [.int .i64 s.1, .int .i64 s.2]
theorem encS_len (s : Sp) : (encS s).length = 2 := rfl
def spV (s : Sp) : Value := .agg #[.int .i64 s.1, .int .i64 s.2]
def cmpI (a b : Int) : Int := if a < b then -1 else if b < a then 1 else 0
theorem isNaN_fn (a : Int) (H : Hp) : Fn Tryd.prog 39 #[.int .i64 a] H (fun v _ => v = .bool false) := by
  refine Fn.of_T (vs := [.int .i64 a]) Tryd.func39 rfl rfl fun w => ?_
  have h : decide (a ≠ a) = false := by simp
  refine zs3 ?_; refine sa ?_; refine zs1 ?_; refine sm ?_; refine sm ?_; refine sv (PV.neq rfl rfl) ?_; refine sa ?_; refine so ?_
  exact T.retF (Lv.fin (RV.tmp rfl rfl) (by rw [h]))
theorem cmpCompare_fn (a b : Int) (H : Hp) : Fn Tryd.prog 30 #[.int .i64 a, .int .i64 b] H (fun v _ => v = .int .i64 (cmpI a b)) := by
  refine Fn.of_T (vs := [.int .i64 a, .int .i64 b]) Tryd.func30 rfl rfl fun w => ?_; refine zs3 ?_; refine sa ?_; refine zs1 ?_; refine sm ?_; refine T.callV Wanted.none rfl rfl (isNaN_fn _ H) ?_; refine sa ?_; refine zs1 ?_; refine sm ?_; refine T.callV Wanted.none rfl rfl (isNaN_fn _ H) ?_; refine sa ?_; refine so ?_; refine sq ?_; refine zs3 ?_; refine sm ?_; refine so ?_; refine T.condF rfl rfl ?_; refine T.skip ?_; refine sq ?_; refine zs3 ?_; refine sm ?_; refine so ?_; refine T.condF rfl rfl ?_; refine T.skip ?_; refine sq ?_; refine zs3 ?_; refine sm ?_; refine sm ?_; refine sv (PV.lss rfl rfl) ?_; refine so ?_
  refine T.condD rfl (fun h0 => ?_) (fun h0 => ?_)
  · refine zs3 ?_; refine sa ?_; refine so ?_; (refine T.retF (Lv.fin (RV.tmp rfl rfl) ?_); congr 1; unfold cmpI; split <;> (try split) <;> omega)
  · refine T.skip ?_; refine sq ?_; refine zs3 ?_; refine sm ?_; refine sm ?_; refine sv (PV.gtr rfl rfl) ?_; refine so ?_
    refine T.condD rfl (fun h1 => ?_) (fun h1 => ?_)
    · refine zs3 ?_; refine sa ?_; refine so ?_; (refine T.retF (Lv.fin (RV.tmp rfl rfl) ?_); congr 1; unfold cmpI; split <;> (try split) <;> omega)
    · refine T.skip ?_; refine zs3 ?_; refine sa ?_; refine so ?_; (refine T.retF (Lv.fin (RV.tmp rfl rfl) ?_); congr 1; unfold cmpI; split <;> (try split) <;> omega)
def orI : List Int → Int
  | [] => 0
  | a :: l => if a ≠ 0 then a else orI l
def intsV (l : List Int) : List Value := l.flatMap fun a => [.int .i64 a]
theorem orI_drop {l : List Int} {i : Nat} {a : Int} (h : l[i]? = some a) : orI (l.drop i) = if a ≠ 0 then a else orI (l.drop (i + 1)) := by
  have hi := List.getElem?_eq_some_iff.1 h
  rw [List.drop_eq_getElem_cons hi.1, hi.2, orI]
theorem cmpOr_fn (l : List Int) (v : Value) (H : Hp) (hv : SlR H 1 v l.length (intsV l)) (hl : l.length ≤ 1000) : Fn Tryd.prog 29 #[v] H (fun v _ => v = .int .i64 (orI l)) := by
  obtain ⟨ad, cap, rfl⟩ := hv.len
  refine Fn.of_T (vs := [.slice ad l.length cap]) Tryd.func29 rfl rfl fun w => ?_; refine zs3 ?_; refine sa ?_; refine zs1 ?_; refine sa ?_; refine so ?_; refine sq ?_; refine zs3 ?_; refine sm ?_; refine sv (PV.lenSl rfl) ?_; refine sm ?_; refine so ?_; refine T.block ?_
  refine T.loop (γ := Nat) (fun i => i ≤ l.length ∧ orI (l.drop i) = orI l)
    (fun i => [(2, .int .i64 0), (3, .int .i64 0), (8, .int .i64 (i : Int)), (7, .int .i64 (l.length : Int)), (6, .slice ad l.length cap)])
    (fun _ => []) (fun _ => H) (fun i => l.length - i) 0 ⟨by simp, by simp⟩ zq8 zq4 rfl ?_
  rintro i ⟨h1, h2⟩
  by_cases hi : i < l.length
  · obtain ⟨x, hx⟩ : ∃ x, l[i]? = some x := ⟨_, List.getElem?_eq_getElem hi⟩
    obtain ⟨b, off, cap', hve, hsub⟩ := hv.elem (i := i) (by omega) (flat_elem (f := fun a : Int => [Value.int .i64 a]) (fun _ => rfl) l i x hx)
    injection hve with e1 e2 e3
    subst e1 e3
    have ho := orI_drop hx
    refine zs3 ?_; refine sv (PV.lss rfl rfl) ?_; refine so ?_; refine sq ?_; refine sc rfl (by omega) ?_; refine T.skip ?_; refine sq ?_; refine T.block ?_; refine zs3 ?_; refine sv (PV.indexAddr rfl rfl (by omega)) ?_; refine sv (PV.loadSub0 rfl (by assumption)) ?_; refine sa ?_; refine zs1 ?_; refine sm ?_; refine sm ?_; refine sv (PV.neq rfl rfl) ?_; refine so ?_
    refine T.condD rfl (fun hc => ?_) (fun hc => ?_)
    · rw [if_pos hc] at ho
      refine zs3 ?_; refine sm ?_; refine sa ?_; refine so ?_
      exact T.retF (Lv.fin (RV.tmp rfl rfl) (by rw [← h2, ho]))
    · rw [if_neg hc] at ho
      refine T.skip ?_; refine T.blkEnd ?_; refine sr ?_; refine sv (PV.add rfl rfl (by omega)) ?_; refine sm ?_; refine so ?_
      exact T.next (i + 1) ⟨by omega, by rw [← h2, ho]⟩ (by omega) zq8 zq4 rfl
  · rw [List.drop_of_length_le (by omega)] at h2
    refine zs3 ?_; refine sv (PV.lss rfl rfl) ?_; refine so ?_; refine sq ?_; refine sd rfl (by omega) ?_; refine T.exit rfl ?_; refine zs3 ?_; refine sm ?_; refine sa ?_; refine so ?_
    exact T.retF (Lv.fin (RV.tmp rfl rfl) (by rw [← h2]; rfl))
theorem SlR.lit {H : Hp} {sz b t n : Nat} {fz : Nat × Nat} {xs : List Value} (h : H b = some (.cells xs.toArray t fz)) (hn : xs.length = n * sz) : SlR H sz (.slice (some ⟨b, 0, none⟩) n n) n xs :=
  ⟨hn, .inr ⟨b, 0, n, xs, t, fz, rfl, h, by rw [List.drop_zero, List.take_of_length_le (by omega)], Nat.le_refl _⟩⟩
theorem T.freezeLit {P : Program} {X : Cx} {e : Env} {l : List (Nat × Obj)} {H : Hp} {D : List Deferred} {k : List It} {b : Nat} {o : Obj} (h : ∀ H1, H.le H1 → H1 b = some o → T P X e l H1 D k) : T P X e ((b, o) :: l) H D k :=
  T.mk fun a w ha hw => (h (H.put b o) (Hp.le_put (hw.own _ List.mem_cons_self).2.1) Hp.put_same).get a w ha hw.freeze
end Go.Proofs.YthacphfjchpoaaaDoor
namespace Go.Proofs.YthacphfjchpoaaaDoor
open Go.RowKit



theorem flatS_len (l : List Sp) : (l.flatMap encS).length = l.length * 2 := flat_len encS_len l
abbrev SpL (H : Hp) (v : Value) (l : List Sp) : Prop := SlR H 2 v l.length (l.flatMap encS)
end Go.Proofs.YthacphfjchpoaaaDoor
namespace Go.Proofs.YthacphfjchpoaaaDoor
open Go.RowKit


abbrev InL (H : Hp) (v : Value) (l : List Int) : Prop := SlR H 1 v l.length (intsV l)
theorem SlR.intAt {H : Hp} {ad : Option Addr} {n cap : Nat} {l : List Int} (h : SlR H 1 (.slice ad n cap) l.length (intsV l)) {i : Nat} {x : Int} (hx : l[i]? = some x) : ∃ b off, ad = some ⟨b, off, none⟩ ∧ SubC H b (off + i * 1) [.int .i64 x] := by
  have hi := (List.getElem?_eq_some_iff.1 hx).1
  obtain ⟨b, off, cap', hve, hsub⟩ := h.elem (i := i) hi (flat_elem (f := fun a : Int => [Value.int .i64 a]) (fun _ => rfl) l i x hx)
  injection hve with e1 e2 e3
  exact ⟨b, off, e1, hsub⟩
theorem cmpL_drop {a b : List Int} {i : Nat} {x y : Int} (hx : a[i]? = some x) (hy : b[i]? = some y) : cmpL (a.drop i) (b.drop i) = if x < y then -1 else if y < x then 1 else cmpL (a.drop (i + 1)) (b.drop (i + 1)) := by
  have h1 := List.getElem?_eq_some_iff.1 hx
  have h2 := List.getElem?_eq_some_iff.1 hy
  rw [List.drop_eq_getElem_cons h1.1, List.drop_eq_getElem_cons h2.1, h1.2, h2.2, cmpL]
theorem cmpL_nil (b : List Int) : cmpL [] b = if 0 < b.length then -1 else 0 := by cases b <;> simp [cmpL]
theorem cmpL_nil2 {a : List Int} (h : 0 < a.length) : cmpL a [] = 1 := by cases a <;> simp_all [cmpL]
/-! ### matches -/
def mtV (m : Mt) : Value := .agg #[.int .i64 m.b, .int .i64 m.e, m.v]
def LabOk (H : Hp) (m : Mt) : Prop := InL H m.v m.ls ∧ m.ls.length ≤ 17592186044000
end Go.Proofs.YthacphfjchpoaaaDoor
namespace Go.Proofs.YthacphfjchpoaaaDoor
open Go.RowKit



theorem takeS (l : List Sp) (k : Nat) (h : k ≤ l.length) : (l.flatMap encS).take (k * 2) = (l.take k).flatMap encS := by
  have : l.flatMap encS = (l.take k).flatMap encS ++ (l.drop k).flatMap encS := by rw [← List.flatMap_append, List.take_append_drop]
  rw [this, List.take_left' (by rw [flatS_len, List.length_take]; congr 1; omega)]
theorem dropS (l : List Sp) (k : Nat) (h : k ≤ l.length) : (l.flatMap encS).drop (k * 2) = (l.drop k).flatMap encS := by
  have : l.flatMap encS = (l.take k).flatMap encS ++ (l.drop k).flatMap encS := by rw [← List.flatMap_append, List.take_append_drop]
  rw [this, List.drop_left' (by rw [flatS_len, List.length_take]; congr 1; omega)]
theorem SpL.pre {H : Hp} {ad : Option Addr} {cap : Nat} {l : List Sp} (h : SlR H 2 (.slice ad l.length cap) l.length (l.flatMap encS)) {k : Nat} (hk : k ≤ l.length) : SlR H 2 (.slice ad ((k : Nat) : Int).toNat cap) k ((l.take k).flatMap encS) := by
  have := h.pre hk
  rw [takeS l k hk] at this
  rw [Int.toNat_natCast]; exact this
theorem SpL.suf {H : Hp} {ad : Option Addr} {cap : Nat} {l : List Sp} (h : SlR H 2 (.slice ad l.length cap) l.length (l.flatMap encS)) {k : Nat} (hk : k ≤ l.length) : SlR H 2 (slV 2 ad ((k : Nat) : Int).toNat l.length cap) (l.length - k) ((l.drop k).flatMap encS) := by
  have := h.slice (lo := k) (hi := l.length) hk (Nat.le_refl _)
  rw [dropS l k hk, List.take_of_length_le (by rw [flatS_len, List.length_drop]; omega)] at this
  rw [Int.toNat_natCast]; exact this
end Go.Proofs.YthacphfjchpoaaaDoor
namespace Go.Proofs.YthacphfjchpoaaaDoor
open Go.RowKit



/-! ### lists of matches -/
def encM (m : Mt) : List Value := [.int .i64 m.b, .int .i64 m.e, m.v]
theorem encM_len (m : Mt) : (encM m).length = 3 := rfl
def MtL (H : Hp) (v : Value) (l : List Mt) : Prop := SlR H 3 v l.length (l.flatMap encM) ∧ ∀ m ∈ l, LabOk H m
theorem LabOk.mono {H H' : Hp} {m : Mt} (h : LabOk H m) (hl : H.le H') : LabOk H' m := ⟨h.1.mono hl, h.2⟩
theorem MtL.mono {H H' : Hp} {v : Value} {l : List Mt} (h : MtL H v l) (hl : H.le H') : MtL H' v l := ⟨h.1.mono hl, fun m hm => (h.2 m hm).mono hl⟩
end Go.Proofs.YthacphfjchpoaaaDoor
namespace Go.Proofs.YthacphfjchpoaaaDoor
open Go.RowKit


theorem flatM_len (l : List Mt) : (l.flatMap encM).length = l.length * 3 := flat_len encM_len l
abbrev MtV (v : Value) (lv : List (Nat × Obj)) (l : List Mt) : Prop := Vec 58 3 v lv l.length (l.flatMap encM)
theorem MtV.snoc {v : Value} {lv : List (Nat × Obj)} {l : List Mt} {x : Mt} (h : Vec 58 3 v lv (l.length + 1) (l.flatMap encM ++ encM x)) : MtV v lv (l ++ [x]) := by
  unfold MtV
  rw [List.length_append, List.flatMap_append, List.flatMap_singleton]
  exact h
theorem takeM (l : List Mt) (k : Nat) (h : k ≤ l.length) : (l.flatMap encM).take (k * 3) = (l.take k).flatMap encM := by
  have : l.flatMap encM = (l.take k).flatMap encM ++ (l.drop k).flatMap encM := by rw [← List.flatMap_append, List.take_append_drop]
  rw [this, List.take_left' (by rw [flatM_len, List.length_take]; congr 1; omega)]
theorem dropM (l : List Mt) (k : Nat) (h : k ≤ l.length) : (l.flatMap encM).drop (k * 3) = (l.drop k).flatMap encM := by
  have : l.flatMap encM = (l.take k).flatMap encM ++ (l.drop k).flatMap encM := by rw [← List.flatMap_append, List.take_append_drop]
  rw [this, List.drop_left' (by rw [flatM_len, List.length_take]; congr 1; omega)]
theorem MtS.pre {H : Hp} {ad : Option Addr} {cap : Nat} {l : List Mt} (h : SlR H 3 (.slice ad l.length cap) l.length (l.flatMap encM)) {k : Nat} (hk : k ≤ l.length) : SlR H 3 (.slice ad ((k : Nat) : Int).toNat cap) k ((l.take k).flatMap encM) := by
  have := h.pre hk
  rw [takeM l k hk] at this
  rw [Int.toNat_natCast]; exact this
theorem MtS.suf {H : Hp} {ad : Option Addr} {cap : Nat} {l : List Mt} (h : SlR H 3 (.slice ad l.length cap) l.length (l.flatMap encM)) {k : Nat} (hk : k ≤ l.length) : SlR H 3 (slV 3 ad ((k : Nat) : Int).toNat l.length cap) (l.length - k) ((l.drop k).flatMap encM) := by
  have := h.slice (lo := k) (hi := l.length) hk (Nat.le_refl _)
  rw [dropM l k hk, List.take_of_length_le (by rw [flatM_len, List.length_drop]; omega)] at this
  rw [Int.toNat_natCast]; exact this
theorem T.sub {P : Program} {X : Cx} {e : Env} {l l' : List (Nat × Obj)} {H : Hp} {D : List Deferred} {k : List It} (hl : List.Sublist l' l) (h : T P X e l' H D k) : T P X e l H D k := T.mk fun a w ha hw => h.get a w ha (hw.sub hl)
/-- a tape: at most 120 numbers that are only read, and a place -/
structure Tp where
  v : Value
  xs : List Int
  at_ : Nat
def Tp.ok (H : Hp) (t : Tp) : Prop := InL H t.v t.xs ∧ t.xs.length ≤ 120 ∧ t.at_ ≤ t.xs.length ∧ ∀ x ∈ t.xs, -9223372036854775808 ≤ x ∧ x ≤ 9223372036854775807
theorem Tp.ok.mono {H H' : Hp} {t : Tp} (h : t.ok H) (hl : H.le H') : t.ok H' := ⟨h.1.mono hl, h.2⟩
end Go.Proofs.YthacphfjchpoaaaDoor
