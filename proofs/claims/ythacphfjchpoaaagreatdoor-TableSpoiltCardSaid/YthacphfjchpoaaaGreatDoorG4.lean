/- regions: comparing integers and spans.
   regions: lists of spans: Compact.
   regions: lists of integers, matches: comparing.
   regions: the reference's Insert.
   regions: lists of spans, of matches: Same.
   regions: numbers of a tape. -/
import Derived.Test.YthacphfjchpoaaaGreatDoorG3
namespace Go.Proofs.YthacphfjchpoaaaGreatDoor
open Go.RowKit


def encS (s : Sp) : List Value := [.int .i64 s.1, .int .i64 s.2]
theorem encS_len (s : Sp) : (encS s).length = 2 := rfl
def spV (s : Sp) : Value := .agg #[.int .i64 s.1, .int .i64 s.2]
def cmpI (a b : Int) : Int := if a < b then -1 else if b < a then 1 else 0
theorem isNaN_fn (a : Int) (H : Hp) : Fn Tryz.prog 104 #[.int .i64 a] H (fun v _ => v = .bool false) := by
  refine Fn.of_T (vs := [.int .i64 a]) Tryz.func104 rfl rfl fun w => ?_
  have h : decide (a ≠ a) = false := by simp
  refine zs3 ?_; refine yq56 ?_; refine sm ?_; refine sv (PV.neq rfl rfl) ?_; refine yq0 ?_
  exact T.retF (Lv.fin (RV.tmp rfl rfl) (by rw [h]))
theorem cmpCompare_fn (a b : Int) (H : Hp) : Fn Tryz.prog 79 #[.int .i64 a, .int .i64 b] H (fun v _ => v = .int .i64 (cmpI a b)) := by
  refine Fn.of_T (vs := [.int .i64 a, .int .i64 b]) Tryz.func79 rfl rfl fun w => ?_; refine zs3 ?_; refine yq56 ?_; refine T.callV Wanted.none rfl rfl (isNaN_fn _ H) ?_; refine yq56 ?_; refine T.callV Wanted.none rfl rfl (isNaN_fn _ H) ?_; refine yq127 ?_; refine yq92 ?_; refine yq14 ?_; refine yq92 ?_; refine yq14 ?_; refine sm ?_; refine yq3 ?_
  refine T.condD rfl (fun h0 => ?_) (fun h0 => ?_)
  · refine yq25 ?_; (refine T.retF (Lv.fin (RV.tmp rfl rfl) ?_); congr 1; unfold cmpI; split <;> (try split) <;> omega)
  · refine T.skip ?_; refine yq14 ?_; refine sm ?_; refine sv (PV.gtr rfl rfl) ?_; refine so ?_
    refine T.condD rfl (fun h1 => ?_) (fun h1 => ?_)
    · refine yq25 ?_; (refine T.retF (Lv.fin (RV.tmp rfl rfl) ?_); congr 1; unfold cmpI; split <;> (try split) <;> omega)
    · refine T.skip ?_; refine yq25 ?_; (refine T.retF (Lv.fin (RV.tmp rfl rfl) ?_); congr 1; unfold cmpI; split <;> (try split) <;> omega)
def orI : List Int → Int
  | [] => 0
  | a :: l => if a ≠ 0 then a else orI l
def intsV (l : List Int) : List Value := l.flatMap fun a => [.int .i64 a]
theorem orI_drop {l : List Int} {i : Nat} {a : Int} (h : l[i]? = some a) : orI (l.drop i) = if a ≠ 0 then a else orI (l.drop (i + 1)) := by
  have hi := List.getElem?_eq_some_iff.1 h
  rw [List.drop_eq_getElem_cons hi.1, hi.2, orI]
theorem cmpOr_fn (l : List Int) (v : Value) (H : Hp) (hv : SlR H 1 v l.length (intsV l)) (hl : l.length ≤ 1000) : Fn Tryz.prog 78 #[v] H (fun v _ => v = .int .i64 (orI l)) := by
  obtain ⟨ad, cap, rfl⟩ := hv.len
  refine Fn.of_T (vs := [.slice ad l.length cap]) Tryz.func78 rfl rfl fun w => ?_; refine zs3 ?_; refine yq23 ?_; refine yq0 ?_; refine yq112 ?_
  refine T.loop (γ := Nat) (fun i => i ≤ l.length ∧ orI (l.drop i) = orI l)
    (fun i => [(2, .int .i64 0), (3, .int .i64 0), (8, .int .i64 (i : Int)), (7, .int .i64 (l.length : Int)), (6, .slice ad l.length cap)])
    (fun _ => []) (fun _ => H) (fun i => l.length - i) 0 ⟨by simp, by simp⟩ zq8 zq4 rfl ?_
  rintro i ⟨h1, h2⟩
  by_cases hi : i < l.length
  · obtain ⟨x, hx⟩ : ∃ x, l[i]? = some x := ⟨_, List.getElem?_eq_getElem hi⟩
    obtain ⟨b, off, cap', hve, hsub⟩ := hv.elem (i := i) (by omega) (flat_elem (f := fun a : Int => [Value.int .i64 a]) (fun _ => rfl) l i x hx)
    injection hve with e1 e2 e3
    subst e1 e3
    have ho := orI_drop hx
    refine yq82 ?_; refine yq15 ?_; refine yq56 ?_; refine sm ?_; refine sv (PV.neq rfl rfl) ?_; refine so ?_
    refine T.condD rfl (fun hc => ?_) (fun hc => ?_)
    · rw [if_pos hc] at ho
      refine yq140 ?_
      exact T.retF (Lv.fin (RV.tmp rfl rfl) (by rw [← h2, ho]))
    · rw [if_neg hc] at ho
      refine T.skip ?_; refine yq61 ?_
      exact T.next (i + 1) ⟨by omega, by rw [← h2, ho]⟩ (by omega) zq8 zq4 rfl
  · rw [List.drop_of_length_le (by omega)] at h2
    refine yq74 ?_; refine yq140 ?_
    exact T.retF (Lv.fin (RV.tmp rfl rfl) (by rw [← h2]; rfl))
theorem SlR.lit {H : Hp} {sz b t n : Nat} {fz : Nat × Nat} {xs : List Value} (h : H b = some (.cells xs.toArray t fz)) (hn : xs.length = n * sz) : SlR H sz (.slice (some ⟨b, 0, none⟩) n n) n xs :=
  ⟨hn, .inr ⟨b, 0, n, xs, t, fz, rfl, h, by rw [List.drop_zero, List.take_of_length_le (by omega)], Nat.le_refl _⟩⟩
theorem T.freezeLit {P : Program} {X : Cx} {e : Env} {l : List (Nat × Obj)} {H : Hp} {D : List Deferred} {k : List It} {b : Nat} {o : Obj} (h : ∀ H1, H.le H1 → H1 b = some o → T P X e l H1 D k) : T P X e ((b, o) :: l) H D k :=
  T.mk fun a w ha hw => (h (H.put b o) (Hp.le_put (hw.own _ List.mem_cons_self).2.1) Hp.put_same).get a w ha hw.freeze
end Go.Proofs.YthacphfjchpoaaaGreatDoor
namespace Go.Proofs.YthacphfjchpoaaaGreatDoor
open Go.RowKit


theorem flatS_len (l : List Sp) : (l.flatMap encS).length = l.length * 2 := flat_len encS_len l
abbrev SpL (H : Hp) (v : Value) (l : List Sp) : Prop := SlR H 2 v l.length (l.flatMap encS)
end Go.Proofs.YthacphfjchpoaaaGreatDoor
namespace Go.Proofs.YthacphfjchpoaaaGreatDoor
open Go.RowKit

theorem ints_len (l : List Int) : (intsV l).length = l.length := by
  have := flat_len (f := fun a : Int => [Value.int .i64 a]) (fun _ => rfl) l
  rw [Nat.mul_one] at this; exact this
abbrev InL (H : Hp) (v : Value) (l : List Int) : Prop := SlR H 1 v l.length (intsV l)
theorem SlR.intAt {H : Hp} {ad : Option Addr} {n cap : Nat} {l : List Int} (h : SlR H 1 (.slice ad n cap) l.length (intsV l)) {i : Nat} {x : Int} (hx : l[i]? = some x) : ∃ b off, ad = some ⟨b, off, none⟩ ∧ SubC H b (off + i * 1) [.int .i64 x] := by
  have hi := (List.getElem?_eq_some_iff.1 hx).1
  obtain ⟨b, off, cap', hve, hsub⟩ := h.elem (i := i) hi (flat_elem (f := fun a : Int => [Value.int .i64 a]) (fun _ => rfl) l i x hx)
  injection hve with e1 e2 e3
  exact ⟨b, off, e1, hsub⟩
theorem cmpL_drop {a b : List Int} {i : Nat} {x y : Int} (hx : a[i]? = some x) (hy : b[i]? = some y) : cmpL (a.drop i) (b.drop i) = if x < y then -1 else if y < x then 1 else cmpL (a.drop (i + 1)) (b.drop (i + 1)) := by
  have h1 := List.getElem?_eq_some_iff.1 hx
  have h2 := List.getElem?_eq_some_iff.1 hy
  rw [List.drop_eq_getElem_cons h1.1, List.drop_eq_getElem_cons h2.1, h1.2, h2.2, cmpL]
theorem cmpL_nil (b : List Int) : cmpL [] b = if 0 < b.length then -1 else 0 := by cases b <;> simp [cmpL]
theorem cmpL_nil2 {a : List Int} (h : 0 < a.length) : cmpL a [] = 1 := by cases a <;> simp_all [cmpL]
/-! ### matches -/
def mtV (m : Mt) : Value := .agg #[.int .i64 m.b, .int .i64 m.e, m.v]
def LabOk (H : Hp) (m : Mt) : Prop := InL H m.v m.ls ∧ m.ls.length ≤ 17592186044000
end Go.Proofs.YthacphfjchpoaaaGreatDoor
namespace Go.Proofs.YthacphfjchpoaaaGreatDoor
open Go.RowKit


theorem takeS (l : List Sp) (k : Nat) (h : k ≤ l.length) : (l.flatMap encS).take (k * 2) = (l.take k).flatMap encS := by
  have : l.flatMap encS = (l.take k).flatMap encS ++ (l.drop k).flatMap encS := by rw [← List.flatMap_append, List.take_append_drop]
  rw [this, List.take_left' (by rw [flatS_len, List.length_take]; congr 1; omega)]
theorem dropS (l : List Sp) (k : Nat) (h : k ≤ l.length) : (l.flatMap encS).drop (k * 2) = (l.drop k).flatMap encS := by
  have : l.flatMap encS = (l.take k).flatMap encS ++ (l.drop k).flatMap encS := by rw [← List.flatMap_append, List.take_append_drop]
  rw [this, List.drop_left' (by rw [flatS_len, List.length_take]; congr 1; omega)]
theorem SpL.pre {H : Hp} {ad : Option Addr} {cap : Nat} {l : List Sp} (h : SlR H 2 (.slice ad l.length cap) l.length (l.flatMap encS)) {k : Nat} (hk : k ≤ l.length) : SlR H 2 (.slice ad ((k : Nat) : Int).toNat cap) k ((l.take k).flatMap encS) := by
  have := h.pre hk
  rw [takeS l k hk] at this
  rw [Int.toNat_natCast]; exact this
theorem SpL.suf {H : Hp} {ad : Option Addr} {cap : Nat} {l : List Sp} (h : SlR H 2 (.slice ad l.length cap) l.length (l.flatMap encS)) {k : Nat} (hk : k ≤ l.length) : SlR H 2 (slV 2 ad ((k : Nat) : Int).toNat l.length cap) (l.length - k) ((l.drop k).flatMap encS) := by
  have := h.slice (lo := k) (hi := l.length) hk (Nat.le_refl _)
  rw [dropS l k hk, List.take_of_length_le (by rw [flatS_len, List.length_drop]; omega)] at this
  rw [Int.toNat_natCast]; exact this
theorem T.cut1 {P : Program} {X : Cx} {e : Env} {l : List (Nat × Obj)} {H : Hp} {D : List Deferred} {a : It} {k : List It} (e' : Env) (l' : List (Nat × Obj)) (K : T P X e' l' H D k)
    (h : (∀ e l, Env.Sub e' e → List.Sublist l' l → T P X e l H D k) → T P X e l H D (a :: k)) : T P X e l H D (a :: k) := h fun _ _ he hl => T.weak he hl K
end Go.Proofs.YthacphfjchpoaaaGreatDoor
namespace Go.Proofs.YthacphfjchpoaaaGreatDoor
open Go.RowKit


/-! ### lists of matches -/
def encM (m : Mt) : List Value := [.int .i64 m.b, .int .i64 m.e, m.v]
theorem encM_len (m : Mt) : (encM m).length = 3 := rfl
def MtL (H : Hp) (v : Value) (l : List Mt) : Prop := SlR H 3 v l.length (l.flatMap encM) ∧ ∀ m ∈ l, LabOk H m
theorem LabOk.mono {H H' : Hp} {m : Mt} (h : LabOk H m) (hl : H.le H') : LabOk H' m := ⟨h.1.mono hl, h.2⟩
theorem MtL.mono {H H' : Hp} {v : Value} {l : List Mt} (h : MtL H v l) (hl : H.le H') : MtL H' v l := ⟨h.1.mono hl, fun m hm => (h.2 m hm).mono hl⟩
end Go.Proofs.YthacphfjchpoaaaGreatDoor
namespace Go.Proofs.YthacphfjchpoaaaGreatDoor
open Go.RowKit

theorem flatM_len (l : List Mt) : (l.flatMap encM).length = l.length * 3 := flat_len encM_len l
abbrev MtV (v : Value) (lv : List (Nat × Obj)) (l : List Mt) : Prop := Vec 44 3 v lv l.length (l.flatMap encM)
theorem MtV.snoc {v : Value} {lv : List (Nat × Obj)} {l : List Mt} {x : Mt} (h : Vec 44 3 v lv (l.length + 1) (l.flatMap encM ++ encM x)) : MtV v lv (l ++ [x]) := by
  unfold MtV
  rw [List.length_append, List.flatMap_append, List.flatMap_singleton]
  exact h
theorem one_encM {H : Hp} {m : Mt} (h : LabOk H m) : ∀ v ∈ encM m, v.oneCell' = true := by
  obtain ⟨am, cm, hmv⟩ := h.1.len
  intro v hv
  simp only [encM, List.mem_cons, List.not_mem_nil, or_false] at hv
  rcases hv with rfl | rfl | rfl
  · rfl
  · rfl
  · rw [hmv]; rfl
theorem takeM (l : List Mt) (k : Nat) (h : k ≤ l.length) : (l.flatMap encM).take (k * 3) = (l.take k).flatMap encM := by
  have : l.flatMap encM = (l.take k).flatMap encM ++ (l.drop k).flatMap encM := by rw [← List.flatMap_append, List.take_append_drop]
  rw [this, List.take_left' (by rw [flatM_len, List.length_take]; congr 1; omega)]
theorem dropM (l : List Mt) (k : Nat) (h : k ≤ l.length) : (l.flatMap encM).drop (k * 3) = (l.drop k).flatMap encM := by
  have : l.flatMap encM = (l.take k).flatMap encM ++ (l.drop k).flatMap encM := by rw [← List.flatMap_append, List.take_append_drop]
  rw [this, List.drop_left' (by rw [flatM_len, List.length_take]; congr 1; omega)]
theorem MtS.pre {H : Hp} {ad : Option Addr} {cap : Nat} {l : List Mt} (h : SlR H 3 (.slice ad l.length cap) l.length (l.flatMap encM)) {k : Nat} (hk : k ≤ l.length) : SlR H 3 (.slice ad ((k : Nat) : Int).toNat cap) k ((l.take k).flatMap encM) := by
  have := h.pre hk
  rw [takeM l k hk] at this
  rw [Int.toNat_natCast]; exact this
theorem MtS.suf {H : Hp} {ad : Option Addr} {cap : Nat} {l : List Mt} (h : SlR H 3 (.slice ad l.length cap) l.length (l.flatMap encM)) {k : Nat} (hk : k ≤ l.length) : SlR H 3 (slV 3 ad ((k : Nat) : Int).toNat l.length cap) (l.length - k) ((l.drop k).flatMap encM) := by
  have := h.slice (lo := k) (hi := l.length) hk (Nat.le_refl _)
  rw [dropM l k hk, List.take_of_length_le (by rw [flatM_len, List.length_drop]; omega)] at this
  rw [Int.toNat_natCast]; exact this
theorem one_flatM {H : Hp} {l : List Mt} (h : ∀ m ∈ l, LabOk H m) : ∀ v ∈ l.flatMap encM, v.oneCell' = true := by
  intro v hv
  obtain ⟨s, hs, hs2⟩ := List.mem_flatMap.1 hv
  exact one_encM (h s hs) v hs2
theorem T.sub {P : Program} {X : Cx} {e : Env} {l l' : List (Nat × Obj)} {H : Hp} {D : List Deferred} {k : List It} (hl : List.Sublist l' l) (h : T P X e l' H D k) : T P X e l H D k := T.mk fun a w ha hw => h.get a w ha (hw.sub hl)
/-- the rest once, for all that a region may have come to -/
theorem T.cut1F {P : Program} {X : Cx} {e : Env} {l : List (Nat × Obj)} {H : Hp} {D : List Deferred} {a : It} {k : List It} {γ : Type} (C : γ → Prop) (e' : γ → Env) (l' : γ → List (Nat × Obj)) (K : ∀ g, C g → T P X (e' g) (l' g) H D k)
    (h : (∀ g e l, C g → Env.Sub (e' g) e → List.Sublist (l' g) l → T P X e l H D k) → T P X e l H D (a :: k)) : T P X e l H D (a :: k) :=
  h fun g _ _ hc he hl => T.weak he hl (K g hc)
theorem PV.nilCheck {P : Program} {e : Env} {l : List (Nat × Obj)} {H : Hp} {dst : Option Tmp} {ty : TypeId} {pos : String} {after : Array Edge} {gd : Option (Nat × Bool)} {x : Operand} {ad : Addr} (hx : evE e x = some (.pointer (some ad))) : PV P e l H ⟨dst, .nilCheck x, ty, pos, after, gd⟩ (.pointer (some ad)) := PV.mk fun X D a w ha hw => by
  simp [execOp, ha.eval hx]
theorem mod_fn (x n : Int) (H : Hp) (_hx : -9223372036854775808 ≤ x ∧ x ≤ 9223372036854775807) (hn : 1 ≤ n ∧ n ≤ 1000000) : Fn Tryz.prog 21 #[.int .i64 x, .int .i64 n] H (fun u _ => u = .int .i64 (x % n)) := by
  refine Fn.of_T (vs := [.int .i64 x, .int .i64 n]) Tryz.func21 rfl rfl fun w => ?_
  have hb : -n < x.tmod n ∧ x.tmod n < n := by
    have h1 := Int.tmod_lt_of_pos x (by omega : 0 < n)
    have h2 := Int.lt_tmod_of_pos x (by omega : 0 < n)
    exact ⟨h2, h1⟩
  have he : x % n = if x.tmod n < 0 then x.tmod n + n else x.tmod n := by
    have h0 := Int.emod_nonneg x (by omega : n ≠ 0)
    have h1 := Int.emod_lt_of_pos x (by omega : 0 < n)
    have h2 : x % n = (x.tmod n) % n := by
      have h3 : x.tmod n + n * x.tdiv n = x := Int.tmod_add_mul_tdiv x n
      conv => lhs; rw [← h3]
      rw [Int.add_mul_emod_self_left]
    split
    · rw [h2, ← Int.add_emod_right]; exact Int.emod_eq_of_lt (by omega) (by omega)
    · rw [h2]; exact Int.emod_eq_of_lt (by omega) (by omega)
  rw [he]
  refine yq25 ?_; refine yq14 ?_; refine yq3 ?_; refine yq22 ?_; refine yq137 ?_; refine sv (PV.rem rfl rfl (by omega)) ?_; refine yq127 ?_; refine yq3 ?_
  split
  · refine sc rfl (by omega) ?_; refine yq81 ?_; refine yq185 ?_; refine yq56 ?_; refine yq0 ?_
    exact T.retF (Lv.fin (RV.tmp rfl rfl) rfl)
  · refine yq22 ?_; refine yq140 ?_
    exact T.retF (Lv.fin (RV.tmp rfl rfl) rfl)
/-- a tape: at most 120 numbers that are only read, and a place -/
structure Tp where
  v : Value
  xs : List Int
  at_ : Nat
def Tp.ok (H : Hp) (t : Tp) : Prop := InL H t.v t.xs ∧ t.xs.length ≤ 120 ∧ t.at_ ≤ t.xs.length ∧ ∀ x ∈ t.xs, -9223372036854775808 ≤ x ∧ x ≤ 9223372036854775807
def Tp.blk (b : Nat) (t : Tp) : Nat × Obj := (b, .cells #[t.v, .int .i64 (t.at_ : Int)] 64 (0, 0))
theorem Tp.ok.mono {H H' : Hp} {t : Tp} (h : t.ok H) (hl : H.le H') : t.ok H' := ⟨h.1.mono hl, h.2⟩
theorem SlR.pre1 {H : Hp} {ad : Option Addr} {cap : Nat} {l : List Int} (h : SlR H 1 (.slice ad l.length cap) l.length (intsV l)) {k : Nat} (hk : k ≤ l.length) : InL H (.slice ad k cap) (l.take k) := by
  have := h.pre hk
  have e : (l.take k).length = k := by rw [List.length_take]; omega
  have e2 : (intsV l).take (k * 1) = intsV (l.take k) := by
    have e3 : intsV l = intsV (l.take k) ++ intsV (l.drop k) := by unfold intsV; rw [← List.flatMap_append, List.take_append_drop]
    rw [e3, List.take_left' (by rw [ints_len, e, Nat.mul_one])]
  unfold InL
  rw [e, ← e2]; exact this
theorem new_fn (l : List Int) (v : Value) (H : Hp) (hv : InL H v l) (hl : l.length ≤ 9223372036854775807) (hr : ∀ x ∈ l, -9223372036854775808 ≤ x ∧ x ≤ 9223372036854775807) : FnW Tryz.prog 9 #[v] H [] (fun u H' l' => H = H' ∧ ∃ b t, u = .pointer (some ⟨b, 0, none⟩) ∧ t.ok H ∧ l' = [Tp.blk b t]) := by
  obtain ⟨ad, cap, rfl⟩ := hv.len
  have hcap := hv.cap
  refine FnW.of_T (vs := [.slice ad l.length cap]) Tryz.func9 rfl rfl fun w => ?_
  by_cases h : 120 < l.length
  · refine yq25 ?_; refine yq176 ?_; refine yq46 ?_; refine yq81 ?_; refine sv (PV.sliceH rfl rfl (by omega)) ?_; refine yq56 ?_; refine sv (PV.build rfl zq12) ?_; (refine T.box Wanted.none rfl rfl zq15 ?_; intro b10); refine yq0 ?_
    refine T.retW (Lv.finW _ (List.Sublist.refl _) (RV.tmp rfl rfl) ⟨rfl, _, ⟨.slice ad 120 cap, l.take 120, 0⟩, rfl, ⟨hv.pre1 (by omega), by rw [List.length_take]; omega, by simp, fun x hx => hr x (List.mem_of_mem_take hx)⟩, rfl⟩)
  · refine yq25 ?_; refine yq176 ?_; refine yq88 ?_; refine yq2 ?_; refine sv (PV.build rfl zq12) ?_; (refine T.box Wanted.none rfl rfl zq15 ?_; intro b10); refine yq0 ?_
    refine T.retW (Lv.finW _ (List.Sublist.refl _) (RV.tmp rfl rfl) ⟨rfl, _, ⟨.slice ad l.length cap, l, 0⟩, rfl, ⟨hv, by dsimp only; omega, by simp, hr⟩, rfl⟩)
theorem next_fn (b : Nat) (t : Tp) (n : Int) (H : Hp) (ht : t.ok H) (hn : 1 ≤ n ∧ n ≤ 1000000) : FnW Tryz.prog 29 #[.pointer (some ⟨b, 0, none⟩), .int .i64 n] H [Tp.blk b t] (fun u H' l' => H = H' ∧ ∃ x t', u = .int .i64 x ∧ (0 ≤ x ∧ x < n) ∧ t'.ok H ∧ l' = [Tp.blk b t']) := by
  obtain ⟨v, xs, i⟩ := t
  obtain ⟨h1, h2, h3, h4⟩ := ht
  dsimp only at h1 h2 h3 h4
  obtain ⟨ad, cap, rfl⟩ := h1.len
  refine FnW.of_T (vs := [.pointer (some ⟨b, 0, none⟩), .int .i64 n]) Tryz.func29 rfl rfl fun w => ?_
  unfold Tp.blk
  dsimp only
  by_cases hi : i < xs.length
  · obtain ⟨x, hx⟩ : ∃ x, xs[i]? = some x := ⟨_, List.getElem?_eq_getElem hi⟩
    obtain ⟨bs, off, rfl, hsub0⟩ := h1.intAt hx
    have hsub : SubC H bs (off + ((i : Int) + 1 - 1).toNat * 1) [.int .i64 x] := by rwa [show ((i : Int) + 1 - 1).toNat = i by omega]
    clear hsub0
    have hm := mod_fn x n H (h4 x (List.mem_of_getElem? hx)) hn
    refine yq25 ?_; refine sq ?_; refine sq ?_; refine yq39 ?_; refine TQ.pv (PV.nilCheck rfl) Wanted.none rfl rfl ?_; refine yq6 ?_; refine TQ.pv (PV.move rfl) Wanted.none rfl rfl ?_; refine TQ.pv (PV.nilCheck rfl) Wanted.none rfl rfl ?_; refine yq6 ?_; refine TQ.pv (PV.lenSl rfl) Wanted.none rfl rfl ?_; refine TQ.pv (PV.geq rfl rfl) Wanted.none rfl rfl ?_; refine TQ.nil ?_; refine yq22 ?_; refine yq2 ?_; refine sv (PV.nilCheck rfl) ?_; refine yq5 ?_; refine sv (PV.add rfl rfl (by omega)) ?_; refine sv (PV.nilCheck rfl) ?_; refine yq116 ?_; refine so ?_; refine sq ?_; refine yq39 ?_; refine TQ.pv (PV.nilCheck rfl) Wanted.none rfl rfl ?_; refine yq6 ?_; refine TQ.pv (PV.move rfl) Wanted.none rfl rfl ?_; refine TQ.pv (PV.nilCheck rfl) Wanted.none rfl rfl ?_; refine yq6 ?_; refine TQ.pv (PV.sub rfl rfl (by omega)) Wanted.none rfl rfl ?_
    refine TQ.pv (PV.indexAddr rfl rfl (by omega)) Wanted.none rfl rfl ?_; refine TQ.pv (PV.loadSub0 rfl (by assumption)) Wanted.none rfl rfl ?_; refine TQ.pv (PV.move rfl) Wanted.none rfl rfl ?_; refine TQ.callV Wanted.none rfl rfl (hm) ?_; refine yq188 ?_
    refine T.retW (Lv.finW _ (List.Sublist.refl _) (RV.tmp rfl rfl) ⟨rfl, x % n, ⟨.slice (some ⟨bs, off, none⟩) xs.length cap, xs, i + 1⟩, rfl, ⟨Int.emod_nonneg _ (by omega), Int.emod_lt_of_pos _ (by omega)⟩, ⟨h1, h2, by dsimp only; omega, h4⟩, ?_⟩)
    rfl
  · refine yq25 ?_; refine sq ?_; refine sq ?_; refine yq39 ?_; refine TQ.pv (PV.nilCheck rfl) Wanted.none rfl rfl ?_; refine yq6 ?_; refine TQ.pv (PV.move rfl) Wanted.none rfl rfl ?_; refine TQ.pv (PV.nilCheck rfl) Wanted.none rfl rfl ?_; refine yq6 ?_; refine TQ.pv (PV.lenSl rfl) Wanted.none rfl rfl ?_; refine TQ.pv (PV.geq rfl rfl) Wanted.none rfl rfl ?_; refine TQ.nil ?_; refine sc rfl (by omega) ?_; refine yq25 ?_
    refine T.retW (Lv.finW _ (List.Sublist.refl _) (RV.tmp rfl rfl) ⟨rfl, 0, ⟨.slice ad xs.length cap, xs, i⟩, rfl, ⟨by omega, by omega⟩, ⟨h1, h2, h3, h4⟩, rfl⟩)
end Go.Proofs.YthacphfjchpoaaaGreatDoor
