/- table: Valid: the program.
   table: Valid: the reference. -/
import Derived.Test.YthacphfjchpoaaaGreatDoorGH
namespace Go.Proofs.YthacphfjchpoaaaGreatDoor
open Go.RowKit

theorem PV.mapIs {P : Program} {e : Env} {l : List (Nat × Obj)} {H : Hp} {dst : Option Tmp} {ty : TypeId} {pos : String} {after : Array Edge} {gd : Option (Nat × Bool)} {t kt vt : TypeId} {z v : Value} (hm : P.underlying t = some (.map kt vt)) (hk : P.underlying kt = some .string) (hz : ∀ w, (zeroValue vt).run P w = .ok z w) {x y : Operand} {b : Nat} {es : Array MapEntry} {clock : Nat} {ks : List (ByteArray × Value)} {s : ByteArray}
    (hx : evE e x = some (.map (some b))) (hy : evE e y = some (.string s)) (hs : MapS es.toList ks) (hl : (b, Obj.map es clock) ∈ l) (hv : (lookS ks s).getD z = v) :
    PV P e l H ⟨dst, .lookup t x y false, ty, pos, after, gd⟩ v := by
  rw [← hv]
  exact PV.mapGet hm hk hz hx hy hs hl
def seenM (l : List RK) : List (ByteArray × Value) := l.map fun r => (joinB r.1, .bool true)
theorem look_seen (k : List ByteArray) (l : List RK) : lookS (seenM l) (joinB k) = if (∀ x ∈ l, x.1 ≠ k) then none else some (.bool true) := by
  refine snocInd (C := fun l => lookS (seenM l) (joinB k) = if (∀ x ∈ l, x.1 ≠ k) then none else some (.bool true)) rfl (fun l x ih => ?_) l
  unfold seenM at *
  rw [List.map_append, List.map_cons, List.map_nil, lookS_snoc, ih]
  by_cases h1 : ∀ y ∈ l, y.1 ≠ k
  · rw [if_pos h1]
    dsimp only
    by_cases h2 : x.1 = k
    · rw [if_pos (by rw [h2]), if_neg]
      intro h
      exact h x (List.mem_append_right _ (List.mem_singleton.2 rfl)) h2
    · rw [if_neg (fun h => h2 (joinB_inj h)), if_pos]
      intro y hy
      rcases List.mem_append.1 hy with hy | hy
      · exact h1 y hy
      · rw [List.mem_singleton] at hy; subst hy; exact h2
  · rw [if_neg h1]
    dsimp only
    rw [if_neg]
    intro h
    exact h1 fun y hy => h y (List.mem_append_left _ hy)
structure VlG where
  i : Nat
  es : Array MapEntry
  ck : Nat
set_option maxRecDepth 4000 in
set_option maxHeartbeats 8000000 in
theorem valid_in (L : List Rw) (v : Value) (H : Hp) (hT : PowT H) (hL : RwL H v L) (hLl : L.length ≤ 1000) :
    Fn Tryz.prog 22 #[v] H (fun u _ => u = .bool (validR (L.map rwK))) := by
  obtain ⟨am, cm, rfl⟩ := hL.1.len
  obtain ⟨F, hF⟩ : ∃ F, F = L.map rwK := ⟨_, rfl⟩
  have hFl : F.length = L.length := by rw [hF, List.length_map]
  refine Fn.of_T (vs := [.slice am L.length cm]) Tryz.func22 rfl rfl fun w => ?_
  rw [← hF]
  refine yq25 ?_
  (repeat refine sq ?_)
  refine sr ?_; refine T.newMap Wanted.none rfl ?_
  intro b7
  refine yq0 ?_; refine yq112 ?_; refine T.loopK [(9, Value.int IntKind.i64 (↑L.length : Int)), (8, Value.slice am L.length cm), (3, Value.map (some b7)), (0, Value.slice am L.length cm)] zq8 (γ := VlG) (fun g => g.i ≤ L.length ∧ (∀ j r, j < g.i → F[j]? = some r → okR (keysN F) (F.take j) r = true) ∧ MapS g.es.toList (seenM (F.take g.i))) (fun g => [(10, .int .i64 (g.i : Int))]) (fun g => [(b7, .map g.es g.ck)]) (fun _ => H) (fun g => L.length - g.i) ⟨0, #[], 0⟩ ⟨by simp, by simp, by simp [MapS, seenM]⟩ zq8 (by repeat (first | exact Sel.refl _ | exact Sel.nil | (refine Sel.cons zq1 ?_) | (refine Sel.app zq1 ?_) | exact Sel.one zq1)) rfl ?_
  rintro ⟨i, es, ck⟩ ⟨g1, g2, g3⟩
  dsimp only at g1 g2 g3 ⊢
  by_cases hi : i < L.length
  · obtain ⟨bx, off, r, rfl, hix, hsub⟩ := RowL.get encRw_len hL.1 hi
    have hmm := List.mem_of_getElem? hix
    have hrok := hL.2 r hmm
    obtain ⟨ar, cr, hrv⟩ := hrok.1.len
    have hrs := hrok.1
    rw [hrv] at hrs
    unfold encRw at hsub
    rw [hrv] at hsub
    have hjn := join_fn r.ks _ H hT hrs hrok.2.1 hrok.2.2
    have hFi : F[i]? = some (rwK r) := by rw [hF, List.getElem?_map, hix]; rfl
    obtain ⟨b0, off0, r0, hye, h0x, hsub0⟩ := RowL.get encRw_len hL.1 (show 0 < L.length by omega)
    simp only [Option.some.injEq, Addr.mk.injEq, and_true] at hye
    obtain ⟨rfl, rfl⟩ := hye
    have hr0ok := hL.2 r0 (List.mem_of_getElem? h0x)
    obtain ⟨ar0, cr0, hr0v⟩ := hr0ok.1.len
    unfold encRw at hsub0
    rw [hr0v] at hsub0
    have hkn : keysN F = r0.ks.length := by
      rw [hF]
      cases hLc : L with
      | nil => rw [hLc] at hi; simp at hi
      | cons a l => rw [hLc] at h0x; simp at h0x; subst h0x; rfl
    have hlk := look_seen r.ks (F.take i)
    have hmp : Tryz.prog.underlying 86 = some (.map 9 4) := by kernel_rfl
    have hkp : Tryz.prog.underlying 9 = some .string := by kernel_rfl
    have hzp : ∀ w, (zeroValue 4).run Tryz.prog w = .ok (.bool false) w := fun _ => by kernel_rfl
    have hbad : okR (keysN F) (F.take i) (rwK r) = false → validR F = false := fun h => validR_not hFi h
    refine yq155 ?_; refine sy fun b5 => ?_; refine sa ?_; refine yq115 ?_; refine T.callV Wanted.none rfl rfl (hjn) ?_; refine yq0 ?_
    have hsub0' : SubC H bx (off + (0 : Int).toNat * 2) [.slice ar0 r0.ks.length cr0, .int .i64 r0.n] := hsub0
    rw [hkn] at hbad
    by_cases c1 : r.ks.length < 1
    · have d1 : decide ((r.ks.length : Int) < 1) = true := decide_eq_true (by omega)
      (repeat refine sq ?_)
      refine T.regionO [(b5, .cells #[.slice ar r.ks.length cr, .int .i64 r.n] 52 (0, 0)), (b7, .map es ck)] (by kernel_rfl) ?_; refine yq40 ?_; refine yq121 ?_; refine TO.pass 5 rfl (by kernel_rfl) (by kernel_rfl) (by kernel_rfl) (Unwanted.guard rfl rfl (by assumption)) rfl rfl ?_; refine TO.pass 6 rfl (by kernel_rfl) (by kernel_rfl) (by kernel_rfl) (Unwanted.guard rfl rfl (by assumption)) rfl rfl ?_; refine TO.pass 7 rfl (by kernel_rfl) (by kernel_rfl) (by kernel_rfl) (Unwanted.guard rfl rfl (by assumption)) rfl rfl ?_; refine TO.pass 8 rfl (by kernel_rfl) (by kernel_rfl) (by kernel_rfl) (Unwanted.guard rfl rfl (by assumption)) rfl rfl ?_; refine TO.take 9 rfl (by kernel_rfl) (by kernel_rfl) (by kernel_rfl) (PV.pickT rfl (by assumption) rfl) Wanted.none rfl rfl ?_; refine TO.take 10 rfl (by kernel_rfl) (by kernel_rfl) (by kernel_rfl) (PV.move rfl) Wanted.none rfl rfl ?_; refine TO.pass 11 rfl (by kernel_rfl) (by kernel_rfl) (by kernel_rfl) (Unwanted.guard rfl rfl rfl) rfl rfl ?_; refine TO.pass 12 rfl (by kernel_rfl) (by kernel_rfl) (by kernel_rfl) (Unwanted.guard rfl rfl rfl) rfl rfl ?_; refine TO.pass 13 rfl (by kernel_rfl) (by kernel_rfl) (by kernel_rfl) (Unwanted.guard rfl rfl rfl) rfl rfl ?_; refine TO.pass 14 rfl (by kernel_rfl) (by kernel_rfl) (by kernel_rfl) (Unwanted.guard rfl rfl rfl) rfl rfl ?_; refine TO.pass 15 rfl (by kernel_rfl) (by kernel_rfl) (by kernel_rfl) (Unwanted.guard rfl rfl rfl) rfl rfl ?_; refine TO.pass 16 rfl (by kernel_rfl) (by kernel_rfl) (by kernel_rfl) (Unwanted.guard rfl rfl rfl) rfl rfl ?_; refine TO.pass 17 rfl (by kernel_rfl) (by kernel_rfl) (by kernel_rfl) (Unwanted.guard rfl rfl rfl) rfl rfl ?_; refine TO.pass 18 rfl (by kernel_rfl) (by kernel_rfl) (by kernel_rfl) (Unwanted.guard rfl rfl rfl) rfl rfl ?_; refine TO.pass 19 rfl (by kernel_rfl) (by kernel_rfl) (by kernel_rfl) (Unwanted.guard rfl rfl rfl) rfl rfl ?_; refine TO.take 20 rfl (by kernel_rfl) (by kernel_rfl) (by kernel_rfl) (PV.pickT rfl rfl rfl) Wanted.none rfl rfl ?_; refine TO.take 21 rfl (by kernel_rfl) (by kernel_rfl) (by kernel_rfl) (PV.move rfl) Wanted.none rfl rfl ?_; refine TO.pass 22 rfl (by kernel_rfl) (by kernel_rfl) (by kernel_rfl) (Unwanted.guard rfl rfl rfl) rfl rfl ?_; refine TO.pass 23 rfl (by kernel_rfl) (by kernel_rfl) (by kernel_rfl) (Unwanted.guard rfl rfl rfl) rfl rfl ?_; refine TO.pass 24 rfl (by kernel_rfl) (by kernel_rfl) (by kernel_rfl) (Unwanted.guard rfl rfl rfl) rfl rfl ?_; refine TO.take 25 rfl (by kernel_rfl) (by kernel_rfl) (by kernel_rfl) (PV.pickT rfl rfl rfl) Wanted.none rfl rfl ?_; refine TO.take 26 rfl (by kernel_rfl) (by kernel_rfl) (by kernel_rfl) (PV.move rfl) Wanted.none rfl rfl ?_; refine TO.pass 27 rfl (by kernel_rfl) (by kernel_rfl) (by kernel_rfl) (Unwanted.guard rfl rfl rfl) rfl rfl ?_; refine TO.pass 28 rfl (by kernel_rfl) (by kernel_rfl) (by kernel_rfl) (Unwanted.guard rfl rfl rfl) rfl rfl ?_; refine TO.pass 29 rfl (by kernel_rfl) (by kernel_rfl) (by kernel_rfl) (Unwanted.guard rfl rfl rfl) rfl rfl ?_; refine TO.take 30 rfl (by kernel_rfl) (by kernel_rfl) (by kernel_rfl) (PV.pickT rfl rfl rfl) Wanted.none rfl rfl ?_; refine yq167 ?_; refine yq170 ?_
      refine yq175 ?_; refine TO.done (by kernel_rfl) zq4 zq17 ?_; refine yq196 ?_
      exact T.retF (Lv.fin (RV.tmp rfl rfl) (by rw [hbad (by unfold okR rwK; simp only []; rw [decide_eq_false (by omega)]; rfl)]))
    have d1 : decide ((r.ks.length : Int) < 1) = false := decide_eq_false (by omega)
    by_cases c2 : 4 < r.ks.length
    · have d2 : decide ((4 : Int) < (r.ks.length : Int)) = true := decide_eq_true (by omega)
      (repeat refine sq ?_)
      refine T.regionO [(b5, .cells #[.slice ar r.ks.length cr, .int .i64 r.n] 52 (0, 0)), (b7, .map es ck)] (by kernel_rfl) ?_; refine yq40 ?_; refine yq121 ?_; refine yq51 ?_; refine yq58 ?_; refine yq70 ?_; refine TO.pass 11 rfl (by kernel_rfl) (by kernel_rfl) (by kernel_rfl) (Unwanted.guard rfl rfl (by assumption)) rfl rfl ?_; refine TO.pass 12 rfl (by kernel_rfl) (by kernel_rfl) (by kernel_rfl) (Unwanted.guard rfl rfl (by assumption)) rfl rfl ?_; refine TO.pass 13 rfl (by kernel_rfl) (by kernel_rfl) (by kernel_rfl) (Unwanted.guard rfl rfl (by assumption)) rfl rfl ?_; refine TO.pass 14 rfl (by kernel_rfl) (by kernel_rfl) (by kernel_rfl) (Unwanted.guard rfl rfl (by assumption)) rfl rfl ?_; refine TO.pass 15 rfl (by kernel_rfl) (by kernel_rfl) (by kernel_rfl) (Unwanted.guard rfl rfl (by assumption)) rfl rfl ?_; refine TO.pass 16 rfl (by kernel_rfl) (by kernel_rfl) (by kernel_rfl) (Unwanted.guard rfl rfl (by assumption)) rfl rfl ?_; refine TO.pass 17 rfl (by kernel_rfl) (by kernel_rfl) (by kernel_rfl) (Unwanted.guard rfl rfl (by assumption)) rfl rfl ?_; refine TO.pass 18 rfl (by kernel_rfl) (by kernel_rfl) (by kernel_rfl) (Unwanted.guard rfl rfl (by assumption)) rfl rfl ?_; refine TO.pass 19 rfl (by kernel_rfl) (by kernel_rfl) (by kernel_rfl) (Unwanted.guard rfl rfl (by assumption)) rfl rfl ?_; refine TO.take 20 rfl (by kernel_rfl) (by kernel_rfl) (by kernel_rfl) (PV.pickT rfl (by assumption) rfl) Wanted.none rfl rfl ?_; refine TO.take 21 rfl (by kernel_rfl) (by kernel_rfl) (by kernel_rfl) (PV.move rfl) Wanted.none rfl rfl ?_; refine TO.pass 22 rfl (by kernel_rfl) (by kernel_rfl) (by kernel_rfl) (Unwanted.guard rfl rfl rfl) rfl rfl ?_; refine TO.pass 23 rfl (by kernel_rfl) (by kernel_rfl) (by kernel_rfl) (Unwanted.guard rfl rfl rfl) rfl rfl ?_; refine TO.pass 24 rfl (by kernel_rfl) (by kernel_rfl) (by kernel_rfl) (Unwanted.guard rfl rfl rfl) rfl rfl ?_; refine TO.take 25 rfl (by kernel_rfl) (by kernel_rfl) (by kernel_rfl) (PV.pickT rfl rfl rfl) Wanted.none rfl rfl ?_; refine TO.take 26 rfl (by kernel_rfl) (by kernel_rfl) (by kernel_rfl) (PV.move rfl) Wanted.none rfl rfl ?_; refine TO.pass 27 rfl (by kernel_rfl) (by kernel_rfl) (by kernel_rfl) (Unwanted.guard rfl rfl rfl) rfl rfl ?_; refine TO.pass 28 rfl (by kernel_rfl) (by kernel_rfl) (by kernel_rfl) (Unwanted.guard rfl rfl rfl) rfl rfl ?_; refine TO.pass 29 rfl (by kernel_rfl) (by kernel_rfl) (by kernel_rfl) (Unwanted.guard rfl rfl rfl) rfl rfl ?_; refine TO.take 30 rfl (by kernel_rfl) (by kernel_rfl) (by kernel_rfl) (PV.pickT rfl rfl rfl) Wanted.none rfl rfl ?_; refine yq167 ?_; refine yq170 ?_
      refine yq175 ?_; refine TO.done (by kernel_rfl) zq4 zq17 ?_; refine yq196 ?_
      exact T.retF (Lv.fin (RV.tmp rfl rfl) (by rw [hbad (by unfold okR rwK; simp only []; rw [decide_eq_false (show ¬ r.ks.length ≤ 4 by omega)]; simp)]))
    have d2 : decide ((4 : Int) < (r.ks.length : Int)) = false := decide_eq_false (by omega)
    by_cases c3 : r.ks.length = r0.ks.length
    rotate_left
    · have d3 : decide ((r.ks.length : Int) ≠ (r0.ks.length : Int)) = true := decide_eq_true (by omega)
      (repeat refine sq ?_)
      refine T.regionO [(b5, .cells #[.slice ar r.ks.length cr, .int .i64 r.n] 52 (0, 0)), (b7, .map es ck)] (by kernel_rfl) ?_; refine yq40 ?_; refine yq121 ?_; refine yq51 ?_; refine yq58 ?_; refine yq70 ?_; refine yq128 ?_; refine yq67 ?_; refine yq65 ?_; refine yq71 ?_; refine yq79 ?_; refine TO.pass 22 rfl (by kernel_rfl) (by kernel_rfl) (by kernel_rfl) (Unwanted.guard rfl rfl (by assumption)) rfl rfl ?_; refine TO.pass 23 rfl (by kernel_rfl) (by kernel_rfl) (by kernel_rfl) (Unwanted.guard rfl rfl (by assumption)) rfl rfl ?_; refine TO.pass 24 rfl (by kernel_rfl) (by kernel_rfl) (by kernel_rfl) (Unwanted.guard rfl rfl (by assumption)) rfl rfl ?_; refine TO.take 25 rfl (by kernel_rfl) (by kernel_rfl) (by kernel_rfl) (PV.pickT rfl (by assumption) rfl) Wanted.none rfl rfl ?_; refine TO.take 26 rfl (by kernel_rfl) (by kernel_rfl) (by kernel_rfl) (PV.move rfl) Wanted.none rfl rfl ?_; refine TO.pass 27 rfl (by kernel_rfl) (by kernel_rfl) (by kernel_rfl) (Unwanted.guard rfl rfl rfl) rfl rfl ?_; refine TO.pass 28 rfl (by kernel_rfl) (by kernel_rfl) (by kernel_rfl) (Unwanted.guard rfl rfl rfl) rfl rfl ?_; refine TO.pass 29 rfl (by kernel_rfl) (by kernel_rfl) (by kernel_rfl) (Unwanted.guard rfl rfl rfl) rfl rfl ?_; refine TO.take 30 rfl (by kernel_rfl) (by kernel_rfl) (by kernel_rfl) (PV.pickT rfl rfl rfl) Wanted.none rfl rfl ?_; refine yq167 ?_; refine yq170 ?_
      refine yq175 ?_; refine TO.done (by kernel_rfl) zq4 zq17 ?_; refine yq196 ?_
      exact T.retF (Lv.fin (RV.tmp rfl rfl) (by rw [hbad (by unfold okR rwK; simp only []; rw [decide_eq_false c3]; simp)]))
    have d3 : decide ((r.ks.length : Int) ≠ (r0.ks.length : Int)) = false := decide_eq_false (by omega)
    by_cases c4 : r.n < 1
    · have d4 : decide (r.n < 1) = true := decide_eq_true c4
      (repeat refine sq ?_)
      refine T.regionO [(b5, .cells #[.slice ar r.ks.length cr, .int .i64 r.n] 52 (0, 0)), (b7, .map es ck)] (by kernel_rfl) ?_; refine yq40 ?_; refine yq121 ?_; refine yq51 ?_; refine yq58 ?_; refine yq70 ?_; refine yq128 ?_; refine yq67 ?_; refine yq65 ?_; refine yq71 ?_; refine yq182 ?_; refine TO.pass 27 rfl (by kernel_rfl) (by kernel_rfl) (by kernel_rfl) (Unwanted.guard rfl rfl (by assumption)) rfl rfl ?_; refine TO.pass 28 rfl (by kernel_rfl) (by kernel_rfl) (by kernel_rfl) (Unwanted.guard rfl rfl (by assumption)) rfl rfl ?_; refine TO.pass 29 rfl (by kernel_rfl) (by kernel_rfl) (by kernel_rfl) (Unwanted.guard rfl rfl (by assumption)) rfl rfl ?_; refine TO.take 30 rfl (by kernel_rfl) (by kernel_rfl) (by kernel_rfl) (PV.pickT rfl (by assumption) rfl) Wanted.none rfl rfl ?_; refine yq167 ?_; refine yq170 ?_
      refine yq175 ?_; refine TO.done (by kernel_rfl) zq4 zq17 ?_; refine yq196 ?_
      exact T.retF (Lv.fin (RV.tmp rfl rfl) (by rw [hbad (by unfold okR rwK; simp only []; rw [decide_eq_false (show ¬ 1 ≤ r.n by omega)]; simp)]))
    have d4 : decide (r.n < 1) = false := decide_eq_false c4
    by_cases c5 : ∀ x ∈ F.take i, x.1 ≠ r.ks
    rotate_left
    · have hsee : (lookS (seenM (F.take i)) (joinB r.ks)).getD (.bool false) = .bool true := by rw [hlk, if_neg c5]; rfl
      (repeat refine sq ?_)
      refine T.regionO [(b5, .cells #[.slice ar r.ks.length cr, .int .i64 r.n] 52 (0, 0)), (b7, .map es ck)] (by kernel_rfl) ?_; refine yq40 ?_; refine yq121 ?_; refine yq51 ?_; refine yq58 ?_; refine yq70 ?_; refine yq128 ?_; refine yq67 ?_; refine yq65 ?_; refine yq71 ?_; refine yq182 ?_; refine TO.take 27 rfl (by kernel_rfl) (by kernel_rfl) (by kernel_rfl) (PV.move rfl) (Wanted.guard rfl rfl (by assumption)) rfl rfl ?_; refine TO.take 28 rfl (by kernel_rfl) (by kernel_rfl) (by kernel_rfl) (PV.move rfl) (Wanted.guard rfl rfl (by assumption)) rfl rfl ?_; refine TO.take 29 rfl (by kernel_rfl) (by kernel_rfl) (by kernel_rfl) (PV.mapIs (by assumption) (by assumption) (by assumption) rfl rfl (by assumption) zq2 (by assumption)) (Wanted.guard rfl rfl (by assumption)) rfl rfl ?_; refine TO.take 30 rfl (by kernel_rfl) (by kernel_rfl) (by kernel_rfl) (PV.pickF rfl (by assumption) rfl) Wanted.none rfl rfl ?_; refine yq167 ?_; refine yq170 ?_
      refine yq175 ?_; refine TO.done (by kernel_rfl) zq4 zq17 ?_; refine yq196 ?_
      exact T.retF (Lv.fin (RV.tmp rfl rfl) (by rw [hbad (by unfold okR rwK; simp only []; rw [decide_eq_false c5]; simp)]))
    have hsee : (lookS (seenM (F.take i)) (joinB r.ks)).getD (.bool false) = .bool false := by rw [hlk, if_pos c5]; rfl
    by_cases c6 : i = 0
    · have d6 : decide ((0 : Int) < (i : Int)) = false := decide_eq_false (by omega)
      have hok : okR (keysN F) (F.take i) (rwK r) = true := by
        unfold okR
        simp only [Bool.and_eq_true, decide_eq_true_eq]
        exact ⟨show 1 ≤ r.ks.length by omega, show r.ks.length ≤ 4 by omega, hkn.symm ▸ c3, show 1 ≤ r.n by omega, c5, by rw [c6]; rfl⟩
      have hst : ∀ j q, j < i + 1 → F[j]? = some q → okR (keysN F) (F.take j) q = true := by
        intro j q hj hq
        by_cases hji : j < i
        · exact g2 j q hji hq
        · obtain rfl : j = i := by omega
          rw [hFi] at hq
          obtain rfl := Option.some.inj hq
          exact hok
      have htk : F.take (i + 1) = F.take i ++ [rwK r] := by rw [List.take_add_one, hFi]; rfl
      (repeat refine sq ?_)
      refine T.regionO [(b5, .cells #[.slice ar r.ks.length cr, .int .i64 r.n] 52 (0, 0)), (b7, .map es ck)] (by kernel_rfl) ?_; refine yq40 ?_; refine yq121 ?_; refine yq51 ?_; refine yq58 ?_; refine yq70 ?_; refine yq128 ?_; refine yq67 ?_; refine yq65 ?_; refine yq71 ?_; refine yq182 ?_; refine TO.take 27 rfl (by kernel_rfl) (by kernel_rfl) (by kernel_rfl) (PV.move rfl) (Wanted.guard rfl rfl (by assumption)) rfl rfl ?_; refine TO.take 28 rfl (by kernel_rfl) (by kernel_rfl) (by kernel_rfl) (PV.move rfl) (Wanted.guard rfl rfl (by assumption)) rfl rfl ?_; refine TO.take 29 rfl (by kernel_rfl) (by kernel_rfl) (by kernel_rfl) (PV.mapIs (by assumption) (by assumption) (by assumption) rfl rfl (by assumption) zq2 (by assumption)) (Wanted.guard rfl rfl (by assumption)) rfl rfl ?_; refine TO.take 30 rfl (by kernel_rfl) (by kernel_rfl) (by kernel_rfl) (PV.pickF rfl (by assumption) rfl) Wanted.none rfl rfl ?_; refine TO.take 31 rfl (by kernel_rfl) (by kernel_rfl) (by kernel_rfl) (PV.move rfl) Wanted.none rfl rfl ?_; refine TO.take 32 rfl (by kernel_rfl) (by kernel_rfl) (by kernel_rfl) (PV.move rfl) (Wanted.guard rfl rfl rfl) rfl rfl ?_; refine TO.take 33 rfl (by kernel_rfl) (by kernel_rfl) (by kernel_rfl) (PV.gtr rfl rfl) (Wanted.guard rfl rfl rfl) rfl rfl ?_; refine TO.take 34 rfl (by kernel_rfl) (by kernel_rfl) (by kernel_rfl) (PV.move rfl) (Wanted.guard rfl rfl rfl) rfl rfl ?_; refine TO.pass 35 rfl (by kernel_rfl) (by kernel_rfl) (by kernel_rfl) (Unwanted.guard rfl rfl (by assumption)) rfl rfl ?_; refine TO.pass 36 rfl (by kernel_rfl) (by kernel_rfl) (by kernel_rfl) (Unwanted.guard rfl rfl (by assumption)) rfl rfl ?_; refine TO.pass 37 rfl (by kernel_rfl) (by kernel_rfl) (by kernel_rfl) (Unwanted.guard rfl rfl (by assumption)) rfl rfl ?_; refine TO.pass 38 rfl (by kernel_rfl) (by kernel_rfl) (by kernel_rfl) (Unwanted.guard rfl rfl (by assumption)) rfl rfl ?_
      refine TO.pass 39 rfl (by kernel_rfl) (by kernel_rfl) (by kernel_rfl) (Unwanted.guard rfl rfl (by assumption)) rfl rfl ?_; refine TO.pass 40 rfl (by kernel_rfl) (by kernel_rfl) (by kernel_rfl) (Unwanted.guard rfl rfl (by assumption)) rfl rfl ?_; refine TO.pass 41 rfl (by kernel_rfl) (by kernel_rfl) (by kernel_rfl) (Unwanted.guard rfl rfl (by assumption)) rfl rfl ?_; refine TO.pass 42 rfl (by kernel_rfl) (by kernel_rfl) (by kernel_rfl) (Unwanted.guard rfl rfl (by assumption)) rfl rfl ?_; refine TO.take 43 rfl (by kernel_rfl) (by kernel_rfl) (by kernel_rfl) (PV.pickF rfl (by assumption) rfl) (Wanted.guard rfl rfl rfl) rfl rfl ?_; refine TO.take 44 rfl (by kernel_rfl) (by kernel_rfl) (by kernel_rfl) (PV.pickF rfl rfl rfl) Wanted.none rfl rfl ?_; refine TO.done (by kernel_rfl) zq4 zq17 ?_; refine yq26 ?_; refine yq81 ?_; refine sm ?_; refine T.mapPush (kt := 9) (vt := 4) (by kernel_rfl) (by kernel_rfl) Wanted.none rfl rfl rfl g3 (by rw [hlk, if_pos c5]) [(b5, .cells #[.slice ar r.ks.length cr, .int .i64 r.n] 52 (0, 0))] rfl ?_
      intro es2 ck2 hs2
      refine so ?_; refine yq61 ?_
      exact T.nextP ⟨i + 1, es2, ck2⟩ ⟨by dsimp only; omega, hst, by dsimp only; rw [htk]; unfold seenM; rw [List.map_append]; exact hs2⟩ (by dsimp only; omega) zq8 (by repeat (first | exact Sel.refl _ | exact Sel.nil | (refine Sel.cons zq1 ?_) | (refine Sel.app zq1 ?_) | exact Sel.one zq1)) rfl
    have d6 : decide ((0 : Int) < (i : Int)) = true := decide_eq_true (by omega)
    obtain ⟨bp, offp, pr, hye, hpx, hsubp⟩ := RowL.get encRw_len hL.1 (show i - 1 < L.length by omega)
    simp only [Option.some.injEq, Addr.mk.injEq, and_true] at hye
    obtain ⟨rfl, rfl⟩ := hye
    have hprok := hL.2 pr (List.mem_of_getElem? hpx)
    obtain ⟨arp, crp, hprv⟩ := hprok.1.len
    unfold encRw at hsubp
    rw [hprv] at hsubp
    have hsubp' : SubC H bx (off + (((i : Nat) : Int) - 1).toNat * 2) [.slice arp pr.ks.length crp, .int .i64 pr.n] := by
      rw [show (((i : Nat) : Int) - 1).toNat = i - 1 by omega]; exact hsubp
    have hcm := compareR_fn pr r H hprok hrok
    unfold rwV at hcm
    rw [hprv, hrv] at hcm
    have hlast : (F.take i).getLast? = some (rwK pr) := by
      rw [List.getLast?_eq_getElem?, List.length_take, show min i F.length - 1 = i - 1 by omega, List.getElem?_take, if_pos (by omega), hF, List.getElem?_map, hpx]; rfl
    by_cases c7 : 0 ≤ cR (rwK pr) (rwK r)
    · have d7 : decide (0 ≤ cR (rwK pr) (rwK r)) = true := decide_eq_true c7
      (repeat refine sq ?_)
      refine T.regionO [(b5, .cells #[.slice ar r.ks.length cr, .int .i64 r.n] 52 (0, 0)), (b7, .map es ck)] (by kernel_rfl) ?_; refine yq40 ?_; refine yq121 ?_; refine yq51 ?_; refine yq58 ?_; refine yq70 ?_; refine yq128 ?_; refine yq67 ?_; refine yq65 ?_; refine yq71 ?_; refine yq182 ?_; refine TO.take 27 rfl (by kernel_rfl) (by kernel_rfl) (by kernel_rfl) (PV.move rfl) (Wanted.guard rfl rfl (by assumption)) rfl rfl ?_; refine TO.take 28 rfl (by kernel_rfl) (by kernel_rfl) (by kernel_rfl) (PV.move rfl) (Wanted.guard rfl rfl (by assumption)) rfl rfl ?_; refine TO.take 29 rfl (by kernel_rfl) (by kernel_rfl) (by kernel_rfl) (PV.mapIs (by assumption) (by assumption) (by assumption) rfl rfl (by assumption) zq2 (by assumption)) (Wanted.guard rfl rfl (by assumption)) rfl rfl ?_; refine TO.take 30 rfl (by kernel_rfl) (by kernel_rfl) (by kernel_rfl) (PV.pickF rfl (by assumption) rfl) Wanted.none rfl rfl ?_; refine TO.take 31 rfl (by kernel_rfl) (by kernel_rfl) (by kernel_rfl) (PV.move rfl) Wanted.none rfl rfl ?_; refine TO.take 32 rfl (by kernel_rfl) (by kernel_rfl) (by kernel_rfl) (PV.move rfl) (Wanted.guard rfl rfl rfl) rfl rfl ?_; refine TO.take 33 rfl (by kernel_rfl) (by kernel_rfl) (by kernel_rfl) (PV.gtr rfl rfl) (Wanted.guard rfl rfl rfl) rfl rfl ?_; refine TO.take 34 rfl (by kernel_rfl) (by kernel_rfl) (by kernel_rfl) (PV.move rfl) (Wanted.guard rfl rfl rfl) rfl rfl ?_; refine TO.take 35 rfl (by kernel_rfl) (by kernel_rfl) (by kernel_rfl) (PV.move rfl) (Wanted.guard rfl rfl (by assumption)) rfl rfl ?_; refine TO.take 36 rfl (by kernel_rfl) (by kernel_rfl) (by kernel_rfl) (PV.move rfl) (Wanted.guard rfl rfl (by assumption)) rfl rfl ?_; refine TO.take 37 rfl (by kernel_rfl) (by kernel_rfl) (by kernel_rfl) (PV.sub rfl rfl (by omega)) (Wanted.guard rfl rfl (by assumption)) rfl rfl ?_; refine TO.take 38 rfl (by kernel_rfl) (by kernel_rfl) (by kernel_rfl) (PV.indexAddr rfl rfl (by omega)) (Wanted.guard rfl rfl (by assumption)) rfl rfl ?_
      refine TO.take 39 rfl (by kernel_rfl) (by kernel_rfl) (by kernel_rfl) (PV.loadSubAll rfl (by assumption) (by exact rfl)) (Wanted.guard rfl rfl (by assumption)) rfl rfl ?_; refine TO.take 40 rfl (by kernel_rfl) (by kernel_rfl) (by kernel_rfl) (PV.loadAll rfl zq0 (by exact rfl)) (Wanted.guard rfl rfl (by assumption)) rfl rfl ?_; refine TO.step 41 rfl (by kernel_rfl) zq4 zq17 ?_; (refine T.callX (Wanted.guard rfl rfl (by assumption)) rfl rfl hcm ?_; rintro _ rfl); refine yq62 ?_; refine TO.take 42 rfl (by kernel_rfl) (by kernel_rfl) (by kernel_rfl) (PV.geq rfl rfl) (Wanted.guard rfl rfl (by assumption)) rfl rfl ?_; refine TO.take 43 rfl (by kernel_rfl) (by kernel_rfl) (by kernel_rfl) (PV.pickT rfl (by assumption) rfl) (Wanted.guard rfl rfl rfl) rfl rfl ?_; refine TO.take 44 rfl (by kernel_rfl) (by kernel_rfl) (by kernel_rfl) (PV.pickF rfl rfl rfl) Wanted.none rfl rfl ?_; refine TO.done (by kernel_rfl) zq4 zq17 ?_; refine T.condT rfl (by assumption) ?_; refine yq25 ?_
      exact T.retF (Lv.fin (RV.tmp rfl rfl) (by rw [hbad (by unfold okR; rw [hlast]; dsimp only; rw [decide_eq_false (show ¬ cR (rwK pr) (rwK r) < 0 by omega)]; simp)]))
    have d7 : decide (0 ≤ cR (rwK pr) (rwK r)) = false := decide_eq_false c7
    have hok : okR (keysN F) (F.take i) (rwK r) = true := by
      unfold okR
      simp only [Bool.and_eq_true, decide_eq_true_eq]
      exact ⟨show 1 ≤ r.ks.length by omega, show r.ks.length ≤ 4 by omega, hkn.symm ▸ c3, show 1 ≤ r.n by omega, c5, by rw [hlast]; exact decide_eq_true (by omega)⟩
    have hst : ∀ j q, j < i + 1 → F[j]? = some q → okR (keysN F) (F.take j) q = true := by
      intro j q hj hq
      by_cases hji : j < i
      · exact g2 j q hji hq
      · obtain rfl : j = i := by omega
        rw [hFi] at hq
        obtain rfl := Option.some.inj hq
        exact hok
    have htk : F.take (i + 1) = F.take i ++ [rwK r] := by rw [List.take_add_one, hFi]; rfl
    (repeat refine sq ?_)
    refine T.regionO [(b5, .cells #[.slice ar r.ks.length cr, .int .i64 r.n] 52 (0, 0)), (b7, .map es ck)] (by kernel_rfl) ?_; refine yq40 ?_; refine yq121 ?_; refine yq51 ?_; refine yq58 ?_; refine yq70 ?_; refine yq128 ?_; refine yq67 ?_; refine yq65 ?_; refine yq71 ?_; refine yq182 ?_; refine TO.take 27 rfl (by kernel_rfl) (by kernel_rfl) (by kernel_rfl) (PV.move rfl) (Wanted.guard rfl rfl (by assumption)) rfl rfl ?_; refine TO.take 28 rfl (by kernel_rfl) (by kernel_rfl) (by kernel_rfl) (PV.move rfl) (Wanted.guard rfl rfl (by assumption)) rfl rfl ?_; refine TO.take 29 rfl (by kernel_rfl) (by kernel_rfl) (by kernel_rfl) (PV.mapIs (by assumption) (by assumption) (by assumption) rfl rfl (by assumption) zq2 (by assumption)) (Wanted.guard rfl rfl (by assumption)) rfl rfl ?_; refine TO.take 30 rfl (by kernel_rfl) (by kernel_rfl) (by kernel_rfl) (PV.pickF rfl (by assumption) rfl) Wanted.none rfl rfl ?_; refine TO.take 31 rfl (by kernel_rfl) (by kernel_rfl) (by kernel_rfl) (PV.move rfl) Wanted.none rfl rfl ?_; refine TO.take 32 rfl (by kernel_rfl) (by kernel_rfl) (by kernel_rfl) (PV.move rfl) (Wanted.guard rfl rfl rfl) rfl rfl ?_; refine TO.take 33 rfl (by kernel_rfl) (by kernel_rfl) (by kernel_rfl) (PV.gtr rfl rfl) (Wanted.guard rfl rfl rfl) rfl rfl ?_; refine TO.take 34 rfl (by kernel_rfl) (by kernel_rfl) (by kernel_rfl) (PV.move rfl) (Wanted.guard rfl rfl rfl) rfl rfl ?_; refine TO.take 35 rfl (by kernel_rfl) (by kernel_rfl) (by kernel_rfl) (PV.move rfl) (Wanted.guard rfl rfl (by assumption)) rfl rfl ?_; refine TO.take 36 rfl (by kernel_rfl) (by kernel_rfl) (by kernel_rfl) (PV.move rfl) (Wanted.guard rfl rfl (by assumption)) rfl rfl ?_; refine TO.take 37 rfl (by kernel_rfl) (by kernel_rfl) (by kernel_rfl) (PV.sub rfl rfl (by omega)) (Wanted.guard rfl rfl (by assumption)) rfl rfl ?_; refine TO.take 38 rfl (by kernel_rfl) (by kernel_rfl) (by kernel_rfl) (PV.indexAddr rfl rfl (by omega)) (Wanted.guard rfl rfl (by assumption)) rfl rfl ?_
    refine TO.take 39 rfl (by kernel_rfl) (by kernel_rfl) (by kernel_rfl) (PV.loadSubAll rfl (by assumption) (by exact rfl)) (Wanted.guard rfl rfl (by assumption)) rfl rfl ?_; refine TO.take 40 rfl (by kernel_rfl) (by kernel_rfl) (by kernel_rfl) (PV.loadAll rfl zq0 (by exact rfl)) (Wanted.guard rfl rfl (by assumption)) rfl rfl ?_; refine TO.step 41 rfl (by kernel_rfl) zq4 zq17 ?_; (refine T.callX (Wanted.guard rfl rfl (by assumption)) rfl rfl hcm ?_; rintro _ rfl); refine yq62 ?_; refine TO.take 42 rfl (by kernel_rfl) (by kernel_rfl) (by kernel_rfl) (PV.geq rfl rfl) (Wanted.guard rfl rfl (by assumption)) rfl rfl ?_; refine TO.take 43 rfl (by kernel_rfl) (by kernel_rfl) (by kernel_rfl) (PV.pickT rfl (by assumption) rfl) (Wanted.guard rfl rfl rfl) rfl rfl ?_; refine TO.take 44 rfl (by kernel_rfl) (by kernel_rfl) (by kernel_rfl) (PV.pickF rfl rfl rfl) Wanted.none rfl rfl ?_; refine TO.done (by kernel_rfl) zq4 zq17 ?_; refine yq108 ?_; refine yq81 ?_; refine sm ?_; refine T.mapPush (kt := 9) (vt := 4) (by kernel_rfl) (by kernel_rfl) Wanted.none rfl rfl rfl g3 (by rw [hlk, if_pos c5]) [(b5, .cells #[.slice ar r.ks.length cr, .int .i64 r.n] 52 (0, 0))] rfl ?_
    intro es2 ck2 hs2
    refine so ?_; refine yq61 ?_
    exact T.nextP ⟨i + 1, es2, ck2⟩ ⟨by dsimp only; omega, hst, by dsimp only; rw [htk]; unfold seenM; rw [List.map_append]; exact hs2⟩ (by dsimp only; omega) zq8 (by repeat (first | exact Sel.refl _ | exact Sel.nil | (refine Sel.cons zq1 ?_) | (refine Sel.app zq1 ?_) | exact Sel.one zq1)) rfl
  · have hv : validR F = true := by
      unfold validR
      rw [validG_spec]
      intro j r hj
      exact g2 j r (by have := (List.getElem?_eq_some_iff.1 hj).1; omega) hj
    refine yq195 ?_
    exact T.retF (Lv.fin (RV.tmp rfl rfl) (by rw [hv]))
end Go.Proofs.YthacphfjchpoaaaGreatDoor
namespace Go.Proofs.YthacphfjchpoaaaGreatDoor
open Go.RowKit

set_option maxRecDepth 4000 in
set_option maxHeartbeats 8000000 in
theorem valid_ref (L : List Rw) (v : Value) (H : Hp) (hL : RwL H v L) (hLl : L.length ≤ 1000) :
    Fn Tryz.prog 23 #[v] H (fun u _ => u = .bool (validR (L.map rwK))) := by
  obtain ⟨am, cm, rfl⟩ := hL.1.len
  obtain ⟨F, hF⟩ : ∃ F, F = L.map rwK := ⟨_, rfl⟩
  have hFl : F.length = L.length := by rw [hF, List.length_map]
  refine Fn.of_T (vs := [.slice am L.length cm]) Tryz.func23 rfl rfl fun w => ?_
  rw [← hF]
  refine yq25 ?_; refine yq112 ?_; refine T.loopK [(8, Value.int IntKind.i64 (↑L.length : Int)), (7, Value.slice am L.length cm), (0, Value.slice am L.length cm)] zq8 (γ := Nat) (fun i => i ≤ L.length ∧ (∀ j r, j < i → F[j]? = some r → okR (keysN F) (F.take j) r = true)) (fun i => [(9, .int .i64 (i : Int))]) (fun _ => []) (fun _ => H) (fun i => L.length - i) 0 ⟨by simp, by simp⟩ zq8 (by repeat (first | exact Sel.refl _ | exact Sel.nil | (refine Sel.cons zq1 ?_) | (refine Sel.app zq1 ?_) | exact Sel.one zq1)) rfl ?_
  rintro i ⟨g1, g2⟩
  by_cases hi : i < L.length
  · obtain ⟨bx, off, r, rfl, hix, hsub⟩ := RowL.get encRw_len hL.1 hi
    have hmm := List.mem_of_getElem? hix
    have hrok := hL.2 r hmm
    obtain ⟨ar, cr, hrv⟩ := hrok.1.len
    have hrs := hrok.1
    rw [hrv] at hrs
    have hrl := hrok.2.1
    unfold encRw at hsub
    rw [hrv] at hsub
    have hFi : F[i]? = some (rwK r) := by rw [hF, List.getElem?_map, hix]; rfl
    obtain ⟨b0, off0, r0, hye, h0x, hsub0⟩ := RowL.get encRw_len hL.1 (show 0 < L.length by omega)
    simp only [Option.some.injEq, Addr.mk.injEq, and_true] at hye
    obtain ⟨rfl, rfl⟩ := hye
    have hr0ok := hL.2 r0 (List.mem_of_getElem? h0x)
    obtain ⟨ar0, cr0, hr0v⟩ := hr0ok.1.len
    unfold encRw at hsub0
    rw [hr0v] at hsub0
    have hkn : keysN F = r0.ks.length := by
      rw [hF]
      cases hLc : L with
      | nil => rw [hLc] at hi; simp at hi
      | cons a l => rw [hLc] at h0x; simp at h0x; subst h0x; rfl
    have hbad : okR (keysN F) (F.take i) (rwK r) = false → validR F = false := fun h => validR_not hFi h
    have hcap := hL.1.cap
    have hsub0' : SubC H bx (off + (0 : Int).toNat * 2) [.slice ar0 r0.ks.length cr0, .int .i64 r0.n] := hsub0
    rw [hkn] at hbad
    by_cases c1 : r.ks.length < 1
    · have d1 : decide ((r.ks.length : Int) < 1) = true := decide_eq_true (by omega)
      refine yq155 ?_; refine sy fun b4 => ?_; refine sa ?_; refine yq13 ?_; refine sq ?_; refine sq ?_; refine yq91 ?_; refine TQ.pv (PV.lenSl rfl) Wanted.none rfl rfl ?_; refine yq84 ?_; refine yq34 ?_; refine yq34 ?_; refine TQ.pv (PV.pickT rfl (by assumption) rfl) Wanted.none rfl rfl ?_; refine yq154 ?_; refine yq4 ?_; refine yq4 ?_; refine yq4 ?_; refine yq94 ?_
      refine yq154 ?_; refine yq94 ?_; refine TQ.pv (PV.move rfl) Wanted.none rfl rfl ?_; refine yq132 ?_; refine yq48 ?_; refine yq48 ?_; refine yq48 ?_; refine yq48 ?_; refine yq94 ?_; refine TQ.nil ?_; refine yq196 ?_
      exact T.retF (Lv.fin (RV.tmp rfl rfl) (by rw [hbad (by unfold okR rwK; simp only []; rw [decide_eq_false (by omega)]; rfl)]))
    have d1 : decide ((r.ks.length : Int) < 1) = false := decide_eq_false (by omega)
    by_cases c2 : 4 < r.ks.length
    · have d2 : decide ((4 : Int) < (r.ks.length : Int)) = true := decide_eq_true (by omega)
      refine yq155 ?_; refine sy fun b4 => ?_; refine sa ?_; refine yq13 ?_; refine sq ?_; refine sq ?_; refine yq91 ?_; refine TQ.pv (PV.lenSl rfl) Wanted.none rfl rfl ?_; refine yq84 ?_; refine yq28 ?_; refine yq76 ?_; refine yq85 ?_; refine yq34 ?_; refine yq34 ?_; refine yq34 ?_; refine yq34 ?_; refine TQ.pass (Unwanted.guard rfl rfl (by assumption)) rfl rfl ?_; refine TQ.pv (PV.pickT rfl (by assumption) rfl) Wanted.none rfl rfl ?_
      refine yq154 ?_; refine yq94 ?_; refine TQ.pv (PV.move rfl) Wanted.none rfl rfl ?_; refine yq132 ?_; refine yq48 ?_; refine yq48 ?_; refine yq48 ?_; refine yq48 ?_; refine yq94 ?_; refine TQ.nil ?_; refine yq196 ?_
      exact T.retF (Lv.fin (RV.tmp rfl rfl) (by rw [hbad (by unfold okR rwK; simp only []; rw [decide_eq_false (show ¬ r.ks.length ≤ 4 by omega)]; simp)]))
    have d2 : decide ((4 : Int) < (r.ks.length : Int)) = false := decide_eq_false (by omega)
    by_cases c3 : r.ks.length = r0.ks.length
    rotate_left
    · have d3 : decide ((r.ks.length : Int) ≠ (r0.ks.length : Int)) = true := decide_eq_true (by omega)
      refine yq155 ?_; refine sy fun b4 => ?_; refine sa ?_; refine yq13 ?_; refine sq ?_; refine sq ?_; refine yq91 ?_; refine TQ.pv (PV.lenSl rfl) Wanted.none rfl rfl ?_; refine yq84 ?_; refine yq28 ?_; refine yq76 ?_; refine yq85 ?_; refine yq28 ?_; refine yq156 ?_; refine yq68 ?_; refine yq100 ?_; refine TQ.pv (PV.pickF rfl (by assumption) rfl) Wanted.none rfl rfl ?_
      refine TQ.pv (PV.move rfl) Wanted.none rfl rfl ?_; refine yq34 ?_; refine TQ.pass (Unwanted.guard rfl rfl (by assumption)) rfl rfl ?_; refine TQ.pv (PV.pickT rfl (by assumption) rfl) Wanted.none rfl rfl ?_; refine TQ.pv (PV.move rfl) Wanted.none rfl rfl ?_; refine yq132 ?_; refine yq48 ?_; refine yq48 ?_; refine yq48 ?_; refine yq48 ?_; refine yq94 ?_; refine TQ.nil ?_; refine yq196 ?_
      exact T.retF (Lv.fin (RV.tmp rfl rfl) (by rw [hbad (by unfold okR rwK; simp only []; rw [decide_eq_false c3]; simp)]))
    have d3 : decide ((r.ks.length : Int) ≠ (r0.ks.length : Int)) = false := decide_eq_false (by omega)
    by_cases c4 : r.n < 1
    · have d4 : decide (r.n < 1) = true := decide_eq_true c4
      refine yq155 ?_; refine sy fun b4 => ?_; refine sa ?_; refine yq13 ?_; refine sq ?_; refine sq ?_; refine yq91 ?_; refine TQ.pv (PV.lenSl rfl) Wanted.none rfl rfl ?_; refine yq84 ?_; refine yq28 ?_; refine yq76 ?_; refine yq85 ?_; refine yq28 ?_; refine yq156 ?_; refine yq68 ?_; refine yq100 ?_; refine TQ.pv (PV.pickF rfl (by assumption) rfl) Wanted.none rfl rfl ?_
      refine TQ.pv (PV.move rfl) Wanted.none rfl rfl ?_; refine yq28 ?_; refine TQ.pv (PV.lss rfl rfl) (Wanted.guard rfl rfl (by assumption)) rfl rfl ?_; refine yq85 ?_; refine yq34 ?_; refine TQ.pass (Unwanted.guard rfl rfl (by assumption)) rfl rfl ?_; refine yq48 ?_; refine yq48 ?_; refine yq48 ?_; refine yq48 ?_; refine TQ.pass (Unwanted.guard rfl rfl (by assumption)) rfl rfl ?_; refine TQ.pv (PV.pickT rfl (by assumption) rfl) Wanted.none rfl rfl ?_; refine TQ.nil ?_; refine yq196 ?_
      exact T.retF (Lv.fin (RV.tmp rfl rfl) (by rw [hbad (by unfold okR rwK; simp only []; rw [decide_eq_false (show ¬ 1 ≤ r.n by omega)]; simp)]))
    have d4 : decide (r.n < 1) = false := decide_eq_false c4
    by_cases c6 : i = 0
    · have d6 : decide ((0 : Int) < (i : Int)) = false := decide_eq_false (by omega)
      refine yq155 ?_; refine sy fun b4 => ?_; refine sa ?_; refine yq13 ?_; refine sq ?_; refine sq ?_; refine yq91 ?_; refine TQ.pv (PV.lenSl rfl) Wanted.none rfl rfl ?_; refine yq84 ?_; refine yq28 ?_; refine yq76 ?_; refine yq85 ?_; refine yq28 ?_; refine yq156 ?_; refine yq68 ?_; refine yq100 ?_; refine TQ.pv (PV.pickF rfl (by assumption) rfl) Wanted.none rfl rfl ?_
      refine TQ.pv (PV.move rfl) Wanted.none rfl rfl ?_; refine yq28 ?_; refine TQ.pv (PV.lss rfl rfl) (Wanted.guard rfl rfl (by assumption)) rfl rfl ?_; refine yq85 ?_; refine TQ.pv (PV.move rfl) (Wanted.guard rfl rfl (by assumption)) rfl rfl ?_; refine TQ.pv (PV.gtr rfl rfl) (Wanted.guard rfl rfl (by assumption)) rfl rfl ?_; refine TQ.pv (PV.move rfl) (Wanted.guard rfl rfl (by assumption)) rfl rfl ?_; refine yq34 ?_; refine yq34 ?_; refine yq34 ?_; refine yq34 ?_; refine TQ.pv (PV.pickF rfl (by assumption) rfl) (Wanted.guard rfl rfl (by assumption)) rfl rfl ?_; refine TQ.pv (PV.pickF rfl (by assumption) rfl) Wanted.none rfl rfl ?_; refine TQ.nil ?_; refine yq26 ?_; refine yq137 ?_; refine sv (PV.sliceH rfl rfl (by omega)) ?_; refine sv (PV.lenSl rfl) ?_; refine yq80 ?_
      have c5i : ∀ q : Nat, F.take q = (L.take q).map rwK := fun q => by rw [hF, List.map_take]
      refine T.loopK [(57, Value.int IntKind.i64 (↑(↑i : Int).toNat : Int)), (56, Value.slice (some { block := bx, off := off }) (↑i : Int).toNat cm), (4, Value.pointer (some { block := b4, off := 0 })), (9, Value.int IntKind.i64 (↑i : Int)), (8, Value.int IntKind.i64 (↑L.length : Int)), (7, Value.slice (some { block := bx, off := off }) L.length cm), (0, Value.slice (some { block := bx, off := off }) L.length cm)] zq8 (γ := Nat) (fun j => j ≤ i ∧ (∀ x ∈ F.take j, x.1 ≠ r.ks)) (fun j => [(58, .int .i64 (j : Int))]) (fun _ => [(b4, .cells #[.slice ar r.ks.length cr, .int .i64 r.n] 52 (0, 0))]) (fun _ => H) (fun j => i - j) 0 ⟨by simp, by simp⟩ zq8 (by repeat (first | exact Sel.refl _ | exact Sel.nil | (refine Sel.cons zq1 ?_) | (refine Sel.app zq1 ?_) | exact Sel.one zq1)) rfl ?_
      rintro j ⟨j1, j2⟩
      by_cases hj : j < i
      · omega
      · have c5 : ∀ x ∈ F.take i, x.1 ≠ r.ks := by rw [show i = j by omega]; exact j2
        have hok : okR (keysN F) (F.take i) (rwK r) = true := by
          unfold okR
          simp only [Bool.and_eq_true, decide_eq_true_eq]
          exact ⟨show 1 ≤ r.ks.length by omega, show r.ks.length ≤ 4 by omega, hkn.symm ▸ c3, show 1 ≤ r.n by omega, c5, by rw [c6]; rfl⟩
        have hst : ∀ j q, j < i + 1 → F[j]? = some q → okR (keysN F) (F.take j) q = true := by
          intro j q hj hq
          by_cases hji : j < i
          · exact g2 j q hji hq
          · obtain rfl : j = i := by omega
            rw [hFi] at hq
            obtain rfl := Option.some.inj hq
            exact hok
        refine yq74 ?_; refine yq61 ?_
        exact T.nextP (i + 1) ⟨by omega, hst⟩ (by omega) zq8 (by repeat (first | exact Sel.refl _ | exact Sel.nil | (refine Sel.cons zq1 ?_) | (refine Sel.app zq1 ?_) | exact Sel.one zq1)) rfl
    have d6 : decide ((0 : Int) < (i : Int)) = true := decide_eq_true (by omega)
    obtain ⟨bp, offp, pr, hye, hpx, hsubp⟩ := RowL.get encRw_len hL.1 (show i - 1 < L.length by omega)
    simp only [Option.some.injEq, Addr.mk.injEq, and_true] at hye
    obtain ⟨rfl, rfl⟩ := hye
    have hprok := hL.2 pr (List.mem_of_getElem? hpx)
    obtain ⟨arp, crp, hprv⟩ := hprok.1.len
    unfold encRw at hsubp
    rw [hprv] at hsubp
    have hsubp' : SubC H bx (off + (((i : Nat) : Int) - 1).toNat * 2) [.slice arp pr.ks.length crp, .int .i64 pr.n] := by
      rw [show (((i : Nat) : Int) - 1).toNat = i - 1 by omega]; exact hsubp
    have hcm := less_fn pr r H hprok hrok
    unfold rwV at hcm
    rw [hprv, hrv] at hcm
    have hlast : (F.take i).getLast? = some (rwK pr) := by
      rw [List.getLast?_eq_getElem?, List.length_take, show min i F.length - 1 = i - 1 by omega, List.getElem?_take, if_pos (by omega), hF, List.getElem?_map, hpx]; rfl
    by_cases c7 : 0 ≤ cR (rwK pr) (rwK r)
    · have d7 : ltR (rwK pr) (rwK r) = false := decide_eq_false (by omega)
      rw [d7] at hcm
      refine yq155 ?_; refine sy fun b4 => ?_; refine sa ?_; refine yq13 ?_; refine sq ?_; refine sq ?_; refine yq91 ?_; refine TQ.pv (PV.lenSl rfl) Wanted.none rfl rfl ?_; refine yq84 ?_; refine yq28 ?_; refine yq76 ?_; refine yq85 ?_; refine yq28 ?_; refine yq156 ?_; refine yq68 ?_; refine yq100 ?_; refine TQ.pv (PV.pickF rfl (by assumption) rfl) Wanted.none rfl rfl ?_
      refine TQ.pv (PV.move rfl) Wanted.none rfl rfl ?_; refine yq28 ?_; refine TQ.pv (PV.lss rfl rfl) (Wanted.guard rfl rfl (by assumption)) rfl rfl ?_; refine yq85 ?_; refine TQ.pv (PV.move rfl) (Wanted.guard rfl rfl (by assumption)) rfl rfl ?_; refine TQ.pv (PV.gtr rfl rfl) (Wanted.guard rfl rfl (by assumption)) rfl rfl ?_; refine TQ.pv (PV.move rfl) (Wanted.guard rfl rfl (by assumption)) rfl rfl ?_; refine TQ.pv (PV.move rfl) (Wanted.guard rfl rfl (by assumption)) rfl rfl ?_; refine TQ.pv (PV.move rfl) (Wanted.guard rfl rfl (by assumption)) rfl rfl ?_; refine TQ.pv (PV.sub rfl rfl (by omega)) (Wanted.guard rfl rfl (by assumption)) rfl rfl ?_; refine TQ.pv (PV.indexAddr rfl rfl (by omega)) (Wanted.guard rfl rfl (by assumption)) rfl rfl ?_; refine TQ.pv (PV.loadSubAll rfl (by assumption) (by exact rfl)) (Wanted.guard rfl rfl (by assumption)) rfl rfl ?_; refine TQ.pv (PV.loadAll rfl zq0 (by exact rfl)) (Wanted.guard rfl rfl (by assumption)) rfl rfl ?_; refine TQ.callV (Wanted.guard rfl rfl (by assumption)) rfl rfl (hcm) ?_; refine TQ.pv (PV.not rfl) (Wanted.guard rfl rfl (by assumption)) rfl rfl ?_; refine TQ.pv (PV.pickT rfl (by assumption) rfl) (Wanted.guard rfl rfl (by assumption)) rfl rfl ?_; refine TQ.pv (PV.pickF rfl (by assumption) rfl) Wanted.none rfl rfl ?_; refine TQ.nil ?_; refine yq196 ?_
      exact T.retF (Lv.fin (RV.tmp rfl rfl) (by rw [hbad (by unfold okR; rw [hlast]; dsimp only; rw [decide_eq_false (show ¬ cR (rwK pr) (rwK r) < 0 by omega)]; simp)]))
    have d7 : ltR (rwK pr) (rwK r) = true := decide_eq_true (by omega)
    rw [d7] at hcm
    refine yq155 ?_; refine sy fun b4 => ?_; refine sa ?_; refine yq13 ?_; refine sq ?_; refine sq ?_; refine yq91 ?_; refine TQ.pv (PV.lenSl rfl) Wanted.none rfl rfl ?_; refine yq84 ?_; refine yq28 ?_; refine yq76 ?_; refine yq85 ?_; refine yq28 ?_; refine yq156 ?_; refine yq68 ?_; refine yq100 ?_; refine TQ.pv (PV.pickF rfl (by assumption) rfl) Wanted.none rfl rfl ?_
    refine TQ.pv (PV.move rfl) Wanted.none rfl rfl ?_; refine yq28 ?_; refine TQ.pv (PV.lss rfl rfl) (Wanted.guard rfl rfl (by assumption)) rfl rfl ?_; refine yq85 ?_; refine TQ.pv (PV.move rfl) (Wanted.guard rfl rfl (by assumption)) rfl rfl ?_; refine TQ.pv (PV.gtr rfl rfl) (Wanted.guard rfl rfl (by assumption)) rfl rfl ?_; refine TQ.pv (PV.move rfl) (Wanted.guard rfl rfl (by assumption)) rfl rfl ?_; refine TQ.pv (PV.move rfl) (Wanted.guard rfl rfl (by assumption)) rfl rfl ?_; refine TQ.pv (PV.move rfl) (Wanted.guard rfl rfl (by assumption)) rfl rfl ?_; refine TQ.pv (PV.sub rfl rfl (by omega)) (Wanted.guard rfl rfl (by assumption)) rfl rfl ?_; refine TQ.pv (PV.indexAddr rfl rfl (by omega)) (Wanted.guard rfl rfl (by assumption)) rfl rfl ?_; refine TQ.pv (PV.loadSubAll rfl (by assumption) (by exact rfl)) (Wanted.guard rfl rfl (by assumption)) rfl rfl ?_; refine TQ.pv (PV.loadAll rfl zq0 (by exact rfl)) (Wanted.guard rfl rfl (by assumption)) rfl rfl ?_; refine TQ.callV (Wanted.guard rfl rfl (by assumption)) rfl rfl (hcm) ?_; refine TQ.pv (PV.not rfl) (Wanted.guard rfl rfl (by assumption)) rfl rfl ?_; refine TQ.pv (PV.pickT rfl (by assumption) rfl) (Wanted.guard rfl rfl (by assumption)) rfl rfl ?_; refine TQ.pv (PV.pickF rfl (by assumption) rfl) Wanted.none rfl rfl ?_; refine TQ.nil ?_; refine yq26 ?_; refine yq137 ?_; refine sv (PV.sliceH rfl rfl (by omega)) ?_; refine sv (PV.lenSl rfl) ?_; refine yq80 ?_
    have c5i : ∀ q : Nat, F.take q = (L.take q).map rwK := fun q => by rw [hF, List.map_take]
    refine T.loopK [(57, Value.int IntKind.i64 (↑(↑i : Int).toNat : Int)), (56, Value.slice (some { block := bx, off := off }) (↑i : Int).toNat cm), (4, Value.pointer (some { block := b4, off := 0 })), (9, Value.int IntKind.i64 (↑i : Int)), (8, Value.int IntKind.i64 (↑L.length : Int)), (7, Value.slice (some { block := bx, off := off }) L.length cm), (0, Value.slice (some { block := bx, off := off }) L.length cm)] zq8 (γ := Nat) (fun j => j ≤ i ∧ (∀ x ∈ F.take j, x.1 ≠ r.ks)) (fun j => [(58, .int .i64 (j : Int))]) (fun _ => [(b4, .cells #[.slice ar r.ks.length cr, .int .i64 r.n] 52 (0, 0))]) (fun _ => H) (fun j => i - j) 0 ⟨by simp, by simp⟩ zq8 (by repeat (first | exact Sel.refl _ | exact Sel.nil | (refine Sel.cons zq1 ?_) | (refine Sel.app zq1 ?_) | exact Sel.one zq1)) rfl ?_
    rintro j ⟨j1, j2⟩
    by_cases hj : j < i
    · obtain ⟨by1, offy, x, hye, hjx, hsuby⟩ := RowL.get encRw_len hL.1 (show j < L.length by omega)
      simp only [Option.some.injEq, Addr.mk.injEq, and_true] at hye
      obtain ⟨rfl, rfl⟩ := hye
      have hxok := hL.2 x (List.mem_of_getElem? hjx)
      obtain ⟨ax, cx, hxv⟩ := hxok.1.len
      have hxs := hxok.1
      rw [hxv] at hxs
      unfold encRw at hsuby
      rw [hxv] at hsuby
      have hxl := hxok.2.1
      have hFj : F[j]? = some (rwK x) := by rw [hF, List.getElem?_map, hjx]; rfl
      have hcx := cmpX_fn x.ks r.ks _ _ H hxs hrs (by omega) (by omega)
      have hc0 := (cX_cL x.ks r.ks).2
      rw [cL_iff] at hc0
      by_cases e : x.ks = r.ks
      · have hz := hc0.2 e
        rw [hz] at hcx
        refine yq110 ?_; refine sy fun b6 => ?_; refine yq115 ?_; refine yq5 ?_; refine T.callV Wanted.none rfl rfl (hcx) ?_; refine yq197 ?_; refine yq25 ?_
        exact T.retF (Lv.fin (RV.tmp rfl rfl) (by
          rw [hbad (by
            unfold okR
            rw [decide_eq_false (show ¬ ∀ y ∈ F.take i, y.1 ≠ (rwK r).1 from fun h => h (rwK x) (List.mem_of_getElem? (i := j) (by rw [List.getElem?_take, if_pos hj]; exact hFj)) e)]
            simp)]))
      · have hz : ¬ cX x.ks r.ks = 0 := fun h => e (hc0.1 h)
        refine yq110 ?_; refine sy fun b6 => ?_; refine yq115 ?_; refine yq5 ?_; refine T.callV Wanted.none rfl rfl (hcx) ?_; refine sv (PV.eql rfl rfl) ?_; refine yq88 ?_; refine yq61 ?_
        have hnx : ∀ y ∈ F.take (j + 1), y.1 ≠ r.ks := by
          intro y hy
          rw [List.take_add_one, hFj] at hy
          rcases List.mem_append.1 hy with hy | hy
          · exact j2 y hy
          · obtain rfl := List.mem_singleton.1 hy; exact e
        exact T.nextP (j + 1) ⟨by omega, hnx⟩ (by omega) zq8 (by repeat (first | exact Sel.refl _ | exact Sel.nil | (refine Sel.cons zq1 ?_) | (refine Sel.app zq1 ?_) | exact Sel.one zq1)) rfl
    · have c5 : ∀ x ∈ F.take i, x.1 ≠ r.ks := by rw [show i = j by omega]; exact j2
      have hok : okR (keysN F) (F.take i) (rwK r) = true := by
        unfold okR
        simp only [Bool.and_eq_true, decide_eq_true_eq]
        exact ⟨show 1 ≤ r.ks.length by omega, show r.ks.length ≤ 4 by omega, hkn.symm ▸ c3, show 1 ≤ r.n by omega, c5, by rw [hlast]; exact decide_eq_true (by omega)⟩
      have hst : ∀ j q, j < i + 1 → F[j]? = some q → okR (keysN F) (F.take j) q = true := by
        intro j q hj hq
        by_cases hji : j < i
        · exact g2 j q hji hq
        · obtain rfl : j = i := by omega
          rw [hFi] at hq
          obtain rfl := Option.some.inj hq
          exact hok
      refine yq74 ?_; refine yq61 ?_
      exact T.nextP (i + 1) ⟨by omega, hst⟩ (by omega) zq8 (by repeat (first | exact Sel.refl _ | exact Sel.nil | (refine Sel.cons zq1 ?_) | (refine Sel.app zq1 ?_) | exact Sel.one zq1)) rfl
  · have hv : validR F = true := by
      unfold validR
      rw [validG_spec]
      intro j r hj
      exact g2 j r (by have := (List.getElem?_eq_some_iff.1 hj).1; omega) hj
    refine yq195 ?_
    exact T.retF (Lv.fin (RV.tmp rfl rfl) (by rw [hv]))
end Go.Proofs.YthacphfjchpoaaaGreatDoor
