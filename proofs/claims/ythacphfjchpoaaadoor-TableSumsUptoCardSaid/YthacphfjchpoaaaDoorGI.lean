/- table: Valid: the program.
   table: Valid: the reference.
   table: Total, Margin: the program. -/
import Derived.Test.YthacphfjchpoaaaDoorGH
namespace Go.Proofs.YthacphfjchpoaaaDoor
open Go.RowKit


theorem PV.mapIs {P : Program} {e : Env} {l : List (Nat × Obj)} {H : Hp} {dst : Option Tmp} {ty : TypeId} {pos : String} {after : Array Edge} {gd : Option (Nat × Bool)} {t kt vt : TypeId} {z v : Value} (hm : P.underlying t = some (.map kt vt)) (hk : P.underlying kt = some .string) (hz : ∀ w, (zeroValue vt).run P w = .ok z w) {x y : Operand} {b : Nat} {es : Array MapEntry} {clock : Nat} {ks : List (ByteArray × Value)} {s : ByteArray}
    (hx : evE e x = some (.map (some b))) (hy : evE e y = some (.string s)) (hs : MapS es.toList ks) (hl : (b, Obj.map es clock) ∈ l) (hv : (lookS ks s).getD z = v) :
    PV P e l H ⟨dst, .lookup t x y false, ty, pos, after, gd⟩ v := by
  rw [← hv]
  exact PV.mapGet hm hk hz hx hy hs hl
def seenM (l : List RK) : List (ByteArray × Value) := l.map fun r => (joinB r.1, .bool true)
theorem look_seen (k : List ByteArray) (l : List RK) : lookS (seenM l) (joinB k) = if (∀ x ∈ l, x.1 ≠ k) then none else some (.bool true) := by
  refine snocInd (C := fun l => lookS (seenM l) (joinB k) = if (∀ x ∈ l, x.1 ≠ k) then none else some (.bool true)) rfl (fun l x ih => ?_) l
  unfold seenM at *
  rw [List.map_append, List.map_cons, List.map_nil, lookS_snoc, ih]
  by_cases h1 : ∀ y ∈ l, y.1 ≠ k
  · rw [if_pos h1]
    dsimp only
    by_cases h2 : x.1 = k
    · rw [if_pos (by rw [h2]), if_neg]
      intro h
      exact h x (List.mem_append_right _ (List.mem_singleton.2 rfl)) h2
    · rw [if_neg (fun h => h2 (joinB_inj h)), if_pos]
      intro y hy
      rcases List.mem_append.1 hy with hy | hy
      · exact h1 y hy
      · rw [List.mem_singleton] at hy; subst hy; exact h2
  · rw [if_neg h1]
    dsimp only
    rw [if_neg]
    intro h
    exact h1 fun y hy => h y (List.mem_append_left _ hy)
structure VlG where
  i : Nat
  es : Array MapEntry
  ck : Nat
set_option maxRecDepth 4000 in
set_option maxHeartbeats 8000000 in
theorem valid_in (L : List Rw) (v : Value) (H : Hp) (hT : PowT H) (hL : RwL H v L) (hLl : L.length ≤ 1000) :
    Fn Tryd.prog 9 #[v] H (fun u _ => u = .bool (validR (L.map rwK))) := by
  obtain ⟨am, cm, rfl⟩ := hL.1.len
  obtain ⟨F, hF⟩ : ∃ F, F = L.map rwK := ⟨_, rfl⟩
  have hFl : F.length = L.length := by rw [hF, List.length_map]
  refine Fn.of_T (vs := [.slice am L.length cm]) Tryd.func9 rfl rfl fun w => ?_
  rw [← hF]
  refine zs3 ?_; refine sa ?_; refine so ?_
  (repeat refine sq ?_)
  refine sr ?_; refine T.newMap Wanted.none rfl ?_
  intro b7
  refine sa ?_; refine so ?_; refine sq ?_; refine zs3 ?_; refine sm ?_; refine sv (PV.lenSl rfl) ?_; refine sm ?_; refine so ?_; refine T.block ?_; refine T.loopK [(9, Value.int IntKind.i64 (↑L.length : Int)), (8, Value.slice am L.length cm), (3, Value.map (some b7)), (0, Value.slice am L.length cm)] zq8 (γ := VlG) (fun g => g.i ≤ L.length ∧ (∀ j r, j < g.i → F[j]? = some r → okR (keysN F) (F.take j) r = true) ∧ MapS g.es.toList (seenM (F.take g.i))) (fun g => [(10, .int .i64 (g.i : Int))]) (fun g => [(b7, .map g.es g.ck)]) (fun _ => H) (fun g => L.length - g.i) ⟨0, #[], 0⟩ ⟨by simp, by simp, by simp [MapS, seenM]⟩ zq8 (by repeat (first | exact Sel.refl _ | exact Sel.nil | (refine Sel.cons zq1 ?_) | (refine Sel.app zq1 ?_) | exact Sel.one zq1)) rfl ?_
  rintro ⟨i, es, ck⟩ ⟨g1, g2, g3⟩
  dsimp only at g1 g2 g3 ⊢
  by_cases hi : i < L.length
  · obtain ⟨bx, off, r, rfl, hix, hsub⟩ := RowL.get encRw_len hL.1 hi
    have hmm := List.mem_of_getElem? hix
    have hrok := hL.2 r hmm
    obtain ⟨ar, cr, hrv⟩ := hrok.1.len
    have hrs := hrok.1
    rw [hrv] at hrs
    unfold encRw at hsub
    rw [hrv] at hsub
    have hjn := join_fn r.ks _ H hT hrs hrok.2.1 hrok.2.2
    have hFi : F[i]? = some (rwK r) := by rw [hF, List.getElem?_map, hix]; rfl
    obtain ⟨b0, off0, r0, hye, h0x, hsub0⟩ := RowL.get encRw_len hL.1 (show 0 < L.length by omega)
    simp only [Option.some.injEq, Addr.mk.injEq, and_true] at hye
    obtain ⟨rfl, rfl⟩ := hye
    have hr0ok := hL.2 r0 (List.mem_of_getElem? h0x)
    obtain ⟨ar0, cr0, hr0v⟩ := hr0ok.1.len
    unfold encRw at hsub0
    rw [hr0v] at hsub0
    have hkn : keysN F = r0.ks.length := by
      rw [hF]
      cases hLc : L with
      | nil => rw [hLc] at hi; simp at hi
      | cons a l => rw [hLc] at h0x; simp at h0x; subst h0x; rfl
    have hlk := look_seen r.ks (F.take i)
    have hmp : Tryd.prog.underlying 37 = some (.map 9 4) := by kernel_rfl
    have hkp : Tryd.prog.underlying 9 = some .string := by kernel_rfl
    have hzp : ∀ w, (zeroValue 4).run Tryd.prog w = .ok (.bool false) w := fun _ => by kernel_rfl
    have hbad : okR (keysN F) (F.take i) (rwK r) = false → validR F = false := fun h => validR_not hFi h
    refine zs3 ?_; refine sv (PV.lss rfl rfl) ?_; refine so ?_; refine sq ?_; refine sc rfl (by omega) ?_; refine T.skip ?_; refine sq ?_; refine T.block ?_; refine zs3 ?_; refine sm ?_; refine sv (PV.indexAddr rfl rfl (by omega)) ?_; refine sv (PV.loadSubAll rfl (by assumption) (by exact rfl)) ?_; refine sy fun b5 => ?_; refine sa ?_; refine T.storeA Wanted.none rfl rfl zq8 (by exact rfl) zq14 zq13 ?_; refine zs1 ?_; refine sf ?_; refine sl ?_; refine T.callV Wanted.none rfl rfl (hjn) ?_; refine sa ?_; refine so ?_
    have hsub0' : SubC H bx (off + (0 : Int).toNat * 2) [.slice ar0 r0.ks.length cr0, .int .i64 r0.n] := hsub0
    rw [hkn] at hbad
    by_cases c1 : r.ks.length < 1
    · have d1 : decide ((r.ks.length : Int) < 1) = true := decide_eq_true (by omega)
      (repeat refine sq ?_)
      refine T.regionO [(b5, .cells #[.slice ar r.ks.length cr, .int .i64 r.n] 34 (0, 0)), (b7, .map es ck)] (by kernel_rfl) ?_; refine TO.take 0 rfl (by kernel_rfl) (by kernel_rfl) (by kernel_rfl) (PV.fieldAddr rfl) Wanted.none rfl rfl ?_; refine TO.take 1 rfl (by kernel_rfl) (by kernel_rfl) (by kernel_rfl) (PV.load1 rfl zq0 rfl) Wanted.none rfl rfl ?_; refine TO.take 2 rfl (by kernel_rfl) (by kernel_rfl) (by kernel_rfl) (PV.lenSl rfl) Wanted.none rfl rfl ?_; refine TO.take 3 rfl (by kernel_rfl) (by kernel_rfl) (by kernel_rfl) (PV.lss rfl rfl) Wanted.none rfl rfl ?_; refine TO.take 4 rfl (by kernel_rfl) (by kernel_rfl) (by kernel_rfl) (PV.move rfl) Wanted.none rfl rfl ?_; refine TO.pass 5 rfl (by kernel_rfl) (by kernel_rfl) (by kernel_rfl) (Unwanted.guard rfl rfl (by assumption)) rfl rfl ?_; refine TO.pass 6 rfl (by kernel_rfl) (by kernel_rfl) (by kernel_rfl) (Unwanted.guard rfl rfl (by assumption)) rfl rfl ?_; refine TO.pass 7 rfl (by kernel_rfl) (by kernel_rfl) (by kernel_rfl) (Unwanted.guard rfl rfl (by assumption)) rfl rfl ?_; refine TO.pass 8 rfl (by kernel_rfl) (by kernel_rfl) (by kernel_rfl) (Unwanted.guard rfl rfl (by assumption)) rfl rfl ?_; refine TO.take 9 rfl (by kernel_rfl) (by kernel_rfl) (by kernel_rfl) (PV.pickT rfl (by assumption) rfl) Wanted.none rfl rfl ?_; refine TO.take 10 rfl (by kernel_rfl) (by kernel_rfl) (by kernel_rfl) (PV.move rfl) Wanted.none rfl rfl ?_; refine TO.pass 11 rfl (by kernel_rfl) (by kernel_rfl) (by kernel_rfl) (Unwanted.guard rfl rfl rfl) rfl rfl ?_; refine TO.pass 12 rfl (by kernel_rfl) (by kernel_rfl) (by kernel_rfl) (Unwanted.guard rfl rfl rfl) rfl rfl ?_; refine TO.pass 13 rfl (by kernel_rfl) (by kernel_rfl) (by kernel_rfl) (Unwanted.guard rfl rfl rfl) rfl rfl ?_; refine TO.pass 14 rfl (by kernel_rfl) (by kernel_rfl) (by kernel_rfl) (Unwanted.guard rfl rfl rfl) rfl rfl ?_; refine TO.pass 15 rfl (by kernel_rfl) (by kernel_rfl) (by kernel_rfl) (Unwanted.guard rfl rfl rfl) rfl rfl ?_; refine TO.pass 16 rfl (by kernel_rfl) (by kernel_rfl) (by kernel_rfl) (Unwanted.guard rfl rfl rfl) rfl rfl ?_; refine TO.pass 17 rfl (by kernel_rfl) (by kernel_rfl) (by kernel_rfl) (Unwanted.guard rfl rfl rfl) rfl rfl ?_; refine TO.pass 18 rfl (by kernel_rfl) (by kernel_rfl) (by kernel_rfl) (Unwanted.guard rfl rfl rfl) rfl rfl ?_; refine TO.pass 19 rfl (by kernel_rfl) (by kernel_rfl) (by kernel_rfl) (Unwanted.guard rfl rfl rfl) rfl rfl ?_; refine TO.take 20 rfl (by kernel_rfl) (by kernel_rfl) (by kernel_rfl) (PV.pickT rfl rfl rfl) Wanted.none rfl rfl ?_; refine TO.take 21 rfl (by kernel_rfl) (by kernel_rfl) (by kernel_rfl) (PV.move rfl) Wanted.none rfl rfl ?_; refine TO.pass 22 rfl (by kernel_rfl) (by kernel_rfl) (by kernel_rfl) (Unwanted.guard rfl rfl rfl) rfl rfl ?_; refine TO.pass 23 rfl (by kernel_rfl) (by kernel_rfl) (by kernel_rfl) (Unwanted.guard rfl rfl rfl) rfl rfl ?_; refine TO.pass 24 rfl (by kernel_rfl) (by kernel_rfl) (by kernel_rfl) (Unwanted.guard rfl rfl rfl) rfl rfl ?_; refine TO.take 25 rfl (by kernel_rfl) (by kernel_rfl) (by kernel_rfl) (PV.pickT rfl rfl rfl) Wanted.none rfl rfl ?_; refine TO.take 26 rfl (by kernel_rfl) (by kernel_rfl) (by kernel_rfl) (PV.move rfl) Wanted.none rfl rfl ?_; refine TO.pass 27 rfl (by kernel_rfl) (by kernel_rfl) (by kernel_rfl) (Unwanted.guard rfl rfl rfl) rfl rfl ?_; refine TO.pass 28 rfl (by kernel_rfl) (by kernel_rfl) (by kernel_rfl) (Unwanted.guard rfl rfl rfl) rfl rfl ?_; refine TO.pass 29 rfl (by kernel_rfl) (by kernel_rfl) (by kernel_rfl) (Unwanted.guard rfl rfl rfl) rfl rfl ?_; refine TO.take 30 rfl (by kernel_rfl) (by kernel_rfl) (by kernel_rfl) (PV.pickT rfl rfl rfl) Wanted.none rfl rfl ?_; refine TO.take 31 rfl (by kernel_rfl) (by kernel_rfl) (by kernel_rfl) (PV.move rfl) Wanted.none rfl rfl ?_; refine TO.pass 32 rfl (by kernel_rfl) (by kernel_rfl) (by kernel_rfl) (Unwanted.guard rfl rfl rfl) rfl rfl ?_; refine TO.pass 33 rfl (by kernel_rfl) (by kernel_rfl) (by kernel_rfl) (Unwanted.guard rfl rfl rfl) rfl rfl ?_; refine TO.pass 34 rfl (by kernel_rfl) (by kernel_rfl) (by kernel_rfl) (Unwanted.guard rfl rfl rfl) rfl rfl ?_; refine TO.pass 35 rfl (by kernel_rfl) (by kernel_rfl) (by kernel_rfl) (Unwanted.undef rfl rfl) rfl rfl ?_; refine TO.pass 36 rfl (by kernel_rfl) (by kernel_rfl) (by kernel_rfl) (Unwanted.undef rfl rfl) rfl rfl ?_; refine TO.pass 37 rfl (by kernel_rfl) (by kernel_rfl) (by kernel_rfl) (Unwanted.undef rfl rfl) rfl rfl ?_; refine TO.pass 38 rfl (by kernel_rfl) (by kernel_rfl) (by kernel_rfl) (Unwanted.undef rfl rfl) rfl rfl ?_
      refine TO.pass 39 rfl (by kernel_rfl) (by kernel_rfl) (by kernel_rfl) (Unwanted.undef rfl rfl) rfl rfl ?_; refine TO.pass 40 rfl (by kernel_rfl) (by kernel_rfl) (by kernel_rfl) (Unwanted.undef rfl rfl) rfl rfl ?_; refine TO.pass 41 rfl (by kernel_rfl) (by kernel_rfl) (by kernel_rfl) (Unwanted.undef rfl rfl) rfl rfl ?_; refine TO.pass 42 rfl (by kernel_rfl) (by kernel_rfl) (by kernel_rfl) (Unwanted.undef rfl rfl) rfl rfl ?_; refine TO.pass 43 rfl (by kernel_rfl) (by kernel_rfl) (by kernel_rfl) (Unwanted.guard rfl rfl rfl) rfl rfl ?_; refine TO.take 44 rfl (by kernel_rfl) (by kernel_rfl) (by kernel_rfl) (PV.pickT rfl rfl rfl) Wanted.none rfl rfl ?_; refine TO.done (by kernel_rfl) zq4 zq17 ?_; refine T.condT rfl rfl ?_; refine zs3 ?_; refine sa ?_; refine so ?_
      exact T.retF (Lv.fin (RV.tmp rfl rfl) (by rw [hbad (by unfold okR rwK; simp only []; rw [decide_eq_false (by omega)]; rfl)]))
    have d1 : decide ((r.ks.length : Int) < 1) = false := decide_eq_false (by omega)
    by_cases c2 : 4 < r.ks.length
    · have d2 : decide ((4 : Int) < (r.ks.length : Int)) = true := decide_eq_true (by omega)
      (repeat refine sq ?_)
      refine T.regionO [(b5, .cells #[.slice ar r.ks.length cr, .int .i64 r.n] 34 (0, 0)), (b7, .map es ck)] (by kernel_rfl) ?_; refine TO.take 0 rfl (by kernel_rfl) (by kernel_rfl) (by kernel_rfl) (PV.fieldAddr rfl) Wanted.none rfl rfl ?_; refine TO.take 1 rfl (by kernel_rfl) (by kernel_rfl) (by kernel_rfl) (PV.load1 rfl zq0 rfl) Wanted.none rfl rfl ?_; refine TO.take 2 rfl (by kernel_rfl) (by kernel_rfl) (by kernel_rfl) (PV.lenSl rfl) Wanted.none rfl rfl ?_; refine TO.take 3 rfl (by kernel_rfl) (by kernel_rfl) (by kernel_rfl) (PV.lss rfl rfl) Wanted.none rfl rfl ?_; refine TO.take 4 rfl (by kernel_rfl) (by kernel_rfl) (by kernel_rfl) (PV.move rfl) Wanted.none rfl rfl ?_; refine TO.take 5 rfl (by kernel_rfl) (by kernel_rfl) (by kernel_rfl) (PV.fieldAddr rfl) (Wanted.guard rfl rfl (by assumption)) rfl rfl ?_; refine TO.take 6 rfl (by kernel_rfl) (by kernel_rfl) (by kernel_rfl) (PV.load1 rfl zq0 rfl) (Wanted.guard rfl rfl (by assumption)) rfl rfl ?_; refine TO.take 7 rfl (by kernel_rfl) (by kernel_rfl) (by kernel_rfl) (PV.lenSl rfl) (Wanted.guard rfl rfl (by assumption)) rfl rfl ?_; refine TO.take 8 rfl (by kernel_rfl) (by kernel_rfl) (by kernel_rfl) (PV.gtr rfl rfl) (Wanted.guard rfl rfl (by assumption)) rfl rfl ?_; refine TO.take 9 rfl (by kernel_rfl) (by kernel_rfl) (by kernel_rfl) (PV.pickF rfl (by assumption) rfl) Wanted.none rfl rfl ?_; refine TO.take 10 rfl (by kernel_rfl) (by kernel_rfl) (by kernel_rfl) (PV.move rfl) Wanted.none rfl rfl ?_; refine TO.pass 11 rfl (by kernel_rfl) (by kernel_rfl) (by kernel_rfl) (Unwanted.guard rfl rfl (by assumption)) rfl rfl ?_; refine TO.pass 12 rfl (by kernel_rfl) (by kernel_rfl) (by kernel_rfl) (Unwanted.guard rfl rfl (by assumption)) rfl rfl ?_; refine TO.pass 13 rfl (by kernel_rfl) (by kernel_rfl) (by kernel_rfl) (Unwanted.guard rfl rfl (by assumption)) rfl rfl ?_; refine TO.pass 14 rfl (by kernel_rfl) (by kernel_rfl) (by kernel_rfl) (Unwanted.guard rfl rfl (by assumption)) rfl rfl ?_; refine TO.pass 15 rfl (by kernel_rfl) (by kernel_rfl) (by kernel_rfl) (Unwanted.guard rfl rfl (by assumption)) rfl rfl ?_; refine TO.pass 16 rfl (by kernel_rfl) (by kernel_rfl) (by kernel_rfl) (Unwanted.guard rfl rfl (by assumption)) rfl rfl ?_; refine TO.pass 17 rfl (by kernel_rfl) (by kernel_rfl) (by kernel_rfl) (Unwanted.guard rfl rfl (by assumption)) rfl rfl ?_; refine TO.pass 18 rfl (by kernel_rfl) (by kernel_rfl) (by kernel_rfl) (Unwanted.guard rfl rfl (by assumption)) rfl rfl ?_; refine TO.pass 19 rfl (by kernel_rfl) (by kernel_rfl) (by kernel_rfl) (Unwanted.guard rfl rfl (by assumption)) rfl rfl ?_; refine TO.take 20 rfl (by kernel_rfl) (by kernel_rfl) (by kernel_rfl) (PV.pickT rfl (by assumption) rfl) Wanted.none rfl rfl ?_; refine TO.take 21 rfl (by kernel_rfl) (by kernel_rfl) (by kernel_rfl) (PV.move rfl) Wanted.none rfl rfl ?_; refine TO.pass 22 rfl (by kernel_rfl) (by kernel_rfl) (by kernel_rfl) (Unwanted.guard rfl rfl rfl) rfl rfl ?_; refine TO.pass 23 rfl (by kernel_rfl) (by kernel_rfl) (by kernel_rfl) (Unwanted.guard rfl rfl rfl) rfl rfl ?_; refine TO.pass 24 rfl (by kernel_rfl) (by kernel_rfl) (by kernel_rfl) (Unwanted.guard rfl rfl rfl) rfl rfl ?_; refine TO.take 25 rfl (by kernel_rfl) (by kernel_rfl) (by kernel_rfl) (PV.pickT rfl rfl rfl) Wanted.none rfl rfl ?_; refine TO.take 26 rfl (by kernel_rfl) (by kernel_rfl) (by kernel_rfl) (PV.move rfl) Wanted.none rfl rfl ?_; refine TO.pass 27 rfl (by kernel_rfl) (by kernel_rfl) (by kernel_rfl) (Unwanted.guard rfl rfl rfl) rfl rfl ?_; refine TO.pass 28 rfl (by kernel_rfl) (by kernel_rfl) (by kernel_rfl) (Unwanted.guard rfl rfl rfl) rfl rfl ?_; refine TO.pass 29 rfl (by kernel_rfl) (by kernel_rfl) (by kernel_rfl) (Unwanted.guard rfl rfl rfl) rfl rfl ?_; refine TO.take 30 rfl (by kernel_rfl) (by kernel_rfl) (by kernel_rfl) (PV.pickT rfl rfl rfl) Wanted.none rfl rfl ?_; refine TO.take 31 rfl (by kernel_rfl) (by kernel_rfl) (by kernel_rfl) (PV.move rfl) Wanted.none rfl rfl ?_; refine TO.pass 32 rfl (by kernel_rfl) (by kernel_rfl) (by kernel_rfl) (Unwanted.guard rfl rfl rfl) rfl rfl ?_; refine TO.pass 33 rfl (by kernel_rfl) (by kernel_rfl) (by kernel_rfl) (Unwanted.guard rfl rfl rfl) rfl rfl ?_; refine TO.pass 34 rfl (by kernel_rfl) (by kernel_rfl) (by kernel_rfl) (Unwanted.guard rfl rfl rfl) rfl rfl ?_; refine TO.pass 35 rfl (by kernel_rfl) (by kernel_rfl) (by kernel_rfl) (Unwanted.undef rfl rfl) rfl rfl ?_; refine TO.pass 36 rfl (by kernel_rfl) (by kernel_rfl) (by kernel_rfl) (Unwanted.undef rfl rfl) rfl rfl ?_; refine TO.pass 37 rfl (by kernel_rfl) (by kernel_rfl) (by kernel_rfl) (Unwanted.undef rfl rfl) rfl rfl ?_; refine TO.pass 38 rfl (by kernel_rfl) (by kernel_rfl) (by kernel_rfl) (Unwanted.undef rfl rfl) rfl rfl ?_
      refine TO.pass 39 rfl (by kernel_rfl) (by kernel_rfl) (by kernel_rfl) (Unwanted.undef rfl rfl) rfl rfl ?_; refine TO.pass 40 rfl (by kernel_rfl) (by kernel_rfl) (by kernel_rfl) (Unwanted.undef rfl rfl) rfl rfl ?_; refine TO.pass 41 rfl (by kernel_rfl) (by kernel_rfl) (by kernel_rfl) (Unwanted.undef rfl rfl) rfl rfl ?_; refine TO.pass 42 rfl (by kernel_rfl) (by kernel_rfl) (by kernel_rfl) (Unwanted.undef rfl rfl) rfl rfl ?_; refine TO.pass 43 rfl (by kernel_rfl) (by kernel_rfl) (by kernel_rfl) (Unwanted.guard rfl rfl rfl) rfl rfl ?_; refine TO.take 44 rfl (by kernel_rfl) (by kernel_rfl) (by kernel_rfl) (PV.pickT rfl rfl rfl) Wanted.none rfl rfl ?_; refine TO.done (by kernel_rfl) zq4 zq17 ?_; refine T.condT rfl rfl ?_; refine zs3 ?_; refine sa ?_; refine so ?_
      exact T.retF (Lv.fin (RV.tmp rfl rfl) (by rw [hbad (by unfold okR rwK; simp only []; rw [decide_eq_false (show ¬ r.ks.length ≤ 4 by omega)]; simp)]))
    have d2 : decide ((4 : Int) < (r.ks.length : Int)) = false := decide_eq_false (by omega)
    by_cases c3 : r.ks.length = r0.ks.length
    rotate_left
    · have d3 : decide ((r.ks.length : Int) ≠ (r0.ks.length : Int)) = true := decide_eq_true (by omega)
      (repeat refine sq ?_)
      refine T.regionO [(b5, .cells #[.slice ar r.ks.length cr, .int .i64 r.n] 34 (0, 0)), (b7, .map es ck)] (by kernel_rfl) ?_; refine TO.take 0 rfl (by kernel_rfl) (by kernel_rfl) (by kernel_rfl) (PV.fieldAddr rfl) Wanted.none rfl rfl ?_; refine TO.take 1 rfl (by kernel_rfl) (by kernel_rfl) (by kernel_rfl) (PV.load1 rfl zq0 rfl) Wanted.none rfl rfl ?_; refine TO.take 2 rfl (by kernel_rfl) (by kernel_rfl) (by kernel_rfl) (PV.lenSl rfl) Wanted.none rfl rfl ?_; refine TO.take 3 rfl (by kernel_rfl) (by kernel_rfl) (by kernel_rfl) (PV.lss rfl rfl) Wanted.none rfl rfl ?_; refine TO.take 4 rfl (by kernel_rfl) (by kernel_rfl) (by kernel_rfl) (PV.move rfl) Wanted.none rfl rfl ?_; refine TO.take 5 rfl (by kernel_rfl) (by kernel_rfl) (by kernel_rfl) (PV.fieldAddr rfl) (Wanted.guard rfl rfl (by assumption)) rfl rfl ?_; refine TO.take 6 rfl (by kernel_rfl) (by kernel_rfl) (by kernel_rfl) (PV.load1 rfl zq0 rfl) (Wanted.guard rfl rfl (by assumption)) rfl rfl ?_; refine TO.take 7 rfl (by kernel_rfl) (by kernel_rfl) (by kernel_rfl) (PV.lenSl rfl) (Wanted.guard rfl rfl (by assumption)) rfl rfl ?_; refine TO.take 8 rfl (by kernel_rfl) (by kernel_rfl) (by kernel_rfl) (PV.gtr rfl rfl) (Wanted.guard rfl rfl (by assumption)) rfl rfl ?_; refine TO.take 9 rfl (by kernel_rfl) (by kernel_rfl) (by kernel_rfl) (PV.pickF rfl (by assumption) rfl) Wanted.none rfl rfl ?_; refine TO.take 10 rfl (by kernel_rfl) (by kernel_rfl) (by kernel_rfl) (PV.move rfl) Wanted.none rfl rfl ?_; refine TO.take 11 rfl (by kernel_rfl) (by kernel_rfl) (by kernel_rfl) (PV.fieldAddr rfl) (Wanted.guard rfl rfl (by assumption)) rfl rfl ?_; refine TO.take 12 rfl (by kernel_rfl) (by kernel_rfl) (by kernel_rfl) (PV.load1 rfl zq0 rfl) (Wanted.guard rfl rfl (by assumption)) rfl rfl ?_; refine TO.take 13 rfl (by kernel_rfl) (by kernel_rfl) (by kernel_rfl) (PV.lenSl rfl) (Wanted.guard rfl rfl (by assumption)) rfl rfl ?_; refine TO.take 14 rfl (by kernel_rfl) (by kernel_rfl) (by kernel_rfl) (PV.move rfl) (Wanted.guard rfl rfl (by assumption)) rfl rfl ?_; refine TO.take 15 rfl (by kernel_rfl) (by kernel_rfl) (by kernel_rfl) (PV.indexAddr rfl rfl (by omega)) (Wanted.guard rfl rfl (by assumption)) rfl rfl ?_; refine TO.take 16 rfl (by kernel_rfl) (by kernel_rfl) (by kernel_rfl) (PV.fieldAddr rfl) (Wanted.guard rfl rfl (by assumption)) rfl rfl ?_; refine TO.take 17 rfl (by kernel_rfl) (by kernel_rfl) (by kernel_rfl) (PV.loadSub rfl (by assumption) rfl) (Wanted.guard rfl rfl (by assumption)) rfl rfl ?_; refine TO.take 18 rfl (by kernel_rfl) (by kernel_rfl) (by kernel_rfl) (PV.lenSl rfl) (Wanted.guard rfl rfl (by assumption)) rfl rfl ?_; refine TO.take 19 rfl (by kernel_rfl) (by kernel_rfl) (by kernel_rfl) (PV.neq rfl rfl) (Wanted.guard rfl rfl (by assumption)) rfl rfl ?_; refine TO.take 20 rfl (by kernel_rfl) (by kernel_rfl) (by kernel_rfl) (PV.pickF rfl (by assumption) rfl) Wanted.none rfl rfl ?_; refine TO.take 21 rfl (by kernel_rfl) (by kernel_rfl) (by kernel_rfl) (PV.move rfl) Wanted.none rfl rfl ?_; refine TO.pass 22 rfl (by kernel_rfl) (by kernel_rfl) (by kernel_rfl) (Unwanted.guard rfl rfl (by assumption)) rfl rfl ?_; refine TO.pass 23 rfl (by kernel_rfl) (by kernel_rfl) (by kernel_rfl) (Unwanted.guard rfl rfl (by assumption)) rfl rfl ?_; refine TO.pass 24 rfl (by kernel_rfl) (by kernel_rfl) (by kernel_rfl) (Unwanted.guard rfl rfl (by assumption)) rfl rfl ?_; refine TO.take 25 rfl (by kernel_rfl) (by kernel_rfl) (by kernel_rfl) (PV.pickT rfl (by assumption) rfl) Wanted.none rfl rfl ?_; refine TO.take 26 rfl (by kernel_rfl) (by kernel_rfl) (by kernel_rfl) (PV.move rfl) Wanted.none rfl rfl ?_; refine TO.pass 27 rfl (by kernel_rfl) (by kernel_rfl) (by kernel_rfl) (Unwanted.guard rfl rfl rfl) rfl rfl ?_; refine TO.pass 28 rfl (by kernel_rfl) (by kernel_rfl) (by kernel_rfl) (Unwanted.guard rfl rfl rfl) rfl rfl ?_; refine TO.pass 29 rfl (by kernel_rfl) (by kernel_rfl) (by kernel_rfl) (Unwanted.guard rfl rfl rfl) rfl rfl ?_; refine TO.take 30 rfl (by kernel_rfl) (by kernel_rfl) (by kernel_rfl) (PV.pickT rfl rfl rfl) Wanted.none rfl rfl ?_; refine TO.take 31 rfl (by kernel_rfl) (by kernel_rfl) (by kernel_rfl) (PV.move rfl) Wanted.none rfl rfl ?_; refine TO.pass 32 rfl (by kernel_rfl) (by kernel_rfl) (by kernel_rfl) (Unwanted.guard rfl rfl rfl) rfl rfl ?_; refine TO.pass 33 rfl (by kernel_rfl) (by kernel_rfl) (by kernel_rfl) (Unwanted.guard rfl rfl rfl) rfl rfl ?_; refine TO.pass 34 rfl (by kernel_rfl) (by kernel_rfl) (by kernel_rfl) (Unwanted.guard rfl rfl rfl) rfl rfl ?_; refine TO.pass 35 rfl (by kernel_rfl) (by kernel_rfl) (by kernel_rfl) (Unwanted.undef rfl rfl) rfl rfl ?_; refine TO.pass 36 rfl (by kernel_rfl) (by kernel_rfl) (by kernel_rfl) (Unwanted.undef rfl rfl) rfl rfl ?_; refine TO.pass 37 rfl (by kernel_rfl) (by kernel_rfl) (by kernel_rfl) (Unwanted.undef rfl rfl) rfl rfl ?_; refine TO.pass 38 rfl (by kernel_rfl) (by kernel_rfl) (by kernel_rfl) (Unwanted.undef rfl rfl) rfl rfl ?_
      refine TO.pass 39 rfl (by kernel_rfl) (by kernel_rfl) (by kernel_rfl) (Unwanted.undef rfl rfl) rfl rfl ?_; refine TO.pass 40 rfl (by kernel_rfl) (by kernel_rfl) (by kernel_rfl) (Unwanted.undef rfl rfl) rfl rfl ?_; refine TO.pass 41 rfl (by kernel_rfl) (by kernel_rfl) (by kernel_rfl) (Unwanted.undef rfl rfl) rfl rfl ?_; refine TO.pass 42 rfl (by kernel_rfl) (by kernel_rfl) (by kernel_rfl) (Unwanted.undef rfl rfl) rfl rfl ?_; refine TO.pass 43 rfl (by kernel_rfl) (by kernel_rfl) (by kernel_rfl) (Unwanted.guard rfl rfl rfl) rfl rfl ?_; refine TO.take 44 rfl (by kernel_rfl) (by kernel_rfl) (by kernel_rfl) (PV.pickT rfl rfl rfl) Wanted.none rfl rfl ?_; refine TO.done (by kernel_rfl) zq4 zq17 ?_; refine T.condT rfl rfl ?_; refine zs3 ?_; refine sa ?_; refine so ?_
      exact T.retF (Lv.fin (RV.tmp rfl rfl) (by rw [hbad (by unfold okR rwK; simp only []; rw [decide_eq_false c3]; simp)]))
    have d3 : decide ((r.ks.length : Int) ≠ (r0.ks.length : Int)) = false := decide_eq_false (by omega)
    by_cases c4 : r.n < 1
    · have d4 : decide (r.n < 1) = true := decide_eq_true c4
      (repeat refine sq ?_)
      refine T.regionO [(b5, .cells #[.slice ar r.ks.length cr, .int .i64 r.n] 34 (0, 0)), (b7, .map es ck)] (by kernel_rfl) ?_; refine TO.take 0 rfl (by kernel_rfl) (by kernel_rfl) (by kernel_rfl) (PV.fieldAddr rfl) Wanted.none rfl rfl ?_; refine TO.take 1 rfl (by kernel_rfl) (by kernel_rfl) (by kernel_rfl) (PV.load1 rfl zq0 rfl) Wanted.none rfl rfl ?_; refine TO.take 2 rfl (by kernel_rfl) (by kernel_rfl) (by kernel_rfl) (PV.lenSl rfl) Wanted.none rfl rfl ?_; refine TO.take 3 rfl (by kernel_rfl) (by kernel_rfl) (by kernel_rfl) (PV.lss rfl rfl) Wanted.none rfl rfl ?_; refine TO.take 4 rfl (by kernel_rfl) (by kernel_rfl) (by kernel_rfl) (PV.move rfl) Wanted.none rfl rfl ?_; refine TO.take 5 rfl (by kernel_rfl) (by kernel_rfl) (by kernel_rfl) (PV.fieldAddr rfl) (Wanted.guard rfl rfl (by assumption)) rfl rfl ?_; refine TO.take 6 rfl (by kernel_rfl) (by kernel_rfl) (by kernel_rfl) (PV.load1 rfl zq0 rfl) (Wanted.guard rfl rfl (by assumption)) rfl rfl ?_; refine TO.take 7 rfl (by kernel_rfl) (by kernel_rfl) (by kernel_rfl) (PV.lenSl rfl) (Wanted.guard rfl rfl (by assumption)) rfl rfl ?_; refine TO.take 8 rfl (by kernel_rfl) (by kernel_rfl) (by kernel_rfl) (PV.gtr rfl rfl) (Wanted.guard rfl rfl (by assumption)) rfl rfl ?_; refine TO.take 9 rfl (by kernel_rfl) (by kernel_rfl) (by kernel_rfl) (PV.pickF rfl (by assumption) rfl) Wanted.none rfl rfl ?_; refine TO.take 10 rfl (by kernel_rfl) (by kernel_rfl) (by kernel_rfl) (PV.move rfl) Wanted.none rfl rfl ?_; refine TO.take 11 rfl (by kernel_rfl) (by kernel_rfl) (by kernel_rfl) (PV.fieldAddr rfl) (Wanted.guard rfl rfl (by assumption)) rfl rfl ?_; refine TO.take 12 rfl (by kernel_rfl) (by kernel_rfl) (by kernel_rfl) (PV.load1 rfl zq0 rfl) (Wanted.guard rfl rfl (by assumption)) rfl rfl ?_; refine TO.take 13 rfl (by kernel_rfl) (by kernel_rfl) (by kernel_rfl) (PV.lenSl rfl) (Wanted.guard rfl rfl (by assumption)) rfl rfl ?_; refine TO.take 14 rfl (by kernel_rfl) (by kernel_rfl) (by kernel_rfl) (PV.move rfl) (Wanted.guard rfl rfl (by assumption)) rfl rfl ?_; refine TO.take 15 rfl (by kernel_rfl) (by kernel_rfl) (by kernel_rfl) (PV.indexAddr rfl rfl (by omega)) (Wanted.guard rfl rfl (by assumption)) rfl rfl ?_; refine TO.take 16 rfl (by kernel_rfl) (by kernel_rfl) (by kernel_rfl) (PV.fieldAddr rfl) (Wanted.guard rfl rfl (by assumption)) rfl rfl ?_; refine TO.take 17 rfl (by kernel_rfl) (by kernel_rfl) (by kernel_rfl) (PV.loadSub rfl (by assumption) rfl) (Wanted.guard rfl rfl (by assumption)) rfl rfl ?_; refine TO.take 18 rfl (by kernel_rfl) (by kernel_rfl) (by kernel_rfl) (PV.lenSl rfl) (Wanted.guard rfl rfl (by assumption)) rfl rfl ?_; refine TO.take 19 rfl (by kernel_rfl) (by kernel_rfl) (by kernel_rfl) (PV.neq rfl rfl) (Wanted.guard rfl rfl (by assumption)) rfl rfl ?_; refine TO.take 20 rfl (by kernel_rfl) (by kernel_rfl) (by kernel_rfl) (PV.pickF rfl (by assumption) rfl) Wanted.none rfl rfl ?_; refine TO.take 21 rfl (by kernel_rfl) (by kernel_rfl) (by kernel_rfl) (PV.move rfl) Wanted.none rfl rfl ?_; refine TO.take 22 rfl (by kernel_rfl) (by kernel_rfl) (by kernel_rfl) (PV.fieldAddr rfl) (Wanted.guard rfl rfl (by assumption)) rfl rfl ?_; refine TO.take 23 rfl (by kernel_rfl) (by kernel_rfl) (by kernel_rfl) (PV.load1 rfl zq0 rfl) (Wanted.guard rfl rfl (by assumption)) rfl rfl ?_; refine TO.take 24 rfl (by kernel_rfl) (by kernel_rfl) (by kernel_rfl) (PV.lss rfl rfl) (Wanted.guard rfl rfl (by assumption)) rfl rfl ?_; refine TO.take 25 rfl (by kernel_rfl) (by kernel_rfl) (by kernel_rfl) (PV.pickF rfl (by assumption) rfl) Wanted.none rfl rfl ?_; refine TO.take 26 rfl (by kernel_rfl) (by kernel_rfl) (by kernel_rfl) (PV.move rfl) Wanted.none rfl rfl ?_; refine TO.pass 27 rfl (by kernel_rfl) (by kernel_rfl) (by kernel_rfl) (Unwanted.guard rfl rfl (by assumption)) rfl rfl ?_; refine TO.pass 28 rfl (by kernel_rfl) (by kernel_rfl) (by kernel_rfl) (Unwanted.guard rfl rfl (by assumption)) rfl rfl ?_; refine TO.pass 29 rfl (by kernel_rfl) (by kernel_rfl) (by kernel_rfl) (Unwanted.guard rfl rfl (by assumption)) rfl rfl ?_; refine TO.take 30 rfl (by kernel_rfl) (by kernel_rfl) (by kernel_rfl) (PV.pickT rfl (by assumption) rfl) Wanted.none rfl rfl ?_; refine TO.take 31 rfl (by kernel_rfl) (by kernel_rfl) (by kernel_rfl) (PV.move rfl) Wanted.none rfl rfl ?_; refine TO.pass 32 rfl (by kernel_rfl) (by kernel_rfl) (by kernel_rfl) (Unwanted.guard rfl rfl rfl) rfl rfl ?_; refine TO.pass 33 rfl (by kernel_rfl) (by kernel_rfl) (by kernel_rfl) (Unwanted.guard rfl rfl rfl) rfl rfl ?_; refine TO.pass 34 rfl (by kernel_rfl) (by kernel_rfl) (by kernel_rfl) (Unwanted.guard rfl rfl rfl) rfl rfl ?_; refine TO.pass 35 rfl (by kernel_rfl) (by kernel_rfl) (by kernel_rfl) (Unwanted.undef rfl rfl) rfl rfl ?_; refine TO.pass 36 rfl (by kernel_rfl) (by kernel_rfl) (by kernel_rfl) (Unwanted.undef rfl rfl) rfl rfl ?_; refine TO.pass 37 rfl (by kernel_rfl) (by kernel_rfl) (by kernel_rfl) (Unwanted.undef rfl rfl) rfl rfl ?_; refine TO.pass 38 rfl (by kernel_rfl) (by kernel_rfl) (by kernel_rfl) (Unwanted.undef rfl rfl) rfl rfl ?_
      refine TO.pass 39 rfl (by kernel_rfl) (by kernel_rfl) (by kernel_rfl) (Unwanted.undef rfl rfl) rfl rfl ?_; refine TO.pass 40 rfl (by kernel_rfl) (by kernel_rfl) (by kernel_rfl) (Unwanted.undef rfl rfl) rfl rfl ?_; refine TO.pass 41 rfl (by kernel_rfl) (by kernel_rfl) (by kernel_rfl) (Unwanted.undef rfl rfl) rfl rfl ?_; refine TO.pass 42 rfl (by kernel_rfl) (by kernel_rfl) (by kernel_rfl) (Unwanted.undef rfl rfl) rfl rfl ?_; refine TO.pass 43 rfl (by kernel_rfl) (by kernel_rfl) (by kernel_rfl) (Unwanted.guard rfl rfl rfl) rfl rfl ?_; refine TO.take 44 rfl (by kernel_rfl) (by kernel_rfl) (by kernel_rfl) (PV.pickT rfl rfl rfl) Wanted.none rfl rfl ?_; refine TO.done (by kernel_rfl) zq4 zq17 ?_; refine T.condT rfl rfl ?_; refine zs3 ?_; refine sa ?_; refine so ?_
      exact T.retF (Lv.fin (RV.tmp rfl rfl) (by rw [hbad (by unfold okR rwK; simp only []; rw [decide_eq_false (show ¬ 1 ≤ r.n by omega)]; simp)]))
    have d4 : decide (r.n < 1) = false := decide_eq_false c4
    by_cases c5 : ∀ x ∈ F.take i, x.1 ≠ r.ks
    rotate_left
    · have hsee : (lookS (seenM (F.take i)) (joinB r.ks)).getD (.bool false) = .bool true := by rw [hlk, if_neg c5]; rfl
      (repeat refine sq ?_)
      refine T.regionO [(b5, .cells #[.slice ar r.ks.length cr, .int .i64 r.n] 34 (0, 0)), (b7, .map es ck)] (by kernel_rfl) ?_; refine TO.take 0 rfl (by kernel_rfl) (by kernel_rfl) (by kernel_rfl) (PV.fieldAddr rfl) Wanted.none rfl rfl ?_; refine TO.take 1 rfl (by kernel_rfl) (by kernel_rfl) (by kernel_rfl) (PV.load1 rfl zq0 rfl) Wanted.none rfl rfl ?_; refine TO.take 2 rfl (by kernel_rfl) (by kernel_rfl) (by kernel_rfl) (PV.lenSl rfl) Wanted.none rfl rfl ?_; refine TO.take 3 rfl (by kernel_rfl) (by kernel_rfl) (by kernel_rfl) (PV.lss rfl rfl) Wanted.none rfl rfl ?_; refine TO.take 4 rfl (by kernel_rfl) (by kernel_rfl) (by kernel_rfl) (PV.move rfl) Wanted.none rfl rfl ?_; refine TO.take 5 rfl (by kernel_rfl) (by kernel_rfl) (by kernel_rfl) (PV.fieldAddr rfl) (Wanted.guard rfl rfl (by assumption)) rfl rfl ?_; refine TO.take 6 rfl (by kernel_rfl) (by kernel_rfl) (by kernel_rfl) (PV.load1 rfl zq0 rfl) (Wanted.guard rfl rfl (by assumption)) rfl rfl ?_; refine TO.take 7 rfl (by kernel_rfl) (by kernel_rfl) (by kernel_rfl) (PV.lenSl rfl) (Wanted.guard rfl rfl (by assumption)) rfl rfl ?_; refine TO.take 8 rfl (by kernel_rfl) (by kernel_rfl) (by kernel_rfl) (PV.gtr rfl rfl) (Wanted.guard rfl rfl (by assumption)) rfl rfl ?_; refine TO.take 9 rfl (by kernel_rfl) (by kernel_rfl) (by kernel_rfl) (PV.pickF rfl (by assumption) rfl) Wanted.none rfl rfl ?_; refine TO.take 10 rfl (by kernel_rfl) (by kernel_rfl) (by kernel_rfl) (PV.move rfl) Wanted.none rfl rfl ?_; refine TO.take 11 rfl (by kernel_rfl) (by kernel_rfl) (by kernel_rfl) (PV.fieldAddr rfl) (Wanted.guard rfl rfl (by assumption)) rfl rfl ?_; refine TO.take 12 rfl (by kernel_rfl) (by kernel_rfl) (by kernel_rfl) (PV.load1 rfl zq0 rfl) (Wanted.guard rfl rfl (by assumption)) rfl rfl ?_; refine TO.take 13 rfl (by kernel_rfl) (by kernel_rfl) (by kernel_rfl) (PV.lenSl rfl) (Wanted.guard rfl rfl (by assumption)) rfl rfl ?_; refine TO.take 14 rfl (by kernel_rfl) (by kernel_rfl) (by kernel_rfl) (PV.move rfl) (Wanted.guard rfl rfl (by assumption)) rfl rfl ?_; refine TO.take 15 rfl (by kernel_rfl) (by kernel_rfl) (by kernel_rfl) (PV.indexAddr rfl rfl (by omega)) (Wanted.guard rfl rfl (by assumption)) rfl rfl ?_; refine TO.take 16 rfl (by kernel_rfl) (by kernel_rfl) (by kernel_rfl) (PV.fieldAddr rfl) (Wanted.guard rfl rfl (by assumption)) rfl rfl ?_; refine TO.take 17 rfl (by kernel_rfl) (by kernel_rfl) (by kernel_rfl) (PV.loadSub rfl (by assumption) rfl) (Wanted.guard rfl rfl (by assumption)) rfl rfl ?_; refine TO.take 18 rfl (by kernel_rfl) (by kernel_rfl) (by kernel_rfl) (PV.lenSl rfl) (Wanted.guard rfl rfl (by assumption)) rfl rfl ?_; refine TO.take 19 rfl (by kernel_rfl) (by kernel_rfl) (by kernel_rfl) (PV.neq rfl rfl) (Wanted.guard rfl rfl (by assumption)) rfl rfl ?_; refine TO.take 20 rfl (by kernel_rfl) (by kernel_rfl) (by kernel_rfl) (PV.pickF rfl (by assumption) rfl) Wanted.none rfl rfl ?_; refine TO.take 21 rfl (by kernel_rfl) (by kernel_rfl) (by kernel_rfl) (PV.move rfl) Wanted.none rfl rfl ?_; refine TO.take 22 rfl (by kernel_rfl) (by kernel_rfl) (by kernel_rfl) (PV.fieldAddr rfl) (Wanted.guard rfl rfl (by assumption)) rfl rfl ?_; refine TO.take 23 rfl (by kernel_rfl) (by kernel_rfl) (by kernel_rfl) (PV.load1 rfl zq0 rfl) (Wanted.guard rfl rfl (by assumption)) rfl rfl ?_; refine TO.take 24 rfl (by kernel_rfl) (by kernel_rfl) (by kernel_rfl) (PV.lss rfl rfl) (Wanted.guard rfl rfl (by assumption)) rfl rfl ?_; refine TO.take 25 rfl (by kernel_rfl) (by kernel_rfl) (by kernel_rfl) (PV.pickF rfl (by assumption) rfl) Wanted.none rfl rfl ?_; refine TO.take 26 rfl (by kernel_rfl) (by kernel_rfl) (by kernel_rfl) (PV.move rfl) Wanted.none rfl rfl ?_; refine TO.take 27 rfl (by kernel_rfl) (by kernel_rfl) (by kernel_rfl) (PV.move rfl) (Wanted.guard rfl rfl (by assumption)) rfl rfl ?_; refine TO.take 28 rfl (by kernel_rfl) (by kernel_rfl) (by kernel_rfl) (PV.move rfl) (Wanted.guard rfl rfl (by assumption)) rfl rfl ?_; refine TO.take 29 rfl (by kernel_rfl) (by kernel_rfl) (by kernel_rfl) (PV.mapIs (by assumption) (by assumption) (by assumption) rfl rfl (by assumption) zq2 (by assumption)) (Wanted.guard rfl rfl (by assumption)) rfl rfl ?_; refine TO.take 30 rfl (by kernel_rfl) (by kernel_rfl) (by kernel_rfl) (PV.pickF rfl (by assumption) rfl) Wanted.none rfl rfl ?_; refine TO.take 31 rfl (by kernel_rfl) (by kernel_rfl) (by kernel_rfl) (PV.move rfl) Wanted.none rfl rfl ?_; refine TO.pass 32 rfl (by kernel_rfl) (by kernel_rfl) (by kernel_rfl) (Unwanted.guard rfl rfl rfl) rfl rfl ?_; refine TO.pass 33 rfl (by kernel_rfl) (by kernel_rfl) (by kernel_rfl) (Unwanted.guard rfl rfl rfl) rfl rfl ?_; refine TO.pass 34 rfl (by kernel_rfl) (by kernel_rfl) (by kernel_rfl) (Unwanted.guard rfl rfl rfl) rfl rfl ?_; refine TO.pass 35 rfl (by kernel_rfl) (by kernel_rfl) (by kernel_rfl) (Unwanted.undef rfl rfl) rfl rfl ?_; refine TO.pass 36 rfl (by kernel_rfl) (by kernel_rfl) (by kernel_rfl) (Unwanted.undef rfl rfl) rfl rfl ?_; refine TO.pass 37 rfl (by kernel_rfl) (by kernel_rfl) (by kernel_rfl) (Unwanted.undef rfl rfl) rfl rfl ?_; refine TO.pass 38 rfl (by kernel_rfl) (by kernel_rfl) (by kernel_rfl) (Unwanted.undef rfl rfl) rfl rfl ?_
      refine TO.pass 39 rfl (by kernel_rfl) (by kernel_rfl) (by kernel_rfl) (Unwanted.undef rfl rfl) rfl rfl ?_; refine TO.pass 40 rfl (by kernel_rfl) (by kernel_rfl) (by kernel_rfl) (Unwanted.undef rfl rfl) rfl rfl ?_; refine TO.pass 41 rfl (by kernel_rfl) (by kernel_rfl) (by kernel_rfl) (Unwanted.undef rfl rfl) rfl rfl ?_; refine TO.pass 42 rfl (by kernel_rfl) (by kernel_rfl) (by kernel_rfl) (Unwanted.undef rfl rfl) rfl rfl ?_; refine TO.pass 43 rfl (by kernel_rfl) (by kernel_rfl) (by kernel_rfl) (Unwanted.guard rfl rfl rfl) rfl rfl ?_; refine TO.take 44 rfl (by kernel_rfl) (by kernel_rfl) (by kernel_rfl) (PV.pickT rfl rfl rfl) Wanted.none rfl rfl ?_; refine TO.done (by kernel_rfl) zq4 zq17 ?_; refine T.condT rfl rfl ?_; refine zs3 ?_; refine sa ?_; refine so ?_
      exact T.retF (Lv.fin (RV.tmp rfl rfl) (by rw [hbad (by unfold okR rwK; simp only []; rw [decide_eq_false c5]; simp)]))
    have hsee : (lookS (seenM (F.take i)) (joinB r.ks)).getD (.bool false) = .bool false := by rw [hlk, if_pos c5]; rfl
    by_cases c6 : i = 0
    · have d6 : decide ((0 : Int) < (i : Int)) = false := decide_eq_false (by omega)
      have hok : okR (keysN F) (F.take i) (rwK r) = true := by
        unfold okR
        simp only [Bool.and_eq_true, decide_eq_true_eq]
        exact ⟨show 1 ≤ r.ks.length by omega, show r.ks.length ≤ 4 by omega, hkn.symm ▸ c3, show 1 ≤ r.n by omega, c5, by rw [c6]; rfl⟩
      have hst : ∀ j q, j < i + 1 → F[j]? = some q → okR (keysN F) (F.take j) q = true := by
        intro j q hj hq
        by_cases hji : j < i
        · exact g2 j q hji hq
        · obtain rfl : j = i := by omega
          rw [hFi] at hq
          obtain rfl := Option.some.inj hq
          exact hok
      have htk : F.take (i + 1) = F.take i ++ [rwK r] := by rw [List.take_add_one, hFi]; rfl
      (repeat refine sq ?_)
      refine T.regionO [(b5, .cells #[.slice ar r.ks.length cr, .int .i64 r.n] 34 (0, 0)), (b7, .map es ck)] (by kernel_rfl) ?_; refine TO.take 0 rfl (by kernel_rfl) (by kernel_rfl) (by kernel_rfl) (PV.fieldAddr rfl) Wanted.none rfl rfl ?_; refine TO.take 1 rfl (by kernel_rfl) (by kernel_rfl) (by kernel_rfl) (PV.load1 rfl zq0 rfl) Wanted.none rfl rfl ?_; refine TO.take 2 rfl (by kernel_rfl) (by kernel_rfl) (by kernel_rfl) (PV.lenSl rfl) Wanted.none rfl rfl ?_; refine TO.take 3 rfl (by kernel_rfl) (by kernel_rfl) (by kernel_rfl) (PV.lss rfl rfl) Wanted.none rfl rfl ?_; refine TO.take 4 rfl (by kernel_rfl) (by kernel_rfl) (by kernel_rfl) (PV.move rfl) Wanted.none rfl rfl ?_; refine TO.take 5 rfl (by kernel_rfl) (by kernel_rfl) (by kernel_rfl) (PV.fieldAddr rfl) (Wanted.guard rfl rfl (by assumption)) rfl rfl ?_; refine TO.take 6 rfl (by kernel_rfl) (by kernel_rfl) (by kernel_rfl) (PV.load1 rfl zq0 rfl) (Wanted.guard rfl rfl (by assumption)) rfl rfl ?_; refine TO.take 7 rfl (by kernel_rfl) (by kernel_rfl) (by kernel_rfl) (PV.lenSl rfl) (Wanted.guard rfl rfl (by assumption)) rfl rfl ?_; refine TO.take 8 rfl (by kernel_rfl) (by kernel_rfl) (by kernel_rfl) (PV.gtr rfl rfl) (Wanted.guard rfl rfl (by assumption)) rfl rfl ?_; refine TO.take 9 rfl (by kernel_rfl) (by kernel_rfl) (by kernel_rfl) (PV.pickF rfl (by assumption) rfl) Wanted.none rfl rfl ?_; refine TO.take 10 rfl (by kernel_rfl) (by kernel_rfl) (by kernel_rfl) (PV.move rfl) Wanted.none rfl rfl ?_; refine TO.take 11 rfl (by kernel_rfl) (by kernel_rfl) (by kernel_rfl) (PV.fieldAddr rfl) (Wanted.guard rfl rfl (by assumption)) rfl rfl ?_; refine TO.take 12 rfl (by kernel_rfl) (by kernel_rfl) (by kernel_rfl) (PV.load1 rfl zq0 rfl) (Wanted.guard rfl rfl (by assumption)) rfl rfl ?_; refine TO.take 13 rfl (by kernel_rfl) (by kernel_rfl) (by kernel_rfl) (PV.lenSl rfl) (Wanted.guard rfl rfl (by assumption)) rfl rfl ?_; refine TO.take 14 rfl (by kernel_rfl) (by kernel_rfl) (by kernel_rfl) (PV.move rfl) (Wanted.guard rfl rfl (by assumption)) rfl rfl ?_; refine TO.take 15 rfl (by kernel_rfl) (by kernel_rfl) (by kernel_rfl) (PV.indexAddr rfl rfl (by omega)) (Wanted.guard rfl rfl (by assumption)) rfl rfl ?_; refine TO.take 16 rfl (by kernel_rfl) (by kernel_rfl) (by kernel_rfl) (PV.fieldAddr rfl) (Wanted.guard rfl rfl (by assumption)) rfl rfl ?_; refine TO.take 17 rfl (by kernel_rfl) (by kernel_rfl) (by kernel_rfl) (PV.loadSub rfl (by assumption) rfl) (Wanted.guard rfl rfl (by assumption)) rfl rfl ?_; refine TO.take 18 rfl (by kernel_rfl) (by kernel_rfl) (by kernel_rfl) (PV.lenSl rfl) (Wanted.guard rfl rfl (by assumption)) rfl rfl ?_; refine TO.take 19 rfl (by kernel_rfl) (by kernel_rfl) (by kernel_rfl) (PV.neq rfl rfl) (Wanted.guard rfl rfl (by assumption)) rfl rfl ?_; refine TO.take 20 rfl (by kernel_rfl) (by kernel_rfl) (by kernel_rfl) (PV.pickF rfl (by assumption) rfl) Wanted.none rfl rfl ?_; refine TO.take 21 rfl (by kernel_rfl) (by kernel_rfl) (by kernel_rfl) (PV.move rfl) Wanted.none rfl rfl ?_; refine TO.take 22 rfl (by kernel_rfl) (by kernel_rfl) (by kernel_rfl) (PV.fieldAddr rfl) (Wanted.guard rfl rfl (by assumption)) rfl rfl ?_; refine TO.take 23 rfl (by kernel_rfl) (by kernel_rfl) (by kernel_rfl) (PV.load1 rfl zq0 rfl) (Wanted.guard rfl rfl (by assumption)) rfl rfl ?_; refine TO.take 24 rfl (by kernel_rfl) (by kernel_rfl) (by kernel_rfl) (PV.lss rfl rfl) (Wanted.guard rfl rfl (by assumption)) rfl rfl ?_; refine TO.take 25 rfl (by kernel_rfl) (by kernel_rfl) (by kernel_rfl) (PV.pickF rfl (by assumption) rfl) Wanted.none rfl rfl ?_; refine TO.take 26 rfl (by kernel_rfl) (by kernel_rfl) (by kernel_rfl) (PV.move rfl) Wanted.none rfl rfl ?_; refine TO.take 27 rfl (by kernel_rfl) (by kernel_rfl) (by kernel_rfl) (PV.move rfl) (Wanted.guard rfl rfl (by assumption)) rfl rfl ?_; refine TO.take 28 rfl (by kernel_rfl) (by kernel_rfl) (by kernel_rfl) (PV.move rfl) (Wanted.guard rfl rfl (by assumption)) rfl rfl ?_; refine TO.take 29 rfl (by kernel_rfl) (by kernel_rfl) (by kernel_rfl) (PV.mapIs (by assumption) (by assumption) (by assumption) rfl rfl (by assumption) zq2 (by assumption)) (Wanted.guard rfl rfl (by assumption)) rfl rfl ?_; refine TO.take 30 rfl (by kernel_rfl) (by kernel_rfl) (by kernel_rfl) (PV.pickF rfl (by assumption) rfl) Wanted.none rfl rfl ?_; refine TO.take 31 rfl (by kernel_rfl) (by kernel_rfl) (by kernel_rfl) (PV.move rfl) Wanted.none rfl rfl ?_; refine TO.take 32 rfl (by kernel_rfl) (by kernel_rfl) (by kernel_rfl) (PV.move rfl) (Wanted.guard rfl rfl rfl) rfl rfl ?_; refine TO.take 33 rfl (by kernel_rfl) (by kernel_rfl) (by kernel_rfl) (PV.gtr rfl rfl) (Wanted.guard rfl rfl rfl) rfl rfl ?_; refine TO.take 34 rfl (by kernel_rfl) (by kernel_rfl) (by kernel_rfl) (PV.move rfl) (Wanted.guard rfl rfl rfl) rfl rfl ?_; refine TO.pass 35 rfl (by kernel_rfl) (by kernel_rfl) (by kernel_rfl) (Unwanted.guard rfl rfl (by assumption)) rfl rfl ?_; refine TO.pass 36 rfl (by kernel_rfl) (by kernel_rfl) (by kernel_rfl) (Unwanted.guard rfl rfl (by assumption)) rfl rfl ?_; refine TO.pass 37 rfl (by kernel_rfl) (by kernel_rfl) (by kernel_rfl) (Unwanted.guard rfl rfl (by assumption)) rfl rfl ?_; refine TO.pass 38 rfl (by kernel_rfl) (by kernel_rfl) (by kernel_rfl) (Unwanted.guard rfl rfl (by assumption)) rfl rfl ?_
      refine TO.pass 39 rfl (by kernel_rfl) (by kernel_rfl) (by kernel_rfl) (Unwanted.guard rfl rfl (by assumption)) rfl rfl ?_; refine TO.pass 40 rfl (by kernel_rfl) (by kernel_rfl) (by kernel_rfl) (Unwanted.guard rfl rfl (by assumption)) rfl rfl ?_; refine TO.pass 41 rfl (by kernel_rfl) (by kernel_rfl) (by kernel_rfl) (Unwanted.guard rfl rfl (by assumption)) rfl rfl ?_; refine TO.pass 42 rfl (by kernel_rfl) (by kernel_rfl) (by kernel_rfl) (Unwanted.guard rfl rfl (by assumption)) rfl rfl ?_; refine TO.take 43 rfl (by kernel_rfl) (by kernel_rfl) (by kernel_rfl) (PV.pickF rfl (by assumption) rfl) (Wanted.guard rfl rfl rfl) rfl rfl ?_; refine TO.take 44 rfl (by kernel_rfl) (by kernel_rfl) (by kernel_rfl) (PV.pickF rfl rfl rfl) Wanted.none rfl rfl ?_; refine TO.done (by kernel_rfl) zq4 zq17 ?_; refine T.condF rfl rfl ?_; refine T.skip ?_; refine sr ?_; refine sm ?_; refine sm ?_; refine T.mapPush (kt := 9) (vt := 4) (by kernel_rfl) (by kernel_rfl) Wanted.none rfl rfl rfl g3 (by rw [hlk, if_pos c5]) [(b5, .cells #[.slice ar r.ks.length cr, .int .i64 r.n] 34 (0, 0))] rfl ?_
      intro es2 ck2 hs2
      refine so ?_; refine T.blkEnd ?_; refine sr ?_; refine sv (PV.add rfl rfl (by omega)) ?_; refine sm ?_; refine so ?_
      exact T.nextP ⟨i + 1, es2, ck2⟩ ⟨by dsimp only; omega, hst, by dsimp only; rw [htk]; unfold seenM; rw [List.map_append]; exact hs2⟩ (by dsimp only; omega) zq8 (by repeat (first | exact Sel.refl _ | exact Sel.nil | (refine Sel.cons zq1 ?_) | (refine Sel.app zq1 ?_) | exact Sel.one zq1)) rfl
    have d6 : decide ((0 : Int) < (i : Int)) = true := decide_eq_true (by omega)
    obtain ⟨bp, offp, pr, hye, hpx, hsubp⟩ := RowL.get encRw_len hL.1 (show i - 1 < L.length by omega)
    simp only [Option.some.injEq, Addr.mk.injEq, and_true] at hye
    obtain ⟨rfl, rfl⟩ := hye
    have hprok := hL.2 pr (List.mem_of_getElem? hpx)
    obtain ⟨arp, crp, hprv⟩ := hprok.1.len
    unfold encRw at hsubp
    rw [hprv] at hsubp
    have hsubp' : SubC H bx (off + (((i : Nat) : Int) - 1).toNat * 2) [.slice arp pr.ks.length crp, .int .i64 pr.n] := by
      rw [show (((i : Nat) : Int) - 1).toNat = i - 1 by omega]; exact hsubp
    have hcm := compareR_fn pr r H hprok hrok
    unfold rwV at hcm
    rw [hprv, hrv] at hcm
    have hlast : (F.take i).getLast? = some (rwK pr) := by
      rw [List.getLast?_eq_getElem?, List.length_take, show min i F.length - 1 = i - 1 by omega, List.getElem?_take, if_pos (by omega), hF, List.getElem?_map, hpx]; rfl
    by_cases c7 : 0 ≤ cR (rwK pr) (rwK r)
    · have d7 : decide (0 ≤ cR (rwK pr) (rwK r)) = true := decide_eq_true c7
      (repeat refine sq ?_)
      refine T.regionO [(b5, .cells #[.slice ar r.ks.length cr, .int .i64 r.n] 34 (0, 0)), (b7, .map es ck)] (by kernel_rfl) ?_; refine TO.take 0 rfl (by kernel_rfl) (by kernel_rfl) (by kernel_rfl) (PV.fieldAddr rfl) Wanted.none rfl rfl ?_; refine TO.take 1 rfl (by kernel_rfl) (by kernel_rfl) (by kernel_rfl) (PV.load1 rfl zq0 rfl) Wanted.none rfl rfl ?_; refine TO.take 2 rfl (by kernel_rfl) (by kernel_rfl) (by kernel_rfl) (PV.lenSl rfl) Wanted.none rfl rfl ?_; refine TO.take 3 rfl (by kernel_rfl) (by kernel_rfl) (by kernel_rfl) (PV.lss rfl rfl) Wanted.none rfl rfl ?_; refine TO.take 4 rfl (by kernel_rfl) (by kernel_rfl) (by kernel_rfl) (PV.move rfl) Wanted.none rfl rfl ?_; refine TO.take 5 rfl (by kernel_rfl) (by kernel_rfl) (by kernel_rfl) (PV.fieldAddr rfl) (Wanted.guard rfl rfl (by assumption)) rfl rfl ?_; refine TO.take 6 rfl (by kernel_rfl) (by kernel_rfl) (by kernel_rfl) (PV.load1 rfl zq0 rfl) (Wanted.guard rfl rfl (by assumption)) rfl rfl ?_; refine TO.take 7 rfl (by kernel_rfl) (by kernel_rfl) (by kernel_rfl) (PV.lenSl rfl) (Wanted.guard rfl rfl (by assumption)) rfl rfl ?_; refine TO.take 8 rfl (by kernel_rfl) (by kernel_rfl) (by kernel_rfl) (PV.gtr rfl rfl) (Wanted.guard rfl rfl (by assumption)) rfl rfl ?_; refine TO.take 9 rfl (by kernel_rfl) (by kernel_rfl) (by kernel_rfl) (PV.pickF rfl (by assumption) rfl) Wanted.none rfl rfl ?_; refine TO.take 10 rfl (by kernel_rfl) (by kernel_rfl) (by kernel_rfl) (PV.move rfl) Wanted.none rfl rfl ?_; refine TO.take 11 rfl (by kernel_rfl) (by kernel_rfl) (by kernel_rfl) (PV.fieldAddr rfl) (Wanted.guard rfl rfl (by assumption)) rfl rfl ?_; refine TO.take 12 rfl (by kernel_rfl) (by kernel_rfl) (by kernel_rfl) (PV.load1 rfl zq0 rfl) (Wanted.guard rfl rfl (by assumption)) rfl rfl ?_; refine TO.take 13 rfl (by kernel_rfl) (by kernel_rfl) (by kernel_rfl) (PV.lenSl rfl) (Wanted.guard rfl rfl (by assumption)) rfl rfl ?_; refine TO.take 14 rfl (by kernel_rfl) (by kernel_rfl) (by kernel_rfl) (PV.move rfl) (Wanted.guard rfl rfl (by assumption)) rfl rfl ?_; refine TO.take 15 rfl (by kernel_rfl) (by kernel_rfl) (by kernel_rfl) (PV.indexAddr rfl rfl (by omega)) (Wanted.guard rfl rfl (by assumption)) rfl rfl ?_; refine TO.take 16 rfl (by kernel_rfl) (by kernel_rfl) (by kernel_rfl) (PV.fieldAddr rfl) (Wanted.guard rfl rfl (by assumption)) rfl rfl ?_; refine TO.take 17 rfl (by kernel_rfl) (by kernel_rfl) (by kernel_rfl) (PV.loadSub rfl (by assumption) rfl) (Wanted.guard rfl rfl (by assumption)) rfl rfl ?_; refine TO.take 18 rfl (by kernel_rfl) (by kernel_rfl) (by kernel_rfl) (PV.lenSl rfl) (Wanted.guard rfl rfl (by assumption)) rfl rfl ?_; refine TO.take 19 rfl (by kernel_rfl) (by kernel_rfl) (by kernel_rfl) (PV.neq rfl rfl) (Wanted.guard rfl rfl (by assumption)) rfl rfl ?_; refine TO.take 20 rfl (by kernel_rfl) (by kernel_rfl) (by kernel_rfl) (PV.pickF rfl (by assumption) rfl) Wanted.none rfl rfl ?_; refine TO.take 21 rfl (by kernel_rfl) (by kernel_rfl) (by kernel_rfl) (PV.move rfl) Wanted.none rfl rfl ?_; refine TO.take 22 rfl (by kernel_rfl) (by kernel_rfl) (by kernel_rfl) (PV.fieldAddr rfl) (Wanted.guard rfl rfl (by assumption)) rfl rfl ?_; refine TO.take 23 rfl (by kernel_rfl) (by kernel_rfl) (by kernel_rfl) (PV.load1 rfl zq0 rfl) (Wanted.guard rfl rfl (by assumption)) rfl rfl ?_; refine TO.take 24 rfl (by kernel_rfl) (by kernel_rfl) (by kernel_rfl) (PV.lss rfl rfl) (Wanted.guard rfl rfl (by assumption)) rfl rfl ?_; refine TO.take 25 rfl (by kernel_rfl) (by kernel_rfl) (by kernel_rfl) (PV.pickF rfl (by assumption) rfl) Wanted.none rfl rfl ?_; refine TO.take 26 rfl (by kernel_rfl) (by kernel_rfl) (by kernel_rfl) (PV.move rfl) Wanted.none rfl rfl ?_; refine TO.take 27 rfl (by kernel_rfl) (by kernel_rfl) (by kernel_rfl) (PV.move rfl) (Wanted.guard rfl rfl (by assumption)) rfl rfl ?_; refine TO.take 28 rfl (by kernel_rfl) (by kernel_rfl) (by kernel_rfl) (PV.move rfl) (Wanted.guard rfl rfl (by assumption)) rfl rfl ?_; refine TO.take 29 rfl (by kernel_rfl) (by kernel_rfl) (by kernel_rfl) (PV.mapIs (by assumption) (by assumption) (by assumption) rfl rfl (by assumption) zq2 (by assumption)) (Wanted.guard rfl rfl (by assumption)) rfl rfl ?_; refine TO.take 30 rfl (by kernel_rfl) (by kernel_rfl) (by kernel_rfl) (PV.pickF rfl (by assumption) rfl) Wanted.none rfl rfl ?_; refine TO.take 31 rfl (by kernel_rfl) (by kernel_rfl) (by kernel_rfl) (PV.move rfl) Wanted.none rfl rfl ?_; refine TO.take 32 rfl (by kernel_rfl) (by kernel_rfl) (by kernel_rfl) (PV.move rfl) (Wanted.guard rfl rfl rfl) rfl rfl ?_; refine TO.take 33 rfl (by kernel_rfl) (by kernel_rfl) (by kernel_rfl) (PV.gtr rfl rfl) (Wanted.guard rfl rfl rfl) rfl rfl ?_; refine TO.take 34 rfl (by kernel_rfl) (by kernel_rfl) (by kernel_rfl) (PV.move rfl) (Wanted.guard rfl rfl rfl) rfl rfl ?_; refine TO.take 35 rfl (by kernel_rfl) (by kernel_rfl) (by kernel_rfl) (PV.move rfl) (Wanted.guard rfl rfl (by assumption)) rfl rfl ?_; refine TO.take 36 rfl (by kernel_rfl) (by kernel_rfl) (by kernel_rfl) (PV.move rfl) (Wanted.guard rfl rfl (by assumption)) rfl rfl ?_; refine TO.take 37 rfl (by kernel_rfl) (by kernel_rfl) (by kernel_rfl) (PV.sub rfl rfl (by omega)) (Wanted.guard rfl rfl (by assumption)) rfl rfl ?_; refine TO.take 38 rfl (by kernel_rfl) (by kernel_rfl) (by kernel_rfl) (PV.indexAddr rfl rfl (by omega)) (Wanted.guard rfl rfl (by assumption)) rfl rfl ?_
      refine TO.take 39 rfl (by kernel_rfl) (by kernel_rfl) (by kernel_rfl) (PV.loadSubAll rfl (by assumption) (by exact rfl)) (Wanted.guard rfl rfl (by assumption)) rfl rfl ?_; refine TO.take 40 rfl (by kernel_rfl) (by kernel_rfl) (by kernel_rfl) (PV.loadAll rfl zq0 (by exact rfl)) (Wanted.guard rfl rfl (by assumption)) rfl rfl ?_; refine TO.step 41 rfl (by kernel_rfl) zq4 zq17 ?_; (refine T.callX (Wanted.guard rfl rfl (by assumption)) rfl rfl hcm ?_; rintro _ rfl); refine so ?_; refine TO.back ?_; refine TO.take 42 rfl (by kernel_rfl) (by kernel_rfl) (by kernel_rfl) (PV.geq rfl rfl) (Wanted.guard rfl rfl (by assumption)) rfl rfl ?_; refine TO.take 43 rfl (by kernel_rfl) (by kernel_rfl) (by kernel_rfl) (PV.pickT rfl (by assumption) rfl) (Wanted.guard rfl rfl rfl) rfl rfl ?_; refine TO.take 44 rfl (by kernel_rfl) (by kernel_rfl) (by kernel_rfl) (PV.pickF rfl rfl rfl) Wanted.none rfl rfl ?_; refine TO.done (by kernel_rfl) zq4 zq17 ?_; refine T.condT rfl (by assumption) ?_; refine zs3 ?_; refine sa ?_; refine so ?_
      exact T.retF (Lv.fin (RV.tmp rfl rfl) (by rw [hbad (by unfold okR; rw [hlast]; dsimp only; rw [decide_eq_false (show ¬ cR (rwK pr) (rwK r) < 0 by omega)]; simp)]))
    have d7 : decide (0 ≤ cR (rwK pr) (rwK r)) = false := decide_eq_false c7
    have hok : okR (keysN F) (F.take i) (rwK r) = true := by
      unfold okR
      simp only [Bool.and_eq_true, decide_eq_true_eq]
      exact ⟨show 1 ≤ r.ks.length by omega, show r.ks.length ≤ 4 by omega, hkn.symm ▸ c3, show 1 ≤ r.n by omega, c5, by rw [hlast]; exact decide_eq_true (by omega)⟩
    have hst : ∀ j q, j < i + 1 → F[j]? = some q → okR (keysN F) (F.take j) q = true := by
      intro j q hj hq
      by_cases hji : j < i
      · exact g2 j q hji hq
      · obtain rfl : j = i := by omega
        rw [hFi] at hq
        obtain rfl := Option.some.inj hq
        exact hok
    have htk : F.take (i + 1) = F.take i ++ [rwK r] := by rw [List.take_add_one, hFi]; rfl
    (repeat refine sq ?_)
    refine T.regionO [(b5, .cells #[.slice ar r.ks.length cr, .int .i64 r.n] 34 (0, 0)), (b7, .map es ck)] (by kernel_rfl) ?_; refine TO.take 0 rfl (by kernel_rfl) (by kernel_rfl) (by kernel_rfl) (PV.fieldAddr rfl) Wanted.none rfl rfl ?_; refine TO.take 1 rfl (by kernel_rfl) (by kernel_rfl) (by kernel_rfl) (PV.load1 rfl zq0 rfl) Wanted.none rfl rfl ?_; refine TO.take 2 rfl (by kernel_rfl) (by kernel_rfl) (by kernel_rfl) (PV.lenSl rfl) Wanted.none rfl rfl ?_; refine TO.take 3 rfl (by kernel_rfl) (by kernel_rfl) (by kernel_rfl) (PV.lss rfl rfl) Wanted.none rfl rfl ?_; refine TO.take 4 rfl (by kernel_rfl) (by kernel_rfl) (by kernel_rfl) (PV.move rfl) Wanted.none rfl rfl ?_; refine TO.take 5 rfl (by kernel_rfl) (by kernel_rfl) (by kernel_rfl) (PV.fieldAddr rfl) (Wanted.guard rfl rfl (by assumption)) rfl rfl ?_; refine TO.take 6 rfl (by kernel_rfl) (by kernel_rfl) (by kernel_rfl) (PV.load1 rfl zq0 rfl) (Wanted.guard rfl rfl (by assumption)) rfl rfl ?_; refine TO.take 7 rfl (by kernel_rfl) (by kernel_rfl) (by kernel_rfl) (PV.lenSl rfl) (Wanted.guard rfl rfl (by assumption)) rfl rfl ?_; refine TO.take 8 rfl (by kernel_rfl) (by kernel_rfl) (by kernel_rfl) (PV.gtr rfl rfl) (Wanted.guard rfl rfl (by assumption)) rfl rfl ?_; refine TO.take 9 rfl (by kernel_rfl) (by kernel_rfl) (by kernel_rfl) (PV.pickF rfl (by assumption) rfl) Wanted.none rfl rfl ?_; refine TO.take 10 rfl (by kernel_rfl) (by kernel_rfl) (by kernel_rfl) (PV.move rfl) Wanted.none rfl rfl ?_; refine TO.take 11 rfl (by kernel_rfl) (by kernel_rfl) (by kernel_rfl) (PV.fieldAddr rfl) (Wanted.guard rfl rfl (by assumption)) rfl rfl ?_; refine TO.take 12 rfl (by kernel_rfl) (by kernel_rfl) (by kernel_rfl) (PV.load1 rfl zq0 rfl) (Wanted.guard rfl rfl (by assumption)) rfl rfl ?_; refine TO.take 13 rfl (by kernel_rfl) (by kernel_rfl) (by kernel_rfl) (PV.lenSl rfl) (Wanted.guard rfl rfl (by assumption)) rfl rfl ?_; refine TO.take 14 rfl (by kernel_rfl) (by kernel_rfl) (by kernel_rfl) (PV.move rfl) (Wanted.guard rfl rfl (by assumption)) rfl rfl ?_; refine TO.take 15 rfl (by kernel_rfl) (by kernel_rfl) (by kernel_rfl) (PV.indexAddr rfl rfl (by omega)) (Wanted.guard rfl rfl (by assumption)) rfl rfl ?_; refine TO.take 16 rfl (by kernel_rfl) (by kernel_rfl) (by kernel_rfl) (PV.fieldAddr rfl) (Wanted.guard rfl rfl (by assumption)) rfl rfl ?_; refine TO.take 17 rfl (by kernel_rfl) (by kernel_rfl) (by kernel_rfl) (PV.loadSub rfl (by assumption) rfl) (Wanted.guard rfl rfl (by assumption)) rfl rfl ?_; refine TO.take 18 rfl (by kernel_rfl) (by kernel_rfl) (by kernel_rfl) (PV.lenSl rfl) (Wanted.guard rfl rfl (by assumption)) rfl rfl ?_; refine TO.take 19 rfl (by kernel_rfl) (by kernel_rfl) (by kernel_rfl) (PV.neq rfl rfl) (Wanted.guard rfl rfl (by assumption)) rfl rfl ?_; refine TO.take 20 rfl (by kernel_rfl) (by kernel_rfl) (by kernel_rfl) (PV.pickF rfl (by assumption) rfl) Wanted.none rfl rfl ?_; refine TO.take 21 rfl (by kernel_rfl) (by kernel_rfl) (by kernel_rfl) (PV.move rfl) Wanted.none rfl rfl ?_; refine TO.take 22 rfl (by kernel_rfl) (by kernel_rfl) (by kernel_rfl) (PV.fieldAddr rfl) (Wanted.guard rfl rfl (by assumption)) rfl rfl ?_; refine TO.take 23 rfl (by kernel_rfl) (by kernel_rfl) (by kernel_rfl) (PV.load1 rfl zq0 rfl) (Wanted.guard rfl rfl (by assumption)) rfl rfl ?_; refine TO.take 24 rfl (by kernel_rfl) (by kernel_rfl) (by kernel_rfl) (PV.lss rfl rfl) (Wanted.guard rfl rfl (by assumption)) rfl rfl ?_; refine TO.take 25 rfl (by kernel_rfl) (by kernel_rfl) (by kernel_rfl) (PV.pickF rfl (by assumption) rfl) Wanted.none rfl rfl ?_; refine TO.take 26 rfl (by kernel_rfl) (by kernel_rfl) (by kernel_rfl) (PV.move rfl) Wanted.none rfl rfl ?_; refine TO.take 27 rfl (by kernel_rfl) (by kernel_rfl) (by kernel_rfl) (PV.move rfl) (Wanted.guard rfl rfl (by assumption)) rfl rfl ?_; refine TO.take 28 rfl (by kernel_rfl) (by kernel_rfl) (by kernel_rfl) (PV.move rfl) (Wanted.guard rfl rfl (by assumption)) rfl rfl ?_; refine TO.take 29 rfl (by kernel_rfl) (by kernel_rfl) (by kernel_rfl) (PV.mapIs (by assumption) (by assumption) (by assumption) rfl rfl (by assumption) zq2 (by assumption)) (Wanted.guard rfl rfl (by assumption)) rfl rfl ?_; refine TO.take 30 rfl (by kernel_rfl) (by kernel_rfl) (by kernel_rfl) (PV.pickF rfl (by assumption) rfl) Wanted.none rfl rfl ?_; refine TO.take 31 rfl (by kernel_rfl) (by kernel_rfl) (by kernel_rfl) (PV.move rfl) Wanted.none rfl rfl ?_; refine TO.take 32 rfl (by kernel_rfl) (by kernel_rfl) (by kernel_rfl) (PV.move rfl) (Wanted.guard rfl rfl rfl) rfl rfl ?_; refine TO.take 33 rfl (by kernel_rfl) (by kernel_rfl) (by kernel_rfl) (PV.gtr rfl rfl) (Wanted.guard rfl rfl rfl) rfl rfl ?_; refine TO.take 34 rfl (by kernel_rfl) (by kernel_rfl) (by kernel_rfl) (PV.move rfl) (Wanted.guard rfl rfl rfl) rfl rfl ?_; refine TO.take 35 rfl (by kernel_rfl) (by kernel_rfl) (by kernel_rfl) (PV.move rfl) (Wanted.guard rfl rfl (by assumption)) rfl rfl ?_; refine TO.take 36 rfl (by kernel_rfl) (by kernel_rfl) (by kernel_rfl) (PV.move rfl) (Wanted.guard rfl rfl (by assumption)) rfl rfl ?_; refine TO.take 37 rfl (by kernel_rfl) (by kernel_rfl) (by kernel_rfl) (PV.sub rfl rfl (by omega)) (Wanted.guard rfl rfl (by assumption)) rfl rfl ?_; refine TO.take 38 rfl (by kernel_rfl) (by kernel_rfl) (by kernel_rfl) (PV.indexAddr rfl rfl (by omega)) (Wanted.guard rfl rfl (by assumption)) rfl rfl ?_
    refine TO.take 39 rfl (by kernel_rfl) (by kernel_rfl) (by kernel_rfl) (PV.loadSubAll rfl (by assumption) (by exact rfl)) (Wanted.guard rfl rfl (by assumption)) rfl rfl ?_; refine TO.take 40 rfl (by kernel_rfl) (by kernel_rfl) (by kernel_rfl) (PV.loadAll rfl zq0 (by exact rfl)) (Wanted.guard rfl rfl (by assumption)) rfl rfl ?_; refine TO.step 41 rfl (by kernel_rfl) zq4 zq17 ?_; (refine T.callX (Wanted.guard rfl rfl (by assumption)) rfl rfl hcm ?_; rintro _ rfl); refine so ?_; refine TO.back ?_; refine TO.take 42 rfl (by kernel_rfl) (by kernel_rfl) (by kernel_rfl) (PV.geq rfl rfl) (Wanted.guard rfl rfl (by assumption)) rfl rfl ?_; refine TO.take 43 rfl (by kernel_rfl) (by kernel_rfl) (by kernel_rfl) (PV.pickT rfl (by assumption) rfl) (Wanted.guard rfl rfl rfl) rfl rfl ?_; refine TO.take 44 rfl (by kernel_rfl) (by kernel_rfl) (by kernel_rfl) (PV.pickF rfl rfl rfl) Wanted.none rfl rfl ?_; refine TO.done (by kernel_rfl) zq4 zq17 ?_; refine T.condF rfl (by assumption) ?_; refine T.skip ?_; refine sr ?_; refine sm ?_; refine sm ?_; refine T.mapPush (kt := 9) (vt := 4) (by kernel_rfl) (by kernel_rfl) Wanted.none rfl rfl rfl g3 (by rw [hlk, if_pos c5]) [(b5, .cells #[.slice ar r.ks.length cr, .int .i64 r.n] 34 (0, 0))] rfl ?_
    intro es2 ck2 hs2
    refine so ?_; refine T.blkEnd ?_; refine sr ?_; refine sv (PV.add rfl rfl (by omega)) ?_; refine sm ?_; refine so ?_
    exact T.nextP ⟨i + 1, es2, ck2⟩ ⟨by dsimp only; omega, hst, by dsimp only; rw [htk]; unfold seenM; rw [List.map_append]; exact hs2⟩ (by dsimp only; omega) zq8 (by repeat (first | exact Sel.refl _ | exact Sel.nil | (refine Sel.cons zq1 ?_) | (refine Sel.app zq1 ?_) | exact Sel.one zq1)) rfl
  · have hv : validR F = true := by
      unfold validR
      rw [validG_spec]
      intro j r hj
      exact g2 j r (by have := (List.getElem?_eq_some_iff.1 hj).1; omega) hj
    refine zs3 ?_; refine sv (PV.lss rfl rfl) ?_; refine so ?_; refine sq ?_; refine sd rfl (by omega) ?_; refine T.exit rfl ?_; refine zs3 ?_; refine sa ?_; refine so ?_
    exact T.retF (Lv.fin (RV.tmp rfl rfl) (by rw [hv]))

end Go.Proofs.YthacphfjchpoaaaDoor
namespace Go.Proofs.YthacphfjchpoaaaDoor
open Go.RowKit


set_option maxRecDepth 4000 in
set_option maxHeartbeats 8000000 in
theorem valid_ref (L : List Rw) (v : Value) (H : Hp) (hL : RwL H v L) (hLl : L.length ≤ 1000) :
    Fn Tryd.prog 10 #[v] H (fun u _ => u = .bool (validR (L.map rwK))) := by
  obtain ⟨am, cm, rfl⟩ := hL.1.len
  obtain ⟨F, hF⟩ : ∃ F, F = L.map rwK := ⟨_, rfl⟩
  have hFl : F.length = L.length := by rw [hF, List.length_map]
  refine Fn.of_T (vs := [.slice am L.length cm]) Tryd.func10 rfl rfl fun w => ?_
  rw [← hF]
  refine zs3 ?_; refine sa ?_; refine so ?_; refine sq ?_; refine zs3 ?_; refine sm ?_; refine sv (PV.lenSl rfl) ?_; refine sm ?_; refine so ?_; refine T.block ?_; refine T.loopK [(8, Value.int IntKind.i64 (↑L.length : Int)), (7, Value.slice am L.length cm), (0, Value.slice am L.length cm)] zq8 (γ := Nat) (fun i => i ≤ L.length ∧ (∀ j r, j < i → F[j]? = some r → okR (keysN F) (F.take j) r = true)) (fun i => [(9, .int .i64 (i : Int))]) (fun _ => []) (fun _ => H) (fun i => L.length - i) 0 ⟨by simp, by simp⟩ zq8 (by repeat (first | exact Sel.refl _ | exact Sel.nil | (refine Sel.cons zq1 ?_) | (refine Sel.app zq1 ?_) | exact Sel.one zq1)) rfl ?_
  rintro i ⟨g1, g2⟩
  by_cases hi : i < L.length
  · obtain ⟨bx, off, r, rfl, hix, hsub⟩ := RowL.get encRw_len hL.1 hi
    have hmm := List.mem_of_getElem? hix
    have hrok := hL.2 r hmm
    obtain ⟨ar, cr, hrv⟩ := hrok.1.len
    have hrs := hrok.1
    rw [hrv] at hrs
    have hrl := hrok.2.1
    unfold encRw at hsub
    rw [hrv] at hsub
    have hFi : F[i]? = some (rwK r) := by rw [hF, List.getElem?_map, hix]; rfl
    obtain ⟨b0, off0, r0, hye, h0x, hsub0⟩ := RowL.get encRw_len hL.1 (show 0 < L.length by omega)
    simp only [Option.some.injEq, Addr.mk.injEq, and_true] at hye
    obtain ⟨rfl, rfl⟩ := hye
    have hr0ok := hL.2 r0 (List.mem_of_getElem? h0x)
    obtain ⟨ar0, cr0, hr0v⟩ := hr0ok.1.len
    unfold encRw at hsub0
    rw [hr0v] at hsub0
    have hkn : keysN F = r0.ks.length := by
      rw [hF]
      cases hLc : L with
      | nil => rw [hLc] at hi; simp at hi
      | cons a l => rw [hLc] at h0x; simp at h0x; subst h0x; rfl
    have hbad : okR (keysN F) (F.take i) (rwK r) = false → validR F = false := fun h => validR_not hFi h
    have hcap := hL.1.cap
    have hsub0' : SubC H bx (off + (0 : Int).toNat * 2) [.slice ar0 r0.ks.length cr0, .int .i64 r0.n] := hsub0
    rw [hkn] at hbad
    by_cases c1 : r.ks.length < 1
    · have d1 : decide ((r.ks.length : Int) < 1) = true := decide_eq_true (by omega)
      refine zs3 ?_; refine sv (PV.lss rfl rfl) ?_; refine so ?_; refine sq ?_; refine sc rfl (by omega) ?_; refine T.skip ?_; refine sq ?_; refine T.block ?_; refine zs3 ?_; refine sm ?_; refine sv (PV.indexAddr rfl rfl (by omega)) ?_; refine sv (PV.loadSubAll rfl (by assumption) (by exact rfl)) ?_; refine sy fun b4 => ?_; refine sa ?_; refine T.storeA Wanted.none rfl rfl zq8 (by exact rfl) zq14 zq13 ?_; refine so ?_; refine sq ?_; refine sq ?_; refine T.regionQ (by kernel_rfl) ?_; refine TQ.pv (PV.fieldAddr rfl) Wanted.none rfl rfl ?_; refine TQ.pv (PV.load1 rfl zq0 rfl) Wanted.none rfl rfl ?_; refine TQ.pv (PV.lenSl rfl) Wanted.none rfl rfl ?_; refine TQ.pv (PV.lss rfl rfl) Wanted.none rfl rfl ?_; refine TQ.pv (PV.move rfl) Wanted.none rfl rfl ?_; refine TQ.pass (Unwanted.guard rfl rfl (by assumption)) rfl rfl ?_; refine TQ.pass (Unwanted.guard rfl rfl (by assumption)) rfl rfl ?_; refine TQ.pass (Unwanted.guard rfl rfl (by assumption)) rfl rfl ?_; refine TQ.pass (Unwanted.guard rfl rfl (by assumption)) rfl rfl ?_; refine TQ.pv (PV.pickT rfl (by assumption) rfl) Wanted.none rfl rfl ?_; refine TQ.pv (PV.move rfl) Wanted.none rfl rfl ?_; refine TQ.pass (Unwanted.guard rfl rfl rfl) rfl rfl ?_; refine TQ.pass (Unwanted.guard rfl rfl rfl) rfl rfl ?_; refine TQ.pass (Unwanted.guard rfl rfl rfl) rfl rfl ?_; refine TQ.pass (Unwanted.guard rfl rfl rfl) rfl rfl ?_; refine TQ.pass (Unwanted.guard rfl rfl rfl) rfl rfl ?_; refine TQ.pass (Unwanted.guard rfl rfl rfl) rfl rfl ?_; refine TQ.pass (Unwanted.guard rfl rfl rfl) rfl rfl ?_; refine TQ.pass (Unwanted.guard rfl rfl rfl) rfl rfl ?_; refine TQ.pass (Unwanted.guard rfl rfl rfl) rfl rfl ?_; refine TQ.pv (PV.pickT rfl rfl rfl) Wanted.none rfl rfl ?_
      refine TQ.pv (PV.move rfl) Wanted.none rfl rfl ?_; refine TQ.pass (Unwanted.guard rfl rfl rfl) rfl rfl ?_; refine TQ.pass (Unwanted.guard rfl rfl rfl) rfl rfl ?_; refine TQ.pass (Unwanted.guard rfl rfl rfl) rfl rfl ?_; refine TQ.pv (PV.pickT rfl rfl rfl) Wanted.none rfl rfl ?_; refine TQ.pv (PV.move rfl) Wanted.none rfl rfl ?_; refine TQ.pass (Unwanted.guard rfl rfl rfl) rfl rfl ?_; refine TQ.pass (Unwanted.guard rfl rfl rfl) rfl rfl ?_; refine TQ.pass (Unwanted.guard rfl rfl rfl) rfl rfl ?_; refine TQ.pass (Unwanted.undef rfl rfl) rfl rfl ?_; refine TQ.pass (Unwanted.undef rfl rfl) rfl rfl ?_; refine TQ.pass (Unwanted.undef rfl rfl) rfl rfl ?_; refine TQ.pass (Unwanted.undef rfl rfl) rfl rfl ?_; refine TQ.pass (Unwanted.undef rfl rfl) rfl rfl ?_; refine TQ.pass (Unwanted.undef rfl rfl) rfl rfl ?_; refine TQ.pass (Unwanted.undef rfl rfl) rfl rfl ?_; refine TQ.pass (Unwanted.undef rfl rfl) rfl rfl ?_; refine TQ.pass (Unwanted.guard rfl rfl rfl) rfl rfl ?_; refine TQ.pv (PV.pickT rfl rfl rfl) Wanted.none rfl rfl ?_; refine TQ.nil ?_; refine T.condT rfl rfl ?_; refine zs3 ?_; refine sa ?_; refine so ?_
      exact T.retF (Lv.fin (RV.tmp rfl rfl) (by rw [hbad (by unfold okR rwK; simp only []; rw [decide_eq_false (by omega)]; rfl)]))
    have d1 : decide ((r.ks.length : Int) < 1) = false := decide_eq_false (by omega)
    by_cases c2 : 4 < r.ks.length
    · have d2 : decide ((4 : Int) < (r.ks.length : Int)) = true := decide_eq_true (by omega)
      refine zs3 ?_; refine sv (PV.lss rfl rfl) ?_; refine so ?_; refine sq ?_; refine sc rfl (by omega) ?_; refine T.skip ?_; refine sq ?_; refine T.block ?_; refine zs3 ?_; refine sm ?_; refine sv (PV.indexAddr rfl rfl (by omega)) ?_; refine sv (PV.loadSubAll rfl (by assumption) (by exact rfl)) ?_; refine sy fun b4 => ?_; refine sa ?_; refine T.storeA Wanted.none rfl rfl zq8 (by exact rfl) zq14 zq13 ?_; refine so ?_; refine sq ?_; refine sq ?_; refine T.regionQ (by kernel_rfl) ?_; refine TQ.pv (PV.fieldAddr rfl) Wanted.none rfl rfl ?_; refine TQ.pv (PV.load1 rfl zq0 rfl) Wanted.none rfl rfl ?_; refine TQ.pv (PV.lenSl rfl) Wanted.none rfl rfl ?_; refine TQ.pv (PV.lss rfl rfl) Wanted.none rfl rfl ?_; refine TQ.pv (PV.move rfl) Wanted.none rfl rfl ?_; refine TQ.pv (PV.fieldAddr rfl) (Wanted.guard rfl rfl (by assumption)) rfl rfl ?_; refine TQ.pv (PV.load1 rfl zq0 rfl) (Wanted.guard rfl rfl (by assumption)) rfl rfl ?_; refine TQ.pv (PV.lenSl rfl) (Wanted.guard rfl rfl (by assumption)) rfl rfl ?_; refine TQ.pv (PV.gtr rfl rfl) (Wanted.guard rfl rfl (by assumption)) rfl rfl ?_; refine TQ.pv (PV.pickF rfl (by assumption) rfl) Wanted.none rfl rfl ?_; refine TQ.pv (PV.move rfl) Wanted.none rfl rfl ?_; refine TQ.pass (Unwanted.guard rfl rfl (by assumption)) rfl rfl ?_; refine TQ.pass (Unwanted.guard rfl rfl (by assumption)) rfl rfl ?_; refine TQ.pass (Unwanted.guard rfl rfl (by assumption)) rfl rfl ?_; refine TQ.pass (Unwanted.guard rfl rfl (by assumption)) rfl rfl ?_; refine TQ.pass (Unwanted.guard rfl rfl (by assumption)) rfl rfl ?_; refine TQ.pass (Unwanted.guard rfl rfl (by assumption)) rfl rfl ?_; refine TQ.pass (Unwanted.guard rfl rfl (by assumption)) rfl rfl ?_; refine TQ.pass (Unwanted.guard rfl rfl (by assumption)) rfl rfl ?_; refine TQ.pass (Unwanted.guard rfl rfl (by assumption)) rfl rfl ?_; refine TQ.pv (PV.pickT rfl (by assumption) rfl) Wanted.none rfl rfl ?_
      refine TQ.pv (PV.move rfl) Wanted.none rfl rfl ?_; refine TQ.pass (Unwanted.guard rfl rfl rfl) rfl rfl ?_; refine TQ.pass (Unwanted.guard rfl rfl rfl) rfl rfl ?_; refine TQ.pass (Unwanted.guard rfl rfl rfl) rfl rfl ?_; refine TQ.pv (PV.pickT rfl rfl rfl) Wanted.none rfl rfl ?_; refine TQ.pv (PV.move rfl) Wanted.none rfl rfl ?_; refine TQ.pass (Unwanted.guard rfl rfl rfl) rfl rfl ?_; refine TQ.pass (Unwanted.guard rfl rfl rfl) rfl rfl ?_; refine TQ.pass (Unwanted.guard rfl rfl rfl) rfl rfl ?_; refine TQ.pass (Unwanted.undef rfl rfl) rfl rfl ?_; refine TQ.pass (Unwanted.undef rfl rfl) rfl rfl ?_; refine TQ.pass (Unwanted.undef rfl rfl) rfl rfl ?_; refine TQ.pass (Unwanted.undef rfl rfl) rfl rfl ?_; refine TQ.pass (Unwanted.undef rfl rfl) rfl rfl ?_; refine TQ.pass (Unwanted.undef rfl rfl) rfl rfl ?_; refine TQ.pass (Unwanted.undef rfl rfl) rfl rfl ?_; refine TQ.pass (Unwanted.undef rfl rfl) rfl rfl ?_; refine TQ.pass (Unwanted.guard rfl rfl rfl) rfl rfl ?_; refine TQ.pv (PV.pickT rfl rfl rfl) Wanted.none rfl rfl ?_; refine TQ.nil ?_; refine T.condT rfl rfl ?_; refine zs3 ?_; refine sa ?_; refine so ?_
      exact T.retF (Lv.fin (RV.tmp rfl rfl) (by rw [hbad (by unfold okR rwK; simp only []; rw [decide_eq_false (show ¬ r.ks.length ≤ 4 by omega)]; simp)]))
    have d2 : decide ((4 : Int) < (r.ks.length : Int)) = false := decide_eq_false (by omega)
    by_cases c3 : r.ks.length = r0.ks.length
    rotate_left
    · have d3 : decide ((r.ks.length : Int) ≠ (r0.ks.length : Int)) = true := decide_eq_true (by omega)
      refine zs3 ?_; refine sv (PV.lss rfl rfl) ?_; refine so ?_; refine sq ?_; refine sc rfl (by omega) ?_; refine T.skip ?_; refine sq ?_; refine T.block ?_; refine zs3 ?_; refine sm ?_; refine sv (PV.indexAddr rfl rfl (by omega)) ?_; refine sv (PV.loadSubAll rfl (by assumption) (by exact rfl)) ?_; refine sy fun b4 => ?_; refine sa ?_; refine T.storeA Wanted.none rfl rfl zq8 (by exact rfl) zq14 zq13 ?_; refine so ?_; refine sq ?_; refine sq ?_; refine T.regionQ (by kernel_rfl) ?_; refine TQ.pv (PV.fieldAddr rfl) Wanted.none rfl rfl ?_; refine TQ.pv (PV.load1 rfl zq0 rfl) Wanted.none rfl rfl ?_; refine TQ.pv (PV.lenSl rfl) Wanted.none rfl rfl ?_; refine TQ.pv (PV.lss rfl rfl) Wanted.none rfl rfl ?_; refine TQ.pv (PV.move rfl) Wanted.none rfl rfl ?_; refine TQ.pv (PV.fieldAddr rfl) (Wanted.guard rfl rfl (by assumption)) rfl rfl ?_; refine TQ.pv (PV.load1 rfl zq0 rfl) (Wanted.guard rfl rfl (by assumption)) rfl rfl ?_; refine TQ.pv (PV.lenSl rfl) (Wanted.guard rfl rfl (by assumption)) rfl rfl ?_; refine TQ.pv (PV.gtr rfl rfl) (Wanted.guard rfl rfl (by assumption)) rfl rfl ?_; refine TQ.pv (PV.pickF rfl (by assumption) rfl) Wanted.none rfl rfl ?_; refine TQ.pv (PV.move rfl) Wanted.none rfl rfl ?_; refine TQ.pv (PV.fieldAddr rfl) (Wanted.guard rfl rfl (by assumption)) rfl rfl ?_; refine TQ.pv (PV.load1 rfl zq0 rfl) (Wanted.guard rfl rfl (by assumption)) rfl rfl ?_; refine TQ.pv (PV.lenSl rfl) (Wanted.guard rfl rfl (by assumption)) rfl rfl ?_; refine TQ.pv (PV.move rfl) (Wanted.guard rfl rfl (by assumption)) rfl rfl ?_; refine TQ.pv (PV.indexAddr rfl rfl (by omega)) (Wanted.guard rfl rfl (by assumption)) rfl rfl ?_; refine TQ.pv (PV.fieldAddr rfl) (Wanted.guard rfl rfl (by assumption)) rfl rfl ?_; refine TQ.pv (PV.loadSub rfl (by assumption) rfl) (Wanted.guard rfl rfl (by assumption)) rfl rfl ?_; refine TQ.pv (PV.lenSl rfl) (Wanted.guard rfl rfl (by assumption)) rfl rfl ?_; refine TQ.pv (PV.neq rfl rfl) (Wanted.guard rfl rfl (by assumption)) rfl rfl ?_; refine TQ.pv (PV.pickF rfl (by assumption) rfl) Wanted.none rfl rfl ?_
      refine TQ.pv (PV.move rfl) Wanted.none rfl rfl ?_; refine TQ.pass (Unwanted.guard rfl rfl (by assumption)) rfl rfl ?_; refine TQ.pass (Unwanted.guard rfl rfl (by assumption)) rfl rfl ?_; refine TQ.pass (Unwanted.guard rfl rfl (by assumption)) rfl rfl ?_; refine TQ.pv (PV.pickT rfl (by assumption) rfl) Wanted.none rfl rfl ?_; refine TQ.pv (PV.move rfl) Wanted.none rfl rfl ?_; refine TQ.pass (Unwanted.guard rfl rfl rfl) rfl rfl ?_; refine TQ.pass (Unwanted.guard rfl rfl rfl) rfl rfl ?_; refine TQ.pass (Unwanted.guard rfl rfl rfl) rfl rfl ?_; refine TQ.pass (Unwanted.undef rfl rfl) rfl rfl ?_; refine TQ.pass (Unwanted.undef rfl rfl) rfl rfl ?_; refine TQ.pass (Unwanted.undef rfl rfl) rfl rfl ?_; refine TQ.pass (Unwanted.undef rfl rfl) rfl rfl ?_; refine TQ.pass (Unwanted.undef rfl rfl) rfl rfl ?_; refine TQ.pass (Unwanted.undef rfl rfl) rfl rfl ?_; refine TQ.pass (Unwanted.undef rfl rfl) rfl rfl ?_; refine TQ.pass (Unwanted.undef rfl rfl) rfl rfl ?_; refine TQ.pass (Unwanted.guard rfl rfl rfl) rfl rfl ?_; refine TQ.pv (PV.pickT rfl rfl rfl) Wanted.none rfl rfl ?_; refine TQ.nil ?_; refine T.condT rfl rfl ?_; refine zs3 ?_; refine sa ?_; refine so ?_
      exact T.retF (Lv.fin (RV.tmp rfl rfl) (by rw [hbad (by unfold okR rwK; simp only []; rw [decide_eq_false c3]; simp)]))
    have d3 : decide ((r.ks.length : Int) ≠ (r0.ks.length : Int)) = false := decide_eq_false (by omega)
    by_cases c4 : r.n < 1
    · have d4 : decide (r.n < 1) = true := decide_eq_true c4
      refine zs3 ?_; refine sv (PV.lss rfl rfl) ?_; refine so ?_; refine sq ?_; refine sc rfl (by omega) ?_; refine T.skip ?_; refine sq ?_; refine T.block ?_; refine zs3 ?_; refine sm ?_; refine sv (PV.indexAddr rfl rfl (by omega)) ?_; refine sv (PV.loadSubAll rfl (by assumption) (by exact rfl)) ?_; refine sy fun b4 => ?_; refine sa ?_; refine T.storeA Wanted.none rfl rfl zq8 (by exact rfl) zq14 zq13 ?_; refine so ?_; refine sq ?_; refine sq ?_; refine T.regionQ (by kernel_rfl) ?_; refine TQ.pv (PV.fieldAddr rfl) Wanted.none rfl rfl ?_; refine TQ.pv (PV.load1 rfl zq0 rfl) Wanted.none rfl rfl ?_; refine TQ.pv (PV.lenSl rfl) Wanted.none rfl rfl ?_; refine TQ.pv (PV.lss rfl rfl) Wanted.none rfl rfl ?_; refine TQ.pv (PV.move rfl) Wanted.none rfl rfl ?_; refine TQ.pv (PV.fieldAddr rfl) (Wanted.guard rfl rfl (by assumption)) rfl rfl ?_; refine TQ.pv (PV.load1 rfl zq0 rfl) (Wanted.guard rfl rfl (by assumption)) rfl rfl ?_; refine TQ.pv (PV.lenSl rfl) (Wanted.guard rfl rfl (by assumption)) rfl rfl ?_; refine TQ.pv (PV.gtr rfl rfl) (Wanted.guard rfl rfl (by assumption)) rfl rfl ?_; refine TQ.pv (PV.pickF rfl (by assumption) rfl) Wanted.none rfl rfl ?_; refine TQ.pv (PV.move rfl) Wanted.none rfl rfl ?_; refine TQ.pv (PV.fieldAddr rfl) (Wanted.guard rfl rfl (by assumption)) rfl rfl ?_; refine TQ.pv (PV.load1 rfl zq0 rfl) (Wanted.guard rfl rfl (by assumption)) rfl rfl ?_; refine TQ.pv (PV.lenSl rfl) (Wanted.guard rfl rfl (by assumption)) rfl rfl ?_; refine TQ.pv (PV.move rfl) (Wanted.guard rfl rfl (by assumption)) rfl rfl ?_; refine TQ.pv (PV.indexAddr rfl rfl (by omega)) (Wanted.guard rfl rfl (by assumption)) rfl rfl ?_; refine TQ.pv (PV.fieldAddr rfl) (Wanted.guard rfl rfl (by assumption)) rfl rfl ?_; refine TQ.pv (PV.loadSub rfl (by assumption) rfl) (Wanted.guard rfl rfl (by assumption)) rfl rfl ?_; refine TQ.pv (PV.lenSl rfl) (Wanted.guard rfl rfl (by assumption)) rfl rfl ?_; refine TQ.pv (PV.neq rfl rfl) (Wanted.guard rfl rfl (by assumption)) rfl rfl ?_; refine TQ.pv (PV.pickF rfl (by assumption) rfl) Wanted.none rfl rfl ?_
      refine TQ.pv (PV.move rfl) Wanted.none rfl rfl ?_; refine TQ.pv (PV.fieldAddr rfl) (Wanted.guard rfl rfl (by assumption)) rfl rfl ?_; refine TQ.pv (PV.load1 rfl zq0 rfl) (Wanted.guard rfl rfl (by assumption)) rfl rfl ?_; refine TQ.pv (PV.lss rfl rfl) (Wanted.guard rfl rfl (by assumption)) rfl rfl ?_; refine TQ.pv (PV.pickF rfl (by assumption) rfl) Wanted.none rfl rfl ?_; refine TQ.pv (PV.move rfl) Wanted.none rfl rfl ?_; refine TQ.pass (Unwanted.guard rfl rfl (by assumption)) rfl rfl ?_; refine TQ.pass (Unwanted.guard rfl rfl (by assumption)) rfl rfl ?_; refine TQ.pass (Unwanted.guard rfl rfl (by assumption)) rfl rfl ?_; refine TQ.pass (Unwanted.undef rfl rfl) rfl rfl ?_; refine TQ.pass (Unwanted.undef rfl rfl) rfl rfl ?_; refine TQ.pass (Unwanted.undef rfl rfl) rfl rfl ?_; refine TQ.pass (Unwanted.undef rfl rfl) rfl rfl ?_; refine TQ.pass (Unwanted.undef rfl rfl) rfl rfl ?_; refine TQ.pass (Unwanted.undef rfl rfl) rfl rfl ?_; refine TQ.pass (Unwanted.undef rfl rfl) rfl rfl ?_; refine TQ.pass (Unwanted.undef rfl rfl) rfl rfl ?_; refine TQ.pass (Unwanted.guard rfl rfl (by assumption)) rfl rfl ?_; refine TQ.pv (PV.pickT rfl (by assumption) rfl) Wanted.none rfl rfl ?_; refine TQ.nil ?_; refine T.condT rfl rfl ?_; refine zs3 ?_; refine sa ?_; refine so ?_
      exact T.retF (Lv.fin (RV.tmp rfl rfl) (by rw [hbad (by unfold okR rwK; simp only []; rw [decide_eq_false (show ¬ 1 ≤ r.n by omega)]; simp)]))
    have d4 : decide (r.n < 1) = false := decide_eq_false c4
    by_cases c6 : i = 0
    · have d6 : decide ((0 : Int) < (i : Int)) = false := decide_eq_false (by omega)
      refine zs3 ?_; refine sv (PV.lss rfl rfl) ?_; refine so ?_; refine sq ?_; refine sc rfl (by omega) ?_; refine T.skip ?_; refine sq ?_; refine T.block ?_; refine zs3 ?_; refine sm ?_; refine sv (PV.indexAddr rfl rfl (by omega)) ?_; refine sv (PV.loadSubAll rfl (by assumption) (by exact rfl)) ?_; refine sy fun b4 => ?_; refine sa ?_; refine T.storeA Wanted.none rfl rfl zq8 (by exact rfl) zq14 zq13 ?_; refine so ?_; refine sq ?_; refine sq ?_; refine T.regionQ (by kernel_rfl) ?_; refine TQ.pv (PV.fieldAddr rfl) Wanted.none rfl rfl ?_; refine TQ.pv (PV.load1 rfl zq0 rfl) Wanted.none rfl rfl ?_; refine TQ.pv (PV.lenSl rfl) Wanted.none rfl rfl ?_; refine TQ.pv (PV.lss rfl rfl) Wanted.none rfl rfl ?_; refine TQ.pv (PV.move rfl) Wanted.none rfl rfl ?_; refine TQ.pv (PV.fieldAddr rfl) (Wanted.guard rfl rfl (by assumption)) rfl rfl ?_; refine TQ.pv (PV.load1 rfl zq0 rfl) (Wanted.guard rfl rfl (by assumption)) rfl rfl ?_; refine TQ.pv (PV.lenSl rfl) (Wanted.guard rfl rfl (by assumption)) rfl rfl ?_; refine TQ.pv (PV.gtr rfl rfl) (Wanted.guard rfl rfl (by assumption)) rfl rfl ?_; refine TQ.pv (PV.pickF rfl (by assumption) rfl) Wanted.none rfl rfl ?_; refine TQ.pv (PV.move rfl) Wanted.none rfl rfl ?_; refine TQ.pv (PV.fieldAddr rfl) (Wanted.guard rfl rfl (by assumption)) rfl rfl ?_; refine TQ.pv (PV.load1 rfl zq0 rfl) (Wanted.guard rfl rfl (by assumption)) rfl rfl ?_; refine TQ.pv (PV.lenSl rfl) (Wanted.guard rfl rfl (by assumption)) rfl rfl ?_; refine TQ.pv (PV.move rfl) (Wanted.guard rfl rfl (by assumption)) rfl rfl ?_; refine TQ.pv (PV.indexAddr rfl rfl (by omega)) (Wanted.guard rfl rfl (by assumption)) rfl rfl ?_; refine TQ.pv (PV.fieldAddr rfl) (Wanted.guard rfl rfl (by assumption)) rfl rfl ?_; refine TQ.pv (PV.loadSub rfl (by assumption) rfl) (Wanted.guard rfl rfl (by assumption)) rfl rfl ?_; refine TQ.pv (PV.lenSl rfl) (Wanted.guard rfl rfl (by assumption)) rfl rfl ?_; refine TQ.pv (PV.neq rfl rfl) (Wanted.guard rfl rfl (by assumption)) rfl rfl ?_; refine TQ.pv (PV.pickF rfl (by assumption) rfl) Wanted.none rfl rfl ?_
      refine TQ.pv (PV.move rfl) Wanted.none rfl rfl ?_; refine TQ.pv (PV.fieldAddr rfl) (Wanted.guard rfl rfl (by assumption)) rfl rfl ?_; refine TQ.pv (PV.load1 rfl zq0 rfl) (Wanted.guard rfl rfl (by assumption)) rfl rfl ?_; refine TQ.pv (PV.lss rfl rfl) (Wanted.guard rfl rfl (by assumption)) rfl rfl ?_; refine TQ.pv (PV.pickF rfl (by assumption) rfl) Wanted.none rfl rfl ?_; refine TQ.pv (PV.move rfl) Wanted.none rfl rfl ?_; refine TQ.pv (PV.move rfl) (Wanted.guard rfl rfl (by assumption)) rfl rfl ?_; refine TQ.pv (PV.gtr rfl rfl) (Wanted.guard rfl rfl (by assumption)) rfl rfl ?_; refine TQ.pv (PV.move rfl) (Wanted.guard rfl rfl (by assumption)) rfl rfl ?_; refine TQ.pass (Unwanted.guard rfl rfl (by assumption)) rfl rfl ?_; refine TQ.pass (Unwanted.guard rfl rfl (by assumption)) rfl rfl ?_; refine TQ.pass (Unwanted.guard rfl rfl (by assumption)) rfl rfl ?_; refine TQ.pass (Unwanted.guard rfl rfl (by assumption)) rfl rfl ?_; refine TQ.pass (Unwanted.guard rfl rfl (by assumption)) rfl rfl ?_; refine TQ.pass (Unwanted.guard rfl rfl (by assumption)) rfl rfl ?_; refine TQ.pass (Unwanted.guard rfl rfl (by assumption)) rfl rfl ?_; refine TQ.pass (Unwanted.guard rfl rfl (by assumption)) rfl rfl ?_; refine TQ.pv (PV.pickF rfl (by assumption) rfl) (Wanted.guard rfl rfl (by assumption)) rfl rfl ?_; refine TQ.pv (PV.pickF rfl (by assumption) rfl) Wanted.none rfl rfl ?_; refine TQ.nil ?_; refine T.condF rfl rfl ?_; refine T.skip ?_; refine zs3 ?_; refine sm ?_; refine sm ?_; refine sv (PV.sliceH rfl rfl (by omega)) ?_; refine sv (PV.lenSl rfl) ?_; refine sm ?_; refine so ?_; refine T.block ?_
      have c5i : ∀ q : Nat, F.take q = (L.take q).map rwK := fun q => by rw [hF, List.map_take]
      refine T.loopK [(57, Value.int IntKind.i64 (↑(↑i : Int).toNat : Int)), (56, Value.slice (some { block := bx, off := off }) (↑i : Int).toNat cm), (4, Value.pointer (some { block := b4, off := 0 })), (9, Value.int IntKind.i64 (↑i : Int)), (8, Value.int IntKind.i64 (↑L.length : Int)), (7, Value.slice (some { block := bx, off := off }) L.length cm), (0, Value.slice (some { block := bx, off := off }) L.length cm)] zq8 (γ := Nat) (fun j => j ≤ i ∧ (∀ x ∈ F.take j, x.1 ≠ r.ks)) (fun j => [(58, .int .i64 (j : Int))]) (fun _ => [(b4, .cells #[.slice ar r.ks.length cr, .int .i64 r.n] 34 (0, 0))]) (fun _ => H) (fun j => i - j) 0 ⟨by simp, by simp⟩ zq8 (by repeat (first | exact Sel.refl _ | exact Sel.nil | (refine Sel.cons zq1 ?_) | (refine Sel.app zq1 ?_) | exact Sel.one zq1)) rfl ?_
      rintro j ⟨j1, j2⟩
      by_cases hj : j < i
      · omega
      · have c5 : ∀ x ∈ F.take i, x.1 ≠ r.ks := by rw [show i = j by omega]; exact j2
        have hok : okR (keysN F) (F.take i) (rwK r) = true := by
          unfold okR
          simp only [Bool.and_eq_true, decide_eq_true_eq]
          exact ⟨show 1 ≤ r.ks.length by omega, show r.ks.length ≤ 4 by omega, hkn.symm ▸ c3, show 1 ≤ r.n by omega, c5, by rw [c6]; rfl⟩
        have hst : ∀ j q, j < i + 1 → F[j]? = some q → okR (keysN F) (F.take j) q = true := by
          intro j q hj hq
          by_cases hji : j < i
          · exact g2 j q hji hq
          · obtain rfl : j = i := by omega
            rw [hFi] at hq
            obtain rfl := Option.some.inj hq
            exact hok
        refine zs3 ?_; refine sv (PV.lss rfl rfl) ?_; refine so ?_; refine sq ?_; refine sd rfl (by omega) ?_; refine T.exit rfl ?_; refine T.blkEnd ?_; refine sr ?_; refine sv (PV.add rfl rfl (by omega)) ?_; refine sm ?_; refine so ?_
        exact T.nextP (i + 1) ⟨by omega, hst⟩ (by omega) zq8 (by repeat (first | exact Sel.refl _ | exact Sel.nil | (refine Sel.cons zq1 ?_) | (refine Sel.app zq1 ?_) | exact Sel.one zq1)) rfl
    have d6 : decide ((0 : Int) < (i : Int)) = true := decide_eq_true (by omega)
    obtain ⟨bp, offp, pr, hye, hpx, hsubp⟩ := RowL.get encRw_len hL.1 (show i - 1 < L.length by omega)
    simp only [Option.some.injEq, Addr.mk.injEq, and_true] at hye
    obtain ⟨rfl, rfl⟩ := hye
    have hprok := hL.2 pr (List.mem_of_getElem? hpx)
    obtain ⟨arp, crp, hprv⟩ := hprok.1.len
    unfold encRw at hsubp
    rw [hprv] at hsubp
    have hsubp' : SubC H bx (off + (((i : Nat) : Int) - 1).toNat * 2) [.slice arp pr.ks.length crp, .int .i64 pr.n] := by
      rw [show (((i : Nat) : Int) - 1).toNat = i - 1 by omega]; exact hsubp
    have hcm := less_fn pr r H hprok hrok
    unfold rwV at hcm
    rw [hprv, hrv] at hcm
    have hlast : (F.take i).getLast? = some (rwK pr) := by
      rw [List.getLast?_eq_getElem?, List.length_take, show min i F.length - 1 = i - 1 by omega, List.getElem?_take, if_pos (by omega), hF, List.getElem?_map, hpx]; rfl
    by_cases c7 : 0 ≤ cR (rwK pr) (rwK r)
    · have d7 : ltR (rwK pr) (rwK r) = false := decide_eq_false (by omega)
      rw [d7] at hcm
      refine zs3 ?_; refine sv (PV.lss rfl rfl) ?_; refine so ?_; refine sq ?_; refine sc rfl (by omega) ?_; refine T.skip ?_; refine sq ?_; refine T.block ?_; refine zs3 ?_; refine sm ?_; refine sv (PV.indexAddr rfl rfl (by omega)) ?_; refine sv (PV.loadSubAll rfl (by assumption) (by exact rfl)) ?_; refine sy fun b4 => ?_; refine sa ?_; refine T.storeA Wanted.none rfl rfl zq8 (by exact rfl) zq14 zq13 ?_; refine so ?_; refine sq ?_; refine sq ?_; refine T.regionQ (by kernel_rfl) ?_; refine TQ.pv (PV.fieldAddr rfl) Wanted.none rfl rfl ?_; refine TQ.pv (PV.load1 rfl zq0 rfl) Wanted.none rfl rfl ?_; refine TQ.pv (PV.lenSl rfl) Wanted.none rfl rfl ?_; refine TQ.pv (PV.lss rfl rfl) Wanted.none rfl rfl ?_; refine TQ.pv (PV.move rfl) Wanted.none rfl rfl ?_; refine TQ.pv (PV.fieldAddr rfl) (Wanted.guard rfl rfl (by assumption)) rfl rfl ?_; refine TQ.pv (PV.load1 rfl zq0 rfl) (Wanted.guard rfl rfl (by assumption)) rfl rfl ?_; refine TQ.pv (PV.lenSl rfl) (Wanted.guard rfl rfl (by assumption)) rfl rfl ?_; refine TQ.pv (PV.gtr rfl rfl) (Wanted.guard rfl rfl (by assumption)) rfl rfl ?_; refine TQ.pv (PV.pickF rfl (by assumption) rfl) Wanted.none rfl rfl ?_; refine TQ.pv (PV.move rfl) Wanted.none rfl rfl ?_; refine TQ.pv (PV.fieldAddr rfl) (Wanted.guard rfl rfl (by assumption)) rfl rfl ?_; refine TQ.pv (PV.load1 rfl zq0 rfl) (Wanted.guard rfl rfl (by assumption)) rfl rfl ?_; refine TQ.pv (PV.lenSl rfl) (Wanted.guard rfl rfl (by assumption)) rfl rfl ?_; refine TQ.pv (PV.move rfl) (Wanted.guard rfl rfl (by assumption)) rfl rfl ?_; refine TQ.pv (PV.indexAddr rfl rfl (by omega)) (Wanted.guard rfl rfl (by assumption)) rfl rfl ?_; refine TQ.pv (PV.fieldAddr rfl) (Wanted.guard rfl rfl (by assumption)) rfl rfl ?_; refine TQ.pv (PV.loadSub rfl (by assumption) rfl) (Wanted.guard rfl rfl (by assumption)) rfl rfl ?_; refine TQ.pv (PV.lenSl rfl) (Wanted.guard rfl rfl (by assumption)) rfl rfl ?_; refine TQ.pv (PV.neq rfl rfl) (Wanted.guard rfl rfl (by assumption)) rfl rfl ?_; refine TQ.pv (PV.pickF rfl (by assumption) rfl) Wanted.none rfl rfl ?_
      refine TQ.pv (PV.move rfl) Wanted.none rfl rfl ?_; refine TQ.pv (PV.fieldAddr rfl) (Wanted.guard rfl rfl (by assumption)) rfl rfl ?_; refine TQ.pv (PV.load1 rfl zq0 rfl) (Wanted.guard rfl rfl (by assumption)) rfl rfl ?_; refine TQ.pv (PV.lss rfl rfl) (Wanted.guard rfl rfl (by assumption)) rfl rfl ?_; refine TQ.pv (PV.pickF rfl (by assumption) rfl) Wanted.none rfl rfl ?_; refine TQ.pv (PV.move rfl) Wanted.none rfl rfl ?_; refine TQ.pv (PV.move rfl) (Wanted.guard rfl rfl (by assumption)) rfl rfl ?_; refine TQ.pv (PV.gtr rfl rfl) (Wanted.guard rfl rfl (by assumption)) rfl rfl ?_; refine TQ.pv (PV.move rfl) (Wanted.guard rfl rfl (by assumption)) rfl rfl ?_; refine TQ.pv (PV.move rfl) (Wanted.guard rfl rfl (by assumption)) rfl rfl ?_; refine TQ.pv (PV.move rfl) (Wanted.guard rfl rfl (by assumption)) rfl rfl ?_; refine TQ.pv (PV.sub rfl rfl (by omega)) (Wanted.guard rfl rfl (by assumption)) rfl rfl ?_; refine TQ.pv (PV.indexAddr rfl rfl (by omega)) (Wanted.guard rfl rfl (by assumption)) rfl rfl ?_; refine TQ.pv (PV.loadSubAll rfl (by assumption) (by exact rfl)) (Wanted.guard rfl rfl (by assumption)) rfl rfl ?_; refine TQ.pv (PV.loadAll rfl zq0 (by exact rfl)) (Wanted.guard rfl rfl (by assumption)) rfl rfl ?_; refine TQ.callV (Wanted.guard rfl rfl (by assumption)) rfl rfl (hcm) ?_; refine TQ.pv (PV.not rfl) (Wanted.guard rfl rfl (by assumption)) rfl rfl ?_; refine TQ.pv (PV.pickT rfl (by assumption) rfl) (Wanted.guard rfl rfl (by assumption)) rfl rfl ?_; refine TQ.pv (PV.pickF rfl (by assumption) rfl) Wanted.none rfl rfl ?_; refine TQ.nil ?_; refine T.condT rfl rfl ?_; refine zs3 ?_; refine sa ?_; refine so ?_
      exact T.retF (Lv.fin (RV.tmp rfl rfl) (by rw [hbad (by unfold okR; rw [hlast]; dsimp only; rw [decide_eq_false (show ¬ cR (rwK pr) (rwK r) < 0 by omega)]; simp)]))
    have d7 : ltR (rwK pr) (rwK r) = true := decide_eq_true (by omega)
    rw [d7] at hcm
    refine zs3 ?_; refine sv (PV.lss rfl rfl) ?_; refine so ?_; refine sq ?_; refine sc rfl (by omega) ?_; refine T.skip ?_; refine sq ?_; refine T.block ?_; refine zs3 ?_; refine sm ?_; refine sv (PV.indexAddr rfl rfl (by omega)) ?_; refine sv (PV.loadSubAll rfl (by assumption) (by exact rfl)) ?_; refine sy fun b4 => ?_; refine sa ?_; refine T.storeA Wanted.none rfl rfl zq8 (by exact rfl) zq14 zq13 ?_; refine so ?_; refine sq ?_; refine sq ?_; refine T.regionQ (by kernel_rfl) ?_; refine TQ.pv (PV.fieldAddr rfl) Wanted.none rfl rfl ?_; refine TQ.pv (PV.load1 rfl zq0 rfl) Wanted.none rfl rfl ?_; refine TQ.pv (PV.lenSl rfl) Wanted.none rfl rfl ?_; refine TQ.pv (PV.lss rfl rfl) Wanted.none rfl rfl ?_; refine TQ.pv (PV.move rfl) Wanted.none rfl rfl ?_; refine TQ.pv (PV.fieldAddr rfl) (Wanted.guard rfl rfl (by assumption)) rfl rfl ?_; refine TQ.pv (PV.load1 rfl zq0 rfl) (Wanted.guard rfl rfl (by assumption)) rfl rfl ?_; refine TQ.pv (PV.lenSl rfl) (Wanted.guard rfl rfl (by assumption)) rfl rfl ?_; refine TQ.pv (PV.gtr rfl rfl) (Wanted.guard rfl rfl (by assumption)) rfl rfl ?_; refine TQ.pv (PV.pickF rfl (by assumption) rfl) Wanted.none rfl rfl ?_; refine TQ.pv (PV.move rfl) Wanted.none rfl rfl ?_; refine TQ.pv (PV.fieldAddr rfl) (Wanted.guard rfl rfl (by assumption)) rfl rfl ?_; refine TQ.pv (PV.load1 rfl zq0 rfl) (Wanted.guard rfl rfl (by assumption)) rfl rfl ?_; refine TQ.pv (PV.lenSl rfl) (Wanted.guard rfl rfl (by assumption)) rfl rfl ?_; refine TQ.pv (PV.move rfl) (Wanted.guard rfl rfl (by assumption)) rfl rfl ?_; refine TQ.pv (PV.indexAddr rfl rfl (by omega)) (Wanted.guard rfl rfl (by assumption)) rfl rfl ?_; refine TQ.pv (PV.fieldAddr rfl) (Wanted.guard rfl rfl (by assumption)) rfl rfl ?_; refine TQ.pv (PV.loadSub rfl (by assumption) rfl) (Wanted.guard rfl rfl (by assumption)) rfl rfl ?_; refine TQ.pv (PV.lenSl rfl) (Wanted.guard rfl rfl (by assumption)) rfl rfl ?_; refine TQ.pv (PV.neq rfl rfl) (Wanted.guard rfl rfl (by assumption)) rfl rfl ?_; refine TQ.pv (PV.pickF rfl (by assumption) rfl) Wanted.none rfl rfl ?_
    refine TQ.pv (PV.move rfl) Wanted.none rfl rfl ?_; refine TQ.pv (PV.fieldAddr rfl) (Wanted.guard rfl rfl (by assumption)) rfl rfl ?_; refine TQ.pv (PV.load1 rfl zq0 rfl) (Wanted.guard rfl rfl (by assumption)) rfl rfl ?_; refine TQ.pv (PV.lss rfl rfl) (Wanted.guard rfl rfl (by assumption)) rfl rfl ?_; refine TQ.pv (PV.pickF rfl (by assumption) rfl) Wanted.none rfl rfl ?_; refine TQ.pv (PV.move rfl) Wanted.none rfl rfl ?_; refine TQ.pv (PV.move rfl) (Wanted.guard rfl rfl (by assumption)) rfl rfl ?_; refine TQ.pv (PV.gtr rfl rfl) (Wanted.guard rfl rfl (by assumption)) rfl rfl ?_; refine TQ.pv (PV.move rfl) (Wanted.guard rfl rfl (by assumption)) rfl rfl ?_; refine TQ.pv (PV.move rfl) (Wanted.guard rfl rfl (by assumption)) rfl rfl ?_; refine TQ.pv (PV.move rfl) (Wanted.guard rfl rfl (by assumption)) rfl rfl ?_; refine TQ.pv (PV.sub rfl rfl (by omega)) (Wanted.guard rfl rfl (by assumption)) rfl rfl ?_; refine TQ.pv (PV.indexAddr rfl rfl (by omega)) (Wanted.guard rfl rfl (by assumption)) rfl rfl ?_; refine TQ.pv (PV.loadSubAll rfl (by assumption) (by exact rfl)) (Wanted.guard rfl rfl (by assumption)) rfl rfl ?_; refine TQ.pv (PV.loadAll rfl zq0 (by exact rfl)) (Wanted.guard rfl rfl (by assumption)) rfl rfl ?_; refine TQ.callV (Wanted.guard rfl rfl (by assumption)) rfl rfl (hcm) ?_; refine TQ.pv (PV.not rfl) (Wanted.guard rfl rfl (by assumption)) rfl rfl ?_; refine TQ.pv (PV.pickT rfl (by assumption) rfl) (Wanted.guard rfl rfl (by assumption)) rfl rfl ?_; refine TQ.pv (PV.pickF rfl (by assumption) rfl) Wanted.none rfl rfl ?_; refine TQ.nil ?_; refine T.condF rfl rfl ?_; refine T.skip ?_; refine zs3 ?_; refine sm ?_; refine sm ?_; refine sv (PV.sliceH rfl rfl (by omega)) ?_; refine sv (PV.lenSl rfl) ?_; refine sm ?_; refine so ?_; refine T.block ?_
    have c5i : ∀ q : Nat, F.take q = (L.take q).map rwK := fun q => by rw [hF, List.map_take]
    refine T.loopK [(57, Value.int IntKind.i64 (↑(↑i : Int).toNat : Int)), (56, Value.slice (some { block := bx, off := off }) (↑i : Int).toNat cm), (4, Value.pointer (some { block := b4, off := 0 })), (9, Value.int IntKind.i64 (↑i : Int)), (8, Value.int IntKind.i64 (↑L.length : Int)), (7, Value.slice (some { block := bx, off := off }) L.length cm), (0, Value.slice (some { block := bx, off := off }) L.length cm)] zq8 (γ := Nat) (fun j => j ≤ i ∧ (∀ x ∈ F.take j, x.1 ≠ r.ks)) (fun j => [(58, .int .i64 (j : Int))]) (fun _ => [(b4, .cells #[.slice ar r.ks.length cr, .int .i64 r.n] 34 (0, 0))]) (fun _ => H) (fun j => i - j) 0 ⟨by simp, by simp⟩ zq8 (by repeat (first | exact Sel.refl _ | exact Sel.nil | (refine Sel.cons zq1 ?_) | (refine Sel.app zq1 ?_) | exact Sel.one zq1)) rfl ?_
    rintro j ⟨j1, j2⟩
    by_cases hj : j < i
    · obtain ⟨by1, offy, x, hye, hjx, hsuby⟩ := RowL.get encRw_len hL.1 (show j < L.length by omega)
      simp only [Option.some.injEq, Addr.mk.injEq, and_true] at hye
      obtain ⟨rfl, rfl⟩ := hye
      have hxok := hL.2 x (List.mem_of_getElem? hjx)
      obtain ⟨ax, cx, hxv⟩ := hxok.1.len
      have hxs := hxok.1
      rw [hxv] at hxs
      unfold encRw at hsuby
      rw [hxv] at hsuby
      have hxl := hxok.2.1
      have hFj : F[j]? = some (rwK x) := by rw [hF, List.getElem?_map, hjx]; rfl
      have hcx := cmpX_fn x.ks r.ks _ _ H hxs hrs (by omega) (by omega)
      have hc0 := (cX_cL x.ks r.ks).2
      rw [cL_iff] at hc0
      by_cases e : x.ks = r.ks
      · have hz := hc0.2 e
        rw [hz] at hcx
        refine zs3 ?_; refine sv (PV.lss rfl rfl) ?_; refine so ?_; refine sq ?_; refine sc rfl (by omega) ?_; refine T.skip ?_; refine sq ?_; refine T.block ?_; refine zs3 ?_; refine sv (PV.indexAddr rfl rfl (by omega)) ?_; refine sv (PV.loadSubAll rfl (by assumption) (by exact rfl)) ?_; refine sy fun b6 => ?_; refine T.storeA Wanted.none rfl rfl zq8 (by exact rfl) zq14 zq13 ?_; refine zs1 ?_; refine sf ?_; refine sl ?_; refine sf ?_; refine sl ?_; refine T.callV Wanted.none rfl rfl (hcx) ?_; refine sv (PV.eql rfl rfl) ?_; refine so ?_; refine T.condT rfl rfl ?_; refine zs3 ?_; refine sa ?_; refine so ?_
        exact T.retF (Lv.fin (RV.tmp rfl rfl) (by
          rw [hbad (by
            unfold okR
            rw [decide_eq_false (show ¬ ∀ y ∈ F.take i, y.1 ≠ (rwK r).1 from fun h => h (rwK x) (List.mem_of_getElem? (i := j) (by rw [List.getElem?_take, if_pos hj]; exact hFj)) e)]
            simp)]))
      · have hz : ¬ cX x.ks r.ks = 0 := fun h => e (hc0.1 h)
        refine zs3 ?_; refine sv (PV.lss rfl rfl) ?_; refine so ?_; refine sq ?_; refine sc rfl (by omega) ?_; refine T.skip ?_; refine sq ?_; refine T.block ?_; refine zs3 ?_; refine sv (PV.indexAddr rfl rfl (by omega)) ?_; refine sv (PV.loadSubAll rfl (by assumption) (by exact rfl)) ?_; refine sy fun b6 => ?_; refine T.storeA Wanted.none rfl rfl zq8 (by exact rfl) zq14 zq13 ?_; refine zs1 ?_; refine sf ?_; refine sl ?_; refine sf ?_; refine sl ?_; refine T.callV Wanted.none rfl rfl (hcx) ?_; refine sv (PV.eql rfl rfl) ?_; refine so ?_; refine sd rfl (by omega) ?_; refine T.skip ?_; refine T.blkEnd ?_; refine sr ?_; refine sv (PV.add rfl rfl (by omega)) ?_; refine sm ?_; refine so ?_
        have hnx : ∀ y ∈ F.take (j + 1), y.1 ≠ r.ks := by
          intro y hy
          rw [List.take_add_one, hFj] at hy
          rcases List.mem_append.1 hy with hy | hy
          · exact j2 y hy
          · obtain rfl := List.mem_singleton.1 hy; exact e
        exact T.nextP (j + 1) ⟨by omega, hnx⟩ (by omega) zq8 (by repeat (first | exact Sel.refl _ | exact Sel.nil | (refine Sel.cons zq1 ?_) | (refine Sel.app zq1 ?_) | exact Sel.one zq1)) rfl
    · have c5 : ∀ x ∈ F.take i, x.1 ≠ r.ks := by rw [show i = j by omega]; exact j2
      have hok : okR (keysN F) (F.take i) (rwK r) = true := by
        unfold okR
        simp only [Bool.and_eq_true, decide_eq_true_eq]
        exact ⟨show 1 ≤ r.ks.length by omega, show r.ks.length ≤ 4 by omega, hkn.symm ▸ c3, show 1 ≤ r.n by omega, c5, by rw [hlast]; exact decide_eq_true (by omega)⟩
      have hst : ∀ j q, j < i + 1 → F[j]? = some q → okR (keysN F) (F.take j) q = true := by
        intro j q hj hq
        by_cases hji : j < i
        · exact g2 j q hji hq
        · obtain rfl : j = i := by omega
          rw [hFi] at hq
          obtain rfl := Option.some.inj hq
          exact hok
      refine zs3 ?_; refine sv (PV.lss rfl rfl) ?_; refine so ?_; refine sq ?_; refine sd rfl (by omega) ?_; refine T.exit rfl ?_; refine T.blkEnd ?_; refine sr ?_; refine sv (PV.add rfl rfl (by omega)) ?_; refine sm ?_; refine so ?_
      exact T.nextP (i + 1) ⟨by omega, hst⟩ (by omega) zq8 (by repeat (first | exact Sel.refl _ | exact Sel.nil | (refine Sel.cons zq1 ?_) | (refine Sel.app zq1 ?_) | exact Sel.one zq1)) rfl
  · have hv : validR F = true := by
      unfold validR
      rw [validG_spec]
      intro j r hj
      exact g2 j r (by have := (List.getElem?_eq_some_iff.1 hj).1; omega) hj
    refine zs3 ?_; refine sv (PV.lss rfl rfl) ?_; refine so ?_; refine sq ?_; refine sd rfl (by omega) ?_; refine T.exit rfl ?_; refine zs3 ?_; refine sa ?_; refine so ?_
    exact T.retF (Lv.fin (RV.tmp rfl rfl) (by rw [hv]))

end Go.Proofs.YthacphfjchpoaaaDoor
namespace Go.Proofs.YthacphfjchpoaaaDoor
open Go.RowKit


theorem rowsK_mem {L : List Rw} {Q : RK → Prop} (h : ∀ r ∈ L, Q (rwK r)) : ∀ x ∈ L.map rwK, Q x := by
  rintro x hx
  obtain ⟨z, hz, rfl⟩ := List.mem_map.1 hx
  exact h z hz
set_option maxHeartbeats 1000000 in
theorem total_in (L : List Rw) (v : Value) (H : Hp) (hT : PowT H) (hL : RwL H v L) (hLl : L.length ≤ 1000) (hn : ∀ r ∈ L, r.n ≤ 1099511627776) :
    Fn Tryd.prog 11 #[v] H (fun u _ => u = .int .i64 (totalR (L.map rwK))) := by
  have hva := valid_in L v H hT hL hLl
  obtain ⟨am, cm, rfl⟩ := hL.1.len
  refine Fn.of_T (vs := [.slice am L.length cm]) Tryd.func11 rfl rfl fun w => ?_
  cases hv : validR (L.map rwK)
  · rw [hv] at hva
    refine zs3 ?_; refine sa ?_; refine so ?_; refine sq ?_; refine zs3 ?_; refine sm ?_; refine T.callV Wanted.none rfl rfl (hva) ?_; refine sv (PV.not rfl) ?_; refine so ?_; refine T.condT rfl rfl ?_; refine zs3 ?_; refine sa ?_; refine so ?_
    exact T.retF (Lv.fin (RV.tmp rfl rfl) (by unfold totalR; rw [hv]; rfl))
  · rw [hv] at hva
    have hpos : ∀ r ∈ L, 1 ≤ r.n := fun r hr => (validR_mem hv (List.mem_map_of_mem hr)).2.2.2
    obtain ⟨F, hF⟩ : ∃ F, F = L.map rwK := ⟨_, rfl⟩
    have hFl : F.length = L.length := by rw [hF, List.length_map]
    have hFb : ∀ x ∈ F, 0 ≤ x.2 ∧ x.2 ≤ 1099511627776 := by
      rw [hF]; exact rowsK_mem (Q := fun x => 0 ≤ x.2 ∧ x.2 ≤ 1099511627776) fun r hr => ⟨by have := hpos r hr; show 0 ≤ r.n; omega, hn r hr⟩
    rw [← hF]
    refine zs3 ?_; refine sa ?_; refine so ?_; refine sq ?_; refine zs3 ?_; refine sm ?_; refine T.callV Wanted.none rfl rfl (hva) ?_; refine sv (PV.not rfl) ?_; refine so ?_; refine T.condF rfl rfl ?_; refine T.skip ?_; refine zs3 ?_; refine sa ?_; refine so ?_; refine sq ?_; refine zs3 ?_; refine sm ?_; refine sv (PV.lenSl rfl) ?_; refine sm ?_; refine so ?_; refine T.block ?_; refine T.loopK [(10, Value.int IntKind.i64 (↑L.length : Int)), (9, Value.slice am L.length cm)] zq8 (γ := Nat) (fun i => i ≤ L.length) (fun i => [(11, .int .i64 (i : Int)), (3, .int .i64 (cntR (F.take i)))]) (fun _ => []) (fun _ => H) (fun i => L.length - i) 0 (Nat.zero_le _) zq8 (by repeat (first | exact Sel.refl _ | exact Sel.nil | (refine Sel.cons zq1 ?_) | (refine Sel.app zq1 ?_) | exact Sel.one zq1)) rfl ?_
    intro i g1
    by_cases hi : i < L.length
    · obtain ⟨bx, off, r, rfl, hix, hsub⟩ := RowL.get encRw_len hL.1 hi
      have hrok := hL.2 r (List.mem_of_getElem? hix)
      obtain ⟨ar, cr, hrv⟩ := hrok.1.len
      unfold encRw at hsub
      rw [hrv] at hsub
      have hFi : F[i]? = some (rwK r) := by rw [hF, List.getElem?_map, hix]; rfl
      have hst : cntR (F.take (i + 1)) = cntR (F.take i) + r.n := by
        rw [List.take_add_one, hFi]; exact cntR_snoc _ _
      have hb := cntR_bound (m := 1099511627776) (by omega) (fun x hx => hFb x (List.mem_of_mem_take hx) : ∀ x ∈ F.take i, 0 ≤ x.2 ∧ x.2 ≤ 1099511627776)
      have hlen : (F.take i).length ≤ 1000 := by rw [List.length_take]; omega
      have hrn := hn r (List.mem_of_getElem? hix)
      have hrp := hpos r (List.mem_of_getElem? hix)
      refine zs3 ?_; refine sv (PV.lss rfl rfl) ?_; refine so ?_; refine sq ?_; refine sc rfl (by omega) ?_; refine T.skip ?_; refine sq ?_; refine T.block ?_; refine zs3 ?_; refine sv (PV.indexAddr rfl rfl (by omega)) ?_; refine sv (PV.loadSubAll rfl (by assumption) (by exact rfl)) ?_; refine sy fun b5 => ?_; refine T.storeA Wanted.none rfl rfl zq8 (by exact rfl) zq14 zq13 ?_; refine zs2 ?_; refine sm ?_; refine sf ?_; refine sl ?_; refine sv (PV.add rfl rfl (by omega)) ?_; refine sa ?_; refine so ?_; refine T.blkEnd ?_; refine sr ?_; refine sv (PV.add rfl rfl (by omega)) ?_; refine sm ?_; refine so ?_
      rw [← hst]
      exact T.nextP (i + 1) (by omega) (by omega) zq8 (by repeat (first | exact Sel.refl _ | exact Sel.nil | (refine Sel.cons zq1 ?_) | (refine Sel.app zq1 ?_) | exact Sel.one zq1)) rfl
    · rw [List.take_of_length_le (by omega)]
      refine zs3 ?_; refine sv (PV.lss rfl rfl) ?_; refine so ?_; refine sq ?_; refine sd rfl (by omega) ?_; refine T.exit rfl ?_; refine zs3 ?_; refine sm ?_; refine sa ?_; refine so ?_
      exact T.retF (Lv.fin (RV.tmp rfl rfl) (by unfold totalR; rw [hF, hv]; rfl))
set_option maxHeartbeats 1000000 in
theorem total_ref (L : List Rw) (v : Value) (H : Hp) (hL : RwL H v L) (hLl : L.length ≤ 1000) (hn : ∀ r ∈ L, r.n ≤ 1099511627776) :
    Fn Tryd.prog 12 #[v] H (fun u _ => u = .int .i64 (totalR (L.map rwK))) := by
  have hva := valid_ref L v H hL hLl
  obtain ⟨am, cm, rfl⟩ := hL.1.len
  refine Fn.of_T (vs := [.slice am L.length cm]) Tryd.func12 rfl rfl fun w => ?_
  cases hv : validR (L.map rwK)
  · rw [hv] at hva
    refine zs3 ?_; refine sa ?_; refine so ?_; refine sq ?_; refine zs3 ?_; refine sm ?_; refine T.callV Wanted.none rfl rfl (hva) ?_; refine sv (PV.not rfl) ?_; refine so ?_; refine T.condT rfl rfl ?_; refine zs3 ?_; refine sa ?_; refine so ?_
    exact T.retF (Lv.fin (RV.tmp rfl rfl) (by unfold totalR; rw [hv]; rfl))
  · rw [hv] at hva
    have hpos : ∀ r ∈ L, 1 ≤ r.n := fun r hr => (validR_mem hv (List.mem_map_of_mem hr)).2.2.2
    obtain ⟨F, hF⟩ : ∃ F, F = L.map rwK := ⟨_, rfl⟩
    have hFl : F.length = L.length := by rw [hF, List.length_map]
    have hFb : ∀ x ∈ F, 0 ≤ x.2 ∧ x.2 ≤ 1099511627776 := by
      rw [hF]; exact rowsK_mem (Q := fun x => 0 ≤ x.2 ∧ x.2 ≤ 1099511627776) fun r hr => ⟨by have := hpos r hr; show 0 ≤ r.n; omega, hn r hr⟩
    rw [← hF]
    refine zs3 ?_; refine sa ?_; refine so ?_; refine sq ?_; refine zs3 ?_; refine sm ?_; refine T.callV Wanted.none rfl rfl (hva) ?_; refine sv (PV.not rfl) ?_; refine so ?_; refine T.condF rfl rfl ?_; refine T.skip ?_; refine zs3 ?_; refine sa ?_; refine so ?_; refine sq ?_; refine zs3 ?_; refine sm ?_; refine sv (PV.lenSl rfl) ?_; refine sm ?_; refine so ?_; refine T.block ?_; refine T.loopK [(10, Value.int IntKind.i64 (↑L.length : Int)), (9, Value.slice am L.length cm)] zq8 (γ := Nat) (fun i => i ≤ L.length) (fun i => [(11, .int .i64 (i : Int)), (3, .int .i64 (cntR (F.take i)))]) (fun _ => []) (fun _ => H) (fun i => L.length - i) 0 (Nat.zero_le _) zq8 (by repeat (first | exact Sel.refl _ | exact Sel.nil | (refine Sel.cons zq1 ?_) | (refine Sel.app zq1 ?_) | exact Sel.one zq1)) rfl ?_
    intro i g1
    by_cases hi : i < L.length
    · obtain ⟨bx, off, r, rfl, hix, hsub⟩ := RowL.get encRw_len hL.1 hi
      have hrok := hL.2 r (List.mem_of_getElem? hix)
      obtain ⟨ar, cr, hrv⟩ := hrok.1.len
      unfold encRw at hsub
      rw [hrv] at hsub
      have hFi : F[i]? = some (rwK r) := by rw [hF, List.getElem?_map, hix]; rfl
      have hst : cntR (F.take (i + 1)) = cntR (F.take i) + r.n := by
        rw [List.take_add_one, hFi]; exact cntR_snoc _ _
      have hb := cntR_bound (m := 1099511627776) (by omega) (fun x hx => hFb x (List.mem_of_mem_take hx) : ∀ x ∈ F.take i, 0 ≤ x.2 ∧ x.2 ≤ 1099511627776)
      have hlen : (F.take i).length ≤ 1000 := by rw [List.length_take]; omega
      have hrn := hn r (List.mem_of_getElem? hix)
      have hrp := hpos r (List.mem_of_getElem? hix)
      refine zs3 ?_; refine sv (PV.lss rfl rfl) ?_; refine so ?_; refine sq ?_; refine sc rfl (by omega) ?_; refine T.skip ?_; refine sq ?_; refine T.block ?_; refine zs3 ?_; refine sv (PV.indexAddr rfl rfl (by omega)) ?_; refine sv (PV.loadSubAll rfl (by assumption) (by exact rfl)) ?_; refine sy fun b5 => ?_; refine T.storeA Wanted.none rfl rfl zq8 (by exact rfl) zq14 zq13 ?_; refine zs2 ?_; refine sm ?_; refine sf ?_; refine sl ?_; refine sv (PV.add rfl rfl (by omega)) ?_; refine sa ?_; refine so ?_; refine T.blkEnd ?_; refine sr ?_; refine sv (PV.add rfl rfl (by omega)) ?_; refine sm ?_; refine so ?_
      rw [← hst]
      exact T.nextP (i + 1) (by omega) (by omega) zq8 (by repeat (first | exact Sel.refl _ | exact Sel.nil | (refine Sel.cons zq1 ?_) | (refine Sel.app zq1 ?_) | exact Sel.one zq1)) rfl
    · rw [List.take_of_length_le (by omega)]
      refine zs3 ?_; refine sv (PV.lss rfl rfl) ?_; refine so ?_; refine sq ?_; refine sd rfl (by omega) ?_; refine T.exit rfl ?_; refine zs3 ?_; refine sm ?_; refine sa ?_; refine so ?_
      exact T.retF (Lv.fin (RV.tmp rfl rfl) (by unfold totalR; rw [hF, hv]; rfl))
theorem marE_ok {l : List RK} {k : Int} (h : marE l k = 0) : validR l = true ∧ 0 ≤ k ∧ (l ≠ [] → k < keysN l) := by
  unfold marE at h
  split at h
  · cases h
  · rename_i hh
    refine ⟨?_, ?_, fun hl => ?_⟩
    · cases hv : validR l
      · exact absurd (.inl hv) hh
      · rfl
    · by_cases hk : k < 0
      · exact absurd (.inr (.inl hk)) hh
      · omega
    · by_cases hk : (keysN l : Int) ≤ k
      · exact absurd (.inr (.inr ⟨hl, hk⟩)) hh
      · omega
theorem joinL_one {ks : List ByteArray} {s : ByteArray} {k : Nat} (h : ks[k]? = some s) : (joinL [s]).length ≤ (joinL ks).length := by
  have e : ks = ks.take k ++ ([s] ++ ks.drop (k + 1)) := by
    have h1 := List.getElem?_eq_some_iff.1 h
    have h2 : ks.drop k = s :: ks.drop (k + 1) := by rw [List.drop_eq_getElem_cons h1.1, h1.2]
    rw [List.singleton_append, ← h2, List.take_append_drop]
  rw [e, joinL_append, joinL_append, List.length_append, List.length_append]
  omega
structure MgG where
  i : Nat
  H : Hp
  v : Value
  lv : List (Nat × Obj)
  R : List Rw
set_option maxHeartbeats 4000000 in
theorem margin_in (L : List Rw) (v : Value) (k : Int) (H : Hp) (hT : PowT H) (hL : RwL H v L) (hLl : L.length ≤ 1000) (hn : ∀ r ∈ L, r.n ≤ 1099511627776) :
    Fn Tryd.prog 5 #[v, .int .i64 k] H (fun u H' => ∃ v' A, u = .tuple #[v', .int .i64 (marE (L.map rwK) k)] ∧ RwL H' v' A ∧ (marE (L.map rwK) k = 0 → A.map rwK = marR (L.map rwK) k.toNat) ∧ (marE (L.map rwK) k ≠ 0 → A = [])) := by
  have hva := valid_in L v H hT hL hLl
  obtain ⟨am, cm, rfl⟩ := hL.1.len
  obtain ⟨F, hF⟩ : ∃ F, F = L.map rwK := ⟨_, rfl⟩
  have hFl : F.length = L.length := by rw [hF, List.length_map]
  rw [← hF] at hva ⊢
  refine Fn.of_T (vs := [.slice am L.length cm, .int .i64 k]) Tryd.func5 rfl rfl fun w => ?_
  have hend : marE F k = 1 → ∃ v' A, (.tuple #[.slice none 0 0, .int .i64 1] : Value) = .tuple #[v', .int .i64 (marE F k)] ∧ RwL H v' A ∧ (marE F k = 0 → A.map rwK = marR F k.toNat) ∧ (marE F k ≠ 0 → A = []) :=
    fun he => ⟨_, [], by rw [he], ⟨SlR.empty, by simp⟩, fun h => absurd (he.symm.trans h) (by omega), fun _ => rfl⟩
  refine zs3 ?_; refine sa ?_; refine sa ?_; refine so ?_
  (repeat refine sq ?_)
  refine T.cut2G [(0, Value.slice am L.length cm), (1, Value.int IntKind.i64 k)] (γ := Unit) (fun _ => marE F k = 0) (fun _ => []) (fun _ => []) ?_ fun K => ?_
  rotate_left
  · cases hv : validR F
    · rw [hv] at hva
      refine sr ?_; refine sm ?_; refine T.callV Wanted.none rfl rfl (hva) ?_; refine sv (PV.not rfl) ?_; refine sm ?_; refine sp ?_; refine sp ?_; refine sT ?_; refine sm ?_; refine sp ?_; refine sp ?_; refine sp ?_; refine sp ?_; refine su ?_; refine su ?_; refine su ?_; refine su ?_; refine su ?_; refine su ?_; refine su ?_; refine sp ?_; refine sT ?_; refine so ?_; refine T.condT rfl rfl ?_; refine zs3 ?_; refine sa ?_; refine sa ?_; refine so ?_
      exact T.retF (Lv.fin (RV.tmp2 rfl rfl rfl) (hend (by unfold marE; rw [if_pos (.inl hv)])))
    rw [hv] at hva
    by_cases c1 : k < 0
    · have d1 : decide (k < 0) = true := decide_eq_true c1
      refine sr ?_; refine sm ?_; refine T.callV Wanted.none rfl rfl (hva) ?_; refine sv (PV.not rfl) ?_; refine sm ?_; refine gm ?_; refine gv (PV.lss rfl rfl) ?_; refine sF ?_; refine sm ?_; refine T.pass (Unwanted.guard rfl rfl (by assumption)) rfl rfl ?_; refine T.pass (Unwanted.guard rfl rfl (by assumption)) rfl rfl ?_; refine T.pass (Unwanted.guard rfl rfl (by assumption)) rfl rfl ?_; refine T.pass (Unwanted.guard rfl rfl (by assumption)) rfl rfl ?_; refine su ?_; refine su ?_; refine su ?_; refine su ?_; refine su ?_; refine su ?_; refine su ?_; refine T.pass (Unwanted.guard rfl rfl (by assumption)) rfl rfl ?_; refine sv (PV.pickT rfl (by assumption) rfl) ?_; refine so ?_; refine T.condT rfl rfl ?_; refine zs3 ?_; refine sa ?_; refine sa ?_; refine so ?_
      exact T.retF (Lv.fin (RV.tmp2 rfl rfl rfl) (hend (by unfold marE; rw [if_pos (.inr (.inl c1))])))
    have d1 : decide (k < 0) = false := decide_eq_false c1
    by_cases c2 : 0 < L.length
    · have d2 : decide ((0 : Int) < (L.length : Int)) = true := decide_eq_true (by omega)
      obtain ⟨b0, off0, r0, rfl, h0x, hsub0⟩ := RowL.get encRw_len hL.1 c2
      have hr0ok := hL.2 r0 (List.mem_of_getElem? h0x)
      obtain ⟨ar0, cr0, hr0v⟩ := hr0ok.1.len
      unfold encRw at hsub0
      rw [hr0v] at hsub0
      have hsub0' : SubC H b0 (off0 + (0 : Int).toNat * 2) [.slice ar0 r0.ks.length cr0, .int .i64 r0.n] := hsub0
      have hkn : keysN F = r0.ks.length := by
        rw [hF]
        cases hLc : L with
        | nil => rw [hLc] at c2; simp at c2
        | cons a l => rw [hLc] at h0x; simp at h0x; subst h0x; rfl
      have hne : F ≠ [] := by intro h; rw [h] at hFl; simp at hFl; omega
      by_cases c3 : (r0.ks.length : Int) ≤ k
      · have d3 : decide ((r0.ks.length : Int) ≤ k) = true := decide_eq_true c3
        refine sr ?_; refine sm ?_; refine T.callV Wanted.none rfl rfl (hva) ?_; refine sv (PV.not rfl) ?_; refine sm ?_; refine gm ?_; refine gv (PV.lss rfl rfl) ?_; refine sF ?_; refine sm ?_; refine T.pv (PV.move rfl) (Wanted.guard rfl rfl (by assumption)) rfl rfl ?_; refine T.pv (PV.lenSl rfl) (Wanted.guard rfl rfl (by assumption)) rfl rfl ?_; refine T.pv (PV.gtr rfl rfl) (Wanted.guard rfl rfl (by assumption)) rfl rfl ?_; refine T.pv (PV.move rfl) (Wanted.guard rfl rfl (by assumption)) rfl rfl ?_; refine T.pv (PV.move rfl) (Wanted.guard rfl rfl (by assumption)) rfl rfl ?_; refine T.pv (PV.move rfl) (Wanted.guard rfl rfl (by assumption)) rfl rfl ?_; refine T.pv (PV.indexAddr rfl rfl (by omega)) (Wanted.guard rfl rfl (by assumption)) rfl rfl ?_; refine T.pv (PV.fieldAddr rfl) (Wanted.guard rfl rfl (by assumption)) rfl rfl ?_; refine T.pv (PV.loadSub rfl (by assumption) rfl) (Wanted.guard rfl rfl (by assumption)) rfl rfl ?_; refine T.pv (PV.lenSl rfl) (Wanted.guard rfl rfl (by assumption)) rfl rfl ?_; refine T.pv (PV.geq rfl rfl) (Wanted.guard rfl rfl (by assumption)) rfl rfl ?_; refine T.pv (PV.pickT rfl (by assumption) rfl) (Wanted.guard rfl rfl (by assumption)) rfl rfl ?_; refine sv (PV.pickF rfl (by assumption) rfl) ?_; refine so ?_; refine T.condT rfl (by assumption) ?_; refine zs3 ?_; refine sa ?_; refine sa ?_; refine so ?_
        exact T.retF (Lv.fin (RV.tmp2 rfl rfl rfl) (hend (by unfold marE; rw [if_pos (.inr (.inr ⟨hne, by rw [hkn]; exact c3⟩))])))
      · have d3 : decide ((r0.ks.length : Int) ≤ k) = false := decide_eq_false c3
        refine sr ?_; refine sm ?_; refine T.callV Wanted.none rfl rfl (hva) ?_; refine sv (PV.not rfl) ?_; refine sm ?_; refine gm ?_; refine gv (PV.lss rfl rfl) ?_; refine sF ?_; refine sm ?_; refine T.pv (PV.move rfl) (Wanted.guard rfl rfl (by assumption)) rfl rfl ?_; refine T.pv (PV.lenSl rfl) (Wanted.guard rfl rfl (by assumption)) rfl rfl ?_; refine T.pv (PV.gtr rfl rfl) (Wanted.guard rfl rfl (by assumption)) rfl rfl ?_; refine T.pv (PV.move rfl) (Wanted.guard rfl rfl (by assumption)) rfl rfl ?_; refine T.pv (PV.move rfl) (Wanted.guard rfl rfl (by assumption)) rfl rfl ?_; refine T.pv (PV.move rfl) (Wanted.guard rfl rfl (by assumption)) rfl rfl ?_; refine T.pv (PV.indexAddr rfl rfl (by omega)) (Wanted.guard rfl rfl (by assumption)) rfl rfl ?_; refine T.pv (PV.fieldAddr rfl) (Wanted.guard rfl rfl (by assumption)) rfl rfl ?_; refine T.pv (PV.loadSub rfl (by assumption) rfl) (Wanted.guard rfl rfl (by assumption)) rfl rfl ?_; refine T.pv (PV.lenSl rfl) (Wanted.guard rfl rfl (by assumption)) rfl rfl ?_; refine T.pv (PV.geq rfl rfl) (Wanted.guard rfl rfl (by assumption)) rfl rfl ?_; refine T.pv (PV.pickT rfl (by assumption) rfl) (Wanted.guard rfl rfl (by assumption)) rfl rfl ?_; refine sv (PV.pickF rfl (by assumption) rfl) ?_; refine so ?_; refine T.condF rfl (by assumption) ?_; refine T.skip ?_; refine K () _ _ ?_ ?_ ?_
        · unfold marE
          rw [if_neg]
          rintro (h | h | h)
          · rw [hv] at h; cases h
          · exact c1 h
          · rw [hkn] at h; exact c3 h.2
        · exact zq8
        · exact (by repeat (first | exact Sel.refl _ | exact Sel.nil | (refine Sel.cons zq1 ?_) | (refine Sel.app zq1 ?_) | exact Sel.one zq1))
    · have d2 : decide ((0 : Int) < (L.length : Int)) = false := decide_eq_false (by omega)
      refine sr ?_; refine sm ?_; refine T.callV Wanted.none rfl rfl (hva) ?_; refine sv (PV.not rfl) ?_; refine sm ?_; refine gm ?_; refine gv (PV.lss rfl rfl) ?_; refine sF ?_; refine sm ?_; refine T.pv (PV.move rfl) (Wanted.guard rfl rfl (by assumption)) rfl rfl ?_; refine T.pv (PV.lenSl rfl) (Wanted.guard rfl rfl (by assumption)) rfl rfl ?_; refine T.pv (PV.gtr rfl rfl) (Wanted.guard rfl rfl (by assumption)) rfl rfl ?_; refine T.pv (PV.move rfl) (Wanted.guard rfl rfl (by assumption)) rfl rfl ?_; refine T.pass (Unwanted.guard rfl rfl (by assumption)) rfl rfl ?_; refine T.pass (Unwanted.guard rfl rfl (by assumption)) rfl rfl ?_; refine T.pass (Unwanted.guard rfl rfl (by assumption)) rfl rfl ?_; refine T.pass (Unwanted.guard rfl rfl (by assumption)) rfl rfl ?_; refine T.pass (Unwanted.guard rfl rfl (by assumption)) rfl rfl ?_; refine T.pass (Unwanted.guard rfl rfl (by assumption)) rfl rfl ?_; refine T.pass (Unwanted.guard rfl rfl (by assumption)) rfl rfl ?_; refine T.pv (PV.pickF rfl (by assumption) rfl) (Wanted.guard rfl rfl (by assumption)) rfl rfl ?_; refine sv (PV.pickF rfl (by assumption) rfl) ?_; refine so ?_; refine T.condF rfl rfl ?_; refine T.skip ?_; refine K () _ _ ?_ ?_ ?_
      · unfold marE
        rw [if_neg]
        rintro (h | h | h)
        · rw [hv] at h; cases h
        · exact c1 h
        · exact h.1 (List.eq_nil_of_length_eq_zero (by omega))
      · exact zq8
      · exact (by repeat (first | exact Sel.refl _ | exact Sel.nil | (refine Sel.cons zq1 ?_) | (refine Sel.app zq1 ?_) | exact Sel.one zq1))
  rintro ⟨⟩ h0
  obtain ⟨hv, hk0, hkl⟩ := marE_ok h0
  have hpos : ∀ r ∈ L, 1 ≤ r.n ∧ k < r.ks.length := fun r hr => by
    have hm : rwK r ∈ F := by rw [hF]; exact List.mem_map_of_mem hr
    have h1 := validR_mem hv hm
    have h2 := hkl (by intro h; rw [h] at hm; cases hm)
    exact ⟨h1.2.2.2, by rw [show r.ks.length = keysN F from h1.2.2.1]; exact h2⟩
  dsimp only [List.nil_append]
  refine zs3 ?_; refine sa ?_; refine so ?_; refine sq ?_; refine zs3 ?_; refine sm ?_; refine sv (PV.lenSl rfl) ?_; refine sm ?_; refine so ?_; refine T.block ?_; refine T.loopK [(31, Value.int IntKind.i64 (↑L.length : Int)), (30, Value.slice am L.length cm), (1, Value.int IntKind.i64 k)] zq8 (γ := MgG) (fun g => g.i ≤ L.length ∧ H.le g.H ∧ RowV 34 encRw 2 g.v g.lv g.R ∧ (∀ r ∈ g.R, RwOk g.H r) ∧ g.R.map rwK = (F.take g.i).map (fun r => ([r.1.getD k.toNat ⟨#[]⟩], r.2))) (fun g => [(32, .int .i64 (g.i : Int)), (6, g.v)]) (fun g => g.lv) (fun g => g.H) (fun g => L.length - g.i) ⟨0, H, .slice none 0 0, [], []⟩ ⟨by simp, Hp.le.refl _, Vec.nil _ _, by simp, by simp⟩ zq8 (by repeat (first | exact Sel.refl _ | exact Sel.nil | (refine Sel.cons zq1 ?_) | (refine Sel.app zq1 ?_) | exact Sel.one zq1)) rfl ?_
  rintro ⟨i, H2, v, lv, R⟩ ⟨g1, g2, g3, g4, g5⟩
  dsimp only at g1 g2 g3 g4 g5 ⊢
  obtain ⟨adv, capv, rfl⟩ := g3.val
  have hRl : R.length = i := by have := congrArg List.length g5; rw [List.length_map, List.length_map, List.length_take] at this; omega
  by_cases hi : i < L.length
  · obtain ⟨bx, off, r, rfl, hix, hsub⟩ := RowL.get encRw_len (hL.1.mono g2) hi
    have hmm := List.mem_of_getElem? hix
    have hrok := (hL.2 r hmm).mono g2
    obtain ⟨hrp, hrk⟩ := hpos r hmm
    obtain ⟨ar, cr, hrv⟩ := hrok.1.len
    have hrs := hrok.1
    rw [hrv] at hrs
    unfold encRw at hsub
    rw [hrv] at hsub
    obtain ⟨bk, offk, s, rfl, hks, hsubk⟩ := RowL.get encT_len hrs (show k.toNat < r.ks.length by omega)
    unfold encT at hsubk
    have hFi : F[i]? = some (rwK r) := by rw [hF, List.getElem?_map, hix]; rfl
    have hst : (F.take (i + 1)).map (fun r => ([r.1.getD k.toNat ⟨#[]⟩], r.2)) = (F.take i).map (fun r => ([r.1.getD k.toNat ⟨#[]⟩], r.2)) ++ [([s], r.n)] := by
      rw [List.take_add_one, hFi, List.map_append]
      show _ ++ [([r.ks.getD k.toNat ⟨#[]⟩], r.n)] = _
      rw [List.getD_eq_getElem?_getD, hks]; rfl
    refine zs3 ?_; refine sv (PV.lss rfl rfl) ?_; refine so ?_; refine sq ?_; refine sc rfl (by omega) ?_; refine T.skip ?_; refine sq ?_; refine T.block ?_; refine zs3 ?_; refine sv (PV.indexAddr rfl rfl (by omega)) ?_; refine sv (PV.loadSubAll rfl (by assumption) (by exact rfl)) ?_; refine sy fun b8 => ?_; refine T.storeA Wanted.none rfl rfl zq8 (by exact rfl) zq14 zq13 ?_; refine so ?_
    (repeat refine sq ?_)
    refine T.regionO [(b8, .cells #[.slice (some ⟨bk, offk, none⟩) r.ks.length cr, .int .i64 r.n] 34 (0, 0))] (by kernel_rfl) ?_; refine TO.take 0 rfl (by kernel_rfl) (by kernel_rfl) (by kernel_rfl) (PV.move rfl) Wanted.none rfl rfl ?_; refine TO.take 1 rfl (by kernel_rfl) (by kernel_rfl) (by kernel_rfl) (PV.fieldAddr rfl) Wanted.none rfl rfl ?_; refine TO.take 2 rfl (by kernel_rfl) (by kernel_rfl) (by kernel_rfl) (PV.load1 rfl zq0 rfl) Wanted.none rfl rfl ?_; refine TO.take 3 rfl (by kernel_rfl) (by kernel_rfl) (by kernel_rfl) (PV.move rfl) Wanted.none rfl rfl ?_; refine TO.take 4 rfl (by kernel_rfl) (by kernel_rfl) (by kernel_rfl) (PV.indexAddr rfl rfl (by omega)) Wanted.none rfl rfl ?_; refine TO.take 5 rfl (by kernel_rfl) (by kernel_rfl) (by kernel_rfl) (PV.loadSub0 rfl (by assumption)) Wanted.none rfl rfl ?_; refine TO.take 7 rfl (by kernel_rfl) (by kernel_rfl) (by kernel_rfl) (PV.fieldAddr rfl) Wanted.none rfl rfl ?_; refine TO.take 8 rfl (by kernel_rfl) (by kernel_rfl) (by kernel_rfl) (PV.load1 rfl zq0 rfl) Wanted.none rfl rfl ?_; refine TO.step 6 rfl (by kernel_rfl) zq4 zq17 ?_; (refine T.buildSlice Wanted.none rfl rfl zq11 (by exact rfl) (by exact rfl) ?_; intro b42); refine so ?_; refine TO.back ?_; refine TO.take 9 rfl (by kernel_rfl) (by kernel_rfl) (by kernel_rfl) (PV.build rfl zq12) Wanted.none rfl rfl ?_; refine TO.step 10 rfl (by kernel_rfl) zq4 zq17 ?_; (refine T.buildSlice Wanted.none rfl rfl zq11 (by exact rfl) (by exact rfl) ?_; intro b46); refine so ?_; refine TO.back ?_; refine TO.step 11 rfl (by kernel_rfl) zq4 zq17 ?_; (refine T.appendP (lv := lv) Wanted.none rfl rfl rfl g3 (Src.cells (m := 1) (ys := [.slice (some ⟨b42, 0, none⟩) 1 1, .int .i64 r.n]) (.own zq2) rfl rfl) (by intro v hv; simp only [List.mem_cons, List.not_mem_nil, or_false] at hv; rcases hv with rfl | rfl <;> rfl) (by omega) zq1 ?_; intro v47 lv47 hv47 _; obtain ⟨ad47, cap47, rfl⟩ := hv47.val); refine so ?_; refine TO.back ?_; refine TO.take 12 rfl (by kernel_rfl) (by kernel_rfl) (by kernel_rfl) (PV.assign rfl) Wanted.none rfl rfl ?_; refine TO.done (by kernel_rfl) zq4 zq17 ?_; refine T.blkEnd ?_; refine T.freezeB (b := b42) zq1 ?_
    intro H3 h3 j42
    have hnew : RwOk H3 ⟨.slice (some ⟨b42, 0, none⟩) 1 1, [s], r.n⟩ := ⟨⟨rfl, .inr ⟨b42, 0, 1, _, _, _, rfl, j42, rfl, Nat.le_refl 1⟩⟩, by show 1 ≤ 1000; omega, by have := joinL_one hks; have := hrok.2.2; show (joinL [s]).length ≤ _; omega⟩
    refine sr ?_; refine sv (PV.add rfl rfl (by omega)) ?_; refine sm ?_; refine so ?_
    refine T.nextP ⟨i + 1, H3, _, lv47, R ++ [⟨.slice (some ⟨b42, 0, none⟩) 1 1, [s], r.n⟩]⟩ ⟨by dsimp only; omega, g2.trans h3, RowV.snoc hv47, fun x hx => ?_, by dsimp only; rw [hst, List.map_append, g5]; rfl⟩ (by dsimp only; omega) zq8 (by repeat (first | exact Sel.refl _ | exact Sel.nil | (refine Sel.cons zq1 ?_) | (refine Sel.app zq1 ?_) | exact Sel.one zq1)) rfl
    rcases List.mem_append.1 hx with hx | hx
    · exact (g4 x hx).mono h3
    · rw [List.mem_singleton] at hx; subst hx; exact hnew
  · rw [List.take_of_length_le (by omega)] at g5
    refine zs3 ?_; refine sv (PV.lss rfl rfl) ?_; refine so ?_; refine sq ?_; refine sd rfl (by omega) ?_; refine T.exit rfl ?_; refine T.freezeP (lv := lv) g3 zq1 ?_
    intro H3 h3 hs3
    have hRn : ∀ x ∈ R, 0 ≤ x.n ∧ x.n ≤ 1099511627776 := by
      intro x hx
      have h1 : rwK x ∈ R.map rwK := List.mem_map_of_mem hx
      rw [g5, hF, List.map_map] at h1
      obtain ⟨z, hz, he⟩ := List.mem_map.1 h1
      have h2 : x.n = z.n := (congrArg Prod.snd he).symm
      have h3 := hn z hz
      have h4 := (hpos z hz).1
      omega
    have hsm := sum_fn R (.slice adv R.length capv) H3 (hT.mono (g2.trans h3)) ⟨hs3, fun x hx => (g4 x hx).mono h3⟩ (by omega) hRn
    refine zs3 ?_; refine sm ?_; (refine T.call Wanted.none rfl rfl hsm ?_; rintro _ H50 h50 ⟨A, hA, hAk⟩; obtain ⟨aa, ca, rfl⟩ := hA.1.len); refine sa ?_; refine sa ?_; refine so ?_
    exact T.retF (Lv.fin (RV.tmp2 rfl rfl rfl) ⟨_, A, by rw [h0], hA, fun _ => by rw [hAk, g5]; rfl, fun h => absurd h0 h⟩)

end Go.Proofs.YthacphfjchpoaaaDoor
