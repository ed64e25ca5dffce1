/- lines: the statement Raw. -/
import Derived.Test.YtlklcjpmfjmenaaGreatDoorGF
import Derived.Test.YtlklcjpmfjmenaaGreatDoorFKU
namespace Go.Proofs.YtlklcjpmfjmenaaGreatDoor
open Go.RowKit

theorem T.cutHr {P : Program} {X : Cx} {e : Env} {l : List (Nat × Obj)} {H : Hp} {D : List Deferred} {k : List It} {a : It} {γ : Type} (ek : Env) (C : γ → Prop) (ch : γ → Env) (lg : γ → List (Nat × Obj)) (Hg : γ → Hp) (K : ∀ g, C g → T P X (ch g ++ ek) (lg g) (Hg g) D k)
    (h : (∀ g e' l' H', C g → Env.Sub (ch g ++ ek) e' → Sel l' (lg g) → Hg g = H' → T P X e' l' H' D k) → T P X e l H D (a :: k)) : T P X e l H D (a :: k) :=
  h fun g _ _ _ hc he hl hH => hH ▸ T.sel hl (T.weak he (List.Sublist.refl _) (K g hc))
theorem row_block {α : Type} {enc : α → List Value} {sz : Nat} (hlen : ∀ x, (enc x).length = sz) {H : Hp} {b : Nat} {cs : List Value} {t : TypeId} {fz : Nat × Nat} {l : List α} (h : H b = some (.cells cs.toArray t fz)) (hx : cs = l.flatMap enc) : SlR H sz (.slice (some ⟨b, 0, none⟩) l.length l.length) l.length (l.flatMap enc) := by
  subst hx
  have hl : (l.flatMap enc).length = l.length * sz := flat_len hlen l
  exact ⟨hl, .inr ⟨b, 0, _, _, _, _, rfl, h, by rw [List.drop_zero, ← hl, List.take_length], Nat.le_refl _⟩⟩
theorem mt_one {H : Hp} {m : Mt} {b : Nat} {t : TypeId} {fz : Nat × Nat} {al : Option Addr} {cl : Nat} (hmv : m.v = .slice al m.ls.length cl) (h : H b = some (.cells #[.int .i64 m.b, .int .i64 m.e, .slice al m.ls.length cl] t fz)) (hm : LabOk H m) : MtL H (.slice (some ⟨b, 0, none⟩) 1 1) [m] := by
  refine ⟨row_block encM_len (l := [m]) (cs := [.int .i64 m.b, .int .i64 m.e, .slice al m.ls.length cl]) h ?_, fun x hx => ?_⟩
  · simp [encM, hmv]
  · rw [List.mem_singleton] at hx; subst hx; exact hm
theorem ky_one {H : Hp} {k : Ky} {b : Nat} {t : TypeId} {fz : Nat × Nat} (h : H b = some (.cells #[.int .i64 k.at_, .int .i64 k.off, .string k.lb, .string k.nm, .bool k.fold, .bool k.back, .bool k.fall] t fz)) : KyL H (.slice (some ⟨b, 0, none⟩) 1 1) [k] :=
  row_block encKy_len (l := [k]) (cs := [.int .i64 k.at_, .int .i64 k.off, .string k.lb, .string k.nm, .bool k.fold, .bool k.back, .bool k.fall]) h rfl
structure RwG where
  H : Hp
  v : Value
  A : List Mt
set_option maxHeartbeats 8000000 in
theorem raw_law (l : List Int) (m : Mt) (k : Ky) (v : Value) (H : Hp) (hT : PowT H) (hv : InL H v l) (hl : l.length ≤ 9223372036854775807) (hr : ∀ x ∈ l, -9223372036854775808 ≤ x ∧ x ≤ 9223372036854775807) (hm : InL H m.v m.ls) (hk : -9223372036854775808 ≤ k.off ∧ k.off ≤ 9223372036854775807) :
    Fn Tryz.prog 3 #[v, mtV m, kyV k] H (fun u _ => u = .bool true) := by
  obtain ⟨al, cl, hmv⟩ := hm.len
  unfold mtV kyV
  rw [hmv]
  refine Fn.of_T (vs := [v, .agg #[.int .i64 m.b, .int .i64 m.e, .slice al m.ls.length cl], .agg #[.int .i64 k.at_, .int .i64 k.off, .string k.lb, .string k.nm, .bool k.fold, .bool k.back, .bool k.fall]]) Tryz.func3 rfl rfl fun w => ?_
  by_cases h5 : 5 < m.ls.length
  · refine sq ?_
    refine sr ?_
    (refine T.box Wanted.none rfl rfl zq15 ?_; intro b4)
    (refine T.box Wanted.none rfl rfl zq15 ?_; intro b5)
    refine sa ?_
    refine so ?_
    refine sq ?_
    refine sq ?_
    refine sr ?_
    refine sf ?_
    refine sl ?_
    refine sv (PV.lenSl rfl) ?_
    refine sv (PV.gtr rfl rfl) ?_
    refine so ?_
    refine sc rfl (by omega) ?_
    refine sq ?_
    refine sr ?_
    refine sa ?_
    refine so ?_
    exact T.retF (Lv.fin (RV.tmp rfl rfl) rfl)
  refine sq ?_
  refine sr ?_
  (refine T.box Wanted.none rfl rfl zq15 ?_; intro b4)
  (refine T.box Wanted.none rfl rfl zq15 ?_; intro b5)
  refine sa ?_
  refine so ?_
  refine sq ?_
  refine sq ?_
  refine sr ?_
  refine sf ?_
  refine sl ?_
  refine sv (PV.lenSl rfl) ?_
  refine sv (PV.gtr rfl rfl) ?_
  refine so ?_
  refine sd rfl (by omega) ?_
  refine T.skip ?_
  refine sq ?_
  refine sr ?_
  refine sm ?_
  refine T.callW (l0 := []) Wanted.none rfl rfl (new_fn l v H hv hl hr) zq1 ?_
  rintro _ _ _ _ ⟨rfl, bt, t, rfl, ht0, rfl⟩
  skip
  refine T.callW Wanted.none rfl rfl (corpus_fnN bt t 5 H ht0 (by omega)) zq1 ?_
  rintro _ H1 _ hle1 ⟨t1, c, rfl, ht1, hc, hg, hb, hnm, rfl⟩
  have hw := hg.wide
  have hlab : LabOk H m := ⟨hm, by omega⟩
  have hls : m.ls.length ≤ 1000 := by omega
  have a1 := make_in c m k.at_ k.off m.b H1 hc hw (hlab.mono hle1) hls
  have a2 := fun H' (h : H1.le H') => make_ref c m k.at_ k.off m.b H' (hc.mono h) hw (hlab.mono (hle1.trans h)) hls
  have b1 := mkO_B hc.lt hw m k.at_ k.off m.b
  generalize mkO c m k.at_ k.off m.b = p at a1 a2 b1
  obtain ⟨p, p2⟩ := p
  dsimp only at a1 a2 b1
  unfold cpV mtV at a1 a2
  unfold cpV
  simp only [hmv] at a1 a2
  have d1 : decide (p2 ≠ p2) = false := by simp
  refine sy fun b7 => ?_
  (refine T.storeA Wanted.none rfl rfl (cp_one hc) (by exact rfl) zq14 zq13 ?_)
  refine so ?_
  refine sq ?_
  refine sr ?_
  refine sv (PV.loadAll rfl zq0 (by exact rfl)) ?_
  refine sv (PV.loadAll rfl zq0 (by exact rfl)) ?_
  refine sf ?_
  refine sl ?_
  refine sf ?_
  refine sl ?_
  refine sf ?_
  refine sl ?_
  (refine T.call Wanted.none rfl rfl (a1) ?_; rintro _ H32 h32 ⟨_, rfl, u1, u2, u3, rfl, e1, e2, e3⟩; obtain ⟨s1, z1, rfl⟩ := e1.len; obtain ⟨s2, z2, rfl⟩ := e2.len; obtain ⟨s3, z3, rfl⟩ := e3.len)
  refine sm ?_
  refine sv (PV.extract rfl rfl) ?_
  refine sv (PV.extract rfl rfl) ?_
  refine sy fun b8 => ?_
  refine T.storeA Wanted.none rfl rfl zq8 (by exact rfl) zq14 zq13 ?_
  refine sa ?_
  refine so ?_
  refine sq ?_
  refine sr ?_
  refine sv (PV.loadAll rfl zq0 (by exact rfl)) ?_
  refine sv (PV.loadAll rfl zq0 (by exact rfl)) ?_
  refine sf ?_
  refine sl ?_
  refine sf ?_
  refine sl ?_
  refine sf ?_
  refine sl ?_
  (refine T.call Wanted.none rfl rfl (a2 _ h32) ?_; rintro _ H44 h44 ⟨_, rfl, u4, u5, u6, rfl, e4, e5, e6⟩; obtain ⟨s4, z4, rfl⟩ := e4.len; obtain ⟨s5, z5, rfl⟩ := e5.len; obtain ⟨s6, z6, rfl⟩ := e6.len; have h14 := h32.trans h44)
  refine sm ?_
  refine sv (PV.extract rfl rfl) ?_
  refine sv (PV.extract rfl rfl) ?_
  refine sy fun b10 => ?_
  refine T.storeA Wanted.none rfl rfl zq8 (by exact rfl) zq14 zq13 ?_
  refine sa ?_
  refine so ?_
  have hc4 := hc.mono h14
  have hlb4 : LabOk H44 m := hlab.mono (hle1.trans h14)
  have hT4 := hT.mono (hle1.trans h14)
  have hls1 : ∀ x ∈ [m], x.ls.length ≤ 1000 := fun x hx => by rw [List.mem_singleton] at hx; subst hx; exact hls
  have si := fun H' (h : H44.le H') (vl vm vk : Value) (hl : StL H' vl [bs [120]]) (hL : MtL H' vm [m]) (hkk : KyL H' vk [k]) => sort_in c [bs [120]] [m] [k] vl vm vk H' (hc4.mono h) hw hl hL hkk (by decide) (by simp) (by simp) hls1
  have sr := fun H' (h : H44.le H') (vl vm vk : Value) (hl : StL H' vl [bs [120]]) (hL : MtL H' vm [m]) (hkk : KyL H' vk [k]) => sort_ref c [bs [120]] [m] [k] vl vm vk H' (hc4.mono h) hw hl hL hkk (by decide) (by simp) (by simp) hls1
  unfold cpV at si sr
  generalize hz : srtE c [bs [120]] [k] [m] = z at si sr
  (repeat refine sq ?_)
  refine T.cutHr (γ := RwG) [(11, Value.int IntKind.i64 p2), (10, Value.pointer (some { block := b10, off := 0 })), (9, Value.int IntKind.i64 p2), (8, Value.pointer (some { block := b8, off := 0 })), (7, Value.pointer (some { block := b7, off := 0 })), (5, Value.pointer (some { block := b5, off := 0 })), (4, Value.pointer (some { block := b4, off := 0 }))] (fun g => H44.le g.H ∧ MtL g.H g.v g.A ∧ (z = 0 → g.A.map mk3 = (sortM c [bs [120]] [k] [m]).map mk3) ∧ (z ≠ 0 → g.A = [])) (fun g => [(12, g.v), (13, .int .i64 z)]) (fun _ => [(b10, .cells #[.string p.tx, .int .i64 p.off, .slice s4 p.l.length z4, .slice s5 p.m.length z5, .slice s6 p.r.length z6] 39 (0, 0)), (b8, .cells #[.string p.tx, .int .i64 p.off, .slice s1 p.l.length z1, .slice s2 p.m.length z2, .slice s3 p.r.length z3] 39 (0, 0)), (b7, .cells #[c.va, c.vt, c.vx, c.vr, c.vn, c.vh, c.vs] 34 (0, 0)), (b5, .cells #[.int .i64 k.at_, .int .i64 k.off, .string k.lb, .string k.nm, .bool k.fold, .bool k.back, .bool k.fall] 26 (0, 0)), (b4, .cells #[.int .i64 m.b, .int .i64 m.e, .slice al m.ls.length cl] 24 (0, 0))]) (fun g => g.H) ?_ fun K => ?_
  rotate_left
  · refine T.regionO [(b7, .cells #[c.va, c.vt, c.vx, c.vr, c.vn, c.vh, c.vs] 34 (0, 0)), (b5, .cells #[.int .i64 k.at_, .int .i64 k.off, .string k.lb, .string k.nm, .bool k.fold, .bool k.back, .bool k.fall] 26 (0, 0)), (b4, .cells #[.int .i64 m.b, .int .i64 m.e, .slice al m.ls.length cl] 24 (0, 0))] (by kernel_rfl) ?_
    refine TO.take 0 rfl (by kernel_rfl) (by kernel_rfl) (by kernel_rfl) (PV.loadAll rfl zq0 (by exact rfl)) Wanted.none rfl rfl ?_
    refine TO.take 2 rfl (by kernel_rfl) (by kernel_rfl) (by kernel_rfl) (PV.loadAll rfl zq0 (by exact rfl)) Wanted.none rfl rfl ?_
    refine TO.take 4 rfl (by kernel_rfl) (by kernel_rfl) (by kernel_rfl) (PV.loadAll rfl zq0 (by exact rfl)) Wanted.none rfl rfl ?_
    refine TO.ways [1, 3, 5] (by kernel_rfl) rfl zq4 zq17 ⟨⟨_, rfl, ?_⟩, ⟨_, rfl, ?_⟩, ⟨_, rfl, ?_⟩, trivial⟩
    · (refine T.call Wanted.none rfl rfl (labels_fn _) ?_; intro v49 H49 hle49 hv49; obtain ⟨ad49, cap49, rfl⟩ := hv49.len)
      refine so ?_
      refine TO.back ?_
      refine TO.both 3 5 rfl rfl (by kernel_rfl) zq4 zq17 ?_ ?_
      · (refine T.buildSlice Wanted.none rfl rfl zq11 (by exact rfl) (by exact rfl) ?_; intro b51)
        refine so ?_
        refine TO.back ?_
        refine TO.step 5 rfl (by kernel_rfl) zq4 zq17 ?_
        (refine T.buildSlice Wanted.none rfl rfl zq11 (by exact rfl) (by exact rfl) ?_; intro b53)
        refine so ?_
        refine TO.back ?_
        refine TO.step 6 rfl (by kernel_rfl) zq4 zq17 ?_
        (refine T.freezeB (b := b51) zq1 ?_; intro H8 l8 j1; refine T.freezeB (b := b53) zq1 ?_; intro H9 l9 j2; refine T.call Wanted.none rfl rfl (si H9 ((hle49.trans l8).trans l9) _ _ _ (hv49.mono (l8.trans l9)) (mt_one hmv (l9 _ _ j1) (hlb4.mono ((hle49.trans l8).trans l9))) (ky_one j2)) ?_; rintro _ H54 h54 ⟨_, A1, rfl, hA1, qa1, qb1⟩; obtain ⟨aa1, ca1, rfl⟩ := hA1.1.len; have h4f := ((hle49.trans l8).trans l9).trans h54)
        refine so ?_
        refine TO.back ?_
        refine TO.take 7 rfl (by kernel_rfl) (by kernel_rfl) (by kernel_rfl) (PV.move rfl) Wanted.none rfl rfl ?_
        refine TO.take 8 rfl (by kernel_rfl) (by kernel_rfl) (by kernel_rfl) (PV.extract rfl rfl) Wanted.none rfl rfl ?_
        refine TO.take 9 rfl (by kernel_rfl) (by kernel_rfl) (by kernel_rfl) (PV.extract rfl rfl) Wanted.none rfl rfl ?_
        refine TO.take 10 rfl (by kernel_rfl) (by kernel_rfl) (by kernel_rfl) (PV.assign rfl) Wanted.none rfl rfl ?_
        refine TO.take 11 rfl (by kernel_rfl) (by kernel_rfl) (by kernel_rfl) (PV.assign rfl) Wanted.none rfl rfl ?_
        refine TO.done (by kernel_rfl) zq4 zq17 ?_
        (exact K ⟨_, _, A1⟩ _ _ _ ⟨h4f, hA1, qa1, qb1⟩ zq8 (by repeat (first | exact Sel.refl _ | exact Sel.nil | (refine Sel.cons zq1 ?_) | (refine Sel.app zq1 ?_) | exact Sel.one zq1)) rfl)
      · (refine T.buildSlice Wanted.none rfl rfl zq11 (by exact rfl) (by exact rfl) ?_; intro b53)
        refine so ?_
        refine TO.back ?_
        refine TO.step 3 rfl (by kernel_rfl) zq4 zq17 ?_
        (refine T.buildSlice Wanted.none rfl rfl zq11 (by exact rfl) (by exact rfl) ?_; intro b51)
        refine so ?_
        refine TO.back ?_
        refine TO.step 6 rfl (by kernel_rfl) zq4 zq17 ?_
        (refine T.freezeB (b := b51) zq1 ?_; intro H8 l8 j1; refine T.freezeB (b := b53) zq1 ?_; intro H9 l9 j2; refine T.call Wanted.none rfl rfl (si H9 ((hle49.trans l8).trans l9) _ _ _ (hv49.mono (l8.trans l9)) (mt_one hmv (l9 _ _ j1) (hlb4.mono ((hle49.trans l8).trans l9))) (ky_one j2)) ?_; rintro _ H54 h54 ⟨_, A1, rfl, hA1, qa1, qb1⟩; obtain ⟨aa1, ca1, rfl⟩ := hA1.1.len; have h4f := ((hle49.trans l8).trans l9).trans h54)
        refine so ?_
        refine TO.back ?_
        refine TO.take 7 rfl (by kernel_rfl) (by kernel_rfl) (by kernel_rfl) (PV.move rfl) Wanted.none rfl rfl ?_
        refine TO.take 8 rfl (by kernel_rfl) (by kernel_rfl) (by kernel_rfl) (PV.extract rfl rfl) Wanted.none rfl rfl ?_
        refine TO.take 9 rfl (by kernel_rfl) (by kernel_rfl) (by kernel_rfl) (PV.extract rfl rfl) Wanted.none rfl rfl ?_
        refine TO.take 10 rfl (by kernel_rfl) (by kernel_rfl) (by kernel_rfl) (PV.assign rfl) Wanted.none rfl rfl ?_
        refine TO.take 11 rfl (by kernel_rfl) (by kernel_rfl) (by kernel_rfl) (PV.assign rfl) Wanted.none rfl rfl ?_
        refine TO.done (by kernel_rfl) zq4 zq17 ?_
        (exact K ⟨_, _, A1⟩ _ _ _ ⟨h4f, hA1, qa1, qb1⟩ zq8 (by repeat (first | exact Sel.refl _ | exact Sel.nil | (refine Sel.cons zq1 ?_) | (refine Sel.app zq1 ?_) | exact Sel.one zq1)) rfl)
    · (refine T.buildSlice Wanted.none rfl rfl zq11 (by exact rfl) (by exact rfl) ?_; intro b51)
      refine so ?_
      refine TO.back ?_
      refine TO.both 1 5 rfl rfl (by kernel_rfl) zq4 zq17 ?_ ?_
      · (refine T.call Wanted.none rfl rfl (labels_fn _) ?_; intro v49 H49 hle49 hv49; obtain ⟨ad49, cap49, rfl⟩ := hv49.len)
        refine so ?_
        refine TO.back ?_
        refine TO.step 5 rfl (by kernel_rfl) zq4 zq17 ?_
        (refine T.buildSlice Wanted.none rfl rfl zq11 (by exact rfl) (by exact rfl) ?_; intro b53)
        refine so ?_
        refine TO.back ?_
        refine TO.step 6 rfl (by kernel_rfl) zq4 zq17 ?_
        (refine T.freezeB (b := b51) zq1 ?_; intro H8 l8 j1; refine T.freezeB (b := b53) zq1 ?_; intro H9 l9 j2; refine T.call Wanted.none rfl rfl (si H9 ((hle49.trans l8).trans l9) _ _ _ (hv49.mono (l8.trans l9)) (mt_one hmv (l9 _ _ j1) (hlb4.mono ((hle49.trans l8).trans l9))) (ky_one j2)) ?_; rintro _ H54 h54 ⟨_, A1, rfl, hA1, qa1, qb1⟩; obtain ⟨aa1, ca1, rfl⟩ := hA1.1.len; have h4f := ((hle49.trans l8).trans l9).trans h54)
        refine so ?_
        refine TO.back ?_
        refine TO.take 7 rfl (by kernel_rfl) (by kernel_rfl) (by kernel_rfl) (PV.move rfl) Wanted.none rfl rfl ?_
        refine TO.take 8 rfl (by kernel_rfl) (by kernel_rfl) (by kernel_rfl) (PV.extract rfl rfl) Wanted.none rfl rfl ?_
        refine TO.take 9 rfl (by kernel_rfl) (by kernel_rfl) (by kernel_rfl) (PV.extract rfl rfl) Wanted.none rfl rfl ?_
        refine TO.take 10 rfl (by kernel_rfl) (by kernel_rfl) (by kernel_rfl) (PV.assign rfl) Wanted.none rfl rfl ?_
        refine TO.take 11 rfl (by kernel_rfl) (by kernel_rfl) (by kernel_rfl) (PV.assign rfl) Wanted.none rfl rfl ?_
        refine TO.done (by kernel_rfl) zq4 zq17 ?_
        (exact K ⟨_, _, A1⟩ _ _ _ ⟨h4f, hA1, qa1, qb1⟩ zq8 (by repeat (first | exact Sel.refl _ | exact Sel.nil | (refine Sel.cons zq1 ?_) | (refine Sel.app zq1 ?_) | exact Sel.one zq1)) rfl)
      · (refine T.buildSlice Wanted.none rfl rfl zq11 (by exact rfl) (by exact rfl) ?_; intro b53)
        refine so ?_
        refine TO.back ?_
        refine TO.step 1 rfl (by kernel_rfl) zq4 zq17 ?_
        (refine T.call Wanted.none rfl rfl (labels_fn _) ?_; intro v49 H49 hle49 hv49; obtain ⟨ad49, cap49, rfl⟩ := hv49.len)
        refine so ?_
        refine TO.back ?_
        refine TO.step 6 rfl (by kernel_rfl) zq4 zq17 ?_
        (refine T.freezeB (b := b51) zq1 ?_; intro H8 l8 j1; refine T.freezeB (b := b53) zq1 ?_; intro H9 l9 j2; refine T.call Wanted.none rfl rfl (si H9 ((hle49.trans l8).trans l9) _ _ _ (hv49.mono (l8.trans l9)) (mt_one hmv (l9 _ _ j1) (hlb4.mono ((hle49.trans l8).trans l9))) (ky_one j2)) ?_; rintro _ H54 h54 ⟨_, A1, rfl, hA1, qa1, qb1⟩; obtain ⟨aa1, ca1, rfl⟩ := hA1.1.len; have h4f := ((hle49.trans l8).trans l9).trans h54)
        refine so ?_
        refine TO.back ?_
        refine TO.take 7 rfl (by kernel_rfl) (by kernel_rfl) (by kernel_rfl) (PV.move rfl) Wanted.none rfl rfl ?_
        refine TO.take 8 rfl (by kernel_rfl) (by kernel_rfl) (by kernel_rfl) (PV.extract rfl rfl) Wanted.none rfl rfl ?_
        refine TO.take 9 rfl (by kernel_rfl) (by kernel_rfl) (by kernel_rfl) (PV.extract rfl rfl) Wanted.none rfl rfl ?_
        refine TO.take 10 rfl (by kernel_rfl) (by kernel_rfl) (by kernel_rfl) (PV.assign rfl) Wanted.none rfl rfl ?_
        refine TO.take 11 rfl (by kernel_rfl) (by kernel_rfl) (by kernel_rfl) (PV.assign rfl) Wanted.none rfl rfl ?_
        refine TO.done (by kernel_rfl) zq4 zq17 ?_
        (exact K ⟨_, _, A1⟩ _ _ _ ⟨h4f, hA1, qa1, qb1⟩ zq8 (by repeat (first | exact Sel.refl _ | exact Sel.nil | (refine Sel.cons zq1 ?_) | (refine Sel.app zq1 ?_) | exact Sel.one zq1)) rfl)
    · (refine T.buildSlice Wanted.none rfl rfl zq11 (by exact rfl) (by exact rfl) ?_; intro b53)
      refine so ?_
      refine TO.back ?_
      refine TO.both 1 3 rfl rfl (by kernel_rfl) zq4 zq17 ?_ ?_
      · (refine T.call Wanted.none rfl rfl (labels_fn _) ?_; intro v49 H49 hle49 hv49; obtain ⟨ad49, cap49, rfl⟩ := hv49.len)
        refine so ?_
        refine TO.back ?_
        refine TO.step 3 rfl (by kernel_rfl) zq4 zq17 ?_
        (refine T.buildSlice Wanted.none rfl rfl zq11 (by exact rfl) (by exact rfl) ?_; intro b51)
        refine so ?_
        refine TO.back ?_
        refine TO.step 6 rfl (by kernel_rfl) zq4 zq17 ?_
        (refine T.freezeB (b := b51) zq1 ?_; intro H8 l8 j1; refine T.freezeB (b := b53) zq1 ?_; intro H9 l9 j2; refine T.call Wanted.none rfl rfl (si H9 ((hle49.trans l8).trans l9) _ _ _ (hv49.mono (l8.trans l9)) (mt_one hmv (l9 _ _ j1) (hlb4.mono ((hle49.trans l8).trans l9))) (ky_one j2)) ?_; rintro _ H54 h54 ⟨_, A1, rfl, hA1, qa1, qb1⟩; obtain ⟨aa1, ca1, rfl⟩ := hA1.1.len; have h4f := ((hle49.trans l8).trans l9).trans h54)
        refine so ?_
        refine TO.back ?_
        refine TO.take 7 rfl (by kernel_rfl) (by kernel_rfl) (by kernel_rfl) (PV.move rfl) Wanted.none rfl rfl ?_
        refine TO.take 8 rfl (by kernel_rfl) (by kernel_rfl) (by kernel_rfl) (PV.extract rfl rfl) Wanted.none rfl rfl ?_
        refine TO.take 9 rfl (by kernel_rfl) (by kernel_rfl) (by kernel_rfl) (PV.extract rfl rfl) Wanted.none rfl rfl ?_
        refine TO.take 10 rfl (by kernel_rfl) (by kernel_rfl) (by kernel_rfl) (PV.assign rfl) Wanted.none rfl rfl ?_
        refine TO.take 11 rfl (by kernel_rfl) (by kernel_rfl) (by kernel_rfl) (PV.assign rfl) Wanted.none rfl rfl ?_
        refine TO.done (by kernel_rfl) zq4 zq17 ?_
        (exact K ⟨_, _, A1⟩ _ _ _ ⟨h4f, hA1, qa1, qb1⟩ zq8 (by repeat (first | exact Sel.refl _ | exact Sel.nil | (refine Sel.cons zq1 ?_) | (refine Sel.app zq1 ?_) | exact Sel.one zq1)) rfl)
      · (refine T.buildSlice Wanted.none rfl rfl zq11 (by exact rfl) (by exact rfl) ?_; intro b51)
        refine so ?_
        refine TO.back ?_
        refine TO.step 1 rfl (by kernel_rfl) zq4 zq17 ?_
        (refine T.call Wanted.none rfl rfl (labels_fn _) ?_; intro v49 H49 hle49 hv49; obtain ⟨ad49, cap49, rfl⟩ := hv49.len)
        refine so ?_
        refine TO.back ?_
        refine TO.step 6 rfl (by kernel_rfl) zq4 zq17 ?_
        (refine T.freezeB (b := b51) zq1 ?_; intro H8 l8 j1; refine T.freezeB (b := b53) zq1 ?_; intro H9 l9 j2; refine T.call Wanted.none rfl rfl (si H9 ((hle49.trans l8).trans l9) _ _ _ (hv49.mono (l8.trans l9)) (mt_one hmv (l9 _ _ j1) (hlb4.mono ((hle49.trans l8).trans l9))) (ky_one j2)) ?_; rintro _ H54 h54 ⟨_, A1, rfl, hA1, qa1, qb1⟩; obtain ⟨aa1, ca1, rfl⟩ := hA1.1.len; have h4f := ((hle49.trans l8).trans l9).trans h54)
        refine so ?_
        refine TO.back ?_
        refine TO.take 7 rfl (by kernel_rfl) (by kernel_rfl) (by kernel_rfl) (PV.move rfl) Wanted.none rfl rfl ?_
        refine TO.take 8 rfl (by kernel_rfl) (by kernel_rfl) (by kernel_rfl) (PV.extract rfl rfl) Wanted.none rfl rfl ?_
        refine TO.take 9 rfl (by kernel_rfl) (by kernel_rfl) (by kernel_rfl) (PV.extract rfl rfl) Wanted.none rfl rfl ?_
        refine TO.take 10 rfl (by kernel_rfl) (by kernel_rfl) (by kernel_rfl) (PV.assign rfl) Wanted.none rfl rfl ?_
        refine TO.take 11 rfl (by kernel_rfl) (by kernel_rfl) (by kernel_rfl) (PV.assign rfl) Wanted.none rfl rfl ?_
        refine TO.done (by kernel_rfl) zq4 zq17 ?_
        (exact K ⟨_, _, A1⟩ _ _ _ ⟨h4f, hA1, qa1, qb1⟩ zq8 (by repeat (first | exact Sel.refl _ | exact Sel.nil | (refine Sel.cons zq1 ?_) | (refine Sel.app zq1 ?_) | exact Sel.one zq1)) rfl)
  rintro ⟨H7, vA, A1⟩ ⟨h7, hA1, qa1, qb1⟩
  dsimp only at h7 hA1 qa1 qb1 ⊢
  obtain ⟨aa1, ca1, rfl⟩ := hA1.1.len
  (repeat refine sq ?_)
  refine T.cutHr (γ := RwG) [(12, Value.slice aa1 A1.length ca1), (13, Value.int IntKind.i64 z), (11, Value.int IntKind.i64 p2), (10, Value.pointer (some { block := b10, off := 0 })), (9, Value.int IntKind.i64 p2), (8, Value.pointer (some { block := b8, off := 0 })), (7, Value.pointer (some { block := b7, off := 0 })), (5, Value.pointer (some { block := b5, off := 0 })), (4, Value.pointer (some { block := b4, off := 0 }))] (fun g => H7.le g.H ∧ MtL g.H g.v g.A ∧ (z = 0 → g.A = sortM c [bs [120]] [k] [m]) ∧ (z ≠ 0 → g.A = [])) (fun g => [(14, g.v), (15, .int .i64 z)]) (fun _ => [(b10, .cells #[.string p.tx, .int .i64 p.off, .slice s4 p.l.length z4, .slice s5 p.m.length z5, .slice s6 p.r.length z6] 39 (0, 0)), (b8, .cells #[.string p.tx, .int .i64 p.off, .slice s1 p.l.length z1, .slice s2 p.m.length z2, .slice s3 p.r.length z3] 39 (0, 0)), (b7, .cells #[c.va, c.vt, c.vx, c.vr, c.vn, c.vh, c.vs] 34 (0, 0)), (b5, .cells #[.int .i64 k.at_, .int .i64 k.off, .string k.lb, .string k.nm, .bool k.fold, .bool k.back, .bool k.fall] 26 (0, 0)), (b4, .cells #[.int .i64 m.b, .int .i64 m.e, .slice al m.ls.length cl] 24 (0, 0))]) (fun g => g.H) ?_ fun K => ?_
  rotate_left
  · refine T.regionO [(b7, .cells #[c.va, c.vt, c.vx, c.vr, c.vn, c.vh, c.vs] 34 (0, 0)), (b5, .cells #[.int .i64 k.at_, .int .i64 k.off, .string k.lb, .string k.nm, .bool k.fold, .bool k.back, .bool k.fall] 26 (0, 0)), (b4, .cells #[.int .i64 m.b, .int .i64 m.e, .slice al m.ls.length cl] 24 (0, 0))] (by kernel_rfl) ?_
    refine TO.take 0 rfl (by kernel_rfl) (by kernel_rfl) (by kernel_rfl) (PV.loadAll rfl zq0 (by exact rfl)) Wanted.none rfl rfl ?_
    refine TO.take 2 rfl (by kernel_rfl) (by kernel_rfl) (by kernel_rfl) (PV.loadAll rfl zq0 (by exact rfl)) Wanted.none rfl rfl ?_
    refine TO.take 4 rfl (by kernel_rfl) (by kernel_rfl) (by kernel_rfl) (PV.loadAll rfl zq0 (by exact rfl)) Wanted.none rfl rfl ?_
    refine TO.ways [1, 3, 5] (by kernel_rfl) rfl zq4 zq17 ⟨⟨_, rfl, ?_⟩, ⟨_, rfl, ?_⟩, ⟨_, rfl, ?_⟩, trivial⟩
    · (refine T.call Wanted.none rfl rfl (labels_fn _) ?_; intro v59 H59 hle59 hv59; obtain ⟨ad59, cap59, rfl⟩ := hv59.len)
      refine so ?_
      refine TO.back ?_
      refine TO.both 3 5 rfl rfl (by kernel_rfl) zq4 zq17 ?_ ?_
      · (refine T.buildSlice Wanted.none rfl rfl zq11 (by exact rfl) (by exact rfl) ?_; intro b61)
        refine so ?_
        refine TO.back ?_
        refine TO.step 5 rfl (by kernel_rfl) zq4 zq17 ?_
        (refine T.buildSlice Wanted.none rfl rfl zq11 (by exact rfl) (by exact rfl) ?_; intro b63)
        refine so ?_
        refine TO.back ?_
        refine TO.step 6 rfl (by kernel_rfl) zq4 zq17 ?_
        (refine T.freezeB (b := b61) zq1 ?_; intro H8 l8 j1; refine T.freezeB (b := b63) zq1 ?_; intro H9 l9 j2; refine T.call Wanted.none rfl rfl (sr H9 (h7.trans ((hle59.trans l8).trans l9)) _ _ _ (hv59.mono (l8.trans l9)) (mt_one hmv (l9 _ _ j1) (hlb4.mono (h7.trans ((hle59.trans l8).trans l9)))) (ky_one j2)) ?_; rintro _ H64 h64 ⟨_, A2, rfl, hA2, qa2, qb2⟩; obtain ⟨aa2, ca2, rfl⟩ := hA2.1.len; have h7f := ((hle59.trans l8).trans l9).trans h64)
        refine so ?_
        refine TO.back ?_
        refine TO.take 7 rfl (by kernel_rfl) (by kernel_rfl) (by kernel_rfl) (PV.move rfl) Wanted.none rfl rfl ?_
        refine TO.take 8 rfl (by kernel_rfl) (by kernel_rfl) (by kernel_rfl) (PV.extract rfl rfl) Wanted.none rfl rfl ?_
        refine TO.take 9 rfl (by kernel_rfl) (by kernel_rfl) (by kernel_rfl) (PV.extract rfl rfl) Wanted.none rfl rfl ?_
        refine TO.take 10 rfl (by kernel_rfl) (by kernel_rfl) (by kernel_rfl) (PV.assign rfl) Wanted.none rfl rfl ?_
        refine TO.take 11 rfl (by kernel_rfl) (by kernel_rfl) (by kernel_rfl) (PV.assign rfl) Wanted.none rfl rfl ?_
        refine TO.done (by kernel_rfl) zq4 zq17 ?_
        (exact K ⟨_, _, A2⟩ _ _ _ ⟨h7f, hA2, qa2, qb2⟩ zq8 (by repeat (first | exact Sel.refl _ | exact Sel.nil | (refine Sel.cons zq1 ?_) | (refine Sel.app zq1 ?_) | exact Sel.one zq1)) rfl)
      · (refine T.buildSlice Wanted.none rfl rfl zq11 (by exact rfl) (by exact rfl) ?_; intro b63)
        refine so ?_
        refine TO.back ?_
        refine TO.step 3 rfl (by kernel_rfl) zq4 zq17 ?_
        (refine T.buildSlice Wanted.none rfl rfl zq11 (by exact rfl) (by exact rfl) ?_; intro b61)
        refine so ?_
        refine TO.back ?_
        refine TO.step 6 rfl (by kernel_rfl) zq4 zq17 ?_
        (refine T.freezeB (b := b61) zq1 ?_; intro H8 l8 j1; refine T.freezeB (b := b63) zq1 ?_; intro H9 l9 j2; refine T.call Wanted.none rfl rfl (sr H9 (h7.trans ((hle59.trans l8).trans l9)) _ _ _ (hv59.mono (l8.trans l9)) (mt_one hmv (l9 _ _ j1) (hlb4.mono (h7.trans ((hle59.trans l8).trans l9)))) (ky_one j2)) ?_; rintro _ H64 h64 ⟨_, A2, rfl, hA2, qa2, qb2⟩; obtain ⟨aa2, ca2, rfl⟩ := hA2.1.len; have h7f := ((hle59.trans l8).trans l9).trans h64)
        refine so ?_
        refine TO.back ?_
        refine TO.take 7 rfl (by kernel_rfl) (by kernel_rfl) (by kernel_rfl) (PV.move rfl) Wanted.none rfl rfl ?_
        refine TO.take 8 rfl (by kernel_rfl) (by kernel_rfl) (by kernel_rfl) (PV.extract rfl rfl) Wanted.none rfl rfl ?_
        refine TO.take 9 rfl (by kernel_rfl) (by kernel_rfl) (by kernel_rfl) (PV.extract rfl rfl) Wanted.none rfl rfl ?_
        refine TO.take 10 rfl (by kernel_rfl) (by kernel_rfl) (by kernel_rfl) (PV.assign rfl) Wanted.none rfl rfl ?_
        refine TO.take 11 rfl (by kernel_rfl) (by kernel_rfl) (by kernel_rfl) (PV.assign rfl) Wanted.none rfl rfl ?_
        refine TO.done (by kernel_rfl) zq4 zq17 ?_
        (exact K ⟨_, _, A2⟩ _ _ _ ⟨h7f, hA2, qa2, qb2⟩ zq8 (by repeat (first | exact Sel.refl _ | exact Sel.nil | (refine Sel.cons zq1 ?_) | (refine Sel.app zq1 ?_) | exact Sel.one zq1)) rfl)
    · (refine T.buildSlice Wanted.none rfl rfl zq11 (by exact rfl) (by exact rfl) ?_; intro b61)
      refine so ?_
      refine TO.back ?_
      refine TO.both 1 5 rfl rfl (by kernel_rfl) zq4 zq17 ?_ ?_
      · (refine T.call Wanted.none rfl rfl (labels_fn _) ?_; intro v59 H59 hle59 hv59; obtain ⟨ad59, cap59, rfl⟩ := hv59.len)
        refine so ?_
        refine TO.back ?_
        refine TO.step 5 rfl (by kernel_rfl) zq4 zq17 ?_
        (refine T.buildSlice Wanted.none rfl rfl zq11 (by exact rfl) (by exact rfl) ?_; intro b63)
        refine so ?_
        refine TO.back ?_
        refine TO.step 6 rfl (by kernel_rfl) zq4 zq17 ?_
        (refine T.freezeB (b := b61) zq1 ?_; intro H8 l8 j1; refine T.freezeB (b := b63) zq1 ?_; intro H9 l9 j2; refine T.call Wanted.none rfl rfl (sr H9 (h7.trans ((hle59.trans l8).trans l9)) _ _ _ (hv59.mono (l8.trans l9)) (mt_one hmv (l9 _ _ j1) (hlb4.mono (h7.trans ((hle59.trans l8).trans l9)))) (ky_one j2)) ?_; rintro _ H64 h64 ⟨_, A2, rfl, hA2, qa2, qb2⟩; obtain ⟨aa2, ca2, rfl⟩ := hA2.1.len; have h7f := ((hle59.trans l8).trans l9).trans h64)
        refine so ?_
        refine TO.back ?_
        refine TO.take 7 rfl (by kernel_rfl) (by kernel_rfl) (by kernel_rfl) (PV.move rfl) Wanted.none rfl rfl ?_
        refine TO.take 8 rfl (by kernel_rfl) (by kernel_rfl) (by kernel_rfl) (PV.extract rfl rfl) Wanted.none rfl rfl ?_
        refine TO.take 9 rfl (by kernel_rfl) (by kernel_rfl) (by kernel_rfl) (PV.extract rfl rfl) Wanted.none rfl rfl ?_
        refine TO.take 10 rfl (by kernel_rfl) (by kernel_rfl) (by kernel_rfl) (PV.assign rfl) Wanted.none rfl rfl ?_
        refine TO.take 11 rfl (by kernel_rfl) (by kernel_rfl) (by kernel_rfl) (PV.assign rfl) Wanted.none rfl rfl ?_
        refine TO.done (by kernel_rfl) zq4 zq17 ?_
        (exact K ⟨_, _, A2⟩ _ _ _ ⟨h7f, hA2, qa2, qb2⟩ zq8 (by repeat (first | exact Sel.refl _ | exact Sel.nil | (refine Sel.cons zq1 ?_) | (refine Sel.app zq1 ?_) | exact Sel.one zq1)) rfl)
      · (refine T.buildSlice Wanted.none rfl rfl zq11 (by exact rfl) (by exact rfl) ?_; intro b63)
        refine so ?_
        refine TO.back ?_
        refine TO.step 1 rfl (by kernel_rfl) zq4 zq17 ?_
        (refine T.call Wanted.none rfl rfl (labels_fn _) ?_; intro v59 H59 hle59 hv59; obtain ⟨ad59, cap59, rfl⟩ := hv59.len)
        refine so ?_
        refine TO.back ?_
        refine TO.step 6 rfl (by kernel_rfl) zq4 zq17 ?_
        (refine T.freezeB (b := b61) zq1 ?_; intro H8 l8 j1; refine T.freezeB (b := b63) zq1 ?_; intro H9 l9 j2; refine T.call Wanted.none rfl rfl (sr H9 (h7.trans ((hle59.trans l8).trans l9)) _ _ _ (hv59.mono (l8.trans l9)) (mt_one hmv (l9 _ _ j1) (hlb4.mono (h7.trans ((hle59.trans l8).trans l9)))) (ky_one j2)) ?_; rintro _ H64 h64 ⟨_, A2, rfl, hA2, qa2, qb2⟩; obtain ⟨aa2, ca2, rfl⟩ := hA2.1.len; have h7f := ((hle59.trans l8).trans l9).trans h64)
        refine so ?_
        refine TO.back ?_
        refine TO.take 7 rfl (by kernel_rfl) (by kernel_rfl) (by kernel_rfl) (PV.move rfl) Wanted.none rfl rfl ?_
        refine TO.take 8 rfl (by kernel_rfl) (by kernel_rfl) (by kernel_rfl) (PV.extract rfl rfl) Wanted.none rfl rfl ?_
        refine TO.take 9 rfl (by kernel_rfl) (by kernel_rfl) (by kernel_rfl) (PV.extract rfl rfl) Wanted.none rfl rfl ?_
        refine TO.take 10 rfl (by kernel_rfl) (by kernel_rfl) (by kernel_rfl) (PV.assign rfl) Wanted.none rfl rfl ?_
        refine TO.take 11 rfl (by kernel_rfl) (by kernel_rfl) (by kernel_rfl) (PV.assign rfl) Wanted.none rfl rfl ?_
        refine TO.done (by kernel_rfl) zq4 zq17 ?_
        (exact K ⟨_, _, A2⟩ _ _ _ ⟨h7f, hA2, qa2, qb2⟩ zq8 (by repeat (first | exact Sel.refl _ | exact Sel.nil | (refine Sel.cons zq1 ?_) | (refine Sel.app zq1 ?_) | exact Sel.one zq1)) rfl)
    · (refine T.buildSlice Wanted.none rfl rfl zq11 (by exact rfl) (by exact rfl) ?_; intro b63)
      refine so ?_
      refine TO.back ?_
      refine TO.both 1 3 rfl rfl (by kernel_rfl) zq4 zq17 ?_ ?_
      · (refine T.call Wanted.none rfl rfl (labels_fn _) ?_; intro v59 H59 hle59 hv59; obtain ⟨ad59, cap59, rfl⟩ := hv59.len)
        refine so ?_
        refine TO.back ?_
        refine TO.step 3 rfl (by kernel_rfl) zq4 zq17 ?_
        (refine T.buildSlice Wanted.none rfl rfl zq11 (by exact rfl) (by exact rfl) ?_; intro b61)
        refine so ?_
        refine TO.back ?_
        refine TO.step 6 rfl (by kernel_rfl) zq4 zq17 ?_
        (refine T.freezeB (b := b61) zq1 ?_; intro H8 l8 j1; refine T.freezeB (b := b63) zq1 ?_; intro H9 l9 j2; refine T.call Wanted.none rfl rfl (sr H9 (h7.trans ((hle59.trans l8).trans l9)) _ _ _ (hv59.mono (l8.trans l9)) (mt_one hmv (l9 _ _ j1) (hlb4.mono (h7.trans ((hle59.trans l8).trans l9)))) (ky_one j2)) ?_; rintro _ H64 h64 ⟨_, A2, rfl, hA2, qa2, qb2⟩; obtain ⟨aa2, ca2, rfl⟩ := hA2.1.len; have h7f := ((hle59.trans l8).trans l9).trans h64)
        refine so ?_
        refine TO.back ?_
        refine TO.take 7 rfl (by kernel_rfl) (by kernel_rfl) (by kernel_rfl) (PV.move rfl) Wanted.none rfl rfl ?_
        refine TO.take 8 rfl (by kernel_rfl) (by kernel_rfl) (by kernel_rfl) (PV.extract rfl rfl) Wanted.none rfl rfl ?_
        refine TO.take 9 rfl (by kernel_rfl) (by kernel_rfl) (by kernel_rfl) (PV.extract rfl rfl) Wanted.none rfl rfl ?_
        refine TO.take 10 rfl (by kernel_rfl) (by kernel_rfl) (by kernel_rfl) (PV.assign rfl) Wanted.none rfl rfl ?_
        refine TO.take 11 rfl (by kernel_rfl) (by kernel_rfl) (by kernel_rfl) (PV.assign rfl) Wanted.none rfl rfl ?_
        refine TO.done (by kernel_rfl) zq4 zq17 ?_
        (exact K ⟨_, _, A2⟩ _ _ _ ⟨h7f, hA2, qa2, qb2⟩ zq8 (by repeat (first | exact Sel.refl _ | exact Sel.nil | (refine Sel.cons zq1 ?_) | (refine Sel.app zq1 ?_) | exact Sel.one zq1)) rfl)
      · (refine T.buildSlice Wanted.none rfl rfl zq11 (by exact rfl) (by exact rfl) ?_; intro b61)
        refine so ?_
        refine TO.back ?_
        refine TO.step 1 rfl (by kernel_rfl) zq4 zq17 ?_
        (refine T.call Wanted.none rfl rfl (labels_fn _) ?_; intro v59 H59 hle59 hv59; obtain ⟨ad59, cap59, rfl⟩ := hv59.len)
        refine so ?_
        refine TO.back ?_
        refine TO.step 6 rfl (by kernel_rfl) zq4 zq17 ?_
        (refine T.freezeB (b := b61) zq1 ?_; intro H8 l8 j1; refine T.freezeB (b := b63) zq1 ?_; intro H9 l9 j2; refine T.call Wanted.none rfl rfl (sr H9 (h7.trans ((hle59.trans l8).trans l9)) _ _ _ (hv59.mono (l8.trans l9)) (mt_one hmv (l9 _ _ j1) (hlb4.mono (h7.trans ((hle59.trans l8).trans l9)))) (ky_one j2)) ?_; rintro _ H64 h64 ⟨_, A2, rfl, hA2, qa2, qb2⟩; obtain ⟨aa2, ca2, rfl⟩ := hA2.1.len; have h7f := ((hle59.trans l8).trans l9).trans h64)
        refine so ?_
        refine TO.back ?_
        refine TO.take 7 rfl (by kernel_rfl) (by kernel_rfl) (by kernel_rfl) (PV.move rfl) Wanted.none rfl rfl ?_
        refine TO.take 8 rfl (by kernel_rfl) (by kernel_rfl) (by kernel_rfl) (PV.extract rfl rfl) Wanted.none rfl rfl ?_
        refine TO.take 9 rfl (by kernel_rfl) (by kernel_rfl) (by kernel_rfl) (PV.extract rfl rfl) Wanted.none rfl rfl ?_
        refine TO.take 10 rfl (by kernel_rfl) (by kernel_rfl) (by kernel_rfl) (PV.assign rfl) Wanted.none rfl rfl ?_
        refine TO.take 11 rfl (by kernel_rfl) (by kernel_rfl) (by kernel_rfl) (PV.assign rfl) Wanted.none rfl rfl ?_
        refine TO.done (by kernel_rfl) zq4 zq17 ?_
        (exact K ⟨_, _, A2⟩ _ _ _ ⟨h7f, hA2, qa2, qb2⟩ zq8 (by repeat (first | exact Sel.refl _ | exact Sel.nil | (refine Sel.cons zq1 ?_) | (refine Sel.app zq1 ?_) | exact Sel.one zq1)) rfl)
  rintro ⟨H9, vB, A2⟩ ⟨h9, hA2, qa2, qb2⟩
  dsimp only at h9 hA2 qa2 qb2 ⊢
  obtain ⟨aa2, ca2, rfl⟩ := hA2.1.len
  have h49 := h7.trans h9
  have e12 : A1.map keyM = A2.map keyM := by
    by_cases h0 : z = 0
    · exact key_of_mk3 (by rw [qa1 h0, qa2 h0])
    · rw [qb1 h0, qb2 h0]
  have l1 : A1.length ≤ 1000000 := by
    by_cases h0 : z = 0
    · have h1 := congrArg List.length (qa1 h0)
      rw [List.length_map, List.length_map, sortM, sortK_length, List.length_singleton] at h1
      omega
    · rw [qb1 h0]; simp
  have hc9 := hc4.mono h49
  have hlb9 := hlb4.mono h49
  have vi := fun H' (h : H9.le H') (vl : Value) (hl : StL H' vl [bs [120]]) => value_in c [bs [120]] vl m k H' (hc9.mono h) hw hl (hlb9.mono h) hls
  have vr := fun H' (h : H9.le H') (vl : Value) (hl : StL H' vl [bs [120]]) => value_ref c [bs [120]] vl m k H' (hc9.mono h) hw hl (hlb9.mono h) hls
  have hi := fun H' (h : H9.le H') => hash_fn c m k.off H' (hc9.mono h) hw (hlb9.mono h) hls ((hT4.mono h49).mono h) hk hnm
  have hr := fun H' (h : H9.le H') => hash_ref c m k.off H' (hc9.mono h) hw (hlb9.mono h) hls hk hnm
  generalize hashO c m k.off = hh at hi hr
  unfold cpV mtV kyV at vi vr
  unfold cpV mtV at hi hr
  simp only [hmv] at vi vr hi hr
  have sm := fun H' (h : H9.le H') => same24_fn A1 A2 (.slice aa1 A1.length ca1) (.slice aa2 A2.length ca2) H' ((hA1.mono h9).mono h) (hA2.mono h) l1
  simp only [decide_eq_true e12] at sm
  have d1 : decide (p2 = p2) = true := by simp
  have d2 : decide (hh = hh) = true := by simp
  have d3 : decide (z = z) = true := by simp
  have d4 : decide (valO c [bs [120]] m k = valO c [bs [120]] m k) = true := by simp
  (repeat refine sq ?_)
  refine T.regionO [(b10, .cells #[.string p.tx, .int .i64 p.off, .slice s4 p.l.length z4, .slice s5 p.m.length z5, .slice s6 p.r.length z6] 39 (0, 0)), (b8, .cells #[.string p.tx, .int .i64 p.off, .slice s1 p.l.length z1, .slice s2 p.m.length z2, .slice s3 p.r.length z3] 39 (0, 0)), (b7, .cells #[c.va, c.vt, c.vx, c.vr, c.vn, c.vh, c.vs] 34 (0, 0)), (b5, .cells #[.int .i64 k.at_, .int .i64 k.off, .string k.lb, .string k.nm, .bool k.fold, .bool k.back, .bool k.fall] 26 (0, 0)), (b4, .cells #[.int .i64 m.b, .int .i64 m.e, .slice al m.ls.length cl] 24 (0, 0))] (by kernel_rfl) ?_
  refine TO.take 0 rfl (by kernel_rfl) (by kernel_rfl) (by kernel_rfl) (PV.move rfl) Wanted.none rfl rfl ?_
  refine TO.take 1 rfl (by kernel_rfl) (by kernel_rfl) (by kernel_rfl) (PV.move rfl) Wanted.none rfl rfl ?_
  refine TO.take 2 rfl (by kernel_rfl) (by kernel_rfl) (by kernel_rfl) (PV.eql rfl rfl) Wanted.none rfl rfl ?_
  refine TO.take 3 rfl (by kernel_rfl) (by kernel_rfl) (by kernel_rfl) (PV.move rfl) Wanted.none rfl rfl ?_
  refine TO.take 4 rfl (by kernel_rfl) (by kernel_rfl) (by kernel_rfl) (PV.loadAll rfl zq0 (by exact rfl)) (Wanted.guard rfl rfl (by assumption)) rfl rfl ?_
  refine TO.take 5 rfl (by kernel_rfl) (by kernel_rfl) (by kernel_rfl) (PV.loadAll rfl zq0 (by exact rfl)) (Wanted.guard rfl rfl (by assumption)) rfl rfl ?_
  refine TO.step 6 rfl (by kernel_rfl) zq4 zq17 ?_
  (refine T.callX (Wanted.guard rfl rfl (by assumption)) rfl rfl (same34 p _ _ _ ⟨_, _, _, rfl, e1.mono (h44.trans h49), e2.mono (h44.trans h49), e3.mono (h44.trans h49)⟩ ⟨_, _, _, rfl, e4.mono h49, e5.mono h49, e6.mono h49⟩ b1) ?_; rintro _ rfl)
  refine so ?_
  refine TO.back ?_
  refine TO.take 7 rfl (by kernel_rfl) (by kernel_rfl) (by kernel_rfl) (PV.pickT rfl (by assumption) rfl) Wanted.none rfl rfl ?_
  refine TO.take 8 rfl (by kernel_rfl) (by kernel_rfl) (by kernel_rfl) (PV.move rfl) Wanted.none rfl rfl ?_
  refine TO.take 9 rfl (by kernel_rfl) (by kernel_rfl) (by kernel_rfl) (PV.loadAll rfl zq0 (by exact rfl)) (Wanted.guard rfl rfl rfl) rfl rfl ?_
  refine TO.take 11 rfl (by kernel_rfl) (by kernel_rfl) (by kernel_rfl) (PV.loadAll rfl zq0 (by exact rfl)) (Wanted.guard rfl rfl rfl) rfl rfl ?_
  refine TO.take 12 rfl (by kernel_rfl) (by kernel_rfl) (by kernel_rfl) (PV.loadAll rfl zq0 (by exact rfl)) (Wanted.guard rfl rfl rfl) rfl rfl ?_
  refine TO.take 14 rfl (by kernel_rfl) (by kernel_rfl) (by kernel_rfl) (PV.loadAll rfl zq0 (by exact rfl)) (Wanted.guard rfl rfl rfl) rfl rfl ?_
  refine TO.take 16 rfl (by kernel_rfl) (by kernel_rfl) (by kernel_rfl) (PV.loadAll rfl zq0 (by exact rfl)) (Wanted.guard rfl rfl rfl) rfl rfl ?_
  refine TO.take 17 rfl (by kernel_rfl) (by kernel_rfl) (by kernel_rfl) (PV.loadAll rfl zq0 (by exact rfl)) (Wanted.guard rfl rfl rfl) rfl rfl ?_
  refine TO.step 10 rfl (by kernel_rfl) zq4 zq17 ?_
  (refine T.call (Wanted.guard rfl rfl rfl) rfl rfl (labels_fn _) ?_; intro v77 H77 hle77 hv77; obtain ⟨ad77, cap77, rfl⟩ := hv77.len)
  refine so ?_
  refine TO.back ?_
  refine TO.step 13 rfl (by kernel_rfl) zq4 zq17 ?_
  (refine T.callX (Wanted.guard rfl rfl rfl) rfl rfl (vi _ hle77 _ hv77) ?_; rintro _ rfl)
  refine so ?_
  refine TO.back ?_
  refine TO.step 15 rfl (by kernel_rfl) zq4 zq17 ?_
  (refine T.call (Wanted.guard rfl rfl rfl) rfl rfl (labels_fn _) ?_; intro v82 H82 hle82 hv82; obtain ⟨ad82, cap82, rfl⟩ := hv82.len)
  refine so ?_
  refine TO.back ?_
  refine TO.step 18 rfl (by kernel_rfl) zq4 zq17 ?_
  (refine T.callX (Wanted.guard rfl rfl rfl) rfl rfl (vr _ (hle77.trans hle82) _ hv82) ?_; rintro _ rfl)
  refine so ?_
  refine TO.back ?_
  refine TO.take 19 rfl (by kernel_rfl) (by kernel_rfl) (by kernel_rfl) (PV.seql rfl rfl) (Wanted.guard rfl rfl rfl) rfl rfl ?_
  refine TO.take 20 rfl (by kernel_rfl) (by kernel_rfl) (by kernel_rfl) (PV.pickT rfl rfl rfl) Wanted.none rfl rfl ?_
  refine TO.take 21 rfl (by kernel_rfl) (by kernel_rfl) (by kernel_rfl) (PV.move rfl) Wanted.none rfl rfl ?_
  refine TO.take 22 rfl (by kernel_rfl) (by kernel_rfl) (by kernel_rfl) (PV.loadAll rfl zq0 (by exact rfl)) (Wanted.guard rfl rfl (by assumption)) rfl rfl ?_
  refine TO.take 23 rfl (by kernel_rfl) (by kernel_rfl) (by kernel_rfl) (PV.loadAll rfl zq0 (by exact rfl)) (Wanted.guard rfl rfl (by assumption)) rfl rfl ?_
  refine TO.take 24 rfl (by kernel_rfl) (by kernel_rfl) (by kernel_rfl) (PV.fieldAddr rfl) (Wanted.guard rfl rfl (by assumption)) rfl rfl ?_
  refine TO.take 25 rfl (by kernel_rfl) (by kernel_rfl) (by kernel_rfl) (PV.load1 rfl zq0 rfl) (Wanted.guard rfl rfl (by assumption)) rfl rfl ?_
  refine TO.take 27 rfl (by kernel_rfl) (by kernel_rfl) (by kernel_rfl) (PV.loadAll rfl zq0 (by exact rfl)) (Wanted.guard rfl rfl (by assumption)) rfl rfl ?_
  refine TO.take 28 rfl (by kernel_rfl) (by kernel_rfl) (by kernel_rfl) (PV.loadAll rfl zq0 (by exact rfl)) (Wanted.guard rfl rfl (by assumption)) rfl rfl ?_
  refine TO.take 29 rfl (by kernel_rfl) (by kernel_rfl) (by kernel_rfl) (PV.fieldAddr rfl) (Wanted.guard rfl rfl (by assumption)) rfl rfl ?_
  refine TO.take 30 rfl (by kernel_rfl) (by kernel_rfl) (by kernel_rfl) (PV.load1 rfl zq0 rfl) (Wanted.guard rfl rfl (by assumption)) rfl rfl ?_
  refine TO.step 26 rfl (by kernel_rfl) zq4 zq17 ?_
  (refine T.callX (Wanted.guard rfl rfl (by assumption)) rfl rfl (hi _ (hle77.trans hle82)) ?_; rintro _ rfl)
  refine so ?_
  refine TO.back ?_
  refine TO.step 31 rfl (by kernel_rfl) zq4 zq17 ?_
  (refine T.callX (Wanted.guard rfl rfl (by assumption)) rfl rfl (hr _ (hle77.trans hle82)) ?_; rintro _ rfl)
  refine so ?_
  refine TO.back ?_
  refine TO.take 32 rfl (by kernel_rfl) (by kernel_rfl) (by kernel_rfl) (PV.eql rfl rfl) (Wanted.guard rfl rfl (by assumption)) rfl rfl ?_
  refine TO.take 33 rfl (by kernel_rfl) (by kernel_rfl) (by kernel_rfl) (PV.pickT rfl (by assumption) rfl) Wanted.none rfl rfl ?_
  refine TO.take 34 rfl (by kernel_rfl) (by kernel_rfl) (by kernel_rfl) (PV.move rfl) Wanted.none rfl rfl ?_
  refine TO.take 35 rfl (by kernel_rfl) (by kernel_rfl) (by kernel_rfl) (PV.move rfl) (Wanted.guard rfl rfl (by assumption)) rfl rfl ?_
  refine TO.take 36 rfl (by kernel_rfl) (by kernel_rfl) (by kernel_rfl) (PV.move rfl) (Wanted.guard rfl rfl (by assumption)) rfl rfl ?_
  refine TO.take 37 rfl (by kernel_rfl) (by kernel_rfl) (by kernel_rfl) (PV.eql rfl rfl) (Wanted.guard rfl rfl (by assumption)) rfl rfl ?_
  refine TO.take 38 rfl (by kernel_rfl) (by kernel_rfl) (by kernel_rfl) (PV.pickT rfl (by assumption) rfl) Wanted.none rfl rfl ?_
  refine TO.take 39 rfl (by kernel_rfl) (by kernel_rfl) (by kernel_rfl) (PV.move rfl) Wanted.none rfl rfl ?_
  refine TO.take 40 rfl (by kernel_rfl) (by kernel_rfl) (by kernel_rfl) (PV.move rfl) (Wanted.guard rfl rfl (by assumption)) rfl rfl ?_
  refine TO.take 41 rfl (by kernel_rfl) (by kernel_rfl) (by kernel_rfl) (PV.move rfl) (Wanted.guard rfl rfl (by assumption)) rfl rfl ?_
  refine TO.step 42 rfl (by kernel_rfl) zq4 zq17 ?_
  (refine T.callX (Wanted.guard rfl rfl (by assumption)) rfl rfl (sm _ (hle77.trans hle82)) ?_; rintro _ rfl)
  refine so ?_
  refine TO.back ?_
  refine TO.take 43 rfl (by kernel_rfl) (by kernel_rfl) (by kernel_rfl) (PV.pickT rfl (by assumption) rfl) Wanted.none rfl rfl ?_
  refine TO.take 44 rfl (by kernel_rfl) (by kernel_rfl) (by kernel_rfl) (PV.move rfl) Wanted.none rfl rfl ?_
  refine TO.step 45 rfl (by kernel_rfl) zq4 zq17 ?_
  (refine T.callX (Wanted.guard rfl rfl rfl) rfl rfl (known_fn _) ?_; rintro _ rfl)
  refine so ?_
  refine TO.back ?_
  refine TO.take 46 rfl (by kernel_rfl) (by kernel_rfl) (by kernel_rfl) (PV.pickT rfl rfl rfl) Wanted.none rfl rfl ?_
  refine TO.take 47 rfl (by kernel_rfl) (by kernel_rfl) (by kernel_rfl) (PV.assign rfl) Wanted.none rfl rfl ?_
  refine TO.done (by kernel_rfl) zq4 zq17 ?_
  exact T.retF (Lv.fin (RV.tmp rfl rfl) rfl)
end Go.Proofs.YtlklcjpmfjmenaaGreatDoor
