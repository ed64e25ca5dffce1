/- lines: the reference's Sort. -/
import Derived.Test.YtlklcjpmfjmenaaGreatDoorGC
namespace Go.Proofs.YtlklcjpmfjmenaaGreatDoor
open Go.RowKit

theorem knownL_fn (l : List ByteArray) (s : ByteArray) (v : Value) (H : Hp) (hv : StL H v l) (hl : l.length ≤ 1000) : Fn Tryz.prog 41 #[v, .string s] H (fun u _ => u = .bool (l.any fun x => decide (x = s))) := by
  obtain ⟨ad, cap, rfl⟩ := hv.len
  refine Fn.of_T (vs := [.slice ad l.length cap, .string s]) Tryz.func41 rfl rfl fun w => ?_
  refine sq ?_
  refine sr ?_
  refine sa ?_
  refine so ?_
  refine sq ?_
  refine sq ?_
  refine sr ?_
  refine sm ?_
  refine sv (PV.lenSl rfl) ?_
  refine sm ?_
  refine so ?_
  refine T.block ?_
  refine T.loopC [(8, Value.int IntKind.i64 (↑l.length : Int)), (7, Value.slice ad l.length cap), (1, Value.string s)] zq8 9 l.length (fun i => (l.take i).any (fun x => decide (x = s)) = false) rfl rfl ?_
  rintro i ⟨hi0, hi1⟩
  by_cases hi : i < l.length
  · obtain ⟨b, off, x, rfl, hix, hsub⟩ := RowL.get encT_len hv hi
    unfold encT at hsub
    by_cases he : x = s
    · refine sq ?_
      refine sr ?_
      refine sv (PV.lss rfl rfl) ?_
      refine so ?_
      refine sq ?_
      refine sc rfl (by omega) ?_
      refine T.skip ?_
      refine sq ?_
      refine T.block ?_
      refine sq ?_
      refine sr ?_
      refine sv (PV.indexAddr rfl rfl (by omega)) ?_
      refine sv (PV.loadSub0 rfl (by assumption)) ?_
      refine sa ?_
      refine so ?_
      refine sq ?_
      refine sr ?_
      refine sm ?_
      refine sm ?_
      refine sv (PV.seql rfl rfl) ?_
      refine so ?_
      refine sc rfl (by omega) ?_
      refine sq ?_
      refine sr ?_
      refine sa ?_
      refine so ?_
      exact T.retF (Lv.fin (RV.tmp rfl rfl) (by rw [any_in hix (decide_eq_true he)]))
    · refine sq ?_
      refine sr ?_
      refine sv (PV.lss rfl rfl) ?_
      refine so ?_
      refine sq ?_
      refine sc rfl (by omega) ?_
      refine T.skip ?_
      refine sq ?_
      refine T.block ?_
      refine sq ?_
      refine sr ?_
      refine sv (PV.indexAddr rfl rfl (by omega)) ?_
      refine sv (PV.loadSub0 rfl (by assumption)) ?_
      refine sa ?_
      refine so ?_
      refine sq ?_
      refine sr ?_
      refine sm ?_
      refine sm ?_
      refine sv (PV.seql rfl rfl) ?_
      refine so ?_
      refine sd rfl (by omega) ?_
      refine T.skip ?_
      refine T.blkEnd ?_
      refine sr ?_
      refine sv (PV.add rfl rfl (by omega)) ?_
      refine sm ?_
      refine so ?_
      exact T.nextC hi (ixI_drop hi1 hix (decide_eq_false he)) rfl zq8 (by repeat (first | exact Sel.refl _ | exact Sel.nil | (refine Sel.cons zq1 ?_) | (refine Sel.app zq1 ?_) | exact Sel.one zq1))
  · rw [List.take_of_length_le (by omega)] at hi1
    refine sq ?_
    refine sr ?_
    refine sv (PV.lss rfl rfl) ?_
    refine so ?_
    refine sq ?_
    refine sd rfl (by omega) ?_
    refine T.exit rfl ?_
    refine sq ?_
    refine sr ?_
    refine sa ?_
    refine so ?_
    exact T.retF (Lv.fin (RV.tmp rfl rfl) (by rw [hi1]))
/-- the first key in whose values two matches differ decides -/
theorem cmpF_first {z : Int} {f g : Ky → ByteArray} : ∀ {ks : List Ky} {j : Nat} {k : Ky}, ks[j]? = some k → (∀ i k', i < j → ks[i]? = some k' → f k' = g k') → f k ≠ g k → cmpF z f g ks = if k.fall then - cmpS (f k) (g k) else cmpS (f k) (g k)
  | [], _, _, h, _, _ => by simp at h
  | k0 :: ks, 0, k, h, _, hn => by
    obtain rfl : k0 = k := by simpa using h
    rw [cmpF, if_pos (fun h => hn (cmpS_eq h))]
  | k0 :: ks, j + 1, k, h, he, hn => by
    have h0 := he 0 k0 (by omega) rfl
    rw [cmpF, h0, cmpS_self, if_neg (by simp)]
    exact cmpF_first (j := j) (by simpa using h) (fun i k' hi hk => he (i + 1) k' (by omega) (by simpa using hk)) hn
theorem cmpF_none {z : Int} {f g : Ky → ByteArray} : ∀ {ks : List Ky}, (∀ k ∈ ks, f k = g k) → cmpF z f g ks = z
  | [], _ => rfl
  | k0 :: ks, he => by
    rw [cmpF, he k0 (List.mem_cons_self ..), cmpS_self, if_neg (by simp)]
    exact cmpF_none fun k hk => he k (List.mem_cons_of_mem _ hk)
theorem cmpM_F (c : Cp) (lb : List ByteArray) (ks : List Ky) (a b : Mt) : cmpM c lb ks a b = cmpF (cmpL (keyM a) (keyM b)) (valO c lb a) (valO c lb b) ks := by
  unfold cmpM valsO
  rw [cmpKs_map]
set_option maxHeartbeats 2000000 in
theorem before_ref (c : Cp) (lb : List ByteArray) (ks : List Ky) (a b : Mt) (vl vk : Value) (H : Hp) (hc : CpL H c) (hw : CpW c) (hlb : StL H vl lb) (hk : KyL H vk ks) (hkl : ks.length ≤ 1000000) (ha : LabOk H a) (hb : LabOk H b) (hal : a.ls.length ≤ 1000) (hbl : b.ls.length ≤ 1000) :
    Fn Tryz.prog 42 #[cpV c, vl, mtV a, mtV b, vk] H (fun u _ => u = .bool (decide (cmpM c lb ks a b < 0))) := by
  obtain ⟨ak, ck, rfl⟩ := hk.len
  obtain ⟨aa, ca, hav⟩ := ha.1.len
  obtain ⟨ab, cb, hbv⟩ := hb.1.len
  have hcm := refCompare_fn a b H ha hb
  rw [cmpM_F]
  unfold mtV at hcm
  unfold cpV mtV
  rw [hav, hbv] at hcm ⊢
  refine Fn.of_T (vs := [.agg #[c.va, c.vt, c.vx, c.vr, c.vn, c.vh, c.vs], vl, .agg #[.int .i64 a.b, .int .i64 a.e, .slice aa a.ls.length ca], .agg #[.int .i64 b.b, .int .i64 b.e, .slice ab b.ls.length cb], .slice ak ks.length ck]) Tryz.func42 rfl rfl fun w => ?_
  refine sq ?_
  refine sr ?_
  (refine T.box Wanted.none rfl rfl zq15 ?_; intro b5)
  (refine T.box Wanted.none rfl rfl zq15 ?_; intro b7)
  (refine T.box Wanted.none rfl rfl zq15 ?_; intro b8)
  refine sa ?_
  refine so ?_
  refine sq ?_
  refine sq ?_
  refine sr ?_
  refine sm ?_
  refine sv (PV.lenSl rfl) ?_
  refine sm ?_
  refine so ?_
  refine T.block ?_
  refine T.loopC [(16, Value.int IntKind.i64 (↑ks.length : Int)), (15, Value.slice ak ks.length ck), (8, Value.pointer (some { block := b8, off := 0 })), (7, Value.pointer (some { block := b7, off := 0 })), (5, Value.pointer (some { block := b5, off := 0 })), (1, vl)] zq8 17 ks.length (fun y => ∀ i k, i < y → ks[i]? = some k → valO c lb a k = valO c lb b k) (fun _ _ h => absurd h (Nat.not_lt_zero _)) rfl ?_
  rintro y ⟨hy0, hy1⟩
  by_cases hy : y < ks.length
  · obtain ⟨b8, off8, k, rfl, hkx, hsubk⟩ := RowL.get encKy_len hk hy
    unfold encKy at hsubk
    have va := value_ref c lb vl a k H hc hw hlb ha hal
    have vb := value_ref c lb vl b k H hc hw hlb hb hbl
    unfold cpV mtV kyV at va vb
    rw [hav] at va
    rw [hbv] at vb
    by_cases hpq : valO c lb a k = valO c lb b k
    · have hne : decide (valO c lb a k ≠ valO c lb b k) = false := by simp [hpq]
      have hst : ∀ i k', i < y + 1 → ks[i]? = some k' → valO c lb a k' = valO c lb b k' := fun i k' hi hk' => by
        rcases Nat.lt_or_eq_of_le (Nat.le_of_lt_succ hi) with h | h
        · exact hy1 i k' h hk'
        · subst h; rw [hkx] at hk'; obtain rfl := Option.some.inj hk'; exact hpq
      refine sq ?_
      refine sr ?_
      refine sv (PV.lss rfl rfl) ?_
      refine so ?_
      refine sq ?_
      refine sc rfl (by omega) ?_
      refine T.skip ?_
      refine sq ?_
      refine T.block ?_
      refine sq ?_
      refine sr ?_
      refine sv (PV.indexAddr rfl rfl (by omega)) ?_
      refine sv (PV.loadSubAll rfl (by assumption) (by exact rfl)) ?_
      refine sy fun b12 => ?_
      refine T.storeA Wanted.none rfl rfl zq8 (by exact rfl) zq14 zq13 ?_
      refine so ?_
      refine sq ?_
      refine T.regionQ (by kernel_rfl) ?_
      refine TQ.pv (PV.loadAll rfl zq0 (by exact rfl)) Wanted.none rfl rfl ?_
      refine TQ.pv (PV.move rfl) Wanted.none rfl rfl ?_
      refine TQ.pv (PV.loadAll rfl zq0 (by exact rfl)) Wanted.none rfl rfl ?_
      refine TQ.pv (PV.loadAll rfl zq0 (by exact rfl)) Wanted.none rfl rfl ?_
      refine TQ.callV Wanted.none rfl rfl (va) ?_
      refine TQ.pv (PV.loadAll rfl zq0 (by exact rfl)) Wanted.none rfl rfl ?_
      refine TQ.pv (PV.move rfl) Wanted.none rfl rfl ?_
      refine TQ.pv (PV.loadAll rfl zq0 (by exact rfl)) Wanted.none rfl rfl ?_
      refine TQ.pv (PV.loadAll rfl zq0 (by exact rfl)) Wanted.none rfl rfl ?_
      refine TQ.callV Wanted.none rfl rfl (vb) ?_
      refine TQ.pv (PV.assign rfl) Wanted.none rfl rfl ?_
      refine TQ.pv (PV.assign rfl) Wanted.none rfl rfl ?_
      refine TQ.nil ?_
      refine sq ?_
      refine sr ?_
      refine sm ?_
      refine sm ?_
      refine sv (PV.sneq rfl rfl) ?_
      refine so ?_
      refine T.condF rfl (by assumption) ?_
      refine T.skip ?_
      refine T.blkEnd ?_
      refine sr ?_
      refine sv (PV.add rfl rfl (by omega)) ?_
      refine sm ?_
      refine so ?_
      exact T.nextC hy hst rfl zq8 (by repeat (first | exact Sel.refl _ | exact Sel.nil | (refine Sel.cons zq1 ?_) | (refine Sel.app zq1 ?_) | exact Sel.one zq1))
    · have hne : decide (valO c lb a k ≠ valO c lb b k) = true := by simp [hpq]
      have hfi := cmpF_first (z := cmpL (keyM a) (keyM b)) (f := valO c lb a) (g := valO c lb b) hkx hy1 hpq
      have hcs : cmpS (valO c lb a k) (valO c lb b k) ≠ 0 := fun h => hpq (cmpS_eq h)
      refine sq ?_
      refine sr ?_
      refine sv (PV.lss rfl rfl) ?_
      refine so ?_
      refine sq ?_
      refine sc rfl (by omega) ?_
      refine T.skip ?_
      refine sq ?_
      refine T.block ?_
      refine sq ?_
      refine sr ?_
      refine sv (PV.indexAddr rfl rfl (by omega)) ?_
      refine sv (PV.loadSubAll rfl (by assumption) (by exact rfl)) ?_
      refine sy fun b12 => ?_
      refine T.storeA Wanted.none rfl rfl zq8 (by exact rfl) zq14 zq13 ?_
      refine so ?_
      refine sq ?_
      refine T.regionQ (by kernel_rfl) ?_
      refine TQ.pv (PV.loadAll rfl zq0 (by exact rfl)) Wanted.none rfl rfl ?_
      refine TQ.pv (PV.move rfl) Wanted.none rfl rfl ?_
      refine TQ.pv (PV.loadAll rfl zq0 (by exact rfl)) Wanted.none rfl rfl ?_
      refine TQ.pv (PV.loadAll rfl zq0 (by exact rfl)) Wanted.none rfl rfl ?_
      refine TQ.callV Wanted.none rfl rfl (va) ?_
      refine TQ.pv (PV.loadAll rfl zq0 (by exact rfl)) Wanted.none rfl rfl ?_
      refine TQ.pv (PV.move rfl) Wanted.none rfl rfl ?_
      refine TQ.pv (PV.loadAll rfl zq0 (by exact rfl)) Wanted.none rfl rfl ?_
      refine TQ.pv (PV.loadAll rfl zq0 (by exact rfl)) Wanted.none rfl rfl ?_
      refine TQ.callV Wanted.none rfl rfl (vb) ?_
      refine TQ.pv (PV.assign rfl) Wanted.none rfl rfl ?_
      refine TQ.pv (PV.assign rfl) Wanted.none rfl rfl ?_
      refine TQ.nil ?_
      refine sq ?_
      refine sr ?_
      refine sm ?_
      refine sm ?_
      refine sv (PV.sneq rfl rfl) ?_
      refine so ?_
      refine T.condT rfl (by assumption) ?_
      refine sq ?_
      refine sr ?_
      refine sm ?_
      refine sm ?_
      refine sv (PV.slss rfl rfl) ?_
      refine sf ?_
      refine sl ?_
      refine sv (PV.bneq rfl rfl) ?_
      refine sa ?_
      refine so ?_
      refine T.retF (Lv.fin (RV.tmp rfl rfl) ?_)
      rw [hfi, bytesLess_cmp]
      change Value.bool (!(decide (cmpS (valO c lb a k) (valO c lb b k) < 0) == k.fall)) = _
      congr 1
      cases hfl : k.fall
      · simp
      · by_cases h1 : cmpS (valO c lb a k) (valO c lb b k) < 0
        · rw [decide_eq_true h1]; simp; omega
        · rw [decide_eq_false h1]; simp; omega
  · have hno := cmpF_none (z := cmpL (keyM a) (keyM b)) (f := valO c lb a) (g := valO c lb b) (ks := ks) (fun k hk => by
      obtain ⟨i, hi, e⟩ := List.getElem_of_mem hk
      exact hy1 i k (by omega) (by rw [List.getElem?_eq_getElem hi, e]))
    refine sq ?_
    refine sr ?_
    refine sv (PV.lss rfl rfl) ?_
    refine so ?_
    refine sq ?_
    refine sd rfl (by omega) ?_
    refine T.exit rfl ?_
    refine sq ?_
    refine sr ?_
    refine sv (PV.loadAll rfl zq0 (by exact rfl)) ?_
    refine sv (PV.loadAll rfl zq0 (by exact rfl)) ?_
    refine T.callV Wanted.none rfl rfl (hcm) ?_
    refine sv (PV.lss rfl rfl) ?_
    refine sa ?_
    refine so ?_
    exact T.retF (Lv.fin (RV.tmp rfl rfl) (by rw [hno]))
end Go.Proofs.YtlklcjpmfjmenaaGreatDoor
