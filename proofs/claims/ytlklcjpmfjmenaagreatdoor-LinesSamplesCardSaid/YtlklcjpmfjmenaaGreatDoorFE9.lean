/- lines: the statement Samples. -/
import Derived.Test.YtlklcjpmfjmenaaGreatDoorFE7
import Derived.Test.YtlklcjpmfjmenaaGreatDoorFE8
import Derived.Test.YtlklcjpmfjmenaaGreatDoorGC
namespace Go.Proofs.YtlklcjpmfjmenaaGreatDoor
open Go.RowKit

theorem thinL_len (n : Nat) : ∀ (l : List Mt) (i : Nat), (thinL n l i).length ≤ l.length
  | [], _ => Nat.le_refl _
  | m :: l, i => by
    have := thinL_len n l (i + 1)
    unfold thinL
    split
    · simp only [List.length_cons]; omega
    · simp only [List.length_cons]; omega
set_option maxHeartbeats 8000000 in
theorem samples_law (l : List Int) (v : Value) (seed n : Int) (H : Hp) (hT : PowT H) (hv : InL H v l) (hl : l.length ≤ 9223372036854775807) (hr : ∀ x ∈ l, -9223372036854775808 ≤ x ∧ x ≤ 9223372036854775807) (hs : -9223372036854775808 ≤ seed ∧ seed ≤ 9223372036854775807) (hn : -9223372036854775808 ≤ n ∧ n ≤ 9223372036854775807) :
    Fn Tryz.prog 5 #[v, .int .i64 seed, .int .i64 n] H (fun u _ => u = .bool true) := by
  refine Fn.of_T (vs := [v, .int .i64 seed, .int .i64 n]) Tryz.func5 rfl rfl fun w => ?_
  refine sq ?_
  refine sr ?_
  refine sa ?_
  refine so ?_
  refine sq ?_
  refine sr ?_
  refine sm ?_
  refine T.callW (l0 := []) Wanted.none rfl rfl (new_fn l v H hv hl hr) zq1 ?_
  rintro _ _ _ _ ⟨rfl, bt, t, rfl, ht0, rfl⟩
  refine sa ?_
  refine so ?_
  refine sq ?_
  refine sr ?_
  refine sm ?_
  refine T.callW Wanted.none rfl rfl (corpus_fnN bt t 7 H ht0 (by omega)) zq1 ?_
  rintro _ H1 _ hle1 ⟨t1, c, rfl, ht1, hc, hg, hb, hnm, rfl⟩
  have hw := hg.wide
  have hmt := matches_fn bt t1 c 1 10 H1 ht1 hc hg hb (by omega) (by omega)
  rw [show ((1 : Nat) : Int) = 1 from rfl] at hmt
  unfold cpV at hmt ⊢
  refine sy fun b8 => ?_
  (refine T.storeA Wanted.none rfl rfl (cp_one hc) (by exact rfl) zq14 zq13 ?_)
  refine so ?_
  refine sq ?_
  refine sr ?_
  refine sm ?_
  refine sv (PV.loadAll rfl zq0 (by exact rfl)) ?_
  (refine T.callW Wanted.none rfl rfl hmt zq1 ?_; rintro _ H2 _ hle2 ⟨t3, L, ht3, hL, hLn, hfit, rfl⟩; obtain ⟨aL, cL, rfl⟩ := hL.1.len)
  refine sa ?_
  refine so ?_
  have hLl : L.length ≤ 10 := by omega
  have hls : ∀ m ∈ L, m.ls.length ≤ 1000 := fun m hm => by have := (hfit m hm).2.1; omega
  have hc2 := hc.mono hle2
  have hT2 := hT.mono (hle1.trans hle2)
  have md := mod_fn n 13 H2 hn (by omega)
  have hm0 : 0 ≤ n % 13 ∧ n % 13 < 13 := ⟨Int.emod_nonneg _ (by omega), Int.emod_lt_of_pos _ (by omega)⟩
  generalize n % 13 = q at md hm0
  refine sq ?_
  refine sr ?_
  refine sm ?_
  refine T.callV Wanted.none rfl rfl (md) ?_
  refine sv (PV.sub rfl rfl (by omega)) ?_
  refine sa ?_
  refine so ?_
  refine sq ?_
  refine sq ?_
  refine sr ?_
  refine sm ?_
  refine sv (PV.lenSl rfl) ?_
  refine sm ?_
  refine so ?_
  refine T.block ?_
  refine T.loopC [(31, Value.int IntKind.i64 (↑L.length : Int)), (30, Value.slice aL L.length cL), (2, Value.int IntKind.i64 (q - 1)), (9, Value.slice aL L.length cL), (8, Value.pointer (some { block := b8, off := 0 })), (1, Value.int IntKind.i64 seed)] zq8 32 L.length (fun _ => True) trivial rfl ?_
  rintro i ⟨hi0, -⟩
  by_cases hi : i < L.length
  · obtain ⟨bx, off, m, rfl, hix, hsub⟩ := RowL.get encM_len hL.1 hi
    have hmm := List.mem_of_getElem? hix
    have hlab := hL.2 m hmm
    obtain ⟨al, cl, hmv⟩ := hlab.1.len
    unfold encM at hsub
    rw [hmv] at hsub
    have h1 := hash_fn c m seed H2 hc2 hw hlab (hls m hmm) hT2 hs hnm
    have h2 := hash_ref c m seed H2 hc2 hw hlab (hls m hmm) hs hnm
    unfold cpV mtV at h1 h2
    rw [hmv] at h1 h2
    generalize hashO c m seed = hh at h1 h2
    have d1 : decide (hh ≠ hh) = false := by simp
    refine sq ?_
    refine sr ?_
    refine sv (PV.lss rfl rfl) ?_
    refine so ?_
    refine sq ?_
    refine sc rfl (by omega) ?_
    refine T.skip ?_
    refine sq ?_
    refine T.block ?_
    refine sq ?_
    refine sr ?_
    refine sv (PV.indexAddr rfl rfl (by omega)) ?_
    refine sv (PV.loadSubAll rfl (by assumption) (by exact rfl)) ?_
    refine sy fun b11 => ?_
    refine T.storeA Wanted.none rfl rfl zq8 (by exact rfl) zq14 zq13 ?_
    refine so ?_
    refine sq ?_
    refine T.regionQ (by kernel_rfl) ?_
    refine TQ.pv (PV.loadAll rfl zq0 (by exact rfl)) Wanted.none rfl rfl ?_
    refine TQ.pv (PV.loadAll rfl zq0 (by exact rfl)) Wanted.none rfl rfl ?_
    refine TQ.pv (PV.move rfl) Wanted.none rfl rfl ?_
    refine TQ.callV Wanted.none rfl rfl (h1) ?_
    refine TQ.pv (PV.loadAll rfl zq0 (by exact rfl)) Wanted.none rfl rfl ?_
    refine TQ.pv (PV.loadAll rfl zq0 (by exact rfl)) Wanted.none rfl rfl ?_
    refine TQ.pv (PV.move rfl) Wanted.none rfl rfl ?_
    refine TQ.callV Wanted.none rfl rfl (h2) ?_
    refine TQ.pv (PV.neq rfl rfl) Wanted.none rfl rfl ?_
    refine TQ.nil ?_
    refine T.condF rfl (by assumption) ?_
    refine T.skip ?_
    refine T.blkEnd ?_
    refine sr ?_
    refine sv (PV.add rfl rfl (by omega)) ?_
    refine sm ?_
    refine so ?_
    exact T.nextC hi trivial rfl zq8 (by repeat (first | exact Sel.refl _ | exact Sel.nil | (refine Sel.cons zq1 ?_) | (refine Sel.app zq1 ?_) | exact Sel.one zq1))
  · have s1 := sample_in c L (.slice aL L.length cL) seed (q - 1) H2 hc2 hw hL (by omega) hls hT2 hs hnm
    have s2 := fun H' (h : H2.le H') => sample_ref c L (.slice aL L.length cL) seed (q - 1) H' (hc2.mono h) hw (hL.mono h) (by omega) hls hs hnm
    have s3 := fun H' (h : H2.le H') => thin_in L (.slice aL L.length cL) (q - 1) H' (hL.mono h) (by omega) (by omega)
    have s4 := fun H' (h : H2.le H') => thin_ref L (.slice aL L.length cL) (q - 1) H' (hL.mono h) (by omega) (by omega)
    unfold cpV at s1 s2
    generalize hz : smpE c L (q - 1) = z at s1 s2
    generalize hy : thinE (q - 1) = y at s3 s4
    have d1 : decide (z = z) = true := by simp
    have d2 : decide (y = y) = true := by simp
    refine sq ?_
    refine sr ?_
    refine sv (PV.lss rfl rfl) ?_
    refine so ?_
    refine sq ?_
    refine sd rfl (by omega) ?_
    refine T.exit rfl ?_
    refine sq ?_
    refine sr ?_
    refine sv (PV.loadAll rfl zq0 (by exact rfl)) ?_
    refine sm ?_
    refine sm ?_
    refine sm ?_
    (refine T.call Wanted.none rfl rfl s1 ?_; rintro _ H51 h51 ⟨_, A1, rfl, hA1, qa1, qb1⟩; obtain ⟨aa1, ca1, rfl⟩ := hA1.1.len)
    refine sm ?_
    refine sv (PV.extract rfl rfl) ?_
    refine sv (PV.extract rfl rfl) ?_
    refine sa ?_
    refine sa ?_
    refine so ?_
    refine sq ?_
    refine sr ?_
    refine sv (PV.loadAll rfl zq0 (by exact rfl)) ?_
    refine sm ?_
    refine sm ?_
    refine sm ?_
    (refine T.call Wanted.none rfl rfl (s2 _ h51) ?_; rintro _ H59 h59 ⟨_, A2, rfl, hA2, qa2, qb2⟩; obtain ⟨aa2, ca2, rfl⟩ := hA2.1.len; have h5b := h51.trans h59)
    refine sm ?_
    refine sv (PV.extract rfl rfl) ?_
    refine sv (PV.extract rfl rfl) ?_
    refine sa ?_
    refine sa ?_
    refine so ?_
    refine sq ?_
    refine sr ?_
    refine sm ?_
    refine sm ?_
    (refine T.call Wanted.none rfl rfl (s3 _ h5b) ?_; rintro _ H65 h65 ⟨_, A3, rfl, hA3, qa3⟩; obtain ⟨aa3, ca3, rfl⟩ := hA3.1.len; have h6b := h5b.trans h65)
    refine sm ?_
    refine sv (PV.extract rfl rfl) ?_
    refine sv (PV.extract rfl rfl) ?_
    refine sa ?_
    refine sa ?_
    refine so ?_
    refine sq ?_
    refine sr ?_
    refine sm ?_
    refine sm ?_
    (refine T.call Wanted.none rfl rfl (s4 _ h6b) ?_; rintro _ H71 h71 ⟨_, A4, rfl, hA4, qa4⟩; obtain ⟨aa4, ca4, rfl⟩ := hA4.1.len)
    refine sm ?_
    refine sv (PV.extract rfl rfl) ?_
    refine sv (PV.extract rfl rfl) ?_
    refine sa ?_
    refine sa ?_
    refine so ?_
    have e12 : A1.map keyM = A2.map keyM := by
      by_cases h0 : z = 0
      · rw [qa1 h0, qa2 h0]
      · rw [qb1 h0, qb2 h0]
    have e34 : A3.map keyM = A4.map keyM := by rw [qa3, qa4]
    have l1 : A1.length ≤ 1000000 := by
      by_cases h0 : z = 0
      · have := smp_len (qa1 h0); omega
      · rw [qb1 h0]; simp
    have l3 : A3.length ≤ 1000000 := by
      have h1 := congrArg List.length qa3
      rw [List.length_map] at h1
      have h2 := thinL_len (q - 1).toNat L 0
      split at h1
      · rw [List.length_nil] at h1; omega
      · rw [List.length_map] at h1; omega
    have k1 := same24_fn A1 A2 (.slice aa1 A1.length ca1) (.slice aa2 A2.length ca2) H71 (hA1.mono ((h59.trans h65).trans h71)) (hA2.mono (h65.trans h71)) l1
    have k3 := same24_fn A3 A4 (.slice aa3 A3.length ca3) (.slice aa4 A4.length ca4) H71 (hA3.mono h71) hA4 l3
    rw [decide_eq_true e12] at k1
    rw [decide_eq_true e34] at k3
    have kn := known_fn H71
    refine sq ?_
    refine sr ?_
    refine sm ?_
    refine sm ?_
    refine sv (PV.eql rfl rfl) ?_
    refine sm ?_
    refine T.pv (PV.move rfl) (Wanted.guard rfl rfl (by assumption)) rfl rfl ?_
    refine T.pv (PV.move rfl) (Wanted.guard rfl rfl (by assumption)) rfl rfl ?_
    refine T.callV (Wanted.guard rfl rfl (by assumption)) rfl rfl (k1) ?_
    refine sv (PV.pickT rfl (by assumption) rfl) ?_
    refine sm ?_
    refine gm ?_
    refine gm ?_
    refine gv (PV.eql rfl rfl) ?_
    refine sT ?_
    refine sm ?_
    refine T.pv (PV.move rfl) (Wanted.guard rfl rfl (by assumption)) rfl rfl ?_
    refine T.pv (PV.move rfl) (Wanted.guard rfl rfl (by assumption)) rfl rfl ?_
    refine T.callV (Wanted.guard rfl rfl (by assumption)) rfl rfl (k3) ?_
    refine sv (PV.pickT rfl (by assumption) rfl) ?_
    refine sm ?_
    refine T.callV (Wanted.guard rfl rfl rfl) rfl rfl (kn) ?_
    refine sT ?_
    refine sa ?_
    refine so ?_
    exact T.retF (Lv.fin (RV.tmp rfl rfl) rfl)
end Go.Proofs.YtlklcjpmfjmenaaGreatDoor
