/- lines: the statement Make. -/
import Derived.Test.YtlklcjpmfjmenaaFKE
import Derived.Test.YtlklcjpmfjmenaaFKF
namespace Go.Proofs.Ytlklcjpmfjmenaa
open Go.RowKit

theorem i64_range {i : Int} (h : (Lit.int .i64 i).wf = true) : -9223372036854775808 ≤ i ∧ i ≤ 9223372036854775807 := by
  simp only [Lit.wf, Bool.and_eq_true, decide_eq_true_eq] at h
  exact h
theorem CpG.wide {c : Cp} (h : CpG c) : CpW c := ⟨fun t ht => by rw [h.tk t ht, h.att]; rfl, fun t ht => chain_mem h.tx ht⟩
theorem tkL_bound {c : Cp} {a i n : Int} (h : 0 ≤ i) (hn : n ≤ 100000) : (tkL c a i (n - i).toNat).length ≤ 100000 := by rw [tkL_len]; omega
theorem lnO_B {c : Cp} {m : Mt} {t : Rg} {a i0 n : Int} (hf : FitP c m t) (hc : c.tk.length ≤ 1000) (h : 0 ≤ i0 ∧ n ≤ c.tk.length) : LnB (lnO c m t a i0 n) := by
  obtain ⟨f1, f2, f3, f4, f5, f6⟩ := hf
  exact ⟨tkL_bound h.1 (by omega), tkL_bound (by omega) (by omega), tkL_bound (by omega) (by omega)⟩
theorem zeroLn_B : LnB zeroLn := ⟨Nat.zero_le _, Nat.zero_le _, Nat.zero_le _⟩
theorem mkO_B {c : Cp} (hc : c.tk.length ≤ 1000) (hw : CpW c) (m : Mt) (a l r : Int) : LnB (mkO c m a l r).1 := by
  unfold mkO
  split
  · exact zeroLn_B
  · rename_i h
    cases hf : fitO c m with
    | none => exact zeroLn_B
    | some t =>
      have hp := fitP hw hf
      exact lnO_B hp hc ⟨by have := hp.t0; omega, by have := hp.tn; omega⟩
theorem mrO_B {c : Cp} (hc : c.tk.length ≤ 1000) (hw : CpW c) (hrb : ∀ r ∈ c.rg, 0 ≤ r.b ∧ r.e ≤ c.tk.length) (m : Mt) (a : Int) (k : ByteArray) : LnB (mrO c m a k).1 := by
  unfold mrO
  split
  · exact zeroLn_B
  · cases hf : fitO c m with
    | none => exact zeroLn_B
    | some t =>
      have hp := fitP hw hf
      dsimp only
      split
      · exact lnO_B hp hc ⟨hp.t0, hp.tn⟩
      · split
        · exact lnO_B hp hc ⟨hp.t0, hp.tn⟩
        · rename_i r hr
          exact lnO_B hp hc (hrb r (List.mem_of_getElem? hr))
structure MkG where
  i : Nat
  H : Hp
set_option maxHeartbeats 4000000 in
theorem make_law (l : List Int) (v : Value) (x y : Int) (H : Hp) (hv : InL H v l) (hl : l.length ≤ 9223372036854775807) (hr : ∀ x ∈ l, -9223372036854775808 ≤ x ∧ x ≤ 9223372036854775807) (hx : -9223372036854775808 ≤ x ∧ x ≤ 9223372036854775807) (hy : -9223372036854775808 ≤ y ∧ y ≤ 9223372036854775807) :
    Fn Try.prog 3 #[v, .int .i64 x, .int .i64 y] H (fun u _ => u = .bool true) := by
  refine Fn.of_T (vs := [v, .int .i64 x, .int .i64 y]) Try.func3 rfl rfl fun w => ?_
  refine sq ?_
  refine sr ?_
  refine sa ?_
  refine so ?_
  refine sq ?_
  refine sr ?_
  refine sm ?_
  refine T.callW (l0 := []) Wanted.none rfl rfl (new_fn l v H hv hl hr) zq1 ?_
  rintro _ _ _ _ ⟨rfl, bt, t, rfl, ht, rfl⟩
  refine sa ?_
  refine so ?_
  refine sq ?_
  refine sr ?_
  refine sm ?_
  refine T.callW Wanted.none rfl rfl (corpus_fn bt t 7 H ht (by omega)) zq1 ?_
  rintro _ H1 _ hle1 ⟨t1, c, rfl, ht1, hc, hg, hb, rfl⟩
  have hw := hg.wide
  have hrb : ∀ r ∈ c.rg, 0 ≤ r.b ∧ r.e ≤ c.tk.length := fun r hr => by have := hg.rgb r hr; omega
  have hm1 := mod_fn x 6 H1 hx (by omega)
  have hm2 := mod_fn y 6 H1 hy (by omega)
  have hmt := fun t (h : Tp.ok H1 t) => matches_fn bt t c 1 5 H1 h hc hg hb (by omega) (by omega)
  rw [show ((1 : Nat) : Int) = 1 from rfl] at hmt
  unfold cpV at hmt ⊢
  refine sy fun b8 => ?_
  (refine T.storeA Wanted.none rfl rfl (cp_one hc) (by exact rfl) zq14 zq13 ?_)
  refine so ?_
  refine sq ?_
  refine sr ?_
  refine sm ?_
  (refine T.callW Wanted.none rfl rfl (key_fn _ _ _ ?_) zq1 ?_; (focus assumption); rintro _ _ _ _ ⟨rfl, k, t27, rfl, hk, ht27, rfl⟩; unfold kyV)
  refine sm ?_
  (refine T.callW Wanted.none rfl rfl (next_fn _ _ _ _ ?_ ?_) zq1 ?_; (focus assumption); (focus omega); rintro _ _ _ _ ⟨rfl, n29, t29, rfl, hn29, ht29, rfl⟩)
  (refine T.callX Wanted.none rfl rfl (type_fn _ _ ?_) ?_; (focus omega); rintro _ ⟨kd, hkd, rfl⟩)
  refine sm ?_
  (refine T.callW Wanted.none rfl rfl (next_fn _ _ _ _ ?_ ?_) zq1 ?_; (focus assumption); (focus omega); rintro _ _ _ _ ⟨rfl, n32, t32, rfl, hn32, ht32, rfl⟩)
  refine sy fun b9 => ?_
  refine T.storeA Wanted.none rfl rfl zq8 (by exact rfl) zq14 zq13 ?_
  refine sa ?_
  refine sa ?_
  refine so ?_
  refine sq ?_
  refine sr ?_
  refine sm ?_
  refine T.callV Wanted.none rfl rfl (hm1) ?_
  refine sm ?_
  refine T.callV Wanted.none rfl rfl (hm2) ?_
  refine sa ?_
  refine sa ?_
  refine so ?_
  refine sq ?_
  refine sq ?_
  refine sr ?_
  refine sm ?_
  refine sv (PV.loadAll rfl zq0 (by exact rfl)) ?_
  (refine T.callW Wanted.none rfl rfl (hmt _ (by assumption)) zq1 ?_; rintro _ H2 _ hle2 ⟨t3, L, ht3, hL, hLn, hfit, rfl⟩; obtain ⟨aL, cL, rfl⟩ := hL.1.len)
  refine sv (PV.lenSl rfl) ?_
  refine sm ?_
  refine so ?_
  refine T.block ?_
  refine T.loopK [(40, Value.int IntKind.i64 (↑L.length : Int)), (39, Value.slice aL L.length cL), (2, Value.int IntKind.i64 (y % 6)), (1, Value.int IntKind.i64 (x % 6)), (11, Value.int IntKind.i64 n32), (10, Value.string kd), (9, Value.pointer (some { block := b9, off := 0 })), (8, Value.pointer (some { block := b8, off := 0 }))] zq8 (γ := MkG) (fun g => g.i ≤ L.length ∧ H2.le g.H) (fun g => [(41, .int .i64 (g.i : Int))]) (fun g => [(b9, .cells #[.int .i64 k.at_, .int .i64 k.off, .string k.lb, .string k.nm, .bool k.fold, .bool k.back, .bool k.fall] 35 (0, 0)), (b8, .cells #[c.va, c.vt, c.vx, c.vr, c.vn, c.vh, c.vs] 32 (0, 0))]) (fun g => g.H) (fun g => L.length - g.i) ⟨0, H2⟩ ⟨by simp, Hp.le.refl _⟩ zq8 (by repeat (first | exact Sel.refl _ | exact Sel.nil | (refine Sel.cons zq1 ?_) | (refine Sel.app zq1 ?_) | exact Sel.one zq1)) rfl ?_
  rintro ⟨i, H3⟩ ⟨g1, g2⟩
  dsimp only at g1 g2 ⊢
  by_cases hi : i < L.length
  · obtain ⟨bx, off, m, rfl, hix, hsub⟩ := RowL.get encM_len (hL.1.mono g2) hi
    have hmm := List.mem_of_getElem? hix
    have hlab := (hL.2 m hmm).mono g2
    obtain ⟨al, cl, hmv⟩ := hlab.1.len
    unfold encM at hsub
    rw [hmv] at hsub
    have hls : m.ls.length ≤ 1000 := by have := (hfit m hmm).2.1; omega
    have hc3 := hc.mono (hle2.trans g2)
    have a1 := make_in c m n32 (x % 6) (y % 6) H3 hc3 hw hlab hls
    have a2 := fun H' (h : H3.le H') => make_ref c m n32 (x % 6) (y % 6) H' (hc3.mono h) hw (hlab.mono h) hls
    have a3 := fun H' (h : H3.le H') => makeRegion_in c m n32 kd H' (hc3.mono h) hw hrb (hlab.mono h) hls
    have a4 := fun H' (h : H3.le H') => makeRegion_ref c m n32 kd H' (hc3.mono h) hw hrb (hlab.mono h) hls
    have a5 := fun H' vl (h : H3.le H') (hl : StL H' vl [bs [120]]) => value_in c [bs [120]] vl m k H' (hc3.mono h) hw hl (hlab.mono h) hls
    have a6 := fun H' vl (h : H3.le H') (hl : StL H' vl [bs [120]]) => value_ref c [bs [120]] vl m k H' (hc3.mono h) hw hl (hlab.mono h) hls
    have b1 := mkO_B hc.lt hw m n32 (x % 6) (y % 6)
    have b2 := mrO_B hc.lt hw hrb m n32 kd
    generalize mkO c m n32 (x % 6) (y % 6) = p at a1 a2 b1
    generalize mrO c m n32 kd = q at a3 a4 b2
    generalize valO c [bs [120]] m k = s at a5 a6
    obtain ⟨p, p2⟩ := p
    obtain ⟨q, q2⟩ := q
    dsimp only at a1 a2 a3 a4 b1 b2
    unfold cpV mtV at a1 a2 a3 a4 a5 a6
    unfold kyV at a5 a6
    simp only [hmv] at a1 a2 a3 a4 a5 a6
    have d1 : decide (p2 ≠ p2) = false := by simp
    have d2 : decide (q2 ≠ q2) = false := by simp
    have d3 : decide (s ≠ s) = false := by simp
    refine sq ?_
    refine sr ?_
    refine sv (PV.lss rfl rfl) ?_
    refine so ?_
    refine sq ?_
    refine sc rfl (by omega) ?_
    refine T.skip ?_
    refine sq ?_
    refine T.block ?_
    refine sq ?_
    refine sr ?_
    refine sv (PV.indexAddr rfl rfl (by omega)) ?_
    refine sv (PV.loadSubAll rfl (by assumption) (by exact rfl)) ?_
    refine sy fun b13 => ?_
    refine T.storeA Wanted.none rfl rfl zq8 (by exact rfl) zq14 zq13 ?_
    refine so ?_
    refine sq ?_
    refine sr ?_
    refine sv (PV.loadAll rfl zq0 (by exact rfl)) ?_
    refine sv (PV.loadAll rfl zq0 (by exact rfl)) ?_
    refine sm ?_
    refine sm ?_
    refine sm ?_
    (refine T.call Wanted.none rfl rfl (a1) ?_; rintro _ H51 h51 ⟨_, rfl, u1, u2, u3, rfl, e1, e2, e3⟩; obtain ⟨s1, z1, rfl⟩ := e1.len; obtain ⟨s2, z2, rfl⟩ := e2.len; obtain ⟨s3, z3, rfl⟩ := e3.len)
    refine sm ?_
    refine sv (PV.extract rfl rfl) ?_
    refine sv (PV.extract rfl rfl) ?_
    refine sy fun b14 => ?_
    refine T.storeA Wanted.none rfl rfl zq8 (by exact rfl) zq14 zq13 ?_
    refine sa ?_
    refine so ?_
    refine sq ?_
    refine sr ?_
    refine sv (PV.loadAll rfl zq0 (by exact rfl)) ?_
    refine sv (PV.loadAll rfl zq0 (by exact rfl)) ?_
    refine sm ?_
    refine sm ?_
    refine sm ?_
    (refine T.call Wanted.none rfl rfl (a2 _ h51) ?_; rintro _ H60 h60 ⟨_, rfl, u4, u5, u6, rfl, e4, e5, e6⟩; obtain ⟨s4, z4, rfl⟩ := e4.len; obtain ⟨s5, z5, rfl⟩ := e5.len; obtain ⟨s6, z6, rfl⟩ := e6.len; have h36 := h51.trans h60)
    refine sm ?_
    refine sv (PV.extract rfl rfl) ?_
    refine sv (PV.extract rfl rfl) ?_
    refine sy fun b16 => ?_
    refine T.storeA Wanted.none rfl rfl zq8 (by exact rfl) zq14 zq13 ?_
    refine sa ?_
    refine so ?_
    refine sq ?_
    refine sr ?_
    refine sv (PV.loadAll rfl zq0 (by exact rfl)) ?_
    refine sv (PV.loadAll rfl zq0 (by exact rfl)) ?_
    refine sm ?_
    refine sm ?_
    (refine T.call Wanted.none rfl rfl (a3 _ h36) ?_; rintro _ H68 h68 ⟨_, rfl, u7, u8, u9, rfl, e7, e8, e9⟩; obtain ⟨s7, z7, rfl⟩ := e7.len; obtain ⟨s8, z8, rfl⟩ := e8.len; obtain ⟨s9, z9, rfl⟩ := e9.len; have h37 := h36.trans h68)
    refine sm ?_
    refine sv (PV.extract rfl rfl) ?_
    refine sv (PV.extract rfl rfl) ?_
    refine sy fun b18 => ?_
    refine T.storeA Wanted.none rfl rfl zq8 (by exact rfl) zq14 zq13 ?_
    refine sa ?_
    refine so ?_
    refine sq ?_
    refine sr ?_
    refine sv (PV.loadAll rfl zq0 (by exact rfl)) ?_
    refine sv (PV.loadAll rfl zq0 (by exact rfl)) ?_
    refine sm ?_
    refine sm ?_
    (refine T.call Wanted.none rfl rfl (a4 _ h37) ?_; rintro _ H76 h76 ⟨_, rfl, u10, u11, u12, rfl, e10, e11, e12⟩; obtain ⟨s10, z10, rfl⟩ := e10.len; obtain ⟨s11, z11, rfl⟩ := e11.len; obtain ⟨s12, z12, rfl⟩ := e12.len; have h38 := h37.trans h76)
    refine sm ?_
    refine sv (PV.extract rfl rfl) ?_
    refine sv (PV.extract rfl rfl) ?_
    refine sy fun b20 => ?_
    refine T.storeA Wanted.none rfl rfl zq8 (by exact rfl) zq14 zq13 ?_
    refine sa ?_
    refine so ?_
    have m51 := (h60.trans h68).trans h76
    have m60 := h68.trans h76
    (repeat refine sq ?_)
    refine T.regionO [(b20, .cells #[.string q.tx, .int .i64 q.off, .slice s10 q.l.length z10, .slice s11 q.m.length z11, .slice s12 q.r.length z12] 45 (0, 0)), (b18, .cells #[.string q.tx, .int .i64 q.off, .slice s7 q.l.length z7, .slice s8 q.m.length z8, .slice s9 q.r.length z9] 45 (0, 0)), (b16, .cells #[.string p.tx, .int .i64 p.off, .slice s4 p.l.length z4, .slice s5 p.m.length z5, .slice s6 p.r.length z6] 45 (0, 0)), (b14, .cells #[.string p.tx, .int .i64 p.off, .slice s1 p.l.length z1, .slice s2 p.m.length z2, .slice s3 p.r.length z3] 45 (0, 0)), (b13, .cells #[.int .i64 m.b, .int .i64 m.e, .slice al m.ls.length cl] 43 (0, 0)), (b9, .cells #[.int .i64 k.at_, .int .i64 k.off, .string k.lb, .string k.nm, .bool k.fold, .bool k.back, .bool k.fall] 35 (0, 0)), (b8, .cells #[c.va, c.vt, c.vx, c.vr, c.vn, c.vh, c.vs] 32 (0, 0))] (by kernel_rfl) ?_
    refine TO.take 0 rfl (by kernel_rfl) (by kernel_rfl) (by kernel_rfl) (PV.move rfl) Wanted.none rfl rfl ?_
    refine TO.take 1 rfl (by kernel_rfl) (by kernel_rfl) (by kernel_rfl) (PV.move rfl) Wanted.none rfl rfl ?_
    refine TO.take 2 rfl (by kernel_rfl) (by kernel_rfl) (by kernel_rfl) (PV.neq rfl rfl) Wanted.none rfl rfl ?_
    refine TO.take 3 rfl (by kernel_rfl) (by kernel_rfl) (by kernel_rfl) (PV.move rfl) Wanted.none rfl rfl ?_
    refine TO.take 4 rfl (by kernel_rfl) (by kernel_rfl) (by kernel_rfl) (PV.loadAll rfl zq0 (by exact rfl)) (Wanted.guard rfl rfl (by assumption)) rfl rfl ?_
    refine TO.take 5 rfl (by kernel_rfl) (by kernel_rfl) (by kernel_rfl) (PV.loadAll rfl zq0 (by exact rfl)) (Wanted.guard rfl rfl (by assumption)) rfl rfl ?_
    refine TO.step 6 rfl (by kernel_rfl) zq4 zq17 ?_
    (refine T.callX (Wanted.guard rfl rfl (by assumption)) rfl rfl (same34 p _ _ _ ⟨_, _, _, rfl, e1.mono m51, e2.mono m51, e3.mono m51⟩ ⟨_, _, _, rfl, e4.mono m60, e5.mono m60, e6.mono m60⟩ b1) ?_; rintro _ rfl)
    refine so ?_
    refine TO.back ?_
    refine TO.take 7 rfl (by kernel_rfl) (by kernel_rfl) (by kernel_rfl) (PV.not rfl) (Wanted.guard rfl rfl (by assumption)) rfl rfl ?_
    refine TO.take 8 rfl (by kernel_rfl) (by kernel_rfl) (by kernel_rfl) (PV.pickF rfl (by assumption) rfl) Wanted.none rfl rfl ?_
    refine TO.take 9 rfl (by kernel_rfl) (by kernel_rfl) (by kernel_rfl) (PV.move rfl) Wanted.none rfl rfl ?_
    refine TO.take 10 rfl (by kernel_rfl) (by kernel_rfl) (by kernel_rfl) (PV.move rfl) (Wanted.guard rfl rfl rfl) rfl rfl ?_
    refine TO.take 11 rfl (by kernel_rfl) (by kernel_rfl) (by kernel_rfl) (PV.move rfl) (Wanted.guard rfl rfl rfl) rfl rfl ?_
    refine TO.take 12 rfl (by kernel_rfl) (by kernel_rfl) (by kernel_rfl) (PV.neq rfl rfl) (Wanted.guard rfl rfl rfl) rfl rfl ?_
    refine TO.take 13 rfl (by kernel_rfl) (by kernel_rfl) (by kernel_rfl) (PV.pickF rfl rfl rfl) Wanted.none rfl rfl ?_
    refine TO.take 14 rfl (by kernel_rfl) (by kernel_rfl) (by kernel_rfl) (PV.move rfl) Wanted.none rfl rfl ?_
    refine TO.take 15 rfl (by kernel_rfl) (by kernel_rfl) (by kernel_rfl) (PV.loadAll rfl zq0 (by exact rfl)) (Wanted.guard rfl rfl (by assumption)) rfl rfl ?_
    refine TO.take 16 rfl (by kernel_rfl) (by kernel_rfl) (by kernel_rfl) (PV.loadAll rfl zq0 (by exact rfl)) (Wanted.guard rfl rfl (by assumption)) rfl rfl ?_
    refine TO.step 17 rfl (by kernel_rfl) zq4 zq17 ?_
    (refine T.callX (Wanted.guard rfl rfl (by assumption)) rfl rfl (same34 q _ _ _ ⟨_, _, _, rfl, e7.mono h76, e8.mono h76, e9.mono h76⟩ ⟨_, _, _, rfl, e10, e11, e12⟩ b2) ?_; rintro _ rfl)
    refine so ?_
    refine TO.back ?_
    refine TO.take 18 rfl (by kernel_rfl) (by kernel_rfl) (by kernel_rfl) (PV.not rfl) (Wanted.guard rfl rfl (by assumption)) rfl rfl ?_
    refine TO.take 19 rfl (by kernel_rfl) (by kernel_rfl) (by kernel_rfl) (PV.pickF rfl (by assumption) rfl) Wanted.none rfl rfl ?_
    refine TO.take 20 rfl (by kernel_rfl) (by kernel_rfl) (by kernel_rfl) (PV.move rfl) Wanted.none rfl rfl ?_
    refine TO.take 21 rfl (by kernel_rfl) (by kernel_rfl) (by kernel_rfl) (PV.loadAll rfl zq0 (by exact rfl)) (Wanted.guard rfl rfl rfl) rfl rfl ?_
    refine TO.take 23 rfl (by kernel_rfl) (by kernel_rfl) (by kernel_rfl) (PV.loadAll rfl zq0 (by exact rfl)) (Wanted.guard rfl rfl rfl) rfl rfl ?_
    refine TO.take 24 rfl (by kernel_rfl) (by kernel_rfl) (by kernel_rfl) (PV.loadAll rfl zq0 (by exact rfl)) (Wanted.guard rfl rfl rfl) rfl rfl ?_
    refine TO.take 26 rfl (by kernel_rfl) (by kernel_rfl) (by kernel_rfl) (PV.loadAll rfl zq0 (by exact rfl)) (Wanted.guard rfl rfl rfl) rfl rfl ?_
    refine TO.take 28 rfl (by kernel_rfl) (by kernel_rfl) (by kernel_rfl) (PV.loadAll rfl zq0 (by exact rfl)) (Wanted.guard rfl rfl rfl) rfl rfl ?_
    refine TO.take 29 rfl (by kernel_rfl) (by kernel_rfl) (by kernel_rfl) (PV.loadAll rfl zq0 (by exact rfl)) (Wanted.guard rfl rfl rfl) rfl rfl ?_
    refine TO.step 22 rfl (by kernel_rfl) zq4 zq17 ?_
    (refine T.call (Wanted.guard rfl rfl rfl) rfl rfl (labels_fn _) ?_; intro v101 H101 hle101 hv101; obtain ⟨ad101, cap101, rfl⟩ := hv101.len)
    refine so ?_
    refine TO.back ?_
    refine TO.step 25 rfl (by kernel_rfl) zq4 zq17 ?_
    (refine T.callX (Wanted.guard rfl rfl rfl) rfl rfl (a5 _ _ (h38.trans zq17) (hv101.mono zq17)) ?_; rintro _ rfl)
    refine so ?_
    refine TO.back ?_
    refine TO.step 27 rfl (by kernel_rfl) zq4 zq17 ?_
    (refine T.call (Wanted.guard rfl rfl rfl) rfl rfl (labels_fn _) ?_; intro v106 H106 hle106 hv106; obtain ⟨ad106, cap106, rfl⟩ := hv106.len)
    refine so ?_
    refine TO.back ?_
    refine TO.step 30 rfl (by kernel_rfl) zq4 zq17 ?_
    (refine T.callX (Wanted.guard rfl rfl rfl) rfl rfl (a6 _ _ (h38.trans zq17) (hv106.mono zq17)) ?_; rintro _ rfl)
    refine so ?_
    refine TO.back ?_
    refine TO.take 31 rfl (by kernel_rfl) (by kernel_rfl) (by kernel_rfl) (PV.sneq rfl rfl) (Wanted.guard rfl rfl rfl) rfl rfl ?_
    refine TO.take 32 rfl (by kernel_rfl) (by kernel_rfl) (by kernel_rfl) (PV.pickF rfl rfl rfl) Wanted.none rfl rfl ?_
    refine TO.done (by kernel_rfl) zq4 zq17 ?_
    refine T.condF rfl (by assumption) ?_
    refine T.skip ?_
    refine T.blkEnd ?_
    refine sr ?_
    refine sv (PV.add rfl rfl (by omega)) ?_
    refine sm ?_
    refine so ?_
    (exact T.nextP ⟨i + 1, _⟩ ⟨by dsimp only; omega, (g2.trans h38).trans zq17⟩ (by dsimp only; omega) zq8 (by repeat (first | exact Sel.refl _ | exact Sel.nil | (refine Sel.cons zq1 ?_) | (refine Sel.app zq1 ?_) | exact Sel.one zq1)) rfl)
  · have kn := known_fn H3
    refine sq ?_
    refine sr ?_
    refine sv (PV.lss rfl rfl) ?_
    refine so ?_
    refine sq ?_
    refine sd rfl (by omega) ?_
    refine T.exit rfl ?_
    refine sq ?_
    refine sr ?_
    refine T.callV Wanted.none rfl rfl (kn) ?_
    refine sa ?_
    refine so ?_
    exact T.retF (Lv.fin (RV.tmp rfl rfl) rfl)
end Go.Proofs.Ytlklcjpmfjmenaa
