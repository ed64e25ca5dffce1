/- lines: the statement Nested. -/
import Derived.Test.YtlklcjpmfjmenaaGreatDoorFE6
import Derived.Test.YtlklcjpmfjmenaaGreatDoorGC
namespace Go.Proofs.YtlklcjpmfjmenaaGreatDoor
open Go.RowKit

set_option maxHeartbeats 8000000 in
theorem nested_law (l : List Int) (v : Value) (seed n : Int) (H : Hp) (hT : PowT H) (hv : InL H v l) (hl : l.length ≤ 9223372036854775807) (hr : ∀ x ∈ l, -9223372036854775808 ≤ x ∧ x ≤ 9223372036854775807) (hs : -9223372036854775808 ≤ seed ∧ seed ≤ 9223372036854775807) (hn : -9223372036854775808 ≤ n ∧ n ≤ 9223372036854775807) :
    Fn Tryz.prog 4 #[v, .int .i64 seed, .int .i64 n] H (fun u _ => u = .bool true) := by
  refine Fn.of_T (vs := [v, .int .i64 seed, .int .i64 n]) Tryz.func4 rfl rfl fun w => ?_
  refine sq ?_
  refine sr ?_
  refine sa ?_
  refine so ?_
  refine sq ?_
  refine sr ?_
  refine sm ?_
  refine T.callW (l0 := []) Wanted.none rfl rfl (new_fn l v H hv hl hr) zq1 ?_
  rintro _ _ _ _ ⟨rfl, bt, t, rfl, ht0, rfl⟩
  refine sa ?_
  refine so ?_
  refine sq ?_
  refine sr ?_
  refine sm ?_
  refine T.callW Wanted.none rfl rfl (corpus_fnN bt t 7 H ht0 (by omega)) zq1 ?_
  rintro _ H1 _ hle1 ⟨t1, c, rfl, ht1, hc, hg, hb, hnm, rfl⟩
  have hw := hg.wide
  have hmt := matches_fn bt t1 c 0 10 H1 ht1 hc hg hb (by omega) (by omega)
  rw [show ((0 : Nat) : Int) = 0 from rfl] at hmt
  unfold cpV at hmt ⊢
  refine sy fun b8 => ?_
  (refine T.storeA Wanted.none rfl rfl (cp_one hc) (by exact rfl) zq14 zq13 ?_)
  refine so ?_
  refine sq ?_
  refine sr ?_
  refine sm ?_
  refine sv (PV.loadAll rfl zq0 (by exact rfl)) ?_
  (refine T.callW Wanted.none rfl rfl hmt zq1 ?_; rintro _ H2 _ hle2 ⟨t3, L, ht3, hL, hLn, hfit, rfl⟩; obtain ⟨aL, cL, rfl⟩ := hL.1.len)
  refine sa ?_
  refine so ?_
  have hLl : L.length ≤ 10 := by omega
  have hls : ∀ m ∈ L, m.ls.length ≤ 1000 := fun m hm => by have := (hfit m hm).2.1; omega
  have hc2 := hc.mono hle2
  have hT2 := hT.mono (hle1.trans hle2)
  have md := mod_fn n 10 H2 hn (by omega)
  have hm0 : 0 ≤ n % 10 ∧ n % 10 < 10 := ⟨Int.emod_nonneg _ (by omega), Int.emod_lt_of_pos _ (by omega)⟩
  generalize n % 10 = q at md hm0
  obtain ⟨u, hu⟩ : ∃ u : Nat, q = (u : Int) := ⟨q.toNat, by omega⟩
  subst hu
  have hk : ((u : Int)).tdiv 2 = ((u / 2 : Nat) : Int) := rfl
  have hfo : ∀ m ∈ L, (fitO c m).isSome = true := fun m hm => by
    obtain ⟨t, ht⟩ := fits_fitO hg (hfit m hm)
    rw [ht]; rfl
  have z1 : smpE c L (u : Int) = 0 := by unfold smpE; rw [if_neg (by omega), if_pos (List.all_eq_true.2 hfo)]
  have z3 : smpE c L ((u / 2 : Nat) : Int) = 0 := by unfold smpE; rw [if_neg (by omega), if_pos (List.all_eq_true.2 hfo)]
  have s1 := sample_in c L (.slice aL L.length cL) seed (u : Int) H2 hc2 hw hL (by omega) hls hT2 hs hnm
  have s3 := fun H' (h : H2.le H') => sample_in c L (.slice aL L.length cL) seed ((u / 2 : Nat) : Int) H' (hc2.mono h) hw (hL.mono h) (by omega) hls (hT2.mono h) hs hnm
  rw [z1] at s1
  rw [z3] at s3
  unfold cpV at s1 s3
  refine sq ?_
  refine sr ?_
  refine sm ?_
  refine T.callV Wanted.none rfl rfl (md) ?_
  refine sa ?_
  refine so ?_
  refine sq ?_
  refine sr ?_
  refine sm ?_
  refine sv (PV.quo rfl rfl (by omega) (by omega)) ?_
  refine sa ?_
  refine so ?_
  rw [hk]
  refine sq ?_
  refine sr ?_
  refine sv (PV.loadAll rfl zq0 (by exact rfl)) ?_
  refine sm ?_
  refine sm ?_
  refine sm ?_
  (refine T.call Wanted.none rfl rfl s1 ?_; rintro _ H33 h33 ⟨_, A1, rfl, hA1, qa1, qb1⟩; obtain ⟨aa1, ca1, rfl⟩ := hA1.1.len)
  refine sm ?_
  refine sv (PV.extract rfl rfl) ?_
  refine sv (PV.extract rfl rfl) ?_
  refine sa ?_
  refine sa ?_
  refine so ?_
  have qa1 := qa1 rfl
  rw [Int.toNat_natCast] at qa1
  have hl1 := smp_len qa1
  have hms := smp_mem qa1
  have hls1 : ∀ a ∈ A1, a.ls.length ≤ 1000 := fun a ha => by
    obtain ⟨m, hm, e⟩ := hms a ha
    rw [(mt_key e).2.2]; exact hls m hm
  have hfo1 : ∀ a ∈ A1, (fitO c a).isSome = true := fun a ha => by
    obtain ⟨m, hm, e⟩ := hms a ha
    rw [fitO_key c e]; exact hfo m hm
  have z2 : smpE c A1 ((u / 2 : Nat) : Int) = 0 := by unfold smpE; rw [if_neg (by omega), if_pos (List.all_eq_true.2 hfo1)]
  have s2 := sample_in c A1 (.slice aa1 A1.length ca1) seed ((u / 2 : Nat) : Int) H33 (hc2.mono h33) hw hA1 (by omega) hls1 (hT2.mono h33) hs hnm
  rw [z2] at s2
  unfold cpV at s2
  refine sq ?_
  refine sr ?_
  refine sv (PV.loadAll rfl zq0 (by exact rfl)) ?_
  refine sm ?_
  refine sm ?_
  refine sm ?_
  (refine T.call Wanted.none rfl rfl s2 ?_; rintro _ H41 h41 ⟨_, A2, rfl, hA2, qa2, qb2⟩; obtain ⟨aa2, ca2, rfl⟩ := hA2.1.len; have h4b := h33.trans h41)
  refine sm ?_
  refine sv (PV.extract rfl rfl) ?_
  refine sv (PV.extract rfl rfl) ?_
  refine sa ?_
  refine sa ?_
  refine so ?_
  refine sq ?_
  refine sr ?_
  refine sv (PV.loadAll rfl zq0 (by exact rfl)) ?_
  refine sm ?_
  refine sm ?_
  refine sm ?_
  (refine T.call Wanted.none rfl rfl (s3 _ h4b) ?_; rintro _ H49 h49 ⟨_, A3, rfl, hA3, qa3, qb3⟩; obtain ⟨aa3, ca3, rfl⟩ := hA3.1.len)
  refine sm ?_
  refine sv (PV.extract rfl rfl) ?_
  refine sv (PV.extract rfl rfl) ?_
  refine sa ?_
  refine sa ?_
  refine so ?_
  have qa2 := qa2 rfl
  have qa3 := qa3 rfl
  rw [Int.toNat_natCast] at qa2 qa3
  have e23 : A2.map keyM = A3.map keyM := by rw [qa2, qa3]; exact smp_smp qa1 (Nat.div_le_self _ _)
  have hl2 := smp_len qa2
  have k1 := same24_fn A2 A3 (.slice aa2 A2.length ca2) (.slice aa3 A3.length ca3) H49 (hA2.mono h49) hA3 (by omega)
  rw [decide_eq_true e23] at k1
  have kn := known_fn H49
  have hmin : decide ((A1.length : Int) = min (u : Int) (L.length : Int)) = true := decide_eq_true (by omega)
  refine sq ?_
  refine sr ?_
  refine sm ?_
  refine sv (PV.eql rfl rfl) ?_
  refine sm ?_
  refine gm ?_
  refine gv (PV.eql rfl rfl) ?_
  refine sT ?_
  refine sm ?_
  refine gm ?_
  refine gv (PV.eql rfl rfl) ?_
  refine sT ?_
  refine sm ?_
  refine gm ?_
  refine gm ?_
  refine T.callV (Wanted.guard rfl rfl rfl) rfl rfl (k1) ?_
  refine sT ?_
  refine sm ?_
  refine gm ?_
  refine gv (PV.lenSl rfl) ?_
  refine gm ?_
  refine gm ?_
  refine gv (PV.lenSl rfl) ?_
  refine gv (PV.min2 rfl rfl) ?_
  refine gv (PV.eql rfl rfl) ?_
  refine sT ?_
  refine sm ?_
  refine T.callV (Wanted.guard rfl rfl (by assumption)) rfl rfl (kn) ?_
  refine sv (PV.pickT rfl (by assumption) rfl) ?_
  refine sa ?_
  refine so ?_
  exact T.retF (Lv.fin (RV.tmp rfl rfl) rfl)
end Go.Proofs.YtlklcjpmfjmenaaGreatDoor
