/- lines: the statement Stable. -/
import Derived.Test.YtlklcjpmfjmenaaFKN
import Derived.Test.YtlklcjpmfjmenaaFKQ
import Derived.Test.YtlklcjpmfjmenaaFKF
namespace Go.Proofs.Ytlklcjpmfjmenaa
open Go.RowKit

theorem key_ok {c : Cp} (hg : CpG c) {ks : List Ky} (hk : ∀ k ∈ ks, KyG k) (hl : ks.length ≤ 8) : keyErr c [bs [120]] ks = 0 := by
  have h1 : ¬ ks.any badK = true := by
    rw [List.any_eq_true]
    rintro ⟨k, hm, hb⟩
    obtain ⟨⟨a1, a2⟩, a3, _⟩ := hk k hm
    unfold badK at hb
    rw [decide_eq_false (by omega), decide_eq_false (by omega)] at hb
    by_cases h3 : k.at_ = 3
    · rw [decide_eq_false (by simp [h3])] at hb; simp at hb
    · rw [if_neg h3] at a3
      rw [a3] at hb
      have : decide (bs [] ≠ ⟨#[]⟩) = false := rfl
      rw [this] at hb
      simp at hb
  have h2 : ¬ ks.any (nameK c) = true := by
    rw [List.any_eq_true]
    rintro ⟨k, hm, hb⟩
    obtain ⟨_, _, a4⟩ := hk k hm
    unfold nameK at hb
    rw [hg.att] at hb
    rcases a4 with h | h <;> (rw [h] at hb; revert hb; decide)
  have h3 : ¬ ks.any (lostK [bs [120]]) = true := by
    rw [List.any_eq_true]
    rintro ⟨k, hm, hb⟩
    obtain ⟨_, a3, _⟩ := hk k hm
    unfold lostK at hb
    by_cases h3 : k.at_ = 3
    · rw [if_pos h3] at a3
      rw [a3] at hb
      simp at hb
    · rw [decide_eq_false h3] at hb; simp at hb
  unfold keyErr
  rw [if_neg (by omega), if_neg h1, if_neg h2, if_neg h3]
theorem fitsM_mk3 {c : Cp} {lb : List ByteArray} {a b : Mt} (h : mk3 a = mk3 b) : fitsM c lb a = fitsM c lb b := by
  show fitsM c lb (unK (mk3 a)) = fitsM c lb (unK (mk3 b))
  rw [h]
theorem mem_mk3 {l m : List Mt} {f : List K3 → List K3} (hf : ∀ x, (f x).Perm x) (h : l.map mk3 = f (m.map mk3)) {a : Mt} (ha : a ∈ l) : ∃ b ∈ m, mk3 a = mk3 b := by
  have h1 : mk3 a ∈ l.map mk3 := List.mem_map.2 ⟨a, ha, rfl⟩
  rw [h] at h1
  obtain ⟨b, hb, e⟩ := List.mem_map.1 ((hf _).mem_iff.1 h1)
  exact ⟨b, hb, e.symm⟩
theorem sort_ok {c : Cp} {lb : List ByteArray} {L : List Mt} {ks : List Ky} {vl vm vk : Value} {H : Hp} (hc : CpL H c) (hw : CpW c) (hlb : StL H vl lb) (hL : MtL H vm L) (hk : KyL H vk ks) (hll : lb.length ≤ 1000) (hLl : L.length ≤ 19) (hkl : ks.length ≤ 1000000) (hls : ∀ m ∈ L, m.ls.length ≤ 1000) (he : keyErr c lb ks = 0) (hf : ∀ m ∈ L, fitsM c lb m = true) :
    Fn Try.prog 22 #[cpV c, vl, vm, vk] H (fun u H' => ∃ v L', u = .tuple #[v, .int .i64 0] ∧ MtL H' v L' ∧ L'.map mk3 = sortT c lb ks (L.map mk3)) := by
  have h0 : srtE c lb ks L = 0 := by unfold srtE; rw [if_neg (by simpa using he), if_pos (List.all_eq_true.2 hf)]
  refine (sort_in c lb L ks vl vm vk H hc hw hlb hL hk hll hLl hkl hls).mono ?_
  rintro u H' ⟨v, L', rfl, h1, h2, _⟩
  exact ⟨v, L', by rw [h0], h1, by rw [h2 h0, sortM_T]⟩
theorem key_of_mk3 {l m : List Mt} (h : l.map mk3 = m.map mk3) : l.map keyM = m.map keyM := by
  have hk : ∀ l : List Mt, l.map keyM = (l.map mk3).map fun x => x.1 :: x.2.1 :: x.2.2 := by
    intro l; rw [List.map_map]; rfl
  rw [hk, hk, h]
set_option maxHeartbeats 4000000 in
theorem stable_law (l n : List Int) (v u : Value) (turn : Int) (H : Hp) (hv : InL H v l) (hl : l.length ≤ 9223372036854775807) (hr : ∀ x ∈ l, -9223372036854775808 ≤ x ∧ x ≤ 9223372036854775807) (hv2 : InL H u n) (hl2 : n.length ≤ 9223372036854775807) (hr2 : ∀ x ∈ n, -9223372036854775808 ≤ x ∧ x ≤ 9223372036854775807) (ht : -9223372036854775808 ≤ turn ∧ turn ≤ 9223372036854775807) :
    Fn Try.prog 4 #[v, u, .int .i64 turn] H (fun u _ => u = .bool true) := by
  refine Fn.of_T (vs := [v, u, .int .i64 turn]) Try.func4 rfl rfl fun w => ?_
  refine sq ?_
  refine sr ?_
  refine sa ?_
  refine so ?_
  refine sq ?_
  refine sr ?_
  refine sm ?_
  refine T.callW (l0 := []) Wanted.none rfl rfl (new_fn l v H hv hl hr) zq1 ?_
  rintro _ _ _ _ ⟨rfl, bt, t, rfl, ht0, rfl⟩
  refine sa ?_
  refine so ?_
  refine sq ?_
  refine sr ?_
  refine sm ?_
  refine T.callW Wanted.none rfl rfl (corpus_fn bt t 7 H ht0 (by omega)) zq1 ?_
  rintro _ H1 _ hle1 ⟨t1, c, rfl, ht1, hc, hg, hb, rfl⟩
  have hw := hg.wide
  have hmt := matches_fn bt t1 c 1 9 H1 ht1 hc hg hb (by omega) (by omega)
  rw [show ((1 : Nat) : Int) = 1 from rfl] at hmt
  unfold cpV at hmt ⊢
  refine sy fun b8 => ?_
  (refine T.storeA Wanted.none rfl rfl (cp_one hc) (by exact rfl) zq14 zq13 ?_)
  refine so ?_
  refine sq ?_
  refine sr ?_
  refine sm ?_
  refine sv (PV.loadAll rfl zq0 (by exact rfl)) ?_
  (refine T.callW Wanted.none rfl rfl hmt zq1 ?_; rintro _ H2 _ hle2 ⟨t3, L, ht3, hL, hLn, hfit, rfl⟩; obtain ⟨aL, cL, rfl⟩ := hL.1.len)
  refine sa ?_
  refine so ?_
  have hLl : L.length ≤ 9 := by omega
  have hls : ∀ m ∈ L, m.ls.length ≤ 1000 := fun m hm => by have := (hfit m hm).2.1; omega
  have hfM : ∀ m ∈ L, fitsM c [bs [120]] m = true := fun m hm => fits_fitsM hg (hfit m hm) _ rfl
  refine sq ?_
  refine sr ?_
  refine sm ?_
  (refine T.callW (l0 := []) Wanted.none rfl rfl (new_fn n u H2 (hv2.mono (hle1.trans hle2)) hl2 hr2) zq1 ?_; rintro _ _ _ _ ⟨rfl, bt2, t4, rfl, ht4, rfl⟩)
  (refine T.callW Wanted.none rfl rfl (key_fn _ _ _ ?_) zq1 ?_; (focus assumption); rintro _ _ _ _ ⟨rfl, k, t5, rfl, hk, ht5, rfl⟩; unfold kyV)
  (refine T.buildSlice Wanted.none rfl rfl zq11 (by exact rfl) (by exact rfl) ?_; intro b29)
  refine sa ?_
  refine so ?_
  by_cases h0 : L.length = 0
  · have h0' : (L.length : Int) = 0 := by omega
    have kn := known_fn H2
    refine sq ?_
    refine sq ?_
    refine sr ?_
    refine sm ?_
    refine sv (PV.lenSl rfl) ?_
    refine sv (PV.eql rfl rfl) ?_
    refine so ?_
    refine sc rfl (by omega) ?_
    refine sq ?_
    refine sr ?_
    refine T.callV Wanted.none rfl rfl (kn) ?_
    refine sa ?_
    refine so ?_
    exact T.retF (Lv.fin (RV.tmp rfl rfl) rfl)
  have h0' : ¬ (L.length : Int) = 0 := by omega
  have hmo := mod_fn turn L.length H2 ht (by omega)
  obtain ⟨r, hre⟩ : ∃ r : Nat, turn % (L.length : Int) = (r : Int) := ⟨(turn % (L.length : Int)).toNat, by have := Int.emod_nonneg turn (b := (L.length : Int)) (by omega); omega⟩
  have hrl : r ≤ L.length := by have := Int.emod_lt_of_pos turn (b := (L.length : Int)) (by omega); omega
  rw [hre] at hmo
  refine sq ?_
  refine sq ?_
  refine sr ?_
  refine sm ?_
  refine sv (PV.lenSl rfl) ?_
  refine sv (PV.eql rfl rfl) ?_
  refine so ?_
  refine sd rfl (by omega) ?_
  refine T.skip ?_
  refine sq ?_
  refine sr ?_
  refine sm ?_
  refine sm ?_
  refine sv (PV.lenSl rfl) ?_
  refine T.callV Wanted.none rfl rfl (hmo) ?_
  refine sa ?_
  refine so ?_
  have hcap := hL.1.cap
  have hokD : ∀ m ∈ L.drop r, LabOk H2 m := fun m hm => hL.2 m (List.mem_of_mem_drop hm)
  have hokT : ∀ m ∈ L.take r, LabOk H2 m := fun m hm => hL.2 m (List.mem_of_mem_take hm)
  (repeat refine sq ?_)
  refine T.regionO [] (by kernel_rfl) ?_
  refine TO.take 1 rfl (by kernel_rfl) (by kernel_rfl) (by kernel_rfl) (PV.move rfl) Wanted.none rfl rfl ?_
  refine TO.take 2 rfl (by kernel_rfl) (by kernel_rfl) (by kernel_rfl) (PV.move rfl) Wanted.none rfl rfl ?_
  refine TO.take 3 rfl (by kernel_rfl) (by kernel_rfl) (by kernel_rfl) (PV.sliceL rfl rfl (by omega)) Wanted.none rfl rfl ?_
  refine TO.take 5 rfl (by kernel_rfl) (by kernel_rfl) (by kernel_rfl) (PV.move rfl) Wanted.none rfl rfl ?_
  refine TO.take 6 rfl (by kernel_rfl) (by kernel_rfl) (by kernel_rfl) (PV.move rfl) Wanted.none rfl rfl ?_
  refine TO.take 7 rfl (by kernel_rfl) (by kernel_rfl) (by kernel_rfl) (PV.sliceH rfl rfl (by omega)) Wanted.none rfl rfl ?_
  refine TO.step 0 rfl (by kernel_rfl) zq4 zq17 ?_
  (refine T.buildSlice Wanted.none rfl rfl zq11 (by exact rfl) (by exact rfl) ?_; intro b38)
  refine so ?_
  refine TO.back ?_
  refine TO.step 4 rfl (by kernel_rfl) zq4 zq17 ?_
  (refine T.appendP (lv := []) Wanted.none rfl rfl rfl (Vec.empty 43 3 _) (MtS.suf hL.1 hrl).src (one_flatM hokD) (by omega) zq1 ?_; intro v42 lv42 hv42 _; obtain ⟨ad42, cap42, rfl⟩ := hv42.val)
  refine so ?_
  refine TO.back ?_
  refine TO.step 8 rfl (by kernel_rfl) zq4 zq17 ?_
  (refine T.appendP (lv := lv42) Wanted.none rfl rfl rfl hv42 (MtS.pre hL.1 hrl).src (one_flatM hokT) (by omega) zq1 ?_; intro v46 lv46 hv46 _; obtain ⟨ad46, cap46, rfl⟩ := hv46.val)
  refine so ?_
  refine TO.back ?_
  refine TO.take 9 rfl (by kernel_rfl) (by kernel_rfl) (by kernel_rfl) (PV.assign rfl) Wanted.none rfl rfl ?_
  refine TO.done (by kernel_rfl) zq4 zq17 ?_
  refine T.freezeP (lv := lv46) hv46 zq1 ?_
  intro H3 h23 hT3
  refine T.freezeB (b := b29) zq1 ?_
  intro H4 h34 hk4
  have h24 := h23.trans h34
  have hTl : (L.drop r ++ L.take r).length = 0 + (L.length - r) + r := by rw [List.length_append, List.length_drop, List.length_take]; omega
  have hTm : MtL H4 (.slice ad46 (L.drop r ++ L.take r).length cap46) (L.drop r ++ L.take r) := by
    refine ⟨?_, fun m hm => ?_⟩
    · rw [hTl, List.flatMap_append]
      simpa using hT3.mono h34
    · rcases List.mem_append.1 hm with h | h
      · exact (hokD m h).mono h24
      · exact (hokT m h).mono h24
  rw [← hTl]
  have hK4 : KyL H4 (.slice (some ⟨b29, 0, none⟩) 1 1) [k] := ⟨rfl, .inr ⟨b29, 0, 1, _, _, _, rfl, hk4, rfl, Nat.le_refl 1⟩⟩
  have hTin : ∀ m ∈ L.drop r ++ L.take r, m ∈ L := fun m hm => by
    rcases List.mem_append.1 hm with h | h
    · exact List.mem_of_mem_drop h
    · exact List.mem_of_mem_take h
  have hkk : keyErr c [bs [120]] [k] = 0 := key_ok hg (by intro x hx; rw [List.mem_singleton] at hx; subst hx; exact hk) (by simp)
  have hk0 : keyErr c [bs [120]] [] = 0 := key_ok hg (by intro x hx; cases hx) (by simp)
  have hc4 := hc.mono (hle2.trans h24)
  have s1 := fun H' vl (h : H4.le H') (hl : StL H' vl [bs [120]]) => sort_ok (hc4.mono h) hw hl (hL.mono (h24.trans h)) (hK4.mono h) (by simp) (by omega) (by simp) hls hkk hfM
  have s2 := fun H' vl (h : H4.le H') (hl : StL H' vl [bs [120]]) => sort_ok (hc4.mono h) hw hl (hTm.mono h) (hK4.mono h) (by simp) (by rw [hTl]; omega) (by simp) (fun m hm => hls m (hTin m hm)) hkk (fun m hm => hfM m (hTin m hm))
  unfold cpV at s1 s2
  (repeat refine sq ?_)
  refine T.regionO [(b8, .cells #[c.va, c.vt, c.vx, c.vr, c.vn, c.vh, c.vs] 32 (0, 0))] (by kernel_rfl) ?_
  refine TO.take 0 rfl (by kernel_rfl) (by kernel_rfl) (by kernel_rfl) (PV.loadAll rfl zq0 (by exact rfl)) Wanted.none rfl rfl ?_
  refine TO.take 2 rfl (by kernel_rfl) (by kernel_rfl) (by kernel_rfl) (PV.move rfl) Wanted.none rfl rfl ?_
  refine TO.take 3 rfl (by kernel_rfl) (by kernel_rfl) (by kernel_rfl) (PV.move rfl) Wanted.none rfl rfl ?_
  refine TO.step 1 rfl (by kernel_rfl) zq4 zq17 ?_
  (refine T.call Wanted.none rfl rfl (labels_fn _) ?_; intro v49 H49 hle49 hv49; obtain ⟨ad49, cap49, rfl⟩ := hv49.len)
  refine so ?_
  refine TO.back ?_
  refine TO.step 4 rfl (by kernel_rfl) zq4 zq17 ?_
  (refine T.call Wanted.none rfl rfl (s1 _ _ zq17 (hv49.mono zq17)) ?_; rintro _ H52 h52 ⟨_, La, rfl, hLa, qa⟩; obtain ⟨aa, ca, rfl⟩ := hLa.1.len; have h4a := hle49.trans h52)
  refine so ?_
  refine TO.back ?_
  refine TO.take 5 rfl (by kernel_rfl) (by kernel_rfl) (by kernel_rfl) (PV.move rfl) Wanted.none rfl rfl ?_
  refine TO.take 6 rfl (by kernel_rfl) (by kernel_rfl) (by kernel_rfl) (PV.extract rfl rfl) Wanted.none rfl rfl ?_
  refine TO.take 7 rfl (by kernel_rfl) (by kernel_rfl) (by kernel_rfl) (PV.extract rfl rfl) Wanted.none rfl rfl ?_
  refine TO.take 8 rfl (by kernel_rfl) (by kernel_rfl) (by kernel_rfl) (PV.assign rfl) Wanted.none rfl rfl ?_
  refine TO.take 9 rfl (by kernel_rfl) (by kernel_rfl) (by kernel_rfl) (PV.assign rfl) Wanted.none rfl rfl ?_
  refine TO.done (by kernel_rfl) zq4 zq17 ?_
  (repeat refine sq ?_)
  refine T.regionO [(b8, .cells #[c.va, c.vt, c.vx, c.vr, c.vn, c.vh, c.vs] 32 (0, 0))] (by kernel_rfl) ?_
  refine TO.take 0 rfl (by kernel_rfl) (by kernel_rfl) (by kernel_rfl) (PV.loadAll rfl zq0 (by exact rfl)) Wanted.none rfl rfl ?_
  refine TO.take 2 rfl (by kernel_rfl) (by kernel_rfl) (by kernel_rfl) (PV.move rfl) Wanted.none rfl rfl ?_
  refine TO.take 3 rfl (by kernel_rfl) (by kernel_rfl) (by kernel_rfl) (PV.move rfl) Wanted.none rfl rfl ?_
  refine TO.step 1 rfl (by kernel_rfl) zq4 zq17 ?_
  (refine T.call Wanted.none rfl rfl (labels_fn _) ?_; intro v57 H57 hle57 hv57; obtain ⟨ad57, cap57, rfl⟩ := hv57.len)
  refine so ?_
  refine TO.back ?_
  refine TO.step 4 rfl (by kernel_rfl) zq4 zq17 ?_
  (refine T.call Wanted.none rfl rfl (s2 _ _ (h4a.trans zq17) (hv57.mono zq17)) ?_; rintro _ H60 h60 ⟨_, Lb, rfl, hLb, qb⟩; obtain ⟨ab, cb, rfl⟩ := hLb.1.len; have h5b := hle57.trans h60)
  refine so ?_
  refine TO.back ?_
  refine TO.take 5 rfl (by kernel_rfl) (by kernel_rfl) (by kernel_rfl) (PV.move rfl) Wanted.none rfl rfl ?_
  refine TO.take 6 rfl (by kernel_rfl) (by kernel_rfl) (by kernel_rfl) (PV.extract rfl rfl) Wanted.none rfl rfl ?_
  refine TO.take 7 rfl (by kernel_rfl) (by kernel_rfl) (by kernel_rfl) (PV.extract rfl rfl) Wanted.none rfl rfl ?_
  refine TO.take 8 rfl (by kernel_rfl) (by kernel_rfl) (by kernel_rfl) (PV.assign rfl) Wanted.none rfl rfl ?_
  refine TO.take 9 rfl (by kernel_rfl) (by kernel_rfl) (by kernel_rfl) (PV.assign rfl) Wanted.none rfl rfl ?_
  refine TO.done (by kernel_rfl) zq4 zq17 ?_
  have hal : La.length = L.length := by have := congrArg List.length qa; rw [List.length_map, sortT, sortK_length, List.length_map] at this; exact this
  have hain : ∀ m ∈ La, ∃ m' ∈ L, mk3 m = mk3 m' := fun m hm => mem_mk3 (f := sortT c [bs [120]] [k]) (fun x => sortK_perm _ x) qa hm
  have hals : ∀ m ∈ La, m.ls.length ≤ 1000 := fun m hm => by
    obtain ⟨m', hm', e⟩ := hain m hm
    have e2 := congrArg (fun t => t.2.2.length) e
    have := hls m' hm'
    simp only [mk3] at e2
    omega
  have hafM : ∀ m ∈ La, fitsM c [bs [120]] m = true := fun m hm => by
    obtain ⟨m', hm', e⟩ := hain m hm
    rw [fitsM_mk3 e]; exact hfM m' hm'
  have qab : La.map keyM = Lb.map keyM := by
    refine key_of_mk3 ?_
    rw [qa, qb]
    refine sortT_perm (List.Perm.map _ ?_)
    have h := List.perm_append_comm (l₁ := L.take r) (l₂ := L.drop r)
    rwa [List.take_append_drop] at h
  have s3 := fun H' vl (h : H60.le H') (hl : StL H' vl [bs [120]]) => sort_ok (ks := []) (vk := .slice none 0 0) (hc4.mono ((h4a.trans h5b).trans h)) hw hl (hLa.mono (h5b.trans h)) SlR.empty (by simp) (by omega) (by simp) hals hk0 hafM
  unfold cpV at s3
  (repeat refine sq ?_)
  refine T.regionO [(b8, .cells #[c.va, c.vt, c.vx, c.vr, c.vn, c.vh, c.vs] 32 (0, 0))] (by kernel_rfl) ?_
  refine TO.take 0 rfl (by kernel_rfl) (by kernel_rfl) (by kernel_rfl) (PV.loadAll rfl zq0 (by exact rfl)) Wanted.none rfl rfl ?_
  refine TO.take 2 rfl (by kernel_rfl) (by kernel_rfl) (by kernel_rfl) (PV.move rfl) Wanted.none rfl rfl ?_
  refine TO.step 1 rfl (by kernel_rfl) zq4 zq17 ?_
  (refine T.call Wanted.none rfl rfl (labels_fn _) ?_; intro v65 H65 hle65 hv65; obtain ⟨ad65, cap65, rfl⟩ := hv65.len)
  refine so ?_
  refine TO.back ?_
  refine TO.step 3 rfl (by kernel_rfl) zq4 zq17 ?_
  (refine T.call Wanted.none rfl rfl (s3 _ _ zq17 (hv65.mono zq17)) ?_; rintro _ H67 h67 ⟨_, Lp, rfl, hLp, qp⟩; obtain ⟨ap, cp, rfl⟩ := hLp.1.len; have h6c := hle65.trans h67)
  refine so ?_
  refine TO.back ?_
  refine TO.take 4 rfl (by kernel_rfl) (by kernel_rfl) (by kernel_rfl) (PV.move rfl) Wanted.none rfl rfl ?_
  refine TO.take 5 rfl (by kernel_rfl) (by kernel_rfl) (by kernel_rfl) (PV.extract rfl rfl) Wanted.none rfl rfl ?_
  refine TO.take 6 rfl (by kernel_rfl) (by kernel_rfl) (by kernel_rfl) (PV.extract rfl rfl) Wanted.none rfl rfl ?_
  refine TO.take 7 rfl (by kernel_rfl) (by kernel_rfl) (by kernel_rfl) (PV.assign rfl) Wanted.none rfl rfl ?_
  refine TO.take 8 rfl (by kernel_rfl) (by kernel_rfl) (by kernel_rfl) (PV.assign rfl) Wanted.none rfl rfl ?_
  refine TO.done (by kernel_rfl) zq4 zq17 ?_
  have hpl : Lp.length = L.length := by have := congrArg List.length qp; rw [List.length_map, sortT, sortK_length, List.length_map] at this; omega
  have hps : (Lp.map mk3).Pairwise (fun a b => ltT c [bs [120]] [] b a = false) := by rw [qp]; exact sortK_sorted (ltT_ord c [bs [120]] []) _
  have hcmp : ∀ (i j : Nat) a b, i < j → Lp[i]? = some a → Lp[j]? = some b → cmpL (keyM a) (keyM b) ≤ 0 := by
    intro i j a b hij ha hb
    obtain ⟨h1, e1⟩ := List.getElem?_eq_some_iff.1 ha
    obtain ⟨h2, e2⟩ := List.getElem?_eq_some_iff.1 hb
    have := List.pairwise_iff_getElem.1 hps i j (by rw [List.length_map]; exact h1) (by rw [List.length_map]; exact h2) hij
    rw [List.getElem_map, List.getElem_map, e1, e2] at this
    simp only [ltT, decide_eq_false_iff_not] at this
    have h3 : cmpT c [bs [120]] [] (mk3 b) (mk3 a) = cmpL (keyM b) (keyM a) := rfl
    have h4 := cmpL_neg (keyM a) (keyM b)
    omega
  clear s1 s2 s3
  refine sq ?_
  refine sq ?_
  refine sr ?_
  refine sa ?_
  refine so ?_
  refine T.block ?_
  refine T.loopK [(17, Value.int IntKind.i64 0), (16, Value.slice ap Lp.length cp), (15, Value.int IntKind.i64 0), (14, Value.slice ab Lb.length cb), (13, Value.int IntKind.i64 0), (12, Value.slice aa La.length ca), (9, Value.slice aL L.length cL)] zq8 (γ := Nat) (fun i => 1 ≤ i) (fun i => [(18, .int .i64 (i : Int))]) (fun _ => []) (fun _ => H67) (fun i => Lp.length - i) 1 (Nat.le_refl 1) zq8 (by repeat (first | exact Sel.refl _ | exact Sel.nil | (refine Sel.cons zq1 ?_) | (refine Sel.app zq1 ?_) | exact Sel.one zq1)) rfl ?_
  intro i hi1
  by_cases hi : i < Lp.length
  · obtain ⟨j, rfl⟩ : ∃ j, i = j + 1 := ⟨i - 1, by omega⟩
    obtain ⟨bx, off, a, rfl, hax, hsuba⟩ := RowL.get encM_len hLp.1 (i := (((j + 1 : Nat) : Int) - 1).toNat) (by omega)
    obtain ⟨bx2, off2, b, e12, hbx, hsubb⟩ := RowL.get encM_len hLp.1 (i := j + 1) hi
    injection e12 with e12
    injection e12 with e1 e2 e3
    subst e1 e2
    have hle := hcmp _ _ a b (by omega) hax hbx
    have hla := hLp.2 a (List.mem_of_getElem? hax)
    have hlb := hLp.2 b (List.mem_of_getElem? hbx)
    have hcm := matchCompare_fn a b H67 hla hlb
    obtain ⟨aa2, ca2, hav⟩ := hla.1.len
    obtain ⟨ab2, cb2, hbv⟩ := hlb.1.len
    unfold encM at hsuba hsubb
    rw [hav] at hsuba
    rw [hbv] at hsubb
    unfold mtV at hcm
    rw [hav, hbv] at hcm
    (repeat refine sq ?_)
    refine sr ?_
    refine sm ?_
    refine sm ?_
    refine sv (PV.lenSl rfl) ?_
    refine sv (PV.lss rfl rfl) ?_
    refine so ?_
    refine sc rfl (by omega) ?_
    refine T.skip ?_
    refine sq ?_
    refine T.block ?_
    (repeat refine sq ?_)
    refine T.regionO [] (by kernel_rfl) ?_
    refine TO.take 0 rfl (by kernel_rfl) (by kernel_rfl) (by kernel_rfl) (PV.move rfl) Wanted.none rfl rfl ?_
    refine TO.take 1 rfl (by kernel_rfl) (by kernel_rfl) (by kernel_rfl) (PV.move rfl) Wanted.none rfl rfl ?_
    refine TO.take 2 rfl (by kernel_rfl) (by kernel_rfl) (by kernel_rfl) (PV.sub rfl rfl (by omega)) Wanted.none rfl rfl ?_
    refine TO.take 3 rfl (by kernel_rfl) (by kernel_rfl) (by kernel_rfl) (PV.indexAddr rfl rfl (by omega)) Wanted.none rfl rfl ?_
    refine TO.take 4 rfl (by kernel_rfl) (by kernel_rfl) (by kernel_rfl) (PV.loadSubAll rfl (by assumption) (by exact rfl)) Wanted.none rfl rfl ?_
    refine TO.take 5 rfl (by kernel_rfl) (by kernel_rfl) (by kernel_rfl) (PV.move rfl) Wanted.none rfl rfl ?_
    refine TO.take 6 rfl (by kernel_rfl) (by kernel_rfl) (by kernel_rfl) (PV.move rfl) Wanted.none rfl rfl ?_
    refine TO.take 7 rfl (by kernel_rfl) (by kernel_rfl) (by kernel_rfl) (PV.indexAddr rfl rfl (by omega)) Wanted.none rfl rfl ?_
    refine TO.take 8 rfl (by kernel_rfl) (by kernel_rfl) (by kernel_rfl) (PV.loadSubAll rfl (by assumption) (by exact rfl)) Wanted.none rfl rfl ?_
    refine TO.step 9 rfl (by kernel_rfl) zq4 zq17 ?_
    refine T.callV Wanted.none rfl rfl (hcm) ?_
    refine so ?_
    refine TO.back ?_
    refine TO.take 10 rfl (by kernel_rfl) (by kernel_rfl) (by kernel_rfl) (PV.gtr rfl rfl) Wanted.none rfl rfl ?_
    refine TO.done (by kernel_rfl) zq4 zq17 ?_
    refine sd rfl (by omega) ?_
    refine T.skip ?_
    refine T.blkEnd ?_
    refine sr ?_
    refine sm ?_
    refine sv (PV.add rfl rfl (by omega)) ?_
    refine sa ?_
    refine so ?_
    exact T.nextP (j + 2) (by omega) (by omega) zq8 (by repeat (first | exact Sel.refl _ | exact Sel.nil | (refine Sel.cons zq1 ?_) | (refine Sel.app zq1 ?_) | exact Sel.one zq1)) rfl
  · have kn := known_fn H67
    have hsm := same24_fn La Lb (.slice aa La.length ca) (.slice ab Lb.length cb) H67 (hLa.mono (h5b.trans h6c)) (hLb.mono h6c) (by omega)
    rw [decide_eq_true qab] at hsm
    have el1 : (La.length : Int) = (L.length : Int) := by omega
    have el2 : (Lp.length : Int) = (L.length : Int) := by omega
    refine sq ?_
    refine sq ?_
    refine sr ?_
    refine sm ?_
    refine sm ?_
    refine sv (PV.lenSl rfl) ?_
    refine sv (PV.lss rfl rfl) ?_
    refine so ?_
    refine sd rfl (by omega) ?_
    refine T.exit rfl ?_
    refine sq ?_
    refine sr ?_
    refine sm ?_
    refine sv (PV.eql rfl rfl) ?_
    refine sm ?_
    refine gm ?_
    refine gv (PV.eql rfl rfl) ?_
    refine sT ?_
    refine sm ?_
    refine gm ?_
    refine gv (PV.eql rfl rfl) ?_
    refine sT ?_
    refine sm ?_
    refine gm ?_
    refine gv (PV.lenSl rfl) ?_
    refine gm ?_
    refine gv (PV.lenSl rfl) ?_
    refine gv (PV.eql rfl rfl) ?_
    refine sT ?_
    refine sm ?_
    refine T.setT (d := 104) rfl (by omega) ?_
    refine gm ?_
    refine gv (PV.lenSl rfl) ?_
    refine gm ?_
    refine gv (PV.lenSl rfl) ?_
    refine gv (PV.eql rfl rfl) ?_
    refine sT ?_
    refine sm ?_
    refine T.setT (d := 111) rfl (by omega) ?_
    refine gm ?_
    refine gm ?_
    refine T.callV (Wanted.guard rfl rfl rfl) rfl rfl (hsm) ?_
    refine sT ?_
    refine sm ?_
    refine T.callV (Wanted.guard rfl rfl rfl) rfl rfl (kn) ?_
    refine sT ?_
    refine sa ?_
    refine so ?_
    exact T.retF (Lv.fin (RV.tmp rfl rfl) rfl)
end Go.Proofs.Ytlklcjpmfjmenaa
