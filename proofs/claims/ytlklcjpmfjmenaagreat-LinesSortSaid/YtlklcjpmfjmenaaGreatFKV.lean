/- lines: the statement Sort. -/
import Derived.Test.YtlklcjpmfjmenaaGreatFKU
import Derived.Test.YtlklcjpmfjmenaaGreatFKO
namespace Go.Proofs.YtlklcjpmfjmenaaGreat
open Go.RowKit

theorem one_encKy (k : Ky) : ∀ v ∈ encKy k, v.oneCell' = true := by
  intro v hv
  simp only [encKy, List.mem_cons, List.not_mem_nil, or_false] at hv
  rcases hv with rfl | rfl | rfl | rfl | rfl | rfl | rfl <;> rfl
theorem sort_okR {c : Cp} {lb : List ByteArray} {L : List Mt} {ks : List Ky} {vl vm vk : Value} {H : Hp} (hc : CpL H c) (hw : CpW c) (hlb : StL H vl lb) (hL : MtL H vm L) (hk : KyL H vk ks) (hll : lb.length ≤ 1000) (hLl : L.length ≤ 1000) (hkl : ks.length ≤ 1000000) (hls : ∀ m ∈ L, m.ls.length ≤ 1000) (he : keyErr c lb ks = 0) (hf : ∀ m ∈ L, fitsM c lb m = true) :
    Fn Tryz.prog 11 #[cpV c, vl, vm, vk] H (fun u H' => ∃ v L', u = .tuple #[v, .int .i64 0] ∧ MtL H' v L' ∧ L'.map mk3 = sortT c lb ks (L.map mk3)) := by
  have h0 : srtE c lb ks L = 0 := by unfold srtE; rw [if_neg (by simpa using he), if_pos (List.all_eq_true.2 hf)]
  refine (sort_ref c lb L ks vl vm vk H hc hw hlb hL hk hll hLl hkl hls).mono ?_
  rintro u H' ⟨v, L', rfl, h1, h2, _⟩
  exact ⟨v, L', by rw [h0], h1, by rw [h2 h0, sortM_T]⟩
structure SlG where
  k : Nat
  t : Tp
  v : Value
  lv : List (Nat × Obj)
  ks : List Ky
set_option maxHeartbeats 4000000 in
theorem sort_law (l n : List Int) (v u : Value) (H : Hp) (hv : InL H v l) (hl : l.length ≤ 9223372036854775807) (hr : ∀ x ∈ l, -9223372036854775808 ≤ x ∧ x ≤ 9223372036854775807) (hv2 : InL H u n) (hl2 : n.length ≤ 9223372036854775807) (hr2 : ∀ x ∈ n, -9223372036854775808 ≤ x ∧ x ≤ 9223372036854775807) :
    Fn Tryz.prog 3 #[v, u] H (fun u _ => u = .bool true) := by
  refine Fn.of_T (vs := [v, u]) Tryz.func3 rfl rfl fun w => ?_
  refine sq ?_
  refine sr ?_
  refine sa ?_
  refine so ?_
  refine sq ?_
  refine sr ?_
  refine sm ?_
  refine T.callW (l0 := []) Wanted.none rfl rfl (new_fn l v H hv hl hr) zq1 ?_
  rintro _ _ _ _ ⟨rfl, bt, t, rfl, ht0, rfl⟩
  refine sa ?_
  refine so ?_
  refine sq ?_
  refine sr ?_
  refine sm ?_
  refine T.callW Wanted.none rfl rfl (corpus_fn bt t 7 H ht0 (by omega)) zq1 ?_
  rintro _ H1 _ hle1 ⟨t1, c, rfl, ht1, hc, hg, hb, rfl⟩
  have hw := hg.wide
  have hmt := matches_fn bt t1 c 1 10 H1 ht1 hc hg hb (by omega) (by omega)
  rw [show ((1 : Nat) : Int) = 1 from rfl] at hmt
  unfold cpV at hmt ⊢
  refine sy fun b6 => ?_
  (refine T.storeA Wanted.none rfl rfl (cp_one hc) (by exact rfl) zq14 zq13 ?_)
  refine so ?_
  refine sq ?_
  refine sr ?_
  refine sm ?_
  refine sv (PV.loadAll rfl zq0 (by exact rfl)) ?_
  (refine T.callW Wanted.none rfl rfl hmt zq1 ?_; rintro _ H2 _ hle2 ⟨t3, L, ht3, hL, hLn, hfit, rfl⟩; obtain ⟨aL, cL, rfl⟩ := hL.1.len)
  refine sa ?_
  refine so ?_
  have hLl : L.length ≤ 10 := by omega
  have hls : ∀ m ∈ L, m.ls.length ≤ 1000 := fun m hm => by have := (hfit m hm).2.1; omega
  have hfM : ∀ m ∈ L, fitsM c [bs [120]] m = true := fun m hm => fits_fitsM hg (hfit m hm) _ rfl
  refine sq ?_
  refine sr ?_
  refine sa ?_
  refine so ?_
  refine sq ?_
  refine sr ?_
  refine sm ?_
  (refine T.callW (l0 := []) Wanted.none rfl rfl (new_fn n u H2 (hv2.mono (hle1.trans hle2)) hl2 hr2) zq1 ?_; rintro _ _ _ _ ⟨rfl, bt2, t4, rfl, ht4, rfl⟩)
  refine sa ?_
  refine so ?_
  refine sq ?_
  refine sq ?_
  refine sr ?_
  refine sm ?_
  (refine T.callW Wanted.none rfl rfl (next_fn _ _ _ _ ?_ ?_) zq1 ?_; (focus assumption); (focus omega); rintro _ _ _ _ ⟨rfl, n25, t25, rfl, hn25, ht25, rfl⟩)
  refine sa ?_
  refine so ?_
  refine T.block ?_
  obtain ⟨k0, hk0⟩ : ∃ k : Nat, (k : Int) = n25 := ⟨n25.toNat, by omega⟩
  rw [← hk0]
  refine T.loopK [(9, Value.pointer (some { block := bt2, off := 0 })), (7, Value.slice aL L.length cL), (6, Value.pointer (some { block := b6, off := 0 }))] zq8 (γ := SlG) (fun g => g.t.ok H2 ∧ RowV 39 encKy 7 g.v g.lv g.ks ∧ (∀ k ∈ g.ks, KyG k) ∧ g.ks.length + g.k ≤ 3) (fun g => [(10, .int .i64 (g.k : Int)), (8, g.v)]) (fun g => g.lv ++ [Tp.blk bt2 g.t, (b6, .cells #[c.va, c.vt, c.vx, c.vr, c.vn, c.vh, c.vs] 32 (0, 0))]) (fun _ => H2) (fun g => g.k) ⟨k0, t25, .slice none 0 0, [], []⟩ ⟨ht25, Vec.nil _ _, by simp, by simp; omega⟩ zq8 (by repeat (first | exact Sel.refl _ | exact Sel.nil | (refine Sel.cons zq1 ?_) | (refine Sel.app zq1 ?_) | exact Sel.one zq1)) rfl ?_
  rintro ⟨k, t5, v5, lv, ks⟩ ⟨g1, g2, g3, g4⟩
  dsimp only at g1 g2 g3 g4 ⊢
  obtain ⟨adv, capv, rfl⟩ := g2.val
  by_cases hk : 0 < k
  · refine sq ?_
    refine sq ?_
    refine sr ?_
    refine sm ?_
    refine sv (PV.gtr rfl rfl) ?_
    refine so ?_
    refine sc rfl (by omega) ?_
    refine T.skip ?_
    refine sq ?_
    refine T.block ?_
    refine sr ?_
    refine sm ?_
    refine sm ?_
    (refine T.callW Wanted.none rfl rfl (key_fn _ _ _ ?_) zq1 ?_; (focus assumption); rintro _ _ _ _ ⟨rfl, k32, t32, rfl, hk32, ht32, rfl⟩; unfold kyV)
    (refine T.buildSlice Wanted.none rfl rfl zq11 (by exact rfl) (by exact rfl) ?_; intro b33)
    (refine T.appendP (lv := lv) Wanted.none rfl rfl rfl g2 (Src.cells (m := 1) (ys := encKy k32) (.own zq2) rfl rfl) (one_encKy k32) (by omega) zq1 ?_; intro v34 lv34 hv34 _; obtain ⟨ad34, cap34, rfl⟩ := hv34.val)
    refine sa ?_
    refine so ?_
    refine T.blkEnd ?_
    refine sr ?_
    refine sm ?_
    refine sv (PV.sub rfl rfl (by omega)) ?_
    refine sa ?_
    refine so ?_
    rw [show (k : Int) - 1 = ((k - 1 : Nat) : Int) by omega]
    refine T.nextP ⟨k - 1, t32, _, lv34, ks ++ [k32]⟩ ⟨ht32, RowV.snoc hv34, fun x hx => ?_, by dsimp only; rw [List.length_append, List.length_singleton]; omega⟩ (by dsimp only; omega) zq8 (by repeat (first | exact Sel.refl _ | exact Sel.nil | (refine Sel.cons zq1 ?_) | (refine Sel.app zq1 ?_) | exact Sel.one zq1)) rfl
    rcases List.mem_append.1 hx with hx | hx
    · exact g3 x hx
    · rw [List.mem_singleton] at hx; subst hx; exact hk32
  · refine sq ?_
    refine sq ?_
    refine sr ?_
    refine sm ?_
    refine sv (PV.gtr rfl rfl) ?_
    refine so ?_
    refine sd rfl (by omega) ?_
    refine T.exit rfl ?_
    refine T.freezeP (lv := lv) g2 zq1 ?_
    intro H4 h24 hK4
    have hkk : keyErr c [bs [120]] ks = 0 := key_ok hg g3 (by omega)
    have hc4 := hc.mono (hle2.trans h24)
    have s1 := fun H' vl (h : H4.le H') (hl : StL H' vl [bs [120]]) => sort_ok (hc4.mono h) hw hl (hL.mono (h24.trans h)) (SlR.mono hK4 h) (by simp) (by omega) (by omega) hls hkk hfM
    have s2 := fun H' vl (h : H4.le H') (hl : StL H' vl [bs [120]]) => sort_okR (hc4.mono h) hw hl (hL.mono (h24.trans h)) (SlR.mono hK4 h) (by simp) (by omega) (by omega) hls hkk hfM
    unfold cpV at s1 s2
    (repeat refine sq ?_)
    refine T.regionO [(b6, .cells #[c.va, c.vt, c.vx, c.vr, c.vn, c.vh, c.vs] 32 (0, 0))] (by kernel_rfl) ?_
    refine TO.take 0 rfl (by kernel_rfl) (by kernel_rfl) (by kernel_rfl) (PV.loadAll rfl zq0 (by exact rfl)) Wanted.none rfl rfl ?_
    refine TO.take 2 rfl (by kernel_rfl) (by kernel_rfl) (by kernel_rfl) (PV.move rfl) Wanted.none rfl rfl ?_
    refine TO.take 3 rfl (by kernel_rfl) (by kernel_rfl) (by kernel_rfl) (PV.move rfl) Wanted.none rfl rfl ?_
    refine TO.step 1 rfl (by kernel_rfl) zq4 zq17 ?_
    (refine T.call Wanted.none rfl rfl (labels_fn _) ?_; intro v37 H37 hle37 hv37; obtain ⟨ad37, cap37, rfl⟩ := hv37.len)
    refine so ?_
    refine TO.back ?_
    refine TO.step 4 rfl (by kernel_rfl) zq4 zq17 ?_
    (refine T.call Wanted.none rfl rfl (s1 _ _ zq17 (hv37.mono zq17)) ?_; rintro _ H40 h40 ⟨_, La, rfl, hLa, qa⟩; obtain ⟨aa, ca, rfl⟩ := hLa.1.len; have h4a := hle37.trans h40)
    refine so ?_
    refine TO.back ?_
    refine TO.take 5 rfl (by kernel_rfl) (by kernel_rfl) (by kernel_rfl) (PV.move rfl) Wanted.none rfl rfl ?_
    refine TO.take 6 rfl (by kernel_rfl) (by kernel_rfl) (by kernel_rfl) (PV.extract rfl rfl) Wanted.none rfl rfl ?_
    refine TO.take 7 rfl (by kernel_rfl) (by kernel_rfl) (by kernel_rfl) (PV.extract rfl rfl) Wanted.none rfl rfl ?_
    refine TO.take 8 rfl (by kernel_rfl) (by kernel_rfl) (by kernel_rfl) (PV.assign rfl) Wanted.none rfl rfl ?_
    refine TO.take 9 rfl (by kernel_rfl) (by kernel_rfl) (by kernel_rfl) (PV.assign rfl) Wanted.none rfl rfl ?_
    refine TO.done (by kernel_rfl) zq4 zq17 ?_
    (repeat refine sq ?_)
    refine T.regionO [(b6, .cells #[c.va, c.vt, c.vx, c.vr, c.vn, c.vh, c.vs] 32 (0, 0))] (by kernel_rfl) ?_
    refine TO.take 0 rfl (by kernel_rfl) (by kernel_rfl) (by kernel_rfl) (PV.loadAll rfl zq0 (by exact rfl)) Wanted.none rfl rfl ?_
    refine TO.take 2 rfl (by kernel_rfl) (by kernel_rfl) (by kernel_rfl) (PV.move rfl) Wanted.none rfl rfl ?_
    refine TO.take 3 rfl (by kernel_rfl) (by kernel_rfl) (by kernel_rfl) (PV.move rfl) Wanted.none rfl rfl ?_
    refine TO.step 1 rfl (by kernel_rfl) zq4 zq17 ?_
    (refine T.call Wanted.none rfl rfl (labels_fn _) ?_; intro v45 H45 hle45 hv45; obtain ⟨ad45, cap45, rfl⟩ := hv45.len)
    refine so ?_
    refine TO.back ?_
    refine TO.step 4 rfl (by kernel_rfl) zq4 zq17 ?_
    (refine T.call Wanted.none rfl rfl (s2 _ _ (h4a.trans zq17) (hv45.mono zq17)) ?_; rintro _ H48 h48 ⟨_, Lb, rfl, hLb, qb⟩; obtain ⟨ab, cb, rfl⟩ := hLb.1.len; have h5b := hle45.trans h48)
    refine so ?_
    refine TO.back ?_
    refine TO.take 5 rfl (by kernel_rfl) (by kernel_rfl) (by kernel_rfl) (PV.move rfl) Wanted.none rfl rfl ?_
    refine TO.take 6 rfl (by kernel_rfl) (by kernel_rfl) (by kernel_rfl) (PV.extract rfl rfl) Wanted.none rfl rfl ?_
    refine TO.take 7 rfl (by kernel_rfl) (by kernel_rfl) (by kernel_rfl) (PV.extract rfl rfl) Wanted.none rfl rfl ?_
    refine TO.take 8 rfl (by kernel_rfl) (by kernel_rfl) (by kernel_rfl) (PV.assign rfl) Wanted.none rfl rfl ?_
    refine TO.take 9 rfl (by kernel_rfl) (by kernel_rfl) (by kernel_rfl) (PV.assign rfl) Wanted.none rfl rfl ?_
    refine TO.done (by kernel_rfl) zq4 zq17 ?_
    have hal : La.length = L.length := by have := congrArg List.length qa; rw [List.length_map, sortT, sortK_length, List.length_map] at this; exact this
    have qab : La.map keyM = Lb.map keyM := key_of_mk3 (qa.trans qb.symm)
    have kn := known_fn H48
    have hsm := same24_fn La Lb (.slice aa La.length ca) (.slice ab Lb.length cb) H48 (hLa.mono h5b) hLb (by omega)
    rw [decide_eq_true qab] at hsm
    refine sq ?_
    refine sr ?_
    refine sm ?_
    refine sm ?_
    refine sv (PV.eql rfl rfl) ?_
    refine sm ?_
    refine gm ?_
    refine gm ?_
    refine T.callV (Wanted.guard rfl rfl rfl) rfl rfl (hsm) ?_
    refine sT ?_
    refine sm ?_
    refine T.callV (Wanted.guard rfl rfl rfl) rfl rfl (kn) ?_
    refine sT ?_
    refine sa ?_
    refine so ?_
    exact T.retF (Lv.fin (RV.tmp rfl rfl) rfl)
end Go.Proofs.YtlklcjpmfjmenaaGreat
