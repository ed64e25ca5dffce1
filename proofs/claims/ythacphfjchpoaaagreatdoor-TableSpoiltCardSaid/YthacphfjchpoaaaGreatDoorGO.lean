/- made corpora: Corpus, Filter.
   made corpora: Corpus: the names of its texts are short. -/
import Derived.Test.YthacphfjchpoaaaGreatDoorFM16
namespace Go.Proofs.YthacphfjchpoaaaGreatDoor
open Go.RowKit

theorem one_slice {v : Value} (h : ∃ ad n cap, v = .slice ad n cap) : v.oneCell' = true := by
  obtain ⟨_, _, _, rfl⟩ := h; rfl
theorem cp_one {H : Hp} {c : Cp} (h : CpL H c) : AllOne [c.va, c.vt, c.vx, c.vr, c.vn, c.vh, c.vs] := by
  have k : ∀ {sz n : Nat} {v : Value} {xs : List Value}, SlR H sz v n xs → v.oneCell' = true := fun h => by
    obtain ⟨ad, cap, e⟩ := h.len
    exact one_slice ⟨_, _, _, e⟩
  exact ⟨k h.a, k h.t, k h.x.1, k h.r.1, k h.n, k h.h, k h.s, trivial⟩
structure CoG where
  k : Nat
  m : Nat
  t : Tp
  H : Hp
  c : Cp
end Go.Proofs.YthacphfjchpoaaaGreatDoor
namespace Go.Proofs.YthacphfjchpoaaaGreatDoor
open Go.RowKit

/-- the names of the texts are short -/
def NmS (c : Cp) : Prop := ∀ t ∈ c.tx, t.ty.size ≤ 1000000
theorem litN (m : Int) (h : 0 ≤ m ∧ m < 3) : ∃ s : ByteArray, s.size ≤ 1000000 ∧ (strsV [bs [116, 48], bs [116, 49], bs [116, 50]])[0 + m.toNat * 1]? = some (.string s) := by
  obtain ⟨s, hm, h⟩ := strsV_at (l := [bs [116, 48], bs [116, 49], bs [116, 50]]) (n := m) (by exact h)
  refine ⟨s, ?_, h⟩
  simp only [List.mem_cons, List.not_mem_nil, or_false] at hm
  rcases hm with rfl | rfl | rfl <;> (show (2 : Nat) ≤ 1000000; decide)
theorem NmS.one {c : Cp} {x : Rg} {nm : ByteArray} (h : c.tx = [x]) (hx : x.ty = nm) (hn : nm.size ≤ 1000000) : NmS c := by
  intro t ht
  rw [h, List.mem_singleton] at ht
  subst ht
  rw [hx]; exact hn
theorem NmS.cat {a b c : Cp} (ha : NmS a) (hb : NmS b) (h : CatR a b c) : NmS c := by
  intro t ht
  rw [h.tx] at ht
  rcases List.mem_append.1 ht with ht | ht
  · exact ha t ht
  · obtain ⟨y, hy, rfl⟩ := List.mem_map.1 ht
    exact hb y hy
set_option maxHeartbeats 4000000 in
theorem corpus_fnN (bt : Nat) (t : Tp) (most : Int) (H : Hp) (ht : t.ok H) (hm : 1 ≤ most ∧ most ≤ 8) :
    FnW Tryz.prog 10 #[.pointer (some ⟨bt, 0, none⟩), .int .i64 most] H [Tp.blk bt t]
      (fun u H' l' => ∃ t' c, u = cpV c ∧ t'.ok H' ∧ CpL H' c ∧ CpG c ∧ CpB 3 c ∧ NmS c ∧ l' = [Tp.blk bt t']) := by
  refine FnW.of_T (vs := [.pointer (some ⟨bt, 0, none⟩), .int .i64 most]) Tryz.func10 rfl rfl fun w => ?_; refine zs3 ?_; refine sy fun b4 => ?_; refine zs1 ?_; refine yq162 ?_; refine T.callW Wanted.none rfl rfl (document_fn bt t _ most H ht hm) zq1 ?_
  rintro _ H1 _ hle1 ⟨t1, c1, x1, rfl, ht1, hl1, hg1, hb1, hx1, hy1, rfl⟩
  have hn1 : NmS c1 := NmS.one hx1 hy1 (by decide)
  unfold cpV
  refine sy fun b5 => ?_; (refine T.storeA Wanted.none rfl rfl (cp_one hl1) (by exact rfl) zq14 zq13 ?_); refine so ?_; refine yq14 ?_; (refine T.callW Wanted.none rfl rfl (next_fn _ _ _ _ ?_ ?_) zq1 ?_; (focus assumption); (focus omega); rintro _ _ _ _ ⟨rfl, n14, t14, rfl, hn14, ht14, rfl⟩); refine yq0 ?_; refine T.block ?_
  obtain ⟨k0, hk0⟩ : ∃ k : Nat, (k : Int) = n14 := ⟨n14.toNat, by omega⟩
  rw [← hk0]
  skip
  refine T.loopK [(5, Value.pointer (some { block := b5, off := 0 })), (4, Value.pointer (some { block := b4, off := 0 })), (0, Value.pointer (some { block := bt, off := 0 })), (1, Value.int IntKind.i64 most)] zq8 (γ := CoG) (fun g => H1.le g.H ∧ g.t.ok g.H ∧ CpL g.H g.c ∧ CpG g.c ∧ CpB g.m g.c ∧ g.m + g.k ≤ 3 ∧ 1 ≤ g.m ∧ NmS g.c) (fun g => [(6, .int .i64 (g.k : Int))]) (fun g => [Tp.blk bt g.t, (b5, .cells #[g.c.va, g.c.vt, g.c.vx, g.c.vr, g.c.vn, g.c.vh, g.c.vs] 32 (0, 0)), (b4, .cells #[.slice none 0 0, .slice none 0 0, .slice none 0 0, .slice none 0 0, .slice none 0 0, .slice none 0 0, .slice none 0 0] 32 (0, 0))]) (fun g => g.H) (fun g => g.k) ⟨k0, 1, t14, H1, c1⟩ ⟨Hp.le.refl _, ht14, hl1, hg1, hb1, by dsimp only; omega, by simp, hn1⟩ zq8 (by repeat (first | exact Sel.refl _ | exact Sel.nil | (refine Sel.cons zq1 ?_) | (refine Sel.app zq1 ?_) | exact Sel.one zq1)) rfl ?_
  rintro ⟨k, m, t2, H2, c⟩ ⟨g1, g2, g3, g4, g5, g6, g7, g8⟩
  dsimp only at g1 g2 g3 g4 g5 g6 g7 g8 ⊢
  by_cases hk : 0 < k
  · obtain ⟨s, hsz, hs⟩ := litN (k : Int) (by omega)
    refine yq158 ?_; refine so ?_; refine yq33 ?_; refine yq2 ?_; (refine T.buildSlice Wanted.none rfl rfl zq11 (by exact rfl) (by exact rfl) ?_; intro b20); refine sm ?_; refine yq133 ?_; refine sm ?_; refine T.callW Wanted.none rfl rfl (document_fn bt t2 _ most H2 g2 hm) zq1 ?_
    rintro _ H3 _ hle3 ⟨t3, d, x3, rfl, ht3, hl3, hg3, hb3, hx3, hy3, rfl⟩
    have hn3 : NmS d := NmS.one hx3 hy3 hsz
    unfold cpV
    have hcat := concat_fn c d H3 (g3.mono hle3) hl3 (g4.small g5 (by omega)) (hg3.small hb3 (by omega))
    unfold cpV at hcat
    refine sy fun b7 => ?_; (refine T.storeA Wanted.none rfl rfl (cp_one hl3) (by exact rfl) zq14 zq13 ?_); refine zs1 ?_; refine yq20 ?_; refine T.call Wanted.none rfl rfl hcat ?_
    rintro _ H4 hle4 ⟨c2, e, rfl, hl4, hok⟩
    refine yq146 ?_; refine sy fun b8 => ?_; (refine T.storeA Wanted.none rfl rfl (cp_one hl4) (by exact rfl) zq14 zq13 ?_); refine yq56 ?_; refine sv (PV.eql rfl rfl) ?_; refine so ?_
    refine T.condD rfl (fun he => ?_) (fun he => ?_)
    · have hcr := hok he
      refine sr ?_; refine sv (PV.loadAll rfl zq0 (by exact rfl)) ?_; (refine T.storeA Wanted.none rfl rfl (cp_one hl4) (by exact rfl) zq14 zq13 ?_); refine so ?_; refine yq35 ?_; refine sm ?_; refine yq77 ?_
      rw [show (k : Int) - 1 = ((k - 1 : Nat) : Int) by omega]
      exact T.nextP ⟨k - 1, m + 1, t3, H4, c2⟩ ⟨(g1.trans hle3).trans hle4, ht3.mono hle4, hl4, cat_good hcr g4 hg3, cat_small hcr g5 hb3 (by omega), by dsimp only; omega, by dsimp only; omega, g8.cat hn3 hcr⟩ (by dsimp only; omega) zq8 (by repeat (first | exact Sel.refl _ | exact Sel.nil | (refine Sel.cons zq1 ?_) | (refine Sel.app zq1 ?_) | exact Sel.one zq1)) rfl
    · refine T.skip ?_; refine yq35 ?_; refine sm ?_; refine yq77 ?_
      rw [show (k : Int) - 1 = ((k - 1 : Nat) : Int) by omega]
      exact T.nextP ⟨k - 1, m, t3, H4, c⟩ ⟨(g1.trans hle3).trans hle4, ht3.mono hle4, (g3.mono hle3).mono hle4, g4, g5, by dsimp only; omega, g7, g8⟩ (by dsimp only; omega) zq8 (by repeat (first | exact Sel.refl _ | exact Sel.nil | (refine Sel.cons zq1 ?_) | (refine Sel.app zq1 ?_) | exact Sel.one zq1)) rfl
  · refine yq158 ?_; refine so ?_; refine yq16 ?_; refine yq52 ?_; (refine T.storeA Wanted.none rfl rfl (cp_one g3) (by exact rfl) zq14 zq13 ?_); refine so ?_
    exact T.retW (Lv.finW [Tp.blk bt t2] zq4 (RV.cell rfl (CV.agg rfl zq0 (by exact rfl))) ⟨t2, c, rfl, g2, g3, g4, g5.mono (by omega), g8, rfl⟩)
end Go.Proofs.YthacphfjchpoaaaGreatDoor
