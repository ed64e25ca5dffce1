/- lines: a made key. -/
import Derived.Test.YtlklcjpmfjmenaaGreatFKD
namespace Go.Proofs.YtlklcjpmfjmenaaGreat
open Go.RowKit


structure KyG (k : Ky) : Prop where
  a : 1 ≤ k.at_ ∧ k.at_ ≤ 3
  l : k.lb = if k.at_ = 3 then bs [120] else bs []
  n : k.nm = bs [119, 111, 114, 100] ∨ k.nm = bs [116, 97, 103]
theorem Sel.whole {l l' : List (Nat × Obj)} (h : Sel l l') (hn : l.length = l'.length) : l'.Perm l := by
  obtain ⟨r, hr⟩ := h.perm
  have := hr.length_eq
  rw [List.length_append] at this
  have hr0 : r = [] := List.eq_nil_of_length_eq_zero (by omega)
  rw [hr0, List.append_nil] at hr
  exact hr
theorem TS.cut {P : Program} {X : Cx} {H : Hp} {D : List Deferred} {k : List It} {ops : Array Oper} {lc : List (Nat × Obj)} {Hc : Hp} {s : Nat} {γ : Type} (C : γ → Prop) (ev : γ → Env) (lg : γ → List (Nat × Obj)) (fuel : Nat) (listed : Array Bool) {e : Env} {l : List (Nat × Obj)} {fuel0 : Nat} {listed0 : Array Bool}
    (K : ∀ g, C g → TS P X (ev g) (lg g) H D ops lc Hc s fuel listed k)
    (h : (∀ g e' l', C g → Env.Sub (ev g) e' → Sel l' (lg g) → l'.length = (lg g).length → ∀ ls, listed = ls → TS P X e' l' H D ops lc Hc s fuel ls k) → TS P X e l H D ops lc Hc s fuel0 listed0 k) : TS P X e l H D ops lc Hc s fuel0 listed0 k :=
  h fun g _ _ hc he hs hn _ hl => TS.weak he (hs.whole hn) hl (K g hc)
structure KeG where
  t : Tp
  n1 : Int
  n2 : Int
  n3 : Int
  n4 : Int
  n5 : Int
  n6 : Int
  s : ByteArray
  b10 : Nat
  b3 : Nat
set_option maxHeartbeats 4000000 in
theorem key_fn (bt : Nat) (t : Tp) (H : Hp) (ht : t.ok H) :
    FnW Tryz.prog 8 #[.pointer (some ⟨bt, 0, none⟩)] H [Tp.blk bt t] (fun u H' l' => H = H' ∧ ∃ k t', u = kyV k ∧ KyG k ∧ t'.ok H ∧ l' = [Tp.blk bt t']) := by
  refine FnW.of_T (vs := [.pointer (some ⟨bt, 0, none⟩)]) Tryz.func8 rfl rfl fun w => ?_
  refine sq ?_
  refine sr ?_
  refine sy fun b2 => ?_
  refine so ?_
  have hlit : ∀ m : Int, 0 ≤ m ∧ m < 2 → ∃ s, (s = bs [119, 111, 114, 100] ∨ s = bs [116, 97, 103]) ∧ [Value.string ⟨#[119, 111, 114, 100]⟩, .string ⟨#[116, 97, 103]⟩][0 + m.toNat * 1]? = some (.string s) := by
    intro m hm
    have h : m = 0 ∨ m = 1 := by omega
    rcases h with rfl | rfl
    · exact ⟨_, .inl rfl, rfl⟩
    · exact ⟨_, .inr rfl, rfl⟩
  (repeat refine sq ?_)
  refine T.regionS [] 22 (by kernel_rfl) ?_
  refine TS.take 0 rfl (by kernel_rfl) (by kernel_rfl) (by kernel_rfl) (by kernel_rfl) (PV.move rfl) Wanted.none rfl rfl ?_
  refine TS.take 3 rfl (by kernel_rfl) (by kernel_rfl) (by kernel_rfl) (by kernel_rfl) (PV.move rfl) Wanted.none rfl rfl ?_
  refine TS.take 7 rfl (by kernel_rfl) (by kernel_rfl) (by kernel_rfl) (by kernel_rfl) (PV.move rfl) Wanted.none rfl rfl ?_
  refine TS.take 11 rfl (by kernel_rfl) (by kernel_rfl) (by kernel_rfl) (by kernel_rfl) (PV.move rfl) Wanted.none rfl rfl ?_
  refine TS.take 14 rfl (by kernel_rfl) (by kernel_rfl) (by kernel_rfl) (by kernel_rfl) (PV.move rfl) Wanted.none rfl rfl ?_
  refine TS.take 17 rfl (by kernel_rfl) (by kernel_rfl) (by kernel_rfl) (by kernel_rfl) (PV.move rfl) Wanted.none rfl rfl ?_
  refine TS.cut (γ := KeG) (fun g => g.t.ok H ∧ (0 ≤ g.n1 ∧ g.n1 < 3) ∧ (0 ≤ g.n2 ∧ g.n2 < 5) ∧ (0 ≤ g.n3 ∧ g.n3 < 2) ∧ (0 ≤ g.n4 ∧ g.n4 < 3) ∧ (0 ≤ g.n5 ∧ g.n5 < 3) ∧ (0 ≤ g.n6 ∧ g.n6 < 2) ∧ (g.s = bs [119, 111, 114, 100] ∨ g.s = bs [116, 97, 103])) (fun g => [(4, .pointer (some ⟨bt, 0, none⟩)), (7, .pointer (some ⟨bt, 0, none⟩)), (11, .pointer (some ⟨bt, 0, none⟩)), (15, .pointer (some ⟨bt, 0, none⟩)), (18, .pointer (some ⟨bt, 0, none⟩)), (21, .pointer (some ⟨bt, 0, none⟩)), (6, .int .i64 (1 + g.n1)), (9, .int .i64 (g.n2 - 2)), (12, .int .i64 g.n3), (10, .slice (some ⟨g.b10, 0, none⟩) 2 2), (13, .pointer (some ⟨g.b10, 0 + g.n3.toNat * 1, none⟩)), (14, .string g.s), (17, .bool (decide (g.n4 = 2))), (20, .bool (decide (g.n5 = 2))), (23, .bool (decide (g.n6 = 1))), (24, .agg #[.int .i64 (1 + g.n1), .int .i64 (g.n2 - 2), .string ⟨#[]⟩, .string g.s, .bool (decide (g.n4 = 2)), .bool (decide (g.n5 = 2)), .bool (decide (g.n6 = 1))]), (3, .pointer (some ⟨g.b3, 0, none⟩)), (2, .pointer (some ⟨b2, 0, none⟩))]) (fun g => [Tp.blk bt g.t, (b2, .cells #[.int .i64 0, .int .i64 0, .string ⟨#[]⟩, .string ⟨#[]⟩, .bool false, .bool false, .bool false] 39 (0, 0)), (g.b10, .cells #[.string ⟨#[119, 111, 114, 100]⟩, .string ⟨#[116, 97, 103]⟩] 9 (0, 0)), (g.b3, .cells #[.int .i64 0, .int .i64 0, .string ⟨#[]⟩, .string ⟨#[]⟩, .bool false, .bool false, .bool false] 39 (0, 0))]) 1 #[true, true, true, true, true, true, true, true, true, true, true, true, true, true, true, true, true, true, true, true, true, true, false] ?_ fun K6111 => ?_
  · rintro ⟨t, n1, n2, n3, n4, n5, n6, s, b10, b3⟩ ⟨ht, h1, h2, h3, h4, h5, h6, hs⟩
    dsimp only at ht h1 h2 h3 h4 h5 h6 hs ⊢
    refine TS.ways [22] (by kernel_rfl) rfl zq16 ⟨⟨_, rfl, ?_⟩, trivial⟩
    refine T.storeA Wanted.none rfl rfl zq8 (by exact rfl) zq14 zq13 ?_
    refine so ?_
    refine TS.back ?_
    refine TS.done (by kernel_rfl) (by kernel_rfl) ?_
    by_cases h3 : n1 = 2
    · refine sq ?_
      refine sq ?_
      refine sr ?_
      refine sf ?_
      refine sl ?_
      refine sv (PV.eql rfl rfl) ?_
      refine so ?_
      refine sc rfl (by omega) ?_
      refine sr ?_
      refine sf ?_
      refine T.store1 Wanted.none rfl rfl rfl zq14 zq13 ?_
      refine so ?_
      refine sq ?_
      refine sr ?_
      refine sv (PV.loadAll rfl zq0 (by exact rfl)) ?_
      refine T.storeA Wanted.none rfl rfl zq8 (by exact rfl) zq14 zq13 ?_
      refine so ?_
      exact T.retW (Lv.finW [Tp.blk bt t] zq4 (RV.cell rfl (CV.agg rfl zq0 (by exact rfl))) ⟨rfl, ⟨1 + n1, n2 - 2, bs [120], s, decide (n4 = 2), decide (n5 = 2), decide (n6 = 1)⟩, t, rfl, ⟨by dsimp only; omega, by dsimp only; rw [if_pos (by omega)], hs⟩, ht, rfl⟩)
    · refine sq ?_
      refine sq ?_
      refine sr ?_
      refine sf ?_
      refine sl ?_
      refine sv (PV.eql rfl rfl) ?_
      refine so ?_
      refine sd rfl (by omega) ?_
      refine T.skip ?_
      refine sq ?_
      refine sr ?_
      refine sv (PV.loadAll rfl zq0 (by exact rfl)) ?_
      refine T.storeA Wanted.none rfl rfl zq8 (by exact rfl) zq14 zq13 ?_
      refine so ?_
      exact T.retW (Lv.finW [Tp.blk bt t] zq4 (RV.cell rfl (CV.agg rfl zq0 (by exact rfl))) ⟨rfl, ⟨1 + n1, n2 - 2, bs [], s, decide (n4 = 2), decide (n5 = 2), decide (n6 = 1)⟩, t, rfl, ⟨by dsimp only; omega, by dsimp only; rw [if_neg (by omega)], hs⟩, ht, rfl⟩)
  refine TS.cut (γ := KeG) (fun g => g.t.ok H ∧ (0 ≤ g.n1 ∧ g.n1 < 3) ∧ (0 ≤ g.n2 ∧ g.n2 < 5) ∧ (0 ≤ g.n3 ∧ g.n3 < 2) ∧ (0 ≤ g.n4 ∧ g.n4 < 3) ∧ (0 ≤ g.n5 ∧ g.n5 < 3) ∧ (g.s = bs [119, 111, 114, 100] ∨ g.s = bs [116, 97, 103])) (fun g => [(4, .pointer (some ⟨bt, 0, none⟩)), (7, .pointer (some ⟨bt, 0, none⟩)), (11, .pointer (some ⟨bt, 0, none⟩)), (15, .pointer (some ⟨bt, 0, none⟩)), (18, .pointer (some ⟨bt, 0, none⟩)), (21, .pointer (some ⟨bt, 0, none⟩)), (6, .int .i64 (1 + g.n1)), (9, .int .i64 (g.n2 - 2)), (12, .int .i64 g.n3), (10, .slice (some ⟨g.b10, 0, none⟩) 2 2), (13, .pointer (some ⟨g.b10, 0 + g.n3.toNat * 1, none⟩)), (14, .string g.s), (17, .bool (decide (g.n4 = 2))), (20, .bool (decide (g.n5 = 2))), (3, .pointer (some ⟨g.b3, 0, none⟩)), (2, .pointer (some ⟨b2, 0, none⟩))]) (fun g => [Tp.blk bt g.t, (b2, .cells #[.int .i64 0, .int .i64 0, .string ⟨#[]⟩, .string ⟨#[]⟩, .bool false, .bool false, .bool false] 39 (0, 0)), (g.b10, .cells #[.string ⟨#[119, 111, 114, 100]⟩, .string ⟨#[116, 97, 103]⟩] 9 (0, 0)), (g.b3, .cells #[.int .i64 0, .int .i64 0, .string ⟨#[]⟩, .string ⟨#[]⟩, .bool false, .bool false, .bool false] 39 (0, 0))]) 4 #[true, true, true, true, true, true, true, true, true, true, true, true, true, true, true, true, true, true, false, false, false, true, false] ?_ fun K5111 => ?_
  · rintro ⟨t, n1, n2, n3, n4, n5, n6, s, b10, b3⟩ ⟨ht, h1, h2, h3, h4, h5, hs⟩
    dsimp only at ht h1 h2 h3 h4 h5 hs ⊢
    refine TS.ways [18] (by kernel_rfl) rfl zq16 ⟨⟨_, rfl, ?_⟩, trivial⟩
    (refine T.callW Wanted.none rfl rfl (next_fn _ _ _ _ ?_ ?_) zq1 ?_; (focus assumption); (focus omega); rintro _ _ _ _ ⟨rfl, m, t1, rfl, hm, ht1, rfl⟩)
    refine so ?_
    refine TS.back ?_
    refine TS.take 19 rfl (by kernel_rfl) (by kernel_rfl) (by kernel_rfl) (by kernel_rfl) (PV.eql rfl rfl) Wanted.none rfl rfl ?_
    refine TS.take 20 rfl (by kernel_rfl) (by kernel_rfl) (by kernel_rfl) (by kernel_rfl) (PV.build rfl zq12) Wanted.none rfl rfl ?_
    (refine K6111 ⟨t1, n1, n2, n3, n4, n5, m, s, b10, b3⟩ _ _ ⟨ht1, h1, h2, h3, h4, h5, hm, hs⟩ ?_ ?_ ?_ _ ?_; (focus exact zq8); (focus exact (by repeat (first | exact Sel.refl _ | exact Sel.nil | (refine Sel.cons zq1 ?_) | (refine Sel.app zq1 ?_) | exact Sel.one zq1))); (focus rfl); (focus kernel_rfl))
  refine TS.cut (γ := KeG) (fun g => g.t.ok H ∧ (0 ≤ g.n1 ∧ g.n1 < 3) ∧ (0 ≤ g.n2 ∧ g.n2 < 5) ∧ (0 ≤ g.n3 ∧ g.n3 < 2) ∧ (0 ≤ g.n4 ∧ g.n4 < 3) ∧ (0 ≤ g.n5 ∧ g.n5 < 3) ∧ (0 ≤ g.n6 ∧ g.n6 < 2)) (fun g => [(4, .pointer (some ⟨bt, 0, none⟩)), (7, .pointer (some ⟨bt, 0, none⟩)), (11, .pointer (some ⟨bt, 0, none⟩)), (15, .pointer (some ⟨bt, 0, none⟩)), (18, .pointer (some ⟨bt, 0, none⟩)), (21, .pointer (some ⟨bt, 0, none⟩)), (6, .int .i64 (1 + g.n1)), (9, .int .i64 (g.n2 - 2)), (12, .int .i64 g.n3), (10, .slice (some ⟨g.b10, 0, none⟩) 2 2), (13, .pointer (some ⟨g.b10, 0 + g.n3.toNat * 1, none⟩)), (17, .bool (decide (g.n4 = 2))), (20, .bool (decide (g.n5 = 2))), (23, .bool (decide (g.n6 = 1))), (3, .pointer (some ⟨g.b3, 0, none⟩)), (2, .pointer (some ⟨b2, 0, none⟩))]) (fun g => [Tp.blk bt g.t, (b2, .cells #[.int .i64 0, .int .i64 0, .string ⟨#[]⟩, .string ⟨#[]⟩, .bool false, .bool false, .bool false] 39 (0, 0)), (g.b10, .cells #[.string ⟨#[119, 111, 114, 100]⟩, .string ⟨#[116, 97, 103]⟩] 9 (0, 0)), (g.b3, .cells #[.int .i64 0, .int .i64 0, .string ⟨#[]⟩, .string ⟨#[]⟩, .bool false, .bool false, .bool false] 39 (0, 0))]) 3 #[true, true, true, true, true, true, true, true, true, true, false, true, true, true, true, true, true, true, true, true, false, true, false] ?_ fun K6101 => ?_
  · rintro ⟨t, n1, n2, n3, n4, n5, n6, s, b10, b3⟩ ⟨ht, h1, h2, h3, h4, h5, h6⟩
    dsimp only at ht h1 h2 h3 h4 h5 h6 ⊢
    refine TS.ways [10] (by kernel_rfl) rfl zq16 ⟨⟨_, rfl, ?_⟩, trivial⟩
    obtain ⟨s1, hs1, hl1⟩ := hlit n3 h3
    refine sv (PV.load1 rfl zq0 (by exact hl1)) ?_
    refine so ?_
    refine TS.back ?_
    refine TS.take 20 rfl (by kernel_rfl) (by kernel_rfl) (by kernel_rfl) (by kernel_rfl) (PV.build rfl zq12) Wanted.none rfl rfl ?_
    (refine K6111 ⟨t, n1, n2, n3, n4, n5, n6, s1, b10, b3⟩ _ _ ⟨ht, h1, h2, h3, h4, h5, h6, hs1⟩ ?_ ?_ ?_ _ ?_; (focus exact zq8); (focus exact (by repeat (first | exact Sel.refl _ | exact Sel.nil | (refine Sel.cons zq1 ?_) | (refine Sel.app zq1 ?_) | exact Sel.one zq1))); (focus rfl); (focus kernel_rfl))
  refine TS.cut (γ := KeG) (fun g => g.t.ok H ∧ (0 ≤ g.n1 ∧ g.n1 < 3) ∧ (0 ≤ g.n2 ∧ g.n2 < 5) ∧ (0 ≤ g.n3 ∧ g.n3 < 2) ∧ (0 ≤ g.n4 ∧ g.n4 < 3) ∧ (0 ≤ g.n5 ∧ g.n5 < 3) ∧ (0 ≤ g.n6 ∧ g.n6 < 2) ∧ (g.s = bs [119, 111, 114, 100] ∨ g.s = bs [116, 97, 103])) (fun g => [(4, .pointer (some ⟨bt, 0, none⟩)), (7, .pointer (some ⟨bt, 0, none⟩)), (11, .pointer (some ⟨bt, 0, none⟩)), (15, .pointer (some ⟨bt, 0, none⟩)), (18, .pointer (some ⟨bt, 0, none⟩)), (21, .pointer (some ⟨bt, 0, none⟩)), (6, .int .i64 (1 + g.n1)), (9, .int .i64 (g.n2 - 2)), (12, .int .i64 g.n3), (10, .slice (some ⟨g.b10, 0, none⟩) 2 2), (13, .pointer (some ⟨g.b10, 0 + g.n3.toNat * 1, none⟩)), (14, .string g.s), (17, .bool (decide (g.n4 = 2))), (20, .bool (decide (g.n5 = 2))), (23, .bool (decide (g.n6 = 1))), (24, .agg #[.int .i64 (1 + g.n1), .int .i64 (g.n2 - 2), .string ⟨#[]⟩, .string g.s, .bool (decide (g.n4 = 2)), .bool (decide (g.n5 = 2)), .bool (decide (g.n6 = 1))]), (2, .pointer (some ⟨b2, 0, none⟩))]) (fun g => [Tp.blk bt g.t, (b2, .cells #[.int .i64 0, .int .i64 0, .string ⟨#[]⟩, .string ⟨#[]⟩, .bool false, .bool false, .bool false] 39 (0, 0)), (g.b10, .cells #[.string ⟨#[119, 111, 114, 100]⟩, .string ⟨#[116, 97, 103]⟩] 9 (0, 0))]) 2 #[true, true, true, true, true, true, true, true, true, true, true, true, true, true, true, true, true, true, true, true, true, false, false] ?_ fun K6110 => ?_
  · rintro ⟨t, n1, n2, n3, n4, n5, n6, s, b10, b3⟩ ⟨ht, h1, h2, h3, h4, h5, h6, hs⟩
    dsimp only at ht h1 h2 h3 h4 h5 h6 hs ⊢
    refine TS.ways [21] (by kernel_rfl) rfl zq16 ⟨⟨_, rfl, ?_⟩, trivial⟩
    refine sy fun b => ?_
    refine so ?_
    refine TS.back ?_
    (refine K6111 ⟨t, n1, n2, n3, n4, n5, n6, s, b10, b⟩ _ _ ⟨ht, h1, h2, h3, h4, h5, h6, hs⟩ ?_ ?_ ?_ _ ?_; (focus exact zq8); (focus exact (by repeat (first | exact Sel.refl _ | exact Sel.nil | (refine Sel.cons zq1 ?_) | (refine Sel.app zq1 ?_) | exact Sel.one zq1))); (focus rfl); (focus kernel_rfl))
  refine TS.cut (γ := KeG) (fun g => g.t.ok H ∧ (0 ≤ g.n1 ∧ g.n1 < 3) ∧ (0 ≤ g.n2 ∧ g.n2 < 5) ∧ (0 ≤ g.n3 ∧ g.n3 < 2) ∧ (0 ≤ g.n4 ∧ g.n4 < 3) ∧ (g.s = bs [119, 111, 114, 100] ∨ g.s = bs [116, 97, 103])) (fun g => [(4, .pointer (some ⟨bt, 0, none⟩)), (7, .pointer (some ⟨bt, 0, none⟩)), (11, .pointer (some ⟨bt, 0, none⟩)), (15, .pointer (some ⟨bt, 0, none⟩)), (18, .pointer (some ⟨bt, 0, none⟩)), (21, .pointer (some ⟨bt, 0, none⟩)), (6, .int .i64 (1 + g.n1)), (9, .int .i64 (g.n2 - 2)), (12, .int .i64 g.n3), (10, .slice (some ⟨g.b10, 0, none⟩) 2 2), (13, .pointer (some ⟨g.b10, 0 + g.n3.toNat * 1, none⟩)), (14, .string g.s), (17, .bool (decide (g.n4 = 2))), (3, .pointer (some ⟨g.b3, 0, none⟩)), (2, .pointer (some ⟨b2, 0, none⟩))]) (fun g => [Tp.blk bt g.t, (b2, .cells #[.int .i64 0, .int .i64 0, .string ⟨#[]⟩, .string ⟨#[]⟩, .bool false, .bool false, .bool false] 39 (0, 0)), (g.b10, .cells #[.string ⟨#[119, 111, 114, 100]⟩, .string ⟨#[116, 97, 103]⟩] 9 (0, 0)), (g.b3, .cells #[.int .i64 0, .int .i64 0, .string ⟨#[]⟩, .string ⟨#[]⟩, .bool false, .bool false, .bool false] 39 (0, 0))]) 6 #[true, true, true, true, true, true, true, true, true, true, true, true, true, true, true, false, false, true, false, false, false, true, false] ?_ fun K4111 => ?_
  · rintro ⟨t, n1, n2, n3, n4, n5, n6, s, b10, b3⟩ ⟨ht, h1, h2, h3, h4, hs⟩
    dsimp only at ht h1 h2 h3 h4 hs ⊢
    refine TS.ways [15] (by kernel_rfl) rfl zq16 ⟨⟨_, rfl, ?_⟩, trivial⟩
    (refine T.callW Wanted.none rfl rfl (next_fn _ _ _ _ ?_ ?_) zq1 ?_; (focus assumption); (focus omega); rintro _ _ _ _ ⟨rfl, m, t1, rfl, hm, ht1, rfl⟩)
    refine so ?_
    refine TS.back ?_
    refine TS.take 16 rfl (by kernel_rfl) (by kernel_rfl) (by kernel_rfl) (by kernel_rfl) (PV.eql rfl rfl) Wanted.none rfl rfl ?_
    (refine K5111 ⟨t1, n1, n2, n3, n4, m, n6, s, b10, b3⟩ _ _ ⟨ht1, h1, h2, h3, h4, hm, hs⟩ ?_ ?_ ?_ _ ?_; (focus exact zq8); (focus exact (by repeat (first | exact Sel.refl _ | exact Sel.nil | (refine Sel.cons zq1 ?_) | (refine Sel.app zq1 ?_) | exact Sel.one zq1))); (focus rfl); (focus kernel_rfl))
  refine TS.cut (γ := KeG) (fun g => g.t.ok H ∧ (0 ≤ g.n1 ∧ g.n1 < 3) ∧ (0 ≤ g.n2 ∧ g.n2 < 5) ∧ (0 ≤ g.n3 ∧ g.n3 < 2) ∧ (0 ≤ g.n4 ∧ g.n4 < 3) ∧ (0 ≤ g.n5 ∧ g.n5 < 3)) (fun g => [(4, .pointer (some ⟨bt, 0, none⟩)), (7, .pointer (some ⟨bt, 0, none⟩)), (11, .pointer (some ⟨bt, 0, none⟩)), (15, .pointer (some ⟨bt, 0, none⟩)), (18, .pointer (some ⟨bt, 0, none⟩)), (21, .pointer (some ⟨bt, 0, none⟩)), (6, .int .i64 (1 + g.n1)), (9, .int .i64 (g.n2 - 2)), (12, .int .i64 g.n3), (10, .slice (some ⟨g.b10, 0, none⟩) 2 2), (13, .pointer (some ⟨g.b10, 0 + g.n3.toNat * 1, none⟩)), (17, .bool (decide (g.n4 = 2))), (20, .bool (decide (g.n5 = 2))), (3, .pointer (some ⟨g.b3, 0, none⟩)), (2, .pointer (some ⟨b2, 0, none⟩))]) (fun g => [Tp.blk bt g.t, (b2, .cells #[.int .i64 0, .int .i64 0, .string ⟨#[]⟩, .string ⟨#[]⟩, .bool false, .bool false, .bool false] 39 (0, 0)), (g.b10, .cells #[.string ⟨#[119, 111, 114, 100]⟩, .string ⟨#[116, 97, 103]⟩] 9 (0, 0)), (g.b3, .cells #[.int .i64 0, .int .i64 0, .string ⟨#[]⟩, .string ⟨#[]⟩, .bool false, .bool false, .bool false] 39 (0, 0))]) 5 #[true, true, true, true, true, true, true, true, true, true, false, true, true, true, true, true, true, true, false, false, false, true, false] ?_ fun K5101 => ?_
  · rintro ⟨t, n1, n2, n3, n4, n5, n6, s, b10, b3⟩ ⟨ht, h1, h2, h3, h4, h5⟩
    dsimp only at ht h1 h2 h3 h4 h5 ⊢
    refine TS.ways [10, 18] (by kernel_rfl) rfl zq16 ⟨⟨_, rfl, ?_⟩, ⟨_, rfl, ?_⟩, trivial⟩
    · obtain ⟨s1, hs1, hl1⟩ := hlit n3 h3
      refine sv (PV.load1 rfl zq0 (by exact hl1)) ?_
      refine so ?_
      refine TS.back ?_
      (refine K5111 ⟨t, n1, n2, n3, n4, n5, n6, s1, b10, b3⟩ _ _ ⟨ht, h1, h2, h3, h4, h5, hs1⟩ ?_ ?_ ?_ _ ?_; (focus exact zq8); (focus exact (by repeat (first | exact Sel.refl _ | exact Sel.nil | (refine Sel.cons zq1 ?_) | (refine Sel.app zq1 ?_) | exact Sel.one zq1))); (focus rfl); (focus kernel_rfl))
    · (refine T.callW Wanted.none rfl rfl (next_fn _ _ _ _ ?_ ?_) zq1 ?_; (focus assumption); (focus omega); rintro _ _ _ _ ⟨rfl, m, t1, rfl, hm, ht1, rfl⟩)
      refine so ?_
      refine TS.back ?_
      refine TS.take 19 rfl (by kernel_rfl) (by kernel_rfl) (by kernel_rfl) (by kernel_rfl) (PV.eql rfl rfl) Wanted.none rfl rfl ?_
      (refine K6101 ⟨t1, n1, n2, n3, n4, n5, m, s, b10, b3⟩ _ _ ⟨ht1, h1, h2, h3, h4, h5, hm⟩ ?_ ?_ ?_ _ ?_; (focus exact zq8); (focus exact (by repeat (first | exact Sel.refl _ | exact Sel.nil | (refine Sel.cons zq1 ?_) | (refine Sel.app zq1 ?_) | exact Sel.one zq1))); (focus rfl); (focus kernel_rfl))
  refine TS.cut (γ := KeG) (fun g => g.t.ok H ∧ (0 ≤ g.n1 ∧ g.n1 < 3) ∧ (0 ≤ g.n2 ∧ g.n2 < 5) ∧ (0 ≤ g.n3 ∧ g.n3 < 2) ∧ (0 ≤ g.n4 ∧ g.n4 < 3) ∧ (0 ≤ g.n5 ∧ g.n5 < 3) ∧ (g.s = bs [119, 111, 114, 100] ∨ g.s = bs [116, 97, 103])) (fun g => [(4, .pointer (some ⟨bt, 0, none⟩)), (7, .pointer (some ⟨bt, 0, none⟩)), (11, .pointer (some ⟨bt, 0, none⟩)), (15, .pointer (some ⟨bt, 0, none⟩)), (18, .pointer (some ⟨bt, 0, none⟩)), (21, .pointer (some ⟨bt, 0, none⟩)), (6, .int .i64 (1 + g.n1)), (9, .int .i64 (g.n2 - 2)), (12, .int .i64 g.n3), (10, .slice (some ⟨g.b10, 0, none⟩) 2 2), (13, .pointer (some ⟨g.b10, 0 + g.n3.toNat * 1, none⟩)), (14, .string g.s), (17, .bool (decide (g.n4 = 2))), (20, .bool (decide (g.n5 = 2))), (2, .pointer (some ⟨b2, 0, none⟩))]) (fun g => [Tp.blk bt g.t, (b2, .cells #[.int .i64 0, .int .i64 0, .string ⟨#[]⟩, .string ⟨#[]⟩, .bool false, .bool false, .bool false] 39 (0, 0)), (g.b10, .cells #[.string ⟨#[119, 111, 114, 100]⟩, .string ⟨#[116, 97, 103]⟩] 9 (0, 0))]) 5 #[true, true, true, true, true, true, true, true, true, true, true, true, true, true, true, true, true, true, false, false, false, false, false] ?_ fun K5110 => ?_
  · rintro ⟨t, n1, n2, n3, n4, n5, n6, s, b10, b3⟩ ⟨ht, h1, h2, h3, h4, h5, hs⟩
    dsimp only at ht h1 h2 h3 h4 h5 hs ⊢
    refine TS.ways [18, 21] (by kernel_rfl) rfl zq16 ⟨⟨_, rfl, ?_⟩, ⟨_, rfl, ?_⟩, trivial⟩
    · (refine T.callW Wanted.none rfl rfl (next_fn _ _ _ _ ?_ ?_) zq1 ?_; (focus assumption); (focus omega); rintro _ _ _ _ ⟨rfl, m, t1, rfl, hm, ht1, rfl⟩)
      refine so ?_
      refine TS.back ?_
      refine TS.take 19 rfl (by kernel_rfl) (by kernel_rfl) (by kernel_rfl) (by kernel_rfl) (PV.eql rfl rfl) Wanted.none rfl rfl ?_
      refine TS.take 20 rfl (by kernel_rfl) (by kernel_rfl) (by kernel_rfl) (by kernel_rfl) (PV.build rfl zq12) Wanted.none rfl rfl ?_
      (refine K6110 ⟨t1, n1, n2, n3, n4, n5, m, s, b10, b3⟩ _ _ ⟨ht1, h1, h2, h3, h4, h5, hm, hs⟩ ?_ ?_ ?_ _ ?_; (focus exact zq8); (focus exact (by repeat (first | exact Sel.refl _ | exact Sel.nil | (refine Sel.cons zq1 ?_) | (refine Sel.app zq1 ?_) | exact Sel.one zq1))); (focus rfl); (focus kernel_rfl))
    · refine sy fun b => ?_
      refine so ?_
      refine TS.back ?_
      (refine K5111 ⟨t, n1, n2, n3, n4, n5, n6, s, b10, b⟩ _ _ ⟨ht, h1, h2, h3, h4, h5, hs⟩ ?_ ?_ ?_ _ ?_; (focus exact zq8); (focus exact (by repeat (first | exact Sel.refl _ | exact Sel.nil | (refine Sel.cons zq1 ?_) | (refine Sel.app zq1 ?_) | exact Sel.one zq1))); (focus rfl); (focus kernel_rfl))
  refine TS.cut (γ := KeG) (fun g => g.t.ok H ∧ (0 ≤ g.n1 ∧ g.n1 < 3) ∧ (0 ≤ g.n2 ∧ g.n2 < 5) ∧ (0 ≤ g.n3 ∧ g.n3 < 2) ∧ (0 ≤ g.n4 ∧ g.n4 < 3) ∧ (0 ≤ g.n5 ∧ g.n5 < 3) ∧ (0 ≤ g.n6 ∧ g.n6 < 2)) (fun g => [(4, .pointer (some ⟨bt, 0, none⟩)), (7, .pointer (some ⟨bt, 0, none⟩)), (11, .pointer (some ⟨bt, 0, none⟩)), (15, .pointer (some ⟨bt, 0, none⟩)), (18, .pointer (some ⟨bt, 0, none⟩)), (21, .pointer (some ⟨bt, 0, none⟩)), (6, .int .i64 (1 + g.n1)), (9, .int .i64 (g.n2 - 2)), (12, .int .i64 g.n3), (17, .bool (decide (g.n4 = 2))), (20, .bool (decide (g.n5 = 2))), (23, .bool (decide (g.n6 = 1))), (3, .pointer (some ⟨g.b3, 0, none⟩)), (2, .pointer (some ⟨b2, 0, none⟩))]) (fun g => [Tp.blk bt g.t, (b2, .cells #[.int .i64 0, .int .i64 0, .string ⟨#[]⟩, .string ⟨#[]⟩, .bool false, .bool false, .bool false] 39 (0, 0)), (g.b3, .cells #[.int .i64 0, .int .i64 0, .string ⟨#[]⟩, .string ⟨#[]⟩, .bool false, .bool false, .bool false] 39 (0, 0))]) 5 #[true, true, true, true, true, true, false, true, true, false, false, true, true, true, true, true, true, true, true, true, false, true, false] ?_ fun K6001 => ?_
  · rintro ⟨t, n1, n2, n3, n4, n5, n6, s, b10, b3⟩ ⟨ht, h1, h2, h3, h4, h5, h6⟩
    dsimp only at ht h1 h2 h3 h4 h5 h6 ⊢
    refine TS.ways [6] (by kernel_rfl) rfl zq16 ⟨⟨_, rfl, ?_⟩, trivial⟩
    (refine T.buildSlice Wanted.none rfl rfl zq11 (by exact rfl) (by exact rfl) ?_; intro b)
    refine so ?_
    refine TS.back ?_
    refine TS.take 9 rfl (by kernel_rfl) (by kernel_rfl) (by kernel_rfl) (by kernel_rfl) (PV.indexAddr rfl rfl (by omega)) Wanted.none rfl rfl ?_
    (refine K6101 ⟨t, n1, n2, n3, n4, n5, n6, s, b, b3⟩ _ _ ⟨ht, h1, h2, h3, h4, h5, h6⟩ ?_ ?_ ?_ _ ?_; (focus exact zq8); (focus exact (by repeat (first | exact Sel.refl _ | exact Sel.nil | (refine Sel.cons zq1 ?_) | (refine Sel.app zq1 ?_) | exact Sel.one zq1))); (focus rfl); (focus kernel_rfl))
  refine TS.cut (γ := KeG) (fun g => g.t.ok H ∧ (0 ≤ g.n1 ∧ g.n1 < 3) ∧ (0 ≤ g.n2 ∧ g.n2 < 5) ∧ (0 ≤ g.n3 ∧ g.n3 < 2) ∧ (0 ≤ g.n4 ∧ g.n4 < 3) ∧ (0 ≤ g.n5 ∧ g.n5 < 3) ∧ (0 ≤ g.n6 ∧ g.n6 < 2)) (fun g => [(4, .pointer (some ⟨bt, 0, none⟩)), (7, .pointer (some ⟨bt, 0, none⟩)), (11, .pointer (some ⟨bt, 0, none⟩)), (15, .pointer (some ⟨bt, 0, none⟩)), (18, .pointer (some ⟨bt, 0, none⟩)), (21, .pointer (some ⟨bt, 0, none⟩)), (6, .int .i64 (1 + g.n1)), (9, .int .i64 (g.n2 - 2)), (12, .int .i64 g.n3), (10, .slice (some ⟨g.b10, 0, none⟩) 2 2), (13, .pointer (some ⟨g.b10, 0 + g.n3.toNat * 1, none⟩)), (17, .bool (decide (g.n4 = 2))), (20, .bool (decide (g.n5 = 2))), (23, .bool (decide (g.n6 = 1))), (2, .pointer (some ⟨b2, 0, none⟩))]) (fun g => [Tp.blk bt g.t, (b2, .cells #[.int .i64 0, .int .i64 0, .string ⟨#[]⟩, .string ⟨#[]⟩, .bool false, .bool false, .bool false] 39 (0, 0)), (g.b10, .cells #[.string ⟨#[119, 111, 114, 100]⟩, .string ⟨#[116, 97, 103]⟩] 9 (0, 0))]) 4 #[true, true, true, true, true, true, true, true, true, true, false, true, true, true, true, true, true, true, true, true, false, false, false] ?_ fun K6100 => ?_
  · rintro ⟨t, n1, n2, n3, n4, n5, n6, s, b10, b3⟩ ⟨ht, h1, h2, h3, h4, h5, h6⟩
    dsimp only at ht h1 h2 h3 h4 h5 h6 ⊢
    refine TS.ways [10, 21] (by kernel_rfl) rfl zq16 ⟨⟨_, rfl, ?_⟩, ⟨_, rfl, ?_⟩, trivial⟩
    · obtain ⟨s1, hs1, hl1⟩ := hlit n3 h3
      refine sv (PV.load1 rfl zq0 (by exact hl1)) ?_
      refine so ?_
      refine TS.back ?_
      refine TS.take 20 rfl (by kernel_rfl) (by kernel_rfl) (by kernel_rfl) (by kernel_rfl) (PV.build rfl zq12) Wanted.none rfl rfl ?_
      (refine K6110 ⟨t, n1, n2, n3, n4, n5, n6, s1, b10, b3⟩ _ _ ⟨ht, h1, h2, h3, h4, h5, h6, hs1⟩ ?_ ?_ ?_ _ ?_; (focus exact zq8); (focus exact (by repeat (first | exact Sel.refl _ | exact Sel.nil | (refine Sel.cons zq1 ?_) | (refine Sel.app zq1 ?_) | exact Sel.one zq1))); (focus rfl); (focus kernel_rfl))
    · refine sy fun b => ?_
      refine so ?_
      refine TS.back ?_
      (refine K6101 ⟨t, n1, n2, n3, n4, n5, n6, s, b10, b⟩ _ _ ⟨ht, h1, h2, h3, h4, h5, h6⟩ ?_ ?_ ?_ _ ?_; (focus exact zq8); (focus exact (by repeat (first | exact Sel.refl _ | exact Sel.nil | (refine Sel.cons zq1 ?_) | (refine Sel.app zq1 ?_) | exact Sel.one zq1))); (focus rfl); (focus kernel_rfl))
  refine TS.cut (γ := KeG) (fun g => g.t.ok H ∧ (0 ≤ g.n1 ∧ g.n1 < 3) ∧ (0 ≤ g.n2 ∧ g.n2 < 5) ∧ (0 ≤ g.n3 ∧ g.n3 < 2) ∧ (g.s = bs [119, 111, 114, 100] ∨ g.s = bs [116, 97, 103])) (fun g => [(4, .pointer (some ⟨bt, 0, none⟩)), (7, .pointer (some ⟨bt, 0, none⟩)), (11, .pointer (some ⟨bt, 0, none⟩)), (15, .pointer (some ⟨bt, 0, none⟩)), (18, .pointer (some ⟨bt, 0, none⟩)), (21, .pointer (some ⟨bt, 0, none⟩)), (6, .int .i64 (1 + g.n1)), (9, .int .i64 (g.n2 - 2)), (12, .int .i64 g.n3), (10, .slice (some ⟨g.b10, 0, none⟩) 2 2), (13, .pointer (some ⟨g.b10, 0 + g.n3.toNat * 1, none⟩)), (14, .string g.s), (3, .pointer (some ⟨g.b3, 0, none⟩)), (2, .pointer (some ⟨b2, 0, none⟩))]) (fun g => [Tp.blk bt g.t, (b2, .cells #[.int .i64 0, .int .i64 0, .string ⟨#[]⟩, .string ⟨#[]⟩, .bool false, .bool false, .bool false] 39 (0, 0)), (g.b10, .cells #[.string ⟨#[119, 111, 114, 100]⟩, .string ⟨#[116, 97, 103]⟩] 9 (0, 0)), (g.b3, .cells #[.int .i64 0, .int .i64 0, .string ⟨#[]⟩, .string ⟨#[]⟩, .bool false, .bool false, .bool false] 39 (0, 0))]) 8 #[true, true, true, true, true, true, true, true, true, true, true, true, false, false, true, false, false, true, false, false, false, true, false] ?_ fun K3111 => ?_
  · rintro ⟨t, n1, n2, n3, n4, n5, n6, s, b10, b3⟩ ⟨ht, h1, h2, h3, hs⟩
    dsimp only at ht h1 h2 h3 hs ⊢
    refine TS.ways [12] (by kernel_rfl) rfl zq16 ⟨⟨_, rfl, ?_⟩, trivial⟩
    (refine T.callW Wanted.none rfl rfl (next_fn _ _ _ _ ?_ ?_) zq1 ?_; (focus assumption); (focus omega); rintro _ _ _ _ ⟨rfl, m, t1, rfl, hm, ht1, rfl⟩)
    refine so ?_
    refine TS.back ?_
    refine TS.take 13 rfl (by kernel_rfl) (by kernel_rfl) (by kernel_rfl) (by kernel_rfl) (PV.eql rfl rfl) Wanted.none rfl rfl ?_
    (refine K4111 ⟨t1, n1, n2, n3, m, n5, n6, s, b10, b3⟩ _ _ ⟨ht1, h1, h2, h3, hm, hs⟩ ?_ ?_ ?_ _ ?_; (focus exact zq8); (focus exact (by repeat (first | exact Sel.refl _ | exact Sel.nil | (refine Sel.cons zq1 ?_) | (refine Sel.app zq1 ?_) | exact Sel.one zq1))); (focus rfl); (focus kernel_rfl))
  refine TS.cut (γ := KeG) (fun g => g.t.ok H ∧ (0 ≤ g.n1 ∧ g.n1 < 3) ∧ (0 ≤ g.n2 ∧ g.n2 < 5) ∧ (0 ≤ g.n3 ∧ g.n3 < 2) ∧ (0 ≤ g.n4 ∧ g.n4 < 3)) (fun g => [(4, .pointer (some ⟨bt, 0, none⟩)), (7, .pointer (some ⟨bt, 0, none⟩)), (11, .pointer (some ⟨bt, 0, none⟩)), (15, .pointer (some ⟨bt, 0, none⟩)), (18, .pointer (some ⟨bt, 0, none⟩)), (21, .pointer (some ⟨bt, 0, none⟩)), (6, .int .i64 (1 + g.n1)), (9, .int .i64 (g.n2 - 2)), (12, .int .i64 g.n3), (10, .slice (some ⟨g.b10, 0, none⟩) 2 2), (13, .pointer (some ⟨g.b10, 0 + g.n3.toNat * 1, none⟩)), (17, .bool (decide (g.n4 = 2))), (3, .pointer (some ⟨g.b3, 0, none⟩)), (2, .pointer (some ⟨b2, 0, none⟩))]) (fun g => [Tp.blk bt g.t, (b2, .cells #[.int .i64 0, .int .i64 0, .string ⟨#[]⟩, .string ⟨#[]⟩, .bool false, .bool false, .bool false] 39 (0, 0)), (g.b10, .cells #[.string ⟨#[119, 111, 114, 100]⟩, .string ⟨#[116, 97, 103]⟩] 9 (0, 0)), (g.b3, .cells #[.int .i64 0, .int .i64 0, .string ⟨#[]⟩, .string ⟨#[]⟩, .bool false, .bool false, .bool false] 39 (0, 0))]) 7 #[true, true, true, true, true, true, true, true, true, true, false, true, true, true, true, false, false, true, false, false, false, true, false] ?_ fun K4101 => ?_
  · rintro ⟨t, n1, n2, n3, n4, n5, n6, s, b10, b3⟩ ⟨ht, h1, h2, h3, h4⟩
    dsimp only at ht h1 h2 h3 h4 ⊢
    refine TS.ways [10, 15] (by kernel_rfl) rfl zq16 ⟨⟨_, rfl, ?_⟩, ⟨_, rfl, ?_⟩, trivial⟩
    · obtain ⟨s1, hs1, hl1⟩ := hlit n3 h3
      refine sv (PV.load1 rfl zq0 (by exact hl1)) ?_
      refine so ?_
      refine TS.back ?_
      (refine K4111 ⟨t, n1, n2, n3, n4, n5, n6, s1, b10, b3⟩ _ _ ⟨ht, h1, h2, h3, h4, hs1⟩ ?_ ?_ ?_ _ ?_; (focus exact zq8); (focus exact (by repeat (first | exact Sel.refl _ | exact Sel.nil | (refine Sel.cons zq1 ?_) | (refine Sel.app zq1 ?_) | exact Sel.one zq1))); (focus rfl); (focus kernel_rfl))
    · (refine T.callW Wanted.none rfl rfl (next_fn _ _ _ _ ?_ ?_) zq1 ?_; (focus assumption); (focus omega); rintro _ _ _ _ ⟨rfl, m, t1, rfl, hm, ht1, rfl⟩)
      refine so ?_
      refine TS.back ?_
      refine TS.take 16 rfl (by kernel_rfl) (by kernel_rfl) (by kernel_rfl) (by kernel_rfl) (PV.eql rfl rfl) Wanted.none rfl rfl ?_
      (refine K5101 ⟨t1, n1, n2, n3, n4, m, n6, s, b10, b3⟩ _ _ ⟨ht1, h1, h2, h3, h4, hm⟩ ?_ ?_ ?_ _ ?_; (focus exact zq8); (focus exact (by repeat (first | exact Sel.refl _ | exact Sel.nil | (refine Sel.cons zq1 ?_) | (refine Sel.app zq1 ?_) | exact Sel.one zq1))); (focus rfl); (focus kernel_rfl))
  refine TS.cut (γ := KeG) (fun g => g.t.ok H ∧ (0 ≤ g.n1 ∧ g.n1 < 3) ∧ (0 ≤ g.n2 ∧ g.n2 < 5) ∧ (0 ≤ g.n3 ∧ g.n3 < 2) ∧ (0 ≤ g.n4 ∧ g.n4 < 3) ∧ (g.s = bs [119, 111, 114, 100] ∨ g.s = bs [116, 97, 103])) (fun g => [(4, .pointer (some ⟨bt, 0, none⟩)), (7, .pointer (some ⟨bt, 0, none⟩)), (11, .pointer (some ⟨bt, 0, none⟩)), (15, .pointer (some ⟨bt, 0, none⟩)), (18, .pointer (some ⟨bt, 0, none⟩)), (21, .pointer (some ⟨bt, 0, none⟩)), (6, .int .i64 (1 + g.n1)), (9, .int .i64 (g.n2 - 2)), (12, .int .i64 g.n3), (10, .slice (some ⟨g.b10, 0, none⟩) 2 2), (13, .pointer (some ⟨g.b10, 0 + g.n3.toNat * 1, none⟩)), (14, .string g.s), (17, .bool (decide (g.n4 = 2))), (2, .pointer (some ⟨b2, 0, none⟩))]) (fun g => [Tp.blk bt g.t, (b2, .cells #[.int .i64 0, .int .i64 0, .string ⟨#[]⟩, .string ⟨#[]⟩, .bool false, .bool false, .bool false] 39 (0, 0)), (g.b10, .cells #[.string ⟨#[119, 111, 114, 100]⟩, .string ⟨#[116, 97, 103]⟩] 9 (0, 0))]) 7 #[true, true, true, true, true, true, true, true, true, true, true, true, true, true, true, false, false, true, false, false, false, false, false] ?_ fun K4110 => ?_
  · rintro ⟨t, n1, n2, n3, n4, n5, n6, s, b10, b3⟩ ⟨ht, h1, h2, h3, h4, hs⟩
    dsimp only at ht h1 h2 h3 h4 hs ⊢
    refine TS.ways [15, 21] (by kernel_rfl) rfl zq16 ⟨⟨_, rfl, ?_⟩, ⟨_, rfl, ?_⟩, trivial⟩
    · (refine T.callW Wanted.none rfl rfl (next_fn _ _ _ _ ?_ ?_) zq1 ?_; (focus assumption); (focus omega); rintro _ _ _ _ ⟨rfl, m, t1, rfl, hm, ht1, rfl⟩)
      refine so ?_
      refine TS.back ?_
      refine TS.take 16 rfl (by kernel_rfl) (by kernel_rfl) (by kernel_rfl) (by kernel_rfl) (PV.eql rfl rfl) Wanted.none rfl rfl ?_
      (refine K5110 ⟨t1, n1, n2, n3, n4, m, n6, s, b10, b3⟩ _ _ ⟨ht1, h1, h2, h3, h4, hm, hs⟩ ?_ ?_ ?_ _ ?_; (focus exact zq8); (focus exact (by repeat (first | exact Sel.refl _ | exact Sel.nil | (refine Sel.cons zq1 ?_) | (refine Sel.app zq1 ?_) | exact Sel.one zq1))); (focus rfl); (focus kernel_rfl))
    · refine sy fun b => ?_
      refine so ?_
      refine TS.back ?_
      (refine K4111 ⟨t, n1, n2, n3, n4, n5, n6, s, b10, b⟩ _ _ ⟨ht, h1, h2, h3, h4, hs⟩ ?_ ?_ ?_ _ ?_; (focus exact zq8); (focus exact (by repeat (first | exact Sel.refl _ | exact Sel.nil | (refine Sel.cons zq1 ?_) | (refine Sel.app zq1 ?_) | exact Sel.one zq1))); (focus rfl); (focus kernel_rfl))
  refine TS.cut (γ := KeG) (fun g => g.t.ok H ∧ (0 ≤ g.n1 ∧ g.n1 < 3) ∧ (0 ≤ g.n2 ∧ g.n2 < 5) ∧ (0 ≤ g.n3 ∧ g.n3 < 2) ∧ (0 ≤ g.n4 ∧ g.n4 < 3) ∧ (0 ≤ g.n5 ∧ g.n5 < 3)) (fun g => [(4, .pointer (some ⟨bt, 0, none⟩)), (7, .pointer (some ⟨bt, 0, none⟩)), (11, .pointer (some ⟨bt, 0, none⟩)), (15, .pointer (some ⟨bt, 0, none⟩)), (18, .pointer (some ⟨bt, 0, none⟩)), (21, .pointer (some ⟨bt, 0, none⟩)), (6, .int .i64 (1 + g.n1)), (9, .int .i64 (g.n2 - 2)), (12, .int .i64 g.n3), (17, .bool (decide (g.n4 = 2))), (20, .bool (decide (g.n5 = 2))), (3, .pointer (some ⟨g.b3, 0, none⟩)), (2, .pointer (some ⟨b2, 0, none⟩))]) (fun g => [Tp.blk bt g.t, (b2, .cells #[.int .i64 0, .int .i64 0, .string ⟨#[]⟩, .string ⟨#[]⟩, .bool false, .bool false, .bool false] 39 (0, 0)), (g.b3, .cells #[.int .i64 0, .int .i64 0, .string ⟨#[]⟩, .string ⟨#[]⟩, .bool false, .bool false, .bool false] 39 (0, 0))]) 7 #[true, true, true, true, true, true, false, true, true, false, false, true, true, true, true, true, true, true, false, false, false, true, false] ?_ fun K5001 => ?_
  · rintro ⟨t, n1, n2, n3, n4, n5, n6, s, b10, b3⟩ ⟨ht, h1, h2, h3, h4, h5⟩
    dsimp only at ht h1 h2 h3 h4 h5 ⊢
    refine TS.ways [6, 18] (by kernel_rfl) rfl zq16 ⟨⟨_, rfl, ?_⟩, ⟨_, rfl, ?_⟩, trivial⟩
    · (refine T.buildSlice Wanted.none rfl rfl zq11 (by exact rfl) (by exact rfl) ?_; intro b)
      refine so ?_
      refine TS.back ?_
      refine TS.take 9 rfl (by kernel_rfl) (by kernel_rfl) (by kernel_rfl) (by kernel_rfl) (PV.indexAddr rfl rfl (by omega)) Wanted.none rfl rfl ?_
      (refine K5101 ⟨t, n1, n2, n3, n4, n5, n6, s, b, b3⟩ _ _ ⟨ht, h1, h2, h3, h4, h5⟩ ?_ ?_ ?_ _ ?_; (focus exact zq8); (focus exact (by repeat (first | exact Sel.refl _ | exact Sel.nil | (refine Sel.cons zq1 ?_) | (refine Sel.app zq1 ?_) | exact Sel.one zq1))); (focus rfl); (focus kernel_rfl))
    · (refine T.callW Wanted.none rfl rfl (next_fn _ _ _ _ ?_ ?_) zq1 ?_; (focus assumption); (focus omega); rintro _ _ _ _ ⟨rfl, m, t1, rfl, hm, ht1, rfl⟩)
      refine so ?_
      refine TS.back ?_
      refine TS.take 19 rfl (by kernel_rfl) (by kernel_rfl) (by kernel_rfl) (by kernel_rfl) (PV.eql rfl rfl) Wanted.none rfl rfl ?_
      (refine K6001 ⟨t1, n1, n2, n3, n4, n5, m, s, b10, b3⟩ _ _ ⟨ht1, h1, h2, h3, h4, h5, hm⟩ ?_ ?_ ?_ _ ?_; (focus exact zq8); (focus exact (by repeat (first | exact Sel.refl _ | exact Sel.nil | (refine Sel.cons zq1 ?_) | (refine Sel.app zq1 ?_) | exact Sel.one zq1))); (focus rfl); (focus kernel_rfl))
  refine TS.cut (γ := KeG) (fun g => g.t.ok H ∧ (0 ≤ g.n1 ∧ g.n1 < 3) ∧ (0 ≤ g.n2 ∧ g.n2 < 5) ∧ (0 ≤ g.n3 ∧ g.n3 < 2) ∧ (0 ≤ g.n4 ∧ g.n4 < 3) ∧ (0 ≤ g.n5 ∧ g.n5 < 3)) (fun g => [(4, .pointer (some ⟨bt, 0, none⟩)), (7, .pointer (some ⟨bt, 0, none⟩)), (11, .pointer (some ⟨bt, 0, none⟩)), (15, .pointer (some ⟨bt, 0, none⟩)), (18, .pointer (some ⟨bt, 0, none⟩)), (21, .pointer (some ⟨bt, 0, none⟩)), (6, .int .i64 (1 + g.n1)), (9, .int .i64 (g.n2 - 2)), (12, .int .i64 g.n3), (10, .slice (some ⟨g.b10, 0, none⟩) 2 2), (13, .pointer (some ⟨g.b10, 0 + g.n3.toNat * 1, none⟩)), (17, .bool (decide (g.n4 = 2))), (20, .bool (decide (g.n5 = 2))), (2, .pointer (some ⟨b2, 0, none⟩))]) (fun g => [Tp.blk bt g.t, (b2, .cells #[.int .i64 0, .int .i64 0, .string ⟨#[]⟩, .string ⟨#[]⟩, .bool false, .bool false, .bool false] 39 (0, 0)), (g.b10, .cells #[.string ⟨#[119, 111, 114, 100]⟩, .string ⟨#[116, 97, 103]⟩] 9 (0, 0))]) 6 #[true, true, true, true, true, true, true, true, true, true, false, true, true, true, true, true, true, true, false, false, false, false, false] ?_ fun K5100 => ?_
  · rintro ⟨t, n1, n2, n3, n4, n5, n6, s, b10, b3⟩ ⟨ht, h1, h2, h3, h4, h5⟩
    dsimp only at ht h1 h2 h3 h4 h5 ⊢
    refine TS.ways [10, 18, 21] (by kernel_rfl) rfl zq16 ⟨⟨_, rfl, ?_⟩, ⟨_, rfl, ?_⟩, ⟨_, rfl, ?_⟩, trivial⟩
    · obtain ⟨s1, hs1, hl1⟩ := hlit n3 h3
      refine sv (PV.load1 rfl zq0 (by exact hl1)) ?_
      refine so ?_
      refine TS.back ?_
      (refine K5110 ⟨t, n1, n2, n3, n4, n5, n6, s1, b10, b3⟩ _ _ ⟨ht, h1, h2, h3, h4, h5, hs1⟩ ?_ ?_ ?_ _ ?_; (focus exact zq8); (focus exact (by repeat (first | exact Sel.refl _ | exact Sel.nil | (refine Sel.cons zq1 ?_) | (refine Sel.app zq1 ?_) | exact Sel.one zq1))); (focus rfl); (focus kernel_rfl))
    · (refine T.callW Wanted.none rfl rfl (next_fn _ _ _ _ ?_ ?_) zq1 ?_; (focus assumption); (focus omega); rintro _ _ _ _ ⟨rfl, m, t1, rfl, hm, ht1, rfl⟩)
      refine so ?_
      refine TS.back ?_
      refine TS.take 19 rfl (by kernel_rfl) (by kernel_rfl) (by kernel_rfl) (by kernel_rfl) (PV.eql rfl rfl) Wanted.none rfl rfl ?_
      (refine K6100 ⟨t1, n1, n2, n3, n4, n5, m, s, b10, b3⟩ _ _ ⟨ht1, h1, h2, h3, h4, h5, hm⟩ ?_ ?_ ?_ _ ?_; (focus exact zq8); (focus exact (by repeat (first | exact Sel.refl _ | exact Sel.nil | (refine Sel.cons zq1 ?_) | (refine Sel.app zq1 ?_) | exact Sel.one zq1))); (focus rfl); (focus kernel_rfl))
    · refine sy fun b => ?_
      refine so ?_
      refine TS.back ?_
      (refine K5101 ⟨t, n1, n2, n3, n4, n5, n6, s, b10, b⟩ _ _ ⟨ht, h1, h2, h3, h4, h5⟩ ?_ ?_ ?_ _ ?_; (focus exact zq8); (focus exact (by repeat (first | exact Sel.refl _ | exact Sel.nil | (refine Sel.cons zq1 ?_) | (refine Sel.app zq1 ?_) | exact Sel.one zq1))); (focus rfl); (focus kernel_rfl))
  refine TS.cut (γ := KeG) (fun g => g.t.ok H ∧ (0 ≤ g.n1 ∧ g.n1 < 3) ∧ (0 ≤ g.n2 ∧ g.n2 < 5) ∧ (0 ≤ g.n3 ∧ g.n3 < 2) ∧ (0 ≤ g.n4 ∧ g.n4 < 3) ∧ (0 ≤ g.n5 ∧ g.n5 < 3) ∧ (0 ≤ g.n6 ∧ g.n6 < 2)) (fun g => [(4, .pointer (some ⟨bt, 0, none⟩)), (7, .pointer (some ⟨bt, 0, none⟩)), (11, .pointer (some ⟨bt, 0, none⟩)), (15, .pointer (some ⟨bt, 0, none⟩)), (18, .pointer (some ⟨bt, 0, none⟩)), (21, .pointer (some ⟨bt, 0, none⟩)), (6, .int .i64 (1 + g.n1)), (9, .int .i64 (g.n2 - 2)), (12, .int .i64 g.n3), (17, .bool (decide (g.n4 = 2))), (20, .bool (decide (g.n5 = 2))), (23, .bool (decide (g.n6 = 1))), (2, .pointer (some ⟨b2, 0, none⟩))]) (fun g => [Tp.blk bt g.t, (b2, .cells #[.int .i64 0, .int .i64 0, .string ⟨#[]⟩, .string ⟨#[]⟩, .bool false, .bool false, .bool false] 39 (0, 0))]) 6 #[true, true, true, true, true, true, false, true, true, false, false, true, true, true, true, true, true, true, true, true, false, false, false] ?_ fun K6000 => ?_
  · rintro ⟨t, n1, n2, n3, n4, n5, n6, s, b10, b3⟩ ⟨ht, h1, h2, h3, h4, h5, h6⟩
    dsimp only at ht h1 h2 h3 h4 h5 h6 ⊢
    refine TS.ways [6, 21] (by kernel_rfl) rfl zq16 ⟨⟨_, rfl, ?_⟩, ⟨_, rfl, ?_⟩, trivial⟩
    · (refine T.buildSlice Wanted.none rfl rfl zq11 (by exact rfl) (by exact rfl) ?_; intro b)
      refine so ?_
      refine TS.back ?_
      refine TS.take 9 rfl (by kernel_rfl) (by kernel_rfl) (by kernel_rfl) (by kernel_rfl) (PV.indexAddr rfl rfl (by omega)) Wanted.none rfl rfl ?_
      (refine K6100 ⟨t, n1, n2, n3, n4, n5, n6, s, b, b3⟩ _ _ ⟨ht, h1, h2, h3, h4, h5, h6⟩ ?_ ?_ ?_ _ ?_; (focus exact zq8); (focus exact (by repeat (first | exact Sel.refl _ | exact Sel.nil | (refine Sel.cons zq1 ?_) | (refine Sel.app zq1 ?_) | exact Sel.one zq1))); (focus rfl); (focus kernel_rfl))
    · refine sy fun b => ?_
      refine so ?_
      refine TS.back ?_
      (refine K6001 ⟨t, n1, n2, n3, n4, n5, n6, s, b10, b⟩ _ _ ⟨ht, h1, h2, h3, h4, h5, h6⟩ ?_ ?_ ?_ _ ?_; (focus exact zq8); (focus exact (by repeat (first | exact Sel.refl _ | exact Sel.nil | (refine Sel.cons zq1 ?_) | (refine Sel.app zq1 ?_) | exact Sel.one zq1))); (focus rfl); (focus kernel_rfl))
  refine TS.cut (γ := KeG) (fun g => g.t.ok H ∧ (0 ≤ g.n1 ∧ g.n1 < 3) ∧ (0 ≤ g.n2 ∧ g.n2 < 5) ∧ (0 ≤ g.n3 ∧ g.n3 < 2)) (fun g => [(4, .pointer (some ⟨bt, 0, none⟩)), (7, .pointer (some ⟨bt, 0, none⟩)), (11, .pointer (some ⟨bt, 0, none⟩)), (15, .pointer (some ⟨bt, 0, none⟩)), (18, .pointer (some ⟨bt, 0, none⟩)), (21, .pointer (some ⟨bt, 0, none⟩)), (6, .int .i64 (1 + g.n1)), (9, .int .i64 (g.n2 - 2)), (12, .int .i64 g.n3), (10, .slice (some ⟨g.b10, 0, none⟩) 2 2), (13, .pointer (some ⟨g.b10, 0 + g.n3.toNat * 1, none⟩)), (3, .pointer (some ⟨g.b3, 0, none⟩)), (2, .pointer (some ⟨b2, 0, none⟩))]) (fun g => [Tp.blk bt g.t, (b2, .cells #[.int .i64 0, .int .i64 0, .string ⟨#[]⟩, .string ⟨#[]⟩, .bool false, .bool false, .bool false] 39 (0, 0)), (g.b10, .cells #[.string ⟨#[119, 111, 114, 100]⟩, .string ⟨#[116, 97, 103]⟩] 9 (0, 0)), (g.b3, .cells #[.int .i64 0, .int .i64 0, .string ⟨#[]⟩, .string ⟨#[]⟩, .bool false, .bool false, .bool false] 39 (0, 0))]) 9 #[true, true, true, true, true, true, true, true, true, true, false, true, false, false, true, false, false, true, false, false, false, true, false] ?_ fun K3101 => ?_
  · rintro ⟨t, n1, n2, n3, n4, n5, n6, s, b10, b3⟩ ⟨ht, h1, h2, h3⟩
    dsimp only at ht h1 h2 h3 ⊢
    refine TS.ways [10, 12] (by kernel_rfl) rfl zq16 ⟨⟨_, rfl, ?_⟩, ⟨_, rfl, ?_⟩, trivial⟩
    · obtain ⟨s1, hs1, hl1⟩ := hlit n3 h3
      refine sv (PV.load1 rfl zq0 (by exact hl1)) ?_
      refine so ?_
      refine TS.back ?_
      (refine K3111 ⟨t, n1, n2, n3, n4, n5, n6, s1, b10, b3⟩ _ _ ⟨ht, h1, h2, h3, hs1⟩ ?_ ?_ ?_ _ ?_; (focus exact zq8); (focus exact (by repeat (first | exact Sel.refl _ | exact Sel.nil | (refine Sel.cons zq1 ?_) | (refine Sel.app zq1 ?_) | exact Sel.one zq1))); (focus rfl); (focus kernel_rfl))
    · (refine T.callW Wanted.none rfl rfl (next_fn _ _ _ _ ?_ ?_) zq1 ?_; (focus assumption); (focus omega); rintro _ _ _ _ ⟨rfl, m, t1, rfl, hm, ht1, rfl⟩)
      refine so ?_
      refine TS.back ?_
      refine TS.take 13 rfl (by kernel_rfl) (by kernel_rfl) (by kernel_rfl) (by kernel_rfl) (PV.eql rfl rfl) Wanted.none rfl rfl ?_
      (refine K4101 ⟨t1, n1, n2, n3, m, n5, n6, s, b10, b3⟩ _ _ ⟨ht1, h1, h2, h3, hm⟩ ?_ ?_ ?_ _ ?_; (focus exact zq8); (focus exact (by repeat (first | exact Sel.refl _ | exact Sel.nil | (refine Sel.cons zq1 ?_) | (refine Sel.app zq1 ?_) | exact Sel.one zq1))); (focus rfl); (focus kernel_rfl))
  refine TS.cut (γ := KeG) (fun g => g.t.ok H ∧ (0 ≤ g.n1 ∧ g.n1 < 3) ∧ (0 ≤ g.n2 ∧ g.n2 < 5) ∧ (0 ≤ g.n3 ∧ g.n3 < 2) ∧ (g.s = bs [119, 111, 114, 100] ∨ g.s = bs [116, 97, 103])) (fun g => [(4, .pointer (some ⟨bt, 0, none⟩)), (7, .pointer (some ⟨bt, 0, none⟩)), (11, .pointer (some ⟨bt, 0, none⟩)), (15, .pointer (some ⟨bt, 0, none⟩)), (18, .pointer (some ⟨bt, 0, none⟩)), (21, .pointer (some ⟨bt, 0, none⟩)), (6, .int .i64 (1 + g.n1)), (9, .int .i64 (g.n2 - 2)), (12, .int .i64 g.n3), (10, .slice (some ⟨g.b10, 0, none⟩) 2 2), (13, .pointer (some ⟨g.b10, 0 + g.n3.toNat * 1, none⟩)), (14, .string g.s), (2, .pointer (some ⟨b2, 0, none⟩))]) (fun g => [Tp.blk bt g.t, (b2, .cells #[.int .i64 0, .int .i64 0, .string ⟨#[]⟩, .string ⟨#[]⟩, .bool false, .bool false, .bool false] 39 (0, 0)), (g.b10, .cells #[.string ⟨#[119, 111, 114, 100]⟩, .string ⟨#[116, 97, 103]⟩] 9 (0, 0))]) 9 #[true, true, true, true, true, true, true, true, true, true, true, true, false, false, true, false, false, true, false, false, false, false, false] ?_ fun K3110 => ?_
  · rintro ⟨t, n1, n2, n3, n4, n5, n6, s, b10, b3⟩ ⟨ht, h1, h2, h3, hs⟩
    dsimp only at ht h1 h2 h3 hs ⊢
    refine TS.ways [12, 21] (by kernel_rfl) rfl zq16 ⟨⟨_, rfl, ?_⟩, ⟨_, rfl, ?_⟩, trivial⟩
    · (refine T.callW Wanted.none rfl rfl (next_fn _ _ _ _ ?_ ?_) zq1 ?_; (focus assumption); (focus omega); rintro _ _ _ _ ⟨rfl, m, t1, rfl, hm, ht1, rfl⟩)
      refine so ?_
      refine TS.back ?_
      refine TS.take 13 rfl (by kernel_rfl) (by kernel_rfl) (by kernel_rfl) (by kernel_rfl) (PV.eql rfl rfl) Wanted.none rfl rfl ?_
      (refine K4110 ⟨t1, n1, n2, n3, m, n5, n6, s, b10, b3⟩ _ _ ⟨ht1, h1, h2, h3, hm, hs⟩ ?_ ?_ ?_ _ ?_; (focus exact zq8); (focus exact (by repeat (first | exact Sel.refl _ | exact Sel.nil | (refine Sel.cons zq1 ?_) | (refine Sel.app zq1 ?_) | exact Sel.one zq1))); (focus rfl); (focus kernel_rfl))
    · refine sy fun b => ?_
      refine so ?_
      refine TS.back ?_
      (refine K3111 ⟨t, n1, n2, n3, n4, n5, n6, s, b10, b⟩ _ _ ⟨ht, h1, h2, h3, hs⟩ ?_ ?_ ?_ _ ?_; (focus exact zq8); (focus exact (by repeat (first | exact Sel.refl _ | exact Sel.nil | (refine Sel.cons zq1 ?_) | (refine Sel.app zq1 ?_) | exact Sel.one zq1))); (focus rfl); (focus kernel_rfl))
  refine TS.cut (γ := KeG) (fun g => g.t.ok H ∧ (0 ≤ g.n1 ∧ g.n1 < 3) ∧ (0 ≤ g.n2 ∧ g.n2 < 5) ∧ (0 ≤ g.n3 ∧ g.n3 < 2) ∧ (0 ≤ g.n4 ∧ g.n4 < 3)) (fun g => [(4, .pointer (some ⟨bt, 0, none⟩)), (7, .pointer (some ⟨bt, 0, none⟩)), (11, .pointer (some ⟨bt, 0, none⟩)), (15, .pointer (some ⟨bt, 0, none⟩)), (18, .pointer (some ⟨bt, 0, none⟩)), (21, .pointer (some ⟨bt, 0, none⟩)), (6, .int .i64 (1 + g.n1)), (9, .int .i64 (g.n2 - 2)), (12, .int .i64 g.n3), (17, .bool (decide (g.n4 = 2))), (3, .pointer (some ⟨g.b3, 0, none⟩)), (2, .pointer (some ⟨b2, 0, none⟩))]) (fun g => [Tp.blk bt g.t, (b2, .cells #[.int .i64 0, .int .i64 0, .string ⟨#[]⟩, .string ⟨#[]⟩, .bool false, .bool false, .bool false] 39 (0, 0)), (g.b3, .cells #[.int .i64 0, .int .i64 0, .string ⟨#[]⟩, .string ⟨#[]⟩, .bool false, .bool false, .bool false] 39 (0, 0))]) 9 #[true, true, true, true, true, true, false, true, true, false, false, true, true, true, true, false, false, true, false, false, false, true, false] ?_ fun K4001 => ?_
  · rintro ⟨t, n1, n2, n3, n4, n5, n6, s, b10, b3⟩ ⟨ht, h1, h2, h3, h4⟩
    dsimp only at ht h1 h2 h3 h4 ⊢
    refine TS.ways [6, 15] (by kernel_rfl) rfl zq16 ⟨⟨_, rfl, ?_⟩, ⟨_, rfl, ?_⟩, trivial⟩
    · (refine T.buildSlice Wanted.none rfl rfl zq11 (by exact rfl) (by exact rfl) ?_; intro b)
      refine so ?_
      refine TS.back ?_
      refine TS.take 9 rfl (by kernel_rfl) (by kernel_rfl) (by kernel_rfl) (by kernel_rfl) (PV.indexAddr rfl rfl (by omega)) Wanted.none rfl rfl ?_
      (refine K4101 ⟨t, n1, n2, n3, n4, n5, n6, s, b, b3⟩ _ _ ⟨ht, h1, h2, h3, h4⟩ ?_ ?_ ?_ _ ?_; (focus exact zq8); (focus exact (by repeat (first | exact Sel.refl _ | exact Sel.nil | (refine Sel.cons zq1 ?_) | (refine Sel.app zq1 ?_) | exact Sel.one zq1))); (focus rfl); (focus kernel_rfl))
    · (refine T.callW Wanted.none rfl rfl (next_fn _ _ _ _ ?_ ?_) zq1 ?_; (focus assumption); (focus omega); rintro _ _ _ _ ⟨rfl, m, t1, rfl, hm, ht1, rfl⟩)
      refine so ?_
      refine TS.back ?_
      refine TS.take 16 rfl (by kernel_rfl) (by kernel_rfl) (by kernel_rfl) (by kernel_rfl) (PV.eql rfl rfl) Wanted.none rfl rfl ?_
      (refine K5001 ⟨t1, n1, n2, n3, n4, m, n6, s, b10, b3⟩ _ _ ⟨ht1, h1, h2, h3, h4, hm⟩ ?_ ?_ ?_ _ ?_; (focus exact zq8); (focus exact (by repeat (first | exact Sel.refl _ | exact Sel.nil | (refine Sel.cons zq1 ?_) | (refine Sel.app zq1 ?_) | exact Sel.one zq1))); (focus rfl); (focus kernel_rfl))
  refine TS.cut (γ := KeG) (fun g => g.t.ok H ∧ (0 ≤ g.n1 ∧ g.n1 < 3) ∧ (0 ≤ g.n2 ∧ g.n2 < 5) ∧ (0 ≤ g.n3 ∧ g.n3 < 2) ∧ (0 ≤ g.n4 ∧ g.n4 < 3)) (fun g => [(4, .pointer (some ⟨bt, 0, none⟩)), (7, .pointer (some ⟨bt, 0, none⟩)), (11, .pointer (some ⟨bt, 0, none⟩)), (15, .pointer (some ⟨bt, 0, none⟩)), (18, .pointer (some ⟨bt, 0, none⟩)), (21, .pointer (some ⟨bt, 0, none⟩)), (6, .int .i64 (1 + g.n1)), (9, .int .i64 (g.n2 - 2)), (12, .int .i64 g.n3), (10, .slice (some ⟨g.b10, 0, none⟩) 2 2), (13, .pointer (some ⟨g.b10, 0 + g.n3.toNat * 1, none⟩)), (17, .bool (decide (g.n4 = 2))), (2, .pointer (some ⟨b2, 0, none⟩))]) (fun g => [Tp.blk bt g.t, (b2, .cells #[.int .i64 0, .int .i64 0, .string ⟨#[]⟩, .string ⟨#[]⟩, .bool false, .bool false, .bool false] 39 (0, 0)), (g.b10, .cells #[.string ⟨#[119, 111, 114, 100]⟩, .string ⟨#[116, 97, 103]⟩] 9 (0, 0))]) 8 #[true, true, true, true, true, true, true, true, true, true, false, true, true, true, true, false, false, true, false, false, false, false, false] ?_ fun K4100 => ?_
  · rintro ⟨t, n1, n2, n3, n4, n5, n6, s, b10, b3⟩ ⟨ht, h1, h2, h3, h4⟩
    dsimp only at ht h1 h2 h3 h4 ⊢
    refine TS.ways [10, 15, 21] (by kernel_rfl) rfl zq16 ⟨⟨_, rfl, ?_⟩, ⟨_, rfl, ?_⟩, ⟨_, rfl, ?_⟩, trivial⟩
    · obtain ⟨s1, hs1, hl1⟩ := hlit n3 h3
      refine sv (PV.load1 rfl zq0 (by exact hl1)) ?_
      refine so ?_
      refine TS.back ?_
      (refine K4110 ⟨t, n1, n2, n3, n4, n5, n6, s1, b10, b3⟩ _ _ ⟨ht, h1, h2, h3, h4, hs1⟩ ?_ ?_ ?_ _ ?_; (focus exact zq8); (focus exact (by repeat (first | exact Sel.refl _ | exact Sel.nil | (refine Sel.cons zq1 ?_) | (refine Sel.app zq1 ?_) | exact Sel.one zq1))); (focus rfl); (focus kernel_rfl))
    · (refine T.callW Wanted.none rfl rfl (next_fn _ _ _ _ ?_ ?_) zq1 ?_; (focus assumption); (focus omega); rintro _ _ _ _ ⟨rfl, m, t1, rfl, hm, ht1, rfl⟩)
      refine so ?_
      refine TS.back ?_
      refine TS.take 16 rfl (by kernel_rfl) (by kernel_rfl) (by kernel_rfl) (by kernel_rfl) (PV.eql rfl rfl) Wanted.none rfl rfl ?_
      (refine K5100 ⟨t1, n1, n2, n3, n4, m, n6, s, b10, b3⟩ _ _ ⟨ht1, h1, h2, h3, h4, hm⟩ ?_ ?_ ?_ _ ?_; (focus exact zq8); (focus exact (by repeat (first | exact Sel.refl _ | exact Sel.nil | (refine Sel.cons zq1 ?_) | (refine Sel.app zq1 ?_) | exact Sel.one zq1))); (focus rfl); (focus kernel_rfl))
    · refine sy fun b => ?_
      refine so ?_
      refine TS.back ?_
      (refine K4101 ⟨t, n1, n2, n3, n4, n5, n6, s, b10, b⟩ _ _ ⟨ht, h1, h2, h3, h4⟩ ?_ ?_ ?_ _ ?_; (focus exact zq8); (focus exact (by repeat (first | exact Sel.refl _ | exact Sel.nil | (refine Sel.cons zq1 ?_) | (refine Sel.app zq1 ?_) | exact Sel.one zq1))); (focus rfl); (focus kernel_rfl))
  refine TS.cut (γ := KeG) (fun g => g.t.ok H ∧ (0 ≤ g.n1 ∧ g.n1 < 3) ∧ (0 ≤ g.n2 ∧ g.n2 < 5) ∧ (0 ≤ g.n3 ∧ g.n3 < 2) ∧ (0 ≤ g.n4 ∧ g.n4 < 3) ∧ (0 ≤ g.n5 ∧ g.n5 < 3)) (fun g => [(4, .pointer (some ⟨bt, 0, none⟩)), (7, .pointer (some ⟨bt, 0, none⟩)), (11, .pointer (some ⟨bt, 0, none⟩)), (15, .pointer (some ⟨bt, 0, none⟩)), (18, .pointer (some ⟨bt, 0, none⟩)), (21, .pointer (some ⟨bt, 0, none⟩)), (6, .int .i64 (1 + g.n1)), (9, .int .i64 (g.n2 - 2)), (12, .int .i64 g.n3), (17, .bool (decide (g.n4 = 2))), (20, .bool (decide (g.n5 = 2))), (2, .pointer (some ⟨b2, 0, none⟩))]) (fun g => [Tp.blk bt g.t, (b2, .cells #[.int .i64 0, .int .i64 0, .string ⟨#[]⟩, .string ⟨#[]⟩, .bool false, .bool false, .bool false] 39 (0, 0))]) 8 #[true, true, true, true, true, true, false, true, true, false, false, true, true, true, true, true, true, true, false, false, false, false, false] ?_ fun K5000 => ?_
  · rintro ⟨t, n1, n2, n3, n4, n5, n6, s, b10, b3⟩ ⟨ht, h1, h2, h3, h4, h5⟩
    dsimp only at ht h1 h2 h3 h4 h5 ⊢
    refine TS.ways [6, 18, 21] (by kernel_rfl) rfl zq16 ⟨⟨_, rfl, ?_⟩, ⟨_, rfl, ?_⟩, ⟨_, rfl, ?_⟩, trivial⟩
    · (refine T.buildSlice Wanted.none rfl rfl zq11 (by exact rfl) (by exact rfl) ?_; intro b)
      refine so ?_
      refine TS.back ?_
      refine TS.take 9 rfl (by kernel_rfl) (by kernel_rfl) (by kernel_rfl) (by kernel_rfl) (PV.indexAddr rfl rfl (by omega)) Wanted.none rfl rfl ?_
      (refine K5100 ⟨t, n1, n2, n3, n4, n5, n6, s, b, b3⟩ _ _ ⟨ht, h1, h2, h3, h4, h5⟩ ?_ ?_ ?_ _ ?_; (focus exact zq8); (focus exact (by repeat (first | exact Sel.refl _ | exact Sel.nil | (refine Sel.cons zq1 ?_) | (refine Sel.app zq1 ?_) | exact Sel.one zq1))); (focus rfl); (focus kernel_rfl))
    · (refine T.callW Wanted.none rfl rfl (next_fn _ _ _ _ ?_ ?_) zq1 ?_; (focus assumption); (focus omega); rintro _ _ _ _ ⟨rfl, m, t1, rfl, hm, ht1, rfl⟩)
      refine so ?_
      refine TS.back ?_
      refine TS.take 19 rfl (by kernel_rfl) (by kernel_rfl) (by kernel_rfl) (by kernel_rfl) (PV.eql rfl rfl) Wanted.none rfl rfl ?_
      (refine K6000 ⟨t1, n1, n2, n3, n4, n5, m, s, b10, b3⟩ _ _ ⟨ht1, h1, h2, h3, h4, h5, hm⟩ ?_ ?_ ?_ _ ?_; (focus exact zq8); (focus exact (by repeat (first | exact Sel.refl _ | exact Sel.nil | (refine Sel.cons zq1 ?_) | (refine Sel.app zq1 ?_) | exact Sel.one zq1))); (focus rfl); (focus kernel_rfl))
    · refine sy fun b => ?_
      refine so ?_
      refine TS.back ?_
      (refine K5001 ⟨t, n1, n2, n3, n4, n5, n6, s, b10, b⟩ _ _ ⟨ht, h1, h2, h3, h4, h5⟩ ?_ ?_ ?_ _ ?_; (focus exact zq8); (focus exact (by repeat (first | exact Sel.refl _ | exact Sel.nil | (refine Sel.cons zq1 ?_) | (refine Sel.app zq1 ?_) | exact Sel.one zq1))); (focus rfl); (focus kernel_rfl))
  refine TS.cut (γ := KeG) (fun g => g.t.ok H ∧ (0 ≤ g.n1 ∧ g.n1 < 3) ∧ (0 ≤ g.n2 ∧ g.n2 < 5)) (fun g => [(4, .pointer (some ⟨bt, 0, none⟩)), (7, .pointer (some ⟨bt, 0, none⟩)), (11, .pointer (some ⟨bt, 0, none⟩)), (15, .pointer (some ⟨bt, 0, none⟩)), (18, .pointer (some ⟨bt, 0, none⟩)), (21, .pointer (some ⟨bt, 0, none⟩)), (6, .int .i64 (1 + g.n1)), (9, .int .i64 (g.n2 - 2)), (10, .slice (some ⟨g.b10, 0, none⟩) 2 2), (3, .pointer (some ⟨g.b3, 0, none⟩)), (2, .pointer (some ⟨b2, 0, none⟩))]) (fun g => [Tp.blk bt g.t, (b2, .cells #[.int .i64 0, .int .i64 0, .string ⟨#[]⟩, .string ⟨#[]⟩, .bool false, .bool false, .bool false] 39 (0, 0)), (g.b10, .cells #[.string ⟨#[119, 111, 114, 100]⟩, .string ⟨#[116, 97, 103]⟩] 9 (0, 0)), (g.b3, .cells #[.int .i64 0, .int .i64 0, .string ⟨#[]⟩, .string ⟨#[]⟩, .bool false, .bool false, .bool false] 39 (0, 0))]) 11 #[true, true, true, true, true, true, true, true, false, false, false, true, false, false, true, false, false, true, false, false, false, true, false] ?_ fun K2101 => ?_
  · rintro ⟨t, n1, n2, n3, n4, n5, n6, s, b10, b3⟩ ⟨ht, h1, h2⟩
    dsimp only at ht h1 h2 ⊢
    refine TS.ways [8] (by kernel_rfl) rfl zq16 ⟨⟨_, rfl, ?_⟩, trivial⟩
    (refine T.callW Wanted.none rfl rfl (next_fn _ _ _ _ ?_ ?_) zq1 ?_; (focus assumption); (focus omega); rintro _ _ _ _ ⟨rfl, m, t1, rfl, hm, ht1, rfl⟩)
    refine so ?_
    refine TS.back ?_
    refine TS.take 9 rfl (by kernel_rfl) (by kernel_rfl) (by kernel_rfl) (by kernel_rfl) (PV.indexAddr rfl rfl (by omega)) Wanted.none rfl rfl ?_
    (refine K3101 ⟨t1, n1, n2, m, n4, n5, n6, s, b10, b3⟩ _ _ ⟨ht1, h1, h2, hm⟩ ?_ ?_ ?_ _ ?_; (focus exact zq8); (focus exact (by repeat (first | exact Sel.refl _ | exact Sel.nil | (refine Sel.cons zq1 ?_) | (refine Sel.app zq1 ?_) | exact Sel.one zq1))); (focus rfl); (focus kernel_rfl))
  refine TS.cut (γ := KeG) (fun g => g.t.ok H ∧ (0 ≤ g.n1 ∧ g.n1 < 3) ∧ (0 ≤ g.n2 ∧ g.n2 < 5) ∧ (0 ≤ g.n3 ∧ g.n3 < 2)) (fun g => [(4, .pointer (some ⟨bt, 0, none⟩)), (7, .pointer (some ⟨bt, 0, none⟩)), (11, .pointer (some ⟨bt, 0, none⟩)), (15, .pointer (some ⟨bt, 0, none⟩)), (18, .pointer (some ⟨bt, 0, none⟩)), (21, .pointer (some ⟨bt, 0, none⟩)), (6, .int .i64 (1 + g.n1)), (9, .int .i64 (g.n2 - 2)), (12, .int .i64 g.n3), (3, .pointer (some ⟨g.b3, 0, none⟩)), (2, .pointer (some ⟨b2, 0, none⟩))]) (fun g => [Tp.blk bt g.t, (b2, .cells #[.int .i64 0, .int .i64 0, .string ⟨#[]⟩, .string ⟨#[]⟩, .bool false, .bool false, .bool false] 39 (0, 0)), (g.b3, .cells #[.int .i64 0, .int .i64 0, .string ⟨#[]⟩, .string ⟨#[]⟩, .bool false, .bool false, .bool false] 39 (0, 0))]) 11 #[true, true, true, true, true, true, false, true, true, false, false, true, false, false, true, false, false, true, false, false, false, true, false] ?_ fun K3001 => ?_
  · rintro ⟨t, n1, n2, n3, n4, n5, n6, s, b10, b3⟩ ⟨ht, h1, h2, h3⟩
    dsimp only at ht h1 h2 h3 ⊢
    refine TS.ways [6, 12] (by kernel_rfl) rfl zq16 ⟨⟨_, rfl, ?_⟩, ⟨_, rfl, ?_⟩, trivial⟩
    · (refine T.buildSlice Wanted.none rfl rfl zq11 (by exact rfl) (by exact rfl) ?_; intro b)
      refine so ?_
      refine TS.back ?_
      refine TS.take 9 rfl (by kernel_rfl) (by kernel_rfl) (by kernel_rfl) (by kernel_rfl) (PV.indexAddr rfl rfl (by omega)) Wanted.none rfl rfl ?_
      (refine K3101 ⟨t, n1, n2, n3, n4, n5, n6, s, b, b3⟩ _ _ ⟨ht, h1, h2, h3⟩ ?_ ?_ ?_ _ ?_; (focus exact zq8); (focus exact (by repeat (first | exact Sel.refl _ | exact Sel.nil | (refine Sel.cons zq1 ?_) | (refine Sel.app zq1 ?_) | exact Sel.one zq1))); (focus rfl); (focus kernel_rfl))
    · (refine T.callW Wanted.none rfl rfl (next_fn _ _ _ _ ?_ ?_) zq1 ?_; (focus assumption); (focus omega); rintro _ _ _ _ ⟨rfl, m, t1, rfl, hm, ht1, rfl⟩)
      refine so ?_
      refine TS.back ?_
      refine TS.take 13 rfl (by kernel_rfl) (by kernel_rfl) (by kernel_rfl) (by kernel_rfl) (PV.eql rfl rfl) Wanted.none rfl rfl ?_
      (refine K4001 ⟨t1, n1, n2, n3, m, n5, n6, s, b10, b3⟩ _ _ ⟨ht1, h1, h2, h3, hm⟩ ?_ ?_ ?_ _ ?_; (focus exact zq8); (focus exact (by repeat (first | exact Sel.refl _ | exact Sel.nil | (refine Sel.cons zq1 ?_) | (refine Sel.app zq1 ?_) | exact Sel.one zq1))); (focus rfl); (focus kernel_rfl))
  refine TS.cut (γ := KeG) (fun g => g.t.ok H ∧ (0 ≤ g.n1 ∧ g.n1 < 3) ∧ (0 ≤ g.n2 ∧ g.n2 < 5) ∧ (0 ≤ g.n3 ∧ g.n3 < 2)) (fun g => [(4, .pointer (some ⟨bt, 0, none⟩)), (7, .pointer (some ⟨bt, 0, none⟩)), (11, .pointer (some ⟨bt, 0, none⟩)), (15, .pointer (some ⟨bt, 0, none⟩)), (18, .pointer (some ⟨bt, 0, none⟩)), (21, .pointer (some ⟨bt, 0, none⟩)), (6, .int .i64 (1 + g.n1)), (9, .int .i64 (g.n2 - 2)), (12, .int .i64 g.n3), (10, .slice (some ⟨g.b10, 0, none⟩) 2 2), (13, .pointer (some ⟨g.b10, 0 + g.n3.toNat * 1, none⟩)), (2, .pointer (some ⟨b2, 0, none⟩))]) (fun g => [Tp.blk bt g.t, (b2, .cells #[.int .i64 0, .int .i64 0, .string ⟨#[]⟩, .string ⟨#[]⟩, .bool false, .bool false, .bool false] 39 (0, 0)), (g.b10, .cells #[.string ⟨#[119, 111, 114, 100]⟩, .string ⟨#[116, 97, 103]⟩] 9 (0, 0))]) 10 #[true, true, true, true, true, true, true, true, true, true, false, true, false, false, true, false, false, true, false, false, false, false, false] ?_ fun K3100 => ?_
  · rintro ⟨t, n1, n2, n3, n4, n5, n6, s, b10, b3⟩ ⟨ht, h1, h2, h3⟩
    dsimp only at ht h1 h2 h3 ⊢
    refine TS.ways [10, 12, 21] (by kernel_rfl) rfl zq16 ⟨⟨_, rfl, ?_⟩, ⟨_, rfl, ?_⟩, ⟨_, rfl, ?_⟩, trivial⟩
    · obtain ⟨s1, hs1, hl1⟩ := hlit n3 h3
      refine sv (PV.load1 rfl zq0 (by exact hl1)) ?_
      refine so ?_
      refine TS.back ?_
      (refine K3110 ⟨t, n1, n2, n3, n4, n5, n6, s1, b10, b3⟩ _ _ ⟨ht, h1, h2, h3, hs1⟩ ?_ ?_ ?_ _ ?_; (focus exact zq8); (focus exact (by repeat (first | exact Sel.refl _ | exact Sel.nil | (refine Sel.cons zq1 ?_) | (refine Sel.app zq1 ?_) | exact Sel.one zq1))); (focus rfl); (focus kernel_rfl))
    · (refine T.callW Wanted.none rfl rfl (next_fn _ _ _ _ ?_ ?_) zq1 ?_; (focus assumption); (focus omega); rintro _ _ _ _ ⟨rfl, m, t1, rfl, hm, ht1, rfl⟩)
      refine so ?_
      refine TS.back ?_
      refine TS.take 13 rfl (by kernel_rfl) (by kernel_rfl) (by kernel_rfl) (by kernel_rfl) (PV.eql rfl rfl) Wanted.none rfl rfl ?_
      (refine K4100 ⟨t1, n1, n2, n3, m, n5, n6, s, b10, b3⟩ _ _ ⟨ht1, h1, h2, h3, hm⟩ ?_ ?_ ?_ _ ?_; (focus exact zq8); (focus exact (by repeat (first | exact Sel.refl _ | exact Sel.nil | (refine Sel.cons zq1 ?_) | (refine Sel.app zq1 ?_) | exact Sel.one zq1))); (focus rfl); (focus kernel_rfl))
    · refine sy fun b => ?_
      refine so ?_
      refine TS.back ?_
      (refine K3101 ⟨t, n1, n2, n3, n4, n5, n6, s, b10, b⟩ _ _ ⟨ht, h1, h2, h3⟩ ?_ ?_ ?_ _ ?_; (focus exact zq8); (focus exact (by repeat (first | exact Sel.refl _ | exact Sel.nil | (refine Sel.cons zq1 ?_) | (refine Sel.app zq1 ?_) | exact Sel.one zq1))); (focus rfl); (focus kernel_rfl))
  refine TS.cut (γ := KeG) (fun g => g.t.ok H ∧ (0 ≤ g.n1 ∧ g.n1 < 3) ∧ (0 ≤ g.n2 ∧ g.n2 < 5) ∧ (0 ≤ g.n3 ∧ g.n3 < 2) ∧ (0 ≤ g.n4 ∧ g.n4 < 3)) (fun g => [(4, .pointer (some ⟨bt, 0, none⟩)), (7, .pointer (some ⟨bt, 0, none⟩)), (11, .pointer (some ⟨bt, 0, none⟩)), (15, .pointer (some ⟨bt, 0, none⟩)), (18, .pointer (some ⟨bt, 0, none⟩)), (21, .pointer (some ⟨bt, 0, none⟩)), (6, .int .i64 (1 + g.n1)), (9, .int .i64 (g.n2 - 2)), (12, .int .i64 g.n3), (17, .bool (decide (g.n4 = 2))), (2, .pointer (some ⟨b2, 0, none⟩))]) (fun g => [Tp.blk bt g.t, (b2, .cells #[.int .i64 0, .int .i64 0, .string ⟨#[]⟩, .string ⟨#[]⟩, .bool false, .bool false, .bool false] 39 (0, 0))]) 10 #[true, true, true, true, true, true, false, true, true, false, false, true, true, true, true, false, false, true, false, false, false, false, false] ?_ fun K4000 => ?_
  · rintro ⟨t, n1, n2, n3, n4, n5, n6, s, b10, b3⟩ ⟨ht, h1, h2, h3, h4⟩
    dsimp only at ht h1 h2 h3 h4 ⊢
    refine TS.ways [6, 15, 21] (by kernel_rfl) rfl zq16 ⟨⟨_, rfl, ?_⟩, ⟨_, rfl, ?_⟩, ⟨_, rfl, ?_⟩, trivial⟩
    · (refine T.buildSlice Wanted.none rfl rfl zq11 (by exact rfl) (by exact rfl) ?_; intro b)
      refine so ?_
      refine TS.back ?_
      refine TS.take 9 rfl (by kernel_rfl) (by kernel_rfl) (by kernel_rfl) (by kernel_rfl) (PV.indexAddr rfl rfl (by omega)) Wanted.none rfl rfl ?_
      (refine K4100 ⟨t, n1, n2, n3, n4, n5, n6, s, b, b3⟩ _ _ ⟨ht, h1, h2, h3, h4⟩ ?_ ?_ ?_ _ ?_; (focus exact zq8); (focus exact (by repeat (first | exact Sel.refl _ | exact Sel.nil | (refine Sel.cons zq1 ?_) | (refine Sel.app zq1 ?_) | exact Sel.one zq1))); (focus rfl); (focus kernel_rfl))
    · (refine T.callW Wanted.none rfl rfl (next_fn _ _ _ _ ?_ ?_) zq1 ?_; (focus assumption); (focus omega); rintro _ _ _ _ ⟨rfl, m, t1, rfl, hm, ht1, rfl⟩)
      refine so ?_
      refine TS.back ?_
      refine TS.take 16 rfl (by kernel_rfl) (by kernel_rfl) (by kernel_rfl) (by kernel_rfl) (PV.eql rfl rfl) Wanted.none rfl rfl ?_
      (refine K5000 ⟨t1, n1, n2, n3, n4, m, n6, s, b10, b3⟩ _ _ ⟨ht1, h1, h2, h3, h4, hm⟩ ?_ ?_ ?_ _ ?_; (focus exact zq8); (focus exact (by repeat (first | exact Sel.refl _ | exact Sel.nil | (refine Sel.cons zq1 ?_) | (refine Sel.app zq1 ?_) | exact Sel.one zq1))); (focus rfl); (focus kernel_rfl))
    · refine sy fun b => ?_
      refine so ?_
      refine TS.back ?_
      (refine K4001 ⟨t, n1, n2, n3, n4, n5, n6, s, b10, b⟩ _ _ ⟨ht, h1, h2, h3, h4⟩ ?_ ?_ ?_ _ ?_; (focus exact zq8); (focus exact (by repeat (first | exact Sel.refl _ | exact Sel.nil | (refine Sel.cons zq1 ?_) | (refine Sel.app zq1 ?_) | exact Sel.one zq1))); (focus rfl); (focus kernel_rfl))
  refine TS.cut (γ := KeG) (fun g => g.t.ok H ∧ (0 ≤ g.n1 ∧ g.n1 < 3)) (fun g => [(4, .pointer (some ⟨bt, 0, none⟩)), (7, .pointer (some ⟨bt, 0, none⟩)), (11, .pointer (some ⟨bt, 0, none⟩)), (15, .pointer (some ⟨bt, 0, none⟩)), (18, .pointer (some ⟨bt, 0, none⟩)), (21, .pointer (some ⟨bt, 0, none⟩)), (6, .int .i64 (1 + g.n1)), (10, .slice (some ⟨g.b10, 0, none⟩) 2 2), (3, .pointer (some ⟨g.b3, 0, none⟩)), (2, .pointer (some ⟨b2, 0, none⟩))]) (fun g => [Tp.blk bt g.t, (b2, .cells #[.int .i64 0, .int .i64 0, .string ⟨#[]⟩, .string ⟨#[]⟩, .bool false, .bool false, .bool false] 39 (0, 0)), (g.b10, .cells #[.string ⟨#[119, 111, 114, 100]⟩, .string ⟨#[116, 97, 103]⟩] 9 (0, 0)), (g.b3, .cells #[.int .i64 0, .int .i64 0, .string ⟨#[]⟩, .string ⟨#[]⟩, .bool false, .bool false, .bool false] 39 (0, 0))]) 13 #[true, true, true, true, false, false, true, true, false, false, false, true, false, false, true, false, false, true, false, false, false, true, false] ?_ fun K1101 => ?_
  · rintro ⟨t, n1, n2, n3, n4, n5, n6, s, b10, b3⟩ ⟨ht, h1⟩
    dsimp only at ht h1 ⊢
    refine TS.ways [4] (by kernel_rfl) rfl zq16 ⟨⟨_, rfl, ?_⟩, trivial⟩
    (refine T.callW Wanted.none rfl rfl (next_fn _ _ _ _ ?_ ?_) zq1 ?_; (focus assumption); (focus omega); rintro _ _ _ _ ⟨rfl, m, t1, rfl, hm, ht1, rfl⟩)
    refine so ?_
    refine TS.back ?_
    refine TS.take 5 rfl (by kernel_rfl) (by kernel_rfl) (by kernel_rfl) (by kernel_rfl) (PV.sub rfl rfl (by omega)) Wanted.none rfl rfl ?_
    (refine K2101 ⟨t1, n1, m, n3, n4, n5, n6, s, b10, b3⟩ _ _ ⟨ht1, h1, hm⟩ ?_ ?_ ?_ _ ?_; (focus exact zq8); (focus exact (by repeat (first | exact Sel.refl _ | exact Sel.nil | (refine Sel.cons zq1 ?_) | (refine Sel.app zq1 ?_) | exact Sel.one zq1))); (focus rfl); (focus kernel_rfl))
  refine TS.cut (γ := KeG) (fun g => g.t.ok H ∧ (0 ≤ g.n1 ∧ g.n1 < 3) ∧ (0 ≤ g.n2 ∧ g.n2 < 5)) (fun g => [(4, .pointer (some ⟨bt, 0, none⟩)), (7, .pointer (some ⟨bt, 0, none⟩)), (11, .pointer (some ⟨bt, 0, none⟩)), (15, .pointer (some ⟨bt, 0, none⟩)), (18, .pointer (some ⟨bt, 0, none⟩)), (21, .pointer (some ⟨bt, 0, none⟩)), (6, .int .i64 (1 + g.n1)), (9, .int .i64 (g.n2 - 2)), (3, .pointer (some ⟨g.b3, 0, none⟩)), (2, .pointer (some ⟨b2, 0, none⟩))]) (fun g => [Tp.blk bt g.t, (b2, .cells #[.int .i64 0, .int .i64 0, .string ⟨#[]⟩, .string ⟨#[]⟩, .bool false, .bool false, .bool false] 39 (0, 0)), (g.b3, .cells #[.int .i64 0, .int .i64 0, .string ⟨#[]⟩, .string ⟨#[]⟩, .bool false, .bool false, .bool false] 39 (0, 0))]) 12 #[true, true, true, true, true, true, false, true, false, false, false, true, false, false, true, false, false, true, false, false, false, true, false] ?_ fun K2001 => ?_
  · rintro ⟨t, n1, n2, n3, n4, n5, n6, s, b10, b3⟩ ⟨ht, h1, h2⟩
    dsimp only at ht h1 h2 ⊢
    refine TS.ways [6, 8] (by kernel_rfl) rfl zq16 ⟨⟨_, rfl, ?_⟩, ⟨_, rfl, ?_⟩, trivial⟩
    · (refine T.buildSlice Wanted.none rfl rfl zq11 (by exact rfl) (by exact rfl) ?_; intro b)
      refine so ?_
      refine TS.back ?_
      (refine K2101 ⟨t, n1, n2, n3, n4, n5, n6, s, b, b3⟩ _ _ ⟨ht, h1, h2⟩ ?_ ?_ ?_ _ ?_; (focus exact zq8); (focus exact (by repeat (first | exact Sel.refl _ | exact Sel.nil | (refine Sel.cons zq1 ?_) | (refine Sel.app zq1 ?_) | exact Sel.one zq1))); (focus rfl); (focus kernel_rfl))
    · (refine T.callW Wanted.none rfl rfl (next_fn _ _ _ _ ?_ ?_) zq1 ?_; (focus assumption); (focus omega); rintro _ _ _ _ ⟨rfl, m, t1, rfl, hm, ht1, rfl⟩)
      refine so ?_
      refine TS.back ?_
      (refine K3001 ⟨t1, n1, n2, m, n4, n5, n6, s, b10, b3⟩ _ _ ⟨ht1, h1, h2, hm⟩ ?_ ?_ ?_ _ ?_; (focus exact zq8); (focus exact (by repeat (first | exact Sel.refl _ | exact Sel.nil | (refine Sel.cons zq1 ?_) | (refine Sel.app zq1 ?_) | exact Sel.one zq1))); (focus rfl); (focus kernel_rfl))
  refine TS.cut (γ := KeG) (fun g => g.t.ok H ∧ (0 ≤ g.n1 ∧ g.n1 < 3) ∧ (0 ≤ g.n2 ∧ g.n2 < 5)) (fun g => [(4, .pointer (some ⟨bt, 0, none⟩)), (7, .pointer (some ⟨bt, 0, none⟩)), (11, .pointer (some ⟨bt, 0, none⟩)), (15, .pointer (some ⟨bt, 0, none⟩)), (18, .pointer (some ⟨bt, 0, none⟩)), (21, .pointer (some ⟨bt, 0, none⟩)), (6, .int .i64 (1 + g.n1)), (9, .int .i64 (g.n2 - 2)), (10, .slice (some ⟨g.b10, 0, none⟩) 2 2), (2, .pointer (some ⟨b2, 0, none⟩))]) (fun g => [Tp.blk bt g.t, (b2, .cells #[.int .i64 0, .int .i64 0, .string ⟨#[]⟩, .string ⟨#[]⟩, .bool false, .bool false, .bool false] 39 (0, 0)), (g.b10, .cells #[.string ⟨#[119, 111, 114, 100]⟩, .string ⟨#[116, 97, 103]⟩] 9 (0, 0))]) 12 #[true, true, true, true, true, true, true, true, false, false, false, true, false, false, true, false, false, true, false, false, false, false, false] ?_ fun K2100 => ?_
  · rintro ⟨t, n1, n2, n3, n4, n5, n6, s, b10, b3⟩ ⟨ht, h1, h2⟩
    dsimp only at ht h1 h2 ⊢
    refine TS.ways [8, 21] (by kernel_rfl) rfl zq16 ⟨⟨_, rfl, ?_⟩, ⟨_, rfl, ?_⟩, trivial⟩
    · (refine T.callW Wanted.none rfl rfl (next_fn _ _ _ _ ?_ ?_) zq1 ?_; (focus assumption); (focus omega); rintro _ _ _ _ ⟨rfl, m, t1, rfl, hm, ht1, rfl⟩)
      refine so ?_
      refine TS.back ?_
      refine TS.take 9 rfl (by kernel_rfl) (by kernel_rfl) (by kernel_rfl) (by kernel_rfl) (PV.indexAddr rfl rfl (by omega)) Wanted.none rfl rfl ?_
      (refine K3100 ⟨t1, n1, n2, m, n4, n5, n6, s, b10, b3⟩ _ _ ⟨ht1, h1, h2, hm⟩ ?_ ?_ ?_ _ ?_; (focus exact zq8); (focus exact (by repeat (first | exact Sel.refl _ | exact Sel.nil | (refine Sel.cons zq1 ?_) | (refine Sel.app zq1 ?_) | exact Sel.one zq1))); (focus rfl); (focus kernel_rfl))
    · refine sy fun b => ?_
      refine so ?_
      refine TS.back ?_
      (refine K2101 ⟨t, n1, n2, n3, n4, n5, n6, s, b10, b⟩ _ _ ⟨ht, h1, h2⟩ ?_ ?_ ?_ _ ?_; (focus exact zq8); (focus exact (by repeat (first | exact Sel.refl _ | exact Sel.nil | (refine Sel.cons zq1 ?_) | (refine Sel.app zq1 ?_) | exact Sel.one zq1))); (focus rfl); (focus kernel_rfl))
  refine TS.cut (γ := KeG) (fun g => g.t.ok H ∧ (0 ≤ g.n1 ∧ g.n1 < 3) ∧ (0 ≤ g.n2 ∧ g.n2 < 5) ∧ (0 ≤ g.n3 ∧ g.n3 < 2)) (fun g => [(4, .pointer (some ⟨bt, 0, none⟩)), (7, .pointer (some ⟨bt, 0, none⟩)), (11, .pointer (some ⟨bt, 0, none⟩)), (15, .pointer (some ⟨bt, 0, none⟩)), (18, .pointer (some ⟨bt, 0, none⟩)), (21, .pointer (some ⟨bt, 0, none⟩)), (6, .int .i64 (1 + g.n1)), (9, .int .i64 (g.n2 - 2)), (12, .int .i64 g.n3), (2, .pointer (some ⟨b2, 0, none⟩))]) (fun g => [Tp.blk bt g.t, (b2, .cells #[.int .i64 0, .int .i64 0, .string ⟨#[]⟩, .string ⟨#[]⟩, .bool false, .bool false, .bool false] 39 (0, 0))]) 12 #[true, true, true, true, true, true, false, true, true, false, false, true, false, false, true, false, false, true, false, false, false, false, false] ?_ fun K3000 => ?_
  · rintro ⟨t, n1, n2, n3, n4, n5, n6, s, b10, b3⟩ ⟨ht, h1, h2, h3⟩
    dsimp only at ht h1 h2 h3 ⊢
    refine TS.ways [6, 12, 21] (by kernel_rfl) rfl zq16 ⟨⟨_, rfl, ?_⟩, ⟨_, rfl, ?_⟩, ⟨_, rfl, ?_⟩, trivial⟩
    · (refine T.buildSlice Wanted.none rfl rfl zq11 (by exact rfl) (by exact rfl) ?_; intro b)
      refine so ?_
      refine TS.back ?_
      refine TS.take 9 rfl (by kernel_rfl) (by kernel_rfl) (by kernel_rfl) (by kernel_rfl) (PV.indexAddr rfl rfl (by omega)) Wanted.none rfl rfl ?_
      (refine K3100 ⟨t, n1, n2, n3, n4, n5, n6, s, b, b3⟩ _ _ ⟨ht, h1, h2, h3⟩ ?_ ?_ ?_ _ ?_; (focus exact zq8); (focus exact (by repeat (first | exact Sel.refl _ | exact Sel.nil | (refine Sel.cons zq1 ?_) | (refine Sel.app zq1 ?_) | exact Sel.one zq1))); (focus rfl); (focus kernel_rfl))
    · (refine T.callW Wanted.none rfl rfl (next_fn _ _ _ _ ?_ ?_) zq1 ?_; (focus assumption); (focus omega); rintro _ _ _ _ ⟨rfl, m, t1, rfl, hm, ht1, rfl⟩)
      refine so ?_
      refine TS.back ?_
      refine TS.take 13 rfl (by kernel_rfl) (by kernel_rfl) (by kernel_rfl) (by kernel_rfl) (PV.eql rfl rfl) Wanted.none rfl rfl ?_
      (refine K4000 ⟨t1, n1, n2, n3, m, n5, n6, s, b10, b3⟩ _ _ ⟨ht1, h1, h2, h3, hm⟩ ?_ ?_ ?_ _ ?_; (focus exact zq8); (focus exact (by repeat (first | exact Sel.refl _ | exact Sel.nil | (refine Sel.cons zq1 ?_) | (refine Sel.app zq1 ?_) | exact Sel.one zq1))); (focus rfl); (focus kernel_rfl))
    · refine sy fun b => ?_
      refine so ?_
      refine TS.back ?_
      (refine K3001 ⟨t, n1, n2, n3, n4, n5, n6, s, b10, b⟩ _ _ ⟨ht, h1, h2, h3⟩ ?_ ?_ ?_ _ ?_; (focus exact zq8); (focus exact (by repeat (first | exact Sel.refl _ | exact Sel.nil | (refine Sel.cons zq1 ?_) | (refine Sel.app zq1 ?_) | exact Sel.one zq1))); (focus rfl); (focus kernel_rfl))
  refine TS.cut (γ := KeG) (fun g => g.t.ok H) (fun g => [(4, .pointer (some ⟨bt, 0, none⟩)), (7, .pointer (some ⟨bt, 0, none⟩)), (11, .pointer (some ⟨bt, 0, none⟩)), (15, .pointer (some ⟨bt, 0, none⟩)), (18, .pointer (some ⟨bt, 0, none⟩)), (21, .pointer (some ⟨bt, 0, none⟩)), (10, .slice (some ⟨g.b10, 0, none⟩) 2 2), (3, .pointer (some ⟨g.b3, 0, none⟩)), (2, .pointer (some ⟨b2, 0, none⟩))]) (fun g => [Tp.blk bt g.t, (b2, .cells #[.int .i64 0, .int .i64 0, .string ⟨#[]⟩, .string ⟨#[]⟩, .bool false, .bool false, .bool false] 39 (0, 0)), (g.b10, .cells #[.string ⟨#[119, 111, 114, 100]⟩, .string ⟨#[116, 97, 103]⟩] 9 (0, 0)), (g.b3, .cells #[.int .i64 0, .int .i64 0, .string ⟨#[]⟩, .string ⟨#[]⟩, .bool false, .bool false, .bool false] 39 (0, 0))]) 15 #[true, false, false, true, false, false, true, true, false, false, false, true, false, false, true, false, false, true, false, false, false, true, false] ?_ fun K0101 => ?_
  · rintro ⟨t, n1, n2, n3, n4, n5, n6, s, b10, b3⟩ ht
    dsimp only at ht ⊢
    refine TS.ways [1] (by kernel_rfl) rfl zq16 ⟨⟨_, rfl, ?_⟩, trivial⟩
    (refine T.callW Wanted.none rfl rfl (next_fn _ _ _ _ ?_ ?_) zq1 ?_; (focus assumption); (focus omega); rintro _ _ _ _ ⟨rfl, m, t1, rfl, hm, ht1, rfl⟩)
    refine so ?_
    refine TS.back ?_
    refine TS.take 2 rfl (by kernel_rfl) (by kernel_rfl) (by kernel_rfl) (by kernel_rfl) (PV.add rfl rfl (by omega)) Wanted.none rfl rfl ?_
    (refine K1101 ⟨t1, m, n2, n3, n4, n5, n6, s, b10, b3⟩ _ _ ⟨ht1, hm⟩ ?_ ?_ ?_ _ ?_; (focus exact zq8); (focus exact (by repeat (first | exact Sel.refl _ | exact Sel.nil | (refine Sel.cons zq1 ?_) | (refine Sel.app zq1 ?_) | exact Sel.one zq1))); (focus rfl); (focus kernel_rfl))
  refine TS.cut (γ := KeG) (fun g => g.t.ok H ∧ (0 ≤ g.n1 ∧ g.n1 < 3)) (fun g => [(4, .pointer (some ⟨bt, 0, none⟩)), (7, .pointer (some ⟨bt, 0, none⟩)), (11, .pointer (some ⟨bt, 0, none⟩)), (15, .pointer (some ⟨bt, 0, none⟩)), (18, .pointer (some ⟨bt, 0, none⟩)), (21, .pointer (some ⟨bt, 0, none⟩)), (6, .int .i64 (1 + g.n1)), (3, .pointer (some ⟨g.b3, 0, none⟩)), (2, .pointer (some ⟨b2, 0, none⟩))]) (fun g => [Tp.blk bt g.t, (b2, .cells #[.int .i64 0, .int .i64 0, .string ⟨#[]⟩, .string ⟨#[]⟩, .bool false, .bool false, .bool false] 39 (0, 0)), (g.b3, .cells #[.int .i64 0, .int .i64 0, .string ⟨#[]⟩, .string ⟨#[]⟩, .bool false, .bool false, .bool false] 39 (0, 0))]) 14 #[true, true, true, true, false, false, false, true, false, false, false, true, false, false, true, false, false, true, false, false, false, true, false] ?_ fun K1001 => ?_
  · rintro ⟨t, n1, n2, n3, n4, n5, n6, s, b10, b3⟩ ⟨ht, h1⟩
    dsimp only at ht h1 ⊢
    refine TS.ways [4, 6] (by kernel_rfl) rfl zq16 ⟨⟨_, rfl, ?_⟩, ⟨_, rfl, ?_⟩, trivial⟩
    · (refine T.callW Wanted.none rfl rfl (next_fn _ _ _ _ ?_ ?_) zq1 ?_; (focus assumption); (focus omega); rintro _ _ _ _ ⟨rfl, m, t1, rfl, hm, ht1, rfl⟩)
      refine so ?_
      refine TS.back ?_
      refine TS.take 5 rfl (by kernel_rfl) (by kernel_rfl) (by kernel_rfl) (by kernel_rfl) (PV.sub rfl rfl (by omega)) Wanted.none rfl rfl ?_
      (refine K2001 ⟨t1, n1, m, n3, n4, n5, n6, s, b10, b3⟩ _ _ ⟨ht1, h1, hm⟩ ?_ ?_ ?_ _ ?_; (focus exact zq8); (focus exact (by repeat (first | exact Sel.refl _ | exact Sel.nil | (refine Sel.cons zq1 ?_) | (refine Sel.app zq1 ?_) | exact Sel.one zq1))); (focus rfl); (focus kernel_rfl))
    · (refine T.buildSlice Wanted.none rfl rfl zq11 (by exact rfl) (by exact rfl) ?_; intro b)
      refine so ?_
      refine TS.back ?_
      (refine K1101 ⟨t, n1, n2, n3, n4, n5, n6, s, b, b3⟩ _ _ ⟨ht, h1⟩ ?_ ?_ ?_ _ ?_; (focus exact zq8); (focus exact (by repeat (first | exact Sel.refl _ | exact Sel.nil | (refine Sel.cons zq1 ?_) | (refine Sel.app zq1 ?_) | exact Sel.one zq1))); (focus rfl); (focus kernel_rfl))
  refine TS.cut (γ := KeG) (fun g => g.t.ok H ∧ (0 ≤ g.n1 ∧ g.n1 < 3)) (fun g => [(4, .pointer (some ⟨bt, 0, none⟩)), (7, .pointer (some ⟨bt, 0, none⟩)), (11, .pointer (some ⟨bt, 0, none⟩)), (15, .pointer (some ⟨bt, 0, none⟩)), (18, .pointer (some ⟨bt, 0, none⟩)), (21, .pointer (some ⟨bt, 0, none⟩)), (6, .int .i64 (1 + g.n1)), (10, .slice (some ⟨g.b10, 0, none⟩) 2 2), (2, .pointer (some ⟨b2, 0, none⟩))]) (fun g => [Tp.blk bt g.t, (b2, .cells #[.int .i64 0, .int .i64 0, .string ⟨#[]⟩, .string ⟨#[]⟩, .bool false, .bool false, .bool false] 39 (0, 0)), (g.b10, .cells #[.string ⟨#[119, 111, 114, 100]⟩, .string ⟨#[116, 97, 103]⟩] 9 (0, 0))]) 14 #[true, true, true, true, false, false, true, true, false, false, false, true, false, false, true, false, false, true, false, false, false, false, false] ?_ fun K1100 => ?_
  · rintro ⟨t, n1, n2, n3, n4, n5, n6, s, b10, b3⟩ ⟨ht, h1⟩
    dsimp only at ht h1 ⊢
    refine TS.ways [4, 21] (by kernel_rfl) rfl zq16 ⟨⟨_, rfl, ?_⟩, ⟨_, rfl, ?_⟩, trivial⟩
    · (refine T.callW Wanted.none rfl rfl (next_fn _ _ _ _ ?_ ?_) zq1 ?_; (focus assumption); (focus omega); rintro _ _ _ _ ⟨rfl, m, t1, rfl, hm, ht1, rfl⟩)
      refine so ?_
      refine TS.back ?_
      refine TS.take 5 rfl (by kernel_rfl) (by kernel_rfl) (by kernel_rfl) (by kernel_rfl) (PV.sub rfl rfl (by omega)) Wanted.none rfl rfl ?_
      (refine K2100 ⟨t1, n1, m, n3, n4, n5, n6, s, b10, b3⟩ _ _ ⟨ht1, h1, hm⟩ ?_ ?_ ?_ _ ?_; (focus exact zq8); (focus exact (by repeat (first | exact Sel.refl _ | exact Sel.nil | (refine Sel.cons zq1 ?_) | (refine Sel.app zq1 ?_) | exact Sel.one zq1))); (focus rfl); (focus kernel_rfl))
    · refine sy fun b => ?_
      refine so ?_
      refine TS.back ?_
      (refine K1101 ⟨t, n1, n2, n3, n4, n5, n6, s, b10, b⟩ _ _ ⟨ht, h1⟩ ?_ ?_ ?_ _ ?_; (focus exact zq8); (focus exact (by repeat (first | exact Sel.refl _ | exact Sel.nil | (refine Sel.cons zq1 ?_) | (refine Sel.app zq1 ?_) | exact Sel.one zq1))); (focus rfl); (focus kernel_rfl))
  refine TS.cut (γ := KeG) (fun g => g.t.ok H ∧ (0 ≤ g.n1 ∧ g.n1 < 3) ∧ (0 ≤ g.n2 ∧ g.n2 < 5)) (fun g => [(4, .pointer (some ⟨bt, 0, none⟩)), (7, .pointer (some ⟨bt, 0, none⟩)), (11, .pointer (some ⟨bt, 0, none⟩)), (15, .pointer (some ⟨bt, 0, none⟩)), (18, .pointer (some ⟨bt, 0, none⟩)), (21, .pointer (some ⟨bt, 0, none⟩)), (6, .int .i64 (1 + g.n1)), (9, .int .i64 (g.n2 - 2)), (2, .pointer (some ⟨b2, 0, none⟩))]) (fun g => [Tp.blk bt g.t, (b2, .cells #[.int .i64 0, .int .i64 0, .string ⟨#[]⟩, .string ⟨#[]⟩, .bool false, .bool false, .bool false] 39 (0, 0))]) 13 #[true, true, true, true, true, true, false, true, false, false, false, true, false, false, true, false, false, true, false, false, false, false, false] ?_ fun K2000 => ?_
  · rintro ⟨t, n1, n2, n3, n4, n5, n6, s, b10, b3⟩ ⟨ht, h1, h2⟩
    dsimp only at ht h1 h2 ⊢
    refine TS.ways [6, 8, 21] (by kernel_rfl) rfl zq16 ⟨⟨_, rfl, ?_⟩, ⟨_, rfl, ?_⟩, ⟨_, rfl, ?_⟩, trivial⟩
    · (refine T.buildSlice Wanted.none rfl rfl zq11 (by exact rfl) (by exact rfl) ?_; intro b)
      refine so ?_
      refine TS.back ?_
      (refine K2100 ⟨t, n1, n2, n3, n4, n5, n6, s, b, b3⟩ _ _ ⟨ht, h1, h2⟩ ?_ ?_ ?_ _ ?_; (focus exact zq8); (focus exact (by repeat (first | exact Sel.refl _ | exact Sel.nil | (refine Sel.cons zq1 ?_) | (refine Sel.app zq1 ?_) | exact Sel.one zq1))); (focus rfl); (focus kernel_rfl))
    · (refine T.callW Wanted.none rfl rfl (next_fn _ _ _ _ ?_ ?_) zq1 ?_; (focus assumption); (focus omega); rintro _ _ _ _ ⟨rfl, m, t1, rfl, hm, ht1, rfl⟩)
      refine so ?_
      refine TS.back ?_
      (refine K3000 ⟨t1, n1, n2, m, n4, n5, n6, s, b10, b3⟩ _ _ ⟨ht1, h1, h2, hm⟩ ?_ ?_ ?_ _ ?_; (focus exact zq8); (focus exact (by repeat (first | exact Sel.refl _ | exact Sel.nil | (refine Sel.cons zq1 ?_) | (refine Sel.app zq1 ?_) | exact Sel.one zq1))); (focus rfl); (focus kernel_rfl))
    · refine sy fun b => ?_
      refine so ?_
      refine TS.back ?_
      (refine K2001 ⟨t, n1, n2, n3, n4, n5, n6, s, b10, b⟩ _ _ ⟨ht, h1, h2⟩ ?_ ?_ ?_ _ ?_; (focus exact zq8); (focus exact (by repeat (first | exact Sel.refl _ | exact Sel.nil | (refine Sel.cons zq1 ?_) | (refine Sel.app zq1 ?_) | exact Sel.one zq1))); (focus rfl); (focus kernel_rfl))
  refine TS.cut (γ := KeG) (fun g => g.t.ok H) (fun g => [(4, .pointer (some ⟨bt, 0, none⟩)), (7, .pointer (some ⟨bt, 0, none⟩)), (11, .pointer (some ⟨bt, 0, none⟩)), (15, .pointer (some ⟨bt, 0, none⟩)), (18, .pointer (some ⟨bt, 0, none⟩)), (21, .pointer (some ⟨bt, 0, none⟩)), (3, .pointer (some ⟨g.b3, 0, none⟩)), (2, .pointer (some ⟨b2, 0, none⟩))]) (fun g => [Tp.blk bt g.t, (b2, .cells #[.int .i64 0, .int .i64 0, .string ⟨#[]⟩, .string ⟨#[]⟩, .bool false, .bool false, .bool false] 39 (0, 0)), (g.b3, .cells #[.int .i64 0, .int .i64 0, .string ⟨#[]⟩, .string ⟨#[]⟩, .bool false, .bool false, .bool false] 39 (0, 0))]) 16 #[true, false, false, true, false, false, false, true, false, false, false, true, false, false, true, false, false, true, false, false, false, true, false] ?_ fun K0001 => ?_
  · rintro ⟨t, n1, n2, n3, n4, n5, n6, s, b10, b3⟩ ht
    dsimp only at ht ⊢
    refine TS.ways [1, 6] (by kernel_rfl) rfl zq16 ⟨⟨_, rfl, ?_⟩, ⟨_, rfl, ?_⟩, trivial⟩
    · (refine T.callW Wanted.none rfl rfl (next_fn _ _ _ _ ?_ ?_) zq1 ?_; (focus assumption); (focus omega); rintro _ _ _ _ ⟨rfl, m, t1, rfl, hm, ht1, rfl⟩)
      refine so ?_
      refine TS.back ?_
      refine TS.take 2 rfl (by kernel_rfl) (by kernel_rfl) (by kernel_rfl) (by kernel_rfl) (PV.add rfl rfl (by omega)) Wanted.none rfl rfl ?_
      (refine K1001 ⟨t1, m, n2, n3, n4, n5, n6, s, b10, b3⟩ _ _ ⟨ht1, hm⟩ ?_ ?_ ?_ _ ?_; (focus exact zq8); (focus exact (by repeat (first | exact Sel.refl _ | exact Sel.nil | (refine Sel.cons zq1 ?_) | (refine Sel.app zq1 ?_) | exact Sel.one zq1))); (focus rfl); (focus kernel_rfl))
    · (refine T.buildSlice Wanted.none rfl rfl zq11 (by exact rfl) (by exact rfl) ?_; intro b)
      refine so ?_
      refine TS.back ?_
      (refine K0101 ⟨t, n1, n2, n3, n4, n5, n6, s, b, b3⟩ _ _ ht ?_ ?_ ?_ _ ?_; (focus exact zq8); (focus exact (by repeat (first | exact Sel.refl _ | exact Sel.nil | (refine Sel.cons zq1 ?_) | (refine Sel.app zq1 ?_) | exact Sel.one zq1))); (focus rfl); (focus kernel_rfl))
  refine TS.cut (γ := KeG) (fun g => g.t.ok H) (fun g => [(4, .pointer (some ⟨bt, 0, none⟩)), (7, .pointer (some ⟨bt, 0, none⟩)), (11, .pointer (some ⟨bt, 0, none⟩)), (15, .pointer (some ⟨bt, 0, none⟩)), (18, .pointer (some ⟨bt, 0, none⟩)), (21, .pointer (some ⟨bt, 0, none⟩)), (10, .slice (some ⟨g.b10, 0, none⟩) 2 2), (2, .pointer (some ⟨b2, 0, none⟩))]) (fun g => [Tp.blk bt g.t, (b2, .cells #[.int .i64 0, .int .i64 0, .string ⟨#[]⟩, .string ⟨#[]⟩, .bool false, .bool false, .bool false] 39 (0, 0)), (g.b10, .cells #[.string ⟨#[119, 111, 114, 100]⟩, .string ⟨#[116, 97, 103]⟩] 9 (0, 0))]) 16 #[true, false, false, true, false, false, true, true, false, false, false, true, false, false, true, false, false, true, false, false, false, false, false] ?_ fun K0100 => ?_
  · rintro ⟨t, n1, n2, n3, n4, n5, n6, s, b10, b3⟩ ht
    dsimp only at ht ⊢
    refine TS.ways [1, 21] (by kernel_rfl) rfl zq16 ⟨⟨_, rfl, ?_⟩, ⟨_, rfl, ?_⟩, trivial⟩
    · (refine T.callW Wanted.none rfl rfl (next_fn _ _ _ _ ?_ ?_) zq1 ?_; (focus assumption); (focus omega); rintro _ _ _ _ ⟨rfl, m, t1, rfl, hm, ht1, rfl⟩)
      refine so ?_
      refine TS.back ?_
      refine TS.take 2 rfl (by kernel_rfl) (by kernel_rfl) (by kernel_rfl) (by kernel_rfl) (PV.add rfl rfl (by omega)) Wanted.none rfl rfl ?_
      (refine K1100 ⟨t1, m, n2, n3, n4, n5, n6, s, b10, b3⟩ _ _ ⟨ht1, hm⟩ ?_ ?_ ?_ _ ?_; (focus exact zq8); (focus exact (by repeat (first | exact Sel.refl _ | exact Sel.nil | (refine Sel.cons zq1 ?_) | (refine Sel.app zq1 ?_) | exact Sel.one zq1))); (focus rfl); (focus kernel_rfl))
    · refine sy fun b => ?_
      refine so ?_
      refine TS.back ?_
      (refine K0101 ⟨t, n1, n2, n3, n4, n5, n6, s, b10, b⟩ _ _ ht ?_ ?_ ?_ _ ?_; (focus exact zq8); (focus exact (by repeat (first | exact Sel.refl _ | exact Sel.nil | (refine Sel.cons zq1 ?_) | (refine Sel.app zq1 ?_) | exact Sel.one zq1))); (focus rfl); (focus kernel_rfl))
  refine TS.cut (γ := KeG) (fun g => g.t.ok H ∧ (0 ≤ g.n1 ∧ g.n1 < 3)) (fun g => [(4, .pointer (some ⟨bt, 0, none⟩)), (7, .pointer (some ⟨bt, 0, none⟩)), (11, .pointer (some ⟨bt, 0, none⟩)), (15, .pointer (some ⟨bt, 0, none⟩)), (18, .pointer (some ⟨bt, 0, none⟩)), (21, .pointer (some ⟨bt, 0, none⟩)), (6, .int .i64 (1 + g.n1)), (2, .pointer (some ⟨b2, 0, none⟩))]) (fun g => [Tp.blk bt g.t, (b2, .cells #[.int .i64 0, .int .i64 0, .string ⟨#[]⟩, .string ⟨#[]⟩, .bool false, .bool false, .bool false] 39 (0, 0))]) 15 #[true, true, true, true, false, false, false, true, false, false, false, true, false, false, true, false, false, true, false, false, false, false, false] ?_ fun K1000 => ?_
  · rintro ⟨t, n1, n2, n3, n4, n5, n6, s, b10, b3⟩ ⟨ht, h1⟩
    dsimp only at ht h1 ⊢
    refine TS.ways [4, 6, 21] (by kernel_rfl) rfl zq16 ⟨⟨_, rfl, ?_⟩, ⟨_, rfl, ?_⟩, ⟨_, rfl, ?_⟩, trivial⟩
    · (refine T.callW Wanted.none rfl rfl (next_fn _ _ _ _ ?_ ?_) zq1 ?_; (focus assumption); (focus omega); rintro _ _ _ _ ⟨rfl, m, t1, rfl, hm, ht1, rfl⟩)
      refine so ?_
      refine TS.back ?_
      refine TS.take 5 rfl (by kernel_rfl) (by kernel_rfl) (by kernel_rfl) (by kernel_rfl) (PV.sub rfl rfl (by omega)) Wanted.none rfl rfl ?_
      (refine K2000 ⟨t1, n1, m, n3, n4, n5, n6, s, b10, b3⟩ _ _ ⟨ht1, h1, hm⟩ ?_ ?_ ?_ _ ?_; (focus exact zq8); (focus exact (by repeat (first | exact Sel.refl _ | exact Sel.nil | (refine Sel.cons zq1 ?_) | (refine Sel.app zq1 ?_) | exact Sel.one zq1))); (focus rfl); (focus kernel_rfl))
    · (refine T.buildSlice Wanted.none rfl rfl zq11 (by exact rfl) (by exact rfl) ?_; intro b)
      refine so ?_
      refine TS.back ?_
      (refine K1100 ⟨t, n1, n2, n3, n4, n5, n6, s, b, b3⟩ _ _ ⟨ht, h1⟩ ?_ ?_ ?_ _ ?_; (focus exact zq8); (focus exact (by repeat (first | exact Sel.refl _ | exact Sel.nil | (refine Sel.cons zq1 ?_) | (refine Sel.app zq1 ?_) | exact Sel.one zq1))); (focus rfl); (focus kernel_rfl))
    · refine sy fun b => ?_
      refine so ?_
      refine TS.back ?_
      (refine K1001 ⟨t, n1, n2, n3, n4, n5, n6, s, b10, b⟩ _ _ ⟨ht, h1⟩ ?_ ?_ ?_ _ ?_; (focus exact zq8); (focus exact (by repeat (first | exact Sel.refl _ | exact Sel.nil | (refine Sel.cons zq1 ?_) | (refine Sel.app zq1 ?_) | exact Sel.one zq1))); (focus rfl); (focus kernel_rfl))
  refine TS.cut (γ := KeG) (fun g => g.t.ok H) (fun g => [(4, .pointer (some ⟨bt, 0, none⟩)), (7, .pointer (some ⟨bt, 0, none⟩)), (11, .pointer (some ⟨bt, 0, none⟩)), (15, .pointer (some ⟨bt, 0, none⟩)), (18, .pointer (some ⟨bt, 0, none⟩)), (21, .pointer (some ⟨bt, 0, none⟩)), (2, .pointer (some ⟨b2, 0, none⟩))]) (fun g => [Tp.blk bt g.t, (b2, .cells #[.int .i64 0, .int .i64 0, .string ⟨#[]⟩, .string ⟨#[]⟩, .bool false, .bool false, .bool false] 39 (0, 0))]) 17 #[true, false, false, true, false, false, false, true, false, false, false, true, false, false, true, false, false, true, false, false, false, false, false] ?_ fun K0000 => ?_
  · rintro ⟨t, n1, n2, n3, n4, n5, n6, s, b10, b3⟩ ht
    dsimp only at ht ⊢
    refine TS.ways [1, 6, 21] (by kernel_rfl) rfl zq16 ⟨⟨_, rfl, ?_⟩, ⟨_, rfl, ?_⟩, ⟨_, rfl, ?_⟩, trivial⟩
    · (refine T.callW Wanted.none rfl rfl (next_fn _ _ _ _ ?_ ?_) zq1 ?_; (focus assumption); (focus omega); rintro _ _ _ _ ⟨rfl, m, t1, rfl, hm, ht1, rfl⟩)
      refine so ?_
      refine TS.back ?_
      refine TS.take 2 rfl (by kernel_rfl) (by kernel_rfl) (by kernel_rfl) (by kernel_rfl) (PV.add rfl rfl (by omega)) Wanted.none rfl rfl ?_
      (refine K1000 ⟨t1, m, n2, n3, n4, n5, n6, s, b10, b3⟩ _ _ ⟨ht1, hm⟩ ?_ ?_ ?_ _ ?_; (focus exact zq8); (focus exact (by repeat (first | exact Sel.refl _ | exact Sel.nil | (refine Sel.cons zq1 ?_) | (refine Sel.app zq1 ?_) | exact Sel.one zq1))); (focus rfl); (focus kernel_rfl))
    · (refine T.buildSlice Wanted.none rfl rfl zq11 (by exact rfl) (by exact rfl) ?_; intro b)
      refine so ?_
      refine TS.back ?_
      (refine K0100 ⟨t, n1, n2, n3, n4, n5, n6, s, b, b3⟩ _ _ ht ?_ ?_ ?_ _ ?_; (focus exact zq8); (focus exact (by repeat (first | exact Sel.refl _ | exact Sel.nil | (refine Sel.cons zq1 ?_) | (refine Sel.app zq1 ?_) | exact Sel.one zq1))); (focus rfl); (focus kernel_rfl))
    · refine sy fun b => ?_
      refine so ?_
      refine TS.back ?_
      (refine K0001 ⟨t, n1, n2, n3, n4, n5, n6, s, b10, b⟩ _ _ ht ?_ ?_ ?_ _ ?_; (focus exact zq8); (focus exact (by repeat (first | exact Sel.refl _ | exact Sel.nil | (refine Sel.cons zq1 ?_) | (refine Sel.app zq1 ?_) | exact Sel.one zq1))); (focus rfl); (focus kernel_rfl))
  (refine K0000 ⟨t, 0, 0, 0, 0, 0, 0, bs [], 0, 0⟩ _ _ ht ?_ ?_ ?_ _ ?_; (focus exact zq8); (focus exact (by repeat (first | exact Sel.refl _ | exact Sel.nil | (refine Sel.cons zq1 ?_) | (refine Sel.app zq1 ?_) | exact Sel.one zq1))); (focus rfl); (focus kernel_rfl))

end Go.Proofs.YtlklcjpmfjmenaaGreat
