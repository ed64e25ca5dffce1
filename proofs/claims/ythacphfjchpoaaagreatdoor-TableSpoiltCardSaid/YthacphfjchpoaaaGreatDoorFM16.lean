/- made corpora: Document. -/
import Derived.Test.YthacphfjchpoaaaGreatDoorGA
namespace Go.Proofs.YthacphfjchpoaaaGreatDoor
open Go.RowKit

theorem attributes3_fn (H : Hp) : Fn Tryz.prog 48 #[] H (fun u H' => SlR H' 2 u 3 (attrs3.flatMap encAt)) := by
  refine Fn.of_T (vs := []) Tryz.func48 rfl rfl fun w => ?_; refine zs3 ?_; refine yq23 ?_; refine sv (PV.build rfl zq12) ?_; refine sv (PV.build rfl zq12) ?_; refine sv (PV.build rfl zq12) ?_; (refine T.buildSlice Wanted.none rfl rfl zq11 (by exact rfl) (by exact rfl) ?_; intro b4); refine yq0 ?_; refine T.freezeB (b := b4) zq1 ?_
  intro H1 hle1 hb1
  exact T.retF (Lv.fin (RV.tmp rfl rfl) ⟨rfl, .inr ⟨b4, 0, 3, _, _, _, rfl, hb1, rfl, by omega⟩⟩)
theorem Vec.lit {el sz b : Nat} {xs : List Value} (n : Nat) (h : xs.length = n * sz) (hn : n ≤ 1000) : Vec el sz (.slice (some ⟨b, 0, none⟩) n n) [(b, .cells xs.toArray el (0, 0))] n xs :=
  ⟨h, .inr ⟨b, n, xs, rfl, rfl, Nat.le_refl _, by unfold maxLen; omega, h, by rw [← h]; exact List.take_length⟩⟩
structure MeG where
  t : Tp
  mv : Value
  lm : List (Nat × Obj)
  ms : List (ByteArray × ByteArray)
structure TkG where
  i : Nat
  t : Tp
  H : Hp
  v : Value
  lv : List (Nat × Obj)
  l : List Tk
structure RgG where
  k : Nat
  t : Tp
  H : Hp
  v : Value
  lv : List (Nat × Obj)
  l : List Rg
structure RoG where
  b : Nat
  s1 : ByteArray
  s2 : ByteArray
  s3 : ByteArray
  v : Value
  lv : List (Nat × Obj)
theorem lit3z (m : Int) (h : 0 ≤ m ∧ m < 3) : ∃ s : ByteArray, s.size ≤ 1000000 ∧ (strsV [bs [49], bs [50], bs []])[0 + m.toNat * 1]? = some (.string s) := by
  obtain ⟨s, hm, h⟩ := strsV_at (l := [bs [49], bs [50], bs []]) (n := m) (by exact h)
  refine ⟨s, ?_, h⟩
  simp only [List.mem_cons, List.not_mem_nil, or_false] at hm
  rcases hm with rfl | rfl | rfl <;> decide
theorem lit2z (m : Int) (h : 0 ≤ m ∧ m < 2) : ∃ s : ByteArray, s.size ≤ 1000000 ∧ (strsV [bs [49], bs [50]])[0 + m.toNat * 1]? = some (.string s) := by
  obtain ⟨s, hm, h⟩ := strsV_at (l := [bs [49], bs [50]]) (n := m) (by exact h)
  refine ⟨s, ?_, h⟩
  simp only [List.mem_cons, List.not_mem_nil, or_false] at hm
  rcases hm with rfl | rfl <;> decide
theorem litW (m : Int) (h : 0 ≤ m ∧ m < 8) : ∃ k : Int, (0 ≤ k ∧ k < 6) ∧ ([.int .i64 0, .int .i64 1, .int .i64 0, .int .i64 2, .int .i64 3, .int .i64 4, .int .i64 1, .int .i64 5] : List Value)[0 + m.toNat * 1]? = some (.int .i64 k) := by
  obtain ⟨n, rfl⟩ : ∃ n : Nat, m = n := ⟨m.toNat, by omega⟩
  have : n < 8 := by omega
  have h8 : n = 0 ∨ n = 1 ∨ n = 2 ∨ n = 3 ∨ n = 4 ∨ n = 5 ∨ n = 6 ∨ n = 7 := by omega
  rcases h8 with rfl | rfl | rfl | rfl | rfl | rfl | rfl | rfl <;> exact ⟨_, by decide, rfl⟩
theorem StrOf.size {l : List ByteArray} {m : Nat} (h : l.all (fun s => decide (s.size ≤ m)) = true) {s : ByteArray} (hs : s ∈ l) : s.size ≤ m := of_decide_eq_true (List.all_eq_true.1 h s hs)
set_option maxHeartbeats 8000000 in
theorem document_fn (bt : Nat) (t : Tp) (nm : ByteArray) (most : Int) (H : Hp) (ht : t.ok H) (hm : 1 ≤ most ∧ most ≤ 8) :
    FnW Tryz.prog 28 #[.pointer (some ⟨bt, 0, none⟩), .string nm, .int .i64 most] H [Tp.blk bt t]
      (fun u H' l' => ∃ t' c x, u = cpV c ∧ t'.ok H' ∧ CpL H' c ∧ CpG c ∧ CpB 1 c ∧ c.tx = [x] ∧ x.ty = nm ∧ l' = [Tp.blk bt t']) := by
  refine FnW.of_T (vs := [.pointer (some ⟨bt, 0, none⟩), .string nm, .int .i64 most]) Tryz.func28 rfl rfl fun w => ?_; refine zs3 ?_; refine sy fun b6 => ?_; refine zs1 ?_; refine yq162 ?_; (refine T.callW Wanted.none rfl rfl (next_fn _ _ _ _ ?_ ?_) zq1 ?_; (focus assumption); (focus omega); rintro _ _ _ _ ⟨rfl, n20, t20, rfl, hn20, ht20, rfl⟩); refine yq63 ?_
  obtain ⟨n, hn⟩ : ∃ n : Nat, (n : Int) = 1 + n20 := ⟨(1 + n20).toNat, by omega⟩
  rw [← hn]
  refine zs3 ?_; refine T.call Wanted.none rfl rfl (attributes3_fn H) ?_
  intro va H1 hle1 hva
  obtain ⟨ada, capa, rfl⟩ := hva.len
  have ht20 := ht20.mono hle1
  refine yq162 ?_; refine sv (PV.build rfl zq12) ?_; (refine T.buildSlice Wanted.none rfl rfl zq11 (by exact rfl) (by exact rfl) ?_; intro b26); refine sv (PV.build rfl zq12) ?_; refine sy fun b8 => ?_; refine yq13 ?_; refine yq14 ?_; (refine T.callW Wanted.none rfl rfl (next_fn _ _ _ _ ?_ ?_) zq1 ?_; (focus assumption); (focus omega); rintro _ _ _ _ ⟨rfl, n29, t29, rfl, hn29, ht29, rfl⟩); refine sv (PV.eql rfl rfl) ?_; refine so ?_; refine T.cutK [(8, Value.pointer (some { block := b8, off := 0 })), (7, Value.int IntKind.i64 (↑n : Int)), (6, Value.pointer (some { block := b6, off := 0 })), (0, Value.pointer (some { block := bt, off := 0 }))] (γ := MeG) (fun g => g.t.ok H1 ∧ Vec 94 2 g.mv g.lm g.ms.length (g.ms.flatMap encPr) ∧ g.ms.length ≤ 1 ∧ ∀ p ∈ g.ms, p.2.size ≤ 1000000) (fun _ => [(7, .int .i64 (n : Int))]) (fun g => [Tp.blk bt g.t, (b8, .cells #[.slice ada 3 capa, .slice none 0 0, .slice (some ⟨b26, 0, none⟩) 1 1, .slice none 0 0, .slice none 0 0, .slice none 0 0, .slice none 0 0] 32 (0, 0)), (b26, .cells #[.string nm, .int .i64 0, .int .i64 (n : Int), g.mv] 71 (0, 0)), (b6, .cells #[.slice none 0 0, .slice none 0 0, .slice none 0 0, .slice none 0 0, .slice none 0 0, .slice none 0 0, .slice none 0 0] 32 (0, 0))] ++ g.lm) ?_ fun K => ?_
  rotate_left
  · by_cases h2 : n29 = 2
    · refine sc rfl (by omega) ?_
      (repeat refine sq ?_)
      refine T.regionS [(b8, .cells #[.slice ada 3 capa, .slice none 0 0, .slice (some ⟨b26, 0, none⟩) 1 1, .slice none 0 0, .slice none 0 0, .slice none 0 0, .slice none 0 0] 32 (0, 0))] 11 (by kernel_rfl) ?_; refine yq43 ?_; refine TS.take 3 rfl (by kernel_rfl) (by kernel_rfl) (by kernel_rfl) (by kernel_rfl) (PV.move rfl) Wanted.none rfl rfl ?_
      refine TS.ways [2, 4] (by kernel_rfl) rfl zq18 ⟨⟨_, rfl, ?_⟩, ⟨_, rfl, ?_⟩, trivial⟩
      · (refine T.buildSlice Wanted.none rfl rfl zq11 (by exact rfl) (by exact rfl) ?_; intro b33); refine yq24 ?_
        refine TS.ways [4] (by kernel_rfl) rfl zq18 ⟨⟨_, rfl, ?_⟩, trivial⟩
        (refine T.callW Wanted.none rfl rfl (next_fn _ _ _ _ ?_ ?_) zq1 ?_; (focus assumption); (focus omega); rintro _ _ _ _ ⟨rfl, n35, t35, rfl, hn35, ht35, rfl⟩; obtain ⟨s35, hz35, hl35⟩ := lit3z n35 hn35); refine yq24 ?_; refine TS.take 5 rfl (by kernel_rfl) (by kernel_rfl) (by kernel_rfl) (by kernel_rfl) (PV.indexAddr rfl rfl (by omega)) Wanted.none rfl rfl ?_
        refine TS.ways [6] (by kernel_rfl) rfl zq18 ⟨⟨_, rfl, ?_⟩, trivial⟩
        refine yq130 ?_; refine TS.take 7 rfl (by kernel_rfl) (by kernel_rfl) (by kernel_rfl) (by kernel_rfl) (PV.build rfl zq12) Wanted.none rfl rfl ?_
        refine TS.ways [8] (by kernel_rfl) rfl zq18 ⟨⟨_, rfl, ?_⟩, trivial⟩
        (refine T.buildSlice Wanted.none rfl rfl zq11 (by exact rfl) (by exact rfl) ?_; intro b39); refine yq24 ?_
        refine TS.ways [9] (by kernel_rfl) rfl zq18 ⟨⟨_, rfl, ?_⟩, trivial⟩
        refine sv (PV.indexAddr rfl rfl (by omega)) ?_; refine yq24 ?_; refine TS.take 10 rfl (by kernel_rfl) (by kernel_rfl) (by kernel_rfl) (by kernel_rfl) (PV.fieldAddr rfl) Wanted.none rfl rfl ?_
        refine TS.ways [11] (by kernel_rfl) rfl zq18 ⟨⟨_, rfl, ?_⟩, trivial⟩
        refine yq120 ?_; (exact K ⟨t35, _, [(b39, _)], [(bs [121, 101, 97, 114], s35)]⟩ _ _ ⟨ht35, Vec.lit 1 rfl (by decide), by simp, by intro p hp; rw [List.mem_singleton] at hp; subst hp; exact hz35⟩ zq8 (by repeat (first | exact Sel.refl _ | exact Sel.nil | (refine Sel.cons zq1 ?_) | (refine Sel.app zq1 ?_) | exact Sel.one zq1)))
      · (refine T.callW Wanted.none rfl rfl (next_fn _ _ _ _ ?_ ?_) zq1 ?_; (focus assumption); (focus omega); rintro _ _ _ _ ⟨rfl, n35, t35, rfl, hn35, ht35, rfl⟩; obtain ⟨s35, hz35, hl35⟩ := lit3z n35 hn35); refine yq24 ?_
        refine TS.ways [2] (by kernel_rfl) rfl zq18 ⟨⟨_, rfl, ?_⟩, trivial⟩
        (refine T.buildSlice Wanted.none rfl rfl zq11 (by exact rfl) (by exact rfl) ?_; intro b33); refine yq24 ?_; refine TS.take 5 rfl (by kernel_rfl) (by kernel_rfl) (by kernel_rfl) (by kernel_rfl) (PV.indexAddr rfl rfl (by omega)) Wanted.none rfl rfl ?_
        refine TS.ways [6] (by kernel_rfl) rfl zq18 ⟨⟨_, rfl, ?_⟩, trivial⟩
        refine yq130 ?_; refine TS.take 7 rfl (by kernel_rfl) (by kernel_rfl) (by kernel_rfl) (by kernel_rfl) (PV.build rfl zq12) Wanted.none rfl rfl ?_
        refine TS.ways [8] (by kernel_rfl) rfl zq18 ⟨⟨_, rfl, ?_⟩, trivial⟩
        (refine T.buildSlice Wanted.none rfl rfl zq11 (by exact rfl) (by exact rfl) ?_; intro b39); refine yq24 ?_
        refine TS.ways [9] (by kernel_rfl) rfl zq18 ⟨⟨_, rfl, ?_⟩, trivial⟩
        refine sv (PV.indexAddr rfl rfl (by omega)) ?_; refine yq24 ?_; refine TS.take 10 rfl (by kernel_rfl) (by kernel_rfl) (by kernel_rfl) (by kernel_rfl) (PV.fieldAddr rfl) Wanted.none rfl rfl ?_
        refine TS.ways [11] (by kernel_rfl) rfl zq18 ⟨⟨_, rfl, ?_⟩, trivial⟩
        refine yq120 ?_; (exact K ⟨t35, _, [(b39, _)], [(bs [121, 101, 97, 114], s35)]⟩ _ _ ⟨ht35, Vec.lit 1 rfl (by decide), by simp, by intro p hp; rw [List.mem_singleton] at hp; subst hp; exact hz35⟩ zq8 (by repeat (first | exact Sel.refl _ | exact Sel.nil | (refine Sel.cons zq1 ?_) | (refine Sel.app zq1 ?_) | exact Sel.one zq1)))
    · refine yq22 ?_
      exact K ⟨t29, _, [], []⟩ _ _ ⟨ht29, Vec.nil _ _, by simp, by simp⟩ zq8 (by repeat (first | exact Sel.refl _ | exact Sel.nil | (refine Sel.cons zq1 ?_) | (refine Sel.app zq1 ?_) | exact Sel.one zq1))
  rintro ⟨t1, mv, lm, ms⟩ ⟨ht1, hme, hms, hmz⟩
  dsimp only at ht1 hme hms hmz ⊢
  refine T.freezeP (lv := lm) hme zq1 ?_
  intro H2 hle2 hme
  have ht1 := ht1.mono hle2
  have hva := hva.mono hle2
  obtain ⟨adm, capm, rfl⟩ := hme.len
  refine sq ?_; refine yq25 ?_; refine T.block ?_; refine T.loopK [(7, Value.int IntKind.i64 (↑n : Int)), (8, Value.pointer (some { block := b8, off := 0 })), (6, Value.pointer (some { block := b6, off := 0 })), (0, Value.pointer (some { block := bt, off := 0 }))] zq8 (γ := TkG) (fun g => g.i ≤ n ∧ H2.le g.H ∧ g.t.ok g.H ∧ g.l.length = g.i ∧ RowV 30 encTk 1 g.v g.lv g.l ∧ ∀ t ∈ g.l, TkOk g.H t ∧ t.ss.length = 3) (fun g => [(9, .int .i64 (g.i : Int))]) (fun g => [Tp.blk bt g.t, (b8, .cells #[.slice ada 3 capa, g.v, .slice (some ⟨b26, 0, none⟩) 1 1, .slice none 0 0, .slice none 0 0, .slice none 0 0, .slice none 0 0] 32 (0, 0)), (b26, .cells #[.string nm, .int .i64 0, .int .i64 (n : Int), .slice adm ms.length capm] 71 (0, 0)), (b6, .cells #[.slice none 0 0, .slice none 0 0, .slice none 0 0, .slice none 0 0, .slice none 0 0, .slice none 0 0, .slice none 0 0] 32 (0, 0))] ++ g.lv) (fun g => g.H) (fun g => n - g.i) ⟨0, t1, H2, .slice none 0 0, [], []⟩ ⟨by simp, Hp.le.refl _, ht1, rfl, Vec.nil _ _, fun t h => by simp at h⟩ zq8 (by repeat (first | exact Sel.refl _ | exact Sel.nil | (refine Sel.cons zq1 ?_) | (refine Sel.app zq1 ?_) | exact Sel.one zq1)) rfl ?_
  rintro ⟨i, t2, H3, v, lv, l⟩ ⟨g1, g2, g3, g4, g5, g6⟩
  dsimp only at g1 g2 g3 g4 g5 g6 ⊢
  obtain ⟨adv, capv, rfl⟩ := g5.val
  by_cases hi : i < n
  · refine yq14 ?_; refine sm ?_; refine yq3 ?_; refine yq33 ?_; refine yq2 ?_; (refine T.callW Wanted.none rfl rfl (next_fn _ _ _ _ ?_ ?_) zq1 ?_; (focus assumption); (focus omega); rintro _ _ _ _ ⟨rfl, n48, t48, rfl, hn48, ht48, rfl⟩); refine yq0 ?_
    have hk : 0 ≤ n48.tmod 8 ∧ n48.tmod 8 < 8 := by rw [Int.tmod_eq_emod_of_nonneg hn48.1]; omega
    have hd8 : 0 ≤ n48.tdiv 8 ∧ n48.tdiv 8 < 6 := by rw [Int.tdiv_eq_ediv_of_nonneg hn48.1]; omega
    have hq2 : 0 ≤ (n48.tdiv 8).tmod 2 ∧ (n48.tdiv 8).tmod 2 < 2 := by rw [Int.tmod_eq_emod_of_nonneg hd8.1]; omega
    have hq4 : 0 ≤ n48.tdiv 12 ∧ n48.tdiv 12 < 4 := by rw [Int.tdiv_eq_ediv_of_nonneg hn48.1]; omega
    obtain ⟨kw, hkw, hlw⟩ := litW _ hk
    (repeat refine sq ?_)
    refine T.cutK [(9, Value.int IntKind.i64 (↑i : Int)), (7, Value.int IntKind.i64 (↑n : Int)), (8, Value.pointer (some { block := b8, off := 0 })), (6, Value.pointer (some { block := b6, off := 0 })), (0, Value.pointer (some { block := bt, off := 0 }))] (γ := RoG) (fun g => (g.s1 ∈ words ∧ g.s2 ∈ tags ∧ g.s3 ∈ feats) ∧ Vec 30 1 g.v g.lv (l.length + 1) (l.flatMap encTk ++ encTk ⟨.slice (some ⟨g.b, 0, none⟩) 3 3, [g.s1, g.s2, g.s3]⟩)) (fun _ => [(7, .int .i64 (n : Int))]) (fun g => [Tp.blk bt t48, (b8, .cells #[.slice ada 3 capa, g.v, .slice (some ⟨b26, 0, none⟩) 1 1, .slice none 0 0, .slice none 0 0, .slice none 0 0, .slice none 0 0] 32 (0, 0)), (b26, .cells #[.string nm, .int .i64 0, .int .i64 (n : Int), .slice adm ms.length capm] 71 (0, 0)), (b6, .cells #[.slice none 0 0, .slice none 0 0, .slice none 0 0, .slice none 0 0, .slice none 0 0, .slice none 0 0, .slice none 0 0] 32 (0, 0)), (g.b, .cells #[.string g.s1, .string g.s2, .string g.s3] 9 (0, 0))] ++ g.lv) ?_ fun K => ?_
    rotate_left
    · refine T.regionS [(b8, .cells #[.slice ada 3 capa, .slice adv l.length capv, .slice (some ⟨b26, 0, none⟩) 1 1, .slice none 0 0, .slice none 0 0, .slice none 0 0, .slice none 0 0] 32 (0, 0))] 19 (by kernel_rfl) ?_; refine yq43 ?_; refine TS.take 3 rfl (by kernel_rfl) (by kernel_rfl) (by kernel_rfl) (by kernel_rfl) (PV.move rfl) Wanted.none rfl rfl ?_; refine TS.take 4 rfl (by kernel_rfl) (by kernel_rfl) (by kernel_rfl) (by kernel_rfl) (PV.rem rfl rfl (by omega)) Wanted.none rfl rfl ?_; refine TS.take 8 rfl (by kernel_rfl) (by kernel_rfl) (by kernel_rfl) (by kernel_rfl) (PV.move rfl) Wanted.none rfl rfl ?_; refine TS.take 9 rfl (by kernel_rfl) (by kernel_rfl) (by kernel_rfl) (by kernel_rfl) (PV.quo rfl rfl (by omega) (by omega)) Wanted.none rfl rfl ?_; refine TS.take 10 rfl (by kernel_rfl) (by kernel_rfl) (by kernel_rfl) (by kernel_rfl) (PV.rem rfl rfl (by omega)) Wanted.none rfl rfl ?_; refine TS.take 12 rfl (by kernel_rfl) (by kernel_rfl) (by kernel_rfl) (by kernel_rfl) (PV.move rfl) Wanted.none rfl rfl ?_; refine TS.take 13 rfl (by kernel_rfl) (by kernel_rfl) (by kernel_rfl) (by kernel_rfl) (PV.quo rfl rfl (by omega) (by omega)) Wanted.none rfl rfl ?_
      refine TS.ways [2] (by kernel_rfl) rfl zq18 ⟨⟨_, rfl, ?_⟩, trivial⟩
      (refine T.buildSlice Wanted.none rfl rfl zq11 (by exact rfl) (by exact rfl) ?_; intro b51); refine yq24 ?_; refine TS.take 5 rfl (by kernel_rfl) (by kernel_rfl) (by kernel_rfl) (by kernel_rfl) (PV.indexAddr rfl rfl (by omega)) Wanted.none rfl rfl ?_
      refine TS.ways [6] (by kernel_rfl) rfl zq18 ⟨⟨_, rfl, ?_⟩, trivial⟩
      refine yq130 ?_
      refine TS.ways [7] (by kernel_rfl) rfl zq18 ⟨⟨_, rfl, ?_⟩, trivial⟩
      (refine T.callX Wanted.none rfl rfl (word_fn kw _ hkw) ?_; rintro _ ⟨s56, hs56, rfl⟩); refine yq24 ?_
      refine TS.ways [11] (by kernel_rfl) rfl zq18 ⟨⟨_, rfl, ?_⟩, trivial⟩
      (refine T.callX Wanted.none rfl rfl (tag_fn _ _ hq2) ?_; rintro _ ⟨s60, hs60, rfl⟩); refine yq24 ?_
      refine TS.ways [14] (by kernel_rfl) rfl zq18 ⟨⟨_, rfl, ?_⟩, trivial⟩
      (refine T.callX Wanted.none rfl rfl (features_fn _ _ hq4) ?_; rintro _ ⟨s63, hs63, rfl⟩); refine yq24 ?_
      refine TS.ways [15] (by kernel_rfl) rfl zq18 ⟨⟨_, rfl, ?_⟩, trivial⟩
      (refine T.buildSlice Wanted.none rfl rfl zq11 (by exact rfl) (by exact rfl) ?_; intro b64); refine yq24 ?_
      refine TS.ways [16] (by kernel_rfl) rfl zq18 ⟨⟨_, rfl, ?_⟩, trivial⟩
      (refine T.buildSlice Wanted.none rfl rfl zq11 (by exact rfl) (by exact rfl) ?_; intro b65); refine yq24 ?_
      refine TS.ways [17] (by kernel_rfl) rfl zq18 ⟨⟨_, rfl, ?_⟩, trivial⟩
      (refine T.appendP (lv := lv) Wanted.none rfl rfl rfl g5 (Src.cells (m := 1) (ys := encTk ⟨.slice (some ⟨b64, 0, none⟩) 3 3, [s56, s60, s63]⟩) (.own zq2) rfl rfl) (fun v hv => by simp only [encTk, List.mem_singleton] at hv; subst hv; rfl) (by omega) zq1 ?_; intro v66 lv66 hv66 _; obtain ⟨ad66, cap66, rfl⟩ := hv66.val); refine yq24 ?_; refine TS.take 18 rfl (by kernel_rfl) (by kernel_rfl) (by kernel_rfl) (by kernel_rfl) (PV.fieldAddr rfl) Wanted.none rfl rfl ?_
      refine TS.ways [19] (by kernel_rfl) rfl zq18 ⟨⟨_, rfl, ?_⟩, trivial⟩
      refine yq120 ?_; (exact K ⟨b64, s56, s60, s63, _, lv66⟩ _ _ ⟨⟨hs56, hs60, hs63⟩, hv66⟩ zq8 (by repeat (first | exact Sel.refl _ | exact Sel.nil | (refine Sel.cons zq1 ?_) | (refine Sel.app zq1 ?_) | exact Sel.one zq1)))
    rintro ⟨b64, s1, s2, s3, v2, lv2⟩ ⟨⟨hs1, hs2, hs3⟩, hv2⟩
    dsimp only at hs1 hs2 hs3 hv2 ⊢
    refine T.freezeB (b := b64) zq1 ?_
    intro H4 hle4 hb4
    have htk : TkOk H4 ⟨.slice (some ⟨b64, 0, none⟩) 3 3, [s1, s2, s3]⟩ := by
      refine ⟨⟨rfl, .inr ⟨b64, 0, 3, _, _, _, rfl, hb4, rfl, Nat.le_refl 3⟩⟩, (by show 3 ≤ 1000; omega), fun s hs => ?_⟩
      simp only [List.mem_cons, List.not_mem_nil, or_false] at hs
      rcases hs with rfl | rfl | rfl
      · exact StrOf.size (m := 4000) (l := words) (by decide) hs1
      · exact StrOf.size (m := 4000) (l := tags) (by decide) hs2
      · exact StrOf.size (m := 4000) (l := feats) (by decide) hs3
    refine yq35 ?_; refine sm ?_; refine yq63 ?_
    refine T.nextP ⟨i + 1, t48, H4, v2, lv2, l ++ [⟨.slice (some ⟨b64, 0, none⟩) 3 3, [s1, s2, s3]⟩]⟩ ⟨by dsimp only; omega, g2.trans hle4, ht48.mono hle4, by dsimp only; rw [List.length_append, g4]; rfl, RowV.snoc hv2, fun t ht => ?_⟩ (by dsimp only; omega) zq8 (by repeat (first | exact Sel.refl _ | exact Sel.nil | (refine Sel.cons zq1 ?_) | (refine Sel.app zq1 ?_) | exact Sel.one zq1)) rfl
    rcases List.mem_append.1 ht with h | h
    · exact ⟨(g6 t h).1.mono hle4, (g6 t h).2⟩
    · rw [List.mem_singleton] at h; subst h; exact ⟨htk, rfl⟩
  have hin : i = n := by omega
  subst hin
  refine T.freezeP (lv := lv) g5 zq1 ?_
  intro H4 hle4 htks
  rw [g4] at htks ⊢
  have hva := hva.mono (g2.trans hle4)
  have hme := hme.mono (g2.trans hle4)
  have g3 := g3.mono hle4
  refine yq14 ?_; refine sm ?_; refine yq3 ?_; refine yq16 ?_; refine yq25 ?_; refine yq14 ?_; (refine T.callW Wanted.none rfl rfl (next_fn _ _ _ _ ?_ ?_) zq1 ?_; (focus assumption); (focus omega); rintro _ _ _ _ ⟨rfl, n69, t69, rfl, hn69, ht69, rfl⟩); refine yq0 ?_; refine T.block ?_
  obtain ⟨k0, hk0⟩ : ∃ k : Nat, (k : Int) = n69 := ⟨n69.toNat, by omega⟩
  rw [← hk0]
  refine T.loopK [(7, Value.int IntKind.i64 (↑i : Int)), (8, Value.pointer (some { block := b8, off := 0 })), (6, Value.pointer (some { block := b6, off := 0 })), (0, Value.pointer (some { block := bt, off := 0 }))] zq8 (γ := RgG) (fun g => H4.le g.H ∧ g.t.ok g.H ∧ RowV 97 encRg 4 g.v g.lv g.l ∧ (∀ r ∈ g.l, RgOk g.H r) ∧ (∀ r ∈ g.l, 0 ≤ r.b ∧ r.b < r.e ∧ r.e ≤ i) ∧ (∀ x ∈ g.l, ∀ y ∈ g.l, apart x y) ∧ g.l.length + g.k ≤ 4) (fun g => [(12, .int .i64 (g.k : Int)), (11, g.v)]) (fun g => [Tp.blk bt g.t, (b8, .cells #[.slice ada 3 capa, .slice adv i capv, .slice (some ⟨b26, 0, none⟩) 1 1, .slice none 0 0, .slice none 0 0, .slice none 0 0, .slice none 0 0] 32 (0, 0)), (b26, .cells #[.string nm, .int .i64 0, .int .i64 (i : Int), .slice adm ms.length capm] 71 (0, 0)), (b6, .cells #[.slice none 0 0, .slice none 0 0, .slice none 0 0, .slice none 0 0, .slice none 0 0, .slice none 0 0, .slice none 0 0] 32 (0, 0))] ++ g.lv) (fun g => g.H) (fun g => g.k) ⟨k0, t69, H4, .slice none 0 0, [], []⟩ ⟨Hp.le.refl _, ht69, Vec.nil _ _, by simp, by simp, by simp, by simp; omega⟩ zq8 (by repeat (first | exact Sel.refl _ | exact Sel.nil | (refine Sel.cons zq1 ?_) | (refine Sel.app zq1 ?_) | exact Sel.one zq1)) rfl ?_
  rintro ⟨k, t3, H5, v, lv, rs⟩ ⟨r1, r2, r3, r4, r5, r6, r7⟩
  dsimp only at r1 r2 r3 r4 r5 r6 r7 ⊢
  obtain ⟨adr, capr, rfl⟩ := r3.val
  by_cases hk : 0 < k
  · refine yq158 ?_; refine so ?_; refine yq33 ?_; refine yq137 ?_; (refine T.callW Wanted.none rfl rfl (next_fn _ _ _ _ ?_ ?_) zq1 ?_; (focus assumption); (focus omega); rintro _ _ _ _ ⟨rfl, n76, t76, rfl, hn76, ht76, rfl⟩); refine yq56 ?_; (refine T.callW Wanted.none rfl rfl (next_fn _ _ _ _ ?_ ?_) zq1 ?_; (focus assumption); (focus omega); rintro _ _ _ _ ⟨rfl, n78, t78, rfl, hn78, ht78, rfl⟩); (refine T.callX Wanted.none rfl rfl (type_fn _ _ ?_) ?_; (focus omega); rintro _ ⟨s79, hs79, rfl⟩); refine yq162 ?_; refine yq9 ?_; refine yq162 ?_; refine sv (PV.sub rfl rfl (by omega)) ?_; (refine T.callW Wanted.none rfl rfl (next_fn _ _ _ _ ?_ ?_) zq1 ?_; (focus assumption); (focus omega); rintro _ _ _ _ ⟨rfl, n87, t87, rfl, hn87, ht87, rfl⟩); refine sv (PV.add rfl rfl (by omega)) ?_; refine sv (PV.build rfl zq12) ?_; refine sy fun b14 => ?_; refine yq13 ?_; refine yq14 ?_; (refine T.callW Wanted.none rfl rfl (next_fn _ _ _ _ ?_ ?_) zq1 ?_; (focus assumption); (focus omega); rintro _ _ _ _ ⟨rfl, n91, t91, rfl, hn91, ht91, rfl⟩); refine sv (PV.eql rfl rfl) ?_; refine so ?_
    obtain ⟨r0, hr0⟩ : ∃ z : Int, z = n76 + 1 + n87 := ⟨_, rfl⟩
    rw [← hr0]
    refine T.cutK [(14, Value.pointer (some { block := b14, off := 0 })), (12, Value.int IntKind.i64 (↑k : Int)), (11, Value.slice adr rs.length capr), (7, Value.int IntKind.i64 (↑i : Int)), (8, Value.pointer (some { block := b8, off := 0 })), (6, Value.pointer (some { block := b6, off := 0 })), (0, Value.pointer (some { block := bt, off := 0 }))] (γ := MeG) (fun g => g.t.ok H5 ∧ Vec 94 2 g.mv g.lm g.ms.length (g.ms.flatMap encPr) ∧ g.ms.length ≤ 1 ∧ ∀ p ∈ g.ms, p.2.size ≤ 1000000) (fun _ => [(7, .int .i64 (i : Int))]) (fun g => [(b14, .cells #[.string s79, .int .i64 n76, .int .i64 r0, g.mv] 97 (0, 0)), Tp.blk bt g.t, (b8, .cells #[.slice ada 3 capa, .slice adv i capv, .slice (some ⟨b26, 0, none⟩) 1 1, .slice none 0 0, .slice none 0 0, .slice none 0 0, .slice none 0 0] 32 (0, 0)), (b26, .cells #[.string nm, .int .i64 0, .int .i64 (i : Int), .slice adm ms.length capm] 71 (0, 0)), (b6, .cells #[.slice none 0 0, .slice none 0 0, .slice none 0 0, .slice none 0 0, .slice none 0 0, .slice none 0 0, .slice none 0 0] 32 (0, 0))] ++ (g.lm ++ lv)) ?_ fun K => ?_
    rotate_left
    · by_cases h2 : n91 = 1
      · refine sc rfl (by omega) ?_; refine sr ?_; (refine T.buildSlice Wanted.none rfl rfl zq11 (by exact rfl) (by exact rfl) ?_; intro b93); refine sm ?_; (refine T.callW Wanted.none rfl rfl (next_fn _ _ _ _ ?_ ?_) zq1 ?_; (focus assumption); (focus omega); rintro _ _ _ _ ⟨rfl, n95, t95, rfl, hn95, ht95, rfl⟩; obtain ⟨s95, hz95, hl95⟩ := lit2z n95 hn95); refine yq133 ?_; refine sv (PV.build rfl zq12) ?_; (refine T.buildSlice Wanted.none rfl rfl zq11 (by exact rfl) (by exact rfl) ?_; intro b99); refine yq116 ?_; refine so ?_
        exact K ⟨t95, _, [(b99, _)], [(bs [110], s95)]⟩ _ _ ⟨ht95, Vec.lit 1 rfl (by decide), by simp, by intro p hp; rw [List.mem_singleton] at hp; subst hp; exact hz95⟩ zq8 (by repeat (first | exact Sel.refl _ | exact Sel.nil | (refine Sel.cons zq1 ?_) | (refine Sel.app zq1 ?_) | exact Sel.one zq1))
      · refine yq22 ?_
        exact K ⟨t91, _, [], []⟩ _ _ ⟨ht91, Vec.nil _ _, by simp, by simp⟩ zq8 (by repeat (first | exact Sel.refl _ | exact Sel.nil | (refine Sel.cons zq1 ?_) | (refine Sel.app zq1 ?_) | exact Sel.one zq1))
    rintro ⟨t4, kv, lk, ks⟩ ⟨ht4, hke, hks, hkz⟩
    dsimp only at ht4 hke hks hkz ⊢
    refine T.freezeP (lv := lk) hke zq1 ?_
    intro H6 hle6 hke
    obtain ⟨adk, capk, rfl⟩ := hke.len
    obtain ⟨r, hr⟩ : ∃ r : Rg, r = ⟨s79, n76, r0, .slice adk ks.length capk, ks⟩ := ⟨_, rfl⟩
    have hrok : RgOk H6 r := by rw [hr]; exact ⟨hke, (by show ks.length ≤ 1000; omega), hkz⟩
    have hrb : 0 ≤ r.b ∧ r.b < r.e ∧ r.e ≤ i := by rw [hr]; dsimp only; omega
    refine yq25 ?_; refine yq112 ?_; refine T.loopK [(102, Value.int IntKind.i64 (↑rs.length : Int)), (101, Value.slice adr rs.length capr), (7, Value.int IntKind.i64 (↑i : Int)), (14, Value.pointer (some { block := b14, off := 0 })), (12, Value.int IntKind.i64 (↑k : Int)), (11, Value.slice adr rs.length capr), (8, Value.pointer (some { block := b8, off := 0 })), (6, Value.pointer (some { block := b6, off := 0 })), (0, Value.pointer (some { block := bt, off := 0 }))] zq8 (γ := Nat × Bool) (fun g => g.1 ≤ rs.length ∧ (g.2 = false → ∀ x ∈ rs.take g.1, apart x r)) (fun g => [(103, .int .i64 (g.1 : Int)), (15, .bool g.2)]) (fun _ => _) (fun _ => H6) (fun g => rs.length - g.1) (0, false) ⟨by simp, by simp⟩ zq8 (Sel.refl _) rfl ?_
    rintro ⟨j, q⟩ ⟨q1, q2⟩
    dsimp only at q1 q2 ⊢
    by_cases hj : j < rs.length
    · obtain ⟨x, hx⟩ : ∃ z, rs[j]? = some z := ⟨_, List.getElem?_eq_getElem hj⟩
      obtain ⟨bv, capv', hve⟩ := r3.ptr (by omega)
      injection hve with e1 e2 e3
      subst e1 e3
      obtain ⟨ax, cx, hxv⟩ := (r4 x (List.mem_of_getElem? hx)).1.len
      have hld : ((rs.flatMap encRg).drop (0 + ((j : Nat) : Int).toNat * 4)).take 4 = [.string x.ty, .int .i64 x.b, .int .i64 x.e, .slice ax x.ks.length cx] := by
        rw [Nat.zero_add, Int.toNat_natCast, flat_elem encRg_len rs j x hx]
        unfold encRg; rw [hxv]
      refine yq82 ?_; refine sv (PV.indexAddr rfl rfl (by omega)) ?_; refine sv (PV.loadVecAll rfl (by assumption) zq4 (by assumption) (by exact rfl)) ?_; refine sy fun b17 => ?_; refine yq13 ?_
      (repeat refine sq ?_)
      refine T.cutG [(103, Value.int IntKind.i64 (↑j : Int)), (102, Value.int IntKind.i64 (↑rs.length : Int)), (101, Value.slice (some { block := bv, off := 0 }) rs.length capr), (7, Value.int IntKind.i64 (↑i : Int)), (14, Value.pointer (some { block := b14, off := 0 })), (12, Value.int IntKind.i64 (↑k : Int)), (11, Value.slice (some { block := bv, off := 0 }) rs.length capr), (8, Value.pointer (some { block := b8, off := 0 })), (6, Value.pointer (some { block := b6, off := 0 })), (0, Value.pointer (some { block := bt, off := 0 }))] (γ := Bool) (fun q' => q' = false → q = false ∧ apart x r) (fun q' => [(15, .bool q')]) ?_ fun K => ?_
      rotate_left
      · cases q
        · by_cases hap : apart x r
          · rw [hr] at K ⊢
            refine yq81 ?_; refine sm ?_; refine yq161 ?_; refine gv (PV.seql rfl rfl) ?_; refine gm ?_
            refine T.splitD (d := 114) rfl (fun h0 => ?_) (fun h0 => ?_)
            · refine yq161 ?_; refine gv (PV.lss rfl rfl) ?_; refine gv (PV.pickT rfl rfl rfl) ?_; refine gm ?_
              refine T.splitD (d := 121) rfl (fun h1 => ?_) (fun h1 => ?_)
              · refine yq161 ?_; refine gv (PV.lss rfl rfl) ?_; refine gv (PV.pickT rfl rfl rfl) ?_; refine gm ?_
                refine T.splitD (d := 128) rfl (fun h2 => ?_) (fun h2 => ?_)
                · refine yq29 ?_; refine yq97 ?_; refine gm ?_
                  refine T.splitD (d := 134) rfl (fun h3 => ?_) (fun h3 => ?_)
                  · refine yq29 ?_; refine yq97 ?_; refine yq189 ?_; refine gv (PV.pickT rfl rfl rfl) ?_; refine gm ?_
                    refine T.splitB (d := 143) rfl (fun h4 => ?_) (fun h4 => ?_)
                    · refine yq29 ?_; refine yq97 ?_; refine gm ?_
                      refine T.splitD (d := 149) rfl (fun h5 => ?_) (fun h5 => ?_)
                      · refine yq29 ?_; refine yq97 ?_; refine yq189 ?_; refine gv (PV.pickT rfl rfl rfl) ?_; refine yq118 ?_; (exact K _ _ _ (fun _ => ⟨rfl, by rw [← hr]; exact hap⟩) zq8 (Sel.refl _))
                      · refine yq143 ?_; refine gv (PV.pickF rfl rfl rfl) ?_; refine gv (PV.not rfl) ?_; refine gv (PV.pickT rfl rfl rfl) ?_; refine yq118 ?_; (exact K _ _ _ (fun _ => ⟨rfl, by rw [← hr]; exact hap⟩) zq8 (Sel.refl _))
                    · refine yq149 ?_; refine yq177 ?_; refine su ?_; refine yq8 ?_; refine gv (PV.pickF rfl rfl rfl) ?_; refine yq118 ?_; (exact K _ _ _ (fun _ => ⟨rfl, by rw [← hr]; exact hap⟩) zq8 (Sel.refl _))
                  · refine yq143 ?_; refine gv (PV.pickF rfl rfl rfl) ?_; refine gv (PV.not rfl) ?_; refine gv (PV.pickT rfl rfl rfl) ?_; refine yq191 ?_; refine yq97 ?_; refine gm ?_; refine T.setT (d := 149) rfl (by omega) ?_; refine yq29 ?_; refine yq97 ?_; refine yq189 ?_; refine gv (PV.pickT rfl rfl rfl) ?_; refine yq118 ?_; (exact K _ _ _ (fun _ => ⟨rfl, by rw [← hr]; exact hap⟩) zq8 (Sel.refl _))
                · refine yq149 ?_; refine yq177 ?_; refine su ?_; refine yq8 ?_; refine gv (PV.pickF rfl rfl rfl) ?_; refine gm ?_; refine yq149 ?_; refine yq177 ?_; refine su ?_; refine yq8 ?_; refine gv (PV.pickF rfl rfl rfl) ?_; refine yq118 ?_; (exact K _ _ _ (fun _ => ⟨rfl, by rw [← hr]; exact hap⟩) zq8 (Sel.refl _))
              · refine yq143 ?_; refine gv (PV.pickF rfl rfl rfl) ?_; refine gm ?_; refine yq149 ?_; refine yq177 ?_; refine su ?_; refine yq8 ?_; refine gv (PV.pickF rfl rfl rfl) ?_; refine gm ?_; refine yq149 ?_; refine yq177 ?_; refine su ?_; refine yq8 ?_; refine gv (PV.pickF rfl rfl rfl) ?_; refine yq118 ?_; (exact K _ _ _ (fun _ => ⟨rfl, by rw [← hr]; exact hap⟩) zq8 (Sel.refl _))
            · refine yq143 ?_; refine gv (PV.pickF rfl rfl rfl) ?_; refine gm ?_; refine yq143 ?_; refine gv (PV.pickF rfl rfl rfl) ?_; refine gm ?_; refine yq149 ?_; refine yq177 ?_; refine su ?_; refine yq8 ?_; refine gv (PV.pickF rfl rfl rfl) ?_; refine gm ?_; refine yq149 ?_; refine yq177 ?_; refine su ?_
              refine yq8 ?_; refine gv (PV.pickF rfl rfl rfl) ?_; refine yq118 ?_; (exact K _ _ _ (fun _ => ⟨rfl, by rw [← hr]; exact hap⟩) zq8 (Sel.refl _))
          · have hna : x.ty = s79 ∧ x.b < r0 ∧ n76 < x.e ∧ ¬ (x.b ≤ n76 ∧ r0 ≤ x.e) ∧ ¬ (n76 ≤ x.b ∧ x.e ≤ r0) := by
              rw [hr] at hap
              unfold apart at hap
              dsimp only at hap
              by_cases hty : x.ty = s79
              · have : ¬ (x.e ≤ n76 ∨ r0 ≤ x.b ∨ (x.b ≤ n76 ∧ r0 ≤ x.e) ∨ (n76 ≤ x.b ∧ x.e ≤ r0)) := fun h => hap fun _ => h
                exact ⟨hty, by omega, by omega, by omega, by omega⟩
              · exact absurd (fun he => absurd he hty) hap
            obtain ⟨n1, n2, n3, n4, n5⟩ := hna
            have n1' := decide_eq_true n1
            clear hap r4 r5 r6 hva hme htks
            by_cases c1 : x.b ≤ n76
            · have n4' : (!decide (r0 ≤ x.e)) = true := by simp; omega
              by_cases c2 : n76 ≤ x.b
              · refine yq81 ?_; refine sm ?_; refine yq161 ?_; refine gv (PV.seql rfl rfl) ?_; refine gm ?_; refine yq31 ?_; refine yq31 ?_; refine T.pv (PV.lss rfl rfl) (Wanted.guard rfl rfl (by assumption)) rfl rfl ?_; refine gv (PV.pickT rfl (by assumption) rfl) ?_; refine gm ?_; refine T.setT (d := 121) rfl (by omega) ?_; refine yq161 ?_; refine gv (PV.lss rfl rfl) ?_; refine gv (PV.pickT rfl rfl rfl) ?_; refine gm ?_; refine T.setT (d := 128) rfl (by omega) ?_; refine yq29 ?_; refine yq97 ?_; refine gm ?_; refine T.setT (d := 134) rfl (by omega) ?_; refine yq29 ?_; refine yq97 ?_; refine yq189 ?_; refine gv (PV.pickT rfl rfl rfl) ?_
                refine gm ?_; refine yq31 ?_; refine yq31 ?_; refine T.pv (PV.leq rfl rfl) (Wanted.guard rfl rfl (by assumption)) rfl rfl ?_; refine T.pv (PV.move rfl) (Wanted.guard rfl rfl (by assumption)) rfl rfl ?_; refine T.setT (d := 149) rfl (by omega) ?_; refine yq29 ?_; refine yq97 ?_; refine T.pv (PV.pickT rfl rfl rfl) (Wanted.guard rfl rfl (by assumption)) rfl rfl ?_; refine T.pv (PV.not rfl) (Wanted.guard rfl rfl (by assumption)) rfl rfl ?_; refine gv (PV.pickT rfl (by assumption) rfl) ?_; refine yq118 ?_
                exact K (!decide (x.e ≤ r0)) _ _ (fun hq' => absurd hq' (by simp; omega)) zq8 (Sel.refl _)
              · refine yq81 ?_; refine sm ?_; refine yq161 ?_; refine gv (PV.seql rfl rfl) ?_; refine gm ?_; refine yq31 ?_; refine yq31 ?_; refine T.pv (PV.lss rfl rfl) (Wanted.guard rfl rfl (by assumption)) rfl rfl ?_; refine gv (PV.pickT rfl (by assumption) rfl) ?_; refine gm ?_; refine T.setT (d := 121) rfl (by omega) ?_; refine yq161 ?_; refine gv (PV.lss rfl rfl) ?_; refine gv (PV.pickT rfl rfl rfl) ?_; refine gm ?_; refine T.setT (d := 128) rfl (by omega) ?_; refine yq29 ?_; refine yq97 ?_; refine gm ?_; refine T.setT (d := 134) rfl (by omega) ?_; refine yq29 ?_; refine yq97 ?_; refine yq189 ?_; refine gv (PV.pickT rfl rfl rfl) ?_
                refine gm ?_; refine yq31 ?_; refine yq31 ?_; refine T.pv (PV.leq rfl rfl) (Wanted.guard rfl rfl (by assumption)) rfl rfl ?_; refine T.pv (PV.move rfl) (Wanted.guard rfl rfl (by assumption)) rfl rfl ?_; refine T.setF (d := 149) rfl (by omega) ?_; refine yq143 ?_; refine T.pv (PV.pickF rfl rfl rfl) (Wanted.guard rfl rfl (by assumption)) rfl rfl ?_; refine T.pv (PV.not rfl) (Wanted.guard rfl rfl (by assumption)) rfl rfl ?_; refine gv (PV.pickT rfl (by assumption) rfl) ?_; refine yq118 ?_
                exact K (!false) _ _ (fun hq' => absurd hq' (by simp)) zq8 (Sel.refl _)
            · by_cases c2 : n76 ≤ x.b
              · refine yq81 ?_; refine sm ?_; refine yq161 ?_; refine gv (PV.seql rfl rfl) ?_; refine gm ?_; refine yq31 ?_; refine yq31 ?_; refine T.pv (PV.lss rfl rfl) (Wanted.guard rfl rfl (by assumption)) rfl rfl ?_; refine gv (PV.pickT rfl (by assumption) rfl) ?_; refine gm ?_; refine T.setT (d := 121) rfl (by omega) ?_; refine yq161 ?_; refine gv (PV.lss rfl rfl) ?_; refine gv (PV.pickT rfl rfl rfl) ?_; refine gm ?_; refine T.setT (d := 128) rfl (by omega) ?_; refine yq29 ?_; refine yq97 ?_; refine gm ?_; refine T.setF (d := 134) rfl (by omega) ?_; refine yq143 ?_; refine gv (PV.pickF rfl rfl rfl) ?_; refine gv (PV.not rfl) ?_; refine gv (PV.pickT rfl rfl rfl) ?_
                refine yq191 ?_; refine yq97 ?_; refine gm ?_; refine T.setT (d := 149) rfl (by omega) ?_; refine yq29 ?_; refine yq97 ?_; refine yq189 ?_; refine gv (PV.pickT rfl rfl rfl) ?_; refine yq118 ?_
                exact K (!decide (x.e ≤ r0)) _ _ (fun hq' => absurd hq' (by simp; omega)) zq8 (Sel.refl _)
              · exact absurd c1 (by omega)
        · refine yq81 ?_; refine sm ?_; refine yq149 ?_; refine yq177 ?_; refine su ?_; refine yq8 ?_; refine yq177 ?_; refine su ?_; refine yq8 ?_; refine yq177 ?_; refine yq177 ?_; refine yq177 ?_; refine su ?_; refine yq8 ?_; refine yq93 ?_
          refine yq177 ?_; refine yq177 ?_; refine yq93 ?_; refine su ?_; refine sp ?_; refine sT ?_; refine yq0 ?_
          exact K true _ _ (fun hq' => by cases hq') zq8 (Sel.refl _)
      intro q' hq'
      refine yq61 ?_
      refine T.nextP (j + 1, q') ⟨by dsimp only; omega, fun hf y hy => ?_⟩ (by dsimp only; omega) zq8 (by repeat (first | exact Sel.refl _ | exact Sel.nil | (refine Sel.cons zq1 ?_) | (refine Sel.app zq1 ?_) | exact Sel.one zq1)) rfl
      obtain ⟨h1, h2⟩ := hq' hf
      rw [List.take_add_one, hx] at hy
      rcases List.mem_append.1 hy with h | h
      · exact q2 h1 y h
      · simp at h; subst h; exact h2
    rw [List.take_of_length_le (by omega)] at q2
    cases q
    · have q2 := q2 rfl
      refine yq74 ?_; refine yq2 ?_; refine sv (PV.not rfl) ?_; refine yq36 ?_; refine yq81 ?_; refine sv (PV.loadAll rfl zq0 (by exact rfl)) ?_; (refine T.buildSlice Wanted.none rfl rfl zq11 (by exact rfl) (by exact rfl) ?_; intro b164); (refine T.appendP (lv := lv) Wanted.none rfl rfl rfl r3 (Src.cells (m := 1) (ys := encRg r) (.own zq2) (by rw [hr]; rfl) rfl) (one_encRg hrok) (by omega) zq1 ?_; intro v165 lv165 hv165 _; obtain ⟨ad165, cap165, rfl⟩ := hv165.val); refine yq0 ?_; refine yq35 ?_; refine sm ?_; refine yq77 ?_
      rw [show (k : Int) - 1 = ((k - 1 : Nat) : Int) by omega]
      have hsym : ∀ x ∈ rs, apart r x := fun x hx => by
        have := q2 x hx
        unfold apart at this ⊢
        intro he
        have := this he.symm
        omega
      refine T.nextP ⟨k - 1, t4, H6, _, lv165, rs ++ [r]⟩ ⟨r1.trans hle6, ht4.mono hle6, RowV.snoc hv165, fun x hx => ?_, fun x hx => ?_, fun x hx y hy => ?_, by dsimp only; rw [List.length_append, List.length_singleton]; omega⟩ (by dsimp only; omega) zq8 (by repeat (first | exact Sel.refl _ | exact Sel.nil | (refine Sel.cons zq1 ?_) | (refine Sel.app zq1 ?_) | exact Sel.one zq1)) rfl
      · rcases List.mem_append.1 hx with h | h
        · exact (r4 x h).mono hle6
        · rw [List.mem_singleton] at h; subst h; exact hrok
      · rcases List.mem_append.1 hx with h | h
        · exact r5 x h
        · rw [List.mem_singleton] at h; subst h; exact hrb
      · rcases List.mem_append.1 hx with h | h <;> rcases List.mem_append.1 hy with h' | h'
        · exact r6 x h y h'
        · rw [List.mem_singleton] at h'; subst h'; exact q2 x h
        · rw [List.mem_singleton] at h; subst h; exact hsym y h'
        · rw [List.mem_singleton] at h h'; subst h; subst h'
          intro _; omega
    · refine yq74 ?_; refine yq2 ?_; refine sv (PV.not rfl) ?_; refine yq92 ?_; refine yq35 ?_; refine sm ?_; refine yq77 ?_
      rw [show (k : Int) - 1 = ((k - 1 : Nat) : Int) by omega]
      exact T.nextP ⟨k - 1, t4, H6, _, lv, rs⟩ ⟨r1.trans hle6, ht4.mono hle6, r3, fun r hr => (r4 r hr).mono hle6, r5, r6, by dsimp only; omega⟩ (by dsimp only; omega) zq8 (by repeat (first | exact Sel.refl _ | exact Sel.nil | (refine Sel.cons zq1 ?_) | (refine Sel.app zq1 ?_) | exact Sel.one zq1)) rfl
  refine T.freezeP (lv := lv) r3 zq1 ?_
  intro H6 hle6 hrs
  have hle46 := r1.trans hle6
  have hva := hva.mono hle46
  have hme := hme.mono hle46
  have htks := htks.mono hle46
  have r2 := r2.mono hle6
  refine yq158 ?_; refine so ?_; refine yq16 ?_; refine yq2 ?_; refine T.call Wanted.none rfl rfl (sortRegions_fn rs _ H6 ⟨hrs, fun r hr => (r4 r hr).mono hle6⟩ (by omega)) ?_
  rintro vM H7 hle7 ⟨M, hM1, hM2, hM3⟩
  obtain ⟨adM, capM, rfl⟩ := hM1.1.len
  have hva := hva.mono hle7
  have hme := hme.mono hle7
  have htks := htks.mono hle7
  have r2 := r2.mono hle7
  refine T.freezeB (b := b26) zq1 ?_
  intro H7' hle7' hb26
  have hva := hva.mono hle7'
  have hme := hme.mono hle7'
  have htks := htks.mono hle7'
  have r2 := r2.mono hle7'
  have hM1 := RgL.mono hM1 hle7'
  have hle47 := (hle46.trans hle7).trans hle7'
  have hfin : ∀ (H' : Hp) (vn vh vs : Value) (nds : List Nd) (hd : List Int) (rl : List ByteArray) (t' : Tp), H7'.le H' → t'.ok H' → NdL H' vn nds → nodesOk (i : Int) nds → nds.length ≤ 6 → InL H' vh hd → StL H' vs rl → hd.length ≤ i → rl.length ≤ i →
      ∃ t'' c x, Value.agg #[.slice ada 3 capa, .slice adv i capv, .slice (some ⟨b26, 0, none⟩) 1 1, .slice adM M.length capM, vn, vh, vs] = cpV c ∧ t''.ok H' ∧ CpL H' c ∧ CpG c ∧ CpB 1 c ∧ c.tx = [x] ∧ x.ty = nm ∧ [Tp.blk bt t'] = [Tp.blk bt t''] := by
    intro H' vn vh vs nds hd rl t' hle ht' h1 h2 h3 h4 h5 h6 h7
    have hva := hva.mono hle
    have hme := hme.mono hle
    have htks := htks.mono hle
    have hM1 := RgL.mono hM1 hle
    have hb26 := hle _ _ hb26
    have hperm := hM3.length_eq
    have htx : RgL H' (.slice (some ⟨b26, 0, none⟩) 1 1) [⟨nm, 0, (i : Int), .slice adm ms.length capm, ms⟩] := by
      refine ⟨⟨rfl, .inr ⟨b26, 0, 1, _, _, _, rfl, hb26, rfl, Nat.le_refl 1⟩⟩, fun r hr => ?_⟩
      rw [List.mem_singleton] at hr
      subst hr
      exact ⟨hme, by show ms.length ≤ 1000; omega, hmz⟩
    have htl : l.length = i := g4
    have hi1 : 1 ≤ i ∧ i ≤ 8 := by omega
    refine ⟨t', ⟨_, attrs3, _, l, _, [⟨nm, 0, (i : Int), .slice adm ms.length capm, ms⟩], _, M, vn, nds, vh, hd, vs, rl⟩, _, rfl, ht', ⟨hva, ?_, htx, hM1, h1, h4, h5, fun t ht => ((g6 t ht).1.mono (hle4.trans hle47)).mono hle, (by show 3 ≤ 1000; omega), by dsimp only; omega, by simp, by dsimp only; omega, by dsimp only; omega, by dsimp only; omega, by dsimp only; omega⟩, ⟨rfl, fun t ht => (g6 t ht).2, by dsimp only; omega, ⟨rfl, by dsimp only; omega, by dsimp only; rw [htl]; rfl⟩, fun r hr => ?_, hM2, fun x hx y hy => r6 x (hM3.mem_iff.1 hx) y (hM3.mem_iff.1 hy), ?_⟩, ⟨by dsimp only; omega, by simp, by dsimp only; omega, by dsimp only; omega, by dsimp only; omega, by dsimp only; omega⟩, rfl, rfl, rfl⟩
    · dsimp only; rw [htl]; exact htks
    · dsimp only; rw [htl]; exact r5 r (hM3.mem_iff.1 hr)
    · dsimp only; rw [htl]; exact h2
  refine yq116 ?_; refine zs1 ?_; refine sm ?_; refine T.callW Wanted.none rfl rfl (nodes_fn bt b8 t3 adv i capv (.slice ada 3 capa) (.slice (some ⟨b26, 0, none⟩) 1 1) (.slice adM M.length capM) (.slice none 0 0) (.slice none 0 0) H7' r2 (by omega) rfl) zq1 ?_
  rintro _ H8 _ hle8 ⟨rfl, t5, vn, nds, ht5, hnd1, hnd2, hnd3, rfl⟩
  obtain ⟨adn, capn, rfl⟩ := hnd1.len
  unfold cpBlk
  have hi1 := InL.of (H := H8) (n := 0) (l := []) rfl SlR.empty (v := .slice none 0 0)
  have hs1 := StL.of (H := H8) (n := 0) (l := []) rfl SlR.empty (v := .slice none 0 0)
  refine so ?_; refine yq14 ?_; (refine T.callW Wanted.none rfl rfl (next_fn _ _ _ _ ?_ ?_) zq1 ?_; (focus assumption); (focus omega); rintro _ _ _ _ ⟨rfl, n172, t172, rfl, hn172, ht172, rfl⟩); refine sv (PV.eql rfl rfl) ?_; refine so ?_
  by_cases hh : n172 = 1
  · refine sc rfl (by omega) ?_; refine yq81 ?_; refine T.callW Wanted.none rfl rfl (heads_fn bt b8 t172 adv i capv (.slice ada 3 capa) (.slice (some ⟨b26, 0, none⟩) 1 1) (.slice adM M.length capM) (.slice adn nds.length capn) H8 ht172 (by omega)) zq1 ?_
    rintro _ H9 _ hle9 ⟨rfl, t6, vh, vs, hd, rl, ht6, hh1, hh2, hh3, hh4, rfl⟩
    obtain ⟨adh, caph, rfl⟩ := hh1.len
    obtain ⟨ads, caps, rfl⟩ := hh2.len
    unfold cpBlk
    refine zs1 ?_; refine sv (PV.loadAll rfl zq0 (by exact rfl)) ?_; refine yq13 ?_
    exact T.retW (Lv.finW [Tp.blk bt t6] zq4 (RV.cell rfl (CV.agg rfl zq0 (by exact rfl))) (hfin _ _ _ _ _ _ _ t6 (hle8.trans hle9) ht6 (hnd1.mono hle9) hnd2 hnd3 hh1 hh2 (by omega) (by omega)))
  · refine yq22 ?_; refine yq52 ?_; refine yq13 ?_
    exact T.retW (Lv.finW [Tp.blk bt t172] zq4 (RV.cell rfl (CV.agg rfl zq0 (by exact rfl))) (hfin _ _ _ _ _ _ _ t172 hle8 ht172 hnd1 hnd2 hnd3 hi1 hs1 (by simp) (by simp)))
end Go.Proofs.YthacphfjchpoaaaGreatDoor
