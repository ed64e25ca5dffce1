/- table: the labels, made groups.
   table: made matches and groups have no error; the example.
   table: the example.
   table: the statement Counts. (what it leans on). -/
import Derived.Test.YthacphfjchpoaaaGreatDoorGM
namespace Go.Proofs.YthacphfjchpoaaaGreatDoor
open Go.RowKit

theorem labels35_fn (H : Hp) : Fn Tryz.prog 14 #[] H (fun u H' => StL H' u [bs [120]]) := by
  refine Fn.of_T (vs := []) Tryz.func14 rfl rfl fun w => ?_; refine zs3 ?_; refine yq23 ?_; (refine T.buildSlice Wanted.none rfl rfl zq11 (by exact rfl) (by exact rfl) ?_; intro b1); refine yq0 ?_
  refine T.retF (Lv.freeze (Lv.fin (RV.tmp rfl rfl) ⟨rfl, .inr ⟨b1, 0, 1, _, _, _, rfl, Hp.put_same, rfl, Nat.le_refl 1⟩⟩))
/-- a made group -/
structure GpG (g : Gp) : Prop where
  s : shapeG g = true
  k : 1 ≤ g.k ∧ g.k ≤ 4
  n : g.k = 1 → g.nm = bs [119, 111, 114, 100] ∨ g.nm = bs [116, 97, 103] ∨ g.nm = bs [102, 101, 97, 116]
  l : g.at_ = 3 → g.lb = bs [120]
theorem lit3g (m : Int) (h : 0 ≤ m ∧ m < 3) : ∃ s : ByteArray, (s = bs [119, 111, 114, 100] ∨ s = bs [116, 97, 103] ∨ s = bs [102, 101, 97, 116]) ∧ (strsV [bs [119, 111, 114, 100], bs [116, 97, 103], bs [102, 101, 97, 116]])[0 + m.toNat * 1]? = some (.string s) := by
  have h : m = 0 ∨ m = 1 ∨ m = 2 := by omega
  rcases h with rfl | rfl | rfl
  · exact ⟨_, .inl rfl, rfl⟩
  · exact ⟨_, .inr (.inl rfl), rfl⟩
  · exact ⟨_, .inr (.inr rfl), rfl⟩
set_option maxHeartbeats 2000000 in
theorem group_fn (bt : Nat) (t : Tp) (H : Hp) (ht : t.ok H) :
    FnW Tryz.prog 31 #[.pointer (some ⟨bt, 0, none⟩)] H [Tp.blk bt t] (fun u H' l' => H = H' ∧ ∃ g t', u = gpV g ∧ GpG g ∧ t'.ok H ∧ l' = [Tp.blk bt t']) := by
  refine FnW.of_T (vs := [.pointer (some ⟨bt, 0, none⟩)]) Tryz.func31 rfl rfl fun w => ?_; refine zs3 ?_; refine sy fun b2 => ?_; refine so ?_; refine yq14 ?_; (refine T.callW Wanted.none rfl rfl (next_fn _ _ _ _ ?_ ?_) zq1 ?_; (focus assumption); (focus omega); rintro _ _ _ _ ⟨rfl, n5, t5, rfl, hn5, ht5, rfl⟩); refine yq32 ?_
  by_cases h0 : n5 = 0
  · refine yq113 ?_; refine yq163 ?_; refine yq13 ?_
    exact T.retW (Lv.finW [Tp.blk bt t5] zq4 (RV.cell rfl (CV.agg rfl zq0 (by exact rfl))) ⟨rfl, ⟨2, 0, 0, bs [], bs [121, 101, 97, 114], bs []⟩, t5, rfl, ⟨rfl, by dsimp only; omega, fun h => absurd h (by dsimp only; omega), fun h => absurd h (by dsimp only; omega)⟩, ht5, rfl⟩)
  by_cases h1 : n5 = 1
  · refine yq53 ?_; refine yq113 ?_; refine yq2 ?_; (refine T.callW Wanted.none rfl rfl (next_fn _ _ _ _ ?_ ?_) zq1 ?_; (focus assumption); (focus omega); rintro _ _ _ _ ⟨rfl, n12, t12, rfl, hn12, ht12, rfl⟩); (refine T.callX Wanted.none rfl rfl (type_fn _ _ ?_) ?_; (focus omega); rintro _ ⟨kd, hkd, rfl⟩); refine sv (PV.build rfl zq12) ?_; refine yq13 ?_
    exact T.retW (Lv.finW [Tp.blk bt t12] zq4 (RV.cell rfl (CV.agg rfl zq0 (by exact rfl))) ⟨rfl, ⟨3, 0, 0, bs [], bs [110], kd⟩, t12, rfl, ⟨rfl, by dsimp only; omega, fun h => absurd h (by dsimp only; omega), fun h => absurd h (by dsimp only; omega)⟩, ht12, rfl⟩)
  by_cases h2 : n5 = 2
  · refine yq53 ?_; refine yq53 ?_; refine yq113 ?_; refine yq163 ?_; refine yq13 ?_
    exact T.retW (Lv.finW [Tp.blk bt t5] zq4 (RV.cell rfl (CV.agg rfl zq0 (by exact rfl))) ⟨rfl, ⟨4, 0, 0, bs [], bs [], bs []⟩, t5, rfl, ⟨rfl, by dsimp only; omega, fun h => absurd h (by dsimp only; omega), fun h => absurd h (by dsimp only; omega)⟩, ht5, rfl⟩)
  refine yq53 ?_; refine yq53 ?_; refine yq44 ?_; refine yq22 ?_; refine T.blkEnd ?_; refine yq2 ?_; (refine T.callW Wanted.none rfl rfl (next_fn _ _ _ _ ?_ ?_) zq1 ?_; (focus assumption); (focus omega); rintro _ _ _ _ ⟨rfl, n19, t19, rfl, hn19, ht19, rfl⟩; obtain ⟨s19, hs19, hl19⟩ := lit3g n19 hn19); refine yq9 ?_; (refine T.callW Wanted.none rfl rfl (next_fn _ _ _ _ ?_ ?_) zq1 ?_; (focus assumption); (focus omega); rintro _ _ _ _ ⟨rfl, n22, t22, rfl, hn22, ht22, rfl⟩; obtain ⟨s22, hs22, hl22⟩ := lit3g n22 hn22); refine sv (PV.sub rfl rfl (by omega)) ?_; (refine T.buildSlice Wanted.none rfl rfl zq11 (by exact rfl) (by exact rfl) ?_; intro b24); refine sm ?_; (refine T.callW Wanted.none rfl rfl (next_fn _ _ _ _ ?_ ?_) zq1 ?_; (focus assumption); (focus omega); rintro _ _ _ _ ⟨rfl, n26, t26, rfl, hn26, ht26, rfl⟩; obtain ⟨s26, hs26, hl26⟩ := lit3g n26 hn26); refine yq133 ?_; refine sv (PV.build rfl zq12) ?_; refine sy fun b3 => ?_; refine yq13 ?_
  by_cases h3 : n19 = 2
  · refine yq73 ?_; refine sv (PV.eql rfl rfl) ?_; refine yq46 ?_; refine sr ?_; refine yq116 ?_; refine zs1 ?_; refine sv (PV.loadAll rfl zq0 (by exact rfl)) ?_; refine yq13 ?_
    exact T.retW (Lv.finW [Tp.blk bt t26] zq4 (RV.cell rfl (CV.agg rfl zq0 (by exact rfl))) ⟨rfl, ⟨1, 1 + n19, n22 - 1, bs [120], s26, bs []⟩, t26, rfl, ⟨by subst h3; rfl, by dsimp only; omega, fun _ => hs26, fun _ => rfl⟩, ht26, rfl⟩)
  · refine yq73 ?_; refine sv (PV.eql rfl rfl) ?_; refine yq88 ?_; refine yq52 ?_; refine yq13 ?_
    exact T.retW (Lv.finW [Tp.blk bt t26] zq4 (RV.cell rfl (CV.agg rfl zq0 (by exact rfl))) ⟨rfl, ⟨1, 1 + n19, n22 - 1, bs [], s26, bs []⟩, t26, rfl, ⟨by
      have h : n19 = 0 ∨ n19 = 1 := by omega
      rcases h with rfl | rfl <;> rfl, by dsimp only; omega, fun _ => hs26, fun h => absurd h (by dsimp only; omega)⟩, ht26, rfl⟩)
structure GrG where
  k : Nat
  t : Tp
  v : Value
  lv : List (Nat × Obj)
  L : List Gp
theorem one_encGp (g : Gp) : ∀ v ∈ encGp g, v.oneCell' = true := by
  intro v hv
  simp only [encGp, List.mem_cons, List.not_mem_nil, or_false] at hv
  rcases hv with rfl | rfl | rfl | rfl | rfl | rfl <;> rfl
set_option maxHeartbeats 2000000 in
theorem groups_fn (bt : Nat) (t : Tp) (H : Hp) (ht : t.ok H) :
    FnW Tryz.prog 12 #[.pointer (some ⟨bt, 0, none⟩)] H [Tp.blk bt t] (fun u H' l' => H.le H' ∧ ∃ gs t', GpL H' u gs ∧ (1 ≤ gs.length ∧ gs.length ≤ 3) ∧ (∀ g ∈ gs, GpG g) ∧ t'.ok H' ∧ l' = [Tp.blk bt t']) := by
  refine FnW.of_T (vs := [.pointer (some ⟨bt, 0, none⟩)]) Tryz.func12 rfl rfl fun w => ?_; refine zs3 ?_; refine yq56 ?_; (refine T.callW Wanted.none rfl rfl (group_fn _ _ _ ?_) zq1 ?_; (focus assumption); rintro _ _ _ _ ⟨rfl, g6, t6, rfl, hg6, ht6, rfl⟩; unfold gpV); (refine T.buildSlice Wanted.none rfl rfl zq11 (by exact rfl) (by exact rfl) ?_; intro b7); refine yq127 ?_; (refine T.callW Wanted.none rfl rfl (next_fn _ _ _ _ ?_ ?_) zq1 ?_; (focus assumption); (focus omega); rintro _ _ _ _ ⟨rfl, n9, t9, rfl, hn9, ht9, rfl⟩); refine yq0 ?_; refine T.block ?_
  obtain ⟨k0, hk0⟩ : ∃ k : Nat, (k : Int) = n9 := ⟨n9.toNat, by omega⟩
  rw [← hk0]
  refine T.loopK [(0, Value.pointer (some { block := bt, off := 0 }))] zq8 (γ := GrG) (fun g => g.t.ok H ∧ RowV 57 encGp 6 g.v g.lv g.L ∧ (∀ x ∈ g.L, GpG x) ∧ 1 ≤ g.L.length ∧ g.L.length + g.k ≤ 3) (fun g => [(4, .int .i64 (g.k : Int)), (3, g.v)]) (fun g => [Tp.blk bt g.t] ++ g.lv) (fun _ => H) (fun g => g.k) ⟨k0, t9, .slice (some ⟨b7, 0, none⟩) 1 1, [(b7, _)], [g6]⟩ ⟨ht9, Vec.lit 1 rfl (by decide), by intro x hx; rw [List.mem_singleton] at hx; subst hx; exact hg6, by simp, by simp; omega⟩ zq8 (by repeat (first | exact Sel.refl _ | exact Sel.nil | (refine Sel.cons zq1 ?_) | (refine Sel.app zq1 ?_) | exact Sel.one zq1)) rfl ?_
  rintro ⟨k, t2, v, lv, L⟩ ⟨g1, g2, g3, g4, g5⟩
  dsimp only at g1 g2 g3 g4 g5 ⊢
  obtain ⟨adv, capv, rfl⟩ := g2.val
  by_cases hk : 0 < k
  · refine yq158 ?_; refine so ?_; refine yq33 ?_; refine yq81 ?_; refine sm ?_; (refine T.callW Wanted.none rfl rfl (group_fn _ _ _ ?_) zq1 ?_; (focus assumption); rintro _ _ _ _ ⟨rfl, g16, t16, rfl, hg16, ht16, rfl⟩; unfold gpV); (refine T.buildSlice Wanted.none rfl rfl zq11 (by exact rfl) (by exact rfl) ?_; intro b17); (refine T.appendP (lv := lv) Wanted.none rfl rfl rfl g2 (Src.cells (m := 1) (ys := encGp g16) (.own zq2) rfl rfl) (one_encGp _) (by omega) zq1 ?_; intro v18 lv18 hv18 _; obtain ⟨ad18, cap18, rfl⟩ := hv18.val); refine yq0 ?_; refine yq35 ?_; refine sm ?_; refine yq77 ?_
    rw [show (k : Int) - 1 = ((k - 1 : Nat) : Int) by omega]
    refine T.nextP ⟨k - 1, t16, _, lv18, L ++ [g16]⟩ ⟨ht16, RowV.snoc hv18, fun x hx => ?_, by simp, by dsimp only; rw [List.length_append, List.length_singleton]; omega⟩ (by dsimp only; omega) zq8 (by repeat (first | exact Sel.refl _ | exact Sel.nil | (refine Sel.cons zq1 ?_) | (refine Sel.app zq1 ?_) | exact Sel.one zq1)) rfl
    rcases List.mem_append.1 hx with hx | hx
    · exact g3 x hx
    · rw [List.mem_singleton] at hx; subst hx; exact hg16
  · refine yq158 ?_; refine so ?_; refine yq16 ?_; refine yq140 ?_; refine T.freezeP (lv := lv) g2 zq1 ?_
    intro H3 hle3 hs3
    exact T.retW (Lv.finW [Tp.blk bt t2] zq4 (RV.tmp rfl rfl) ⟨hle3, L, t2, hs3, by omega, g3, g1.mono hle3, rfl⟩)
end Go.Proofs.YthacphfjchpoaaaGreatDoor
namespace Go.Proofs.YthacphfjchpoaaaGreatDoor
open Go.RowKit

theorem wideG {c : Cp} (h : CpG c) : CpW c := ⟨fun t ht => by rw [h.tk t ht, h.att]; rfl, fun t ht => chain_mem h.tx ht⟩
theorem chain_uniq : ∀ {l : List Rg} {p q z : Int} {x y : Rg}, chain p l q → x ∈ l → y ∈ l → inT z x = true → inT z y = true → x = y
  | [], _, _, _, _, _, _, h, _, _, _ => by cases h
  | t :: l, p, q, z, x, y, ⟨h1, h2, h3⟩, hx, hy, ix, iy => by
    simp only [inT, Bool.and_eq_true, decide_eq_true_eq] at ix iy
    rcases List.mem_cons.1 hx with rfl | hx1
    · rcases List.mem_cons.1 hy with rfl | hy1
      · rfl
      · have := chain_mem h3 hy1; omega
    · rcases List.mem_cons.1 hy with rfl | hy1
      · have := chain_mem h3 hx1; omega
      · exact chain_uniq h3 hx1 hy1 (z := z) (by simp [inT]; omega) (by simp [inT]; omega)
theorem fits_okM {c : Cp} {m : Mt} (hg : CpG c) (h : fits c.tx 1 m) (lb : List ByteArray) (hl : lb.length = 1) : okM c lb m = true := by
  obtain ⟨⟨x, hx, h1, h2, h3⟩, h4, h5⟩ := h
  have hin : inT m.b x = true := by simp [inT]; omega
  have hfd : c.tx.find? (inT m.b) = some x := by
    cases hf : c.tx.find? (inT m.b) with
    | none => exact absurd hin (by have := List.find?_eq_none.1 hf x hx; simpa using this)
    | some t => rw [chain_uniq hg.tx (List.mem_of_find?_eq_some hf) hx (List.find?_some hf) hin]
  have hb : fitB c m x = true := by
    unfold fitB
    rw [decide_eq_true h2, decide_eq_true h3]
    rw [Bool.and_true, Bool.true_and, List.all_eq_true]
    intro p hp
    have := h5 p hp
    unfold labOk
    rcases this with rfl | ⟨y, hy, k1, k2⟩
    · simp; omega
    · have := chain_mem hg.tx hy
      simp; omega
  unfold okM fitO
  rw [hfd]
  dsimp only
  rw [if_pos hb, decide_eq_true (by omega)]
  rfl
theorem grp_made {c : Cp} (hg : CpG c) {gs : List Gp} (h : ∀ g ∈ gs, GpG g) (hl : 1 ≤ gs.length ∧ gs.length ≤ 4) : grpErr c [bs [120]] gs = 0 := by
  have n1 : ¬ gs.any badG = true := fun ha => by
    obtain ⟨g, hm, hb⟩ := List.any_eq_true.1 ha
    unfold badG at hb
    rw [(h g hm).s] at hb
    cases hb
  have n2 : ¬ gs.any (nameG c) = true := fun ha => by
    obtain ⟨g, hm, hb⟩ := List.any_eq_true.1 ha
    unfold nameG at hb
    simp only [Bool.and_eq_true, decide_eq_true_eq] at hb
    have hn := (h g hm).n hb.1
    have hb2 := hb.2
    rw [hg.att] at hb2
    have h0 : attI attrs3 g.nm = 0 ∨ attI attrs3 g.nm = 1 ∨ attI attrs3 g.nm = 2 := by
      rcases hn with e | e | e
      · rw [e]; exact .inl rfl
      · rw [e]; exact .inr (.inl rfl)
      · rw [e]; exact .inr (.inr rfl)
    omega
  have n3 : ¬ gs.any (lostG [bs [120]]) = true := fun ha => by
    obtain ⟨g, hm, hb⟩ := List.any_eq_true.1 ha
    unfold lostG at hb
    simp only [Bool.and_eq_true, decide_eq_true_eq] at hb
    rw [(h g hm).l hb.2.1] at hb
    exact absurd hb.2.2 (by decide)
  unfold grpErr
  rw [if_neg (by omega), if_neg n1, if_neg n2, if_neg n3]
theorem count_made {c : Cp} (hg : CpG c) {gs : List Gp} (h : ∀ g ∈ gs, GpG g) (hl : 1 ≤ gs.length ∧ gs.length ≤ 4) {ms : List Mt} (hm : ∀ m ∈ ms, fits c.tx 1 m) : countE c [bs [120]] ms gs = 0 := by
  unfold countE
  rw [grp_made hg h hl, if_neg (by simp), if_pos (List.all_eq_true.2 fun m hx => fits_okM hg (hm m hx) _ rfl)]
/-! ### the example -/
def knT (b : Nat) (x : UInt8) : Tk := ⟨.slice (some ⟨b, 0, none⟩) 1 1, [bs [x]]⟩
def knC (b5 b6 b7 b8 b9 b11 : Nat) : Cp :=
  ⟨.slice (some ⟨b5, 0, none⟩) 1 1, [(bs [119, 111, 114, 100], false)], .slice (some ⟨b9, 0, none⟩) 3 3, [knT b6 97, knT b7 98, knT b8 97],
   .slice (some ⟨b11, 0, none⟩) 1 1, [⟨bs [116], 0, 3, .slice none 0 0, []⟩], .slice none 0 0, [], .slice none 0 0, [], .slice none 0 0, [], .slice none 0 0, []⟩
theorem knTok {H : Hp} {b : Nat} {x : UInt8} (h : H b = some (.cells #[.string (bs [x])] 9 (0, 0))) : TkOk H (knT b x) := by
  refine ⟨⟨rfl, .inr ⟨b, 0, 1, _, _, _, rfl, h, rfl, Nat.le_refl 1⟩⟩, (by show 1 ≤ 1000; omega), fun y hy => ?_⟩
  simp only [knT, List.mem_singleton] at hy
  subst hy
  show (bs [x]).size ≤ 4000
  simp [bs, ByteArray.size]
def knM : List Mt := [⟨0, 1, .slice none 0 0, []⟩, ⟨2, 3, .slice none 0 0, []⟩]
def knG : List Gp := [⟨1, 1, 0, bs [], bs [119, 111, 114, 100], bs []⟩]
theorem knE (b5 b6 b7 b8 b9 b11 : Nat) : countE (knC b5 b6 b7 b8 b9 b11) [] knM knG = 0 := by rfl
theorem knR (b5 b6 b7 b8 b9 b11 : Nat) : countR (knC b5 b6 b7 b8 b9 b11) [] knM knG = [([bs [97]], 2)] := by rfl
end Go.Proofs.YthacphfjchpoaaaGreatDoor
namespace Go.Proofs.YthacphfjchpoaaaGreatDoor
open Go.RowKit

theorem knMs {H : Hp} {b : Nat} (h : H b = some (.cells #[.int .i64 0, .int .i64 1, .slice none 0 0, .int .i64 2, .int .i64 3, .slice none 0 0] 44 (0, 0))) : MtL H (.slice (some ⟨b, 0, none⟩) 2 2) knM :=
  ⟨⟨rfl, .inr ⟨b, 0, 2, _, _, _, rfl, h, rfl, Nat.le_refl 2⟩⟩, fun m hm => by
    simp only [knM, List.mem_cons, List.not_mem_nil, or_false] at hm
    rcases hm with rfl | rfl <;> exact ⟨SlR.empty, Nat.zero_le _⟩⟩
theorem knGs {H : Hp} {b : Nat} (h : H b = some (.cells #[.int .i64 1, .int .i64 1, .int .i64 0, .string (bs []), .string (bs [119, 111, 114, 100]), .string (bs [])] 57 (0, 0))) : GpL H (.slice (some ⟨b, 0, none⟩) 1 1) knG :=
  ⟨rfl, .inr ⟨b, 0, 1, _, _, _, rfl, h, rfl, Nat.le_refl 1⟩⟩
theorem knRs {H : Hp} {b c : Nat} (h : H b = some (.cells #[.slice (some ⟨c, 0, none⟩) 1 1, .int .i64 2] 52 (0, 0))) (hc : H c = some (.cells #[.string (bs [97])] 9 (0, 0))) : RwL H (.slice (some ⟨b, 0, none⟩) 1 1) [⟨.slice (some ⟨c, 0, none⟩) 1 1, [bs [97]], 2⟩] :=
  ⟨⟨rfl, .inr ⟨b, 0, 1, _, _, _, rfl, h, rfl, Nat.le_refl 1⟩⟩, fun r hr => by
    rw [List.mem_singleton] at hr; subst hr
    have := joinL_bound [bs [97]] (by intro k hk; rw [List.mem_singleton] at hk; subst hk; decide)
    exact ⟨⟨rfl, .inr ⟨c, 0, 1, _, _, _, rfl, hc, rfl, Nat.le_refl 1⟩⟩, (by show 1 ≤ 1000; omega), Nat.le_trans this (by decide)⟩⟩
set_option maxHeartbeats 4000000 in
theorem known35_fn (H : Hp) (hT : PowT H) : Fn Tryz.prog 20 #[] H (fun u _ => u = .bool true) := by
  refine Fn.of_T (vs := []) Tryz.func20 rfl rfl fun w => ?_; refine zs3 ?_; refine yq23 ?_; refine sv (PV.build rfl zq12) ?_; (refine T.buildSlice Wanted.none rfl rfl zq11 (by exact rfl) (by exact rfl) ?_; intro b5); (refine T.buildSlice Wanted.none rfl rfl zq11 (by exact rfl) (by exact rfl) ?_; intro b6); (refine T.buildSlice Wanted.none rfl rfl zq11 (by exact rfl) (by exact rfl) ?_; intro b7); (refine T.buildSlice Wanted.none rfl rfl zq11 (by exact rfl) (by exact rfl) ?_; intro b8); (refine T.buildSlice Wanted.none rfl rfl zq11 (by exact rfl) (by exact rfl) ?_; intro b9); refine sv (PV.build rfl zq12) ?_; (refine T.buildSlice Wanted.none rfl rfl zq11 (by exact rfl) (by exact rfl) ?_; intro b11); refine sv (PV.build rfl zq12) ?_; refine sy fun b1 => ?_; refine yq13 ?_; refine T.freezeB (b := b5) zq1 ?_
  intro H1 l1 k5
  refine T.freezeB (b := b6) zq1 ?_
  intro H2 l2 k6
  refine T.freezeB (b := b7) zq1 ?_
  intro H3 l3 k7
  refine T.freezeB (b := b8) zq1 ?_
  intro H4 l4 k8
  refine T.freezeB (b := b9) zq1 ?_
  intro H5 l5 k9
  refine T.freezeB (b := b11) zq1 ?_
  intro H6 l6 k11
  have k9 := l6 _ _ k9
  have l56 := l5.trans l6
  have k8 := l56 _ _ k8
  have l46 := l4.trans l56
  have k7 := l46 _ _ k7
  have l36 := l3.trans l46
  have k6 := l36 _ _ k6
  have k5 := (l2.trans l36) _ _ k5
  have hT6 := hT.mono (l1.trans (l2.trans l36))
  have hc : CpL H6 (knC b5 b6 b7 b8 b9 b11) := by
    have hnil : ∀ r ∈ [(⟨bs [116], 0, 3, .slice none 0 0, []⟩ : Rg)], RgOk H6 r := fun r hr => by
      rw [List.mem_singleton] at hr; subst hr; exact ⟨SlR.empty, Nat.zero_le _, by intro p hp; cases hp⟩
    refine ⟨⟨rfl, .inr ⟨b5, 0, 1, _, _, _, rfl, k5, rfl, Nat.le_refl 1⟩⟩, ⟨rfl, .inr ⟨b9, 0, 3, _, _, _, rfl, k9, rfl, Nat.le_refl 3⟩⟩, ⟨⟨rfl, .inr ⟨b11, 0, 1, _, _, _, rfl, k11, rfl, Nat.le_refl 1⟩⟩, hnil⟩, ⟨SlR.empty, by intro r hr; cases hr⟩, SlR.empty, SlR.empty, SlR.empty, fun t ht => ?_, ?_, ?_, ?_, ?_, ?_, ?_, ?_⟩
    · simp only [knC, List.mem_cons, List.not_mem_nil, or_false] at ht
      rcases ht with rfl | rfl | rfl
      · exact knTok k6
      · exact knTok k7
      · exact knTok k8
    all_goals (simp only [knC, List.length_cons, List.length_nil]; omega)
  have hw : CpW (knC b5 b6 b7 b8 b9 b11) := by
    refine ⟨fun t ht => ?_, fun t ht => ?_⟩
    · simp only [knC, List.mem_cons, List.not_mem_nil, or_false] at ht
      rcases ht with rfl | rfl | rfl <;> rfl
    · simp only [knC, List.mem_singleton] at ht
      subst ht
      exact ⟨by decide, by decide, by show (3 : Int) ≤ 3; omega⟩
  have hcn := fun (H' : Hp) (h : H6.le H') (vm vg : Value) (hm : MtL H' vm knM) (hg : GpL H' vg knG) => count_in (knC b5 b6 b7 b8 b9 b11) [] (.slice none 0 0) knM vm knG vg H' (hT6.mono h) (hc.mono h) hw SlR.empty (Nat.zero_le _) hm (Nat.le_of_ble_eq_true rfl) (fun m hm => by
    simp only [knM, List.mem_cons, List.not_mem_nil, or_false] at hm
    rcases hm with rfl | rfl <;> exact Nat.zero_le _) hg (Nat.le_of_ble_eq_true rfl)
  simp only [knE, knR] at hcn
  have hmc := fun (H' : Hp) => matchCompare_fn ⟨0, 0, .slice none 0 0, []⟩ ⟨0, 0, .slice none 0 0, []⟩ H' ⟨SlR.empty, Nat.zero_le _⟩ ⟨SlR.empty, Nat.zero_le _⟩
  unfold cpV at hcn
  unfold mtV at hmc
  change ∀ H', Fn _ _ _ _ (fun u _ => u = .int .i64 0) at hmc
  refine yq52 ?_; refine sv (PV.build rfl zq12) ?_; refine sv (PV.build rfl zq12) ?_; (refine T.buildSlice Wanted.none rfl rfl zq11 (by exact rfl) (by exact rfl) ?_; intro b17); refine sv (PV.build rfl zq12) ?_; (refine T.buildSlice Wanted.none rfl rfl zq11 (by exact rfl) (by exact rfl) ?_; intro b19); (refine T.freezeB (b := b17) zq1 ?_; intro H7 l7 k17; refine T.freezeB (b := b19) zq1 ?_; intro H8 l8 k19; refine T.call Wanted.none rfl rfl (hcn H8 (l7.trans l8) _ _ (knMs (l8 _ _ k17)) (knGs k19)) ?_; rintro _ H9 l9 ⟨v, A, rfl, hA, q1, q2⟩; obtain ⟨aA, cA, rfl⟩ := hA.1.len); refine yq146 ?_; refine yq55 ?_
  have hAe := q1 trivial
  have hAl : A.length ≤ 1000000 := by have := congrArg List.length hAe; rw [List.length_map] at this; simp at this; omega
  refine yq2 ?_; refine yq105 ?_; refine gm ?_; (refine T.buildSlice (Wanted.guard rfl rfl rfl) rfl rfl zq11 (by exact rfl) (by exact rfl) ?_; intro b27); refine gv (PV.build rfl zq12) ?_; (refine T.buildSlice (Wanted.guard rfl rfl rfl) rfl rfl zq11 (by exact rfl) (by exact rfl) ?_; intro b29); (refine T.freezeB (b := b27) zq1 ?_; intro H10 l10 k27; refine T.freezeB (b := b29) zq1 ?_; intro H11 l11 k29; have hsm := same35_fn A _ _ _ H11 ((hA.mono l10).mono l11) (knRs k29 (l11 _ _ k27)) hAl; rw [hAe] at hsm; change Fn _ _ _ _ (fun u _ => u = .bool true) at hsm; refine T.callX (Wanted.guard rfl rfl rfl) rfl rfl hsm ?_; rintro _ rfl); refine yq141 ?_; refine gv (PV.build rfl zq12) ?_; refine gv (PV.build rfl zq12) ?_; (refine T.callX (Wanted.guard rfl rfl rfl) rfl rfl (hmc _) ?_; rintro _ rfl); refine gv (PV.eql rfl rfl) ?_; refine sT ?_; refine yq0 ?_
  exact T.retF (Lv.fin (RV.tmp rfl rfl) rfl)
end Go.Proofs.YthacphfjchpoaaaGreatDoor
namespace Go.Proofs.YthacphfjchpoaaaGreatDoor
open Go.RowKit

def I64 (l : List Int) : Prop := ∀ x ∈ l, -9223372036854775808 ≤ x ∧ x ≤ 9223372036854775807
structure IHG where
  i : Nat
  H : Hp
theorem texts_eq (K : List ByteArray) (hK : K.length ≤ 100000) (H : Hp) (u v : Value) (hu : StL H u K) (hv : StL H v K) : Fn Tryz.prog 16 #[u, v] H (fun x _ => x = .bool true) := by
  have := texts_same K K u v H hu hv hK
  rwa [decide_eq_true rfl] at this
theorem same_eq {l m : List Rw} (h : l.map rwK = m.map rwK) (hl : l.length ≤ 1000000) (H : Hp) (u v : Value) (hu : RwL H u l) (hv : RwL H v m) : Fn Tryz.prog 19 #[u, v] H (fun x _ => x = .bool true) := by
  have := same35_fn l m u v H hu hv hl
  rwa [decide_eq_true h] at this
theorem countR_len (c : Cp) (lb : List ByteArray) (ms : List Mt) (gs : List Gp) : (countR c lb ms gs).length ≤ ms.length := by
  have h1 := (sumR_grp (ms.map (rowK c lb gs))).length_eq
  have h2 := grpR_len (ms.map (rowK c lb gs))
  rw [List.length_map] at h2
  unfold countR
  omega
end Go.Proofs.YthacphfjchpoaaaGreatDoor
