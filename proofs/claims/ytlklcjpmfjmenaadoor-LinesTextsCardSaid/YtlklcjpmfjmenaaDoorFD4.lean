/- lines: the statement Texts. -/
import Derived.Test.YtlklcjpmfjmenaaDoorFD3
import Derived.Test.YtlklcjpmfjmenaaDoorFKG
namespace Go.Proofs.YtlklcjpmfjmenaaDoor
open Go.RowKit

theorem PV.fieldV {P : Program} {e : Env} {l : List (Nat × Obj)} {H : Hp} {dst : Option Tmp} {ty : TypeId} {pos : String} {after : Array Edge} {gd : Option (Nat × Bool)} {s : TypeId} {f : Nat} {x : Operand} {v : Value} (r : Value) (hx : evE e x = some v) (h : ∀ w, (Instr.field s v f).run P w = .ok r w) :
    PV P e l H ⟨dst, .field s x f, ty, pos, after, gd⟩ r := PV.mk fun X D a w ha hw => by
  simp [execOp, ha.eval hx, h w]
structure TxV where
  v : Value
  lv : List (Nat × Obj)
structure TxH where
  i : Nat
  H : Hp
set_option maxHeartbeats 8000000 in
theorem texts_law (l n : List Int) (v u : Value) (seed : Int) (H : Hp) (hT : PowT H) (hv : InL H v l) (hl : l.length ≤ 9223372036854775807) (hr : ∀ x ∈ l, -9223372036854775808 ≤ x ∧ x ≤ 9223372036854775807) (hv2 : InL H u n) (hl2 : n.length ≤ 9223372036854775807) (hr2 : ∀ x ∈ n, -9223372036854775808 ≤ x ∧ x ≤ 9223372036854775807) (hs : -9223372036854775808 ≤ seed ∧ seed ≤ 9223372036854775807) :
    Fn Tryd.prog 3 #[v, u, .int .i64 seed] H (fun u _ => u = .bool true) := by
  refine Fn.of_T (vs := [v, u, .int .i64 seed]) Tryd.func3 rfl rfl fun w => ?_
  refine sq ?_
  refine sr ?_
  refine sa ?_
  refine so ?_
  refine sq ?_
  refine sr ?_
  refine sm ?_
  refine T.callW (l0 := []) Wanted.none rfl rfl (new_fn l v H hv hl hr) zq1 ?_
  rintro _ _ _ _ ⟨rfl, bt, t, rfl, ht0, rfl⟩
  refine sa ?_
  refine so ?_
  refine sq ?_
  refine sr ?_
  refine sm ?_
  refine T.callW Wanted.none rfl rfl (document_fn bt t _ 7 H ht0 (by omega)) zq1 ?_
  rintro _ H1 _ hle1 ⟨t1, c, x, rfl, ht1, hc, hg, hb, hcx, hxn, rfl⟩
  have hw := hg.wide
  have hmt := matches_fn bt t1 c 0 5 H1 ht1 hc hg (hb.mono (by omega)) (by omega) (by omega)
  rw [show ((0 : Nat) : Int) = 0 from rfl] at hmt
  obtain ⟨at1, ct, hvt⟩ := hc.t.len
  obtain ⟨ax, cx, hvx⟩ := hc.x.1.len
  have h1 := cp_one hc
  have htk := hc.t
  have htx := hc.x
  have hlt := hc.lt
  have hlx := hc.lx
  unfold cpV at hmt ⊢
  rw [hvt, hvx] at hmt h1 ⊢
  rw [hvt] at htk
  rw [hvx] at htx
  refine sy fun b8 => ?_
  (refine T.storeA Wanted.none rfl rfl h1 (by exact rfl) zq14 zq13 ?_)
  refine so ?_
  refine sq ?_
  refine sr ?_
  refine sm ?_
  refine sv (PV.loadAll rfl zq0 (by exact rfl)) ?_
  (refine T.callW Wanted.none rfl rfl hmt zq1 ?_; rintro _ H2 _ hle2 ⟨t3, L, ht3, hL, hLn, hfit, rfl⟩; obtain ⟨aL, cL, rfl⟩ := hL.1.len)
  refine sa ?_
  refine so ?_
  have hLl : L.length ≤ 5 := by omega
  have htk2 := htk.mono hle2
  refine sq ?_
  refine sr ?_
  refine sm ?_
  (refine T.callW (l0 := []) Wanted.none rfl rfl (new_fn n u H2 (hv2.mono (hle1.trans hle2)) hl2 hr2) zq1 ?_; rintro _ _ _ _ ⟨rfl, bt2, t4, rfl, ht4, rfl⟩)
  refine sa ?_
  refine so ?_
  refine sq ?_
  refine sr ?_
  refine sv (PV.loadAll rfl zq0 (by exact rfl)) ?_
  refine sy fun b11 => ?_
  (refine T.storeA Wanted.none rfl rfl h1 (by exact rfl) zq14 zq13 ?_)
  refine so ?_
  refine sq ?_
  refine sr ?_
  (refine T.buildSlice Wanted.none rfl rfl zq11 (by exact rfl) (by exact rfl) ?_; intro b28)
  refine sf ?_
  refine sl ?_
  (refine T.appendP (lv := []) Wanted.none rfl rfl rfl (Vec.empty 30 1 _) htk2.src (RowL.one fun x hx => one_encTk (hc.tO x hx)) (by omega) zq1 ?_; intro v31 lv31 hv31 _; obtain ⟨ad31, cap31, rfl⟩ := hv31.val)
  refine sm ?_
  (refine T.callW Wanted.none rfl rfl (document_fn bt2 t4 _ 4 H2 ht4 (by omega)) zq1 ?_; rintro _ H3 _ hle3 ⟨t5, cu, xu, rfl, ht5, hcu, hgu, hbu, hxu, hnu, rfl⟩; have hltu := hcu.lt; unfold cpV)
  refine sv (PV.fieldV cu.vt rfl (fun w => by kernel_rfl)) ?_
  (refine T.appendP (lv := lv31) Wanted.none rfl rfl rfl hv31 hcu.t.src (RowL.one fun x hx => one_encTk (hcu.tO x hx)) (by omega) zq1 ?_; intro v35 lv35 hv35 _; obtain ⟨ad35, cap35, rfl⟩ := hv35.val)
  refine sf ?_
  refine T.store1 Wanted.none rfl rfl rfl zq14 zq13 ?_
  refine so ?_
  refine T.freezeP (lv := lv35) hv35 zq1 ?_
  intro H4 hle4 hT4
  have h34 := hle3.trans hle4
  have htx4 := htx.mono (hle2.trans h34)
  have hone9 : ∀ v ∈ [Value.string ⟨#[116, 57]⟩, .int .i64 (c.tk.length : Int), .int .i64 ((0 + c.tk.length + cu.tk.length : Nat) : Int), .slice none 0 0], v.oneCell' = true := by
    intro v hv
    simp only [List.mem_cons, List.not_mem_nil, or_false] at hv
    rcases hv with rfl | rfl | rfl | rfl <;> rfl
  (repeat refine sq ?_)
  refine T.cut1P (γ := TxV) (fun g => Vec 38 4 g.v g.lv (0 + c.tx.length + 1) ([] ++ c.tx.flatMap encRg ++ [Value.string ⟨#[116, 57]⟩, .int .i64 (c.tk.length : Int), .int .i64 ((0 + c.tk.length + cu.tk.length : Nat) : Int), .slice none 0 0]))
    (fun g => [(8, .pointer (some ⟨b8, 0, none⟩)), (11, .pointer (some ⟨b11, 0, none⟩)), (9, .slice aL L.length cL), (2, .int .i64 seed)])
    (fun g => g.lv ++ [(b11, .cells #[c.va, .slice ad35 (0 + c.tk.length + cu.tk.length) cap35, g.v, c.vr, c.vn, c.vh, c.vs] 32 (0, 0)), (b8, .cells #[c.va, .slice at1 c.tk.length ct, .slice ax c.tx.length cx, c.vr, c.vn, c.vh, c.vs] 32 (0, 0))]) ?_ fun K => ?_
  rotate_left
  · refine T.regionS [(b11, .cells #[c.va, .slice ad35 (0 + c.tk.length + cu.tk.length) cap35, .slice ax c.tx.length cx, c.vr, c.vn, c.vh, c.vs] 32 (0, 0)), (b8, .cells #[c.va, .slice at1 c.tk.length ct, .slice ax c.tx.length cx, c.vr, c.vn, c.vh, c.vs] 32 (0, 0))] 14 (by kernel_rfl) ?_
    refine TS.take 1 rfl (by kernel_rfl) (by kernel_rfl) (by kernel_rfl) (by kernel_rfl) (PV.fieldAddr rfl) Wanted.none rfl rfl ?_
    refine TS.take 2 rfl (by kernel_rfl) (by kernel_rfl) (by kernel_rfl) (by kernel_rfl) (PV.load1 rfl zq0 rfl) Wanted.none rfl rfl ?_
    refine TS.take 4 rfl (by kernel_rfl) (by kernel_rfl) (by kernel_rfl) (by kernel_rfl) (PV.fieldAddr rfl) Wanted.none rfl rfl ?_
    refine TS.take 5 rfl (by kernel_rfl) (by kernel_rfl) (by kernel_rfl) (by kernel_rfl) (PV.load1 rfl zq0 rfl) Wanted.none rfl rfl ?_
    refine TS.take 6 rfl (by kernel_rfl) (by kernel_rfl) (by kernel_rfl) (by kernel_rfl) (PV.lenSl rfl) Wanted.none rfl rfl ?_
    refine TS.take 7 rfl (by kernel_rfl) (by kernel_rfl) (by kernel_rfl) (by kernel_rfl) (PV.fieldAddr rfl) Wanted.none rfl rfl ?_
    refine TS.take 8 rfl (by kernel_rfl) (by kernel_rfl) (by kernel_rfl) (by kernel_rfl) (PV.load1 rfl zq0 rfl) Wanted.none rfl rfl ?_
    refine TS.take 9 rfl (by kernel_rfl) (by kernel_rfl) (by kernel_rfl) (by kernel_rfl) (PV.lenSl rfl) Wanted.none rfl rfl ?_
    refine TS.take 10 rfl (by kernel_rfl) (by kernel_rfl) (by kernel_rfl) (by kernel_rfl) (PV.build rfl zq12) Wanted.none rfl rfl ?_
    refine TS.ways [0, 11] (by kernel_rfl) rfl zq18 ⟨⟨_, rfl, ?_⟩, ⟨_, rfl, ?_⟩, trivial⟩
    · (refine T.buildSlice Wanted.none rfl rfl zq11 (by exact rfl) (by exact rfl) ?_; intro b37)
      refine so ?_
      refine TS.back ?_
      refine TS.ways [3, 11] (by kernel_rfl) rfl zq18 ⟨⟨_, rfl, ?_⟩, ⟨_, rfl, ?_⟩, trivial⟩
      · (refine T.appendP (lv := []) Wanted.none rfl rfl rfl (Vec.empty 38 4 _) htx4.1.src (RowL.one fun x hx => one_encRg (htx4.2 x hx)) (by omega) zq1 ?_; intro v40 lv40 hv40 _; obtain ⟨ad40, cap40, rfl⟩ := hv40.val)
        refine so ?_
        refine TS.back ?_
        refine TS.ways [11] (by kernel_rfl) rfl zq18 ⟨⟨_, rfl, ?_⟩, trivial⟩
        (refine T.buildSlice Wanted.none rfl rfl zq11 (by exact rfl) (by exact rfl) ?_; intro b48)
        refine so ?_
        refine TS.back ?_
        refine TS.ways [12] (by kernel_rfl) rfl zq18 ⟨⟨_, rfl, ?_⟩, trivial⟩
        (refine T.appendP (lv := lv40) Wanted.none rfl rfl rfl hv40 (Src.cells (m := 1) (ys := [Value.string ⟨#[116, 57]⟩, .int .i64 (c.tk.length : Int), .int .i64 ((0 + c.tk.length + cu.tk.length : Nat) : Int), .slice none 0 0]) (.own zq2) rfl rfl) hone9 (by omega) zq1 ?_; intro v49 lv49 hv49 _; obtain ⟨ad49, cap49, rfl⟩ := hv49.val)
        refine so ?_
        refine TS.back ?_
        refine TS.take 13 rfl (by kernel_rfl) (by kernel_rfl) (by kernel_rfl) (by kernel_rfl) (PV.fieldAddr rfl) Wanted.none rfl rfl ?_
        refine TS.ways [14] (by kernel_rfl) rfl zq18 ⟨⟨_, rfl, ?_⟩, trivial⟩
        refine T.store1 Wanted.none rfl rfl rfl zq14 zq13 ?_
        refine so ?_
        refine TS.back ?_
        refine TS.done (by kernel_rfl) (by kernel_rfl) ?_
        (exact K ⟨_, lv49⟩ _ _ hv49 zq8 (by repeat (first | exact Sel.refl _ | exact Sel.nil | (refine Sel.cons zq1 ?_) | (refine Sel.app zq1 ?_) | exact Sel.one zq1)))
      · (refine T.buildSlice Wanted.none rfl rfl zq11 (by exact rfl) (by exact rfl) ?_; intro b48)
        refine so ?_
        refine TS.back ?_
        refine TS.ways [3] (by kernel_rfl) rfl zq18 ⟨⟨_, rfl, ?_⟩, trivial⟩
        (refine T.appendP (lv := []) Wanted.none rfl rfl rfl (Vec.empty 38 4 _) htx4.1.src (RowL.one fun x hx => one_encRg (htx4.2 x hx)) (by omega) zq1 ?_; intro v40 lv40 hv40 _; obtain ⟨ad40, cap40, rfl⟩ := hv40.val)
        refine so ?_
        refine TS.back ?_
        refine TS.ways [12] (by kernel_rfl) rfl zq18 ⟨⟨_, rfl, ?_⟩, trivial⟩
        (refine T.appendP (lv := lv40) Wanted.none rfl rfl rfl hv40 (Src.cells (m := 1) (ys := [Value.string ⟨#[116, 57]⟩, .int .i64 (c.tk.length : Int), .int .i64 ((0 + c.tk.length + cu.tk.length : Nat) : Int), .slice none 0 0]) (.own zq2) rfl rfl) hone9 (by omega) zq1 ?_; intro v49 lv49 hv49 _; obtain ⟨ad49, cap49, rfl⟩ := hv49.val)
        refine so ?_
        refine TS.back ?_
        refine TS.take 13 rfl (by kernel_rfl) (by kernel_rfl) (by kernel_rfl) (by kernel_rfl) (PV.fieldAddr rfl) Wanted.none rfl rfl ?_
        refine TS.ways [14] (by kernel_rfl) rfl zq18 ⟨⟨_, rfl, ?_⟩, trivial⟩
        refine T.store1 Wanted.none rfl rfl rfl zq14 zq13 ?_
        refine so ?_
        refine TS.back ?_
        refine TS.done (by kernel_rfl) (by kernel_rfl) ?_
        (exact K ⟨_, lv49⟩ _ _ hv49 zq8 (by repeat (first | exact Sel.refl _ | exact Sel.nil | (refine Sel.cons zq1 ?_) | (refine Sel.app zq1 ?_) | exact Sel.one zq1)))
    · (refine T.buildSlice Wanted.none rfl rfl zq11 (by exact rfl) (by exact rfl) ?_; intro b48)
      refine so ?_
      refine TS.back ?_
      refine TS.ways [0] (by kernel_rfl) rfl zq18 ⟨⟨_, rfl, ?_⟩, trivial⟩
      (refine T.buildSlice Wanted.none rfl rfl zq11 (by exact rfl) (by exact rfl) ?_; intro b37)
      refine so ?_
      refine TS.back ?_
      refine TS.ways [3] (by kernel_rfl) rfl zq18 ⟨⟨_, rfl, ?_⟩, trivial⟩
      (refine T.appendP (lv := []) Wanted.none rfl rfl rfl (Vec.empty 38 4 _) htx4.1.src (RowL.one fun x hx => one_encRg (htx4.2 x hx)) (by omega) zq1 ?_; intro v40 lv40 hv40 _; obtain ⟨ad40, cap40, rfl⟩ := hv40.val)
      refine so ?_
      refine TS.back ?_
      refine TS.ways [12] (by kernel_rfl) rfl zq18 ⟨⟨_, rfl, ?_⟩, trivial⟩
      (refine T.appendP (lv := lv40) Wanted.none rfl rfl rfl hv40 (Src.cells (m := 1) (ys := [Value.string ⟨#[116, 57]⟩, .int .i64 (c.tk.length : Int), .int .i64 ((0 + c.tk.length + cu.tk.length : Nat) : Int), .slice none 0 0]) (.own zq2) rfl rfl) hone9 (by omega) zq1 ?_; intro v49 lv49 hv49 _; obtain ⟨ad49, cap49, rfl⟩ := hv49.val)
      refine so ?_
      refine TS.back ?_
      refine TS.take 13 rfl (by kernel_rfl) (by kernel_rfl) (by kernel_rfl) (by kernel_rfl) (PV.fieldAddr rfl) Wanted.none rfl rfl ?_
      refine TS.ways [14] (by kernel_rfl) rfl zq18 ⟨⟨_, rfl, ?_⟩, trivial⟩
      refine T.store1 Wanted.none rfl rfl rfl zq14 zq13 ?_
      refine so ?_
      refine TS.back ?_
      refine TS.done (by kernel_rfl) (by kernel_rfl) ?_
      (exact K ⟨_, lv49⟩ _ _ hv49 zq8 (by repeat (first | exact Sel.refl _ | exact Sel.nil | (refine Sel.cons zq1 ?_) | (refine Sel.app zq1 ?_) | exact Sel.one zq1)))
  rintro ⟨v9, lv9⟩ h9
  dsimp only at h9 ⊢
  obtain ⟨adx, capx, rfl⟩ := h9.val
  refine T.freezeP (lv := lv9) h9 zq1 ?_
  intro H5 hle5 hX5
  refine sq ?_
  refine sr ?_
  refine sf ?_
  refine T.store1 Wanted.none rfl rfl rfl zq14 zq13 ?_
  refine sf ?_
  refine T.store1 Wanted.none rfl rfl rfl zq14 zq13 ?_
  refine sf ?_
  refine T.store1 Wanted.none rfl rfl rfl zq14 zq13 ?_
  refine sf ?_
  refine T.store1 Wanted.none rfl rfl rfl zq14 zq13 ?_
  refine so ?_
  refine sq ?_
  refine sq ?_
  refine sr ?_
  refine sm ?_
  refine sv (PV.lenSl rfl) ?_
  refine sm ?_
  refine so ?_
  refine T.block ?_
  have h25 := h34.trans hle5
  have h15 := hle2.trans h25
  have hT5 := hT.mono (hle1.trans h15)
  have hatt : c.att.length = 3 := by rw [hg.att]; rfl
  have k8 := hb.tk
  have u8 := hbu.tk
  have x1 := hb.tx
  obtain ⟨x9, hx9⟩ : ∃ z : Rg, z = ⟨⟨#[116, 57]⟩, (c.tk.length : Int), ((0 + c.tk.length + cu.tk.length : Nat) : Int), .slice none 0 0, []⟩ := ⟨_, rfl⟩
  have hX : SlR H5 4 (.slice adx (0 + c.tx.length + 1) capx) (c.tx ++ [x9]).length ((c.tx ++ [x9]).flatMap encRg) := by
    have e1 : (c.tx ++ [x9]).length = 0 + c.tx.length + 1 := by rw [List.length_append, List.length_singleton]; omega
    rw [e1, List.flatMap_append, hx9]
    rw [List.nil_append] at hX5
    exact hX5
  have hTk : SlR H5 1 (.slice ad35 (0 + c.tk.length + cu.tk.length) cap35) (c.tk ++ cu.tk).length ((c.tk ++ cu.tk).flatMap encTk) := by
    have e1 : (c.tk ++ cu.tk).length = 0 + c.tk.length + cu.tk.length := by rw [List.length_append]; omega
    have := hT4.mono hle5
    rw [List.nil_append] at this
    rw [e1, List.flatMap_append]
    exact this
  have hc5 := hc.mono h15
  have hcu5 := hcu.mono (hle4.trans hle5)
  have hc' : CpL H5 ⟨c.va, c.att, .slice at1 c.tk.length ct, c.tk, .slice ax c.tx.length cx, c.tx, c.vr, c.rg, c.vn, c.nd, .slice none 0 0, [], .slice none 0 0, []⟩ :=
    ⟨hc5.a, htk.mono h15, htx.mono h15, hc5.r, hc5.n, SlR.empty, SlR.empty, hc5.tO, hc5.la, hc5.lt, hc5.lx, hc5.lr, hc5.ln, Nat.zero_le _, Nat.zero_le _⟩
  have hd : CpL H5 ⟨c.va, c.att, .slice ad35 (0 + c.tk.length + cu.tk.length) cap35, c.tk ++ cu.tk, .slice adx (0 + c.tx.length + 1) capx, c.tx ++ [x9], c.vr, c.rg, c.vn, c.nd, .slice none 0 0, [], .slice none 0 0, []⟩ := by
    refine ⟨hc5.a, hTk, ⟨hX, fun r hr => ?_⟩, hc5.r, hc5.n, SlR.empty, SlR.empty, fun t ht => ?_, hc5.la, by dsimp only; rw [List.length_append]; omega, by dsimp only; rw [List.length_append, List.length_singleton]; omega, hc5.lr, hc5.ln, Nat.zero_le _, Nat.zero_le _⟩
    · rcases List.mem_append.1 hr with hr | hr
      · exact hc5.x.2 r hr
      · rw [List.mem_singleton] at hr; subst hr hx9; exact ⟨SlR.empty, by simp⟩
    · rcases List.mem_append.1 ht with ht | ht
      · exact hc5.tO t ht
      · exact hcu5.tO t ht
  have hw' : CpW ⟨c.va, c.att, .slice at1 c.tk.length ct, c.tk, .slice ax c.tx.length cx, c.tx, c.vr, c.rg, c.vn, c.nd, .slice none 0 0, [], .slice none 0 0, []⟩ := ⟨hw.w, hw.tx⟩
  have hwd : CpW ⟨c.va, c.att, .slice ad35 (0 + c.tk.length + cu.tk.length) cap35, c.tk ++ cu.tk, .slice adx (0 + c.tx.length + 1) capx, c.tx ++ [x9], c.vr, c.rg, c.vn, c.nd, .slice none 0 0, [], .slice none 0 0, []⟩ := by
    have u1 := hgu.tk1
    refine ⟨fun t ht => ?_, fun t ht => ?_⟩
    · dsimp only at ht ⊢
      rw [hatt]
      rcases List.mem_append.1 ht with ht | ht
      · exact hg.tk t ht
      · exact hgu.tk t ht
    · dsimp only at ht ⊢
      rw [List.length_append]
      rcases List.mem_append.1 ht with ht | ht
      · have := hw.tx t ht; omega
      · rw [List.mem_singleton] at ht; subst ht hx9; dsimp only; omega
  have hq' : ∀ t ∈ c.tx, t.ty.size ≤ 1000000 := by
    intro t ht
    rw [hcx, List.mem_singleton] at ht
    subst ht
    rw [hxn]; decide
  have hqd : ∀ t ∈ c.tx ++ [x9], t.ty.size ≤ 1000000 := by
    intro t ht
    rcases List.mem_append.1 ht with ht | ht
    · exact hq' t ht
    · rw [List.mem_singleton] at ht; subst ht hx9; show (⟨#[116, 57]⟩ : ByteArray).size ≤ 1000000; decide
  have hmore : More ⟨c.va, c.att, .slice at1 c.tk.length ct, c.tk, .slice ax c.tx.length cx, c.tx, c.vr, c.rg, c.vn, c.nd, .slice none 0 0, [], .slice none 0 0, []⟩ ⟨c.va, c.att, .slice ad35 (0 + c.tk.length + cu.tk.length) cap35, c.tk ++ cu.tk, .slice adx (0 + c.tx.length + 1) capx, c.tx ++ [x9], c.vr, c.rg, c.vn, c.nd, .slice none 0 0, [], .slice none 0 0, []⟩ := ⟨rfl, ⟨_, rfl⟩, ⟨_, rfl⟩⟩
  obtain ⟨c', hcc⟩ : ∃ z : Cp, z = ⟨c.va, c.att, .slice at1 c.tk.length ct, c.tk, .slice ax c.tx.length cx, c.tx, c.vr, c.rg, c.vn, c.nd, .slice none 0 0, [], .slice none 0 0, []⟩ := ⟨_, rfl⟩
  obtain ⟨d, hdd⟩ : ∃ z : Cp, z = ⟨c.va, c.att, .slice ad35 (0 + c.tk.length + cu.tk.length) cap35, c.tk ++ cu.tk, .slice adx (0 + c.tx.length + 1) capx, c.tx ++ [x9], c.vr, c.rg, c.vn, c.nd, .slice none 0 0, [], .slice none 0 0, []⟩ := ⟨_, rfl⟩
  rw [← hcc] at hc' hw' hmore
  rw [← hdd] at hd hwd hmore
  have hq'' : ∀ t ∈ c'.tx, t.ty.size ≤ 1000000 := by rw [hcc]; exact hq'
  have hqd' : ∀ t ∈ d.tx, t.ty.size ≤ 1000000 := by rw [hdd]; exact hqd
  have hV' : cpV c' = .agg #[c.va, .slice at1 c.tk.length ct, .slice ax c.tx.length cx, c.vr, c.vn, .slice none 0 0, .slice none 0 0] := by rw [hcc]; rfl
  have hVd : cpV d = .agg #[c.va, .slice ad35 (0 + c.tk.length + cu.tk.length) cap35, .slice adx (0 + c.tx.length + 1) capx, c.vr, c.vn, .slice none 0 0, .slice none 0 0] := by rw [hdd]; rfl
  have hfit' : ∀ m ∈ L, ∃ t, fitO c' m = some t := fun m hm => by
    obtain ⟨t, ht⟩ := fits_fitO hg (hfit m hm)
    exact ⟨t, by rw [hcc]; exact ht⟩
  have hatt' : c'.att.length = 3 := by rw [hcc]; exact hatt
  clear hcc hdd
  refine T.loopK [(56, Value.int IntKind.i64 (↑L.length : Int)), (55, Value.slice aL L.length cL), (8, Value.pointer (some { block := b8, off := 0 })), (11, Value.pointer (some { block := b11, off := 0 })), (2, Value.int IntKind.i64 seed)] zq8 (γ := TxH) (fun g => g.i ≤ L.length ∧ H5.le g.H) (fun g => [(57, .int .i64 (g.i : Int))]) (fun g => [(b11, .cells #[c.va, .slice ad35 (0 + c.tk.length + cu.tk.length) cap35, .slice adx (0 + c.tx.length + 1) capx, c.vr, c.vn, .slice none 0 0, .slice none 0 0] 32 (0, 0)), (b8, .cells #[c.va, .slice at1 c.tk.length ct, .slice ax c.tx.length cx, c.vr, c.vn, .slice none 0 0, .slice none 0 0] 32 (0, 0))]) (fun g => g.H) (fun g => L.length - g.i) ⟨0, H5⟩ ⟨by simp, Hp.le.refl _⟩ zq8 (by repeat (first | exact Sel.refl _ | exact Sel.nil | (refine Sel.cons zq1 ?_) | (refine Sel.app zq1 ?_) | exact Sel.one zq1)) rfl ?_
  rintro ⟨i, H6⟩ ⟨g1, g2⟩
  dsimp only at g1 g2 ⊢
  by_cases hi : i < L.length
  · obtain ⟨bx, off, m, rfl, hix, hsub⟩ := RowL.get encM_len (hL.1.mono (h25.trans g2)) hi
    have hmm := List.mem_of_getElem? hix
    have hlab := (hL.2 m hmm).mono (h25.trans g2)
    obtain ⟨al, cl, hmv⟩ := hlab.1.len
    unfold encM at hsub
    rw [hmv] at hsub
    have hls : m.ls.length ≤ 1000 := by have := (hfit m hmm).2.1; omega
    obtain ⟨tf, htf⟩ := hfit' m hmm
    have hc6 := hc'.mono g2
    have hd6 := hd.mono g2
    have a1 := make_in c' m 0 3 9 H6 hc6 hw' hlab hls
    have a2 := fun H' (h : H6.le H') => make_in d m 0 3 9 H' (hd6.mono h) hwd (hlab.mono h) hls
    have a3 := fun H' (h : H6.le H') => hash_fn c' m seed H' (hc6.mono h) hw' (hlab.mono h) hls (hT5.mono (g2.trans h)) hs hq''
    have a4 := fun H' (h : H6.le H') => hash_fn d m seed H' (hd6.mono h) hwd (hlab.mono h) hls (hT5.mono (g2.trans h)) hs hqd'
    have b1 := mkO_B hc6.lt hw' m 0 3 9
    have o1 := mkO_ok (l := 3) (r := 9) htf (a := 0) (by omega) (by omega) (by omega)
    rw [mkO_more hmore hw' htf] at a2
    rw [hashO_more hmore htf] at a4
    generalize mkO c' m 0 3 9 = p at a1 a2 b1 o1
    generalize hashO c' m seed = hh at a3 a4
    obtain ⟨p, p2⟩ := p
    dsimp only at a1 a2 b1 o1
    subst o1
    rw [hV'] at a1 a3
    rw [hVd] at a2 a4
    unfold mtV at a1 a2 a3 a4
    simp only [hmv] at a1 a2 a3 a4
    have d1 : decide (hh ≠ hh) = false := by simp
    refine sq ?_
    refine sr ?_
    refine sv (PV.lss rfl rfl) ?_
    refine so ?_
    refine sq ?_
    refine sc rfl (by omega) ?_
    refine T.skip ?_
    refine sq ?_
    refine T.block ?_
    refine sq ?_
    refine sr ?_
    refine sv (PV.indexAddr rfl rfl (by omega)) ?_
    refine sv (PV.loadSubAll rfl (by assumption) (by exact rfl)) ?_
    refine sy fun b13 => ?_
    refine T.storeA Wanted.none rfl rfl zq8 (by exact rfl) zq14 zq13 ?_
    refine so ?_
    refine sq ?_
    refine sr ?_
    refine sv (PV.loadAll rfl zq0 (by exact rfl)) ?_
    refine sv (PV.loadAll rfl zq0 (by exact rfl)) ?_
    (refine T.call Wanted.none rfl rfl (a1) ?_; rintro _ H64 h64 ⟨_, rfl, u1, u2, u3, rfl, e1, e2, e3⟩; obtain ⟨s1, z1, rfl⟩ := e1.len; obtain ⟨s2, z2, rfl⟩ := e2.len; obtain ⟨s3, z3, rfl⟩ := e3.len)
    refine sm ?_
    refine sv (PV.extract rfl rfl) ?_
    refine sv (PV.extract rfl rfl) ?_
    refine sy fun b14 => ?_
    refine T.storeA Wanted.none rfl rfl zq8 (by exact rfl) zq14 zq13 ?_
    refine sa ?_
    refine so ?_
    refine sq ?_
    refine sr ?_
    refine sv (PV.loadAll rfl zq0 (by exact rfl)) ?_
    refine sv (PV.loadAll rfl zq0 (by exact rfl)) ?_
    (refine T.call Wanted.none rfl rfl (a2 _ h64) ?_; rintro _ H70 h70 ⟨_, rfl, u4, u5, u6, rfl, e4, e5, e6⟩; obtain ⟨s4, z4, rfl⟩ := e4.len; obtain ⟨s5, z5, rfl⟩ := e5.len; obtain ⟨s6, z6, rfl⟩ := e6.len; have h67 := h64.trans h70)
    refine sm ?_
    refine sv (PV.extract rfl rfl) ?_
    refine sv (PV.extract rfl rfl) ?_
    refine sy fun b16 => ?_
    refine T.storeA Wanted.none rfl rfl zq8 (by exact rfl) zq14 zq13 ?_
    refine sa ?_
    refine so ?_
    have tx := texts_same p.m p.m (.slice s2 p.m.length z2) (.slice s5 p.m.length z5) H70 (e2.mono h70) e5 b1.2.1
    rw [decide_eq_true rfl] at tx
    (repeat refine sq ?_)
    refine T.regionO [(b16, .cells #[.string p.tx, .int .i64 p.off, .slice s4 p.l.length z4, .slice s5 p.m.length z5, .slice s6 p.r.length z6] 42 (0, 0)), (b14, .cells #[.string p.tx, .int .i64 p.off, .slice s1 p.l.length z1, .slice s2 p.m.length z2, .slice s3 p.r.length z3] 42 (0, 0)), (b13, .cells #[.int .i64 m.b, .int .i64 m.e, .slice al m.ls.length cl] 40 (0, 0)), (b11, .cells #[c.va, .slice ad35 (0 + c.tk.length + cu.tk.length) cap35, .slice adx (0 + c.tx.length + 1) capx, c.vr, c.vn, .slice none 0 0, .slice none 0 0] 32 (0, 0)), (b8, .cells #[c.va, .slice at1 c.tk.length ct, .slice ax c.tx.length cx, c.vr, c.vn, .slice none 0 0, .slice none 0 0] 32 (0, 0))] (by kernel_rfl) ?_
    refine TO.take 0 rfl (by kernel_rfl) (by kernel_rfl) (by kernel_rfl) (PV.move rfl) Wanted.none rfl rfl ?_
    refine TO.take 1 rfl (by kernel_rfl) (by kernel_rfl) (by kernel_rfl) (PV.neq rfl rfl) Wanted.none rfl rfl ?_
    refine TO.take 2 rfl (by kernel_rfl) (by kernel_rfl) (by kernel_rfl) (PV.move rfl) Wanted.none rfl rfl ?_
    refine TO.take 3 rfl (by kernel_rfl) (by kernel_rfl) (by kernel_rfl) (PV.move rfl) (Wanted.guard rfl rfl rfl) rfl rfl ?_
    refine TO.take 4 rfl (by kernel_rfl) (by kernel_rfl) (by kernel_rfl) (PV.neq rfl rfl) (Wanted.guard rfl rfl rfl) rfl rfl ?_
    refine TO.take 5 rfl (by kernel_rfl) (by kernel_rfl) (by kernel_rfl) (PV.pickF rfl rfl rfl) Wanted.none rfl rfl ?_
    refine TO.take 6 rfl (by kernel_rfl) (by kernel_rfl) (by kernel_rfl) (PV.move rfl) Wanted.none rfl rfl ?_
    refine TO.take 7 rfl (by kernel_rfl) (by kernel_rfl) (by kernel_rfl) (PV.loadAll rfl zq0 (by exact rfl)) (Wanted.guard rfl rfl rfl) rfl rfl ?_
    refine TO.take 8 rfl (by kernel_rfl) (by kernel_rfl) (by kernel_rfl) (PV.loadAll rfl zq0 (by exact rfl)) (Wanted.guard rfl rfl rfl) rfl rfl ?_
    refine TO.step 9 rfl (by kernel_rfl) zq4 zq17 ?_
    (refine T.callX (Wanted.guard rfl rfl rfl) rfl rfl (same34 p _ _ _ ⟨_, _, _, rfl, e1.mono h70, e2.mono h70, e3.mono h70⟩ ⟨_, _, _, rfl, e4, e5, e6⟩ b1) ?_; rintro _ rfl)
    refine so ?_
    refine TO.back ?_
    refine TO.take 10 rfl (by kernel_rfl) (by kernel_rfl) (by kernel_rfl) (PV.not rfl) (Wanted.guard rfl rfl rfl) rfl rfl ?_
    refine TO.take 11 rfl (by kernel_rfl) (by kernel_rfl) (by kernel_rfl) (PV.pickF rfl rfl rfl) Wanted.none rfl rfl ?_
    refine TO.take 12 rfl (by kernel_rfl) (by kernel_rfl) (by kernel_rfl) (PV.move rfl) Wanted.none rfl rfl ?_
    refine TO.take 13 rfl (by kernel_rfl) (by kernel_rfl) (by kernel_rfl) (PV.loadAll rfl zq0 (by exact rfl)) (Wanted.guard rfl rfl rfl) rfl rfl ?_
    refine TO.take 14 rfl (by kernel_rfl) (by kernel_rfl) (by kernel_rfl) (PV.loadAll rfl zq0 (by exact rfl)) (Wanted.guard rfl rfl rfl) rfl rfl ?_
    refine TO.take 15 rfl (by kernel_rfl) (by kernel_rfl) (by kernel_rfl) (PV.move rfl) (Wanted.guard rfl rfl rfl) rfl rfl ?_
    refine TO.take 17 rfl (by kernel_rfl) (by kernel_rfl) (by kernel_rfl) (PV.loadAll rfl zq0 (by exact rfl)) (Wanted.guard rfl rfl rfl) rfl rfl ?_
    refine TO.take 18 rfl (by kernel_rfl) (by kernel_rfl) (by kernel_rfl) (PV.loadAll rfl zq0 (by exact rfl)) (Wanted.guard rfl rfl rfl) rfl rfl ?_
    refine TO.take 19 rfl (by kernel_rfl) (by kernel_rfl) (by kernel_rfl) (PV.move rfl) (Wanted.guard rfl rfl rfl) rfl rfl ?_
    refine TO.step 16 rfl (by kernel_rfl) zq4 zq17 ?_
    (refine T.callX (Wanted.guard rfl rfl rfl) rfl rfl (a3 _ h67) ?_; rintro _ rfl)
    refine so ?_
    refine TO.back ?_
    refine TO.step 20 rfl (by kernel_rfl) zq4 zq17 ?_
    (refine T.callX (Wanted.guard rfl rfl rfl) rfl rfl (a4 _ h67) ?_; rintro _ rfl)
    refine so ?_
    refine TO.back ?_
    refine TO.take 21 rfl (by kernel_rfl) (by kernel_rfl) (by kernel_rfl) (PV.neq rfl rfl) (Wanted.guard rfl rfl rfl) rfl rfl ?_
    refine TO.take 22 rfl (by kernel_rfl) (by kernel_rfl) (by kernel_rfl) (PV.pickF rfl rfl rfl) Wanted.none rfl rfl ?_
    refine TO.take 23 rfl (by kernel_rfl) (by kernel_rfl) (by kernel_rfl) (PV.move rfl) Wanted.none rfl rfl ?_
    refine TO.take 24 rfl (by kernel_rfl) (by kernel_rfl) (by kernel_rfl) (PV.fieldAddr rfl) (Wanted.guard rfl rfl (by assumption)) rfl rfl ?_
    refine TO.take 25 rfl (by kernel_rfl) (by kernel_rfl) (by kernel_rfl) (PV.load1 rfl zq0 rfl) (Wanted.guard rfl rfl (by assumption)) rfl rfl ?_
    refine TO.take 26 rfl (by kernel_rfl) (by kernel_rfl) (by kernel_rfl) (PV.fieldAddr rfl) (Wanted.guard rfl rfl (by assumption)) rfl rfl ?_
    refine TO.take 27 rfl (by kernel_rfl) (by kernel_rfl) (by kernel_rfl) (PV.load1 rfl zq0 rfl) (Wanted.guard rfl rfl (by assumption)) rfl rfl ?_
    refine TO.step 28 rfl (by kernel_rfl) zq4 zq17 ?_
    refine T.callV (Wanted.guard rfl rfl (by assumption)) rfl rfl (tx) ?_
    refine so ?_
    refine TO.back ?_
    refine TO.take 29 rfl (by kernel_rfl) (by kernel_rfl) (by kernel_rfl) (PV.not rfl) (Wanted.guard rfl rfl (by assumption)) rfl rfl ?_
    refine TO.take 30 rfl (by kernel_rfl) (by kernel_rfl) (by kernel_rfl) (PV.pickF rfl (by assumption) rfl) Wanted.none rfl rfl ?_
    refine TO.done (by kernel_rfl) zq4 zq17 ?_
    refine T.condF rfl rfl ?_
    refine T.skip ?_
    refine T.blkEnd ?_
    refine sr ?_
    refine sv (PV.add rfl rfl (by omega)) ?_
    refine sm ?_
    refine so ?_
    exact T.nextP ⟨i + 1, _⟩ ⟨by dsimp only; omega, g2.trans h67⟩ (by dsimp only; omega) zq8 (by repeat (first | exact Sel.refl _ | exact Sel.nil | (refine Sel.cons zq1 ?_) | (refine Sel.app zq1 ?_) | exact Sel.one zq1)) rfl
  · have kn := known_fn H6
    refine sq ?_
    refine sr ?_
    refine sv (PV.lss rfl rfl) ?_
    refine so ?_
    refine sq ?_
    refine sd rfl (by omega) ?_
    refine T.exit rfl ?_
    refine sq ?_
    refine sr ?_
    refine T.callV Wanted.none rfl rfl (kn) ?_
    refine sa ?_
    refine so ?_
    exact T.retF (Lv.fin (RV.tmp rfl rfl) rfl)
end Go.Proofs.YtlklcjpmfjmenaaDoor
