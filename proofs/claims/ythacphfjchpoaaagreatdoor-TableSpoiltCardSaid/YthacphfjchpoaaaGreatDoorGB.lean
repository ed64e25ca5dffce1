/- regions: Apply.
   made corpora: filters, matches, spans. -/
import Derived.Test.YthacphfjchpoaaaGreatDoorG9
namespace Go.Proofs.YthacphfjchpoaaaGreatDoor
open Go.RowKit

end Go.Proofs.YthacphfjchpoaaaGreatDoor
namespace Go.Proofs.YthacphfjchpoaaaGreatDoor
open Go.RowKit

/-- a match within a text, with labels that are tokens of it, or none -/
def fits (l : List Rg) (labels : Nat) (m : Mt) : Prop := (∃ x ∈ l, x.b ≤ m.b ∧ m.b < m.e ∧ m.e ≤ x.e) ∧ m.ls.length = labels ∧ ∀ p ∈ m.ls, p = -1 ∨ ∃ x ∈ l, x.b ≤ p ∧ p < x.e
structure MaG where
  k : Nat
  t : Tp
  H : Hp
  v : Value
  lv : List (Nat × Obj)
  L : List Mt
structure TxG where
  b : Nat
  t : Tp
  x : Rg
  am : Option Addr
  cm : Nat
structure LaG where
  i : Nat
  t : Tp
  v : Value
  lv : List (Nat × Obj)
  l : List Int
set_option maxHeartbeats 4000000 in
theorem matches_fn (bt : Nat) (t : Tp) (c : Cp) (labels : Nat) (most : Int) (H : Hp) (ht : t.ok H) (hc : CpL H c) (hg : CpG c) (hb : CpB 3 c) (hl : labels ≤ 3) (hm : 0 ≤ most ∧ most ≤ 20) :
    FnW Tryz.prog 11 #[.pointer (some ⟨bt, 0, none⟩), cpV c, .int .i64 (labels : Int), .int .i64 most] H [Tp.blk bt t]
      (fun u H' l' => ∃ t' L, t'.ok H' ∧ MtL H' u L ∧ (L.length : Int) ≤ most ∧ (∀ m ∈ L, fits c.tx labels m) ∧ l' = [Tp.blk bt t']) := by
  obtain ⟨aa, ca, at1, ct, ax, cx, ar, cr, an, cn, ah, ch, as1, cs, hcv, ha, ht, hx, hr, hn, hh, hs⟩ := hc.open; rw [hcv]; have hla := hc.la; have hlt := hc.lt; have hlx := hc.lx; have hlr := hc.lr; have hln := hc.ln; have hlh := hc.lh; have hls := hc.ls
  obtain ⟨k1, k2, k3, k4, k5, k6⟩ := hb
  refine FnW.of_T (vs := [.pointer (some ⟨bt, 0, none⟩), .agg #[.slice aa c.att.length ca, .slice at1 c.tk.length ct, .slice ax c.tx.length cx, .slice ar c.rg.length cr, .slice an c.nd.length cn, .slice ah c.hd.length ch, .slice as1 c.rl.length cs], .int .i64 (labels : Int), .int .i64 most]) Tryz.func11 rfl rfl fun w => ?_
  have htx1 : 1 ≤ c.tx.length := by
    have h1 := hg.tx
    have h2 := hg.tk1
    cases hcx : c.tx with
    | nil => rw [hcx] at h1; have h1 : (0 : Int) = c.tk.length := h1; omega
    | cons a l => simp
  obtain ⟨bx, offx, _, rfl, _, _⟩ := RowL.get encRg_len hx.1 (i := 0) (by omega)
  refine zs3 ?_; (refine T.box Wanted.none rfl rfl zq15 ?_; intro b5); refine yq23 ?_; refine yq127 ?_; refine yq185 ?_; (refine T.callW Wanted.none rfl rfl (next_fn _ _ _ _ ?_ ?_) zq1 ?_; (focus assumption); (focus omega); rintro _ _ _ _ ⟨rfl, n18, t18, rfl, hn18, ht18, rfl⟩); refine yq0 ?_; refine T.block ?_
  obtain ⟨k0, hk0⟩ : ∃ k : Nat, (k : Int) = n18 := ⟨n18.toNat, by omega⟩
  rw [← hk0]
  refine T.loopK [(5, Value.pointer (some { block := b5, off := 0 })), (0, Value.pointer (some { block := bt, off := 0 })), (2, Value.int IntKind.i64 (↑labels : Int))] zq8 (γ := MaG) (fun g => H.le g.H ∧ g.t.ok g.H ∧ RowV 44 encM 3 g.v g.lv g.L ∧ (∀ m ∈ g.L, LabOk g.H m) ∧ (∀ m ∈ g.L, fits c.tx labels m) ∧ (g.L.length : Int) + g.k ≤ most) (fun g => [(10, .int .i64 (g.k : Int)), (9, g.v)]) (fun g => [Tp.blk bt g.t, (b5, .cells #[.slice aa c.att.length ca, .slice at1 c.tk.length ct, .slice (some ⟨bx, offx, none⟩) c.tx.length cx, .slice ar c.rg.length cr, .slice an c.nd.length cn, .slice ah c.hd.length ch, .slice as1 c.rl.length cs] 32 (0, 0))] ++ g.lv) (fun g => g.H) (fun g => g.k) ⟨k0, t18, H, .slice none 0 0, [], []⟩ ⟨Hp.le.refl _, ht18, Vec.nil _ _, by simp, by simp, by simp; omega⟩ zq8 (by repeat (first | exact Sel.refl _ | exact Sel.nil | (refine Sel.cons zq1 ?_) | (refine Sel.app zq1 ?_) | exact Sel.one zq1)) rfl ?_
  rintro ⟨k, t2, H2, v, lv, L⟩ ⟨g1, g2, g3, g4, g5, g6⟩
  dsimp only at g1 g2 g3 g4 g5 g6 ⊢
  obtain ⟨adv, capv, rfl⟩ := g3.val
  by_cases hk : 0 < k
  · have hpick : ∀ n : Int, 0 ≤ n ∧ n < c.tx.length → ∃ x, x ∈ c.tx ∧ ∃ am cm, SubC H2 bx (offx + n.toNat * 4) [.string x.ty, .int .i64 x.b, .int .i64 x.e, .slice am x.ks.length cm] := by
      intro n hn
      obtain ⟨_, _, x, e, hix, hsub⟩ := RowL.get encRg_len (hx.1.mono g1) (i := n.toNat) (by omega)
      injection e with e
      injection e with e1 e2
      subst e1 e2
      obtain ⟨am, cm, hmv⟩ := (hx.2 x (List.mem_of_getElem? hix)).1.len
      unfold encRg at hsub
      rw [hmv] at hsub
      exact ⟨x, List.mem_of_getElem? hix, am, cm, hsub⟩
    refine yq158 ?_; refine so ?_; refine yq33 ?_
    (repeat refine sq ?_)
    refine T.cutK [(10, Value.int IntKind.i64 (↑k : Int)), (9, Value.slice adv L.length capv), (5, Value.pointer (some { block := b5, off := 0 })), (0, Value.pointer (some { block := bt, off := 0 })), (2, Value.int IntKind.i64 (↑labels : Int))] (γ := TxG) (fun g => g.t.ok H2 ∧ g.x ∈ c.tx) (fun g => [(11, .pointer (some ⟨g.b, 0, none⟩))]) (fun g => [(g.b, .cells #[.string g.x.ty, .int .i64 g.x.b, .int .i64 g.x.e, .slice g.am g.x.ks.length g.cm] 71 (0, 0)), Tp.blk bt g.t, (b5, .cells #[.slice aa c.att.length ca, .slice at1 c.tk.length ct, .slice (some ⟨bx, offx, none⟩) c.tx.length cx, .slice ar c.rg.length cr, .slice an c.nd.length cn, .slice ah c.hd.length ch, .slice as1 c.rl.length cs] 32 (0, 0))] ++ lv) ?_ fun K => ?_
    rotate_left
    · refine T.regionS [(b5, .cells #[.slice aa c.att.length ca, .slice at1 c.tk.length ct, .slice (some ⟨bx, offx, none⟩) c.tx.length cx, .slice ar c.rg.length cr, .slice an c.nd.length cn, .slice ah c.hd.length ch, .slice as1 c.rl.length cs] 32 (0, 0))] 10 (by kernel_rfl) ?_; refine yq43 ?_; refine TS.take 2 rfl (by kernel_rfl) (by kernel_rfl) (by kernel_rfl) (by kernel_rfl) (PV.move rfl) Wanted.none rfl rfl ?_; refine yq45 ?_; refine TS.take 5 rfl (by kernel_rfl) (by kernel_rfl) (by kernel_rfl) (by kernel_rfl) (PV.lenSl rfl) Wanted.none rfl rfl ?_
      refine TS.ways [6, 9] (by kernel_rfl) rfl zq18 ⟨⟨_, rfl, ?_⟩, ⟨_, rfl, ?_⟩, trivial⟩
      · (refine T.callW Wanted.none rfl rfl (next_fn _ _ _ _ ?_ ?_) zq1 ?_; (focus assumption); (focus omega); rintro _ _ _ _ ⟨rfl, n29, t29, rfl, hn29, ht29, rfl⟩; obtain ⟨x29, hx29, am29, cm29, hs29⟩ := hpick n29 hn29); refine yq24 ?_; refine TS.take 7 rfl (by kernel_rfl) (by kernel_rfl) (by kernel_rfl) (by kernel_rfl) (PV.indexAddr rfl rfl (by omega)) Wanted.none rfl rfl ?_; refine TS.take 8 rfl (by kernel_rfl) (by kernel_rfl) (by kernel_rfl) (by kernel_rfl) (PV.loadSubAll rfl (by assumption) (by exact rfl)) Wanted.none rfl rfl ?_
        refine TS.ways [9] (by kernel_rfl) rfl zq18 ⟨⟨_, rfl, ?_⟩, trivial⟩
        refine sy fun b11 => ?_; refine yq24 ?_
        refine TS.ways [10] (by kernel_rfl) rfl zq18 ⟨⟨_, rfl, ?_⟩, trivial⟩
        refine yq13 ?_; refine yq109 ?_; (exact K ⟨b11, t29, x29, am29, cm29⟩ _ _ ⟨ht29, hx29⟩ zq8 (by repeat (first | exact Sel.refl _ | exact Sel.nil | (refine Sel.cons zq1 ?_) | (refine Sel.app zq1 ?_) | exact Sel.one zq1)))
      · refine sy fun b11 => ?_; refine yq24 ?_
        refine TS.ways [6] (by kernel_rfl) rfl zq18 ⟨⟨_, rfl, ?_⟩, trivial⟩
        (refine T.callW Wanted.none rfl rfl (next_fn _ _ _ _ ?_ ?_) zq1 ?_; (focus assumption); (focus omega); rintro _ _ _ _ ⟨rfl, n29, t29, rfl, hn29, ht29, rfl⟩; obtain ⟨x29, hx29, am29, cm29, hs29⟩ := hpick n29 hn29); refine yq24 ?_; refine TS.take 7 rfl (by kernel_rfl) (by kernel_rfl) (by kernel_rfl) (by kernel_rfl) (PV.indexAddr rfl rfl (by omega)) Wanted.none rfl rfl ?_; refine TS.take 8 rfl (by kernel_rfl) (by kernel_rfl) (by kernel_rfl) (by kernel_rfl) (PV.loadSubAll rfl (by assumption) (by exact rfl)) Wanted.none rfl rfl ?_
        refine TS.ways [10] (by kernel_rfl) rfl zq18 ⟨⟨_, rfl, ?_⟩, trivial⟩
        refine yq13 ?_; refine yq109 ?_; (exact K ⟨b11, t29, x29, am29, cm29⟩ _ _ ⟨ht29, hx29⟩ zq8 (by repeat (first | exact Sel.refl _ | exact Sel.nil | (refine Sel.cons zq1 ?_) | (refine Sel.app zq1 ?_) | exact Sel.one zq1)))
    rintro ⟨b11, t3, x, am, cm⟩ ⟨ht3, hxm⟩
    dsimp only at ht3 hxm ⊢
    have hxr := chain_mem hg.tx hxm
    clear hpick
    (repeat refine sq ?_)
    refine T.regionS [(b11, .cells #[.string x.ty, .int .i64 x.b, .int .i64 x.e, .slice am x.ks.length cm] 71 (0, 0))] 10 (by kernel_rfl) ?_; refine yq43 ?_; refine TS.take 2 rfl (by kernel_rfl) (by kernel_rfl) (by kernel_rfl) (by kernel_rfl) (PV.move rfl) Wanted.none rfl rfl ?_; refine yq45 ?_; refine TS.take 5 rfl (by kernel_rfl) (by kernel_rfl) (by kernel_rfl) (by kernel_rfl) (PV.fieldAddr rfl) Wanted.none rfl rfl ?_; refine TS.take 6 rfl (by kernel_rfl) (by kernel_rfl) (by kernel_rfl) (by kernel_rfl) (PV.load1 rfl zq0 rfl) Wanted.none rfl rfl ?_; refine TS.take 7 rfl (by kernel_rfl) (by kernel_rfl) (by kernel_rfl) (by kernel_rfl) (PV.sub rfl rfl (by omega)) Wanted.none rfl rfl ?_
    refine TS.ways [8] (by kernel_rfl) rfl zq18 ⟨⟨_, rfl, ?_⟩, trivial⟩
    (refine T.callW Wanted.none rfl rfl (next_fn _ _ _ _ ?_ ?_) zq1 ?_; (focus assumption); (focus omega); rintro _ _ _ _ ⟨rfl, n40, t40, rfl, hn40, ht40, rfl⟩); refine yq24 ?_; refine TS.take 9 rfl (by kernel_rfl) (by kernel_rfl) (by kernel_rfl) (by kernel_rfl) (PV.add rfl rfl (by omega)) Wanted.none rfl rfl ?_
    refine TS.ways [10] (by kernel_rfl) rfl zq18 ⟨⟨_, rfl, ?_⟩, trivial⟩
    refine yq0 ?_; refine yq109 ?_
    obtain ⟨mb, hmb⟩ : ∃ z : Int, z = x.b + n40 := ⟨_, rfl⟩
    rw [← hmb]
    refine yq137 ?_; refine yq9 ?_; refine yq5 ?_; refine sm ?_; refine sv (PV.sub rfl rfl (by omega)) ?_; (refine T.callW Wanted.none rfl rfl (next_fn _ _ _ _ ?_ ?_) zq1 ?_; (focus assumption); (focus omega); rintro _ _ _ _ ⟨rfl, n50, t50, rfl, hn50, ht50, rfl⟩); refine sv (PV.add rfl rfl (by omega)) ?_; refine sv (PV.build rfl zq12) ?_; refine sy fun b13 => ?_; refine yq13 ?_
    obtain ⟨me, hme⟩ : ∃ z : Int, z = mb + 1 + n50 := ⟨_, rfl⟩
    rw [← hme]
    refine sq ?_; refine yq25 ?_; refine T.block ?_; refine T.loopK [(13, Value.pointer (some { block := b13, off := 0 })), (11, Value.pointer (some { block := b11, off := 0 })), (10, Value.int IntKind.i64 (↑k : Int)), (9, Value.slice adv L.length capv), (5, Value.pointer (some { block := b5, off := 0 })), (0, Value.pointer (some { block := bt, off := 0 })), (2, Value.int IntKind.i64 (↑labels : Int))] zq8 (γ := LaG) (fun g => g.i ≤ labels ∧ g.t.ok H2 ∧ RowV 3 encI 1 g.v g.lv g.l ∧ g.l.length = g.i ∧ ∀ p ∈ g.l, p = -1 ∨ (x.b ≤ p ∧ p < x.e)) (fun g => [(14, .int .i64 (g.i : Int))]) (fun g => [(b13, .cells #[.int .i64 mb, .int .i64 me, g.v] 44 (0, 0)), (b11, .cells #[.string x.ty, .int .i64 x.b, .int .i64 x.e, .slice am x.ks.length cm] 71 (0, 0)), Tp.blk bt g.t, (b5, .cells #[.slice aa c.att.length ca, .slice at1 c.tk.length ct, .slice (some ⟨bx, offx, none⟩) c.tx.length cx, .slice ar c.rg.length cr, .slice an c.nd.length cn, .slice ah c.hd.length ch, .slice as1 c.rl.length cs] 32 (0, 0))] ++ (lv ++ g.lv)) (fun _ => H2) (fun g => labels - g.i) ⟨0, t50, .slice none 0 0, [], []⟩ ⟨by simp, ht50, Vec.nil _ _, rfl, by simp⟩ zq8 (by repeat (first | exact Sel.refl _ | exact Sel.nil | (refine Sel.cons zq1 ?_) | (refine Sel.app zq1 ?_) | exact Sel.one zq1)) rfl ?_
    rintro ⟨i, t4, v4, lv4, l4⟩ ⟨j1, j2, j3, j4, j5⟩
    dsimp only at j1 j2 j3 j4 j5 ⊢
    obtain ⟨ad4, cap4, rfl⟩ := j3.val
    by_cases hi : i < labels
    · refine yq14 ?_; refine sm ?_; refine yq3 ?_; refine yq33 ?_
      (repeat refine sq ?_)
      refine T.regionS [(b13, .cells #[.int .i64 mb, .int .i64 me, .slice ad4 l4.length cap4] 44 (0, 0)), (b11, .cells #[.string x.ty, .int .i64 x.b, .int .i64 x.e, .slice am x.ks.length cm] 71 (0, 0))] 17 (by kernel_rfl) ?_; refine yq43 ?_; refine TS.take 2 rfl (by kernel_rfl) (by kernel_rfl) (by kernel_rfl) (by kernel_rfl) (PV.fieldAddr rfl) Wanted.none rfl rfl ?_; refine TS.take 3 rfl (by kernel_rfl) (by kernel_rfl) (by kernel_rfl) (by kernel_rfl) (PV.load1 rfl zq0 rfl) Wanted.none rfl rfl ?_; refine TS.take 4 rfl (by kernel_rfl) (by kernel_rfl) (by kernel_rfl) (by kernel_rfl) (PV.move rfl) Wanted.none rfl rfl ?_; refine TS.take 5 rfl (by kernel_rfl) (by kernel_rfl) (by kernel_rfl) (by kernel_rfl) (PV.fieldAddr rfl) Wanted.none rfl rfl ?_; refine TS.take 6 rfl (by kernel_rfl) (by kernel_rfl) (by kernel_rfl) (by kernel_rfl) (PV.load1 rfl zq0 rfl) Wanted.none rfl rfl ?_; refine TS.take 7 rfl (by kernel_rfl) (by kernel_rfl) (by kernel_rfl) (by kernel_rfl) (PV.fieldAddr rfl) Wanted.none rfl rfl ?_; refine TS.take 8 rfl (by kernel_rfl) (by kernel_rfl) (by kernel_rfl) (by kernel_rfl) (PV.load1 rfl zq0 rfl) Wanted.none rfl rfl ?_; refine TS.take 9 rfl (by kernel_rfl) (by kernel_rfl) (by kernel_rfl) (by kernel_rfl) (PV.sub rfl rfl (by omega)) Wanted.none rfl rfl ?_; refine TS.take 10 rfl (by kernel_rfl) (by kernel_rfl) (by kernel_rfl) (by kernel_rfl) (PV.add rfl rfl (by omega)) Wanted.none rfl rfl ?_
      refine TS.ways [11] (by kernel_rfl) rfl zq18 ⟨⟨_, rfl, ?_⟩, trivial⟩
      (refine T.callW Wanted.none rfl rfl (next_fn _ _ _ _ ?_ ?_) zq1 ?_; (focus assumption); (focus omega); rintro _ _ _ _ ⟨rfl, n69, t69, rfl, hn69, ht69, rfl⟩); refine yq24 ?_; refine TS.take 12 rfl (by kernel_rfl) (by kernel_rfl) (by kernel_rfl) (by kernel_rfl) (PV.add rfl rfl (by omega)) Wanted.none rfl rfl ?_; refine TS.take 13 rfl (by kernel_rfl) (by kernel_rfl) (by kernel_rfl) (by kernel_rfl) (PV.sub rfl rfl (by omega)) Wanted.none rfl rfl ?_
      refine TS.ways [14] (by kernel_rfl) rfl zq18 ⟨⟨_, rfl, ?_⟩, trivial⟩
      (refine T.buildSlice Wanted.none rfl rfl zq11 (by exact rfl) (by exact rfl) ?_; intro b72); refine yq24 ?_
      refine TS.ways [15] (by kernel_rfl) rfl zq18 ⟨⟨_, rfl, ?_⟩, trivial⟩
      (refine T.appendP (lv := lv4) Wanted.none rfl rfl rfl j3 (Src.cells (m := 1) (ys := encI (x.b + n69 - 1)) (.own zq2) rfl rfl) (one_encI _) (by omega) zq1 ?_; intro v73 lv73 hv73 _; obtain ⟨ad73, cap73, rfl⟩ := hv73.val); refine yq24 ?_; refine TS.take 16 rfl (by kernel_rfl) (by kernel_rfl) (by kernel_rfl) (by kernel_rfl) (PV.fieldAddr rfl) Wanted.none rfl rfl ?_
      refine TS.ways [17] (by kernel_rfl) rfl zq18 ⟨⟨_, rfl, ?_⟩, trivial⟩
      refine yq120 ?_
      obtain ⟨bv, capv', hve⟩ := hv73.ptr (by omega)
      injection hve with e1 e2 e3
      subst e1 e3
      have hat : (l4.flatMap encI ++ encI (x.b + n69 - 1))[0 + ((i : Nat) : Int).toNat * 1]? = some (.int .i64 (x.b + n69 - 1)) := by
        have h1 : (l4.flatMap encI).length = i := by rw [flat_len encI_len, j4, Nat.mul_one]
        rw [List.getElem?_append_right (by omega), h1]
        simp [encI]
      have hset : (l4.flatMap encI ++ encI (x.b + n69 - 1)).set (0 + ((i : Nat) : Int).toNat * 1) (.int .i64 (-1)) = l4.flatMap encI ++ encI (-1) := by
        have h1 : (l4.flatMap encI).length = i := by rw [flat_len encI_len, j4, Nat.mul_one]
        rw [List.set_append_right _ _ (by omega), h1]
        simp [encI]
      by_cases hlow : x.b + n69 - 1 < x.b
      · refine sq ?_; refine yq91 ?_; refine yq11 ?_; refine TQ.pv (PV.loadVec rfl (by assumption) zq4 (by assumption)) Wanted.none rfl rfl ?_; refine yq6 ?_; refine TQ.pv (PV.lss rfl rfl) Wanted.none rfl rfl ?_; refine TQ.nil ?_; refine sc rfl (by omega) ?_; refine sr ?_; refine yq5 ?_; refine sm ?_; refine sv (PV.indexAddr rfl rfl (by omega)) ?_; (refine T.storeVecP (lv := lv73) Wanted.none rfl rfl rfl hv73 (by rw [List.length_append, flat_len encI_len, encI_len]; omega) zq1 ?_; intro lvh hvh); refine so ?_; refine yq35 ?_; refine sm ?_; refine yq63 ?_
        rw [hset] at hvh
        refine T.nextP ⟨i + 1, t69, _, lvh, l4 ++ [-1]⟩ ⟨by dsimp only; omega, ht69, RowV.snoc hvh, by dsimp only; rw [List.length_append, j4]; rfl, fun p hp => ?_⟩ (by dsimp only; omega) zq8 (by repeat (first | exact Sel.refl _ | exact Sel.nil | (refine Sel.cons zq1 ?_) | (refine Sel.app zq1 ?_) | exact Sel.one zq1)) rfl
        rcases List.mem_append.1 hp with h | h
        · exact j5 p h
        · rw [List.mem_singleton] at h; exact .inl h
      · refine sq ?_; refine yq91 ?_; refine yq11 ?_; refine TQ.pv (PV.loadVec rfl (by assumption) zq4 (by assumption)) Wanted.none rfl rfl ?_; refine yq6 ?_; refine TQ.pv (PV.lss rfl rfl) Wanted.none rfl rfl ?_; refine TQ.nil ?_; refine yq22 ?_; refine yq35 ?_; refine sm ?_; refine yq63 ?_
        refine T.nextP ⟨i + 1, t69, _, lv73, l4 ++ [x.b + n69 - 1]⟩ ⟨by dsimp only; omega, ht69, RowV.snoc hv73, by dsimp only; rw [List.length_append, j4]; rfl, fun p hp => ?_⟩ (by dsimp only; omega) zq8 (by repeat (first | exact Sel.refl _ | exact Sel.nil | (refine Sel.cons zq1 ?_) | (refine Sel.app zq1 ?_) | exact Sel.one zq1)) rfl
        rcases List.mem_append.1 hp with h | h
        · exact j5 p h
        · rw [List.mem_singleton] at h; right; omega
    · have hil : i = labels := by omega
      refine T.freezeP (lv := lv4) j3 zq1 ?_
      intro H3 hle3 hls
      have hlab : LabOk H3 ⟨mb, me, .slice ad4 l4.length cap4, l4⟩ := ⟨hls, by dsimp only; omega⟩
      refine yq14 ?_; refine sm ?_; refine yq3 ?_; refine yq16 ?_; refine yq81 ?_; refine sv (PV.loadAll rfl zq0 (by exact rfl)) ?_; (refine T.buildSlice Wanted.none rfl rfl zq11 (by exact rfl) (by exact rfl) ?_; intro b89); (refine T.appendP (lv := lv) Wanted.none rfl rfl rfl g3 (Src.cells (m := 1) (ys := encM ⟨mb, me, .slice ad4 l4.length cap4, l4⟩) (.own zq2) rfl rfl) (one_encM hlab) (by omega) zq1 ?_; intro v90 lv90 hv90 _; obtain ⟨ad90, cap90, rfl⟩ := hv90.val); refine yq0 ?_; refine yq35 ?_; refine sm ?_; refine yq77 ?_
      rw [show (k : Int) - 1 = ((k - 1 : Nat) : Int) by omega]
      refine T.nextP ⟨k - 1, t4, H3, _, lv90, L ++ [⟨mb, me, .slice ad4 l4.length cap4, l4⟩]⟩ ⟨g1.trans hle3, j2.mono hle3, MtV.snoc hv90, fun m hm => ?_, fun m hm => ?_, by dsimp only; rw [List.length_append, List.length_singleton]; omega⟩ (by dsimp only; omega) zq8 (by repeat (first | exact Sel.refl _ | exact Sel.nil | (refine Sel.cons zq1 ?_) | (refine Sel.app zq1 ?_) | exact Sel.one zq1)) rfl
      · rcases List.mem_append.1 hm with h | h
        · exact (g4 m h).mono hle3
        · rw [List.mem_singleton] at h; subst h; exact hlab
      · rcases List.mem_append.1 hm with h | h
        · exact g5 m h
        · rw [List.mem_singleton] at h; subst h
          refine ⟨⟨x, hxm, by dsimp only; omega, by dsimp only; omega, by dsimp only; omega⟩, by dsimp only; omega, fun p hp => ?_⟩
          rcases j5 p hp with h | h
          · exact .inl h
          · exact .inr ⟨x, hxm, h.1, h.2⟩
  · refine yq158 ?_; refine so ?_; refine yq16 ?_; refine yq140 ?_; refine T.freezeP (lv := lv) g3 zq1 ?_
    intro H3 hle3 hs3
    exact T.retW (Lv.finW [Tp.blk bt t2] zq4 (RV.tmp rfl rfl) ⟨t2, L, g2.mono hle3, ⟨hs3, fun m hm => (g4 m hm).mono hle3⟩, by omega, g5, rfl⟩)

end Go.Proofs.YthacphfjchpoaaaGreatDoor
