/- made corpora: Validate comes to an end: constituents.
   made corpora: Valid; what Concat calls.
   made corpora: what Concat needs: rows that are turned part by part. -/
import Derived.Test.YthacphfjchpoaaaGreatDoorG7
namespace Go.Proofs.YthacphfjchpoaaaGreatDoor
open Go.RowKit

structure DeG where
  i : Nat
  lv : List (Nat × Obj)
  l : List Int
set_option maxHeartbeats 2000000 in
theorem nodes6_fn (c : Cp) (H : Hp) (hc : CpL H c) (n : Int) (hno : nodesOk n c.nd) : Fn Tryz.prog 113 #[c.vn, cpV c] H (fun u _ => IsII u) := by
  have hwi := fun b e => within_fn c b e H hc
  have hcn := hc.n
  obtain ⟨an', cn', hve⟩ := hcn.len
  rw [hve] at hcn ⊢
  obtain ⟨aa, ca, at1, ct, ax, cx, ar, cr, an, cn, ah, ch, as1, cs, hcv, ha, ht, hx, hr, hn, hh, hs⟩ := hc.open; rw [hcv]; have hla := hc.la; have hlt := hc.lt; have hlx := hc.lx; have hlr := hc.lr; have hln := hc.ln; have hlh := hc.lh; have hls := hc.ls
  rw [hcv] at hwi
  refine Fn.of_T (vs := [.slice an' c.nd.length cn', .agg #[.slice aa c.att.length ca, .slice at1 c.tk.length ct, .slice ax c.tx.length cx, .slice ar c.rg.length cr, .slice an c.nd.length cn, .slice ah c.hd.length ch, .slice as1 c.rl.length cs]]) Tryz.func113 rfl rfl fun w => ?_; refine zs3 ?_; (refine T.box Wanted.none rfl rfl zq15 ?_; intro b3); refine yq55 ?_; refine yq176 ?_; refine yq88 ?_; refine yq2 ?_; refine sv (PV.lenSl rfl) ?_; refine T.makeSliceN (n := c.nd.length) Wanted.none rfl rfl rfl (by omega) ?_
  intro v lv hv
  obtain ⟨ad, cap, rfl⟩ := hv.val
  rw [show (List.replicate c.nd.length [Value.int .i64 0]).flatten = (List.replicate c.nd.length 0).flatMap encI by simp [List.flatMap, encI]] at hv
  refine yq0 ?_; refine yq112 ?_; refine T.loopK [(19, Value.int IntKind.i64 (↑c.nd.length : Int)), (18, Value.slice an' c.nd.length cn'), (6, Value.slice ad c.nd.length cap), (3, Value.pointer (some { block := b3, off := 0 })), (0, Value.slice an' c.nd.length cn')] zq8 (γ := DeG) (fun g => g.i ≤ c.nd.length ∧ Vec 3 1 (.slice ad c.nd.length cap) g.lv c.nd.length (g.l.flatMap encI) ∧ g.l.length = c.nd.length ∧ ∀ d ∈ g.l, 0 ≤ d ∧ d ≤ 40) (fun g => [(20, .int .i64 (g.i : Int))]) (fun g => g.lv ++ [(b3, .cells #[.slice aa c.att.length ca, .slice at1 c.tk.length ct, .slice ax c.tx.length cx, .slice ar c.rg.length cr, .slice an c.nd.length cn, .slice ah c.hd.length ch, .slice as1 c.rl.length cs] 32 (0, 0))]) (fun _ => H) (fun g => c.nd.length - g.i) ⟨0, lv, List.replicate c.nd.length 0⟩ ⟨by simp, hv, by simp, fun d hd => by rw [List.eq_of_mem_replicate hd]; omega⟩ zq8 (by repeat (first | exact Sel.refl _ | exact Sel.nil | (refine Sel.cons zq1 ?_) | (refine Sel.app zq1 ?_) | exact Sel.one zq1)) rfl ?_
  rintro ⟨i, lv, l⟩ ⟨g1, g2, g3, g4⟩
  dsimp only at g1 g2 g3 g4 ⊢
  by_cases hi : i < c.nd.length
  · obtain ⟨bx, off, x, rfl, hix, hsub⟩ := RowL.get encNd_len hcn hi
    obtain ⟨x1, x2, x3⟩ := hno i x hix
    unfold encNd at hsub
    refine yq155 ?_; refine sy fun b8 => ?_; refine sa ?_; refine yq13 ?_; refine yq17 ?_; refine yq41 ?_; (refine T.callX Wanted.none rfl rfl ((name4_fn _ _).mono (R' := fun u _ => IsB u) fun u _ h => ⟨_, h⟩) ?_; rintro _ ⟨b28, rfl⟩); refine sv (PV.not rfl) ?_; refine yq0 ?_
    refine T.cond rfl (fun hc0 => ?_) (fun hc0 => ?_)
    · refine yq2 ?_; refine yq55 ?_
      exact T.retF (Lv.fin (RV.tmp2 rfl rfl rfl) ⟨_, _, rfl⟩)
    refine yq52 ?_; refine yq148 ?_; refine T.callX Wanted.none rfl rfl (hwi _ _) ?_
    rintro _ ⟨q2, rfl⟩
    refine sv (PV.not rfl) ?_; refine yq0 ?_
    refine T.cond rfl (fun hc1 => ?_) (fun hc1 => ?_)
    · refine yq2 ?_; refine yq55 ?_
      exact T.retF (Lv.fin (RV.tmp2 rfl rfl rfl) ⟨_, _, rfl⟩)
    refine T.skip ?_; refine T.blkEnd ?_; refine yq2 ?_; refine yq77 ?_; refine yq17 ?_
    obtain ⟨cb, hcb⟩ : ∃ z, z = (b3, Obj.cells #[.slice aa c.att.length ca, .slice at1 c.tk.length ct, .slice ax c.tx.length cx, .slice ar c.rg.length cr, .slice an c.nd.length cn, .slice ah c.hd.length ch, .slice as1 c.rl.length cs] 32 (0, 0)) := ⟨_, rfl⟩
    refine T.cut2G [(7, Value.int IntKind.i64 (↑i : Int)), (8, Value.pointer (some { block := b8, off := 0 })), (20, Value.int IntKind.i64 (↑i : Int)), (19, Value.int IntKind.i64 (↑c.nd.length : Int)), (18, Value.slice (some { block := bx, off := off }) c.nd.length cn'), (6, Value.slice ad c.nd.length cap), (3, Value.pointer (some { block := b3, off := 0 })), (0, Value.slice (some { block := bx, off := off }) c.nd.length cn')] (γ := Int) (fun k => -9223372036854775808 ≤ k ∧ k ≤ 9223372036854775807) (fun k => [(9, .int .i64 k)]) (fun _ => [(b8, .cells #[.string x.lb, .int .i64 x.b, .int .i64 x.e, .int .i64 x.p] 105 (0, 0))] ++ (lv ++ [cb])) ?_ fun K => ?_
    rotate_left
    · refine T.loopK [(7, Value.int IntKind.i64 (↑i : Int)), (8, Value.pointer (some { block := b8, off := 0 })), (20, Value.int IntKind.i64 (↑i : Int)), (19, Value.int IntKind.i64 (↑c.nd.length : Int)), (18, Value.slice (some { block := bx, off := off }) c.nd.length cn'), (6, Value.slice ad c.nd.length cap), (3, Value.pointer (some { block := b3, off := 0 })), (0, Value.slice (some { block := bx, off := off }) c.nd.length cn')] zq8 (γ := Int) (fun k => -1 ≤ k ∧ k < i) (fun k => [(9, .int .i64 k)]) (fun _ => _) (fun _ => H) (fun k => (k + 1).toNat) ((i : Int) - 1) ⟨by omega, by omega⟩ zq8 (Sel.refl _) rfl ?_
      rintro k ⟨k1, k2⟩
      by_cases hk : 0 ≤ k
      · obtain ⟨_, _, y, e, hy, hsub2⟩ := RowL.get encNd_len hcn (i := k.toNat) (by omega)
        injection e with e
        injection e with e1 e2
        subst e1 e2
        obtain ⟨y1, y2, y3⟩ := hno _ y hy
        unfold encNd at hsub2
        by_cases hkp : k = x.p
        · refine yq14 ?_; refine yq59 ?_; refine T.setT (d := 44) rfl (by omega) ?_; refine yq191 ?_; refine gv (PV.neq rfl rfl) ?_; refine sT ?_; refine so ?_; refine yq16 ?_
          exact K k _ _ ⟨by omega, by omega⟩ zq8 (hcb ▸ Sel.refl _)
        · refine yq14 ?_; refine yq59 ?_; refine T.setT (d := 44) rfl (by omega) ?_; refine yq191 ?_; refine gv (PV.neq rfl rfl) ?_; refine sT ?_; refine so ?_; refine yq7 ?_; refine T.block ?_; refine yq81 ?_; refine sm ?_; refine yq75 ?_; refine sv (PV.loadSub rfl (by assumption) rfl) ?_; refine yq0 ?_; refine T.blkEnd ?_
          exact T.nextP y.p ⟨by omega, by omega⟩ (by omega) zq8 (by repeat (first | exact Sel.refl _ | exact Sel.nil | (refine Sel.cons zq1 ?_) | (refine Sel.app zq1 ?_) | exact Sel.one zq1)) rfl
      · refine yq14 ?_; refine yq59 ?_; refine T.setF (d := 44) rfl (by omega) ?_; refine yq66 ?_; refine sF ?_; refine so ?_; refine yq142 ?_
        exact K k _ _ ⟨by omega, by omega⟩ zq8 (hcb ▸ Sel.refl _)
    rintro k ⟨hk1, hk2⟩
    skip
    (repeat refine sq ?_)
    refine T.cutB [(7, Value.int IntKind.i64 (↑i : Int)), (8, Value.pointer (some { block := b8, off := 0 })), (20, Value.int IntKind.i64 (↑i : Int)), (19, Value.int IntKind.i64 (↑c.nd.length : Int)), (18, Value.slice (some { block := bx, off := off }) c.nd.length cn'), (6, Value.slice ad c.nd.length cap), (3, Value.pointer (some { block := b3, off := 0 })), (0, Value.slice (some { block := bx, off := off }) c.nd.length cn')] 61 ?_ fun K => ?_
    rotate_left
    · refine yq81 ?_; refine yq49 ?_
      refine T.splitD (d := 57) rfl (fun h0 => ?_) (fun h0 => ?_)
      · refine yq29 ?_; refine gv (PV.neq rfl rfl) ?_; refine sT ?_; refine so ?_; (exact K _ _ _ zq8 (by repeat (first | exact Sel.refl _ | exact Sel.nil | (refine Sel.cons zq1 ?_) | (refine Sel.app zq1 ?_) | exact Sel.one zq1)))
      · refine yq8 ?_; refine sp ?_; refine sF ?_; refine so ?_; (exact K _ _ _ zq8 (by repeat (first | exact Sel.refl _ | exact Sel.nil | (refine Sel.cons zq1 ?_) | (refine Sel.app zq1 ?_) | exact Sel.one zq1)))
    intro q5
    skip
    refine T.cond rfl (fun hc2 => ?_) (fun hc2 => ?_)
    · refine yq2 ?_; refine yq55 ?_
      exact T.retF (Lv.fin (RV.tmp2 rfl rfl rfl) ⟨_, _, rfl⟩)
    refine T.skip ?_; refine sq ?_; refine T.cutK [(7, Value.int IntKind.i64 (↑i : Int)), (8, Value.pointer (some { block := b8, off := 0 })), (20, Value.int IntKind.i64 (↑i : Int)), (19, Value.int IntKind.i64 (↑c.nd.length : Int)), (18, Value.slice (some { block := bx, off := off }) c.nd.length cn'), (6, Value.slice ad c.nd.length cap), (3, Value.pointer (some { block := b3, off := 0 })), (0, Value.slice (some { block := bx, off := off }) c.nd.length cn')] (γ := DeG) (fun g => Vec 3 1 (.slice ad c.nd.length cap) g.lv c.nd.length (g.l.flatMap encI) ∧ g.l.length = c.nd.length ∧ ∀ d ∈ g.l, 0 ≤ d ∧ d ≤ 40) (fun g => [(7, .int .i64 (i : Int))]) (fun g => [(b8, .cells #[.string x.lb, .int .i64 x.b, .int .i64 x.e, .int .i64 x.p] 105 (0, 0))] ++ (g.lv ++ [cb])) ?_ fun K => ?_
    rotate_left
    · by_cases hp : 0 ≤ x.p
      · obtain ⟨_, _, y, e, hy, hsub2⟩ := RowL.get encNd_len hcn (i := x.p.toNat) (by omega)
        injection e with e
        injection e with e1 e2
        subst e1 e2
        unfold encNd at hsub2
        refine yq41 ?_; refine sv (PV.geq rfl rfl) ?_; refine yq46 ?_; refine yq2 ?_; refine yq5 ?_; refine yq1 ?_; refine sy fun b10 => ?_; refine yq13 ?_
        (repeat refine sq ?_)
        refine T.cutB [(7, Value.int IntKind.i64 (↑i : Int)), (8, Value.pointer (some { block := b8, off := 0 })), (20, Value.int IntKind.i64 (↑i : Int)), (19, Value.int IntKind.i64 (↑c.nd.length : Int)), (18, Value.slice (some { block := bx, off := off }) c.nd.length cn'), (6, Value.slice ad c.nd.length cap), (3, Value.pointer (some { block := b3, off := 0 })), (0, Value.slice (some { block := bx, off := off }) c.nd.length cn')] 82 ?_ fun K => ?_
        rotate_left
        · refine sr ?_; refine yq148 ?_; refine yq49 ?_
          refine T.splitD (d := 76) rfl (fun h0 => ?_) (fun h0 => ?_)
          · refine yq143 ?_; refine sT ?_; refine so ?_; (exact K _ _ _ zq8 (by repeat (first | exact Sel.refl _ | exact Sel.nil | (refine Sel.cons zq1 ?_) | (refine Sel.app zq1 ?_) | exact Sel.one zq1)))
          · refine yq161 ?_; refine gv (PV.gtr rfl rfl) ?_; refine sF ?_; refine so ?_; (exact K _ _ _ zq8 (by repeat (first | exact Sel.refl _ | exact Sel.nil | (refine Sel.cons zq1 ?_) | (refine Sel.app zq1 ?_) | exact Sel.one zq1)))
        intro q6
        skip
        refine T.cond rfl (fun hc3 => ?_) (fun hc3 => ?_)
        · refine yq2 ?_; refine yq55 ?_
          exact T.retF (Lv.fin (RV.tmp2 rfl rfl rfl) ⟨_, _, rfl⟩)
        obtain ⟨z, hz0, _, hz⟩ := flat_at (f := fun s : Int => Value.int .i64 s) (l := l) (n := x.p) (by omega)
        have hz3 : (l.flatMap encI)[0 + x.p.toNat * 1]? = some (.int .i64 z) := hz
        obtain ⟨bv, capv, hve2⟩ := g2.ptr (by omega)
        injection hve2 with e1 e2 e3
        subst e1 e3
        refine T.skip ?_; refine yq81 ?_; refine yq162 ?_; refine yq5 ?_; refine sv (PV.indexAddr rfl rfl (by omega)) ?_; refine sv (PV.loadVec rfl (by assumption) zq4 (by assumption)) ?_; refine sv (PV.indexAddr rfl rfl (by omega)) ?_; (refine T.storeVecP (lv := lv) Wanted.none rfl rfl rfl g2 (by rw [flat_len encI_len]; omega) zq1 ?_; intro lvh hvh); refine so ?_
        rw [show (l.flatMap encI).set (0 + ((i : Nat) : Int).toNat * 1) (.int .i64 z) = (l.set (0 + ((i : Nat) : Int).toNat * 1) z).flatMap encI from flat_set (f := fun a => Value.int .i64 a) l _ _] at hvh
        exact K ⟨i, lvh, _⟩ _ _ ⟨hvh, by rw [List.length_set]; exact g3, fun d hd => by rcases List.mem_or_eq_of_mem_set hd with h | h; exact g4 d h; rw [h]; exact g4 z hz0⟩ zq8 (by repeat (first | exact Sel.refl _ | exact Sel.nil | (refine Sel.cons zq1 ?_) | (refine Sel.app zq1 ?_) | exact Sel.one zq1))
      · refine yq41 ?_; refine sv (PV.geq rfl rfl) ?_; refine yq88 ?_
        exact K ⟨i, lv, l⟩ _ _ ⟨g2, g3, g4⟩ zq8 (Sel.refl _)
    rintro ⟨_, lv3, l3⟩ ⟨j2, j3, j4⟩
    dsimp only at j2 j3 j4 ⊢
    refine yq14 ?_; refine yq77 ?_; refine T.block ?_; refine T.cut2G [(7, Value.int IntKind.i64 (↑i : Int)), (8, Value.pointer (some { block := b8, off := 0 })), (20, Value.int IntKind.i64 (↑i : Int)), (19, Value.int IntKind.i64 (↑c.nd.length : Int)), (18, Value.slice (some { block := bx, off := off }) c.nd.length cn'), (6, Value.slice ad c.nd.length cap), (3, Value.pointer (some { block := b3, off := 0 })), (0, Value.slice (some { block := bx, off := off }) c.nd.length cn')] (γ := Unit) (fun _ => True) (fun _ => [(7, .int .i64 (i : Int))]) (fun _ => [(b8, .cells #[.string x.lb, .int .i64 x.b, .int .i64 x.e, .int .i64 x.p] 105 (0, 0))] ++ (lv3 ++ [cb])) ?_ fun K => ?_
    rotate_left
    · refine T.loopK [(7, Value.int IntKind.i64 (↑i : Int)), (8, Value.pointer (some { block := b8, off := 0 })), (20, Value.int IntKind.i64 (↑i : Int)), (19, Value.int IntKind.i64 (↑c.nd.length : Int)), (18, Value.slice (some { block := bx, off := off }) c.nd.length cn'), (6, Value.slice ad c.nd.length cap), (3, Value.pointer (some { block := b3, off := 0 })), (0, Value.slice (some { block := bx, off := off }) c.nd.length cn')] zq8 (γ := Int) (fun k => -1 ≤ k ∧ k < i) (fun k => [(11, .int .i64 k)]) (fun _ => _) (fun _ => H) (fun k => (k + 1).toNat) ((i : Int) - 1) ⟨by omega, by omega⟩ zq8 (Sel.refl _) rfl ?_
      rintro k ⟨k1, k2⟩
      by_cases hk : 0 ≤ k
      · obtain ⟨_, _, y, e, hy, hsub2⟩ := RowL.get encNd_len hcn (i := k.toNat) (by omega)
        injection e with e
        injection e with e1 e2
        subst e1 e2
        unfold encNd at hsub2
        by_cases hkp : y.p = x.p
        · refine yq14 ?_; refine sv (PV.geq rfl rfl) ?_; refine so ?_; refine yq33 ?_; refine sq ?_; refine yq39 ?_; refine yq11 ?_; refine yq21 ?_; refine yq6 ?_; refine TQ.pv (PV.eql rfl rfl) Wanted.none rfl rfl ?_; refine TQ.nil ?_; refine sc rfl (by omega) ?_; refine sq ?_; refine sq ?_; refine yq91 ?_; refine yq159 ?_; refine yq21 ?_; refine TQ.pv (PV.lss rfl rfl) Wanted.none rfl rfl ?_; refine TQ.nil ?_
          refine T.condD rfl (fun hc3 => ?_) (fun hc3 => ?_)
          · refine yq2 ?_; refine yq55 ?_
            exact T.retF (Lv.fin (RV.tmp2 rfl rfl rfl) ⟨_, _, rfl⟩)
          · refine T.skip ?_; refine T.exit rfl ?_
            exact K () _ _ trivial zq8 (Sel.refl _)
        · refine yq14 ?_; refine sv (PV.geq rfl rfl) ?_; refine so ?_; refine yq33 ?_; refine sq ?_; refine yq39 ?_; refine yq11 ?_; refine yq21 ?_; refine yq6 ?_; refine TQ.pv (PV.eql rfl rfl) Wanted.none rfl rfl ?_; refine TQ.nil ?_; refine yq22 ?_; refine yq35 ?_; refine sm ?_; refine yq77 ?_
          exact T.nextP (k - 1) ⟨by omega, by omega⟩ (by omega) zq8 (by repeat (first | exact Sel.refl _ | exact Sel.nil | (refine Sel.cons zq1 ?_) | (refine Sel.app zq1 ?_) | exact Sel.one zq1)) rfl
      · refine yq14 ?_; refine sv (PV.geq rfl rfl) ?_; refine so ?_; refine yq16 ?_
        exact K () _ _ trivial zq8 (Sel.refl _)
    rintro _ _
    obtain ⟨z, hz0, _, hz⟩ := flat_at (f := fun s : Int => Value.int .i64 s) (l := l3) (n := (i : Int)) (by omega)
    have hz3 : (l3.flatMap encI)[0 + ((i : Nat) : Int).toNat * 1]? = some (.int .i64 z) := hz
    obtain ⟨bv, capv, hve2⟩ := j2.ptr (by omega)
    injection hve2 with e1 e2 e3
    subst e1 e3
    have hzb := j4 z hz0
    refine yq137 ?_; refine sv (PV.indexAddr rfl rfl (by omega)) ?_; refine sv (PV.loadVec rfl (by assumption) zq4 (by assumption)) ?_; refine sv (PV.add rfl rfl (by omega)) ?_; refine sv (PV.indexAddr rfl rfl (by omega)) ?_; (refine T.storeVecP (lv := lv3) Wanted.none rfl rfl rfl j2 (by rw [flat_len encI_len]; omega) zq1 ?_; intro lvh hvh); refine zs1 ?_; refine yq162 ?_; refine sv (PV.indexAddr rfl rfl (by omega)) ?_
    rw [show (l3.flatMap encI).set (0 + ((i : Nat) : Int).toNat * 1) (.int .i64 (z + 1)) = (l3.set (0 + ((i : Nat) : Int).toNat * 1) (z + 1)).flatMap encI from flat_set (f := fun a => Value.int .i64 a) l3 _ _] at hvh
    obtain ⟨l4, hl4⟩ : ∃ q, q = l3.set (0 + ((i : Nat) : Int).toNat * 1) (z + 1) := ⟨_, rfl⟩
    have hl5 : l4.length = c.nd.length := by rw [hl4, List.length_set]; exact j3
    have hz4 : (l4.flatMap encI)[0 + ((i : Nat) : Int).toNat * 1]? = some (.int .i64 (z + 1)) := by
      obtain ⟨z5, hz50, hz51, hz52⟩ := flat_at (f := fun s : Int => Value.int .i64 s) (l := l4) (n := (i : Int)) (by omega)
      have : z5 = z + 1 := by
        rw [hl4, List.getElem?_set] at hz51
        rw [if_pos (by omega), if_pos (by omega)] at hz51
        injection hz51 with h; exact h.symm
      rw [← this]; exact hz52
    rw [← hl4] at hvh
    refine sv (PV.loadVec rfl (by assumption) zq4 (by assumption)) ?_; refine sv (PV.gtr rfl rfl) ?_; refine so ?_
    refine T.condD rfl (fun hc3 => ?_) (fun hc3 => ?_)
    · refine yq2 ?_; refine yq55 ?_
      exact T.retF (Lv.fin (RV.tmp2 rfl rfl rfl) ⟨_, _, rfl⟩)
    · refine T.skip ?_; refine yq61 ?_
      refine T.nextP ⟨i + 1, lvh, l4⟩ ⟨by dsimp only; omega, hvh, hl5, fun d hd => ?_⟩ (by dsimp only; omega) zq8 (hcb ▸ (by repeat (first | exact Sel.refl _ | exact Sel.nil | (refine Sel.cons zq1 ?_) | (refine Sel.app zq1 ?_) | exact Sel.one zq1))) rfl
      dsimp only at hd
      rw [hl4] at hd
      rcases List.mem_or_eq_of_mem_set hd with h | h
      · exact j4 d h
      · rw [h]; omega
  · refine yq74 ?_; refine yq136 ?_
    exact T.retF (Lv.fin (RV.tmp2 rfl rfl rfl) ⟨_, _, rfl⟩)
end Go.Proofs.YthacphfjchpoaaaGreatDoor
namespace Go.Proofs.YthacphfjchpoaaaGreatDoor
open Go.RowKit

theorem InL.of {H : Hp} {v : Value} {n : Nat} {l : List Int} (hl : l.length = n) (h : SlR H 1 v n (l.flatMap encI)) : InL H v l := by subst hl; exact h
theorem StL.of {H : Hp} {v : Value} {n : Nat} {l : List ByteArray} (hl : l.length = n) (h : SlR H 1 v n (l.flatMap encT)) : StL H v l := by subst hl; exact h
theorem strRep (n : Nat) : (List.replicate n [Value.string ⟨#[]⟩]).flatten = (List.replicate n (bs [])).flatMap encT := by simp [List.flatMap, encT, bs]
theorem validate_fn (c : Cp) (H : Hp) (hc : CpL H c) (n : Int) (hno : nodesOk n c.nd) : Fn Tryz.prog 85 #[cpV c] H (fun u _ => IsIII u) := by
  have h1 := attributes_fn c.att c.va H hc.a
  have h2 := tokens_fn c H hc
  have h3 := texts_fn c H hc
  have h4 := regions_fn c H hc
  have h5 := nodes6_fn c H hc n hno
  have h6 := heads6_fn c H hc
  unfold cpV at h2 h3 h4 h5 h6 ⊢
  refine Fn.of_T (vs := [.agg #[c.va, c.vt, c.vx, c.vr, c.vn, c.vh, c.vs]]) Tryz.func85 rfl rfl fun w => ?_; refine zs3 ?_; (refine T.box Wanted.none rfl rfl zq15 ?_; intro b1); refine sa ?_; refine yq55 ?_; refine yq73 ?_; (refine T.callX Wanted.none rfl rfl h1 ?_; rintro _ ⟨n20, m20, rfl⟩); refine yq146 ?_; refine sa ?_; refine yq147 ?_; refine so ?_
  refine T.condD rfl (fun h0 => ?_) (fun h0 => ?_)
  · refine yq137 ?_; refine sa ?_; refine yq55 ?_; (exact T.retF (Lv.fin (RV.tmp3 rfl rfl rfl rfl) ⟨_, _, _, rfl⟩))
  · refine T.skip ?_; refine sq ?_; refine yq52 ?_; (refine T.callX Wanted.none rfl rfl h2 ?_; rintro _ ⟨n29, m29, rfl⟩); refine yq146 ?_; refine sa ?_; refine yq147 ?_; refine so ?_
    refine T.condD rfl (fun h1 => ?_) (fun h1 => ?_)
    · refine yq137 ?_; refine sa ?_; refine yq55 ?_; (exact T.retF (Lv.fin (RV.tmp3 rfl rfl rfl rfl) ⟨_, _, _, rfl⟩))
    · refine T.skip ?_; refine sq ?_; refine yq52 ?_; (refine T.callX Wanted.none rfl rfl h3 ?_; rintro _ ⟨n38, m38, rfl⟩); refine yq146 ?_; refine sa ?_; refine yq147 ?_; refine so ?_
      refine T.condD rfl (fun h2 => ?_) (fun h2 => ?_)
      · refine yq137 ?_; refine sa ?_; refine yq55 ?_; (exact T.retF (Lv.fin (RV.tmp3 rfl rfl rfl rfl) ⟨_, _, _, rfl⟩))
      · refine T.skip ?_; refine sq ?_; refine yq52 ?_; (refine T.callX Wanted.none rfl rfl h4 ?_; rintro _ ⟨n47, m47, rfl⟩); refine yq146 ?_; refine sa ?_; refine yq147 ?_; refine so ?_
        refine T.condD rfl (fun h3 => ?_) (fun h3 => ?_)
        · refine yq137 ?_; refine sa ?_; refine yq55 ?_; (exact T.retF (Lv.fin (RV.tmp3 rfl rfl rfl rfl) ⟨_, _, _, rfl⟩))
        · refine T.skip ?_; refine yq73 ?_; refine sv (PV.loadAll rfl zq0 (by exact rfl)) ?_; (refine T.callX Wanted.none rfl rfl h5 ?_; rintro _ ⟨n58, m58, rfl⟩); refine yq146 ?_; refine sa ?_; refine yq147 ?_; refine so ?_
          refine T.condD rfl (fun h4 => ?_) (fun h4 => ?_)
          · refine yq137 ?_; refine sa ?_; refine yq55 ?_; (exact T.retF (Lv.fin (RV.tmp3 rfl rfl rfl rfl) ⟨_, _, _, rfl⟩))
          · refine T.skip ?_; refine sq ?_; refine yq52 ?_; (refine T.callX Wanted.none rfl rfl h6 ?_; rintro _ ⟨n67, m67, rfl⟩); refine yq146 ?_; refine sa ?_; refine yq147 ?_; refine so ?_
            refine T.condD rfl (fun h5 => ?_) (fun h5 => ?_)
            · refine yq137 ?_; refine sa ?_; refine yq55 ?_; (exact T.retF (Lv.fin (RV.tmp3 rfl rfl rfl rfl) ⟨_, _, _, rfl⟩))
            · refine T.skip ?_; refine zs3 ?_; refine sa ?_; refine yq55 ?_; (exact T.retF (Lv.fin (RV.tmp3 rfl rfl rfl rfl) ⟨_, _, _, rfl⟩))
theorem valid_fn (c : Cp) (H : Hp) (hc : CpL H c) (n : Int) (hno : nodesOk n c.nd) : Fn Tryz.prog 56 #[cpV c] H (fun u _ => IsB u) := by
  have h1 := validate_fn c H hc n hno
  unfold cpV at h1 ⊢
  refine Fn.of_T (vs := [.agg #[c.va, c.vt, c.vx, c.vr, c.vn, c.vh, c.vs]]) Tryz.func56 rfl rfl fun w => ?_; refine zs3 ?_; (refine T.box Wanted.none rfl rfl zq15 ?_; intro b1); refine yq95 ?_; (refine T.callX Wanted.none rfl rfl h1 ?_; rintro _ ⟨n8, m8, k8, rfl⟩); refine yq146 ?_; refine sv (PV.extract rfl rfl) ?_; refine sa ?_; refine sa ?_; refine yq56 ?_; refine sv (PV.eql rfl rfl) ?_; refine yq0 ?_
  exact T.retF (Lv.fin (RV.tmp rfl rfl) ⟨_, rfl⟩)
theorem sameAtt_fn (l m : List (ByteArray × Bool)) (u v : Value) (H : Hp) (hu : SlR H 2 u l.length (l.flatMap encAt)) (hv : SlR H 2 v m.length (m.flatMap encAt)) (hl : l.length ≤ 1000) : Fn Tryz.prog 57 #[u, v] H (fun u _ => IsB u) := by
  obtain ⟨au, cu, rfl⟩ := hu.len
  obtain ⟨av, cv, rfl⟩ := hv.len
  refine Fn.of_T (vs := [.slice au l.length cu, .slice av m.length cv]) Tryz.func57 rfl rfl fun w => ?_
  by_cases h1 : l.length ≠ m.length
  · refine yq25 ?_; refine yq27 ?_; refine yq83 ?_; refine sv (PV.neq rfl rfl) ?_; refine yq46 ?_; refine yq25 ?_
    exact T.retF (Lv.fin (RV.tmp rfl rfl) ⟨_, rfl⟩)
  refine yq25 ?_; refine yq27 ?_; refine yq83 ?_; refine sv (PV.neq rfl rfl) ?_; refine yq88 ?_; refine yq112 ?_; refine T.loopR [(12, Value.int IntKind.i64 (↑l.length : Int)), (0, Value.slice au l.length cu), (1, Value.slice av m.length cv)] zq8 13 l.length rfl ?_
  intro i hi0
  by_cases hi : i < l.length
  · obtain ⟨b, off, ⟨x, xb⟩, rfl, hix, hsub⟩ := RowL.get encAt_len hu hi
    obtain ⟨b2, off2, ⟨y, yb⟩, rfl, hiy, hsub2⟩ := RowL.get encAt_len hv (i := i) (by omega)
    unfold encAt at hsub hsub2
    dsimp only at hsub hsub2
    refine yq87 ?_; refine yq0 ?_; refine sq ?_; refine yq39 ?_; refine yq11 ?_; refine TQ.pv (PV.loadSubAll rfl (by assumption) (by exact rfl)) Wanted.none rfl rfl ?_; refine yq159 ?_; refine TQ.pv (PV.loadSubAll rfl (by assumption) (by exact rfl)) Wanted.none rfl rfl ?_; refine TQ.pv (PV.aneq rfl rfl rfl rfl) Wanted.none rfl rfl ?_; refine TQ.nil ?_
    refine T.cond rfl (fun h0 => ?_) (fun h0 => ?_)
    · refine yq25 ?_
      (first | exact T.retF (Lv.fin (RV.tmp rfl rfl) ⟨_, rfl⟩) | exact T.nextR (by omega) rfl zq8 (by repeat (first | exact Sel.refl _ | exact Sel.nil | (refine Sel.cons zq1 ?_) | (refine Sel.app zq1 ?_) | exact Sel.one zq1)))
    · refine T.skip ?_; refine yq61 ?_
      (first | exact T.retF (Lv.fin (RV.tmp rfl rfl) ⟨_, rfl⟩) | exact T.nextR (by omega) rfl zq8 (by repeat (first | exact Sel.refl _ | exact Sel.nil | (refine Sel.cons zq1 ?_) | (refine Sel.app zq1 ?_) | exact Sel.one zq1)))
  · refine yq195 ?_
    exact T.retF (Lv.fin (RV.tmp rfl rfl) ⟨_, rfl⟩)
theorem findText_fn (c : Cp) (s : ByteArray) (H : Hp) (hc : CpL H c) : Fn Tryz.prog 58 #[cpV c, .string s] H (fun u _ => IsI u) := by
  obtain ⟨aa, ca, at1, ct, ax, cx, ar, cr, an, cn, ah, ch, as1, cs, hcv, ha, ht, hx, hr, hn, hh, hs⟩ := hc.open; rw [hcv]; have hla := hc.la; have hlt := hc.lt; have hlx := hc.lx; have hlr := hc.lr; have hln := hc.ln; have hlh := hc.lh; have hls := hc.ls
  refine Fn.of_T (vs := [.agg #[.slice aa c.att.length ca, .slice at1 c.tk.length ct, .slice ax c.tx.length cx, .slice ar c.rg.length cr, .slice an c.nd.length cn, .slice ah c.hd.length ch, .slice as1 c.rl.length cs], .string s]) Tryz.func58 rfl rfl fun w => ?_; refine zs3 ?_; (refine T.box Wanted.none rfl rfl zq15 ?_; intro b2); refine yq0 ?_; refine yq129 ?_; refine yq80 ?_; refine T.loopR [(9, Value.int IntKind.i64 (↑c.tx.length : Int)), (8, Value.slice ax c.tx.length cx), (1, Value.string s)] zq8 10 c.tx.length rfl ?_
  intro i hi0
  by_cases hi : i < c.tx.length
  · obtain ⟨bx, off, x, rfl, hix, hsub⟩ := RowL.get encRg_len hx.1 hi
    unfold encRg at hsub
    obtain ⟨am, cm, hmv⟩ := (hx.2 x (List.mem_of_getElem? hix)).1.len
    rw [hmv] at hsub
    refine yq155 ?_; refine sy fun b6 => ?_; refine sa ?_; refine yq115 ?_; refine sm ?_; refine sv (PV.seql rfl rfl) ?_; refine so ?_
    refine T.condD rfl (fun h0 => ?_) (fun h0 => ?_)
    · refine yq140 ?_
      (first | exact T.retF (Lv.fin (RV.tmp rfl rfl) ⟨_, rfl⟩) | exact T.nextR (by omega) rfl zq8 (by repeat (first | exact Sel.refl _ | exact Sel.nil | (refine Sel.cons zq1 ?_) | (refine Sel.app zq1 ?_) | exact Sel.one zq1)))
    · refine T.skip ?_; refine yq61 ?_
      (first | exact T.retF (Lv.fin (RV.tmp rfl rfl) ⟨_, rfl⟩) | exact T.nextR (by omega) rfl zq8 (by repeat (first | exact Sel.refl _ | exact Sel.nil | (refine Sel.cons zq1 ?_) | (refine Sel.app zq1 ?_) | exact Sel.one zq1)))
  · refine yq195 ?_
    exact T.retF (Lv.fin (RV.tmp rfl rfl) ⟨_, rfl⟩)
theorem allHeads_fn (c : Cp) (H : Hp) (hc : CpL H c) : Fn Tryz.prog 59 #[cpV c] H (fun u H' => ∃ v1 v2 l1 l2, u = .tuple #[v1, v2] ∧ InL H' v1 l1 ∧ StL H' v2 l2 ∧ l1.length ≤ c.hd.length + c.tk.length ∧ l2.length ≤ c.rl.length + c.tk.length) := by
  obtain ⟨aa, ca, at1, ct, ax, cx, ar, cr, an, cn, ah, ch, as1, cs, hcv, ha, ht, hx, hr, hn, hh, hs⟩ := hc.open; rw [hcv]; have hla := hc.la; have hlt := hc.lt; have hlx := hc.lx; have hlr := hc.lr; have hln := hc.ln; have hlh := hc.lh; have hls := hc.ls
  refine Fn.of_T (vs := [.agg #[.slice aa c.att.length ca, .slice at1 c.tk.length ct, .slice ax c.tx.length cx, .slice ar c.rg.length cr, .slice an c.nd.length cn, .slice ah c.hd.length ch, .slice as1 c.rl.length cs]]) Tryz.func59 rfl rfl fun w => ?_
  by_cases h1 : 0 < c.hd.length
  · refine zs3 ?_; (refine T.box Wanted.none rfl rfl zq15 ?_; intro b1); refine yq55 ?_; refine yq129 ?_; refine sv (PV.gtr rfl rfl) ?_; refine yq46 ?_; refine sq ?_; refine yq91 ?_; refine yq6 ?_; refine TQ.pv (PV.assign rfl) Wanted.none rfl rfl ?_; refine yq188 ?_
    exact T.retF (Lv.fin (RV.tmp2 rfl rfl rfl) ⟨_, _, _, _, rfl, hh, hs, by omega, by omega⟩)
  refine zs3 ?_; (refine T.box Wanted.none rfl rfl zq15 ?_; intro b1); refine yq55 ?_; refine yq129 ?_; refine sv (PV.gtr rfl rfl) ?_; refine yq88 ?_; refine yq41 ?_; refine sv (PV.lenSl rfl) ?_; refine T.makeSliceN (n := c.tk.length) Wanted.none rfl rfl rfl (by omega) ?_
  intro v lv hv
  obtain ⟨ad, cap, rfl⟩ := hv.val
  rw [show (List.replicate c.tk.length [Value.int .i64 0]).flatten = (List.replicate c.tk.length 0).flatMap encI by simp [List.flatMap, encI]] at hv
  refine yq0 ?_; refine yq112 ?_; refine T.loopK [(19, Value.int IntKind.i64 (↑c.tk.length : Int)), (4, Value.slice ad c.tk.length cap), (1, Value.pointer (some { block := b1, off := 0 }))] zq8 (γ := Nat × List (Nat × Obj) × List Int) (fun g => g.1 ≤ c.tk.length ∧ Vec 3 1 (.slice ad c.tk.length cap) g.2.1 c.tk.length (g.2.2.flatMap encI) ∧ g.2.2.length = c.tk.length) (fun g => [(20, .int .i64 (g.1 : Int))]) (fun g => g.2.1 ++ [(b1, .cells #[.slice aa c.att.length ca, .slice at1 c.tk.length ct, .slice ax c.tx.length cx, .slice ar c.rg.length cr, .slice an c.nd.length cn, .slice ah c.hd.length ch, .slice as1 c.rl.length cs] 32 (0, 0))]) (fun _ => H) (fun g => c.tk.length - g.1) (0, lv, List.replicate c.tk.length 0) ⟨by simp, hv, by simp⟩ zq8 (by repeat (first | exact Sel.refl _ | exact Sel.nil | (refine Sel.cons zq1 ?_) | (refine Sel.app zq1 ?_) | exact Sel.one zq1)) rfl ?_
  rintro ⟨i, lv, l⟩ ⟨g1, g2, g3⟩
  dsimp only at g1 g2 g3 ⊢
  by_cases hi : i < c.tk.length
  · obtain ⟨bv, capv, hve2⟩ := g2.ptr (by omega)
    injection hve2 with e1 e2 e3
    subst e1 e3
    refine yq87 ?_; refine sa ?_; refine zs2 ?_; refine yq162 ?_; refine sv (PV.indexAddr rfl rfl (by omega)) ?_; (refine T.storeVecP (lv := lv) Wanted.none rfl rfl rfl g2 (by rw [flat_len encI_len]; omega) zq1 ?_; intro lvh hvh); refine so ?_; refine yq61 ?_
    rw [show (l.flatMap encI).set (0 + ((i : Nat) : Int).toNat * 1) (.int .i64 (-1)) = (l.set (0 + ((i : Nat) : Int).toNat * 1) (-1)).flatMap encI from flat_set (f := fun a => Value.int .i64 a) l _ _] at hvh
    exact T.nextP (i + 1, lvh, _) ⟨by dsimp only; omega, hvh, by rw [List.length_set]; exact g3⟩ (by dsimp only; omega) zq8 (by repeat (first | exact Sel.refl _ | exact Sel.nil | (refine Sel.cons zq1 ?_) | (refine Sel.app zq1 ?_) | exact Sel.one zq1)) rfl
  · refine yq74 ?_; refine sq ?_; refine T.regionS [(b1, .cells #[.slice aa c.att.length ca, .slice at1 c.tk.length ct, .slice ax c.tx.length cx, .slice ar c.rg.length cr, .slice an c.nd.length cn, .slice ah c.hd.length ch, .slice as1 c.rl.length cs] 32 (0, 0))] 6 (by kernel_rfl) ?_; refine TS.take 0 rfl (by kernel_rfl) (by kernel_rfl) (by kernel_rfl) (by kernel_rfl) (PV.move rfl) Wanted.none rfl rfl ?_; refine TS.take 1 rfl (by kernel_rfl) (by kernel_rfl) (by kernel_rfl) (by kernel_rfl) (PV.fieldAddr rfl) Wanted.none rfl rfl ?_; refine TS.take 2 rfl (by kernel_rfl) (by kernel_rfl) (by kernel_rfl) (by kernel_rfl) (PV.load1 rfl zq0 rfl) Wanted.none rfl rfl ?_; refine TS.take 3 rfl (by kernel_rfl) (by kernel_rfl) (by kernel_rfl) (by kernel_rfl) (PV.lenSl rfl) Wanted.none rfl rfl ?_; refine TS.take 5 rfl (by kernel_rfl) (by kernel_rfl) (by kernel_rfl) (by kernel_rfl) (PV.assign rfl) Wanted.none rfl rfl ?_
    refine TS.ways [4] (by kernel_rfl) rfl zq18 ⟨⟨_, rfl, ?_⟩, trivial⟩
    (refine T.makeSliceN (n := c.tk.length) Wanted.none rfl rfl rfl (by omega) ?_; intro v31 lv31 hv31); refine yq24 ?_
    refine TS.ways [6] (by kernel_rfl) rfl zq18 ⟨⟨_, rfl, ?_⟩, trivial⟩
    refine yq0 ?_; refine yq109 ?_
    ((rw [strRep] at hv31; refine T.freezeP (lv := lv) g2 zq1 ?_; intro Ha hla hsa; refine T.freezeP (lv := lv31) hv31 zq1 ?_; intro Hb hlb hsb; exact T.retF (Lv.fin (RV.tmp2 rfl rfl rfl) ⟨_, _, l, List.replicate c.tk.length (bs []), rfl, InL.of g3 (hsa.mono hlb), StL.of (by simp) hsb, by omega, by rw [List.length_replicate]; omega⟩)))
end Go.Proofs.YthacphfjchpoaaaGreatDoor
namespace Go.Proofs.YthacphfjchpoaaaGreatDoor
open Go.RowKit

section
variable {α : Type} {enc : α → List Value} {sz : Nat}
theorem rowGet (hf : ∀ x, (enc x).length = sz) {L : List α} {i f : Nat} {x : α} {v : Value} (h : L[i]? = some x) (hv : (enc x)[f]? = some v) : (L.flatMap enc)[0 + ((i : Nat) : Int).toNat * sz + f]? = some v := by
  have hlt := (List.getElem?_eq_some_iff.1 hv).1
  rw [hf] at hlt
  have h1 := flat_elem hf L i x h
  have := congrArg (fun l => l[f]?) h1
  simp only [List.getElem?_take, if_pos hlt, List.getElem?_drop] at this
  rw [Nat.zero_add, Int.toNat_natCast, this, hv]
theorem set_drop_take {l : List Value} {o : Nat} {v : Value} {p q r : List Value} (h : l = p ++ (q ++ r)) (f : Nat) (ho : o = p.length + f) (hf : f < q.length) : l.set o v = p ++ (q.set f v ++ r) := by
  subst h ho
  rw [List.set_append_right _ _ (by omega), Nat.add_sub_cancel_left, List.set_append_left _ _ hf]
theorem rowSet (hf : ∀ x, (enc x).length = sz) {L : List α} {i f : Nat} {x x' : α} {v : Value} (h : L[i]? = some x) (hlt : f < sz) (he : (enc x).set f v = enc x') : (L.flatMap enc).set (0 + ((i : Nat) : Int).toNat * sz + f) v = (L.set i x').flatMap enc := by
  have hi := List.getElem?_eq_some_iff.1 h
  have hi1 := hi.1
  have hL : L = L.take i ++ (x :: L.drop (i + 1)) := by
    rw [← hi.2, ← List.drop_eq_getElem_cons hi.1, List.take_append_drop]
  have h1 : L.flatMap enc = (L.take i).flatMap enc ++ (enc x ++ (L.drop (i + 1)).flatMap enc) := by
    conv => lhs; rw [hL]
    simp
  have hl : ((L.take i).flatMap enc).length = i * sz := by rw [flat_len hf, List.length_take]; congr 1; omega
  rw [set_drop_take h1 f (by rw [hl, Int.toNat_natCast, Nat.zero_add]) (by rw [hf]; exact hlt), he, setRow hf x' hi.1]
theorem rowLt (hf : ∀ x, (enc x).length = sz) {L : List α} {i f : Nat} (hi : i < L.length) (hlt : f < sz) : 0 + ((i : Nat) : Int).toNat * sz + f < (L.flatMap enc).length := by
  rw [flat_len hf, Nat.zero_add, Int.toNat_natCast]
  have : (i + 1) * sz ≤ L.length * sz := Nat.mul_le_mul_right _ hi
  rw [Nat.add_mul, Nat.one_mul] at this
  omega
end
/-- the second list of two, turned up to place j -/
def turned {α : Type} (f : α → α) (A B : List α) (i : Nat) : List α := A ++ ((B.take (i - A.length)).map f ++ B.drop (i - A.length))
theorem turned_len {α : Type} {f : α → α} {A B : List α} {i : Nat} : (turned f A B i).length = A.length + B.length := by
  unfold turned
  rw [List.length_append, List.length_append, List.length_map, List.length_take, List.length_drop]; omega
theorem turned_start {α : Type} {f : α → α} {A B : List α} : turned f A B A.length = A ++ B := by simp [turned]
theorem turned_end {α : Type} {f : α → α} {A B : List α} : turned f A B (A.length + B.length) = A ++ B.map f := by simp [turned]
theorem turned_at {α : Type} {f : α → α} {A B : List α} {i : Nat} {x : α} (h1 : A.length ≤ i) (hx : B[i - A.length]? = some x) : (turned f A B i)[i]? = some x := by
  have hi := List.getElem?_eq_some_iff.1 hx
  have hi1 := hi.1
  unfold turned
  rw [List.getElem?_append_right h1, List.getElem?_append_right (by simp; omega), List.getElem?_drop, ← hx]
  congr 1
  simp; omega
theorem turned_set {α : Type} {f : α → α} {A B : List α} {i : Nat} {x : α} (h1 : A.length ≤ i) (hx : B[i - A.length]? = some x) : (turned f A B i).set i (f x) = turned f A B (i + 1) := by
  have hi := List.getElem?_eq_some_iff.1 hx
  have hi1 := hi.1
  have hml : ((B.take (i - A.length)).map f).length = i - A.length := by simp; omega
  unfold turned
  rw [show i + 1 - A.length = (i - A.length) + 1 by omega]
  rw [List.set_append_right _ _ h1, List.set_append_right _ _ (by rw [hml]; exact Nat.le_refl _), hml, Nat.sub_self, List.drop_eq_getElem_cons hi.1, List.take_add_one, hx, List.set_cons_zero]
  simp
section
variable {P : Program} {X : Cx} {e : Env} {l : List (Nat × Obj)} {H : Hp} {D : List Deferred} {k : List It}
/-- A block is given up for writing, wherever it lies. -/
theorem T.freezeB {b : Nat} {o : Obj} {r : List (Nat × Obj)} (hpk : Pick l [(b, o)] r) (h : ∀ H', H.le H' → H' b = some o → T P X e r H' D k) : T P X e l H D k :=
  T.perm hpk.perm (T.mk fun a w ha hw => by
    have hn := (hw.own (b, o) List.mem_cons_self).2.1
    exact (h _ (Hp.le_put hn) Hp.put_same).get a w ha (Wd.freeze hw))
theorem RV.ct {fn : Func} {p r : Tmp} {t : TypeId} {v1 v2 : Value} (h : fn.results = #[.cell p t, .tmp r]) (hv : CV P e l H p t v1) (hv2 : e.get r = some v2) : RV P fn e l H (.tuple #[v1, v2]) := RV.mk fun X D a w ha hw => by
  unfold CV at hv
  obtain ⟨a1, g1, h1⟩ := hv
  have h1 := h1 X w hw
  simp [results, h, ha.get _ _ g1, ha.get _ _ hv2, asAddr, h1]
end
structure CpO (H : Hp) (c : Cp) (aa : Option Addr) (ca : Nat) (at1 : Option Addr) (ct : Nat) (ax : Option Addr) (cx : Nat) (ar : Option Addr) (cr : Nat) (an : Option Addr) (cn : Nat) (ah : Option Addr) (ch : Nat) (as1 : Option Addr) (cs : Nat) : Prop where
  a : SlR H 2 (.slice aa c.att.length ca) c.att.length (c.att.flatMap encAt)
  t : SlR H 1 (.slice at1 c.tk.length ct) c.tk.length (c.tk.flatMap encTk)
  x : RgL H (.slice ax c.tx.length cx) c.tx
  r : RgL H (.slice ar c.rg.length cr) c.rg
  n : NdL H (.slice an c.nd.length cn) c.nd
  h : InL H (.slice ah c.hd.length ch) c.hd
  s : StL H (.slice as1 c.rl.length cs) c.rl
  tO : ∀ t ∈ c.tk, TkOk H t
theorem CpO.mono {H H' : Hp} {c : Cp} {aa ca at1 ct ax cx ar cr an cn ah ch as1 cs} (h : CpO H c aa ca at1 ct ax cx ar cr an cn ah ch as1 cs) (hl : H.le H') : CpO H' c aa ca at1 ct ax cx ar cr an cn ah ch as1 cs :=
  ⟨h.a.mono hl, h.t.mono hl, h.x.mono hl, h.r.mono hl, h.n.mono hl, h.h.mono hl, h.s.mono hl, fun t ht => (h.tO t ht).mono hl⟩
theorem CpL.openO {H : Hp} {c : Cp} (hc : CpL H c) : ∃ aa ca at1 ct ax cx ar cr an cn ah ch as1 cs, cpV c = .agg #[.slice aa c.att.length ca, .slice at1 c.tk.length ct, .slice ax c.tx.length cx, .slice ar c.rg.length cr, .slice an c.nd.length cn, .slice ah c.hd.length ch, .slice as1 c.rl.length cs] ∧ CpO H c aa ca at1 ct ax cx ar cr an cn ah ch as1 cs := by
  obtain ⟨aa, ca, at1, ct, ax, cx, ar, cr, an, cn, ah, ch, as1, cs, hcv, h1, h2, h3, h4, h5, h6, h7⟩ := hc.open
  exact ⟨aa, ca, at1, ct, ax, cx, ar, cr, an, cn, ah, ch, as1, cs, hcv, h1, h2, h3, h4, h5, h6, h7, hc.tO⟩
def shR (n : Nat) (r : Rg) : Rg := { r with b := r.b + n, e := r.e + n }
def shN (n m : Nat) (r : Nd) : Nd := ⟨r.lb, r.b + n, r.e + n, if 0 ≤ r.p then r.p + m else r.p⟩
/-- one corpus behind another one -/
structure CatR (a b c : Cp) : Prop where
  att : c.att = a.att
  tk : c.tk = a.tk ++ b.tk
  tx : c.tx = a.tx ++ b.tx.map (shR a.tk.length)
  rg : c.rg = a.rg ++ b.rg.map (shR a.tk.length)
  nd : c.nd = a.nd ++ b.nd.map (shN a.tk.length a.nd.length)
  hd : c.hd.length ≤ a.hd.length + a.tk.length + (b.hd.length + b.tk.length)
  rl : c.rl.length ≤ a.rl.length + a.tk.length + (b.rl.length + b.tk.length)
theorem one_encAt (a : ByteArray × Bool) : ∀ v ∈ encAt a, v.oneCell' = true := by
  intro v hv
  simp only [encAt, List.mem_cons, List.not_mem_nil, or_false] at hv
  rcases hv with rfl | rfl <;> rfl
theorem one_encTk {H : Hp} {t : Tk} (h : TkOk H t) : ∀ v ∈ encTk t, v.oneCell' = true := by
  obtain ⟨am, cm, hmv⟩ := h.1.len
  intro v hv
  simp only [encTk, List.mem_cons, List.not_mem_nil, or_false] at hv
  rw [hv, hmv]; rfl
end Go.Proofs.YthacphfjchpoaaaGreatDoor
