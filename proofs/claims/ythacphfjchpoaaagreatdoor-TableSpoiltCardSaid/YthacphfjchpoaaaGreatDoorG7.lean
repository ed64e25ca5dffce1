/- made corpora: Validate comes to an end, whatever it says.
   made corpora: Validate comes to an end: regions, constituents, heads. -/
import Derived.Test.YthacphfjchpoaaaGreatDoorG6
namespace Go.Proofs.YthacphfjchpoaaaGreatDoor
open Go.RowKit

def textRec (p : Int) : Nat → List Rg → Int
  | _, [] => -1
  | i, t :: l => if t.b ≤ p ∧ p < t.e then (i : Int) else textRec p (i + 1) l
def textOf (l : List Rg) (p : Int) : Int := textRec p 0 l
theorem textRec_drop {l : List Rg} {i : Nat} {t : Rg} {p : Int} (h : l[i]? = some t) : textRec p i (l.drop i) = if t.b ≤ p ∧ p < t.e then (i : Int) else textRec p (i + 1) (l.drop (i + 1)) := by
  have := List.getElem?_eq_some_iff.1 h
  rw [List.drop_eq_getElem_cons this.1, this.2, textRec]
theorem within_fn (c : Cp) (b e : Int) (H : Hp) (hc : CpL H c) : Fn Tryz.prog 137 #[cpV c, .int .i64 b, .int .i64 e] H (fun u _ => IsB u) := by
  obtain ⟨aa, ca, at1, ct, ax, cx, ar, cr, an, cn, ah, ch, as1, cs, hcv, ha, ht, hx, hr, hn, hh, hs⟩ := hc.open; rw [hcv]; have hla := hc.la; have hlt := hc.lt; have hlx := hc.lx; have hlr := hc.lr; have hln := hc.ln; have hlh := hc.lh; have hls := hc.ls
  refine Fn.of_T (vs := [.agg #[.slice aa c.att.length ca, .slice at1 c.tk.length ct, .slice ax c.tx.length cx, .slice ar c.rg.length cr, .slice an c.nd.length cn, .slice ah c.hd.length ch, .slice as1 c.rl.length cs], .int .i64 b, .int .i64 e]) Tryz.func137 rfl rfl fun w => ?_; refine zs3 ?_; (refine T.box Wanted.none rfl rfl zq15 ?_; intro b3); refine yq0 ?_; refine yq129 ?_; refine yq80 ?_; refine T.loopR [(11, Value.int IntKind.i64 (↑c.tx.length : Int)), (10, Value.slice ax c.tx.length cx), (1, Value.int IntKind.i64 b), (2, Value.int IntKind.i64 e)] zq8 12 c.tx.length rfl ?_
  intro i hi0
  by_cases hi : i < c.tx.length
  · obtain ⟨bx, off, x, rfl, hix, hsub⟩ := RowL.get encRg_len hx.1 hi
    unfold encRg at hsub
    obtain ⟨am, cm, hmv⟩ := (hx.2 x (List.mem_of_getElem? hix)).1.len
    rw [hmv] at hsub
    refine yq110 ?_; refine sy fun b8 => ?_; refine yq115 ?_; refine sm ?_; refine sv (PV.leq rfl rfl) ?_; refine sm ?_
    refine T.splitD (d := 20) rfl (fun h0 => ?_) (fun h0 => ?_)
    · refine gm ?_; refine gm ?_; refine yq134 ?_; refine sm ?_
      refine T.splitD (d := 25) rfl (fun h1 => ?_) (fun h1 => ?_)
      · refine gm ?_; refine yq97 ?_; refine sT ?_; refine so ?_
        refine T.condD rfl (fun h2 => ?_) (fun h2 => ?_)
        · refine yq25 ?_
          (first | exact T.retF (Lv.fin (RV.tmp rfl rfl) ⟨_, rfl⟩) | exact T.nextR (by omega) rfl zq8 (by repeat (first | exact Sel.refl _ | exact Sel.nil | (refine Sel.cons zq1 ?_) | (refine Sel.app zq1 ?_) | exact Sel.one zq1)))
        · refine T.skip ?_; refine yq61 ?_
          (first | exact T.retF (Lv.fin (RV.tmp rfl rfl) ⟨_, rfl⟩) | exact T.nextR (by omega) rfl zq8 (by repeat (first | exact Sel.refl _ | exact Sel.nil | (refine Sel.cons zq1 ?_) | (refine Sel.app zq1 ?_) | exact Sel.one zq1)))
      · refine yq66 ?_; refine sF ?_; refine yq92 ?_; refine yq61 ?_
        (first | exact T.retF (Lv.fin (RV.tmp rfl rfl) ⟨_, rfl⟩) | exact T.nextR (by omega) rfl zq8 (by repeat (first | exact Sel.refl _ | exact Sel.nil | (refine Sel.cons zq1 ?_) | (refine Sel.app zq1 ?_) | exact Sel.one zq1)))
    · refine yq8 ?_; refine sp ?_; refine yq90 ?_; refine yq66 ?_; refine sF ?_; refine yq92 ?_; refine yq61 ?_
      (first | exact T.retF (Lv.fin (RV.tmp rfl rfl) ⟨_, rfl⟩) | exact T.nextR (by omega) rfl zq8 (by repeat (first | exact Sel.refl _ | exact Sel.nil | (refine Sel.cons zq1 ?_) | (refine Sel.app zq1 ?_) | exact Sel.one zq1)))
  · refine yq195 ?_
    exact T.retF (Lv.fin (RV.tmp rfl rfl) ⟨_, rfl⟩)
theorem textAt_fn (c : Cp) (p : Int) (H : Hp) (hc : CpL H c) : Fn Tryz.prog 139 #[cpV c, .int .i64 p] H (fun u _ => u = .int .i64 (textOf c.tx p)) := by
  obtain ⟨aa, ca, at1, ct, ax, cx, ar, cr, an, cn, ah, ch, as1, cs, hcv, ha, ht, hx, hr, hn, hh, hs⟩ := hc.open; rw [hcv]; have hla := hc.la; have hlt := hc.lt; have hlx := hc.lx; have hlr := hc.lr; have hln := hc.ln; have hlh := hc.lh; have hls := hc.ls
  refine Fn.of_T (vs := [.agg #[.slice aa c.att.length ca, .slice at1 c.tk.length ct, .slice ax c.tx.length cx, .slice ar c.rg.length cr, .slice an c.nd.length cn, .slice ah c.hd.length ch, .slice as1 c.rl.length cs], .int .i64 p]) Tryz.func139 rfl rfl fun w => ?_; refine zs3 ?_; (refine T.box Wanted.none rfl rfl zq15 ?_; intro b2); refine yq0 ?_; refine yq129 ?_; refine yq80 ?_; refine T.loopC [(9, Value.int IntKind.i64 (↑c.tx.length : Int)), (8, Value.slice ax c.tx.length cx), (1, Value.int IntKind.i64 p)] zq8 10 c.tx.length (fun i => textRec p i (c.tx.drop i) = textOf c.tx p) rfl rfl ?_
  rintro i ⟨hi0, hi1⟩
  by_cases hi : i < c.tx.length
  · obtain ⟨bx, off, x, rfl, hix, hsub⟩ := RowL.get encRg_len hx.1 hi
    unfold encRg at hsub
    obtain ⟨am, cm, hmv⟩ := (hx.2 x (List.mem_of_getElem? hix)).1.len
    rw [hmv] at hsub
    rw [textRec_drop hix] at hi1
    by_cases h1 : x.b ≤ p
    · by_cases h2 : p < x.e
      · rw [if_pos ⟨h1, h2⟩] at hi1
        refine yq155 ?_; refine sy fun b6 => ?_; refine sa ?_; refine yq115 ?_; refine sm ?_; refine sv (PV.leq rfl rfl) ?_; refine sm ?_; refine T.setT (d := 19) rfl (by omega) ?_; refine yq191 ?_; refine yq134 ?_; refine yq46 ?_; refine yq140 ?_
        exact T.retF (Lv.fin (RV.tmp rfl rfl) (by rw [← hi1]))
      · rw [if_neg (by omega)] at hi1
        refine yq155 ?_; refine sy fun b6 => ?_; refine sa ?_; refine yq115 ?_; refine sm ?_; refine sv (PV.leq rfl rfl) ?_; refine sm ?_; refine T.setT (d := 19) rfl (by omega) ?_; refine yq191 ?_; refine yq134 ?_; refine yq88 ?_; refine yq61 ?_
        exact T.nextC hi hi1 rfl zq8 (by repeat (first | exact Sel.refl _ | exact Sel.nil | (refine Sel.cons zq1 ?_) | (refine Sel.app zq1 ?_) | exact Sel.one zq1))
    · rw [if_neg (by omega)] at hi1
      refine yq155 ?_; refine sy fun b6 => ?_; refine sa ?_; refine yq115 ?_; refine sm ?_; refine sv (PV.leq rfl rfl) ?_; refine sm ?_; refine T.setF (d := 19) rfl (by omega) ?_; refine yq66 ?_; refine sF ?_; refine yq92 ?_; refine yq61 ?_
      exact T.nextC hi hi1 rfl zq8 (by repeat (first | exact Sel.refl _ | exact Sel.nil | (refine Sel.cons zq1 ?_) | (refine Sel.app zq1 ?_) | exact Sel.one zq1))
  · refine yq195 ?_
    rw [List.drop_of_length_le (by omega), textRec] at hi1
    exact T.retF (Lv.fin (RV.tmp rfl rfl) (by rw [← hi1]))
theorem tokens_fn (c : Cp) (H : Hp) (hc : CpL H c) : Fn Tryz.prog 110 #[cpV c] H (fun u _ => IsII u) := by
  obtain ⟨aa, ca, at1, ct, ax, cx, ar, cr, an, cn, ah, ch, as1, cs, hcv, ha, ht, hx, hr, hn, hh, hs⟩ := hc.open; rw [hcv]; have hla := hc.la; have hlt := hc.lt; have hlx := hc.lx; have hlr := hc.lr; have hln := hc.ln; have hlh := hc.lh; have hls := hc.ls
  refine Fn.of_T (vs := [.agg #[.slice aa c.att.length ca, .slice at1 c.tk.length ct, .slice ax c.tx.length cx, .slice ar c.rg.length cr, .slice an c.nd.length cn, .slice ah c.hd.length ch, .slice as1 c.rl.length cs]]) Tryz.func110 rfl rfl fun w => ?_; refine zs3 ?_; (refine T.box Wanted.none rfl rfl zq15 ?_; intro b1); refine yq55 ?_; refine yq129 ?_; refine sv (PV.gtr rfl rfl) ?_; refine yq88 ?_; refine yq129 ?_; refine yq80 ?_; refine T.loopR [(15, Value.int IntKind.i64 (↑c.tk.length : Int)), (14, Value.slice at1 c.tk.length ct), (1, Value.pointer (some { block := b1, off := 0 }))] zq8 16 c.tk.length rfl ?_
  intro i hi0
  by_cases hi : i < c.tk.length
  · obtain ⟨bx, off, x, rfl, hix, hsub⟩ := RowL.get encTk_len ht hi
    unfold encTk at hsub
    have hxo := hc.tO x (List.mem_of_getElem? hix)
    obtain ⟨v, ss⟩ := x
    obtain ⟨as2, cs2, hve⟩ := hxo.1.len
    dsimp only at hve
    subst hve
    dsimp only at hsub
    by_cases h1 : ss.length ≠ c.att.length
    · refine yq87 ?_; refine yq15 ?_; refine yq55 ?_; refine yq27 ?_; refine yq106 ?_; refine sv (PV.neq rfl rfl) ?_; refine yq46 ?_; refine yq2 ?_; refine yq55 ?_
      exact T.retF (Lv.fin (RV.tmp2 rfl rfl rfl) ⟨_, _, rfl⟩)
    refine yq87 ?_; refine yq15 ?_; refine yq55 ?_; refine yq27 ?_; refine yq106 ?_; refine sv (PV.neq rfl rfl) ?_; refine yq88 ?_; refine yq2 ?_; refine sv (PV.lenSl rfl) ?_; refine yq80 ?_; refine T.loopR [(29, Value.int IntKind.i64 (↑ss.length : Int)), (28, Value.slice as2 ss.length cs2), (4, Value.int IntKind.i64 (↑i : Int)), (16, Value.int IntKind.i64 (↑i : Int)), (15, Value.int IntKind.i64 (↑c.tk.length : Int)), (14, Value.slice (some { block := bx, off := off }) c.tk.length ct), (1, Value.pointer (some { block := b1, off := 0 }))] zq8 30 ss.length rfl ?_
    intro j hj0
    by_cases hj : j < ss.length
    · obtain ⟨by', offy, s, rfl, his, hsubs⟩ := RowL.get encT_len hxo.1 hj
      obtain ⟨ba, offa, ⟨nm, st⟩, rfl, hia, hsuba⟩ := RowL.get encAt_len ha (i := j) (by omega)
      unfold encT at hsubs
      unfold encAt at hsuba
      have hcast : ((j : Nat) : Int).toNat = j := Int.toNat_natCast j
      refine yq87 ?_; refine yq15 ?_; refine sa ?_; refine yq23 ?_; refine yq5 ?_; refine sm ?_; refine yq1 ?_; refine sm ?_; refine T.callX Wanted.none rfl rfl (value_fn nm st s H (hxo.2.2 s (List.mem_of_getElem? his))) ?_
      rintro _ ⟨n, rfl⟩
      refine yq147 ?_; refine so ?_
      refine T.condD rfl (fun h0 => ?_) (fun h0 => ?_)
      · refine yq137 ?_; refine yq55 ?_
        (first | exact T.retF (Lv.fin (RV.tmp2 rfl rfl rfl) ⟨_, _, rfl⟩) | exact T.nextR (by omega) rfl zq8 (by repeat (first | exact Sel.refl _ | exact Sel.nil | (refine Sel.cons zq1 ?_) | (refine Sel.app zq1 ?_) | exact Sel.one zq1)))
      · refine T.skip ?_; refine yq61 ?_
        (first | exact T.retF (Lv.fin (RV.tmp2 rfl rfl rfl) ⟨_, _, rfl⟩) | exact T.nextR (by omega) rfl zq8 (by repeat (first | exact Sel.refl _ | exact Sel.nil | (refine Sel.cons zq1 ?_) | (refine Sel.app zq1 ?_) | exact Sel.one zq1)))
    · refine yq74 ?_; refine yq61 ?_
      (first | exact T.retF (Lv.fin (RV.tmp2 rfl rfl rfl) ⟨_, _, rfl⟩) | exact T.nextR (by omega) rfl zq8 (by repeat (first | exact Sel.refl _ | exact Sel.nil | (refine Sel.cons zq1 ?_) | (refine Sel.app zq1 ?_) | exact Sel.one zq1)))
  · refine yq74 ?_; refine yq136 ?_
    exact T.retF (Lv.fin (RV.tmp2 rfl rfl rfl) ⟨_, _, rfl⟩)
theorem texts_fn (c : Cp) (H : Hp) (hc : CpL H c) : Fn Tryz.prog 111 #[cpV c] H (fun u _ => IsII u) := by
  obtain ⟨aa, ca, at1, ct, ax, cx, ar, cr, an, cn, ah, ch, as1, cs, hcv, ha, ht, hx, hr, hn, hh, hs⟩ := hc.open; rw [hcv]; have hla := hc.la; have hlt := hc.lt; have hlx := hc.lx; have hlr := hc.lr; have hln := hc.ln; have hlh := hc.lh; have hls := hc.ls
  have hcapx := hx.1.cap
  refine Fn.of_T (vs := [.agg #[.slice aa c.att.length ca, .slice at1 c.tk.length ct, .slice ax c.tx.length cx, .slice ar c.rg.length cr, .slice an c.nd.length cn, .slice ah c.hd.length ch, .slice as1 c.rl.length cs]]) Tryz.func111 rfl rfl fun w => ?_
  by_cases h1 : 64 < c.tx.length
  · refine zs3 ?_; (refine T.box Wanted.none rfl rfl zq15 ?_; intro b1); refine sa ?_; refine yq23 ?_; refine yq106 ?_; refine yq0 ?_; refine yq129 ?_; refine sv (PV.gtr rfl rfl) ?_; refine yq46 ?_; refine yq136 ?_
    exact T.retF (Lv.fin (RV.tmp2 rfl rfl rfl) ⟨_, _, rfl⟩)
  refine zs3 ?_; (refine T.box Wanted.none rfl rfl zq15 ?_; intro b1); refine sa ?_; refine yq23 ?_; refine yq106 ?_; refine yq0 ?_; refine yq129 ?_; refine sv (PV.gtr rfl rfl) ?_; refine yq88 ?_; refine yq129 ?_; refine yq105 ?_; refine sv (PV.eql rfl rfl) ?_; refine sv (PV.bneq rfl rfl) ?_; refine so ?_
  refine T.cond rfl (fun hc0 => ?_) (fun hc0 => ?_)
  · refine yq136 ?_
    exact T.retF (Lv.fin (RV.tmp2 rfl rfl rfl) ⟨_, _, rfl⟩)
  clear hc0
  refine T.skip ?_; refine yq25 ?_; refine yq129 ?_; refine yq80 ?_; refine T.loopK [(27, Value.int IntKind.i64 (↑c.tx.length : Int)), (26, Value.slice ax c.tx.length cx), (4, Value.int IntKind.i64 (↑c.tk.length : Int)), (1, Value.pointer (some { block := b1, off := 0 }))] zq8 (γ := Nat × Int) (fun g => g.1 ≤ c.tx.length) (fun g => [(28, .int .i64 (g.1 : Int)), (5, .int .i64 g.2)]) (fun _ => _) (fun _ => H) (fun g => c.tx.length - g.1) (0, 0) (Nat.zero_le _) zq8 (Sel.refl _) rfl ?_
  rintro ⟨i, z⟩ hi0
  dsimp only at hi0 ⊢
  by_cases hi : i < c.tx.length
  · obtain ⟨bx, off, x, rfl, hix, hsub⟩ := RowL.get encRg_len hx.1 hi
    unfold encRg at hsub
    have hxo := hx.2 x (List.mem_of_getElem? hix)
    obtain ⟨am, cm, hmv⟩ := hxo.1.len
    rw [hmv] at hsub
    have hp := pairs_fn x.ks x.kv H hxo
    rw [hmv] at hp
    refine yq155 ?_; refine sy fun b7 => ?_; refine sa ?_; refine yq13 ?_; refine yq73 ?_; refine T.callX Wanted.none rfl rfl ((name4_fn _ _).mono (R' := fun u _ => IsB u) fun u _ h => ⟨_, h⟩) ?_
    rintro _ ⟨q, rfl⟩
    refine sv (PV.not rfl) ?_; refine so ?_
    refine T.cond rfl (fun hc0 => ?_) (fun hc0 => ?_)
    · refine yq2 ?_; refine yq55 ?_
      exact T.retF (Lv.fin (RV.tmp2 rfl rfl rfl) ⟨_, _, rfl⟩)
    refine T.skip ?_; refine yq73 ?_; refine sm ?_; refine sv (PV.sliceH rfl rfl (by omega)) ?_; refine sv (PV.lenSl rfl) ?_; refine yq80 ?_; refine T.loopR [(42, Value.int IntKind.i64 (↑(↑i : Int).toNat : Int)), (41, Value.slice (some { block := bx, off := off }) (↑i : Int).toNat cx), (6, Value.int IntKind.i64 (↑i : Int)), (7, Value.pointer (some { block := b7, off := 0 })), (28, Value.int IntKind.i64 (↑i : Int)), (5, Value.int IntKind.i64 z), (27, Value.int IntKind.i64 (↑c.tx.length : Int)), (26, Value.slice (some { block := bx, off := off }) c.tx.length cx), (4, Value.int IntKind.i64 (↑c.tk.length : Int)), (1, Value.pointer (some { block := b1, off := 0 }))] zq8 43 i rfl ?_
    intro j hj0
    by_cases hj : j < i
    · obtain ⟨_, _, y, e, hy, hsub2⟩ := RowL.get encRg_len hx.1 (i := j) (by omega)
      injection e with e
      injection e with e1 e2
      subst e1 e2
      unfold encRg at hsub2
      obtain ⟨am2, cm2, hmv2⟩ := (hx.2 y (List.mem_of_getElem? hy)).1.len
      rw [hmv2] at hsub2
      refine yq110 ?_; refine sy fun b9 => ?_; refine yq115 ?_; refine yq5 ?_; refine sv (PV.seql rfl rfl) ?_; refine so ?_
      refine T.condD rfl (fun h0 => ?_) (fun h0 => ?_)
      · refine yq2 ?_; refine yq55 ?_
        (first | exact T.retF (Lv.fin (RV.tmp2 rfl rfl rfl) ⟨_, _, rfl⟩) | exact T.nextR (by omega) rfl zq8 (by repeat (first | exact Sel.refl _ | exact Sel.nil | (refine Sel.cons zq1 ?_) | (refine Sel.app zq1 ?_) | exact Sel.one zq1)))
      · refine T.skip ?_; refine yq61 ?_
        (first | exact T.retF (Lv.fin (RV.tmp2 rfl rfl rfl) ⟨_, _, rfl⟩) | exact T.nextR (by omega) rfl zq8 (by repeat (first | exact Sel.refl _ | exact Sel.nil | (refine Sel.cons zq1 ?_) | (refine Sel.app zq1 ?_) | exact Sel.one zq1)))
    · refine yq74 ?_
      (repeat refine sq ?_)
      refine T.cutB [(6, Value.int IntKind.i64 (↑i : Int)), (7, Value.pointer (some { block := b7, off := 0 })), (28, Value.int IntKind.i64 (↑i : Int)), (5, Value.int IntKind.i64 z), (27, Value.int IntKind.i64 (↑c.tx.length : Int)), (26, Value.slice (some { block := bx, off := off }) c.tx.length cx), (4, Value.int IntKind.i64 (↑c.tk.length : Int)), (1, Value.pointer (some { block := b1, off := 0 }))] 84 ?_ fun K => ?_
      rotate_left
      · refine sr ?_; refine yq5 ?_; refine sm ?_; refine sv (PV.neq rfl rfl) ?_; refine sm ?_
        refine T.splitD (d := 58) rfl (fun h0 => ?_) (fun h0 => ?_)
        · refine yq143 ?_; refine yq141 ?_; refine yq66 ?_; refine yq141 ?_; refine yq149 ?_; refine sp ?_; refine yq177 ?_; refine sp ?_; refine sT ?_; refine so ?_; (exact K _ _ _ zq8 (by repeat (first | exact Sel.refl _ | exact Sel.nil | (refine Sel.cons zq1 ?_) | (refine Sel.app zq1 ?_) | exact Sel.one zq1)))
        · refine yq29 ?_; refine yq97 ?_; refine yq90 ?_
          refine T.splitD (d := 65) rfl (fun h1 => ?_) (fun h1 => ?_)
          · refine yq66 ?_; refine yq141 ?_; refine yq149 ?_; refine sp ?_; refine yq177 ?_; refine sp ?_; refine sT ?_; refine so ?_; (exact K _ _ _ zq8 (by repeat (first | exact Sel.refl _ | exact Sel.nil | (refine Sel.cons zq1 ?_) | (refine Sel.app zq1 ?_) | exact Sel.one zq1)))
          · refine yq29 ?_; refine gm ?_; refine gv (PV.gtr rfl rfl) ?_; refine yq90 ?_
            refine T.splitD (d := 71) rfl (fun h2 => ?_) (fun h2 => ?_)
            · refine yq149 ?_; refine sp ?_; refine yq177 ?_; refine sp ?_; refine sT ?_; refine so ?_; (exact K _ _ _ zq8 (by repeat (first | exact Sel.refl _ | exact Sel.nil | (refine Sel.cons zq1 ?_) | (refine Sel.app zq1 ?_) | exact Sel.one zq1)))
            · refine gm ?_; refine yq96 ?_; refine gv (PV.sub rfl rfl (by omega)) ?_; refine gv (PV.eql rfl rfl) ?_; refine gm ?_
              refine T.splitD (d := 78) rfl (fun h3 => ?_) (fun h3 => ?_)
              · refine yq29 ?_; refine gm ?_; refine gv (PV.neq rfl rfl) ?_; refine gv (PV.pickT rfl rfl rfl) ?_; refine sF ?_; refine so ?_; (exact K _ _ _ zq8 (by repeat (first | exact Sel.refl _ | exact Sel.nil | (refine Sel.cons zq1 ?_) | (refine Sel.app zq1 ?_) | exact Sel.one zq1)))
              · refine yq66 ?_; refine gv (PV.pickF rfl rfl rfl) ?_; refine sF ?_; refine so ?_; (exact K _ _ _ zq8 (by repeat (first | exact Sel.refl _ | exact Sel.nil | (refine Sel.cons zq1 ?_) | (refine Sel.app zq1 ?_) | exact Sel.one zq1)))
      intro q1
      skip
      refine T.cond rfl (fun hc0 => ?_) (fun hc0 => ?_)
      · refine yq2 ?_; refine yq55 ?_
        exact T.retF (Lv.fin (RV.tmp2 rfl rfl rfl) ⟨_, _, rfl⟩)
      refine T.skip ?_; refine yq73 ?_; refine T.callX Wanted.none rfl rfl hp ?_
      rintro _ ⟨n, rfl⟩
      refine yq147 ?_; refine so ?_
      refine T.condD rfl (fun hc0 => ?_) (fun hc0 => ?_)
      · refine yq137 ?_; refine yq55 ?_
        exact T.retF (Lv.fin (RV.tmp2 rfl rfl rfl) ⟨_, _, rfl⟩)
      refine T.skip ?_; refine sr ?_; refine yq5 ?_; refine yq0 ?_; refine yq61 ?_
      exact T.nextP (i + 1, x.e) (by dsimp only; omega) (by dsimp only; omega) zq8 (by repeat (first | exact Sel.refl _ | exact Sel.nil | (refine Sel.cons zq1 ?_) | (refine Sel.app zq1 ?_) | exact Sel.one zq1)) rfl
  · refine yq74 ?_; refine yq136 ?_
    exact T.retF (Lv.fin (RV.tmp2 rfl rfl rfl) ⟨_, _, rfl⟩)
end Go.Proofs.YthacphfjchpoaaaGreatDoor
namespace Go.Proofs.YthacphfjchpoaaaGreatDoor
open Go.RowKit

/-- The rest once, for all that some slots may have come to. -/
theorem T.cutG {P : Program} {X : Cx} {e : Env} {l : List (Nat × Obj)} {H : Hp} {D : List Deferred} {k : List It} {a : It} {γ : Type} (ek : Env) (C : γ → Prop) (ch : γ → Env) (K : ∀ g, C g → T P X (ch g ++ ek) l H D k)
    (h : (∀ g e' l', C g → Env.Sub (ch g ++ ek) e' → Sel l' l → T P X e' l' H D k) → T P X e l H D (a :: k)) : T P X e l H D (a :: k) :=
  h fun g _ _ hc he hl => T.sel hl (T.weak he (List.Sublist.refl _) (K g hc))
theorem T.cut2G {P : Program} {X : Cx} {e : Env} {l : List (Nat × Obj)} {H : Hp} {D : List Deferred} {k : List It} {a b : It} {γ : Type} (ek : Env) (C : γ → Prop) (ch : γ → Env) (lg : γ → List (Nat × Obj)) (K : ∀ g, C g → T P X (ch g ++ ek) (lg g) H D k)
    (h : (∀ g e' l', C g → Env.Sub (ch g ++ ek) e' → Sel l' (lg g) → T P X e' l' H D k) → T P X e l H D (a :: b :: k)) : T P X e l H D (a :: b :: k) :=
  h fun g _ _ hc he hl => T.sel hl (T.weak he (List.Sublist.refl _) (K g hc))
set_option maxHeartbeats 1000000 in
theorem regions_fn (c : Cp) (H : Hp) (hc : CpL H c) : Fn Tryz.prog 112 #[cpV c] H (fun u _ => IsII u) := by
  have hwi := fun b e => within_fn c b e H hc
  obtain ⟨aa, ca, at1, ct, ax, cx, ar, cr, an, cn, ah, ch, as1, cs, hcv, ha, ht, hx, hr, hn, hh, hs⟩ := hc.open; rw [hcv]; have hla := hc.la; have hlt := hc.lt; have hlx := hc.lx; have hlr := hc.lr; have hln := hc.ln; have hlh := hc.lh; have hls := hc.ls
  rw [hcv] at hwi
  have hcapr := hr.1.cap
  refine Fn.of_T (vs := [.agg #[.slice aa c.att.length ca, .slice at1 c.tk.length ct, .slice ax c.tx.length cx, .slice ar c.rg.length cr, .slice an c.nd.length cn, .slice ah c.hd.length ch, .slice as1 c.rl.length cs]]) Tryz.func112 rfl rfl fun w => ?_; refine zs3 ?_; (refine T.box Wanted.none rfl rfl zq15 ?_; intro b1); refine yq55 ?_; refine yq129 ?_; refine sv (PV.gtr rfl rfl) ?_; refine yq88 ?_; refine yq129 ?_; refine yq80 ?_; refine T.loopR [(16, Value.int IntKind.i64 (↑c.rg.length : Int)), (15, Value.slice ar c.rg.length cr), (1, Value.pointer (some { block := b1, off := 0 }))] zq8 17 c.rg.length rfl ?_
  intro i hi0
  by_cases hi : i < c.rg.length
  · obtain ⟨bx, off, x, rfl, hix, hsub⟩ := RowL.get encRg_len hr.1 hi
    unfold encRg at hsub
    have hxo := hr.2 x (List.mem_of_getElem? hix)
    obtain ⟨am, cm, hmv⟩ := hxo.1.len
    rw [hmv] at hsub
    have hp := pairs_fn x.ks x.kv H hxo
    rw [hmv] at hp
    refine yq155 ?_; refine sy fun b5 => ?_; refine sa ?_; refine yq13 ?_; refine yq17 ?_; refine yq41 ?_; refine T.callX Wanted.none rfl rfl ((name4_fn _ _).mono (R' := fun u _ => IsB u) fun u _ h => ⟨_, h⟩) ?_
    rintro _ ⟨q, rfl⟩
    refine sv (PV.not rfl) ?_; refine yq0 ?_
    refine T.cond rfl (fun hc0 => ?_) (fun hc0 => ?_)
    · refine yq2 ?_; refine yq55 ?_
      exact T.retF (Lv.fin (RV.tmp2 rfl rfl rfl) ⟨_, _, rfl⟩)
    refine yq52 ?_; refine yq148 ?_; refine T.callX Wanted.none rfl rfl (hwi _ _) ?_
    rintro _ ⟨q2, rfl⟩
    refine sv (PV.not rfl) ?_; refine yq0 ?_
    refine T.cond rfl (fun hc1 => ?_) (fun hc1 => ?_)
    · refine yq2 ?_; refine yq55 ?_
      exact T.retF (Lv.fin (RV.tmp2 rfl rfl rfl) ⟨_, _, rfl⟩)
    refine T.skip ?_; refine T.blkEnd ?_; refine yq73 ?_; refine T.callX Wanted.none rfl rfl hp ?_
    rintro _ ⟨n, rfl⟩
    refine yq147 ?_; refine so ?_
    refine T.condD rfl (fun hc2 => ?_) (fun hc2 => ?_)
    · refine yq137 ?_; refine yq55 ?_
      exact T.retF (Lv.fin (RV.tmp2 rfl rfl rfl) ⟨_, _, rfl⟩)
    refine T.skip ?_
    (repeat refine sq ?_)
    refine T.cutB [(4, Value.int IntKind.i64 (↑i : Int)), (5, Value.pointer (some { block := b5, off := 0 })), (17, Value.int IntKind.i64 (↑i : Int)), (16, Value.int IntKind.i64 (↑c.rg.length : Int)), (15, Value.slice (some { block := bx, off := off }) c.rg.length cr), (1, Value.pointer (some { block := b1, off := 0 }))] 56 ?_ fun K => ?_
    rotate_left
    · by_cases h0 : 0 < i
      · obtain ⟨_, _, y, e, hy, hsub2⟩ := RowL.get encRg_len hr.1 (i := i - 1) (by omega)
        injection e with e
        injection e with e1 e2
        subst e1 e2
        have hyo := hr.2 y (List.mem_of_getElem? hy)
        obtain ⟨am2, cm2, hmv2⟩ := hyo.1.len
        have hcall := cmpRegions_fn y x H hyo hxo
        unfold rgV at hcall
        rw [hmv, hmv2] at hcall
        unfold encRg at hsub2
        rw [hmv2] at hsub2
        have hcast : ((i : Int) - 1).toNat = i - 1 := by omega
        rw [← hcast] at hsub2
        refine yq39 ?_; refine yq89 ?_; refine TQ.setT (d := 46) rfl (by omega) ?_; refine yq37 ?_; refine TQ.pv (PV.move rfl) (Wanted.guard rfl rfl rfl) rfl rfl ?_; refine TQ.pv (PV.sub rfl rfl (by omega)) (Wanted.guard rfl rfl rfl) rfl rfl ?_; refine TQ.pv (PV.indexAddr rfl rfl (by omega)) (Wanted.guard rfl rfl rfl) rfl rfl ?_; refine TQ.pv (PV.loadSubAll rfl (by assumption) (by exact rfl)) (Wanted.guard rfl rfl rfl) rfl rfl ?_; refine TQ.pv (PV.loadAll rfl zq0 (by exact rfl)) (Wanted.guard rfl rfl rfl) rfl rfl ?_; refine TQ.callV (Wanted.guard rfl rfl rfl) rfl rfl (hcall) ?_; refine TQ.pv (PV.gtr rfl rfl) (Wanted.guard rfl rfl rfl) rfl rfl ?_; refine yq144 ?_; (exact K _ _ _ zq8 (by repeat (first | exact Sel.refl _ | exact Sel.nil | (refine Sel.cons zq1 ?_) | (refine Sel.app zq1 ?_) | exact Sel.one zq1)))
      · refine yq39 ?_; refine yq89 ?_; refine TQ.setF (d := 46) rfl (by omega) ?_; refine yq4 ?_; refine yq4 ?_; refine yq4 ?_; refine yq132 ?_; refine yq193 ?_; (exact K _ _ _ zq8 (by repeat (first | exact Sel.refl _ | exact Sel.nil | (refine Sel.cons zq1 ?_) | (refine Sel.app zq1 ?_) | exact Sel.one zq1)))
    intro q3
    skip
    refine T.cond rfl (fun hc3 => ?_) (fun hc3 => ?_)
    · refine yq2 ?_; refine yq55 ?_
      exact T.retF (Lv.fin (RV.tmp2 rfl rfl rfl) ⟨_, _, rfl⟩)
    refine T.skip ?_; refine yq25 ?_; refine yq73 ?_; refine yq185 ?_; refine sv (PV.sliceH rfl rfl (by omega)) ?_; refine sv (PV.lenSl rfl) ?_; refine yq80 ?_
    have hcast : ((i : Int) + 1).toNat = i + 1 := by omega
    rw [hcast]
    refine T.loopK [(63, Value.int IntKind.i64 (↑(i + 1) : Int)), (62, Value.slice (some { block := bx, off := off }) (i + 1) cr), (4, Value.int IntKind.i64 (↑i : Int)), (5, Value.pointer (some { block := b5, off := 0 })), (17, Value.int IntKind.i64 (↑i : Int)), (16, Value.int IntKind.i64 (↑c.rg.length : Int)), (15, Value.slice (some { block := bx, off := off }) c.rg.length cr), (1, Value.pointer (some { block := b1, off := 0 }))] zq8 (γ := Nat × Nat) (fun g => g.1 ≤ i + 1 ∧ g.2 ≤ g.1) (fun g => [(64, .int .i64 (g.1 : Int)), (7, .int .i64 (g.2 : Int))]) (fun _ => _) (fun _ => H) (fun g => i + 1 - g.1) (0, 0) ⟨by simp, by simp⟩ zq8 (Sel.refl _) rfl ?_
    rintro ⟨j, d⟩ ⟨hj0, hd0⟩
    dsimp only at hj0 hd0 ⊢
    by_cases hj : j < i + 1
    · obtain ⟨_, _, y, e, hy, hsub2⟩ := RowL.get encRg_len hr.1 (i := j) (by omega)
      injection e with e
      injection e with e1 e2
      subst e1 e2
      unfold encRg at hsub2
      obtain ⟨am2, cm2, hmv2⟩ := (hr.2 y (List.mem_of_getElem? hy)).1.len
      rw [hmv2] at hsub2
      refine yq155 ?_; refine sy fun b9 => ?_; refine sa ?_; refine yq13 ?_
      (repeat refine sq ?_)
      refine T.cutB [(8, Value.int IntKind.i64 (↑j : Int)), (9, Value.pointer (some { block := b9, off := 0 })), (64, Value.int IntKind.i64 (↑j : Int)), (7, Value.int IntKind.i64 (↑d : Int)), (63, Value.int IntKind.i64 (↑(i + 1) : Int)), (62, Value.slice (some { block := bx, off := off }) (i + 1) cr), (4, Value.int IntKind.i64 (↑i : Int)), (5, Value.pointer (some { block := b5, off := 0 })), (17, Value.int IntKind.i64 (↑i : Int)), (16, Value.int IntKind.i64 (↑c.rg.length : Int)), (15, Value.slice (some { block := bx, off := off }) c.rg.length cr), (1, Value.pointer (some { block := b1, off := 0 }))] 80 ?_ fun K => ?_
      rotate_left
      · refine sr ?_; refine yq148 ?_; refine sv (PV.leq rfl rfl) ?_; refine sm ?_
        refine T.splitD (d := 74) rfl (fun h0 => ?_) (fun h0 => ?_)
        · refine yq161 ?_; refine yq134 ?_; refine so ?_; (exact K _ _ _ zq8 (by repeat (first | exact Sel.refl _ | exact Sel.nil | (refine Sel.cons zq1 ?_) | (refine Sel.app zq1 ?_) | exact Sel.one zq1)))
        · refine yq143 ?_; refine sF ?_; refine so ?_; (exact K _ _ _ zq8 (by repeat (first | exact Sel.refl _ | exact Sel.nil | (refine Sel.cons zq1 ?_) | (refine Sel.app zq1 ?_) | exact Sel.one zq1)))
      intro q4
      refine T.cutG [(8, Value.int IntKind.i64 (↑j : Int)), (9, Value.pointer (some { block := b9, off := 0 })), (64, Value.int IntKind.i64 (↑j : Int)), (63, Value.int IntKind.i64 (↑(i + 1) : Int)), (62, Value.slice (some { block := bx, off := off }) (i + 1) cr), (4, Value.int IntKind.i64 (↑i : Int)), (5, Value.pointer (some { block := b5, off := 0 })), (17, Value.int IntKind.i64 (↑i : Int)), (16, Value.int IntKind.i64 (↑c.rg.length : Int)), (15, Value.slice (some { block := bx, off := off }) c.rg.length cr), (1, Value.pointer (some { block := b1, off := 0 }))] (γ := Nat) (fun d => d ≤ j + 1) (fun d => [(7, .int .i64 (d : Int))]) ?_ fun K => ?_
      rotate_left
      · refine T.cond rfl (fun hc4 => ?_) (fun hc4 => ?_)
        · refine yq81 ?_; refine yq63 ?_; (exact K (d + 1) _ _ (by omega) zq8 (Sel.refl _))
        · refine T.skip ?_; (exact K d _ _ (by omega) zq8 (Sel.refl _))
      intro d2 hd2
      skip
      (repeat refine sq ?_)
      refine T.cutB [(7, Value.int IntKind.i64 (↑d2 : Int)), (64, Value.int IntKind.i64 (↑j : Int)), (63, Value.int IntKind.i64 (↑(i + 1) : Int)), (62, Value.slice (some { block := bx, off := off }) (i + 1) cr), (4, Value.int IntKind.i64 (↑i : Int)), (5, Value.pointer (some { block := b5, off := 0 })), (17, Value.int IntKind.i64 (↑i : Int)), (16, Value.int IntKind.i64 (↑c.rg.length : Int)), (15, Value.slice (some { block := bx, off := off }) c.rg.length cr), (1, Value.pointer (some { block := b1, off := 0 }))] 136 ?_ fun K => ?_
      rotate_left
      · refine yq81 ?_; refine sm ?_; refine yq49 ?_
        refine T.splitD (d := 86) rfl (fun h0 => ?_) (fun h0 => ?_)
        · refine yq161 ?_; refine gv (PV.seql rfl rfl) ?_; refine yq141 ?_
          refine T.splitD (d := 93) rfl (fun h1 => ?_) (fun h1 => ?_)
          · refine yq161 ?_; refine yq134 ?_; refine sm ?_
            refine T.splitD (d := 100) rfl (fun h2 => ?_) (fun h2 => ?_)
            · refine yq161 ?_; refine yq134 ?_; refine sm ?_
              refine T.splitD (d := 107) rfl (fun h3 => ?_) (fun h3 => ?_)
              · refine yq29 ?_; refine yq97 ?_; refine gm ?_
                refine T.splitD (d := 113) rfl (fun h4 => ?_) (fun h4 => ?_)
                · refine yq29 ?_; refine yq97 ?_; refine yq189 ?_; refine yq141 ?_
                  refine T.splitB (d := 122) rfl (fun h5 => ?_) (fun h5 => ?_)
                  · refine yq29 ?_; refine yq97 ?_; refine gm ?_
                    refine T.splitD (d := 128) rfl (fun h6 => ?_) (fun h6 => ?_)
                    · refine yq29 ?_; refine yq97 ?_; refine yq189 ?_; refine sT ?_; refine so ?_; (exact K _ _ _ zq8 (by repeat (first | exact Sel.refl _ | exact Sel.nil | (refine Sel.cons zq1 ?_) | (refine Sel.app zq1 ?_) | exact Sel.one zq1)))
                    · refine yq143 ?_; refine gv (PV.pickF rfl rfl rfl) ?_; refine gv (PV.not rfl) ?_; refine sT ?_; refine so ?_; (exact K _ _ _ zq8 (by repeat (first | exact Sel.refl _ | exact Sel.nil | (refine Sel.cons zq1 ?_) | (refine Sel.app zq1 ?_) | exact Sel.one zq1)))
                  · refine yq149 ?_; refine yq177 ?_; refine su ?_; refine yq8 ?_; refine sF ?_; refine so ?_; (exact K _ _ _ zq8 (by repeat (first | exact Sel.refl _ | exact Sel.nil | (refine Sel.cons zq1 ?_) | (refine Sel.app zq1 ?_) | exact Sel.one zq1)))
                · refine yq143 ?_; refine gv (PV.pickF rfl rfl rfl) ?_; refine gv (PV.not rfl) ?_; refine yq141 ?_; refine yq29 ?_; refine yq97 ?_; refine gm ?_; refine T.setT (d := 128) rfl (by omega) ?_; refine yq29 ?_; refine yq97 ?_; refine yq189 ?_; refine sT ?_; refine so ?_; (exact K _ _ _ zq8 (by repeat (first | exact Sel.refl _ | exact Sel.nil | (refine Sel.cons zq1 ?_) | (refine Sel.app zq1 ?_) | exact Sel.one zq1)))
              · refine yq149 ?_; refine yq177 ?_; refine su ?_; refine yq8 ?_; refine yq90 ?_; refine yq149 ?_; refine yq177 ?_; refine su ?_; refine yq8 ?_; refine sF ?_; refine so ?_; (exact K _ _ _ zq8 (by repeat (first | exact Sel.refl _ | exact Sel.nil | (refine Sel.cons zq1 ?_) | (refine Sel.app zq1 ?_) | exact Sel.one zq1)))
            · refine yq143 ?_; refine yq90 ?_; refine yq149 ?_; refine yq177 ?_; refine su ?_; refine yq8 ?_; refine yq90 ?_; refine yq149 ?_; refine yq177 ?_; refine su ?_; refine yq8 ?_; refine sF ?_; refine so ?_; (exact K _ _ _ zq8 (by repeat (first | exact Sel.refl _ | exact Sel.nil | (refine Sel.cons zq1 ?_) | (refine Sel.app zq1 ?_) | exact Sel.one zq1)))
          · refine yq143 ?_; refine yq90 ?_; refine yq143 ?_; refine yq90 ?_; refine yq149 ?_; refine yq177 ?_; refine su ?_; refine yq8 ?_; refine yq90 ?_; refine yq149 ?_; refine yq177 ?_; refine su ?_
            refine yq8 ?_; refine sF ?_; refine so ?_; (exact K _ _ _ zq8 (by repeat (first | exact Sel.refl _ | exact Sel.nil | (refine Sel.cons zq1 ?_) | (refine Sel.app zq1 ?_) | exact Sel.one zq1)))
        · refine yq143 ?_; refine yq90 ?_; refine yq143 ?_; refine yq90 ?_; refine yq143 ?_; refine yq90 ?_; refine yq149 ?_; refine yq177 ?_; refine su ?_; refine yq8 ?_; refine yq90 ?_; refine yq66 ?_
          refine yq8 ?_; refine yq177 ?_; refine su ?_; refine yq8 ?_; refine sF ?_; refine so ?_; (exact K _ _ _ zq8 (by repeat (first | exact Sel.refl _ | exact Sel.nil | (refine Sel.cons zq1 ?_) | (refine Sel.app zq1 ?_) | exact Sel.one zq1)))
      intro q5
      skip
      refine T.cond rfl (fun hc4 => ?_) (fun hc4 => ?_)
      · refine yq2 ?_; refine yq55 ?_
        exact T.retF (Lv.fin (RV.tmp2 rfl rfl rfl) ⟨_, _, rfl⟩)
      refine T.skip ?_; refine yq61 ?_
      exact T.nextP (j + 1, d2) ⟨by dsimp only; omega, by dsimp only; omega⟩ (by dsimp only; omega) zq8 (by repeat (first | exact Sel.refl _ | exact Sel.nil | (refine Sel.cons zq1 ?_) | (refine Sel.app zq1 ?_) | exact Sel.one zq1)) rfl
    · refine yq74 ?_; refine yq2 ?_; refine sv (PV.gtr rfl rfl) ?_; refine so ?_
      refine T.condD rfl (fun h0 => ?_) (fun h0 => ?_)
      · refine yq2 ?_; refine yq55 ?_
        (first | exact T.retF (Lv.fin (RV.tmp2 rfl rfl rfl) ⟨_, _, rfl⟩) | exact T.nextR (by omega) rfl zq8 (by repeat (first | exact Sel.refl _ | exact Sel.nil | (refine Sel.cons zq1 ?_) | (refine Sel.app zq1 ?_) | exact Sel.one zq1)))
      · refine T.skip ?_; refine yq61 ?_
        (first | exact T.retF (Lv.fin (RV.tmp2 rfl rfl rfl) ⟨_, _, rfl⟩) | exact T.nextR (by omega) rfl zq8 (by repeat (first | exact Sel.refl _ | exact Sel.nil | (refine Sel.cons zq1 ?_) | (refine Sel.app zq1 ?_) | exact Sel.one zq1)))
  · refine yq74 ?_; refine yq136 ?_
    exact T.retF (Lv.fin (RV.tmp2 rfl rfl rfl) ⟨_, _, rfl⟩)
theorem bare_fn (l : List Int) (m : List ByteArray) (u v : Value) (H : Hp) (hu : InL H u l) (hv : StL H v m) (hlm : l.length = m.length) (hlb : l.length ≤ 1000) : Fn Tryz.prog 138 #[u, v] H (fun u _ => IsB u) := by
  obtain ⟨au, cu, rfl⟩ := hu.len
  obtain ⟨av, cv, rfl⟩ := hv.len
  refine Fn.of_T (vs := [.slice au l.length cu, .slice av m.length cv]) Tryz.func138 rfl rfl fun w => ?_; refine yq25 ?_; refine yq112 ?_; refine T.loopR [(7, Value.int IntKind.i64 (↑l.length : Int)), (0, Value.slice au l.length cu), (1, Value.slice av m.length cv)] zq8 8 l.length rfl ?_
  intro i hi0
  by_cases hi : i < l.length
  · obtain ⟨b, off, x, rfl, hix, hsub⟩ := RowL.get encI_len hu hi
    obtain ⟨b2, off2, y, rfl, hiy, hsub2⟩ := RowL.get encT_len hv (i := i) (by omega)
    unfold encI at hsub
    unfold encT at hsub2
    by_cases h1 : x ≠ -1
    · refine yq87 ?_; refine yq56 ?_; refine sm ?_; refine yq15 ?_; refine sv (PV.neq rfl rfl) ?_; refine sm ?_; refine T.setT (d := 16) rfl (by omega) ?_; refine yq143 ?_; refine yq157 ?_; refine yq25 ?_
      exact T.retF (Lv.fin (RV.tmp rfl rfl) ⟨_, rfl⟩)
    · refine yq87 ?_; refine yq56 ?_; refine sm ?_; refine yq15 ?_; refine sv (PV.neq rfl rfl) ?_; refine sm ?_; refine T.setF (d := 16) rfl (by omega) ?_; refine gm ?_; refine gm ?_; refine gv (PV.indexAddr rfl rfl (by omega)) ?_; refine gv (PV.loadSub0 rfl (by assumption)) ?_; refine gv (PV.sneq rfl rfl) ?_; refine sF ?_; refine so ?_
      refine T.condD rfl (fun h0 => ?_) (fun h0 => ?_)
      · refine yq25 ?_
        (first | exact T.retF (Lv.fin (RV.tmp rfl rfl) ⟨_, rfl⟩) | exact T.nextR (by omega) rfl zq8 (by repeat (first | exact Sel.refl _ | exact Sel.nil | (refine Sel.cons zq1 ?_) | (refine Sel.app zq1 ?_) | exact Sel.one zq1)))
      · refine T.skip ?_; refine yq61 ?_
        (first | exact T.retF (Lv.fin (RV.tmp rfl rfl) ⟨_, rfl⟩) | exact T.nextR (by omega) rfl zq8 (by repeat (first | exact Sel.refl _ | exact Sel.nil | (refine Sel.cons zq1 ?_) | (refine Sel.app zq1 ?_) | exact Sel.one zq1)))
  · refine yq195 ?_
    exact T.retF (Lv.fin (RV.tmp rfl rfl) ⟨_, rfl⟩)
theorem cyclic_fn (l : List Int) (u : Value) (p : Int) (H : Hp) (hu : InL H u l) (hp : 0 ≤ p ∧ p < l.length) (hlb : l.length ≤ 1000) : Fn Tryz.prog 140 #[u, .int .i64 p] H (fun u _ => IsB u) := by
  obtain ⟨au, cu, rfl⟩ := hu.len
  refine Fn.of_T (vs := [.slice au l.length cu, .int .i64 p]) Tryz.func140 rfl rfl fun w => ?_; refine zs3 ?_; refine yq56 ?_; refine yq0 ?_; refine yq112 ?_; refine T.loopK [(8, Value.int IntKind.i64 (↑l.length : Int)), (0, Value.slice au l.length cu), (1, Value.int IntKind.i64 p)] zq8 (γ := Nat × Int) (fun g => g.1 ≤ l.length ∧ 0 ≤ g.2 ∧ g.2 < l.length) (fun g => [(9, .int .i64 (g.1 : Int)), (5, .int .i64 g.2)]) (fun _ => []) (fun _ => H) (fun g => l.length - g.1) (0, p) ⟨by simp, hp.1, hp.2⟩ zq8 (Sel.refl _) rfl ?_
  rintro ⟨i, q⟩ ⟨hi0, hq0, hq1⟩
  dsimp only at hi0 hq0 hq1 ⊢
  by_cases hi : i < l.length
  · obtain ⟨b, off, x, rfl, hix, hsub⟩ := RowL.get encI_len hu (i := q.toNat) (by omega)
    unfold encI at hsub
    by_cases h1 : x < 0
    · refine yq87 ?_; refine sm ?_; refine yq15 ?_; refine yq127 ?_; refine yq49 ?_; refine T.setT (d := 17) rfl (by omega) ?_; refine yq66 ?_; refine yq157 ?_; refine yq25 ?_
      exact T.retF (Lv.fin (RV.tmp rfl rfl) ⟨_, rfl⟩)
    · by_cases h2 : (l.length : Int) ≤ x
      · refine yq87 ?_; refine sm ?_; refine yq15 ?_; refine yq127 ?_; refine yq49 ?_; refine T.setF (d := 17) rfl (by omega) ?_; refine gm ?_; refine yq114 ?_; refine gv (PV.geq rfl rfl) ?_; refine sF ?_; refine yq46 ?_; refine yq25 ?_
        exact T.retF (Lv.fin (RV.tmp rfl rfl) ⟨_, rfl⟩)
      · refine yq87 ?_; refine sm ?_; refine yq15 ?_; refine yq127 ?_; refine yq49 ?_; refine T.setF (d := 17) rfl (by omega) ?_; refine gm ?_; refine yq114 ?_; refine gv (PV.geq rfl rfl) ?_; refine sF ?_; refine yq88 ?_; refine yq137 ?_; refine sv (PV.eql rfl rfl) ?_; refine so ?_
        refine T.condD rfl (fun hc4 => ?_) (fun hc4 => ?_)
        · refine yq25 ?_
          exact T.retF (Lv.fin (RV.tmp rfl rfl) ⟨_, rfl⟩)
        · refine T.skip ?_; refine yq61 ?_
          exact T.nextP (i + 1, x) ⟨by dsimp only; omega, by dsimp only; omega, by dsimp only; omega⟩ (by dsimp only; omega) zq8 (by repeat (first | exact Sel.refl _ | exact Sel.nil | (refine Sel.cons zq1 ?_) | (refine Sel.app zq1 ?_) | exact Sel.one zq1)) rfl
  · refine yq195 ?_
    exact T.retF (Lv.fin (RV.tmp rfl rfl) ⟨_, rfl⟩)
theorem heads6_fn (c : Cp) (H : Hp) (hc : CpL H c) : Fn Tryz.prog 114 #[cpV c] H (fun u _ => IsII u) := by
  have hta := fun p => textAt_fn c p H hc
  obtain ⟨aa, ca, at1, ct, ax, cx, ar, cr, an, cn, ah, ch, as1, cs, hcv, ha, ht, hx, hr, hn, hh, hs⟩ := hc.open; rw [hcv]; have hla := hc.la; have hlt := hc.lt; have hlx := hc.lx; have hlr := hc.lr; have hln := hc.ln; have hlh := hc.lh; have hls := hc.ls
  rw [hcv] at hta
  refine Fn.of_T (vs := [.agg #[.slice aa c.att.length ca, .slice at1 c.tk.length ct, .slice ax c.tx.length cx, .slice ar c.rg.length cr, .slice an c.nd.length cn, .slice ah c.hd.length ch, .slice as1 c.rl.length cs]]) Tryz.func114 rfl rfl fun w => ?_
  by_cases h1 : c.hd.length ≠ c.rl.length
  · refine zs3 ?_; (refine T.box Wanted.none rfl rfl zq15 ?_; intro b1); refine sa ?_; refine yq23 ?_; refine yq106 ?_; refine yq127 ?_; refine yq106 ?_; refine sv (PV.neq rfl rfl) ?_; refine sm ?_; refine T.setT (d := 15) rfl (by omega) ?_; refine yq8 ?_; refine sp ?_; refine yq177 ?_; refine su ?_; refine sp ?_; refine yq157 ?_; refine yq136 ?_
    exact T.retF (Lv.fin (RV.tmp2 rfl rfl rfl) ⟨_, _, rfl⟩)
  refine zs3 ?_; (refine T.box Wanted.none rfl rfl zq15 ?_; intro b1); refine sa ?_; refine yq23 ?_; refine yq106 ?_; refine yq0 ?_
  (repeat refine sq ?_)
  refine T.cutB [(4, Value.int IntKind.i64 (↑c.hd.length : Int)), (1, Value.pointer (some { block := b1, off := 0 }))] 25 ?_ fun K => ?_
  rotate_left
  · refine yq81 ?_; refine yq106 ?_; refine sv (PV.neq rfl rfl) ?_; refine sm ?_; refine T.setF (d := 15) rfl (by omega) ?_; refine gm ?_; refine gv (PV.neq rfl rfl) ?_; refine gm ?_
    refine T.splitD (d := 18) rfl (fun h0 => ?_) (fun h0 => ?_)
    · refine gm ?_; refine yq96 ?_; refine gv (PV.neq rfl rfl) ?_; refine gv (PV.pickT rfl rfl rfl) ?_; refine sF ?_; refine so ?_; (exact K _ _ _ zq8 (by repeat (first | exact Sel.refl _ | exact Sel.nil | (refine Sel.cons zq1 ?_) | (refine Sel.app zq1 ?_) | exact Sel.one zq1)))
    · refine yq143 ?_; refine gv (PV.pickF rfl rfl rfl) ?_; refine sF ?_; refine so ?_; (exact K _ _ _ zq8 (by repeat (first | exact Sel.refl _ | exact Sel.nil | (refine Sel.cons zq1 ?_) | (refine Sel.app zq1 ?_) | exact Sel.one zq1)))
  intro q0
  skip
  refine T.cond rfl (fun hc0 => ?_) (fun hc0 => ?_)
  · refine yq136 ?_
    exact T.retF (Lv.fin (RV.tmp2 rfl rfl rfl) ⟨_, _, rfl⟩)
  refine T.skip ?_
  (repeat refine sq ?_)
  refine T.cutB [(4, Value.int IntKind.i64 (↑c.hd.length : Int)), (1, Value.pointer (some { block := b1, off := 0 }))] 34 ?_ fun K => ?_
  rotate_left
  · by_cases h3 : c.hd.length = 0
    · refine yq81 ?_; refine sv (PV.gtr rfl rfl) ?_; refine sm ?_; refine T.setF (d := 28) rfl (by omega) ?_; refine yq143 ?_; refine sF ?_; refine so ?_; (exact K _ _ _ zq8 (by repeat (first | exact Sel.refl _ | exact Sel.nil | (refine Sel.cons zq1 ?_) | (refine Sel.app zq1 ?_) | exact Sel.one zq1)))
    · refine yq81 ?_; refine sv (PV.gtr rfl rfl) ?_; refine sm ?_; refine T.setT (d := 28) rfl (by omega) ?_; refine yq161 ?_; (refine T.callX (Wanted.guard rfl rfl rfl) rfl rfl (bare_fn c.hd c.rl _ _ H hh hs (by omega) hlh) ?_; rintro _ ⟨b33, rfl⟩); refine sT ?_; refine so ?_; (exact K _ _ _ zq8 (by repeat (first | exact Sel.refl _ | exact Sel.nil | (refine Sel.cons zq1 ?_) | (refine Sel.app zq1 ?_) | exact Sel.one zq1)))
  intro q
  skip
  refine T.cond rfl (fun hc0 => ?_) (fun hc0 => ?_)
  · refine yq136 ?_
    exact T.retF (Lv.fin (RV.tmp2 rfl rfl rfl) ⟨_, _, rfl⟩)
  refine T.skip ?_; refine yq129 ?_; refine yq80 ?_; refine T.loopR [(37, Value.int IntKind.i64 (↑c.hd.length : Int)), (36, Value.slice ah c.hd.length ch), (4, Value.int IntKind.i64 (↑c.hd.length : Int)), (1, Value.pointer (some { block := b1, off := 0 }))] zq8 38 c.hd.length rfl ?_
  intro i hi0
  by_cases hi : i < c.hd.length
  · obtain ⟨b, off, x, rfl, hix, hsub⟩ := RowL.get encI_len hh hi
    obtain ⟨b2, off2, y, rfl, hiy, hsub2⟩ := RowL.get encT_len hs (i := i) (by omega)
    unfold encI at hsub
    unfold encT at hsub2
    refine yq87 ?_; refine yq15 ?_; refine yq55 ?_
    (repeat refine sq ?_)
    refine T.cutB [(5, Value.int IntKind.i64 (↑i : Int)), (38, Value.int IntKind.i64 (↑i : Int)), (37, Value.int IntKind.i64 (↑c.hd.length : Int)), (36, Value.slice (some { block := b, off := off }) c.hd.length ch), (4, Value.int IntKind.i64 (↑c.hd.length : Int)), (1, Value.pointer (some { block := b1, off := 0 }))] 62 ?_ fun K => ?_
    rotate_left
    · refine yq39 ?_; refine TQ.pv (PV.neq rfl rfl) Wanted.none rfl rfl ?_; refine TQ.pv (PV.move rfl) Wanted.none rfl rfl ?_
      refine TQ.splitD (d := 45) rfl (fun h0 => ?_) (fun h0 => ?_)
      · refine TQ.pv (PV.move rfl) (Wanted.guard rfl rfl rfl) rfl rfl ?_; refine TQ.pv (PV.lss rfl rfl) (Wanted.guard rfl rfl rfl) rfl rfl ?_; refine TQ.pv (PV.move rfl) (Wanted.guard rfl rfl rfl) rfl rfl ?_
        refine TQ.splitD (d := 48) rfl (fun h1 => ?_) (fun h1 => ?_)
        · refine yq132 ?_; refine TQ.pv (PV.pickT rfl rfl rfl) (Wanted.guard rfl rfl rfl) rfl rfl ?_; refine TQ.pv (PV.move rfl) (Wanted.guard rfl rfl rfl) rfl rfl ?_; refine yq4 ?_; refine yq4 ?_; refine yq132 ?_; refine TQ.pv (PV.pickT rfl rfl rfl) (Wanted.guard rfl rfl rfl) rfl rfl ?_; refine yq144 ?_; (exact K _ _ _ zq8 (by repeat (first | exact Sel.refl _ | exact Sel.nil | (refine Sel.cons zq1 ?_) | (refine Sel.app zq1 ?_) | exact Sel.one zq1)))
        · refine yq124 ?_; refine TQ.pv (PV.geq rfl rfl) (Wanted.guard rfl rfl rfl) rfl rfl ?_; refine TQ.pv (PV.pickF rfl rfl rfl) (Wanted.guard rfl rfl rfl) rfl rfl ?_; refine TQ.pv (PV.move rfl) (Wanted.guard rfl rfl rfl) rfl rfl ?_
          refine TQ.splitD (d := 53) rfl (fun h2 => ?_) (fun h2 => ?_)
          · refine yq4 ?_; refine yq4 ?_; refine yq132 ?_; refine TQ.pv (PV.pickT rfl rfl rfl) (Wanted.guard rfl rfl rfl) rfl rfl ?_; refine yq144 ?_; (exact K _ _ _ zq8 (by repeat (first | exact Sel.refl _ | exact Sel.nil | (refine Sel.cons zq1 ?_) | (refine Sel.app zq1 ?_) | exact Sel.one zq1)))
          · refine TQ.pv (PV.loadAll rfl zq0 (by exact rfl)) (Wanted.guard rfl rfl rfl) rfl rfl ?_; refine TQ.pv (PV.move rfl) (Wanted.guard rfl rfl rfl) rfl rfl ?_; refine TQ.callV (Wanted.guard rfl rfl rfl) rfl rfl (hta _) ?_; refine TQ.pv (PV.loadAll rfl zq0 (by exact rfl)) (Wanted.guard rfl rfl rfl) rfl rfl ?_; refine TQ.pv (PV.move rfl) (Wanted.guard rfl rfl rfl) rfl rfl ?_; refine TQ.callV (Wanted.guard rfl rfl rfl) rfl rfl (hta _) ?_; refine TQ.pv (PV.neq rfl rfl) (Wanted.guard rfl rfl rfl) rfl rfl ?_; refine TQ.pv (PV.pickF rfl rfl rfl) (Wanted.guard rfl rfl rfl) rfl rfl ?_; refine yq144 ?_; (exact K _ _ _ zq8 (by repeat (first | exact Sel.refl _ | exact Sel.nil | (refine Sel.cons zq1 ?_) | (refine Sel.app zq1 ?_) | exact Sel.one zq1)))
      · refine yq132 ?_; refine yq48 ?_; refine TQ.pass (Unwanted.undef rfl rfl) rfl rfl ?_; refine yq4 ?_; refine yq48 ?_; refine yq48 ?_; refine yq48 ?_; refine TQ.pass (Unwanted.undef rfl rfl) rfl rfl ?_; refine TQ.pass (Unwanted.guard rfl rfl rfl) rfl rfl ?_; refine yq193 ?_; (exact K _ _ _ zq8 (by repeat (first | exact Sel.refl _ | exact Sel.nil | (refine Sel.cons zq1 ?_) | (refine Sel.app zq1 ?_) | exact Sel.one zq1)))
    intro q2
    skip
    refine T.cond rfl (fun hc0 => ?_) (fun hc0 => ?_)
    · refine yq2 ?_; refine yq55 ?_
      exact T.retF (Lv.fin (RV.tmp2 rfl rfl rfl) ⟨_, _, rfl⟩)
    refine T.skip ?_
    (repeat refine sq ?_)
    refine T.cutB [(5, Value.int IntKind.i64 (↑i : Int)), (38, Value.int IntKind.i64 (↑i : Int)), (37, Value.int IntKind.i64 (↑c.hd.length : Int)), (36, Value.slice (some { block := b, off := off }) c.hd.length ch), (4, Value.int IntKind.i64 (↑c.hd.length : Int)), (1, Value.pointer (some { block := b1, off := 0 }))] 78 ?_ fun K => ?_
    rotate_left
    · refine sr ?_; refine yq5 ?_; refine sm ?_; refine yq15 ?_; refine sv (PV.sneq rfl rfl) ?_; refine sm ?_
      refine T.splitD (d := 70) rfl (fun h0 => ?_) (fun h0 => ?_)
      · refine yq29 ?_; refine gm ?_; refine gv (PV.indexAddr rfl rfl (by omega)) ?_; refine gv (PV.loadSub0 rfl (by assumption)) ?_; (refine T.callX (Wanted.guard rfl rfl rfl) rfl rfl ((name4_fn _ _).mono (R' := fun u _ => IsB u) fun u _ h => ⟨_, h⟩) ?_; rintro _ ⟨b76, rfl⟩); refine gv (PV.not rfl) ?_; refine sT ?_; refine so ?_; (exact K _ _ _ zq8 (by repeat (first | exact Sel.refl _ | exact Sel.nil | (refine Sel.cons zq1 ?_) | (refine Sel.app zq1 ?_) | exact Sel.one zq1)))
      · refine yq149 ?_; refine sp ?_; refine sF ?_; refine so ?_; (exact K _ _ _ zq8 (by repeat (first | exact Sel.refl _ | exact Sel.nil | (refine Sel.cons zq1 ?_) | (refine Sel.app zq1 ?_) | exact Sel.one zq1)))
    intro q3
    skip
    refine T.cond rfl (fun hc0 => ?_) (fun hc0 => ?_)
    · refine yq2 ?_; refine yq55 ?_
      exact T.retF (Lv.fin (RV.tmp2 rfl rfl rfl) ⟨_, _, rfl⟩)
    refine T.skip ?_; refine yq41 ?_; refine sm ?_; refine T.callX Wanted.none rfl rfl (cyclic_fn c.hd _ (i : Int) H hh (by omega) hlh) ?_
    rintro _ ⟨q4, rfl⟩
    refine so ?_
    refine T.cond rfl (fun hc0 => ?_) (fun hc0 => ?_)
    · refine yq2 ?_; refine yq55 ?_
      exact T.retF (Lv.fin (RV.tmp2 rfl rfl rfl) ⟨_, _, rfl⟩)
    · refine T.skip ?_; refine yq61 ?_
      exact T.nextR (by omega) rfl zq8 (by repeat (first | exact Sel.refl _ | exact Sel.nil | (refine Sel.cons zq1 ?_) | (refine Sel.app zq1 ?_) | exact Sel.one zq1))
  · refine yq74 ?_; refine yq136 ?_
    exact T.retF (Lv.fin (RV.tmp2 rfl rfl rfl) ⟨_, _, rfl⟩)
end Go.Proofs.YthacphfjchpoaaaGreatDoor
