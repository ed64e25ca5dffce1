/- lines: the value of a key. -/
import Derived.Test.YtlklcjpmfjmenaaGreatDoorGH
import Derived.Test.YtlklcjpmfjmenaaGreatDoorGI
namespace Go.Proofs.YtlklcjpmfjmenaaGreatDoor
open Go.RowKit

/-- what the lines ask of a corpus: tokens as wide as the attributes, texts within the tokens -/
structure CpW (c : Cp) : Prop where
  w : ∀ t ∈ c.tk, t.ss.length = c.att.length
  tx : ∀ t ∈ c.tx, 0 ≤ t.b ∧ t.b < t.e ∧ t.e ≤ c.tk.length
structure Ky where
  at_ : Int
  off : Int
  lb : ByteArray
  nm : ByteArray
  fold : Bool
  back : Bool
  fall : Bool
def kyV (k : Ky) : Value := .agg #[.int .i64 k.at_, .int .i64 k.off, .string k.lb, .string k.nm, .bool k.fold, .bool k.back, .bool k.fall]
def encKy (k : Ky) : List Value := [.int .i64 k.at_, .int .i64 k.off, .string k.lb, .string k.nm, .bool k.fold, .bool k.back, .bool k.fall]
theorem encKy_len (k : Ky) : (encKy k).length = 7 := rfl
def lbI (lb : List ByteArray) (s : ByteArray) : Int := ixI (fun x => decide (x = s)) lb
def lbAt (lb : List ByteArray) (m : Mt) (s : ByteArray) : Int := if lbI lb s < 0 then -1 else (m.ls[(lbI lb s).toNat]?).getD 0
def atP (lb : List ByteArray) (m : Mt) (a : Int) (s : ByteArray) : Int := if a = 1 then m.b else if a = 2 then m.e - 1 else if a = 3 then lbAt lb m s else -1
def posP (lb : List ByteArray) (m : Mt) (t : Rg) (a off : Int) (s : ByteArray) : Int :=
  if atP lb m a s < 0 ∨ off < t.b - atP lb m a s ∨ t.e - atP lb m a s ≤ off then -1 else atP lb m a s + off
def tkS (c : Cp) (i a : Int) : ByteArray := ((c.tk[i.toNat]?).bind fun t => t.ss[a.toNat]?).getD (bs [])
def fb1 (k : Ky) (s : ByteArray) : ByteArray := if k.fold then ⟨(foldL s).toArray⟩ else s
def fb2 (k : Ky) (s : ByteArray) : ByteArray := if k.back then ⟨(revL s).toArray⟩ else s
def valO (c : Cp) (lb : List ByteArray) (m : Mt) (k : Ky) : ByteArray := match fitO c m with
  | none => bs []
  | some t => if attI c.att k.nm < 0 ∨ lb.length ≠ m.ls.length ∨ posP lb m t k.at_ k.off k.lb < 0 then bs [] else fb2 k (fb1 k (tkS c (posP lb m t k.at_ k.off k.lb) (attI c.att k.nm)))
theorem atP_le {lb : List ByteArray} {m : Mt} {a : Int} {s : ByteArray} {n : Nat} (h1 : 0 ≤ m.b ∧ m.b < m.e ∧ m.e ≤ n) (h2 : ∀ x ∈ m.ls, -1 ≤ x ∧ x < n) : -1 ≤ atP lb m a s ∧ atP lb m a s < n := by
  have hl : -1 ≤ lbAt lb m s ∧ lbAt lb m s < n := by
    unfold lbAt
    split
    · omega
    · cases h : m.ls[(lbI lb s).toNat]? with
      | none => simp; omega
      | some x => have := h2 x (List.mem_of_getElem? h); simpa using this
  unfold atP
  split
  · omega
  · split
    · omega
    · split
      · exact hl
      · omega
theorem index_str (l : List ByteArray) (s : ByteArray) (v : Value) (H : Hp) (hv : StL H v l) (hl : l.length ≤ 1000) : Fn Tryz.prog 85 #[v, .string s] H (fun u _ => u = .int .i64 (lbI l s)) := by
  obtain ⟨ad, cap, rfl⟩ := hv.len
  refine Fn.of_T (vs := [.slice ad l.length cap, .string s]) Tryz.func85 rfl rfl fun w => ?_
  refine sq ?_
  refine sr ?_
  refine sa ?_
  refine so ?_
  refine sq ?_
  refine sq ?_
  refine sr ?_
  refine sm ?_
  refine sv (PV.lenSl rfl) ?_
  refine sm ?_
  refine so ?_
  refine T.block ?_
  refine T.loopC [(7, Value.int IntKind.i64 (↑l.length : Int)), (0, Value.slice ad l.length cap), (1, Value.string s)] zq8 8 l.length (fun i => (l.take i).any (fun x => decide (x = s)) = false) rfl rfl ?_
  rintro i ⟨hi0, hi1⟩
  by_cases hi : i < l.length
  · obtain ⟨b, off, x, rfl, hix, hsub⟩ := RowL.get encT_len hv hi
    unfold encT at hsub
    by_cases he : s = x
    · refine sq ?_
      refine sr ?_
      refine sv (PV.lss rfl rfl) ?_
      refine so ?_
      refine sq ?_
      refine sc rfl (by omega) ?_
      refine T.skip ?_
      refine sq ?_
      refine T.block ?_
      refine sq ?_
      refine sr ?_
      refine sm ?_
      refine sa ?_
      refine so ?_
      refine sq ?_
      refine sr ?_
      refine sm ?_
      refine sm ?_
      refine sm ?_
      refine sv (PV.indexAddr rfl rfl (by omega)) ?_
      refine sv (PV.loadSub0 rfl (by assumption)) ?_
      refine sv (PV.seql rfl rfl) ?_
      refine so ?_
      refine sc rfl (by omega) ?_
      refine sq ?_
      refine sr ?_
      refine sm ?_
      refine sa ?_
      refine so ?_
      refine T.retF (Lv.fin (RV.tmp rfl rfl) ?_)
      rw [lbI, ixI_hit hi1 hix (decide_eq_true he.symm)]
    · refine sq ?_
      refine sr ?_
      refine sv (PV.lss rfl rfl) ?_
      refine so ?_
      refine sq ?_
      refine sc rfl (by omega) ?_
      refine T.skip ?_
      refine sq ?_
      refine T.block ?_
      refine sq ?_
      refine sr ?_
      refine sm ?_
      refine sa ?_
      refine so ?_
      refine sq ?_
      refine sr ?_
      refine sm ?_
      refine sm ?_
      refine sm ?_
      refine sv (PV.indexAddr rfl rfl (by omega)) ?_
      refine sv (PV.loadSub0 rfl (by assumption)) ?_
      refine sv (PV.seql rfl rfl) ?_
      refine so ?_
      refine sd rfl (by omega) ?_
      refine T.skip ?_
      refine T.blkEnd ?_
      refine sr ?_
      refine sv (PV.add rfl rfl (by omega)) ?_
      refine sm ?_
      refine so ?_
      exact T.nextC hi (ixI_drop hi1 hix (decide_eq_false fun h => he h.symm)) rfl zq8 (by repeat (first | exact Sel.refl _ | exact Sel.nil | (refine Sel.cons zq1 ?_) | (refine Sel.app zq1 ?_) | exact Sel.one zq1))
  · rw [List.take_of_length_le (by omega)] at hi1
    refine sq ?_
    refine sr ?_
    refine sv (PV.lss rfl rfl) ?_
    refine so ?_
    refine sq ?_
    refine sd rfl (by omega) ?_
    refine T.exit rfl ?_
    refine sq ?_
    refine sr ?_
    refine sa ?_
    refine so ?_
    refine T.retF (Lv.fin (RV.tmp rfl rfl) ?_)
    rw [lbI, ixI_miss hi1]
theorem contains_str (l : List ByteArray) (s : ByteArray) (v : Value) (H : Hp) (hv : StL H v l) (hl : l.length ≤ 1000) : Fn Tryz.prog 77 #[v, .string s] H (fun u _ => u = .bool (l.any fun x => decide (x = s))) := by
  have hi := index_str l s v H hv hl
  refine Fn.of_T (vs := [v, .string s]) Tryz.func77 rfl rfl fun w => ?_
  refine sq ?_
  refine sr ?_
  refine sa ?_
  refine so ?_
  refine sq ?_
  refine sr ?_
  refine sm ?_
  refine sm ?_
  refine T.callV Wanted.none rfl rfl (hi) ?_
  refine sv (PV.geq rfl rfl) ?_
  refine sa ?_
  refine so ?_
  refine T.retF (Lv.fin (RV.tmp rfl rfl) ?_)
  rw [lbI, ixI_nonneg]
theorem tokAt (c : Cp) (H : Hp) (hc : CpL H c) (hw : CpW c) {i a : Int} (hi : 0 ≤ i ∧ i < c.tk.length) (ha : 0 ≤ a ∧ a < c.att.length) : ∃ t s, c.tk[i.toNat]? = some t ∧ t.ss[a.toNat]? = some s ∧ tkS c i a = s ∧ TkOk H t ∧ t.ss.length = c.att.length ∧ s.size ≤ 4000 := by
  obtain ⟨t, ht⟩ : ∃ t, c.tk[i.toNat]? = some t := ⟨_, List.getElem?_eq_getElem (by omega)⟩
  have hm := List.mem_of_getElem? ht
  have h3 := hw.w t hm
  have hok := hc.tO t hm
  obtain ⟨s, hs⟩ : ∃ s, t.ss[a.toNat]? = some s := ⟨_, List.getElem?_eq_getElem (by omega)⟩
  exact ⟨t, s, ht, hs, by unfold tkS; rw [ht]; simp [hs], hok, h3, hok.2.2 s (List.mem_of_getElem? hs)⟩
theorem tok_in (c : Cp) (i a : Int) (H : Hp) (hc : CpL H c) (hw : CpW c) (hi : 0 ≤ i ∧ i < c.tk.length) (ha : 0 ≤ a ∧ a < c.att.length) : Fn Tryz.prog 46 #[cpV c, .int .i64 i, .int .i64 a] H (fun u _ => u = .string (tkS c i a)) := by
  obtain ⟨t, s, h1, h2, h3, h4, h5, h6⟩ := tokAt c H hc hw hi ha
  obtain ⟨aa, ca, at1, ct, ax, cx, ar, cr, an, cn, ah, ch, as1, cs, hcv, ha, ht, hx, hr, hn, hh, hs⟩ := hc.open; rw [hcv]; have hla := hc.la; have hlt := hc.lt; have hlx := hc.lx; have hlr := hc.lr; have hln := hc.ln; have hlh := hc.lh; have hls := hc.ls
  refine Fn.of_T (vs := [.agg #[.slice aa c.att.length ca, .slice at1 c.tk.length ct, .slice ax c.tx.length cx, .slice ar c.rg.length cr, .slice an c.nd.length cn, .slice ah c.hd.length ch, .slice as1 c.rl.length cs], .int .i64 i, .int .i64 a]) Tryz.func46 rfl rfl fun w => ?_
  obtain ⟨i, rfl⟩ : ∃ k : Nat, i = (k : Int) := ⟨i.toNat, by omega⟩
  obtain ⟨a, rfl⟩ : ∃ k : Nat, a = (k : Int) := ⟨a.toNat, by omega⟩
  rw [Int.toNat_natCast] at h1 h2
  obtain ⟨b, off, x, rfl, hix, hsub⟩ := RowL.get encTk_len ht (i := i) (by omega)
  rw [h1] at hix
  obtain rfl := Option.some.inj hix
  obtain ⟨av, cv, hvv⟩ := h4.1.len
  have hst := h4.1
  rw [hvv] at hst
  unfold encTk at hsub
  rw [hvv] at hsub
  obtain ⟨b2, off2, x2, rfl, hix2, hsub2⟩ := RowL.get encT_len hst (i := a) (by omega)
  rw [h2] at hix2
  obtain rfl := Option.some.inj hix2
  unfold encT at hsub2
  have g1 : ¬ (i : Int) < 0 := by omega
  have g2 : ¬ (c.tk.length : Int) ≤ (i : Int) := by omega
  have g3 : ¬ (a : Int) < 0 := by omega
  have g4 : ¬ (t.ss.length : Int) ≤ (a : Int) := by omega
  refine sq ?_
  refine sr ?_
  (refine T.box Wanted.none rfl rfl zq15 ?_; intro b3)
  refine sa ?_
  refine so ?_
  refine sq ?_
  refine sq ?_
  refine sr ?_
  refine sm ?_
  refine sv (PV.lss rfl rfl) ?_
  refine sm ?_
  refine gm ?_
  refine gf ?_
  refine gl ?_
  refine gv (PV.lenSl rfl) ?_
  refine gv (PV.geq rfl rfl) ?_
  refine sF ?_
  refine sm ?_
  refine T.setF (d := 16) rfl (by omega) ?_
  refine gm ?_
  refine gv (PV.lss rfl rfl) ?_
  refine sF ?_
  refine sm ?_
  refine gm ?_
  refine gf ?_
  refine gl ?_
  refine gm ?_
  refine gv (PV.indexAddr rfl rfl (by omega)) ?_
  refine gv (PV.loadSub0 rfl (by assumption)) ?_
  refine gv (PV.lenSl rfl) ?_
  refine gv (PV.geq rfl rfl) ?_
  refine sF ?_
  refine so ?_
  refine sd rfl (by omega) ?_
  refine T.skip ?_
  refine sq ?_
  refine sr ?_
  refine sf ?_
  refine sl ?_
  refine sm ?_
  refine sv (PV.indexAddr rfl rfl (by omega)) ?_
  refine sv (PV.loadSub0 rfl (by assumption)) ?_
  refine sm ?_
  refine sv (PV.indexAddr rfl rfl (by omega)) ?_
  refine sv (PV.loadSub0 rfl (by assumption)) ?_
  refine sa ?_
  refine so ?_
  exact T.retF (Lv.fin (RV.tmp rfl rfl) (by rw [h3]))
structure FitP (c : Cp) (m : Mt) (t : Rg) : Prop where
  t0 : 0 ≤ t.b
  tb : t.b ≤ m.b
  be : m.b < m.e
  et : m.e ≤ t.e
  tn : t.e ≤ c.tk.length
  ls : ∀ x ∈ m.ls, -1 ≤ x ∧ x < c.tk.length
theorem position_in (c : Cp) (lb : List ByteArray) (vl : Value) (m : Mt) (t : Rg) (a off : Int) (s : ByteArray) (H : Hp) (hc : CpL H c) (hf : FitP c m t) (hlb : StL H vl lb) (hll : lb.length = m.ls.length) (hl : m.ls.length ≤ 1000) (hm : LabOk H m) (hrg : RgOk H t) :
    Fn Tryz.prog 45 #[vl, mtV m, rgV t, .int .i64 a, .int .i64 off, .string s] H (fun u _ => u = .int .i64 (posP lb m t a off s)) := by
  obtain ⟨f1, f2, f3, f4, f5, f6⟩ := hf
  have hlt := hc.lt
  obtain ⟨al, cl, hmv⟩ := hm.1.len
  have hml := hm.1
  rw [hmv] at hml
  obtain ⟨am, cm, hkv⟩ := hrg.1.len
  have hix := index_str lb s vl H hlb (by omega)
  unfold mtV rgV
  rw [hmv, hkv]
  refine Fn.of_T (vs := [vl, .agg #[.int .i64 m.b, .int .i64 m.e, .slice al m.ls.length cl], .agg #[.string t.ty, .int .i64 t.b, .int .i64 t.e, .slice am t.ks.length cm], .int .i64 a, .int .i64 off, .string s]) Tryz.func45 rfl rfl fun w => ?_
  by_cases a1 : a = 1
  · subst a1
    have hA : atP lb m 1 s = m.b := rfl
    have g0 : ¬ m.b < 0 := by omega
    by_cases g1 : off < t.b - m.b
    · refine sq ?_
      refine sr ?_
      (refine T.box Wanted.none rfl rfl zq15 ?_; intro b7)
      (refine T.box Wanted.none rfl rfl zq15 ?_; intro b8)
      refine sa ?_
      refine so ?_
      refine sq ?_
      refine sr ?_
      refine sa ?_
      refine so ?_
      refine sq ?_
      refine sq ?_
      refine sr ?_
      refine sm ?_
      refine so ?_
      refine T.block ?_
      refine sq ?_
      refine sr ?_
      refine sv (PV.eql rfl rfl) ?_
      refine sa ?_
      refine so ?_
      refine T.condT rfl rfl ?_
      refine sr ?_
      refine sf ?_
      refine sl ?_
      refine sa ?_
      refine so ?_
      refine T.blkEnd ?_
      refine sq ?_
      refine sq ?_
      refine sr ?_
      refine sm ?_
      refine sv (PV.lss rfl rfl) ?_
      refine sm ?_
      refine T.setF (d := 39) rfl (by omega) ?_
      refine gm ?_
      refine gf ?_
      refine gl ?_
      refine gm ?_
      refine gv (PV.sub rfl rfl (by omega)) ?_
      refine gv (PV.lss rfl rfl) ?_
      refine sF ?_
      refine sm ?_
      refine T.setT (d := 47) rfl (by omega) ?_
      refine sp ?_
      refine sp ?_
      refine sp ?_
      refine sp ?_
      refine sp ?_
      refine sp ?_
      refine sT ?_
      refine so ?_
      refine T.condT rfl rfl ?_
      refine sq ?_
      refine sr ?_
      refine sa ?_
      refine so ?_
      exact T.retF (Lv.fin (RV.tmp rfl rfl) (by unfold posP; rw [hA, if_pos (by omega)]))
    · by_cases g2 : t.e - m.b ≤ off
      · refine sq ?_
        refine sr ?_
        (refine T.box Wanted.none rfl rfl zq15 ?_; intro b7)
        (refine T.box Wanted.none rfl rfl zq15 ?_; intro b8)
        refine sa ?_
        refine so ?_
        refine sq ?_
        refine sr ?_
        refine sa ?_
        refine so ?_
        refine sq ?_
        refine sq ?_
        refine sr ?_
        refine sm ?_
        refine so ?_
        refine T.block ?_
        refine sq ?_
        refine sr ?_
        refine sv (PV.eql rfl rfl) ?_
        refine sa ?_
        refine so ?_
        refine T.condT rfl rfl ?_
        refine sr ?_
        refine sf ?_
        refine sl ?_
        refine sa ?_
        refine so ?_
        refine T.blkEnd ?_
        refine sq ?_
        refine sq ?_
        refine sr ?_
        refine sm ?_
        refine sv (PV.lss rfl rfl) ?_
        refine sm ?_
        refine T.setF (d := 39) rfl (by omega) ?_
        refine gm ?_
        refine gf ?_
        refine gl ?_
        refine gm ?_
        refine gv (PV.sub rfl rfl (by omega)) ?_
        refine gv (PV.lss rfl rfl) ?_
        refine sF ?_
        refine sm ?_
        refine T.setF (d := 47) rfl (by omega) ?_
        refine gm ?_
        refine gf ?_
        refine gl ?_
        refine gm ?_
        refine gv (PV.sub rfl rfl (by omega)) ?_
        refine gv (PV.geq rfl rfl) ?_
        refine sF ?_
        refine so ?_
        refine sc rfl (by omega) ?_
        refine sq ?_
        refine sr ?_
        refine sa ?_
        refine so ?_
        exact T.retF (Lv.fin (RV.tmp rfl rfl) (by unfold posP; rw [hA, if_pos (by omega)]))
      · refine sq ?_
        refine sr ?_
        (refine T.box Wanted.none rfl rfl zq15 ?_; intro b7)
        (refine T.box Wanted.none rfl rfl zq15 ?_; intro b8)
        refine sa ?_
        refine so ?_
        refine sq ?_
        refine sr ?_
        refine sa ?_
        refine so ?_
        refine sq ?_
        refine sq ?_
        refine sr ?_
        refine sm ?_
        refine so ?_
        refine T.block ?_
        refine sq ?_
        refine sr ?_
        refine sv (PV.eql rfl rfl) ?_
        refine sa ?_
        refine so ?_
        refine T.condT rfl rfl ?_
        refine sr ?_
        refine sf ?_
        refine sl ?_
        refine sa ?_
        refine so ?_
        refine T.blkEnd ?_
        refine sq ?_
        refine sq ?_
        refine sr ?_
        refine sm ?_
        refine sv (PV.lss rfl rfl) ?_
        refine sm ?_
        refine T.setF (d := 39) rfl (by omega) ?_
        refine gm ?_
        refine gf ?_
        refine gl ?_
        refine gm ?_
        refine gv (PV.sub rfl rfl (by omega)) ?_
        refine gv (PV.lss rfl rfl) ?_
        refine sF ?_
        refine sm ?_
        refine T.setF (d := 47) rfl (by omega) ?_
        refine gm ?_
        refine gf ?_
        refine gl ?_
        refine gm ?_
        refine gv (PV.sub rfl rfl (by omega)) ?_
        refine gv (PV.geq rfl rfl) ?_
        refine sF ?_
        refine so ?_
        refine sd rfl (by omega) ?_
        refine T.skip ?_
        refine sq ?_
        refine sr ?_
        refine sm ?_
        refine sm ?_
        refine sv (PV.add rfl rfl (by omega)) ?_
        refine sa ?_
        refine so ?_
        exact T.retF (Lv.fin (RV.tmp rfl rfl) (by unfold posP; rw [hA, if_neg (by omega)]))
  · by_cases a2 : a = 2
    · subst a2
      have hA : atP lb m 2 s = m.e - 1 := rfl
      have g0 : ¬ m.e - 1 < 0 := by omega
      by_cases g1 : off < t.b - (m.e - 1)
      · refine sq ?_
        refine sr ?_
        (refine T.box Wanted.none rfl rfl zq15 ?_; intro b7)
        (refine T.box Wanted.none rfl rfl zq15 ?_; intro b8)
        refine sa ?_
        refine so ?_
        refine sq ?_
        refine sr ?_
        refine sa ?_
        refine so ?_
        refine sq ?_
        refine sq ?_
        refine sr ?_
        refine sm ?_
        refine so ?_
        refine T.block ?_
        refine sq ?_
        refine sr ?_
        refine sv (PV.eql rfl rfl) ?_
        refine sa ?_
        refine so ?_
        refine T.condF rfl rfl ?_
        refine sq ?_
        refine sr ?_
        refine sv (PV.eql rfl rfl) ?_
        refine sa ?_
        refine so ?_
        refine T.condT rfl rfl ?_
        refine sr ?_
        refine sf ?_
        refine sl ?_
        refine sv (PV.sub rfl rfl (by omega)) ?_
        refine sa ?_
        refine so ?_
        refine T.blkEnd ?_
        refine sq ?_
        refine sq ?_
        refine sr ?_
        refine sm ?_
        refine sv (PV.lss rfl rfl) ?_
        refine sm ?_
        refine T.setF (d := 39) rfl (by omega) ?_
        refine gm ?_
        refine gf ?_
        refine gl ?_
        refine gm ?_
        refine gv (PV.sub rfl rfl (by omega)) ?_
        refine gv (PV.lss rfl rfl) ?_
        refine sF ?_
        refine sm ?_
        refine T.setT (d := 47) rfl (by omega) ?_
        refine sp ?_
        refine sp ?_
        refine sp ?_
        refine sp ?_
        refine sp ?_
        refine sp ?_
        refine sT ?_
        refine so ?_
        refine T.condT rfl rfl ?_
        refine sq ?_
        refine sr ?_
        refine sa ?_
        refine so ?_
        exact T.retF (Lv.fin (RV.tmp rfl rfl) (by unfold posP; rw [hA, if_pos (by omega)]))
      · by_cases g2 : t.e - (m.e - 1) ≤ off
        · refine sq ?_
          refine sr ?_
          (refine T.box Wanted.none rfl rfl zq15 ?_; intro b7)
          (refine T.box Wanted.none rfl rfl zq15 ?_; intro b8)
          refine sa ?_
          refine so ?_
          refine sq ?_
          refine sr ?_
          refine sa ?_
          refine so ?_
          refine sq ?_
          refine sq ?_
          refine sr ?_
          refine sm ?_
          refine so ?_
          refine T.block ?_
          refine sq ?_
          refine sr ?_
          refine sv (PV.eql rfl rfl) ?_
          refine sa ?_
          refine so ?_
          refine T.condF rfl rfl ?_
          refine sq ?_
          refine sr ?_
          refine sv (PV.eql rfl rfl) ?_
          refine sa ?_
          refine so ?_
          refine T.condT rfl rfl ?_
          refine sr ?_
          refine sf ?_
          refine sl ?_
          refine sv (PV.sub rfl rfl (by omega)) ?_
          refine sa ?_
          refine so ?_
          refine T.blkEnd ?_
          refine sq ?_
          refine sq ?_
          refine sr ?_
          refine sm ?_
          refine sv (PV.lss rfl rfl) ?_
          refine sm ?_
          refine T.setF (d := 39) rfl (by omega) ?_
          refine gm ?_
          refine gf ?_
          refine gl ?_
          refine gm ?_
          refine gv (PV.sub rfl rfl (by omega)) ?_
          refine gv (PV.lss rfl rfl) ?_
          refine sF ?_
          refine sm ?_
          refine T.setF (d := 47) rfl (by omega) ?_
          refine gm ?_
          refine gf ?_
          refine gl ?_
          refine gm ?_
          refine gv (PV.sub rfl rfl (by omega)) ?_
          refine gv (PV.geq rfl rfl) ?_
          refine sF ?_
          refine so ?_
          refine sc rfl (by omega) ?_
          refine sq ?_
          refine sr ?_
          refine sa ?_
          refine so ?_
          exact T.retF (Lv.fin (RV.tmp rfl rfl) (by unfold posP; rw [hA, if_pos (by omega)]))
        · refine sq ?_
          refine sr ?_
          (refine T.box Wanted.none rfl rfl zq15 ?_; intro b7)
          (refine T.box Wanted.none rfl rfl zq15 ?_; intro b8)
          refine sa ?_
          refine so ?_
          refine sq ?_
          refine sr ?_
          refine sa ?_
          refine so ?_
          refine sq ?_
          refine sq ?_
          refine sr ?_
          refine sm ?_
          refine so ?_
          refine T.block ?_
          refine sq ?_
          refine sr ?_
          refine sv (PV.eql rfl rfl) ?_
          refine sa ?_
          refine so ?_
          refine T.condF rfl rfl ?_
          refine sq ?_
          refine sr ?_
          refine sv (PV.eql rfl rfl) ?_
          refine sa ?_
          refine so ?_
          refine T.condT rfl rfl ?_
          refine sr ?_
          refine sf ?_
          refine sl ?_
          refine sv (PV.sub rfl rfl (by omega)) ?_
          refine sa ?_
          refine so ?_
          refine T.blkEnd ?_
          refine sq ?_
          refine sq ?_
          refine sr ?_
          refine sm ?_
          refine sv (PV.lss rfl rfl) ?_
          refine sm ?_
          refine T.setF (d := 39) rfl (by omega) ?_
          refine gm ?_
          refine gf ?_
          refine gl ?_
          refine gm ?_
          refine gv (PV.sub rfl rfl (by omega)) ?_
          refine gv (PV.lss rfl rfl) ?_
          refine sF ?_
          refine sm ?_
          refine T.setF (d := 47) rfl (by omega) ?_
          refine gm ?_
          refine gf ?_
          refine gl ?_
          refine gm ?_
          refine gv (PV.sub rfl rfl (by omega)) ?_
          refine gv (PV.geq rfl rfl) ?_
          refine sF ?_
          refine so ?_
          refine sd rfl (by omega) ?_
          refine T.skip ?_
          refine sq ?_
          refine sr ?_
          refine sm ?_
          refine sm ?_
          refine sv (PV.add rfl rfl (by omega)) ?_
          refine sa ?_
          refine so ?_
          exact T.retF (Lv.fin (RV.tmp rfl rfl) (by unfold posP; rw [hA, if_neg (by omega)]))
    · by_cases a3 : a = 3
      · subst a3
        have hA : atP lb m 3 s = lbAt lb m s := rfl
        rcases ixI_cases (fun x => decide (x = s)) lb with ⟨k1, k2⟩ | ⟨k, x, k1, k2, k3, k4⟩
        · have hL : lbI lb s = -1 := k1
          have hA : atP lb m 3 s = -1 := by rw [hA, lbAt, hL, if_pos (by omega)]
          rw [hL] at hix
          refine sq ?_
          refine sr ?_
          (refine T.box Wanted.none rfl rfl zq15 ?_; intro b7)
          (refine T.box Wanted.none rfl rfl zq15 ?_; intro b8)
          refine sa ?_
          refine so ?_
          refine sq ?_
          refine sr ?_
          refine sa ?_
          refine so ?_
          refine sq ?_
          refine sq ?_
          refine sr ?_
          refine sm ?_
          refine so ?_
          refine T.block ?_
          refine sq ?_
          refine sr ?_
          refine sv (PV.eql rfl rfl) ?_
          refine sa ?_
          refine so ?_
          refine T.condF rfl rfl ?_
          refine sq ?_
          refine sr ?_
          refine sv (PV.eql rfl rfl) ?_
          refine sa ?_
          refine so ?_
          refine T.condF rfl rfl ?_
          refine sq ?_
          refine sr ?_
          refine sv (PV.eql rfl rfl) ?_
          refine sa ?_
          refine so ?_
          refine T.condT rfl rfl ?_
          refine sq ?_
          refine sr ?_
          refine sm ?_
          refine sm ?_
          refine T.callV Wanted.none rfl rfl (hix) ?_
          refine sa ?_
          refine so ?_
          refine sq ?_
          refine sr ?_
          refine sm ?_
          refine sv (PV.geq rfl rfl) ?_
          refine so ?_
          refine T.condF rfl rfl ?_
          refine T.skip ?_
          refine T.blkEnd ?_
          refine sq ?_
          refine sq ?_
          refine sr ?_
          refine sm ?_
          refine sv (PV.lss rfl rfl) ?_
          refine sm ?_
          refine sp ?_
          refine sp ?_
          refine sp ?_
          refine sp ?_
          refine sp ?_
          refine sp ?_
          refine sT ?_
          refine sm ?_
          refine sp ?_
          refine sp ?_
          refine sp ?_
          refine sp ?_
          refine sp ?_
          refine sp ?_
          refine sT ?_
          refine so ?_
          refine T.condT rfl rfl ?_
          refine sq ?_
          refine sr ?_
          refine sa ?_
          refine so ?_
          exact T.retF (Lv.fin (RV.tmp rfl rfl) (by unfold posP; rw [hA, if_pos (by omega)]))
        · have hL : lbI lb s = (k : Int) := k1
          have hki := (List.getElem?_eq_some_iff.1 k2).1
          obtain ⟨y, hy⟩ : ∃ y, m.ls[k]? = some y := ⟨_, List.getElem?_eq_getElem (by omega)⟩
          have hyr := f6 y (List.mem_of_getElem? hy)
          have hA : atP lb m 3 s = y := by rw [hA, lbAt, hL, if_neg (by omega), Int.toNat_natCast, hy]; rfl
          obtain ⟨b1, off1, rfl, hsub⟩ := hml.intAt hy
          rw [hL] at hix
          have hk0 : ¬ (k : Int) < 0 := by omega
          have hk9 : (0 : Int) ≤ (k : Int) := by omega
          by_cases g0 : y < 0
          · refine sq ?_
            refine sr ?_
            (refine T.box Wanted.none rfl rfl zq15 ?_; intro b7)
            (refine T.box Wanted.none rfl rfl zq15 ?_; intro b8)
            refine sa ?_
            refine so ?_
            refine sq ?_
            refine sr ?_
            refine sa ?_
            refine so ?_
            refine sq ?_
            refine sq ?_
            refine sr ?_
            refine sm ?_
            refine so ?_
            refine T.block ?_
            refine sq ?_
            refine sr ?_
            refine sv (PV.eql rfl rfl) ?_
            refine sa ?_
            refine so ?_
            refine T.condF rfl rfl ?_
            refine sq ?_
            refine sr ?_
            refine sv (PV.eql rfl rfl) ?_
            refine sa ?_
            refine so ?_
            refine T.condF rfl rfl ?_
            refine sq ?_
            refine sr ?_
            refine sv (PV.eql rfl rfl) ?_
            refine sa ?_
            refine so ?_
            refine T.condT rfl rfl ?_
            refine sq ?_
            refine sr ?_
            refine sm ?_
            refine sm ?_
            refine T.callV Wanted.none rfl rfl (hix) ?_
            refine sa ?_
            refine so ?_
            refine sq ?_
            refine sr ?_
            refine sm ?_
            refine sv (PV.geq rfl rfl) ?_
            refine so ?_
            refine T.condT rfl rfl ?_
            refine sr ?_
            refine sf ?_
            refine sl ?_
            refine sm ?_
            refine sv (PV.indexAddr rfl rfl (by omega)) ?_
            refine sv (PV.loadSub0 rfl (by assumption)) ?_
            refine sa ?_
            refine so ?_
            refine T.blkEnd ?_
            refine sq ?_
            refine sq ?_
            refine sr ?_
            refine sm ?_
            refine sv (PV.lss rfl rfl) ?_
            refine sm ?_
            refine T.setT (d := 39) rfl (by omega) ?_
            refine sp ?_
            refine sp ?_
            refine sp ?_
            refine sp ?_
            refine sp ?_
            refine sp ?_
            refine sT ?_
            refine sm ?_
            refine sp ?_
            refine sp ?_
            refine sp ?_
            refine sp ?_
            refine sp ?_
            refine sp ?_
            refine sT ?_
            refine so ?_
            refine T.condT rfl rfl ?_
            refine sq ?_
            refine sr ?_
            refine sa ?_
            refine so ?_
            exact T.retF (Lv.fin (RV.tmp rfl rfl) (by unfold posP; rw [hA, if_pos (by omega)]))
          · by_cases g1 : off < t.b - y
            · refine sq ?_
              refine sr ?_
              (refine T.box Wanted.none rfl rfl zq15 ?_; intro b7)
              (refine T.box Wanted.none rfl rfl zq15 ?_; intro b8)
              refine sa ?_
              refine so ?_
              refine sq ?_
              refine sr ?_
              refine sa ?_
              refine so ?_
              refine sq ?_
              refine sq ?_
              refine sr ?_
              refine sm ?_
              refine so ?_
              refine T.block ?_
              refine sq ?_
              refine sr ?_
              refine sv (PV.eql rfl rfl) ?_
              refine sa ?_
              refine so ?_
              refine T.condF rfl rfl ?_
              refine sq ?_
              refine sr ?_
              refine sv (PV.eql rfl rfl) ?_
              refine sa ?_
              refine so ?_
              refine T.condF rfl rfl ?_
              refine sq ?_
              refine sr ?_
              refine sv (PV.eql rfl rfl) ?_
              refine sa ?_
              refine so ?_
              refine T.condT rfl rfl ?_
              refine sq ?_
              refine sr ?_
              refine sm ?_
              refine sm ?_
              refine T.callV Wanted.none rfl rfl (hix) ?_
              refine sa ?_
              refine so ?_
              refine sq ?_
              refine sr ?_
              refine sm ?_
              refine sv (PV.geq rfl rfl) ?_
              refine so ?_
              refine T.condT rfl rfl ?_
              refine sr ?_
              refine sf ?_
              refine sl ?_
              refine sm ?_
              refine sv (PV.indexAddr rfl rfl (by omega)) ?_
              refine sv (PV.loadSub0 rfl (by assumption)) ?_
              refine sa ?_
              refine so ?_
              refine T.blkEnd ?_
              refine sq ?_
              refine sq ?_
              refine sr ?_
              refine sm ?_
              refine sv (PV.lss rfl rfl) ?_
              refine sm ?_
              refine T.setF (d := 39) rfl (by omega) ?_
              refine gm ?_
              refine gf ?_
              refine gl ?_
              refine gm ?_
              refine gv (PV.sub rfl rfl (by omega)) ?_
              refine gv (PV.lss rfl rfl) ?_
              refine sF ?_
              refine sm ?_
              refine T.setT (d := 47) rfl (by omega) ?_
              refine sp ?_
              refine sp ?_
              refine sp ?_
              refine sp ?_
              refine sp ?_
              refine sp ?_
              refine sT ?_
              refine so ?_
              refine T.condT rfl rfl ?_
              refine sq ?_
              refine sr ?_
              refine sa ?_
              refine so ?_
              exact T.retF (Lv.fin (RV.tmp rfl rfl) (by unfold posP; rw [hA, if_pos (by omega)]))
            · by_cases g2 : t.e - y ≤ off
              · refine sq ?_
                refine sr ?_
                (refine T.box Wanted.none rfl rfl zq15 ?_; intro b7)
                (refine T.box Wanted.none rfl rfl zq15 ?_; intro b8)
                refine sa ?_
                refine so ?_
                refine sq ?_
                refine sr ?_
                refine sa ?_
                refine so ?_
                refine sq ?_
                refine sq ?_
                refine sr ?_
                refine sm ?_
                refine so ?_
                refine T.block ?_
                refine sq ?_
                refine sr ?_
                refine sv (PV.eql rfl rfl) ?_
                refine sa ?_
                refine so ?_
                refine T.condF rfl rfl ?_
                refine sq ?_
                refine sr ?_
                refine sv (PV.eql rfl rfl) ?_
                refine sa ?_
                refine so ?_
                refine T.condF rfl rfl ?_
                refine sq ?_
                refine sr ?_
                refine sv (PV.eql rfl rfl) ?_
                refine sa ?_
                refine so ?_
                refine T.condT rfl rfl ?_
                refine sq ?_
                refine sr ?_
                refine sm ?_
                refine sm ?_
                refine T.callV Wanted.none rfl rfl (hix) ?_
                refine sa ?_
                refine so ?_
                refine sq ?_
                refine sr ?_
                refine sm ?_
                refine sv (PV.geq rfl rfl) ?_
                refine so ?_
                refine T.condT rfl rfl ?_
                refine sr ?_
                refine sf ?_
                refine sl ?_
                refine sm ?_
                refine sv (PV.indexAddr rfl rfl (by omega)) ?_
                refine sv (PV.loadSub0 rfl (by assumption)) ?_
                refine sa ?_
                refine so ?_
                refine T.blkEnd ?_
                refine sq ?_
                refine sq ?_
                refine sr ?_
                refine sm ?_
                refine sv (PV.lss rfl rfl) ?_
                refine sm ?_
                refine T.setF (d := 39) rfl (by omega) ?_
                refine gm ?_
                refine gf ?_
                refine gl ?_
                refine gm ?_
                refine gv (PV.sub rfl rfl (by omega)) ?_
                refine gv (PV.lss rfl rfl) ?_
                refine sF ?_
                refine sm ?_
                refine T.setF (d := 47) rfl (by omega) ?_
                refine gm ?_
                refine gf ?_
                refine gl ?_
                refine gm ?_
                refine gv (PV.sub rfl rfl (by omega)) ?_
                refine gv (PV.geq rfl rfl) ?_
                refine sF ?_
                refine so ?_
                refine sc rfl (by omega) ?_
                refine sq ?_
                refine sr ?_
                refine sa ?_
                refine so ?_
                exact T.retF (Lv.fin (RV.tmp rfl rfl) (by unfold posP; rw [hA, if_pos (by omega)]))
              · refine sq ?_
                refine sr ?_
                (refine T.box Wanted.none rfl rfl zq15 ?_; intro b7)
                (refine T.box Wanted.none rfl rfl zq15 ?_; intro b8)
                refine sa ?_
                refine so ?_
                refine sq ?_
                refine sr ?_
                refine sa ?_
                refine so ?_
                refine sq ?_
                refine sq ?_
                refine sr ?_
                refine sm ?_
                refine so ?_
                refine T.block ?_
                refine sq ?_
                refine sr ?_
                refine sv (PV.eql rfl rfl) ?_
                refine sa ?_
                refine so ?_
                refine T.condF rfl rfl ?_
                refine sq ?_
                refine sr ?_
                refine sv (PV.eql rfl rfl) ?_
                refine sa ?_
                refine so ?_
                refine T.condF rfl rfl ?_
                refine sq ?_
                refine sr ?_
                refine sv (PV.eql rfl rfl) ?_
                refine sa ?_
                refine so ?_
                refine T.condT rfl rfl ?_
                refine sq ?_
                refine sr ?_
                refine sm ?_
                refine sm ?_
                refine T.callV Wanted.none rfl rfl (hix) ?_
                refine sa ?_
                refine so ?_
                refine sq ?_
                refine sr ?_
                refine sm ?_
                refine sv (PV.geq rfl rfl) ?_
                refine so ?_
                refine T.condT rfl rfl ?_
                refine sr ?_
                refine sf ?_
                refine sl ?_
                refine sm ?_
                refine sv (PV.indexAddr rfl rfl (by omega)) ?_
                refine sv (PV.loadSub0 rfl (by assumption)) ?_
                refine sa ?_
                refine so ?_
                refine T.blkEnd ?_
                refine sq ?_
                refine sq ?_
                refine sr ?_
                refine sm ?_
                refine sv (PV.lss rfl rfl) ?_
                refine sm ?_
                refine T.setF (d := 39) rfl (by omega) ?_
                refine gm ?_
                refine gf ?_
                refine gl ?_
                refine gm ?_
                refine gv (PV.sub rfl rfl (by omega)) ?_
                refine gv (PV.lss rfl rfl) ?_
                refine sF ?_
                refine sm ?_
                refine T.setF (d := 47) rfl (by omega) ?_
                refine gm ?_
                refine gf ?_
                refine gl ?_
                refine gm ?_
                refine gv (PV.sub rfl rfl (by omega)) ?_
                refine gv (PV.geq rfl rfl) ?_
                refine sF ?_
                refine so ?_
                refine sd rfl (by omega) ?_
                refine T.skip ?_
                refine sq ?_
                refine sr ?_
                refine sm ?_
                refine sm ?_
                refine sv (PV.add rfl rfl (by omega)) ?_
                refine sa ?_
                refine so ?_
                exact T.retF (Lv.fin (RV.tmp rfl rfl) (by unfold posP; rw [hA, if_neg (by omega)]))
      · have hA : atP lb m a s = -1 := by unfold atP; rw [if_neg a1, if_neg a2, if_neg a3]
        refine sq ?_
        refine sr ?_
        (refine T.box Wanted.none rfl rfl zq15 ?_; intro b7)
        (refine T.box Wanted.none rfl rfl zq15 ?_; intro b8)
        refine sa ?_
        refine so ?_
        refine sq ?_
        refine sr ?_
        refine sa ?_
        refine so ?_
        refine sq ?_
        refine sq ?_
        refine sr ?_
        refine sm ?_
        refine so ?_
        refine T.block ?_
        refine sq ?_
        refine sr ?_
        refine sv (PV.eql rfl rfl) ?_
        refine sa ?_
        refine so ?_
        refine sd rfl (by omega) ?_
        refine sq ?_
        refine sr ?_
        refine sv (PV.eql rfl rfl) ?_
        refine sa ?_
        refine so ?_
        refine sd rfl (by omega) ?_
        refine sq ?_
        refine sr ?_
        refine sv (PV.eql rfl rfl) ?_
        refine sa ?_
        refine so ?_
        refine sd rfl (by omega) ?_
        refine T.skip ?_
        refine T.blkEnd ?_
        refine sq ?_
        refine sq ?_
        refine sr ?_
        refine sm ?_
        refine sv (PV.lss rfl rfl) ?_
        refine sm ?_
        refine sp ?_
        refine sp ?_
        refine sp ?_
        refine sp ?_
        refine sp ?_
        refine sp ?_
        refine sT ?_
        refine sm ?_
        refine sp ?_
        refine sp ?_
        refine sp ?_
        refine sp ?_
        refine sp ?_
        refine sp ?_
        refine sT ?_
        refine so ?_
        refine T.condT rfl rfl ?_
        refine sq ?_
        refine sr ?_
        refine sa ?_
        refine so ?_
        exact T.retF (Lv.fin (RV.tmp rfl rfl) (by unfold posP; rw [hA, if_pos (by omega)]))
end Go.Proofs.YtlklcjpmfjmenaaGreatDoor
