/- lines: the value of a key. -/
import Derived.Test.YtlklcjpmfjmenaaGreatDoorGH
import Derived.Test.YtlklcjpmfjmenaaGreatDoorGI
namespace Go.Proofs.YtlklcjpmfjmenaaGreatDoor
open Go.RowKit

/-- what the lines ask of a corpus: tokens as wide as the attributes, texts within the tokens -/
structure CpW (c : Cp) : Prop where
  w : ∀ t ∈ c.tk, t.ss.length = c.att.length
  tx : ∀ t ∈ c.tx, 0 ≤ t.b ∧ t.b < t.e ∧ t.e ≤ c.tk.length
def lbI (lb : List ByteArray) (s : ByteArray) : Int := ixI (fun x => decide (x = s)) lb
def lbAt (lb : List ByteArray) (m : Mt) (s : ByteArray) : Int := if lbI lb s < 0 then -1 else (m.ls[(lbI lb s).toNat]?).getD 0
def atP (lb : List ByteArray) (m : Mt) (a : Int) (s : ByteArray) : Int := if a = 1 then m.b else if a = 2 then m.e - 1 else if a = 3 then lbAt lb m s else -1
def tkS (c : Cp) (i a : Int) : ByteArray := ((c.tk[i.toNat]?).bind fun t => t.ss[a.toNat]?).getD (bs [])
theorem tokAt (c : Cp) (H : Hp) (hc : CpL H c) (hw : CpW c) {i a : Int} (hi : 0 ≤ i ∧ i < c.tk.length) (ha : 0 ≤ a ∧ a < c.att.length) : ∃ t s, c.tk[i.toNat]? = some t ∧ t.ss[a.toNat]? = some s ∧ tkS c i a = s ∧ TkOk H t ∧ t.ss.length = c.att.length ∧ s.size ≤ 4000 := by
  obtain ⟨t, ht⟩ : ∃ t, c.tk[i.toNat]? = some t := ⟨_, List.getElem?_eq_getElem (by omega)⟩
  have hm := List.mem_of_getElem? ht
  have h3 := hw.w t hm
  have hok := hc.tO t hm
  obtain ⟨s, hs⟩ : ∃ s, t.ss[a.toNat]? = some s := ⟨_, List.getElem?_eq_getElem (by omega)⟩
  exact ⟨t, s, ht, hs, by unfold tkS; rw [ht]; simp [hs], hok, h3, hok.2.2 s (List.mem_of_getElem? hs)⟩
theorem tok_in (c : Cp) (i a : Int) (H : Hp) (hc : CpL H c) (hw : CpW c) (hi : 0 ≤ i ∧ i < c.tk.length) (ha : 0 ≤ a ∧ a < c.att.length) : Fn Tryz.prog 46 #[cpV c, .int .i64 i, .int .i64 a] H (fun u _ => u = .string (tkS c i a)) := by
  obtain ⟨t, s, h1, h2, h3, h4, h5, h6⟩ := tokAt c H hc hw hi ha
  obtain ⟨aa, ca, at1, ct, ax, cx, ar, cr, an, cn, ah, ch, as1, cs, hcv, ha, ht, hx, hr, hn, hh, hs⟩ := hc.open; rw [hcv]; have hla := hc.la; have hlt := hc.lt; have hlx := hc.lx; have hlr := hc.lr; have hln := hc.ln; have hlh := hc.lh; have hls := hc.ls
  refine Fn.of_T (vs := [.agg #[.slice aa c.att.length ca, .slice at1 c.tk.length ct, .slice ax c.tx.length cx, .slice ar c.rg.length cr, .slice an c.nd.length cn, .slice ah c.hd.length ch, .slice as1 c.rl.length cs], .int .i64 i, .int .i64 a]) Tryz.func46 rfl rfl fun w => ?_
  obtain ⟨i, rfl⟩ : ∃ k : Nat, i = (k : Int) := ⟨i.toNat, by omega⟩
  obtain ⟨a, rfl⟩ : ∃ k : Nat, a = (k : Int) := ⟨a.toNat, by omega⟩
  rw [Int.toNat_natCast] at h1 h2
  obtain ⟨b, off, x, rfl, hix, hsub⟩ := RowL.get encTk_len ht (i := i) (by omega)
  rw [h1] at hix
  obtain rfl := Option.some.inj hix
  obtain ⟨av, cv, hvv⟩ := h4.1.len
  have hst := h4.1
  rw [hvv] at hst
  unfold encTk at hsub
  rw [hvv] at hsub
  obtain ⟨b2, off2, x2, rfl, hix2, hsub2⟩ := RowL.get encT_len hst (i := a) (by omega)
  rw [h2] at hix2
  obtain rfl := Option.some.inj hix2
  unfold encT at hsub2
  have g1 : ¬ (i : Int) < 0 := by omega
  have g2 : ¬ (c.tk.length : Int) ≤ (i : Int) := by omega
  have g3 : ¬ (a : Int) < 0 := by omega
  have g4 : ¬ (t.ss.length : Int) ≤ (a : Int) := by omega
  refine sq ?_
  refine sr ?_
  (refine T.box Wanted.none rfl rfl zq15 ?_; intro b3)
  refine sa ?_
  refine so ?_
  refine sq ?_
  refine sq ?_
  refine sr ?_
  refine sm ?_
  refine sv (PV.lss rfl rfl) ?_
  refine sm ?_
  refine gm ?_
  refine gf ?_
  refine gl ?_
  refine gv (PV.lenSl rfl) ?_
  refine gv (PV.geq rfl rfl) ?_
  refine sF ?_
  refine sm ?_
  refine T.setF (d := 16) rfl (by omega) ?_
  refine gm ?_
  refine gv (PV.lss rfl rfl) ?_
  refine sF ?_
  refine sm ?_
  refine gm ?_
  refine gf ?_
  refine gl ?_
  refine gm ?_
  refine gv (PV.indexAddr rfl rfl (by omega)) ?_
  refine gv (PV.loadSub0 rfl (by assumption)) ?_
  refine gv (PV.lenSl rfl) ?_
  refine gv (PV.geq rfl rfl) ?_
  refine sF ?_
  refine so ?_
  refine sd rfl (by omega) ?_
  refine T.skip ?_
  refine sq ?_
  refine sr ?_
  refine sf ?_
  refine sl ?_
  refine sm ?_
  refine sv (PV.indexAddr rfl rfl (by omega)) ?_
  refine sv (PV.loadSub0 rfl (by assumption)) ?_
  refine sm ?_
  refine sv (PV.indexAddr rfl rfl (by omega)) ?_
  refine sv (PV.loadSub0 rfl (by assumption)) ?_
  refine sa ?_
  refine so ?_
  exact T.retF (Lv.fin (RV.tmp rfl rfl) (by rw [h3]))
structure FitP (c : Cp) (m : Mt) (t : Rg) : Prop where
  t0 : 0 ≤ t.b
  tb : t.b ≤ m.b
  be : m.b < m.e
  et : m.e ≤ t.e
  tn : t.e ≤ c.tk.length
  ls : ∀ x ∈ m.ls, -1 ≤ x ∧ x < c.tk.length
end Go.Proofs.YtlklcjpmfjmenaaGreatDoor
