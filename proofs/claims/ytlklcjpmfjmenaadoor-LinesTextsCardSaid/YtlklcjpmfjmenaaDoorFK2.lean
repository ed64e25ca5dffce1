/- lines: the text of a token; whether a match fits. -/
import Derived.Test.YtlklcjpmfjmenaaDoorFK1
namespace Go.Proofs.YtlklcjpmfjmenaaDoor
open Go.RowKit


theorem RV.cellTmp {P : Program} {e : Env} {l : List (Nat × Obj)} {H : Hp} {fn : Func} {p q : Tmp} {t : TypeId} {v1 v2 : Value} (h : fn.results = #[.cell p t, .tmp q]) (hv : CV P e l H p t v1) (hv2 : e.get q = some v2) : RV P fn e l H (.tuple #[v1, v2]) := RV.mk fun X D a w ha hw => by
  unfold CV at hv
  obtain ⟨a1, g1, h1⟩ := hv
  have h1 := h1 X w hw
  simp [results, h, ha.get _ _ g1, ha.get _ _ hv2, asAddr, h1]
def inT (p : Int) (t : Rg) : Bool := decide (t.b ≤ p) && decide (p < t.e)
def labOk (n : Nat) (x : Int) : Bool := !(decide (x < -1) || decide ((n : Int) ≤ x))
def fitB (c : Cp) (m : Mt) (t : Rg) : Bool := decide (m.b < m.e) && decide (m.e ≤ t.e) && m.ls.all (labOk c.tk.length)
/-- the text that a match fits -/
def fitO (c : Cp) (m : Mt) : Option Rg := match c.tx.find? (inT m.b) with
  | none => none
  | some t => if fitB c m t then some t else none
theorem find_hit {α : Type} {g : α → Bool} {l : List α} {i : Nat} {x : α} (h : (l.take i).any g = false) (hx : l[i]? = some x) (hg : g x = true) : l.find? g = some x := by
  have hi := (List.getElem?_eq_some_iff.1 hx).1
  have e : l = l.take i ++ x :: l.drop (i + 1) := by
    have h1 : l.drop i = x :: l.drop (i + 1) := by rw [List.drop_eq_getElem_cons hi, (List.getElem?_eq_some_iff.1 hx).2]
    rw [← h1, List.take_append_drop]
  rw [e, List.find?_append, List.find?_eq_none.2 (List.any_eq_false.1 h)]
  simp [hg]
theorem find_miss {α : Type} {g : α → Bool} {l : List α} (h : l.any g = false) : l.find? g = none :=
  List.find?_eq_none.2 (List.any_eq_false.1 h)
theorem textAt_in (c : Cp) (p : Int) (H : Hp) (hc : CpL H c) : Fn Tryd.prog 26 #[cpV c, .int .i64 p] H (fun u _ => u = .int .i64 (ixI (inT p) c.tx)) := by
  obtain ⟨aa, ca, at1, ct, ax, cx, ar, cr, an, cn, ah, ch, as1, cs, hcv, ha, ht, hx, hr, hn, hh, hs⟩ := hc.open; rw [hcv]; have hla := hc.la; have hlt := hc.lt; have hlx := hc.lx; have hlr := hc.lr; have hln := hc.ln; have hlh := hc.lh; have hls := hc.ls
  refine Fn.of_T (vs := [.agg #[.slice aa c.att.length ca, .slice at1 c.tk.length ct, .slice ax c.tx.length cx, .slice ar c.rg.length cr, .slice an c.nd.length cn, .slice ah c.hd.length ch, .slice as1 c.rl.length cs], .int .i64 p]) Tryd.func26 rfl rfl fun w => ?_
  refine sq ?_
  refine sr ?_
  (refine T.box Wanted.none rfl rfl zq15 ?_; intro b2)
  refine sa ?_
  refine so ?_
  refine sq ?_
  refine sq ?_
  refine sr ?_
  refine sf ?_
  refine sl ?_
  refine sv (PV.lenSl rfl) ?_
  refine sm ?_
  refine so ?_
  refine T.block ?_
  refine T.loopC [(9, Value.int IntKind.i64 (↑c.tx.length : Int)), (8, Value.slice ax c.tx.length cx), (1, Value.int IntKind.i64 p)] zq8 10 c.tx.length (fun i => (c.tx.take i).any (inT p) = false) rfl rfl ?_
  rintro i ⟨hi0, hi1⟩
  by_cases hi : i < c.tx.length
  · obtain ⟨bx, off, x, rfl, hix, hsub⟩ := RowL.get encRg_len hx.1 hi
    unfold encRg at hsub
    obtain ⟨am, cm, hmv⟩ := (hx.2 x (List.mem_of_getElem? hix)).1.len
    rw [hmv] at hsub
    by_cases h1 : x.b ≤ p
    · by_cases h2 : p < x.e
      · have ht : inT p x = true := by unfold inT; rw [decide_eq_true h1, decide_eq_true h2]; rfl
        refine sq ?_
        refine sr ?_
        refine sv (PV.lss rfl rfl) ?_
        refine so ?_
        refine sq ?_
        refine sc rfl (by omega) ?_
        refine T.skip ?_
        refine sq ?_
        refine T.block ?_
        refine sq ?_
        refine sr ?_
        refine sm ?_
        refine sv (PV.indexAddr rfl rfl (by omega)) ?_
        refine sv (PV.loadSubAll rfl (by assumption) (by exact rfl)) ?_
        refine sy fun b6 => ?_
        refine sa ?_
        refine T.storeA Wanted.none rfl rfl zq8 (by exact rfl) zq14 zq13 ?_
        refine so ?_
        refine sq ?_
        refine sr ?_
        refine sf ?_
        refine sl ?_
        refine sm ?_
        refine sv (PV.leq rfl rfl) ?_
        refine sm ?_
        refine T.setT (d := 19) rfl (by omega) ?_
        refine gm ?_
        refine gf ?_
        refine gl ?_
        refine gv (PV.lss rfl rfl) ?_
        refine sT ?_
        refine so ?_
        refine sc rfl (by omega) ?_
        refine sq ?_
        refine sr ?_
        refine sm ?_
        refine sa ?_
        refine so ?_
        refine T.retF (Lv.fin (RV.tmp rfl rfl) ?_)
        rw [ixI_hit hi1 hix ht]
      · have ht : inT p x = false := by unfold inT; rw [decide_eq_false h2]; simp
        refine sq ?_
        refine sr ?_
        refine sv (PV.lss rfl rfl) ?_
        refine so ?_
        refine sq ?_
        refine sc rfl (by omega) ?_
        refine T.skip ?_
        refine sq ?_
        refine T.block ?_
        refine sq ?_
        refine sr ?_
        refine sm ?_
        refine sv (PV.indexAddr rfl rfl (by omega)) ?_
        refine sv (PV.loadSubAll rfl (by assumption) (by exact rfl)) ?_
        refine sy fun b6 => ?_
        refine sa ?_
        refine T.storeA Wanted.none rfl rfl zq8 (by exact rfl) zq14 zq13 ?_
        refine so ?_
        refine sq ?_
        refine sr ?_
        refine sf ?_
        refine sl ?_
        refine sm ?_
        refine sv (PV.leq rfl rfl) ?_
        refine sm ?_
        refine T.setT (d := 19) rfl (by omega) ?_
        refine gm ?_
        refine gf ?_
        refine gl ?_
        refine gv (PV.lss rfl rfl) ?_
        refine sT ?_
        refine so ?_
        refine sd rfl (by omega) ?_
        refine T.skip ?_
        refine T.blkEnd ?_
        refine sr ?_
        refine sv (PV.add rfl rfl (by omega)) ?_
        refine sm ?_
        refine so ?_
        exact T.nextC hi (ixI_drop hi1 hix ht) rfl zq8 (by repeat (first | exact Sel.refl _ | exact Sel.nil | (refine Sel.cons zq1 ?_) | (refine Sel.app zq1 ?_) | exact Sel.one zq1))
    · have ht : inT p x = false := by unfold inT; rw [decide_eq_false h1]; simp
      refine sq ?_
      refine sr ?_
      refine sv (PV.lss rfl rfl) ?_
      refine so ?_
      refine sq ?_
      refine sc rfl (by omega) ?_
      refine T.skip ?_
      refine sq ?_
      refine T.block ?_
      refine sq ?_
      refine sr ?_
      refine sm ?_
      refine sv (PV.indexAddr rfl rfl (by omega)) ?_
      refine sv (PV.loadSubAll rfl (by assumption) (by exact rfl)) ?_
      refine sy fun b6 => ?_
      refine sa ?_
      refine T.storeA Wanted.none rfl rfl zq8 (by exact rfl) zq14 zq13 ?_
      refine so ?_
      refine sq ?_
      refine sr ?_
      refine sf ?_
      refine sl ?_
      refine sm ?_
      refine sv (PV.leq rfl rfl) ?_
      refine sm ?_
      refine T.setF (d := 19) rfl (by omega) ?_
      refine sp ?_
      refine sp ?_
      refine sp ?_
      refine sp ?_
      refine sF ?_
      refine so ?_
      refine T.condF rfl rfl ?_
      refine T.skip ?_
      refine T.blkEnd ?_
      refine sr ?_
      refine sv (PV.add rfl rfl (by omega)) ?_
      refine sm ?_
      refine so ?_
      exact T.nextC hi (ixI_drop hi1 hix ht) rfl zq8 (by repeat (first | exact Sel.refl _ | exact Sel.nil | (refine Sel.cons zq1 ?_) | (refine Sel.app zq1 ?_) | exact Sel.one zq1))
  · rw [List.take_of_length_le (by omega)] at hi1
    refine sq ?_
    refine sr ?_
    refine sv (PV.lss rfl rfl) ?_
    refine so ?_
    refine sq ?_
    refine sd rfl (by omega) ?_
    refine T.exit rfl ?_
    refine sq ?_
    refine sr ?_
    refine sa ?_
    refine so ?_
    refine T.retF (Lv.fin (RV.tmp rfl rfl) ?_)
    rw [ixI_miss hi1]
theorem fits1_fn (c : Cp) (x : Int) (b : Nat) (H : Hp) (hc : CpL H c) (hb : H b = some (.cells (cpC c).toArray 32 (0, 0))) :
    Fn Tryd.prog 28 #[.int .i64 x, .pointer (some ⟨b, 0, none⟩)] H (fun u _ => u = .bool (!labOk c.tk.length x)) := by
  obtain ⟨at1, ct, hvt⟩ := hc.t.len
  unfold cpC at hb
  rw [hvt] at hb
  refine Fn.of_T (vs := [.int .i64 x, .pointer (some ⟨b, 0, none⟩)]) Tryd.func28 rfl rfl fun w => ?_
  have hl : (!labOk c.tk.length x) = (decide (x < -1) || decide ((c.tk.length : Int) ≤ x)) := by unfold labOk; simp
  by_cases h1 : x < -1
  · refine sq ?_
    refine sr ?_
    refine sa ?_
    refine so ?_
    refine sq ?_
    refine sr ?_
    refine sm ?_
    refine sv (PV.lss rfl rfl) ?_
    refine sm ?_
    refine T.setT (d := 6) rfl (by omega) ?_
    refine sp ?_
    refine sp ?_
    refine sp ?_
    refine sp ?_
    refine sp ?_
    refine sT ?_
    refine sa ?_
    refine so ?_
    exact T.retF (Lv.fin (RV.tmp rfl rfl) (by rw [hl, decide_eq_true h1]; rfl))
  · refine sq ?_
    refine sr ?_
    refine sa ?_
    refine so ?_
    refine sq ?_
    refine sr ?_
    refine sm ?_
    refine sv (PV.lss rfl rfl) ?_
    refine sm ?_
    refine T.setF (d := 6) rfl (by omega) ?_
    refine gm ?_
    refine gf ?_
    refine gl ?_
    refine gv (PV.lenSl rfl) ?_
    refine gv (PV.geq rfl rfl) ?_
    refine sF ?_
    refine sa ?_
    refine so ?_
    exact T.retF (Lv.fin (RV.tmp rfl rfl) (by rw [hl, decide_eq_false h1]; rfl))
end Go.Proofs.YtlklcjpmfjmenaaDoor
