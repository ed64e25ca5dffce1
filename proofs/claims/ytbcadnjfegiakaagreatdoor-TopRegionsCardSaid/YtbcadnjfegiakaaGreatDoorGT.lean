/- match: a token, an anchor. -/
import Derived.Test.YtbcadnjfegiakaaGreatDoorGS
namespace Go.Proofs.YtbcadnjfegiakaaGreatDoor
open Go.RowKit


/-- a run in memory: a corpus, no labels, a text, what is known -/
structure RunR (H : Hp) (c : Cp) (kind : ByteArray) (bq bs bt br bk : Nat) (tb te : Int) : Prop where
  r : H br = some (.cells #[c.va, c.vt, c.vx, c.vr, c.vn, c.vh, c.vs, .slice none 0 0, .int .i64 tb, .int .i64 te, .map (some bk)] 139 (0, 0))
  q : QuR H kind bq bs bt
  c : CpA H c
  te : te ≤ 1000000
theorem RunR.mono {H H' : Hp} {c : Cp} {kind : ByteArray} {bq bs bt br bk : Nat} {tb te : Int} (h : RunR H c kind bq bs bt br bk tb te) (hl : H.le H') : RunR H' c kind bq bs bt br bk tb te :=
  ⟨hl _ _ h.r, h.q.mono hl, h.c.mono hl, h.te⟩
section
variable {H : Hp} {c : Cp} {kind : ByteArray} {bq bs bt br bk : Nat} {tb te : Int}
theorem assignment_fn (h : RunR H c kind bq bs bt br bk tb te) (a : Int) : Fn Tryz.prog 77 #[.pointer (some ⟨br, 0, none⟩), stV a] H (fun u _ => ∃ ad cap, u = .slice ad 0 cap) := by
  have hr := h.r
  unfold stV
  refine Fn.of_T (vs := [.pointer (some ⟨br, 0, none⟩), .agg #[.int .i64 a, .int .i64 0, .int .i64 0, .int .i64 0]]) Tryz.func77 rfl rfl fun w => ?_; refine zs3 ?_; (refine T.box Wanted.none rfl rfl zq15 ?_; intro b3); refine yq28 ?_; refine sv (PV.nilCheck rfl) ?_; refine yq12 ?_; (refine T.makeSlice0 Wanted.none rfl rfl rfl (by omega) ?_; intro v12 lv12 hv12 _; obtain ⟨ad12, cap12, rfl⟩ := hv12.val); refine yq11 ?_; refine yq30 ?_; refine yq35 ?_; refine T.loopR [(14, Value.int IntKind.i64 (↑0 : Int)), (5, Value.slice ad12 0 cap12), (3, Value.pointer (some { block := b3, off := 0 }))] zq8 15 0 rfl ?_
  intro i hi
  obtain rfl : i = 0 := by omega
  refine yq16 ?_; refine yq22 ?_; refine yq4 ?_; refine yq0 ?_
  exact T.retF (Lv.fin (RV.tmp rfl rfl) ⟨_, _, rfl⟩)
theorem sure_fn (i : Int) (ba : Option Addr) (bn bc : Nat) (c : Cp) (H : Hp) : Fn Tryz.prog 211 #[cpV c, cnV 1, .int .i64 i, .slice none 0 0, .slice ba bn bc] H (fun u _ => u = .bool true) := by
  have hh := holdsN_fn c i none ba 0 0 bn bc H
  unfold cpV at *
  refine Fn.of_T (vs := [_, _, .int .i64 i, .slice none 0 0, .slice ba bn bc]) Tryz.func211 rfl rfl fun w => ?_; refine zs3 ?_; (refine T.box Wanted.none rfl rfl zq15 ?_; intro b5); (refine T.box Wanted.none rfl rfl zq15 ?_; intro b6); refine yq14 ?_; refine sv (PV.loadAll rfl zq0 (by exact rfl)) ?_; refine sv (PV.loadAll rfl zq0 (by exact rfl)) ?_; refine sm ?_; refine sm ?_; refine sm ?_; refine T.callV Wanted.none rfl rfl (hh) ?_; refine yq0 ?_
  exact T.retF (Lv.fin (RV.tmp rfl rfl) rfl)
set_option maxHeartbeats 1000000 in
theorem tokenP_fn (h : RunR H c kind bq bs bt br bk tb te) (a : Int) (ha : 0 ≤ a ∧ a ≤ te) : Fn Tryz.prog 152 #[.pointer (some ⟨br, 0, none⟩), pnV pT, stV a] H (fun u _ => u = if a < te then .tuple #[stV (a + 1), .bool true] else .tuple #[stV 0, .bool false]) := by
  have hr := h.r
  have hte := h.te
  have has := assignment_fn h a
  have hsu := fun ad cap => sure_fn a ad 0 cap c H
  unfold stV at has ⊢
  unfold cpV at hsu
  unfold pnV pT
  refine Fn.of_T (vs := [.pointer (some ⟨br, 0, none⟩), _, .agg #[.int .i64 a, .int .i64 0, .int .i64 0, .int .i64 0]]) Tryz.func152 rfl rfl fun w => ?_
  dsimp only
  by_cases h1 : a < te
  · rw [if_pos h1]
    have hd : decide (te ≤ a) = false := decide_eq_false (by omega)
    refine zs3 ?_; (refine T.box Wanted.none rfl rfl zq15 ?_; intro b4); (refine T.box Wanted.none rfl rfl zq15 ?_; intro b5); refine sy fun b6 => ?_; refine yq0 ?_
    (repeat refine sq ?_)
    refine T.regionOl (by kernel_rfl) ?_; refine TO.take 0 rfl (by kernel_rfl) (by kernel_rfl) (by kernel_rfl) (PV.fieldAddr rfl) Wanted.none rfl rfl ?_; refine TO.take 1 rfl (by kernel_rfl) (by kernel_rfl) (by kernel_rfl) (PV.load1 rfl zq0 rfl) Wanted.none rfl rfl ?_; refine TO.take 2 rfl (by kernel_rfl) (by kernel_rfl) (by kernel_rfl) (PV.move rfl) Wanted.none rfl rfl ?_; refine TO.take 3 rfl (by kernel_rfl) (by kernel_rfl) (by kernel_rfl) (PV.nilCheck rfl) Wanted.none rfl rfl ?_; refine TO.take 4 rfl (by kernel_rfl) (by kernel_rfl) (by kernel_rfl) (PV.fieldAddr rfl) Wanted.none rfl rfl ?_; refine TO.take 5 rfl (by kernel_rfl) (by kernel_rfl) (by kernel_rfl) (PV.load1 rfl zq0 rfl) Wanted.none rfl rfl ?_; refine TO.take 6 rfl (by kernel_rfl) (by kernel_rfl) (by kernel_rfl) (PV.geq rfl rfl) Wanted.none rfl rfl ?_; refine TO.take 7 rfl (by kernel_rfl) (by kernel_rfl) (by kernel_rfl) (PV.move rfl) Wanted.none rfl rfl ?_; refine TO.take 8 rfl (by kernel_rfl) (by kernel_rfl) (by kernel_rfl) (PV.move rfl) (Wanted.guard rfl rfl (by assumption)) rfl rfl ?_; refine TO.take 9 rfl (by kernel_rfl) (by kernel_rfl) (by kernel_rfl) (PV.nilCheck rfl) (Wanted.guard rfl rfl (by assumption)) rfl rfl ?_; refine TO.take 10 rfl (by kernel_rfl) (by kernel_rfl) (by kernel_rfl) (PV.fieldAddr rfl) (Wanted.guard rfl rfl (by assumption)) rfl rfl ?_; refine TO.take 11 rfl (by kernel_rfl) (by kernel_rfl) (by kernel_rfl) (PV.loadAgg rfl zq0 (by exact rfl) (by exact rfl)) (Wanted.guard rfl rfl (by assumption)) rfl rfl ?_; refine TO.take 12 rfl (by kernel_rfl) (by kernel_rfl) (by kernel_rfl) (PV.fieldAddr rfl) (Wanted.guard rfl rfl (by assumption)) rfl rfl ?_; refine TO.take 13 rfl (by kernel_rfl) (by kernel_rfl) (by kernel_rfl) (PV.loadAgg rfl zq0 (by exact rfl) (by exact rfl)) (Wanted.guard rfl rfl (by assumption)) rfl rfl ?_; refine TO.take 14 rfl (by kernel_rfl) (by kernel_rfl) (by kernel_rfl) (PV.fieldAddr rfl) (Wanted.guard rfl rfl (by assumption)) rfl rfl ?_; refine TO.take 15 rfl (by kernel_rfl) (by kernel_rfl) (by kernel_rfl) (PV.load1 rfl zq0 rfl) (Wanted.guard rfl rfl (by assumption)) rfl rfl ?_; refine TO.take 16 rfl (by kernel_rfl) (by kernel_rfl) (by kernel_rfl) (PV.move rfl) (Wanted.guard rfl rfl (by assumption)) rfl rfl ?_; refine TO.take 17 rfl (by kernel_rfl) (by kernel_rfl) (by kernel_rfl) (PV.nilCheck rfl) (Wanted.guard rfl rfl (by assumption)) rfl rfl ?_; refine TO.take 18 rfl (by kernel_rfl) (by kernel_rfl) (by kernel_rfl) (PV.fieldAddr rfl) (Wanted.guard rfl rfl (by assumption)) rfl rfl ?_; refine TO.take 19 rfl (by kernel_rfl) (by kernel_rfl) (by kernel_rfl) (PV.load1 rfl zq0 rfl) (Wanted.guard rfl rfl (by assumption)) rfl rfl ?_; refine TO.take 20 rfl (by kernel_rfl) (by kernel_rfl) (by kernel_rfl) (PV.move rfl) (Wanted.guard rfl rfl (by assumption)) rfl rfl ?_; refine TO.take 21 rfl (by kernel_rfl) (by kernel_rfl) (by kernel_rfl) (PV.loadAll rfl zq0 (by exact rfl)) (Wanted.guard rfl rfl (by assumption)) rfl rfl ?_; refine TO.step 22 rfl (by kernel_rfl) zq4 zq19 ?_; (refine T.callX (Wanted.guard rfl rfl (by assumption)) rfl rfl has ?_; rintro _ ⟨ad30, cap30, rfl⟩); refine so ?_; refine TO.back ?_; refine TO.step 23 rfl (by kernel_rfl) zq4 zq19 ?_; (refine T.callX (Wanted.guard rfl rfl (by assumption)) rfl rfl (hsu _ _) ?_; rintro _ rfl); refine so ?_; refine TO.back ?_; refine TO.take 24 rfl (by kernel_rfl) (by kernel_rfl) (by kernel_rfl) (PV.not rfl) (Wanted.guard rfl rfl (by assumption)) rfl rfl ?_; refine TO.take 25 rfl (by kernel_rfl) (by kernel_rfl) (by kernel_rfl) (PV.pickF rfl (by assumption) rfl) Wanted.none rfl rfl ?_; refine TO.done (by kernel_rfl) zq4 zq19 ?_; refine yq7 ?_; refine sq ?_; refine zs3 ?_; refine yq6 ?_
    refine sv (PV.sneq rfl rfl) ?_; refine so ?_; refine yq7 ?_; refine zs3 ?_; refine yq6 ?_; refine sv (PV.add rfl rfl (by omega)) ?_; refine sf ?_; refine T.store1 Wanted.none rfl rfl rfl zq14 zq13 ?_; refine zs1 ?_; refine sv (PV.loadAll rfl zq0 (by exact rfl)) ?_; refine T.storeA Wanted.none rfl rfl zq8 (by exact rfl) zq14 zq13 ?_; refine yq0 ?_
    exact T.retF (Lv.fin (RV.cellTmp rfl (by exact CV.agg rfl zq0 (by exact rfl)) rfl) rfl)
  · rw [if_neg h1]
    refine zs3 ?_; (refine T.box Wanted.none rfl rfl zq15 ?_; intro b4); (refine T.box Wanted.none rfl rfl zq15 ?_; intro b5); refine sy fun b6 => ?_; refine yq11 ?_; refine sq ?_; refine T.regionQ (by kernel_rfl) ?_; refine yq1 ?_; refine TQ.pv (PV.move rfl) Wanted.none rfl rfl ?_; refine TQ.pv (PV.nilCheck rfl) Wanted.none rfl rfl ?_; refine yq1 ?_; refine TQ.pv (PV.geq rfl rfl) Wanted.none rfl rfl ?_; refine TQ.pv (PV.move rfl) Wanted.none rfl rfl ?_; refine TQ.setT (d := 15) rfl (by omega) ?_; refine yq3 ?_; refine yq3 ?_; refine yq3 ?_; refine yq3 ?_; refine yq3 ?_; refine yq3 ?_; refine yq3 ?_; refine yq3 ?_; refine TQ.pass (Unwanted.guard rfl rfl rfl) rfl rfl ?_; refine TQ.pv (PV.pickT rfl rfl rfl) Wanted.none rfl rfl ?_; refine TQ.nil ?_; refine T.condT rfl rfl ?_; refine zs3 ?_; refine sv (PV.build rfl zq12) ?_
    refine T.storeA Wanted.none rfl rfl zq8 (by exact rfl) zq14 zq13 ?_; refine yq0 ?_
    exact T.retF (Lv.fin (RV.cellTmp rfl (by exact CV.agg rfl zq0 (by exact rfl)) rfl) rfl)
end
/-! ### regions, one of which ... -/
theorem indexRg_fn (l : List Rg) (v : Value) (H : Hp) (hv : RgAL H v l) (hlb : l.length ≤ 1000000) (g : Rg → Bool) (gfn : FuncId) [hE : Ent Tryz.prog gfn] (cap : List Value) (hg : ∀ f ∈ l, Fn Tryz.prog gfn (rgV f :: cap).toArray H (fun u _ => u = .bool (g f))) :
    Fn Tryz.prog 261 #[v, .func (.func gfn) #[] cap.toArray] H (fun u _ => ∃ i : Int, u = .int .i64 i ∧ (0 ≤ i ↔ l.any g = true)) := by
  obtain ⟨hv, hv2⟩ := hv
  obtain ⟨ad, capv, rfl⟩ := hv.len
  refine Fn.of_T (vs := [.slice ad l.length capv, .func (.func gfn) #[] cap.toArray]) Tryz.func261 rfl rfl fun w => ?_; refine zs3 ?_; refine yq11 ?_; refine yq30 ?_; refine yq35 ?_; refine T.loopC [(7, Value.int IntKind.i64 (↑l.length : Int)), (0, Value.slice ad l.length capv), (1, Value.func (Fn.func gfn) #[] cap.toArray)] zq8 8 l.length (fun i => (l.take i).any g = false) rfl rfl ?_
  rintro i ⟨hi0, hi1⟩
  by_cases hi : i < l.length
  · obtain ⟨b, off, f, rfl, hix, hsub⟩ := RowL.get encRg_len hv hi
    have hgf := hg f (List.mem_of_getElem? hix)
    obtain ⟨am, cm, hmv⟩ := (hv2 f (List.mem_of_getElem? hix)).1.len
    unfold rgV at hgf
    unfold encRg at hsub
    rw [hmv] at hgf hsub
    have hst : (l.take (i + 1)).any g = g f := by rw [List.take_add_one, hix, List.any_append, hi1]; simp
    refine yq16 ?_; refine sC rfl (by omega) ?_; refine yq25 ?_; refine yq4 ?_; refine yq28 ?_; refine sm ?_; refine sm ?_; refine yq5 ?_; refine T.callF (cap := cap) Wanted.none rfl rfl rfl (by exact hgf) ?_
    rintro _ H' hle rfl
    refine T.forget hle ?_ (Hp.le.refl _)
    cases hb : g f
    · refine so ?_; refine yq7 ?_; refine yq33 ?_; refine yq23 ?_
      exact T.nextC hi (hst.trans hb) rfl zq8 (by repeat (first | exact Sel.refl _ | exact Sel.nil | (refine Sel.cons zq1 ?_) | (refine Sel.app zq1 ?_) | exact Sel.one zq1))
    · refine so ?_; refine T.condT rfl rfl ?_; refine yq4 ?_; refine yq0 ?_
      refine T.retF (Lv.fin (RV.tmp rfl rfl) ⟨_, rfl, ?_⟩)
      have : l.any g = true := List.any_eq_true.2 ⟨f, List.mem_of_getElem? hix, hb⟩
      rw [this]
      simp
  · rw [List.take_of_length_le (by omega)] at hi1
    refine yq16 ?_; refine yq21 ?_; refine zs3 ?_; refine yq0 ?_
    exact T.retF (Lv.fin (RV.tmp rfl rfl) ⟨-1, rfl, by rw [hi1]; simp⟩)
theorem containsRg_fn (l : List Rg) (v : Value) (H : Hp) (hv : RgAL H v l) (hlb : l.length ≤ 1000000) (g : Rg → Bool) (gfn : FuncId) [hE : Ent Tryz.prog gfn] (cap : List Value) (hg : ∀ f ∈ l, Fn Tryz.prog gfn (rgV f :: cap).toArray H (fun u _ => u = .bool (g f))) :
    Fn Tryz.prog 212 #[v, .func (.func gfn) #[] cap.toArray] H (fun u _ => u = .bool (l.any g)) := by
  have hix := indexRg_fn l v H hv hlb g gfn cap hg
  refine Fn.of_T (vs := [v, .func (.func gfn) #[] cap.toArray]) Tryz.func212 rfl rfl fun w => ?_; refine zs3 ?_; refine yq28 ?_; refine sm ?_; refine T.callX Wanted.none rfl rfl hix ?_
  rintro _ ⟨i, rfl, hi⟩
  refine sv (PV.geq rfl rfl) ?_; refine yq0 ?_
  refine T.retF (Lv.fin (RV.tmp rfl rfl) ?_)
  by_cases h : 0 ≤ i
  · rw [decide_eq_true h, hi.1 h]
  · rw [decide_eq_false h]
    cases ha : l.any g
    · rfl
    · exact absurd (hi.2 ha) h
/-! ### anchors -/
def anG (op : Int) (kind : ByteArray) (tb te s : Int) (r : Rg) : Bool := decide (r.ty = kind) && decide ((if op = 3 then r.e else r.b) = s) && decide (tb ≤ r.b) && decide (r.e ≤ te)
section
variable {H : Hp} {c : Cp} {kind : ByteArray} {bq bs bt br bk : Nat} {tb te : Int}
set_option maxHeartbeats 2000000 in
theorem anchor1_fn (h : RunR H c kind bq bs bt br bk tb te) (op : Int) (hop : op = 2 ∨ op = 3) (s : Int) (bp ba b3 : Nat) (r : Rg) (hr : RgA H r)
    (hp : H bp = some (.cells #[.int .i64 op, .int .i64 0, .string ⟨#[]⟩, .string ⟨#[]⟩, .string ⟨#[]⟩, .string ⟨#[]⟩, .bool false, .slice none 0 0, .string ⟨#[]⟩, .string kind, .int .i64 0, .int .i64 0, .slice none 0 0] 38 (0, 0)))
    (ha : H ba = some (.cells #[.int .i64 s] 3 (0, 0))) (h3 : H b3 = some (.cells #[.pointer (some ⟨br, 0, none⟩)] 136 (0, 0))) :
    Fn Tryz.prog 213 #[rgV r, .pointer (some ⟨bp, 0, none⟩), .pointer (some ⟨ba, 0, none⟩), .pointer (some ⟨b3, 0, none⟩)] H (fun u _ => u = .bool (anG op kind tb te s r)) := by
  have hrr := h.r
  obtain ⟨am, cm, hmv⟩ := hr.1.len
  unfold rgV anG
  rw [hmv]
  refine Fn.of_T (vs := [.agg #[.string r.ty, .int .i64 r.b, .int .i64 r.e, .slice am r.ks.length cm], .pointer (some ⟨bp, 0, none⟩), .pointer (some ⟨ba, 0, none⟩), .pointer (some ⟨b3, 0, none⟩)]) Tryz.func213 rfl rfl fun w => ?_
  rcases hop with rfl | rfl
  · rw [if_neg (by decide)]
    by_cases h1 : r.ty = kind
    · have e1 := decide_eq_true h1
      by_cases h2 : r.b = s
      · have e2 := decide_eq_true h2
        by_cases h4 : tb ≤ r.b
        · have e4 := decide_eq_true h4
          refine zs3 ?_; (refine T.box Wanted.none rfl rfl zq15 ?_; intro b4); refine yq14 ?_; refine yq6 ?_; refine yq11 ?_; refine zs3 ?_; refine yq6 ?_; refine sv (PV.eql rfl rfl) ?_; refine so ?_; refine yq7 ?_; refine sq ?_; refine T.regionQ (by kernel_rfl) ?_; refine yq1 ?_; refine yq1 ?_; refine TQ.pv (PV.seql rfl rfl) Wanted.none rfl rfl ?_; refine TQ.pv (PV.move rfl) Wanted.none rfl rfl ?_; refine TQ.pv (PV.move rfl) (Wanted.guard rfl rfl (by assumption)) rfl rfl ?_; refine TQ.pv (PV.load1 rfl zq0 rfl) (Wanted.guard rfl rfl (by assumption)) rfl rfl ?_; refine TQ.pv (PV.eql rfl rfl) (Wanted.guard rfl rfl (by assumption)) rfl rfl ?_; refine TQ.pv (PV.pickT rfl (by assumption) rfl) Wanted.none rfl rfl ?_; refine TQ.pv (PV.move rfl) Wanted.none rfl rfl ?_; refine yq36 ?_; refine TQ.pv (PV.load1 rfl zq0 rfl) (Wanted.guard rfl rfl (by assumption)) rfl rfl ?_; refine TQ.pv (PV.nilCheck rfl) (Wanted.guard rfl rfl (by assumption)) rfl rfl ?_; refine yq36 ?_; refine TQ.pv (PV.geq rfl rfl) (Wanted.guard rfl rfl (by assumption)) rfl rfl ?_; refine TQ.pv (PV.pickT rfl (by assumption) rfl) Wanted.none rfl rfl ?_; refine TQ.pv (PV.move rfl) Wanted.none rfl rfl ?_; refine yq36 ?_
          refine TQ.pv (PV.load1 rfl zq0 rfl) (Wanted.guard rfl rfl (by assumption)) rfl rfl ?_; refine TQ.pv (PV.nilCheck rfl) (Wanted.guard rfl rfl (by assumption)) rfl rfl ?_; refine yq36 ?_; refine TQ.pv (PV.leq rfl rfl) (Wanted.guard rfl rfl (by assumption)) rfl rfl ?_; refine TQ.pv (PV.pickT rfl (by assumption) rfl) Wanted.none rfl rfl ?_; refine yq34 ?_
          exact T.retF (Lv.fin (RV.tmp rfl rfl) (by rw [e1, e2, e4]; simp))
        · have e4 := decide_eq_false h4
          refine zs3 ?_; (refine T.box Wanted.none rfl rfl zq15 ?_; intro b4); refine yq14 ?_; refine yq6 ?_; refine yq11 ?_; refine zs3 ?_; refine yq6 ?_; refine sv (PV.eql rfl rfl) ?_; refine so ?_; refine yq7 ?_; refine sq ?_; refine T.regionQ (by kernel_rfl) ?_; refine yq1 ?_; refine yq1 ?_; refine TQ.pv (PV.seql rfl rfl) Wanted.none rfl rfl ?_; refine TQ.pv (PV.move rfl) Wanted.none rfl rfl ?_; refine TQ.pv (PV.move rfl) (Wanted.guard rfl rfl (by assumption)) rfl rfl ?_; refine TQ.pv (PV.load1 rfl zq0 rfl) (Wanted.guard rfl rfl (by assumption)) rfl rfl ?_; refine TQ.pv (PV.eql rfl rfl) (Wanted.guard rfl rfl (by assumption)) rfl rfl ?_; refine TQ.pv (PV.pickT rfl (by assumption) rfl) Wanted.none rfl rfl ?_; refine TQ.pv (PV.move rfl) Wanted.none rfl rfl ?_; refine yq36 ?_; refine TQ.pv (PV.load1 rfl zq0 rfl) (Wanted.guard rfl rfl (by assumption)) rfl rfl ?_; refine TQ.pv (PV.nilCheck rfl) (Wanted.guard rfl rfl (by assumption)) rfl rfl ?_; refine yq36 ?_; refine TQ.pv (PV.geq rfl rfl) (Wanted.guard rfl rfl (by assumption)) rfl rfl ?_; refine TQ.pv (PV.pickT rfl (by assumption) rfl) Wanted.none rfl rfl ?_; refine TQ.pv (PV.move rfl) Wanted.none rfl rfl ?_; refine TQ.pass (Unwanted.guard rfl rfl (by assumption)) rfl rfl ?_; refine TQ.pass (Unwanted.guard rfl rfl (by assumption)) rfl rfl ?_
          refine TQ.pass (Unwanted.guard rfl rfl (by assumption)) rfl rfl ?_; refine TQ.pass (Unwanted.guard rfl rfl (by assumption)) rfl rfl ?_; refine TQ.pass (Unwanted.guard rfl rfl (by assumption)) rfl rfl ?_; refine TQ.pass (Unwanted.guard rfl rfl (by assumption)) rfl rfl ?_; refine TQ.pass (Unwanted.guard rfl rfl (by assumption)) rfl rfl ?_; refine TQ.pv (PV.pickF rfl (by assumption) rfl) Wanted.none rfl rfl ?_; refine yq34 ?_
          exact T.retF (Lv.fin (RV.tmp rfl rfl) (by rw [e1, e2, e4]; simp))
      · have e2 := decide_eq_false h2
        refine zs3 ?_; (refine T.box Wanted.none rfl rfl zq15 ?_; intro b4); refine yq14 ?_; refine yq6 ?_; refine yq11 ?_; refine zs3 ?_; refine yq6 ?_; refine sv (PV.eql rfl rfl) ?_; refine so ?_; refine yq7 ?_; refine sq ?_; refine T.regionQ (by kernel_rfl) ?_; refine yq1 ?_; refine yq1 ?_; refine TQ.pv (PV.seql rfl rfl) Wanted.none rfl rfl ?_; refine TQ.pv (PV.move rfl) Wanted.none rfl rfl ?_; refine TQ.pv (PV.move rfl) (Wanted.guard rfl rfl (by assumption)) rfl rfl ?_; refine TQ.pv (PV.load1 rfl zq0 rfl) (Wanted.guard rfl rfl (by assumption)) rfl rfl ?_; refine TQ.pv (PV.eql rfl rfl) (Wanted.guard rfl rfl (by assumption)) rfl rfl ?_; refine TQ.pv (PV.pickT rfl (by assumption) rfl) Wanted.none rfl rfl ?_; refine TQ.pv (PV.move rfl) Wanted.none rfl rfl ?_; refine TQ.pass (Unwanted.guard rfl rfl (by assumption)) rfl rfl ?_; refine TQ.pass (Unwanted.guard rfl rfl (by assumption)) rfl rfl ?_; refine TQ.pass (Unwanted.guard rfl rfl (by assumption)) rfl rfl ?_; refine TQ.pass (Unwanted.guard rfl rfl (by assumption)) rfl rfl ?_; refine TQ.pass (Unwanted.guard rfl rfl (by assumption)) rfl rfl ?_; refine TQ.pass (Unwanted.guard rfl rfl (by assumption)) rfl rfl ?_; refine TQ.pass (Unwanted.guard rfl rfl (by assumption)) rfl rfl ?_; refine TQ.pv (PV.pickF rfl (by assumption) rfl) Wanted.none rfl rfl ?_; refine TQ.pv (PV.move rfl) Wanted.none rfl rfl ?_; refine yq3 ?_
        refine yq3 ?_; refine yq3 ?_; refine TQ.pass (Unwanted.guard rfl rfl rfl) rfl rfl ?_; refine TQ.pv (PV.pickF rfl rfl rfl) Wanted.none rfl rfl ?_; refine yq34 ?_
        exact T.retF (Lv.fin (RV.tmp rfl rfl) (by rw [e1, e2]; simp))
    · have e1 := decide_eq_false h1
      refine zs3 ?_; (refine T.box Wanted.none rfl rfl zq15 ?_; intro b4); refine yq14 ?_; refine yq6 ?_; refine yq11 ?_; refine zs3 ?_; refine yq6 ?_; refine sv (PV.eql rfl rfl) ?_; refine so ?_; refine yq7 ?_; refine sq ?_; refine T.regionQ (by kernel_rfl) ?_; refine yq1 ?_; refine yq1 ?_; refine TQ.pv (PV.seql rfl rfl) Wanted.none rfl rfl ?_; refine TQ.pv (PV.move rfl) Wanted.none rfl rfl ?_; refine TQ.pass (Unwanted.guard rfl rfl (by assumption)) rfl rfl ?_; refine TQ.pass (Unwanted.guard rfl rfl (by assumption)) rfl rfl ?_; refine TQ.pass (Unwanted.guard rfl rfl (by assumption)) rfl rfl ?_; refine TQ.pv (PV.pickF rfl (by assumption) rfl) Wanted.none rfl rfl ?_; refine TQ.pv (PV.move rfl) Wanted.none rfl rfl ?_; refine yq3 ?_; refine yq3 ?_; refine yq3 ?_; refine TQ.pass (Unwanted.guard rfl rfl rfl) rfl rfl ?_; refine TQ.pv (PV.pickF rfl rfl rfl) Wanted.none rfl rfl ?_; refine TQ.pv (PV.move rfl) Wanted.none rfl rfl ?_; refine yq3 ?_
      refine yq3 ?_; refine yq3 ?_; refine TQ.pass (Unwanted.guard rfl rfl rfl) rfl rfl ?_; refine TQ.pv (PV.pickF rfl rfl rfl) Wanted.none rfl rfl ?_; refine yq34 ?_
      exact T.retF (Lv.fin (RV.tmp rfl rfl) (by rw [e1]; simp))
  · rw [if_pos rfl]
    by_cases h1 : r.ty = kind
    · have e1 := decide_eq_true h1
      by_cases h2 : r.e = s
      · have e2 := decide_eq_true h2
        by_cases h4 : tb ≤ r.b
        · have e4 := decide_eq_true h4
          refine zs3 ?_; (refine T.box Wanted.none rfl rfl zq15 ?_; intro b4); refine yq14 ?_; refine yq6 ?_; refine yq11 ?_; refine zs3 ?_; refine yq6 ?_; refine sv (PV.eql rfl rfl) ?_; refine so ?_; refine T.condT rfl rfl ?_; refine sr ?_; refine yq6 ?_; refine yq11 ?_; refine T.regionQ (by kernel_rfl) ?_; refine yq1 ?_; refine yq1 ?_; refine TQ.pv (PV.seql rfl rfl) Wanted.none rfl rfl ?_; refine TQ.pv (PV.move rfl) Wanted.none rfl rfl ?_; refine TQ.pv (PV.move rfl) (Wanted.guard rfl rfl (by assumption)) rfl rfl ?_; refine TQ.pv (PV.load1 rfl zq0 rfl) (Wanted.guard rfl rfl (by assumption)) rfl rfl ?_; refine TQ.pv (PV.eql rfl rfl) (Wanted.guard rfl rfl (by assumption)) rfl rfl ?_; refine TQ.pv (PV.pickT rfl (by assumption) rfl) Wanted.none rfl rfl ?_; refine TQ.pv (PV.move rfl) Wanted.none rfl rfl ?_; refine yq36 ?_; refine TQ.pv (PV.load1 rfl zq0 rfl) (Wanted.guard rfl rfl (by assumption)) rfl rfl ?_; refine TQ.pv (PV.nilCheck rfl) (Wanted.guard rfl rfl (by assumption)) rfl rfl ?_; refine yq36 ?_; refine TQ.pv (PV.geq rfl rfl) (Wanted.guard rfl rfl (by assumption)) rfl rfl ?_
          refine TQ.pv (PV.pickT rfl (by assumption) rfl) Wanted.none rfl rfl ?_; refine TQ.pv (PV.move rfl) Wanted.none rfl rfl ?_; refine yq36 ?_; refine TQ.pv (PV.load1 rfl zq0 rfl) (Wanted.guard rfl rfl (by assumption)) rfl rfl ?_; refine TQ.pv (PV.nilCheck rfl) (Wanted.guard rfl rfl (by assumption)) rfl rfl ?_; refine yq36 ?_; refine TQ.pv (PV.leq rfl rfl) (Wanted.guard rfl rfl (by assumption)) rfl rfl ?_; refine TQ.pv (PV.pickT rfl (by assumption) rfl) Wanted.none rfl rfl ?_; refine yq34 ?_
          exact T.retF (Lv.fin (RV.tmp rfl rfl) (by rw [e1, e2, e4]; simp))
        · have e4 := decide_eq_false h4
          refine zs3 ?_; (refine T.box Wanted.none rfl rfl zq15 ?_; intro b4); refine yq14 ?_; refine yq6 ?_; refine yq11 ?_; refine zs3 ?_; refine yq6 ?_; refine sv (PV.eql rfl rfl) ?_; refine so ?_; refine T.condT rfl rfl ?_; refine sr ?_; refine yq6 ?_; refine yq11 ?_; refine T.regionQ (by kernel_rfl) ?_; refine yq1 ?_; refine yq1 ?_; refine TQ.pv (PV.seql rfl rfl) Wanted.none rfl rfl ?_; refine TQ.pv (PV.move rfl) Wanted.none rfl rfl ?_; refine TQ.pv (PV.move rfl) (Wanted.guard rfl rfl (by assumption)) rfl rfl ?_; refine TQ.pv (PV.load1 rfl zq0 rfl) (Wanted.guard rfl rfl (by assumption)) rfl rfl ?_; refine TQ.pv (PV.eql rfl rfl) (Wanted.guard rfl rfl (by assumption)) rfl rfl ?_; refine TQ.pv (PV.pickT rfl (by assumption) rfl) Wanted.none rfl rfl ?_; refine TQ.pv (PV.move rfl) Wanted.none rfl rfl ?_; refine yq36 ?_; refine TQ.pv (PV.load1 rfl zq0 rfl) (Wanted.guard rfl rfl (by assumption)) rfl rfl ?_; refine TQ.pv (PV.nilCheck rfl) (Wanted.guard rfl rfl (by assumption)) rfl rfl ?_; refine yq36 ?_; refine TQ.pv (PV.geq rfl rfl) (Wanted.guard rfl rfl (by assumption)) rfl rfl ?_
          refine TQ.pv (PV.pickT rfl (by assumption) rfl) Wanted.none rfl rfl ?_; refine TQ.pv (PV.move rfl) Wanted.none rfl rfl ?_; refine TQ.pass (Unwanted.guard rfl rfl (by assumption)) rfl rfl ?_; refine TQ.pass (Unwanted.guard rfl rfl (by assumption)) rfl rfl ?_; refine TQ.pass (Unwanted.guard rfl rfl (by assumption)) rfl rfl ?_; refine TQ.pass (Unwanted.guard rfl rfl (by assumption)) rfl rfl ?_; refine TQ.pass (Unwanted.guard rfl rfl (by assumption)) rfl rfl ?_; refine TQ.pass (Unwanted.guard rfl rfl (by assumption)) rfl rfl ?_; refine TQ.pass (Unwanted.guard rfl rfl (by assumption)) rfl rfl ?_; refine TQ.pv (PV.pickF rfl (by assumption) rfl) Wanted.none rfl rfl ?_; refine yq34 ?_
          exact T.retF (Lv.fin (RV.tmp rfl rfl) (by rw [e1, e2, e4]; simp))
      · have e2 := decide_eq_false h2
        refine zs3 ?_; (refine T.box Wanted.none rfl rfl zq15 ?_; intro b4); refine yq14 ?_; refine yq6 ?_; refine yq11 ?_; refine zs3 ?_; refine yq6 ?_; refine sv (PV.eql rfl rfl) ?_; refine so ?_; refine T.condT rfl rfl ?_; refine sr ?_; refine yq6 ?_; refine yq11 ?_; refine T.regionQ (by kernel_rfl) ?_; refine yq1 ?_; refine yq1 ?_; refine TQ.pv (PV.seql rfl rfl) Wanted.none rfl rfl ?_; refine TQ.pv (PV.move rfl) Wanted.none rfl rfl ?_; refine TQ.pv (PV.move rfl) (Wanted.guard rfl rfl (by assumption)) rfl rfl ?_; refine TQ.pv (PV.load1 rfl zq0 rfl) (Wanted.guard rfl rfl (by assumption)) rfl rfl ?_; refine TQ.pv (PV.eql rfl rfl) (Wanted.guard rfl rfl (by assumption)) rfl rfl ?_; refine TQ.pv (PV.pickT rfl (by assumption) rfl) Wanted.none rfl rfl ?_; refine TQ.pv (PV.move rfl) Wanted.none rfl rfl ?_; refine TQ.pass (Unwanted.guard rfl rfl (by assumption)) rfl rfl ?_; refine TQ.pass (Unwanted.guard rfl rfl (by assumption)) rfl rfl ?_; refine TQ.pass (Unwanted.guard rfl rfl (by assumption)) rfl rfl ?_; refine TQ.pass (Unwanted.guard rfl rfl (by assumption)) rfl rfl ?_; refine TQ.pass (Unwanted.guard rfl rfl (by assumption)) rfl rfl ?_; refine TQ.pass (Unwanted.guard rfl rfl (by assumption)) rfl rfl ?_; refine TQ.pass (Unwanted.guard rfl rfl (by assumption)) rfl rfl ?_
        refine TQ.pv (PV.pickF rfl (by assumption) rfl) Wanted.none rfl rfl ?_; refine TQ.pv (PV.move rfl) Wanted.none rfl rfl ?_; refine yq3 ?_; refine yq3 ?_; refine yq3 ?_; refine TQ.pass (Unwanted.guard rfl rfl rfl) rfl rfl ?_; refine TQ.pv (PV.pickF rfl rfl rfl) Wanted.none rfl rfl ?_; refine yq34 ?_
        exact T.retF (Lv.fin (RV.tmp rfl rfl) (by rw [e1, e2]; simp))
    · have e1 := decide_eq_false h1
      refine zs3 ?_; (refine T.box Wanted.none rfl rfl zq15 ?_; intro b4); refine yq14 ?_; refine yq6 ?_; refine yq11 ?_; refine zs3 ?_; refine yq6 ?_; refine sv (PV.eql rfl rfl) ?_; refine so ?_; refine T.condT rfl rfl ?_; refine sr ?_; refine yq6 ?_; refine yq11 ?_; refine T.regionQ (by kernel_rfl) ?_; refine yq1 ?_; refine yq1 ?_; refine TQ.pv (PV.seql rfl rfl) Wanted.none rfl rfl ?_; refine TQ.pv (PV.move rfl) Wanted.none rfl rfl ?_; refine TQ.pass (Unwanted.guard rfl rfl (by assumption)) rfl rfl ?_; refine TQ.pass (Unwanted.guard rfl rfl (by assumption)) rfl rfl ?_; refine TQ.pass (Unwanted.guard rfl rfl (by assumption)) rfl rfl ?_; refine TQ.pv (PV.pickF rfl (by assumption) rfl) Wanted.none rfl rfl ?_; refine TQ.pv (PV.move rfl) Wanted.none rfl rfl ?_; refine yq3 ?_; refine yq3 ?_; refine yq3 ?_; refine TQ.pass (Unwanted.guard rfl rfl rfl) rfl rfl ?_
      refine TQ.pv (PV.pickF rfl rfl rfl) Wanted.none rfl rfl ?_; refine TQ.pv (PV.move rfl) Wanted.none rfl rfl ?_; refine yq3 ?_; refine yq3 ?_; refine yq3 ?_; refine TQ.pass (Unwanted.guard rfl rfl rfl) rfl rfl ?_; refine TQ.pv (PV.pickF rfl rfl rfl) Wanted.none rfl rfl ?_; refine yq34 ?_
      exact T.retF (Lv.fin (RV.tmp rfl rfl) (by rw [e1]; simp))
theorem anchor_fn (h : RunR H c kind bq bs bt br bk tb te) (op : Int) (hop : op = 2 ∨ op = 3) (s : Int) :
    Fn Tryz.prog 153 #[.pointer (some ⟨br, 0, none⟩), pnV ⟨op, 0, kind, 0, 0, none, 0, 0⟩, .int .i64 s] H (fun u _ => u = .bool (c.rg.any (anG op kind tb te s))) := by
  unfold pnV
  dsimp only
  refine Fn.of_T (vs := [.pointer (some ⟨br, 0, none⟩), _, .int .i64 s]) Tryz.func153 rfl rfl fun w => ?_; refine zs3 ?_; (refine T.box Wanted.none rfl rfl zq15 ?_; intro b3); (refine T.box Wanted.none rfl rfl zq15 ?_; intro b4); (refine T.box Wanted.none rfl rfl zq15 ?_; intro b5); refine yq0 ?_; refine T.freezeB (b := b3) zq1 ?_
  intro H1 hle1 hb3
  refine T.freezeB (b := b4) zq1 ?_
  intro H2 hle2 hb4
  refine T.freezeB (b := b5) zq1 ?_
  intro H3 hle3 hb5
  have hle := (hle1.trans hle2).trans hle3
  have h' := h.mono hle
  have hr := h'.r
  have hb3 := hle3 _ _ (hle2 _ _ hb3)
  have hb4 := hle3 _ _ hb4
  have hco := containsRg_fn c.rg c.vr H3 h'.c.r (by have := h'.c.lr; omega) (anG op kind tb te s) 213 [.pointer (some ⟨b4, 0, none⟩), .pointer (some ⟨b5, 0, none⟩), .pointer (some ⟨b3, 0, none⟩)]
    (fun r hrm => anchor1_fn h' op hop s b4 b5 b3 r (h'.c.r.2 r hrm) hb4 hb5 hb3)
  refine zs3 ?_; refine sl ?_; refine sv (PV.nilCheck rfl) ?_; refine sf ?_; refine yq6 ?_; refine sv (PV.makeFunc rfl) ?_; refine T.callV Wanted.none rfl rfl (hco) ?_; refine yq0 ?_
  exact T.retF (Lv.fin (RV.tmp rfl rfl) rfl)
theorem anchorB_fn (h : RunR H c kind bq bs bt br bk tb te) (s : Int) : Fn Tryz.prog 153 #[.pointer (some ⟨br, 0, none⟩), pnV (pB kind), .int .i64 s] H (fun u _ => u = .bool (anB c.rg kind tb te s)) :=
  (anchor_fn h 2 (.inl rfl) s).mono fun u _ hu => hu.trans (by unfold anB; congr 2)
theorem anchorE_fn (h : RunR H c kind bq bs bt br bk tb te) (s : Int) : Fn Tryz.prog 153 #[.pointer (some ⟨br, 0, none⟩), pnV (pE kind), .int .i64 s] H (fun u _ => u = .bool (anE c.rg kind tb te s)) :=
  (anchor_fn h 3 (.inr rfl) s).mono fun u _ hu => hu.trans (by unfold anE; congr 2)
end

end Go.Proofs.YtbcadnjfegiakaaGreatDoor
