/- patterns: the pattern from a begin anchor to an end anchor is well formed; its labels, leaves and size.
   queries: the query with that pattern is valid.
   queries: the query with that pattern is valid: the checks. -/
import Derived.Test.YtbcadnjfegiakaaGreatDoorGQ
namespace Go.Proofs.YtbcadnjfegiakaaGreatDoor
open Go.RowKit

/-- a node of a pattern without a label, whose condition has but an Op -/
structure Pn where
  op : Int
  co : Int
  rg : ByteArray
  mn : Int
  mx : Int
  ka : Option Addr
  kn : Nat
  kc : Nat
def Pn.ks (p : Pn) : Value := .slice p.ka p.kn p.kc
def encPn (p : Pn) : List Value := [.int .i64 p.op, .int .i64 p.co, .string ⟨#[]⟩, .string ⟨#[]⟩, .string ⟨#[]⟩, .string ⟨#[]⟩, .bool false, .slice none 0 0, .string ⟨#[]⟩, .string p.rg, .int .i64 p.mn, .int .i64 p.mx, .slice p.ka p.kn p.kc]
theorem encPn_len (p : Pn) : (encPn p).length = 13 := rfl
def pnV (p : Pn) : Value := .agg #[.int .i64 p.op, .int .i64 p.co, .string ⟨#[]⟩, .string ⟨#[]⟩, .string ⟨#[]⟩, .string ⟨#[]⟩, .bool false, .slice none 0 0, .string ⟨#[]⟩, .string p.rg, .int .i64 p.mn, .int .i64 p.mx, .slice p.ka p.kn p.kc]
abbrev PnL (H : Hp) (v : Value) (l : List Pn) : Prop := SlR H 13 v l.length (l.flatMap encPn)
/-- a condition with an Op alone -/
abbrev cnV (co : Int) : Value := .agg #[.int .i64 co, .string ⟨#[]⟩, .string ⟨#[]⟩, .string ⟨#[]⟩, .string ⟨#[]⟩, .bool false, .slice none 0 0]
theorem indexPn_fn (l : List Pn) (v : Value) (H : Hp) (hv : PnL H v l) (hlb : l.length ≤ 1000000) (gfn : FuncId) [hE : Ent Tryz.prog gfn] (cap : List Value) (hg : ∀ f ∈ l, Fn Tryz.prog gfn (pnV f :: cap).toArray H (fun u _ => u = .bool false)) :
    Fn Tryz.prog 256 #[v, .func (.func gfn) #[] cap.toArray] H (fun u _ => u = .int .i64 (-1)) := by
  obtain ⟨ad, capv, rfl⟩ := hv.len
  refine Fn.of_T (vs := [.slice ad l.length capv, .func (.func gfn) #[] cap.toArray]) Tryz.func256 rfl rfl fun w => ?_; refine zs3 ?_; refine yq11 ?_; refine yq30 ?_; refine yq35 ?_; refine T.loopR [(7, Value.int IntKind.i64 (↑l.length : Int)), (0, Value.slice ad l.length capv), (1, Value.func (Fn.func gfn) #[] cap.toArray)] zq8 8 l.length rfl ?_
  intro i hi0
  by_cases hi : i < l.length
  · obtain ⟨b, off, f, rfl, hix, hsub⟩ := RowL.get encPn_len hv hi
    have hgf := hg f (List.mem_of_getElem? hix)
    unfold pnV at hgf
    unfold encPn at hsub
    refine yq16 ?_; refine sC rfl (by omega) ?_; refine yq25 ?_; refine yq4 ?_; refine yq28 ?_; refine sm ?_; refine sm ?_; refine yq5 ?_; refine T.callF (cap := cap) Wanted.none rfl rfl rfl (by exact hgf) ?_
    rintro _ H' hle rfl
    refine T.forget hle ?_ (Hp.le.refl _)
    refine so ?_; refine yq7 ?_; refine yq33 ?_; refine yq23 ?_
    exact T.nextR hi rfl zq8 (by repeat (first | exact Sel.refl _ | exact Sel.nil | (refine Sel.cons zq1 ?_) | (refine Sel.app zq1 ?_) | exact Sel.one zq1))
  · refine yq16 ?_; refine yq21 ?_; refine zs3 ?_; refine yq0 ?_
    exact T.retF (Lv.fin (RV.tmp rfl rfl) rfl)
theorem containsPn_fn (l : List Pn) (v : Value) (H : Hp) (hv : PnL H v l) (hlb : l.length ≤ 1000000) (gfn : FuncId) [hE : Ent Tryz.prog gfn] (cap : List Value) (hg : ∀ f ∈ l, Fn Tryz.prog gfn (pnV f :: cap).toArray H (fun u _ => u = .bool false)) :
    Fn Tryz.prog 201 #[v, .func (.func gfn) #[] cap.toArray] H (fun u _ => u = .bool false) := by
  have hix := indexPn_fn l v H hv hlb gfn cap hg
  refine Fn.of_T (vs := [v, .func (.func gfn) #[] cap.toArray]) Tryz.func201 rfl rfl fun w => ?_; refine zs3 ?_; refine yq28 ?_; refine sm ?_; refine T.callX Wanted.none rfl rfl hix ?_
  rintro _ rfl
  refine sv (PV.geq rfl rfl) ?_; refine yq0 ?_
  exact T.retF (Lv.fin (RV.tmp rfl rfl) rfl)
/-! ### every, shallow -/
theorem every1_fn (k : Pn) (gfn : FuncId) (b : Nat) (H : Hp) (hb : H b = some (.cells #[.func (.func gfn) #[] #[]] 154 (0, 0)))
    (he : Fn Tryz.prog 135 #[pnV k, .func (.func gfn) #[] #[]] H (fun u _ => u = .bool true)) :
    Fn Tryz.prog 202 #[pnV k, .pointer (some ⟨b, 0, none⟩)] H (fun u _ => u = .bool false) := by
  unfold pnV at he ⊢
  refine Fn.of_T (vs := [_, .pointer (some ⟨b, 0, none⟩)]) Tryz.func202 rfl rfl fun w => ?_; refine zs3 ?_; (refine T.box Wanted.none rfl rfl zq15 ?_; intro b2); refine yq14 ?_; refine sv (PV.loadAll rfl zq0 (by exact rfl)) ?_; refine sl ?_; refine T.callV Wanted.none rfl rfl (he) ?_; refine sv (PV.not rfl) ?_; refine yq0 ?_
  exact T.retF (Lv.fin (RV.tmp rfl rfl) rfl)
theorem every_node (p : Pn) (l : List Pn) (gfn : FuncId) [hE : Ent Tryz.prog gfn] (H : Hp) (hl : PnL H p.ks l) (hlb : l.length ≤ 1000000)
    (hg : ∀ H', H.le H' → Fn Tryz.prog gfn #[pnV p] H' (fun u _ => u = .bool true))
    (hk : ∀ k ∈ l, ∀ H', H.le H' → Fn Tryz.prog 135 #[pnV k, .func (.func gfn) #[] #[]] H' (fun u _ => u = .bool true)) :
    Fn Tryz.prog 135 #[pnV p, .func (.func gfn) #[] #[]] H (fun u _ => u = .bool true) := by
  unfold pnV at hg ⊢
  refine Fn.of_T (vs := [_, .func (.func gfn) #[] #[]]) Tryz.func135 rfl rfl fun w => ?_; refine zs3 ?_; (refine T.box Wanted.none rfl rfl zq15 ?_; intro b2); (refine T.box Wanted.none rfl rfl zq15 ?_; intro b3); refine yq0 ?_; refine T.freezeB (b := b3) zq1 ?_
  intro H1 hle1 hb3
  have hg1 := hg H1 hle1
  have hco := containsPn_fn l p.ks H1 (hl.mono hle1) hlb 202 [.pointer (some ⟨b3, 0, none⟩)] fun k hkm => every1_fn k gfn b3 H1 hb3 (hk k hkm H1 hle1)
  refine zs3 ?_; refine sl ?_; refine sv (PV.loadAll rfl zq0 (by exact rfl)) ?_; refine T.callF (cap := []) Wanted.none rfl rfl rfl (by exact hg1) ?_
  rintro _ H' hle rfl
  refine T.forget hle ?_ (by assumption)
  refine sm ?_; refine yq26 ?_; refine gv (PV.makeFunc rfl) ?_; refine T.callV (Wanted.guard rfl rfl rfl) rfl rfl (hco) ?_; refine gv (PV.not rfl) ?_; refine sT ?_; refine yq0 ?_
  exact T.retF (Lv.fin (RV.tmp rfl rfl) rfl)
theorem shallow1_fn (k : Pn) (d : Int) (b : Nat) (H : Hp) (hd : 0 ≤ d ∧ d ≤ 100) (hb : H b = some (.cells #[.int .i64 d] 3 (0, 0)))
    (he : Fn Tryz.prog 199 #[pnV k, .int .i64 (d + 1)] H (fun u _ => u = .bool true)) :
    Fn Tryz.prog 254 #[pnV k, .pointer (some ⟨b, 0, none⟩)] H (fun u _ => u = .bool false) := by
  unfold pnV at he ⊢
  refine Fn.of_T (vs := [_, .pointer (some ⟨b, 0, none⟩)]) Tryz.func254 rfl rfl fun w => ?_; refine zs3 ?_; (refine T.box Wanted.none rfl rfl zq15 ?_; intro b2); refine yq14 ?_; refine sv (PV.loadAll rfl zq0 (by exact rfl)) ?_; refine sl ?_; refine sv (PV.add rfl rfl (by omega)) ?_; refine T.callV Wanted.none rfl rfl (he) ?_; refine sv (PV.not rfl) ?_; refine yq0 ?_
  exact T.retF (Lv.fin (RV.tmp rfl rfl) rfl)
theorem shallow_node (p : Pn) (l : List Pn) (d : Int) (hd : 0 ≤ d ∧ d ≤ 100) (H : Hp) (hl : PnL H p.ks l) (hlb : l.length ≤ 1000000)
    (hk : ∀ k ∈ l, ∀ H', H.le H' → Fn Tryz.prog 199 #[pnV k, .int .i64 (d + 1)] H' (fun u _ => u = .bool true)) :
    Fn Tryz.prog 199 #[pnV p, .int .i64 d] H (fun u _ => u = .bool true) := by
  unfold pnV
  refine Fn.of_T (vs := [_, .int .i64 d]) Tryz.func199 rfl rfl fun w => ?_; refine zs3 ?_; (refine T.box Wanted.none rfl rfl zq15 ?_; intro b2); (refine T.box Wanted.none rfl rfl zq15 ?_; intro b3); refine yq0 ?_; refine T.freezeB (b := b3) zq1 ?_
  intro H1 hle1 hb3
  have hco := containsPn_fn l p.ks H1 (hl.mono hle1) hlb 254 [.pointer (some ⟨b3, 0, none⟩)] fun k hkm => shallow1_fn k d b3 H1 hd hb3 (hk k hkm H1 hle1)
  refine zs3 ?_; refine sl ?_; refine sv (PV.leq rfl rfl) ?_; refine sm ?_; refine T.setT (d := 7) rfl (by omega) ?_; refine yq26 ?_; refine gv (PV.makeFunc rfl) ?_; refine T.callV (Wanted.guard rfl rfl rfl) rfl rfl (hco) ?_; refine gv (PV.not rfl) ?_; refine sT ?_; refine yq0 ?_
  exact T.retF (Lv.fin (RV.tmp rfl rfl) rfl)
/-! ### nodes -/
theorem zero_fn (H : Hp) : Fn Tryz.prog 255 #[cnV 0] H (fun u _ => u = .bool true) := by
  refine Fn.of_T (vs := [cnV 0]) Tryz.func255 rfl rfl fun w => ?_; refine zs3 ?_; (refine T.box Wanted.none rfl rfl zq15 ?_; intro b1); refine yq14 ?_; refine yq6 ?_; refine sv (PV.eql rfl rfl) ?_; refine sm ?_; refine yq26 ?_; refine gv (PV.seql rfl rfl) ?_; refine sT ?_; refine sm ?_; refine yq26 ?_; refine gv (PV.seql rfl rfl) ?_; refine sT ?_; refine sm ?_; refine yq26 ?_; refine gv (PV.seql rfl rfl) ?_; refine sT ?_; refine sm ?_; refine yq26 ?_; refine gv (PV.seql rfl rfl) ?_; refine sT ?_; refine sm ?_; refine yq26 ?_; refine gv (PV.not rfl) ?_; refine sT ?_; refine sm ?_; refine yq26 ?_; refine gv (PV.lenSl rfl) ?_; refine gv (PV.eql rfl rfl) ?_; refine sT ?_; refine sa ?_
  refine so ?_
  exact T.retF (Lv.fin (RV.tmp rfl rfl) rfl)
def pB (kind : ByteArray) : Pn := ⟨2, 0, kind, 0, 0, none, 0, 0⟩
def pE (kind : ByteArray) : Pn := ⟨3, 0, kind, 0, 0, none, 0, 0⟩
def pT : Pn := ⟨1, 1, ⟨#[]⟩, 0, 0, none, 0, 0⟩
def pR (bt : Nat) : Pn := ⟨6, 0, ⟨#[]⟩, 1, -1, some ⟨bt, 0, none⟩, 1, 1⟩
def pS (bs : Nat) : Pn := ⟨4, 0, ⟨#[]⟩, 0, 0, some ⟨bs, 0, none⟩, 3, 3⟩
/-- the whole pattern in memory -/
structure PtR (H : Hp) (kind : ByteArray) (bs bt : Nat) : Prop where
  s : ∃ t, H bs = some (.cells ([pB kind, pR bt, pE kind].flatMap encPn).toArray t (0, 0))
  t : ∃ t, H bt = some (.cells (encPn pT).toArray t (0, 0))
theorem PtR.mono {H H' : Hp} {kind : ByteArray} {bs bt : Nat} (h : PtR H kind bs bt) (hl : H.le H') : PtR H' kind bs bt :=
  ⟨h.s.imp fun _ h => hl _ _ h, h.t.imp fun _ h => hl _ _ h⟩
theorem PtR.kt {H : Hp} {kind : ByteArray} {bs bt : Nat} (h : PtR H kind bs bt) : PnL H (pR bt).ks [pT] := by
  obtain ⟨t, h⟩ := h.t
  exact ⟨rfl, .inr ⟨bt, 0, 1, _, t, _, rfl, h, rfl, Nat.le_refl 1⟩⟩
theorem PtR.ks {H : Hp} {kind : ByteArray} {bs bt : Nat} (h : PtR H kind bs bt) : PnL H (pS bs).ks [pB kind, pR bt, pE kind] := by
  obtain ⟨t, h⟩ := h.s
  exact ⟨flat_len encPn_len _, .inr ⟨bs, 0, 3, _, t, _, rfl, h, (by rw [List.drop_zero]; exact List.take_of_length_le (Nat.le_of_eq (flat_len encPn_len _))), Nat.le_refl 3⟩⟩
theorem nil_PnL (H : Hp) : PnL H (.slice none 0 0) [] := SlR.empty
theorem every_all (gfn : FuncId) [hE : Ent Tryz.prog gfn] (kind : ByteArray) (bs bt : Nat) (H : Hp) (hp : PtR H kind bs bt)
    (hB : ∀ H', Fn Tryz.prog gfn #[pnV (pB kind)] H' (fun u _ => u = .bool true)) (hEn : ∀ H', Fn Tryz.prog gfn #[pnV (pE kind)] H' (fun u _ => u = .bool true))
    (hT : ∀ H', Fn Tryz.prog gfn #[pnV pT] H' (fun u _ => u = .bool true)) (hR : ∀ H', Fn Tryz.prog gfn #[pnV (pR bt)] H' (fun u _ => u = .bool true))
    (hS : ∀ H', Fn Tryz.prog gfn #[pnV (pS bs)] H' (fun u _ => u = .bool true)) :
    Fn Tryz.prog 135 #[pnV (pS bs), .func (.func gfn) #[] #[]] H (fun u _ => u = .bool true) := by
  refine every_node (pS bs) _ gfn H hp.ks (by simp) (fun H' _ => hS H') fun k hk H1 hle1 => ?_
  have hp1 := hp.mono hle1
  simp only [List.mem_cons, List.not_mem_nil, or_false] at hk
  rcases hk with rfl | rfl | rfl
  · exact every_node (pB kind) [] gfn H1 (nil_PnL _) (by simp) (fun H' _ => hB H') (by simp)
  · refine every_node (pR bt) _ gfn H1 hp1.kt (by simp) (fun H' _ => hR H') fun k hk H2 hle2 => ?_
    simp only [List.mem_cons, List.not_mem_nil, or_false] at hk
    subst hk
    exact every_node pT [] gfn H2 (nil_PnL _) (by simp) (fun H' _ => hT H') (by simp)
  · exact every_node (pE kind) [] gfn H1 (nil_PnL _) (by simp) (fun H' _ => hEn H') (by simp)
theorem shallow_all (kind : ByteArray) (bs bt : Nat) (H : Hp) (hp : PtR H kind bs bt) : Fn Tryz.prog 199 #[pnV (pS bs), .int .i64 1] H (fun u _ => u = .bool true) := by
  refine shallow_node (pS bs) _ 1 (by omega) H hp.ks (by simp) fun k hk H1 hle1 => ?_
  have hp1 := hp.mono hle1
  simp only [List.mem_cons, List.not_mem_nil, or_false] at hk
  rcases hk with rfl | rfl | rfl
  · exact shallow_node (pB kind) [] 2 (by omega) H1 (nil_PnL _) (by simp) (by simp)
  · refine shallow_node (pR bt) _ 2 (by omega) H1 hp1.kt (by simp) fun k hk H2 hle2 => ?_
    simp only [List.mem_cons, List.not_mem_nil, or_false] at hk
    subst hk
    exact shallow_node pT [] 3 (by omega) H2 (nil_PnL _) (by simp) (by simp)
  · exact shallow_node (pE kind) [] 2 (by omega) H1 (nil_PnL _) (by simp) (by simp)
theorem nodeB_fn (kind : ByteArray) (H : Hp) : Fn Tryz.prog 200 #[pnV (pB kind)] H (fun u _ => u = .bool true) := by
  have hz := zero_fn H
  unfold pnV pB
  refine Fn.of_T (vs := [_]) Tryz.func200 rfl rfl fun w => ?_
  dsimp only
  refine zs3 ?_; (refine T.box Wanted.none rfl rfl zq15 ?_; intro b1); refine yq14 ?_; refine sa ?_; refine sa ?_; refine yq14 ?_; refine sa ?_; refine yq11 ?_; refine zs3 ?_; refine yq6 ?_; refine so ?_; refine T.block ?_; refine zs3 ?_; refine yq32 ?_; refine T.condF rfl rfl ?_; refine sq ?_; refine zs3 ?_; refine yq32 ?_; refine T.condT rfl rfl ?_; refine T.skip ?_; refine T.condT rfl rfl ?_; refine sr ?_; refine yq0 ?_; refine T.blkEnd ?_; refine yq4 ?_; refine sm ?_; refine gf ?_; refine gv (PV.loadAgg rfl zq0 (by exact rfl) (by exact rfl)) ?_; refine T.callV (Wanted.guard rfl rfl rfl) rfl rfl (hz) ?_
  refine gm ?_; refine yq26 ?_; refine gv (PV.seql rfl rfl) ?_; refine gv (PV.pickT rfl rfl rfl) ?_; refine sF ?_; refine sm ?_; refine gm ?_; refine gm ?_; refine yq17 ?_; refine sp ?_; refine gv (PV.pickT rfl rfl rfl) ?_; refine sT ?_; refine sm ?_; refine gm ?_; refine gm ?_; refine yq26 ?_; refine gv (PV.eql rfl rfl) ?_; refine gm ?_; refine yq26 ?_; refine gv (PV.eql rfl rfl) ?_; refine gv (PV.pickT rfl rfl rfl) ?_; refine gv (PV.pickF rfl rfl rfl) ?_; refine sT ?_; refine sm ?_; refine yq26 ?_; refine gv (PV.lenSl rfl) ?_; refine gm ?_; refine gv (PV.geq rfl rfl) ?_; refine sT ?_; refine sm ?_; refine yq26 ?_; refine gv (PV.lenSl rfl) ?_; refine gm ?_; refine gv (PV.leq rfl rfl) ?_
  refine sT ?_; refine yq0 ?_
  exact T.retF (Lv.fin (RV.tmp rfl rfl) rfl)
theorem nodeE_fn (kind : ByteArray) (H : Hp) : Fn Tryz.prog 200 #[pnV (pE kind)] H (fun u _ => u = .bool true) := by
  have hz := zero_fn H
  unfold pnV pE
  refine Fn.of_T (vs := [_]) Tryz.func200 rfl rfl fun w => ?_
  dsimp only
  refine zs3 ?_; (refine T.box Wanted.none rfl rfl zq15 ?_; intro b1); refine yq14 ?_; refine sa ?_; refine sa ?_; refine yq14 ?_; refine sa ?_; refine yq11 ?_; refine zs3 ?_; refine yq6 ?_; refine so ?_; refine T.block ?_; refine zs3 ?_; refine yq32 ?_; refine T.condF rfl rfl ?_; refine sq ?_; refine zs3 ?_; refine yq32 ?_; refine T.condF rfl rfl ?_; refine sr ?_; refine yq32 ?_; refine T.condT rfl rfl ?_; refine sr ?_; refine yq0 ?_; refine T.blkEnd ?_; refine yq4 ?_; refine sm ?_
  refine gf ?_; refine gv (PV.loadAgg rfl zq0 (by exact rfl) (by exact rfl)) ?_; refine T.callV (Wanted.guard rfl rfl rfl) rfl rfl (hz) ?_; refine gm ?_; refine yq26 ?_; refine gv (PV.seql rfl rfl) ?_; refine gv (PV.pickT rfl rfl rfl) ?_; refine sF ?_; refine sm ?_; refine gm ?_; refine gm ?_; refine yq17 ?_; refine sp ?_; refine gv (PV.pickT rfl rfl rfl) ?_; refine sT ?_; refine sm ?_; refine gm ?_; refine gm ?_; refine yq26 ?_; refine gv (PV.eql rfl rfl) ?_; refine gm ?_; refine yq26 ?_; refine gv (PV.eql rfl rfl) ?_; refine gv (PV.pickT rfl rfl rfl) ?_; refine gv (PV.pickF rfl rfl rfl) ?_; refine sT ?_; refine sm ?_; refine yq26 ?_; refine gv (PV.lenSl rfl) ?_; refine gm ?_; refine gv (PV.geq rfl rfl) ?_; refine sT ?_; refine sm ?_; refine yq26 ?_
  refine gv (PV.lenSl rfl) ?_; refine gm ?_; refine gv (PV.leq rfl rfl) ?_; refine sT ?_; refine yq0 ?_
  exact T.retF (Lv.fin (RV.tmp rfl rfl) rfl)
theorem nodeT_fn (H : Hp) : Fn Tryz.prog 200 #[pnV pT] H (fun u _ => u = .bool true) := by
  unfold pnV pT
  refine Fn.of_T (vs := [_]) Tryz.func200 rfl rfl fun w => ?_
  dsimp only
  refine zs3 ?_; (refine T.box Wanted.none rfl rfl zq15 ?_; intro b1); refine yq14 ?_; refine sa ?_; refine sa ?_; refine yq14 ?_; refine sa ?_; refine yq11 ?_; refine zs3 ?_; refine yq6 ?_; refine so ?_; refine T.block ?_; refine zs3 ?_; refine yq32 ?_; refine T.condT rfl rfl ?_; refine sr ?_; refine yq0 ?_; refine T.blkEnd ?_; refine yq4 ?_; refine sm ?_; refine yq17 ?_; refine yq17 ?_; refine su ?_; refine su ?_; refine su ?_; refine sp ?_; refine sT ?_; refine sm ?_; refine gm ?_
  refine gm ?_; refine yq26 ?_; refine gv (PV.seql rfl rfl) ?_; refine gv (PV.pickF rfl rfl rfl) ?_; refine sT ?_; refine sm ?_; refine gm ?_; refine gm ?_; refine yq26 ?_; refine gv (PV.eql rfl rfl) ?_; refine gm ?_; refine yq26 ?_; refine gv (PV.eql rfl rfl) ?_; refine gv (PV.pickT rfl rfl rfl) ?_; refine gv (PV.pickF rfl rfl rfl) ?_; refine sT ?_; refine sm ?_; refine yq26 ?_; refine gv (PV.lenSl rfl) ?_; refine gm ?_; refine gv (PV.geq rfl rfl) ?_; refine sT ?_; refine sm ?_; refine yq26 ?_; refine gv (PV.lenSl rfl) ?_; refine gm ?_; refine gv (PV.leq rfl rfl) ?_; refine sT ?_; refine yq0 ?_
  exact T.retF (Lv.fin (RV.tmp rfl rfl) rfl)
theorem nodeR_fn (bt : Nat) (H : Hp) : Fn Tryz.prog 200 #[pnV (pR bt)] H (fun u _ => u = .bool true) := by
  have hz := zero_fn H
  unfold pnV pR
  refine Fn.of_T (vs := [_]) Tryz.func200 rfl rfl fun w => ?_
  dsimp only
  refine zs3 ?_; (refine T.box Wanted.none rfl rfl zq15 ?_; intro b1); refine yq14 ?_; refine sa ?_; refine sa ?_; refine yq14 ?_; refine sa ?_; refine yq11 ?_; refine zs3 ?_; refine yq6 ?_; refine so ?_; refine T.block ?_; refine zs3 ?_; refine yq32 ?_; refine T.condF rfl rfl ?_; refine sq ?_; refine zs3 ?_; refine yq32 ?_; refine T.condF rfl rfl ?_; refine sr ?_; refine yq32 ?_; refine T.condF rfl rfl ?_; refine sq ?_; refine zs3 ?_; refine yq32 ?_; refine T.condF rfl rfl ?_; refine sr ?_
  refine yq32 ?_; refine T.condF rfl rfl ?_; refine zs3 ?_; refine yq32 ?_; refine T.condT rfl rfl ?_; refine zs3 ?_; refine sa ?_; refine zs2 ?_; refine sa ?_; refine yq0 ?_; refine T.blkEnd ?_; refine yq4 ?_; refine sm ?_; refine gf ?_; refine gv (PV.loadAgg rfl zq0 (by exact rfl) (by exact rfl)) ?_; refine T.callV (Wanted.guard rfl rfl rfl) rfl rfl (hz) ?_; refine gm ?_; refine yq26 ?_; refine gv (PV.seql rfl rfl) ?_; refine gv (PV.pickT rfl rfl rfl) ?_; refine sF ?_; refine sm ?_; refine gm ?_; refine gm ?_; refine yq26 ?_; refine gv (PV.seql rfl rfl) ?_; refine gv (PV.pickF rfl rfl rfl) ?_; refine sT ?_; refine sm ?_; refine gm ?_; refine gm ?_; refine sp ?_
  refine yq17 ?_; refine sp ?_; refine su ?_; refine su ?_; refine su ?_; refine sp ?_; refine gv (PV.pickT rfl rfl rfl) ?_; refine sT ?_; refine sm ?_; refine yq26 ?_; refine gv (PV.lenSl rfl) ?_; refine gm ?_; refine gv (PV.geq rfl rfl) ?_; refine sT ?_; refine sm ?_; refine yq26 ?_; refine gv (PV.lenSl rfl) ?_; refine gm ?_; refine gv (PV.leq rfl rfl) ?_; refine sT ?_; refine yq0 ?_
  exact T.retF (Lv.fin (RV.tmp rfl rfl) rfl)
theorem nodeS_fn (bs : Nat) (H : Hp) : Fn Tryz.prog 200 #[pnV (pS bs)] H (fun u _ => u = .bool true) := by
  have hz := zero_fn H
  unfold pnV pS
  refine Fn.of_T (vs := [_]) Tryz.func200 rfl rfl fun w => ?_
  dsimp only
  refine zs3 ?_; (refine T.box Wanted.none rfl rfl zq15 ?_; intro b1); refine yq14 ?_; refine sa ?_; refine sa ?_; refine yq14 ?_; refine sa ?_; refine yq11 ?_; refine zs3 ?_; refine yq6 ?_; refine so ?_; refine T.block ?_; refine zs3 ?_; refine yq32 ?_; refine T.condF rfl rfl ?_; refine sq ?_; refine zs3 ?_; refine yq32 ?_; refine T.condF rfl rfl ?_; refine sr ?_; refine yq32 ?_; refine T.condF rfl rfl ?_; refine sq ?_; refine zs3 ?_; refine yq32 ?_; refine T.condT rfl rfl ?_; refine T.skip ?_
  refine T.condT rfl rfl ?_; refine T.regionQ (by kernel_rfl) ?_; refine yq1 ?_; refine TQ.pv (PV.lenSl rfl) Wanted.none rfl rfl ?_; refine TQ.pv (PV.assign rfl) Wanted.none rfl rfl ?_; refine yq34 ?_; refine T.blkEnd ?_; refine yq4 ?_; refine sm ?_; refine gf ?_; refine gv (PV.loadAgg rfl zq0 (by exact rfl) (by exact rfl)) ?_; refine T.callV (Wanted.guard rfl rfl rfl) rfl rfl (hz) ?_; refine gm ?_; refine yq26 ?_; refine gv (PV.seql rfl rfl) ?_; refine gv (PV.pickT rfl rfl rfl) ?_; refine sF ?_; refine sm ?_; refine gm ?_; refine gm ?_; refine yq26 ?_; refine gv (PV.seql rfl rfl) ?_; refine gv (PV.pickF rfl rfl rfl) ?_; refine sT ?_; refine sm ?_; refine gm ?_; refine gm ?_; refine yq26 ?_; refine gv (PV.eql rfl rfl) ?_; refine gm ?_; refine yq26 ?_; refine gv (PV.eql rfl rfl) ?_; refine gv (PV.pickT rfl rfl rfl) ?_
  refine gv (PV.pickF rfl rfl rfl) ?_; refine sT ?_; refine sm ?_; refine yq26 ?_; refine gv (PV.lenSl rfl) ?_; refine gm ?_; refine gv (PV.geq rfl rfl) ?_; refine sT ?_; refine sm ?_; refine yq26 ?_; refine gv (PV.lenSl rfl) ?_; refine gm ?_; refine gv (PV.leq rfl rfl) ?_; refine sT ?_; refine yq0 ?_
  exact T.retF (Lv.fin (RV.tmp rfl rfl) rfl)
theorem named2_fn (co : Int) (rg : ByteArray) (mn mx : Int) (ka : Option Addr) (kn kc : Nat) (H : Hp) (h : validName rg = true) : Fn Tryz.prog 136 #[pnV ⟨2, co, rg, mn, mx, ka, kn, kc⟩] H (fun u _ => u = .bool true) := by
  have hn := name_fn rg H
  rw [h] at hn
  unfold pnV
  refine Fn.of_T (vs := [_]) Tryz.func136 rfl rfl fun w => ?_
  dsimp only
  refine zs3 ?_; (refine T.box Wanted.none rfl rfl zq15 ?_; intro b1); refine yq14 ?_; refine yq6 ?_; refine sv (PV.eql rfl rfl) ?_; refine sm ?_; refine yq17 ?_; refine sp ?_; refine sT ?_; refine yq28 ?_; refine sv (PV.not rfl) ?_; refine sm ?_; refine yq26 ?_; refine T.callV (Wanted.guard rfl rfl rfl) rfl rfl (hn) ?_; refine sF ?_; refine sm ?_; refine yq26 ?_; refine gv (PV.seql rfl rfl) ?_; refine gm ?_; refine yq17 ?_; refine sp ?_; refine gv (PV.pickT rfl rfl rfl) ?_; refine sT ?_; refine yq0 ?_
  exact T.retF (Lv.fin (RV.tmp rfl rfl) rfl)
theorem named3_fn (co : Int) (rg : ByteArray) (mn mx : Int) (ka : Option Addr) (kn kc : Nat) (H : Hp) (h : validName rg = true) : Fn Tryz.prog 136 #[pnV ⟨3, co, rg, mn, mx, ka, kn, kc⟩] H (fun u _ => u = .bool true) := by
  have hn := name_fn rg H
  rw [h] at hn
  unfold pnV
  refine Fn.of_T (vs := [_]) Tryz.func136 rfl rfl fun w => ?_
  dsimp only
  refine zs3 ?_; (refine T.box Wanted.none rfl rfl zq15 ?_; intro b1); refine yq14 ?_; refine yq6 ?_; refine sv (PV.eql rfl rfl) ?_; refine sm ?_; refine yq26 ?_; refine gv (PV.eql rfl rfl) ?_; refine sF ?_; refine yq28 ?_; refine sv (PV.not rfl) ?_; refine sm ?_; refine yq26 ?_; refine T.callV (Wanted.guard rfl rfl rfl) rfl rfl (hn) ?_; refine sF ?_; refine sm ?_; refine yq26 ?_; refine gv (PV.seql rfl rfl) ?_; refine gm ?_; refine yq17 ?_; refine sp ?_; refine gv (PV.pickT rfl rfl rfl) ?_; refine sT ?_; refine yq0 ?_
  exact T.retF (Lv.fin (RV.tmp rfl rfl) rfl)
theorem named1_fn (co : Int) (rg : ByteArray) (mn mx : Int) (ka : Option Addr) (kn kc : Nat) (H : Hp) : Fn Tryz.prog 136 #[pnV ⟨1, co, rg, mn, mx, ka, kn, kc⟩] H (fun u _ => u = .bool true) := by
  unfold pnV
  refine Fn.of_T (vs := [_]) Tryz.func136 rfl rfl fun w => ?_
  dsimp only
  refine zs3 ?_; (refine T.box Wanted.none rfl rfl zq15 ?_; intro b1); refine yq14 ?_; refine yq6 ?_; refine sv (PV.eql rfl rfl) ?_; refine sm ?_; refine yq26 ?_; refine gv (PV.eql rfl rfl) ?_; refine sF ?_; refine yq28 ?_; refine sv (PV.not rfl) ?_; refine sm ?_; refine yq17 ?_; refine sp ?_; refine sT ?_; refine sm ?_; refine yq26 ?_; refine gv (PV.seql rfl rfl) ?_; refine gm ?_; refine yq17 ?_; refine sp ?_; refine gv (PV.pickT rfl rfl rfl) ?_; refine sT ?_; refine yq0 ?_
  exact T.retF (Lv.fin (RV.tmp rfl rfl) rfl)
theorem named4_fn (co : Int) (rg : ByteArray) (mn mx : Int) (ka : Option Addr) (kn kc : Nat) (H : Hp) : Fn Tryz.prog 136 #[pnV ⟨4, co, rg, mn, mx, ka, kn, kc⟩] H (fun u _ => u = .bool true) := by
  unfold pnV
  refine Fn.of_T (vs := [_]) Tryz.func136 rfl rfl fun w => ?_
  dsimp only
  refine zs3 ?_; (refine T.box Wanted.none rfl rfl zq15 ?_; intro b1); refine yq14 ?_; refine yq6 ?_; refine sv (PV.eql rfl rfl) ?_; refine sm ?_; refine yq26 ?_; refine gv (PV.eql rfl rfl) ?_; refine sF ?_; refine yq28 ?_; refine sv (PV.not rfl) ?_; refine sm ?_; refine yq17 ?_; refine sp ?_; refine sT ?_; refine sm ?_; refine yq26 ?_; refine gv (PV.seql rfl rfl) ?_; refine gm ?_; refine yq17 ?_; refine sp ?_; refine gv (PV.pickT rfl rfl rfl) ?_; refine sT ?_; refine yq0 ?_
  exact T.retF (Lv.fin (RV.tmp rfl rfl) rfl)
theorem named6_fn (co : Int) (rg : ByteArray) (mn mx : Int) (ka : Option Addr) (kn kc : Nat) (H : Hp) : Fn Tryz.prog 136 #[pnV ⟨6, co, rg, mn, mx, ka, kn, kc⟩] H (fun u _ => u = .bool true) := by
  unfold pnV
  refine Fn.of_T (vs := [_]) Tryz.func136 rfl rfl fun w => ?_
  dsimp only
  refine zs3 ?_; (refine T.box Wanted.none rfl rfl zq15 ?_; intro b1); refine yq14 ?_; refine yq6 ?_; refine sv (PV.eql rfl rfl) ?_; refine sm ?_; refine yq26 ?_; refine gv (PV.eql rfl rfl) ?_; refine sF ?_; refine yq28 ?_; refine sv (PV.not rfl) ?_; refine sm ?_; refine yq17 ?_; refine sp ?_; refine sT ?_; refine sm ?_; refine yq26 ?_; refine gv (PV.seql rfl rfl) ?_; refine gm ?_; refine yq17 ?_; refine sp ?_; refine gv (PV.pickT rfl rfl rfl) ?_; refine sT ?_; refine yq0 ?_
  exact T.retF (Lv.fin (RV.tmp rfl rfl) rfl)
theorem ranged_fn (p : Pn) (H : Hp) (h : p.op ≠ 6 ∨ (p.mn = 1 ∧ p.mx = -1)) : Fn Tryz.prog 138 #[pnV p] H (fun u _ => u = .bool true) := by
  unfold pnV
  obtain ⟨op, co, rg, mn, mx, ka, kn, kc⟩ := p
  dsimp only at h ⊢
  refine Fn.of_T (vs := [_]) Tryz.func138 rfl rfl fun w => ?_
  by_cases h6 : op = 6
  · obtain ⟨rfl, rfl⟩ := h.resolve_left (by omega)
    subst h6
    refine zs3 ?_; (refine T.box Wanted.none rfl rfl zq15 ?_; intro b1); refine yq14 ?_; refine yq6 ?_; refine sv (PV.neq rfl rfl) ?_; refine sm ?_; refine yq26 ?_; refine gv (PV.geq rfl rfl) ?_; refine gm ?_; refine yq26 ?_; refine gv (PV.leq rfl rfl) ?_; refine gv (PV.pickT rfl rfl rfl) ?_; refine gm ?_; refine yq26 ?_; refine gv (PV.eql rfl rfl) ?_; refine gm ?_; refine yq17 ?_; refine yq17 ?_; refine yq17 ?_; refine su ?_; refine su ?_; refine su ?_; refine sp ?_; refine gv (PV.pickT rfl rfl rfl) ?_; refine gv (PV.pickT rfl rfl rfl) ?_; refine sF ?_; refine yq0 ?_
    exact T.retF (Lv.fin (RV.tmp rfl rfl) rfl)
  · refine zs3 ?_; (refine T.box Wanted.none rfl rfl zq15 ?_; intro b1); refine yq14 ?_; refine yq6 ?_; refine sv (PV.neq rfl rfl) ?_; refine sm ?_; refine T.setT (d := 6) rfl (by omega) ?_; refine yq17 ?_; refine yq17 ?_; refine su ?_; refine su ?_; refine su ?_; refine yq17 ?_; refine su ?_; refine su ?_; refine su ?_; refine su ?_; refine su ?_; refine su ?_; refine su ?_; refine su ?_; refine su ?_; refine su ?_; refine su ?_; refine su ?_; refine su ?_; refine su ?_; refine su ?_; refine sp ?_; refine sT ?_; refine yq0 ?_
    exact T.retF (Lv.fin (RV.tmp rfl rfl) rfl)
/-! ### the whole -/
theorem qShape_fn (kind : ByteArray) (bs bt : Nat) (H : Hp) (hp : PtR H kind bs bt) : Fn Tryz.prog 134 #[pnV (pS bs)] H (fun u _ => u = .bool true) := by
  have h1 := shallow_all kind bs bt H hp
  have h2 := every_all 200 kind bs bt H hp (nodeB_fn kind) (nodeE_fn kind) nodeT_fn (nodeR_fn bt) (nodeS_fn bs)
  unfold pnV pS at *
  refine Fn.of_T (vs := [_]) Tryz.func134 rfl rfl fun w => ?_
  dsimp only at *
  refine zs3 ?_; (refine T.box Wanted.none rfl rfl zq15 ?_; intro b1); refine yq14 ?_; refine sv (PV.loadAll rfl zq0 (by exact rfl)) ?_; refine T.callV Wanted.none rfl rfl (h1) ?_; refine sm ?_; refine gv (PV.loadAll rfl zq0 (by exact rfl)) ?_; refine T.callV (Wanted.guard rfl rfl rfl) rfl rfl (h2) ?_; refine sT ?_; refine yq0 ?_
  exact T.retF (Lv.fin (RV.tmp rfl rfl) rfl)
theorem named_all (kind : ByteArray) (bs bt : Nat) (H : Hp) (hp : PtR H kind bs bt) (hn : validName kind = true) : Fn Tryz.prog 135 #[pnV (pS bs), .func (.func 136) #[] #[]] H (fun u _ => u = .bool true) :=
  every_all 136 kind bs bt H hp (fun H' => named2_fn _ _ _ _ _ _ _ H' hn) (fun H' => named3_fn _ _ _ _ _ _ _ H' hn) (fun H' => named1_fn _ _ _ _ _ _ _ H') (fun H' => named6_fn _ _ _ _ _ _ _ H') (fun H' => named4_fn _ _ _ _ _ _ _ H')
theorem ranged_all (kind : ByteArray) (bs bt : Nat) (H : Hp) (hp : PtR H kind bs bt) : Fn Tryz.prog 135 #[pnV (pS bs), .func (.func 138) #[] #[]] H (fun u _ => u = .bool true) :=
  every_all 138 kind bs bt H hp (fun H' => ranged_fn _ H' (.inl (by simp only [pB, pE, pT, pR, pS]; decide))) (fun H' => ranged_fn _ H' (.inl (by simp only [pB, pE, pT, pR, pS]; decide))) (fun H' => ranged_fn _ H' (.inl (by simp only [pB, pE, pT, pR, pS]; decide))) (fun H' => ranged_fn _ H' (.inr ⟨rfl, rfl⟩)) (fun H' => ranged_fn _ H' (.inl (by simp only [pB, pE, pT, pR, pS]; decide)))
theorem right_fn (kind : ByteArray) (bs bt : Nat) (H : Hp) (hp : PtR H kind bs bt) (hn : validName kind = true) : Fn Tryz.prog 84 #[pnV (pS bs)] H (fun u _ => u = .bool true) := by
  have h1 := qShape_fn kind bs bt H hp
  have h2 := named_all kind bs bt H hp hn
  have h3 := ranged_all kind bs bt H hp
  unfold pnV pS at *
  refine Fn.of_T (vs := [_]) Tryz.func84 rfl rfl fun w => ?_
  dsimp only at *
  refine zs3 ?_; (refine T.box Wanted.none rfl rfl zq15 ?_; intro b1); refine yq14 ?_; refine sv (PV.loadAll rfl zq0 (by exact rfl)) ?_; refine T.callV Wanted.none rfl rfl (h1) ?_; refine sm ?_; refine gv (PV.loadAll rfl zq0 (by exact rfl)) ?_; refine T.callV (Wanted.guard rfl rfl rfl) rfl rfl (h2) ?_; refine sT ?_; refine sm ?_; refine gv (PV.loadAll rfl zq0 (by exact rfl)) ?_; refine T.callV (Wanted.guard rfl rfl rfl) rfl rfl (h3) ?_; refine sT ?_; refine yq0 ?_
  exact T.retF (Lv.fin (RV.tmp rfl rfl) rfl)
/-! ### labels -/
theorem labels_node (p : Pn) (l : List Pn) (H : Hp) (hl : PnL H p.ks l) (hlb : l.length ≤ 1000000)
    (hk : ∀ k ∈ l, Fn Tryz.prog 69 #[pnV k, .slice none 0 0] H (fun u _ => u = .slice none 0 0)) :
    Fn Tryz.prog 69 #[pnV p, .slice none 0 0] H (fun u _ => u = .slice none 0 0) := by
  obtain ⟨op, co, rg, mn, mx, ad, kn, capv⟩ := p
  obtain ⟨_, _, hv⟩ := hl.len
  unfold Pn.ks at hv hl
  unfold pnV
  dsimp only at hv hl ⊢
  cases hv
  refine Fn.of_T (vs := [_, .slice none 0 0]) Tryz.func69 rfl rfl fun w => ?_; refine zs3 ?_; (refine T.box Wanted.none rfl rfl zq15 ?_; intro b2); refine yq11 ?_; refine zs3 ?_; refine yq6 ?_; refine sv (PV.sneq rfl rfl) ?_; refine sm ?_; refine yq17 ?_; refine yq17 ?_; refine sp ?_; refine sF ?_; refine so ?_; refine yq7 ?_; refine sq ?_; refine zs3 ?_; refine yq12 ?_; refine yq35 ?_; refine T.loopK [(24, Value.int IntKind.i64 (↑l.length : Int)), (23, Value.slice ad l.length capv)] zq8 (γ := Nat) (fun i => i ≤ l.length) (fun i => [(25, .int .i64 (i : Int)), (1, .slice none 0 0)]) (fun _ => _) (fun _ => H) (fun i => l.length - i) 0 (Nat.zero_le _) zq8 (Sel.refl _) rfl ?_
  intro i hi0
  by_cases hi : i < l.length
  · obtain ⟨b, off, f, rfl, hix, hsub⟩ := RowL.get encPn_len hl hi
    have hkf := hk f (List.mem_of_getElem? hix)
    unfold pnV at hkf
    unfold encPn at hsub
    refine yq16 ?_; refine sC rfl (by omega) ?_; refine yq25 ?_; refine zs3 ?_; refine yq5 ?_; refine sy fun b6 => ?_; refine T.storeA Wanted.none rfl rfl zq8 (by exact rfl) zq14 zq13 ?_; refine zs2 ?_; refine sv (PV.loadAll rfl zq0 (by exact rfl)) ?_; refine sm ?_; refine T.callV Wanted.none rfl rfl (hkf) ?_; refine yq0 ?_; refine yq33 ?_; refine yq23 ?_
    exact T.nextP (i + 1) (by first | omega | (dsimp only; omega)) (by first | omega | (dsimp only; omega)) zq8 (by repeat (first | exact Sel.refl _ | exact Sel.nil | (refine Sel.cons zq1 ?_) | (refine Sel.app zq1 ?_) | exact Sel.one zq1)) rfl
  · refine yq16 ?_; refine yq21 ?_; refine yq4 ?_; refine yq0 ?_
    exact T.retF (Lv.fin (RV.tmp rfl rfl) rfl)
theorem labels_all (kind : ByteArray) (bs bt : Nat) (H : Hp) (hp : PtR H kind bs bt) : Fn Tryz.prog 69 #[pnV (pS bs), .slice none 0 0] H (fun u _ => u = .slice none 0 0) := by
  refine labels_node (pS bs) _ H hp.ks (by simp) fun k hk => ?_
  simp only [List.mem_cons, List.not_mem_nil, or_false] at hk
  rcases hk with rfl | rfl | rfl
  · exact labels_node (pB kind) [] H (nil_PnL _) (by simp) (by simp)
  · refine labels_node (pR bt) _ H hp.kt (by simp) fun k hk => ?_
    simp only [List.mem_cons, List.not_mem_nil, or_false] at hk
    subst hk
    exact labels_node pT [] H (nil_PnL _) (by simp) (by simp)
  · exact labels_node (pE kind) [] H (nil_PnL _) (by simp) (by simp)
theorem qLabels_fn (kind : ByteArray) (bs bt : Nat) (H : Hp) (hp : PtR H kind bs bt) (hn : validName kind = true) : Fn Tryz.prog 37 #[pnV (pS bs)] H (fun u _ => u = .slice none 0 0) := by
  have h1 := right_fn kind bs bt H hp hn
  have h2 := labels_all kind bs bt H hp
  unfold pnV pS at *
  refine Fn.of_T (vs := [_]) Tryz.func37 rfl rfl fun w => ?_
  dsimp only at *
  refine zs3 ?_; (refine T.box Wanted.none rfl rfl zq15 ?_; intro b1); refine yq11 ?_; refine zs3 ?_; refine sv (PV.loadAll rfl zq0 (by exact rfl)) ?_; refine T.callV Wanted.none rfl rfl (h1) ?_; refine sv (PV.not rfl) ?_; refine so ?_; refine yq7 ?_; refine zs3 ?_; refine sv (PV.loadAll rfl zq0 (by exact rfl)) ?_; refine T.callV Wanted.none rfl rfl (h2) ?_; refine yq0 ?_
  exact T.retF (Lv.fin (RV.tmp rfl rfl) rfl)
/-! ### size -/
theorem sizeL_fn (p : Pn) (H : Hp) (hl : p.ka = none ∧ p.kn = 0 ∧ p.kc = 0) : Fn Tryz.prog 139 #[pnV p] H (fun u _ => u = .int .i64 1) := by
  unfold pnV
  rw [hl.1, hl.2.1, hl.2.2]
  refine Fn.of_T (vs := [_]) Tryz.func139 rfl rfl fun w => ?_; refine zs3 ?_; (refine T.box Wanted.none rfl rfl zq15 ?_; intro b1); refine yq14 ?_; refine yq11 ?_; refine zs3 ?_; refine yq12 ?_; refine yq35 ?_; refine T.loopR [(8, Value.int IntKind.i64 (↑0 : Int)), (7, Value.slice none 0 0), (1, Value.pointer (some { block := b1, off := 0 }))] zq8 9 0 rfl ?_
  intro i hi
  obtain rfl : i = 0 := by omega
  refine yq16 ?_; refine yq22 ?_; refine yq20 ?_; refine zs3 ?_; refine yq12 ?_; refine yq32 ?_; refine T.condT rfl rfl ?_; refine zs3 ?_; refine yq0 ?_
  exact T.retF (Lv.fin (RV.tmp rfl rfl) rfl)
theorem sizeR_fn (kind : ByteArray) (bs bt : Nat) (H : Hp) (hp : PtR H kind bs bt) : Fn Tryz.prog 139 #[pnV (pR bt)] H (fun u _ => u = .int .i64 2) := by
  have h1 := sizeL_fn pT H ⟨rfl, rfl, rfl⟩
  have hk := hp.kt
  unfold pnV at h1 ⊢
  unfold pR at *
  unfold pT at h1 hk
  dsimp only at *
  refine Fn.of_T (vs := [_]) Tryz.func139 rfl rfl fun w => ?_; refine zs3 ?_; (refine T.box Wanted.none rfl rfl zq15 ?_; intro b1); refine yq14 ?_; refine yq11 ?_; refine zs3 ?_; refine yq12 ?_; refine yq35 ?_; refine T.loopK [(8, Value.int IntKind.i64 (↑1 : Int)), (7, Value.slice (some { block := bt, off := 0 }) 1 1), (1, Value.pointer (some { block := b1, off := 0 }))] zq8 (γ := Nat) (fun i => i ≤ 1) (fun i => [(9, .int .i64 (i : Int)), (3, .int .i64 (i : Int))]) (fun _ => _) (fun _ => H) (fun i => 1 - i) 0 (Nat.zero_le _) zq8 (Sel.refl _) rfl ?_
  intro i hi0
  by_cases hi : i < 1
  · obtain rfl : i = 0 := by omega
    obtain ⟨b, off, f, hb, hix, hsub⟩ := RowL.get encPn_len hk (i := 0) (by simp)
    obtain rfl := Option.some.inj hix
    cases hb
    unfold encPn at hsub
    refine yq16 ?_; refine T.condT rfl rfl ?_; refine yq25 ?_; refine zs3 ?_; refine yq5 ?_; refine sy fun b5 => ?_; refine T.storeA Wanted.none rfl rfl zq8 (by exact rfl) zq14 zq13 ?_; refine zs2 ?_; refine sm ?_; refine sv (PV.loadAll rfl zq0 (by exact rfl)) ?_; refine T.callV Wanted.none rfl rfl (h1) ?_; refine sv (PV.add rfl rfl (by omega)) ?_; refine sv (PV.min2 rfl rfl) ?_; refine yq0 ?_; refine yq33 ?_; refine yq23 ?_
    exact T.nextP (1) (by first | omega | (dsimp only; omega)) (by first | omega | (dsimp only; omega)) zq8 (by repeat (first | exact Sel.refl _ | exact Sel.nil | (refine Sel.cons zq1 ?_) | (refine Sel.app zq1 ?_) | exact Sel.one zq1)) rfl
  · obtain rfl : i = 1 := by omega
    refine yq16 ?_; refine yq22 ?_; refine yq20 ?_; refine zs3 ?_; refine yq12 ?_; refine yq32 ?_; refine T.condF rfl rfl ?_; refine zs3 ?_; refine yq6 ?_; refine sv (PV.neq rfl rfl) ?_; refine sm ?_; refine yq26 ?_; refine gv (PV.eql rfl rfl) ?_; refine sF ?_; refine yq0 ?_; refine T.condF rfl rfl ?_; refine zs3 ?_; refine yq6 ?_; refine sv (PV.lss rfl rfl) ?_; refine yq0 ?_; refine T.condT rfl rfl ?_; refine yq4 ?_; refine yq6 ?_; refine sv (PV.add rfl rfl (by omega)) ?_
    refine sv (PV.mul rfl rfl (by omega)) ?_; refine sv (PV.min2 rfl rfl) ?_; refine yq0 ?_
    exact T.retF (Lv.fin (RV.tmp rfl rfl) rfl)
theorem sizeS_fn (kind : ByteArray) (bs bt : Nat) (H : Hp) (hp : PtR H kind bs bt) : Fn Tryz.prog 139 #[pnV (pS bs)] H (fun u _ => u = .int .i64 4) := by
  have h1 := sizeL_fn (pB kind) H ⟨rfl, rfl, rfl⟩
  have h2 := sizeR_fn kind bs bt H hp
  have h3 := sizeL_fn (pE kind) H ⟨rfl, rfl, rfl⟩
  have hk := hp.ks
  unfold pnV at h1 h2 h3 ⊢
  unfold pS at *
  dsimp only at *
  refine Fn.of_T (vs := [_]) Tryz.func139 rfl rfl fun w => ?_; refine zs3 ?_; (refine T.box Wanted.none rfl rfl zq15 ?_; intro b1); refine yq14 ?_; refine yq11 ?_; refine zs3 ?_; refine yq12 ?_; refine yq35 ?_; refine T.loopK [(8, Value.int IntKind.i64 (↑3 : Int)), (7, Value.slice (some { block := bs, off := 0 }) 3 3), (1, Value.pointer (some { block := b1, off := 0 }))] zq8 (γ := Nat) (fun i => i ≤ 3) (fun i => [(9, .int .i64 (i : Int)), (3, .int .i64 (if i = 0 then 0 else if i = 1 then 1 else if i = 2 then 3 else 4))]) (fun _ => _) (fun _ => H) (fun i => 3 - i) 0 (Nat.zero_le _) zq8 (Sel.refl _) rfl ?_
  intro i hi0
  by_cases hi : i < 3
  · obtain ⟨b, off, f, hb, hix, hsub⟩ := RowL.get encPn_len hk (i := i) hi
    cases hb
    unfold encPn at hsub
    have h012 : i = 0 ∨ i = 1 ∨ i = 2 := by omega
    rcases h012 with rfl | rfl | rfl
    · obtain rfl := Option.some.inj hix
      refine yq16 ?_; refine T.condT rfl rfl ?_; refine yq25 ?_; refine zs3 ?_; refine yq5 ?_; refine sy fun b5 => ?_; refine T.storeA Wanted.none rfl rfl zq8 (by exact rfl) zq14 zq13 ?_; refine zs2 ?_; refine sm ?_; refine sv (PV.loadAll rfl zq0 (by exact rfl)) ?_; refine T.callV Wanted.none rfl rfl (h1) ?_; refine sv (PV.add rfl rfl (by omega)) ?_; refine sv (PV.min2 rfl rfl) ?_; refine yq0 ?_; refine yq33 ?_; refine yq23 ?_
      exact T.nextP (1) (by first | omega | (dsimp only; omega)) (by first | omega | (dsimp only; omega)) zq8 (by repeat (first | exact Sel.refl _ | exact Sel.nil | (refine Sel.cons zq1 ?_) | (refine Sel.app zq1 ?_) | exact Sel.one zq1)) rfl
    · obtain rfl := Option.some.inj hix
      refine yq16 ?_; refine T.condT rfl rfl ?_; refine yq25 ?_; refine zs3 ?_; refine yq5 ?_; refine sy fun b5 => ?_; refine T.storeA Wanted.none rfl rfl zq8 (by exact rfl) zq14 zq13 ?_; refine zs2 ?_; refine sm ?_; refine sv (PV.loadAll rfl zq0 (by exact rfl)) ?_; refine T.callV Wanted.none rfl rfl (h2) ?_; refine sv (PV.add rfl rfl (by omega)) ?_; refine sv (PV.min2 rfl rfl) ?_; refine yq0 ?_; refine yq33 ?_; refine yq23 ?_
      exact T.nextP (2) (by first | omega | (dsimp only; omega)) (by first | omega | (dsimp only; omega)) zq8 (by repeat (first | exact Sel.refl _ | exact Sel.nil | (refine Sel.cons zq1 ?_) | (refine Sel.app zq1 ?_) | exact Sel.one zq1)) rfl
    · obtain rfl := Option.some.inj hix
      refine yq16 ?_; refine T.condT rfl rfl ?_; refine yq25 ?_; refine zs3 ?_; refine yq5 ?_; refine sy fun b5 => ?_; refine T.storeA Wanted.none rfl rfl zq8 (by exact rfl) zq14 zq13 ?_; refine zs2 ?_; refine sm ?_; refine sv (PV.loadAll rfl zq0 (by exact rfl)) ?_; refine T.callV Wanted.none rfl rfl (h3) ?_; refine sv (PV.add rfl rfl (by omega)) ?_; refine sv (PV.min2 rfl rfl) ?_; refine yq0 ?_; refine yq33 ?_; refine yq23 ?_
      exact T.nextP (3) (by first | omega | (dsimp only; omega)) (by first | omega | (dsimp only; omega)) zq8 (by repeat (first | exact Sel.refl _ | exact Sel.nil | (refine Sel.cons zq1 ?_) | (refine Sel.app zq1 ?_) | exact Sel.one zq1)) rfl
  · obtain rfl : i = 3 := by omega
    refine yq16 ?_; refine yq22 ?_; refine yq20 ?_; refine zs3 ?_; refine yq12 ?_; refine yq32 ?_; refine T.condF rfl rfl ?_; refine zs3 ?_; refine yq6 ?_; refine sv (PV.neq rfl rfl) ?_; refine sm ?_; refine yq17 ?_; refine sp ?_; refine sT ?_; refine yq0 ?_; refine T.condT rfl rfl ?_; refine yq4 ?_; refine yq0 ?_
    exact T.retF (Lv.fin (RV.tmp rfl rfl) rfl)
end Go.Proofs.YtbcadnjfegiakaaGreatDoor
namespace Go.Proofs.YtbcadnjfegiakaaGreatDoor
open Go.RowKit

/-! ### the condition that always holds -/
theorem measureN_fn (H : Hp) : Fn Tryz.prog 142 #[cnV 1, .int .i64 0, .int .i64 1] H (fun u _ => u = .tuple #[.int .i64 1, .int .i64 1]) := by
  refine Fn.of_T (vs := [cnV 1, .int .i64 0, .int .i64 1]) Tryz.func142 rfl rfl fun w => ?_; refine zs3 ?_; (refine T.box Wanted.none rfl rfl zq15 ?_; intro b3); refine sa ?_; refine yq28 ?_; refine sv (PV.add rfl rfl (by omega)) ?_; refine yq28 ?_; refine yq11 ?_; refine zs3 ?_; refine yq12 ?_; refine yq35 ?_; refine T.loopK [(18, Value.int IntKind.i64 (↑0 : Int)), (17, Value.slice none 0 0), (2, Value.int IntKind.i64 1)] zq8 (γ := Unit) (fun _ => True) (fun _ => [(19, .int .i64 0), (1, .int .i64 1), (8, .int .i64 1)]) (fun _ => _) (fun _ => H) (fun _ => 0) () trivial zq8 (Sel.refl _) rfl ?_
  rintro _ _
  refine yq16 ?_; refine yq22 ?_; refine yq4 ?_; refine sm ?_; refine sa ?_; refine yq0 ?_
  exact T.retF (Lv.fin (RV.tmp2 rfl rfl rfl) rfl)
theorem shapeN_fn (H : Hp) : Fn Tryz.prog 205 #[cnV 1] H (fun u _ => u = .bool true) := by
  refine Fn.of_T (vs := [cnV 1]) Tryz.func205 rfl rfl fun w => ?_; refine zs3 ?_; (refine T.box Wanted.none rfl rfl zq15 ?_; intro b1); refine yq14 ?_; refine sa ?_; refine yq14 ?_; refine yq6 ?_; refine sv (PV.build rfl zq12) ?_; refine sy fun b5 => ?_; refine yq9 ?_; refine sq ?_; refine zs3 ?_; refine yq6 ?_; refine so ?_; refine T.block ?_; refine yq20 ?_; refine yq20 ?_; refine yq20 ?_; refine yq20 ?_; refine yq20 ?_; refine yq20 ?_; refine yq20 ?_; refine yq20 ?_; refine sq ?_; refine sq ?_; refine zs3 ?_; refine sv (PV.eql rfl rfl) ?_
  refine yq0 ?_; refine T.condT rfl rfl ?_; refine T.exit rfl ?_; refine T.exit rfl ?_; refine zs3 ?_; refine yq12 ?_; refine sm ?_; refine sv (PV.geq rfl rfl) ?_; refine sm ?_; refine yq26 ?_; refine gv (PV.lenSl rfl) ?_; refine gm ?_; refine gv (PV.leq rfl rfl) ?_; refine sT ?_; refine sm ?_; refine yq26 ?_; refine yq26 ?_; refine gv (PV.seql rfl rfl) ?_; refine sT ?_; refine sm ?_; refine yq26 ?_; refine yq26 ?_; refine gv (PV.seql rfl rfl) ?_; refine sT ?_; refine sm ?_; refine yq26 ?_; refine yq26 ?_; refine gv (PV.seql rfl rfl) ?_; refine sT ?_; refine sm ?_
  refine yq26 ?_; refine yq26 ?_; refine gv (PV.seql rfl rfl) ?_; refine sT ?_; refine sm ?_; refine yq26 ?_; refine yq26 ?_; refine gv (PV.beql rfl rfl) ?_; refine sT ?_; refine yq0 ?_
  exact T.retF (Lv.fin (RV.tmp rfl rfl) rfl)
theorem namesN_fn (l : List (ByteArray × Bool)) (v : Value) (H : Hp) (hv : SlR H 2 v l.length (l.flatMap encAt)) :
    Fn Tryz.prog 206 #[cnV 1, v] H (fun u _ => u = .bool true) := by
  obtain ⟨ad, cap, rfl⟩ := hv.len
  refine Fn.of_T (vs := [cnV 1, .slice ad l.length cap]) Tryz.func206 rfl rfl fun w => ?_; refine zs3 ?_; (refine T.box Wanted.none rfl rfl zq15 ?_; intro b2); refine yq11 ?_; refine zs3 ?_; refine yq6 ?_; refine so ?_; refine T.block ?_; refine zs3 ?_; refine yq32 ?_; refine T.condF rfl rfl ?_; refine zs3 ?_; refine yq32 ?_; refine T.condF rfl rfl ?_; refine zs3 ?_; refine yq32 ?_; refine T.condF rfl rfl ?_; refine zs3 ?_; refine yq32 ?_; refine yq7 ?_; refine T.blkEnd ?_; refine zs3 ?_; refine yq0 ?_
  exact T.retF (Lv.fin (RV.tmp rfl rfl) rfl)
theorem checkN_fn (l : List (ByteArray × Bool)) (v : Value) (H : Hp) (hv : SlR H 2 v l.length (l.flatMap encAt)) :
    Fn Tryz.prog 145 #[cnV 1, v, .slice none 0 0] H (fun u _ => u = .int .i64 0) := by
  have hsh := shapeN_fn H
  have hnm := namesN_fn l v H hv
  obtain ⟨ad, cap, rfl⟩ := hv.len
  refine Fn.of_T (vs := [cnV 1, .slice ad l.length cap, .slice none 0 0]) Tryz.func145 rfl rfl fun w => ?_; refine zs3 ?_; (refine T.box Wanted.none rfl rfl zq15 ?_; intro b3); refine yq11 ?_; refine zs3 ?_; refine sv (PV.loadAll rfl zq0 (by exact rfl)) ?_; refine T.callV Wanted.none rfl rfl (hsh) ?_; refine sv (PV.not rfl) ?_; refine so ?_; refine yq7 ?_; refine sq ?_; refine zs3 ?_; refine sv (PV.loadAll rfl zq0 (by exact rfl)) ?_; refine sm ?_; refine T.callV Wanted.none rfl rfl (hnm) ?_; refine sv (PV.not rfl) ?_; refine so ?_; refine yq7 ?_; refine sq ?_; refine zs3 ?_; refine yq6 ?_; refine so ?_; refine T.block ?_; refine zs3 ?_; refine yq32 ?_; refine T.condF rfl rfl ?_; refine zs3 ?_; refine yq32 ?_; refine T.condF rfl rfl ?_; refine zs3 ?_; refine sv (PV.eql rfl rfl) ?_
  refine yq0 ?_; refine T.condF rfl rfl ?_; refine zs3 ?_; refine yq32 ?_; refine yq7 ?_; refine T.blkEnd ?_; refine zs3 ?_; refine yq0 ?_
  exact T.retF (Lv.fin (RV.tmp rfl rfl) rfl)
theorem val1N_fn (l : List (ByteArray × Bool)) (v : Value) (b1 b2 : Nat) (H : Hp) (hv : SlR H 2 v l.length (l.flatMap encAt))
    (h1 : H b1 = some (.cells #[v] 22 (0, 0))) (h2 : H b2 = some (.cells #[.slice none 0 0] 28 (0, 0))) :
    Fn Tryz.prog 144 #[cnV 1, .pointer (some ⟨b1, 0, none⟩), .pointer (some ⟨b2, 0, none⟩)] H (fun u _ => u = .int .i64 0) := by
  have hck := checkN_fn l v H hv
  refine Fn.of_T (vs := [cnV 1, .pointer (some ⟨b1, 0, none⟩), .pointer (some ⟨b2, 0, none⟩)]) Tryz.func144 rfl rfl fun w => ?_; refine zs3 ?_; (refine T.box Wanted.none rfl rfl zq15 ?_; intro b3); refine yq14 ?_; refine sv (PV.loadAll rfl zq0 (by exact rfl)) ?_; refine sl ?_; refine sl ?_; refine T.callV Wanted.none rfl rfl (hck) ?_; refine yq0 ?_
  exact T.retF (Lv.fin (RV.tmp rfl rfl) rfl)
theorem walkN_fn (gfn : FuncId) [hE : Ent Tryz.prog gfn] (cap : List Value) (H : Hp) (hg : Fn Tryz.prog gfn (cnV 1 :: cap).toArray H (fun u _ => u = .int .i64 0)) :
    Fn Tryz.prog 143 #[cnV 1, .func (.func gfn) #[] cap.toArray] H (fun u _ => u = .int .i64 0) := by
  refine Fn.of_T (vs := [cnV 1, .func (.func gfn) #[] cap.toArray]) Tryz.func143 rfl rfl fun w => ?_; refine zs3 ?_; (refine T.box Wanted.none rfl rfl zq15 ?_; intro b2); refine yq11 ?_; refine yq4 ?_; refine sv (PV.loadAll rfl zq0 (by exact rfl)) ?_; refine T.callF (cap := cap) Wanted.none rfl rfl rfl (by exact hg) ?_
  rintro _ H' hle rfl
  refine T.forget hle ?_ (Hp.le.refl _)
  refine yq28 ?_; refine yq29 ?_; refine yq7 ?_; refine sq ?_; refine zs3 ?_; refine yq12 ?_; refine yq35 ?_; refine T.loopR [(17, Value.int IntKind.i64 (↑0 : Int)), (16, Value.slice none 0 0), (1, Value.func (Fn.func gfn) #[] cap.toArray)] zq8 18 0 rfl ?_
  intro i hi
  obtain rfl : i = 0 := by omega
  refine yq16 ?_; refine yq22 ?_; refine zs3 ?_; refine yq0 ?_
  exact T.retF (Lv.fin (RV.tmp rfl rfl) rfl)
theorem validateN_fn (l : List (ByteArray × Bool)) (v : Value) (H : Hp) (hv : SlR H 2 v l.length (l.flatMap encAt)) :
    Fn Tryz.prog 71 #[cnV 1, v, .slice none 0 0] H (fun u _ => u = .int .i64 0) := by
  obtain ⟨ad, cap, rfl⟩ := hv.len
  refine Fn.of_T (vs := [cnV 1, .slice ad l.length cap, .slice none 0 0]) Tryz.func71 rfl rfl fun w => ?_; refine zs3 ?_; (refine T.box Wanted.none rfl rfl zq15 ?_; intro b3); (refine T.box Wanted.none rfl rfl zq15 ?_; intro b4); (refine T.box Wanted.none rfl rfl zq15 ?_; intro b5); refine yq0 ?_; refine T.freezeB (b := b4) zq1 ?_
  intro H1 hle1 hb4
  refine T.freezeB (b := b5) zq1 ?_
  intro H2 hle2 hb5
  have hm := measureN_fn H2
  have hw := walkN_fn 144 [.pointer (some ⟨b4, 0, none⟩), .pointer (some ⟨b5, 0, none⟩)] H2 (val1N_fn l _ b4 b5 H2 (hv.mono (hle1.trans hle2)) (hle2 _ _ hb4) hb5)
  refine sq ?_; refine zs3 ?_; refine sv (PV.loadAll rfl zq0 (by exact rfl)) ?_; (refine T.callX Wanted.none rfl rfl hm ?_; rintro _ rfl); refine sm ?_; refine yq19 ?_; refine sa ?_; refine yq28 ?_; refine sv (PV.gtr rfl rfl) ?_; refine sm ?_; refine gm ?_; refine gv (PV.gtr rfl rfl) ?_; refine sF ?_; refine so ?_; refine yq7 ?_; refine zs3 ?_; refine sv (PV.loadAll rfl zq0 (by exact rfl)) ?_; refine sv (PV.makeFunc rfl) ?_; (refine T.callX Wanted.none rfl rfl hw ?_; rintro _ rfl); refine yq0 ?_
  exact T.retF (Lv.fin (RV.tmp rfl rfl) rfl)
theorem holdsN_fn (c : Cp) (i : Int) (la ba : Option Addr) (ln lc bn bc : Nat) (H : Hp) : Fn Tryz.prog 260 #[cpV c, cnV 1, .int .i64 i, .slice la ln lc, .slice ba bn bc] H (fun u _ => u = .bool true) := by
  unfold cpV
  refine Fn.of_T (vs := [.agg #[c.va, c.vt, c.vx, c.vr, c.vn, c.vh, c.vs], cnV 1, .int .i64 i, .slice la ln lc, .slice ba bn bc]) Tryz.func260 rfl rfl fun w => ?_; refine zs3 ?_; (refine T.box Wanted.none rfl rfl zq15 ?_; intro b5); (refine T.box Wanted.none rfl rfl zq15 ?_; intro b6); (refine T.box Wanted.none rfl rfl zq15 ?_; intro b7); (refine T.box Wanted.none rfl rfl zq15 ?_; intro b8); (refine T.box Wanted.none rfl rfl zq15 ?_; intro b9); refine yq14 ?_; refine sv (PV.makeFunc rfl) ?_; refine sy fun b11 => ?_; refine T.store1 Wanted.none rfl rfl rfl zq14 zq13 ?_; refine so ?_; refine sq ?_; refine zs3 ?_; refine yq6 ?_; refine so ?_; refine T.block ?_; refine zs3 ?_; refine yq32 ?_; refine T.condT rfl rfl ?_; refine zs3 ?_; refine yq0 ?_
  exact T.retF (Lv.fin (RV.tmp rfl rfl) rfl)
/-! ### leaves -/
theorem copiedN_fn (H : Hp) : Fn Tryz.prog 204 #[cnV 1] H (fun u _ => u = cnV 1) := by
  refine Fn.of_T (vs := [cnV 1]) Tryz.func204 rfl rfl fun w => ?_; refine zs3 ?_; (refine T.box Wanted.none rfl rfl zq15 ?_; intro b1); refine sy fun b2 => ?_; refine zs1 ?_; refine sv (PV.loadAll rfl zq0 (by exact rfl)) ?_; refine sy fun b3 => ?_; refine yq13 ?_; refine sf ?_; refine T.store1 Wanted.none rfl rfl rfl zq14 zq13 ?_; refine so ?_; refine sq ?_; refine zs3 ?_; refine yq12 ?_; refine yq35 ?_; refine T.loopR [(10, Value.int IntKind.i64 (↑0 : Int)), (9, Value.slice none 0 0), (3, Value.pointer (some { block := b3, off := 0 })), (2, Value.pointer (some { block := b2, off := 0 }))] zq8 11 0 rfl ?_
  intro i hi
  obtain rfl : i = 0 := by omega
  refine yq16 ?_; refine yq22 ?_; refine zs3 ?_; refine sv (PV.loadAll rfl zq0 (by exact rfl)) ?_; refine yq9 ?_
  exact T.retF (Lv.fin (RV.cell rfl (by exact CV.agg rfl zq0 (by exact rfl))) rfl)
theorem cloneN_fn (H : Hp) : Fn Tryz.prog 141 #[pnV pT] H (fun u _ => u = pnV pT) := by
  have hc := copiedN_fn H
  unfold pnV pT
  refine Fn.of_T (vs := [_]) Tryz.func141 rfl rfl fun w => ?_
  dsimp only
  refine zs3 ?_; (refine T.box Wanted.none rfl rfl zq15 ?_; intro b1); refine sy fun b2 => ?_; refine so ?_; refine sq ?_; refine T.regionT 8 (by kernel_rfl) ?_; refine yq1 ?_; refine TQ.pv (PV.fieldAddr rfl) Wanted.none rfl rfl ?_; refine TQ.pv (PV.loadAgg rfl zq0 (by exact rfl) (by exact rfl)) Wanted.none rfl rfl ?_; refine TQ.callV Wanted.none rfl rfl (hc) ?_; refine yq1 ?_; refine TQ.pv (PV.build rfl zq12) Wanted.none rfl rfl ?_; refine TQ.nil ?_; refine yq9 ?_
  exact T.retF (Lv.fin (RV.cell rfl (by exact CV.agg rfl zq0 (by exact rfl))) rfl)
/-- a node that is no token and has no kids -/
theorem leaves0_fn (p : Pn) (a : Option Addr) (n cap : Nat) (H : Hp) (hop : p.op ≠ 1) (hl : p.ka = none ∧ p.kn = 0 ∧ p.kc = 0) : Fn Tryz.prog 70 #[pnV p, .slice a n cap] H (fun u _ => u = .slice a n cap) := by
  unfold pnV
  rw [hl.1, hl.2.1, hl.2.2]
  refine Fn.of_T (vs := [_, .slice a n cap]) Tryz.func70 rfl rfl fun w => ?_; refine zs3 ?_; (refine T.box Wanted.none rfl rfl zq15 ?_; intro b2); refine yq11 ?_; refine zs3 ?_; refine yq6 ?_; refine sv (PV.eql rfl rfl) ?_; refine so ?_; refine sd rfl (by omega) ?_; refine T.skip ?_; refine sq ?_; refine zs3 ?_; refine yq12 ?_; refine yq35 ?_; refine T.loopK [(17, Value.int IntKind.i64 (↑0 : Int)), (16, Value.slice none 0 0)] zq8 (γ := Unit) (fun _ => True) (fun _ => [(18, .int .i64 0), (1, .slice a n cap)]) (fun _ => _) (fun _ => H) (fun _ => 0) () trivial zq8 (Sel.refl _) rfl ?_
  rintro _ _
  refine yq16 ?_; refine yq22 ?_; refine yq4 ?_; refine yq0 ?_
  exact T.retF (Lv.fin (RV.tmp rfl rfl) rfl)
theorem flatP_len (l : List Pn) : (l.flatMap encPn).length = l.length * 13 := flat_len encPn_len l
theorem one_encPn (p : Pn) : ∀ v ∈ encPn p, v.oneCell' = true := by
  intro v hv
  simp only [encPn, List.mem_cons, List.not_mem_nil, or_false] at hv
  rcases hv with rfl | rfl | rfl | rfl | rfl | rfl | rfl | rfl | rfl | rfl | rfl | rfl | rfl <;> rfl
theorem leavesT_fn (H : Hp) : Fn Tryz.prog 70 #[pnV pT, .slice none 0 0] H (fun u H' => PnL H' u [pT]) := by
  have hc := cloneN_fn H
  unfold pnV pT at *
  refine Fn.of_T (vs := [_, .slice none 0 0]) Tryz.func70 rfl rfl fun w => ?_
  dsimp only at *
  refine zs3 ?_; (refine T.box Wanted.none rfl rfl zq15 ?_; intro b2); refine yq11 ?_; refine zs3 ?_; refine yq6 ?_; refine sv (PV.eql rfl rfl) ?_; refine so ?_; refine T.condT rfl rfl ?_; refine yq4 ?_; refine sv (PV.loadAll rfl zq0 (by exact rfl)) ?_; refine T.callV Wanted.none rfl rfl (hc) ?_; (refine T.buildSlice Wanted.none rfl rfl zq11 (by exact rfl) (by exact rfl) ?_; intro b13); (refine T.appendP (lv := []) Wanted.none rfl rfl rfl (Vec.nil _ _) (Src.cells (m := 1) (ys := encPn pT) (.own zq2) rfl rfl) (one_encPn _) (by omega) zq1 ?_; intro v14 lv14 hv14 _); refine yq0 ?_; refine T.freezeP (lv := lv14) hv14 zq1 ?_
  intro Ha hla2 hsa
  exact T.retF (Lv.fin (RV.tmp rfl rfl) hsa)
theorem leavesR_fn (kind : ByteArray) (bs bt : Nat) (H : Hp) (hp : PtR H kind bs bt) : Fn Tryz.prog 70 #[pnV (pR bt), .slice none 0 0] H (fun u H' => PnL H' u [pT]) := by
  have h1 := leavesT_fn H
  have hk := hp.kt
  unfold Pn.ks pR at hk
  unfold pnV at *
  unfold pR
  unfold pT at h1 hk
  dsimp only at *
  refine Fn.of_T (vs := [_, .slice none 0 0]) Tryz.func70 rfl rfl fun w => ?_; refine zs3 ?_; (refine T.box Wanted.none rfl rfl zq15 ?_; intro b2); refine yq11 ?_; refine zs3 ?_; refine yq6 ?_; refine sv (PV.eql rfl rfl) ?_; refine so ?_; refine yq7 ?_; refine sq ?_; refine zs3 ?_; refine yq12 ?_; refine yq35 ?_; refine T.loopK [(17, Value.int IntKind.i64 (↑1 : Int)), (16, Value.slice (some { block := bt, off := 0 }) 1 1)] zq8 (γ := Nat × Value × Hp) (fun g => g.1 ≤ 1 ∧ H.le g.2.2 ∧ (g.1 = 0 → g.2.1 = .slice none 0 0 ∧ g.2.2 = H) ∧ (g.1 = 1 → PnL g.2.2 g.2.1 [pT])) (fun g => [(18, .int .i64 (g.1 : Int)), (1, g.2.1)]) (fun _ => _) (fun g => g.2.2) (fun g => 1 - g.1) (0, .slice none 0 0, H) ⟨Nat.zero_le _, Hp.le.refl _, fun _ => ⟨rfl, rfl⟩, fun h => by cases h⟩ zq8 (Sel.refl _) rfl ?_
  rintro ⟨i, v, H1⟩ ⟨hi0, hle1, g1, g2⟩
  dsimp only at hi0 hle1 g1 g2 ⊢
  by_cases hi : i < 1
  · obtain rfl : i = 0 := by omega
    obtain ⟨rfl, rfl⟩ := g1 rfl
    obtain ⟨b, off, f, hb, hix, hsub⟩ := RowL.get encPn_len hk (i := 0) (by simp)
    obtain rfl := Option.some.inj hix
    cases hb
    unfold encPn at hsub
    refine yq16 ?_; refine T.condT rfl rfl ?_; refine yq25 ?_; refine zs3 ?_; refine yq5 ?_; refine sy fun b6 => ?_; refine T.storeA Wanted.none rfl rfl zq8 (by exact rfl) zq14 zq13 ?_; refine zs2 ?_; refine sv (PV.loadAll rfl zq0 (by exact rfl)) ?_; refine sm ?_; (refine T.call Wanted.none rfl rfl h1 ?_; intro v24 H24 hle24 hv24); refine yq0 ?_; refine yq33 ?_; refine yq23 ?_
    exact T.nextP (1, v24, H24) ⟨by dsimp only; omega, hle24, fun h => absurd (show (1 : Nat) = 0 from h) (by decide), fun _ => hv24⟩ (by dsimp only; omega) zq8 (by repeat (first | exact Sel.refl _ | exact Sel.nil | (refine Sel.cons zq1 ?_) | (refine Sel.app zq1 ?_) | exact Sel.one zq1)) rfl
  · obtain rfl : i = 1 := by omega
    refine yq16 ?_; refine yq22 ?_; refine yq4 ?_; refine yq0 ?_
    exact T.retF (Lv.fin (RV.tmp rfl rfl) (g2 rfl))
theorem leavesS_fn (kind : ByteArray) (bs bt : Nat) (H : Hp) (hp : PtR H kind bs bt) : Fn Tryz.prog 70 #[pnV (pS bs), .slice none 0 0] H (fun u H' => PnL H' u [pT]) := by
  have h1 := leaves0_fn (pB kind) none 0 0 H (show (2 : Int) ≠ 1 by decide) ⟨rfl, rfl, rfl⟩
  have h2 := leavesR_fn kind bs bt H hp
  have h3 := fun a n cap H' => leaves0_fn (pE kind) a n cap H' (show (3 : Int) ≠ 1 by decide) ⟨rfl, rfl, rfl⟩
  have hk := hp.ks
  unfold Pn.ks pS at hk
  unfold pnV at *
  unfold pS
  dsimp only at *
  refine Fn.of_T (vs := [_, .slice none 0 0]) Tryz.func70 rfl rfl fun w => ?_; refine zs3 ?_; (refine T.box Wanted.none rfl rfl zq15 ?_; intro b2); refine yq11 ?_; refine zs3 ?_; refine yq6 ?_; refine sv (PV.eql rfl rfl) ?_; refine so ?_; refine yq7 ?_; refine sq ?_; refine zs3 ?_; refine yq12 ?_; refine yq35 ?_; refine T.loopK [(17, Value.int IntKind.i64 (↑3 : Int)), (16, Value.slice (some { block := bs, off := 0 }) 3 3)] zq8 (γ := Nat × Value × Hp) (fun g => g.1 ≤ 3 ∧ H.le g.2.2 ∧ (g.1 ≤ 1 → g.2.1 = .slice none 0 0 ∧ g.2.2 = H) ∧ (2 ≤ g.1 → PnL g.2.2 g.2.1 [pT])) (fun g => [(18, .int .i64 (g.1 : Int)), (1, g.2.1)]) (fun _ => _) (fun g => g.2.2) (fun g => 3 - g.1) (0, .slice none 0 0, H) ⟨Nat.zero_le _, Hp.le.refl _, fun _ => ⟨rfl, rfl⟩, fun h => absurd h (by omega)⟩ zq8 (Sel.refl _) rfl ?_
  rintro ⟨i, v, H1⟩ ⟨hi0, hle1, g1, g2⟩
  dsimp only at hi0 hle1 g1 g2 ⊢
  by_cases hi : i < 3
  · obtain ⟨b, off, f, hb, hix, hsub⟩ := RowL.get encPn_len (hk.mono hle1) (i := i) hi
    cases hb
    unfold encPn at hsub
    have h012 : i = 0 ∨ i = 1 ∨ i = 2 := by omega
    rcases h012 with rfl | rfl | rfl
    · obtain ⟨rfl, rfl⟩ := g1 (by omega)
      obtain rfl := Option.some.inj hix
      refine yq16 ?_; refine T.condT rfl rfl ?_; refine yq25 ?_; refine zs3 ?_; refine yq5 ?_; refine sy fun b6 => ?_; refine T.storeA Wanted.none rfl rfl zq8 (by exact rfl) zq14 zq13 ?_; refine zs2 ?_; refine sv (PV.loadAll rfl zq0 (by exact rfl)) ?_; refine sm ?_; refine T.callV Wanted.none rfl rfl (h1) ?_; refine yq0 ?_; refine yq33 ?_; refine yq23 ?_
      exact T.nextP (1, _, _) ⟨by dsimp only; omega, hle1, fun _ => ⟨rfl, rfl⟩, fun h => absurd h (by dsimp only; omega)⟩ (by dsimp only; omega) zq8 (by repeat (first | exact Sel.refl _ | exact Sel.nil | (refine Sel.cons zq1 ?_) | (refine Sel.app zq1 ?_) | exact Sel.one zq1)) rfl
    · obtain ⟨rfl, rfl⟩ := g1 (by omega)
      obtain rfl := Option.some.inj hix
      refine yq16 ?_; refine T.condT rfl rfl ?_; refine yq25 ?_; refine zs3 ?_; refine yq5 ?_; refine sy fun b6 => ?_; refine T.storeA Wanted.none rfl rfl zq8 (by exact rfl) zq14 zq13 ?_; refine zs2 ?_; refine sv (PV.loadAll rfl zq0 (by exact rfl)) ?_; refine sm ?_; (refine T.call Wanted.none rfl rfl h2 ?_; intro v24 H24 hle24 hv24); refine yq0 ?_; refine yq33 ?_; refine yq23 ?_
      exact T.nextP (2, v24, H24) ⟨by dsimp only; omega, hle24, fun h => absurd h (by dsimp only; omega), fun _ => hv24⟩ (by dsimp only; omega) zq8 (by repeat (first | exact Sel.refl _ | exact Sel.nil | (refine Sel.cons zq1 ?_) | (refine Sel.app zq1 ?_) | exact Sel.one zq1)) rfl
    · obtain rfl := Option.some.inj hix
      have hv := g2 (by omega)
      obtain ⟨a, cap, rfl⟩ := hv.len
      have h3' := h3 a [pT].length cap H1
      refine yq16 ?_; refine T.condT rfl rfl ?_; refine yq25 ?_; refine zs3 ?_; refine yq5 ?_; refine sy fun b6 => ?_; refine T.storeA Wanted.none rfl rfl zq8 (by exact rfl) zq14 zq13 ?_; refine zs2 ?_; refine sv (PV.loadAll rfl zq0 (by exact rfl)) ?_; refine sm ?_; refine T.callV Wanted.none rfl rfl (h3') ?_; refine yq0 ?_; refine yq33 ?_; refine yq23 ?_
      exact T.nextP (3, _, H1) ⟨by dsimp only; omega, hle1, fun h => absurd h (by dsimp only; omega), fun _ => hv⟩ (by dsimp only; omega) zq8 (by repeat (first | exact Sel.refl _ | exact Sel.nil | (refine Sel.cons zq1 ?_) | (refine Sel.app zq1 ?_) | exact Sel.one zq1)) rfl
  · obtain rfl : i = 3 := by omega
    refine yq16 ?_; refine yq22 ?_; refine yq4 ?_; refine yq0 ?_
    exact T.retF (Lv.fin (RV.tmp rfl rfl) (g2 (by omega)))
end Go.Proofs.YtbcadnjfegiakaaGreatDoor
namespace Go.Proofs.YtbcadnjfegiakaaGreatDoor
open Go.RowKit

/-- the constraint that always holds -/
abbrev gbV : Value := .agg #[.int .i64 0, .string ⟨#[]⟩, .string ⟨#[]⟩, .string ⟨#[]⟩, .string ⟨#[]⟩, .string ⟨#[]⟩, .bool false, .int .i64 0, .int .i64 0, .slice none 0 0, .slice none 0 0]
/-- the query: the pattern, no constraint, filters, each -/
def quC (bs : Nat) (fa : Option Addr) (fn fc : Nat) : List Value := encPn (pS bs) ++ [.int .i64 0, .string ⟨#[]⟩, .string ⟨#[]⟩, .string ⟨#[]⟩, .string ⟨#[]⟩, .string ⟨#[]⟩, .bool false, .int .i64 0, .int .i64 0, .slice none 0 0, .slice none 0 0, .slice fa fn fc, .int .i64 0]
def quV (bs : Nat) (fa : Option Addr) (fn fc : Nat) : Value := .agg (quC bs fa fn fc).toArray
theorem none_fn (H : Hp) : Fn Tryz.prog 147 #[gbV] H (fun u _ => u = .bool true) := by
  refine Fn.of_T (vs := [gbV]) Tryz.func147 rfl rfl fun w => ?_; refine zs3 ?_; (refine T.box Wanted.none rfl rfl zq15 ?_; intro b1); refine yq14 ?_; refine yq6 ?_; refine sv (PV.eql rfl rfl) ?_; refine sm ?_; refine yq26 ?_; refine gv (PV.seql rfl rfl) ?_; refine sT ?_; refine sm ?_; refine yq26 ?_; refine gv (PV.seql rfl rfl) ?_; refine sT ?_; refine sm ?_; refine yq26 ?_; refine gv (PV.seql rfl rfl) ?_; refine sT ?_; refine sm ?_; refine yq26 ?_; refine gv (PV.seql rfl rfl) ?_; refine sT ?_; refine sm ?_; refine yq26 ?_; refine gv (PV.seql rfl rfl) ?_; refine sT ?_; refine sm ?_; refine yq26 ?_; refine gv (PV.not rfl) ?_; refine sT ?_; refine sm ?_; refine gf ?_
  refine gl ?_; refine gv (PV.eql rfl rfl) ?_; refine sT ?_; refine sm ?_; refine yq26 ?_; refine gv (PV.eql rfl rfl) ?_; refine sT ?_; refine sm ?_; refine yq26 ?_; refine gv (PV.lenSl rfl) ?_; refine gv (PV.eql rfl rfl) ?_; refine sT ?_; refine sm ?_; refine yq26 ?_; refine gv (PV.lenSl rfl) ?_; refine gv (PV.eql rfl rfl) ?_; refine sT ?_; refine yq0 ?_
  exact T.retF (Lv.fin (RV.tmp rfl rfl) rfl)
theorem sound_fn (H : Hp) : Fn Tryz.prog 74 #[gbV] H (fun u _ => u = .bool true) := by
  have h := none_fn H
  refine Fn.of_T (vs := [gbV]) Tryz.func74 rfl rfl fun w => ?_; refine zs3 ?_; (refine T.box Wanted.none rfl rfl zq15 ?_; intro b1); refine yq11 ?_; refine zs3 ?_; refine sv (PV.loadAll rfl zq0 (by exact rfl)) ?_; refine T.callV Wanted.none rfl rfl (h) ?_; refine so ?_; refine T.condT rfl rfl ?_; refine zs3 ?_; refine yq0 ?_
  exact T.retF (Lv.fin (RV.tmp rfl rfl) rfl)
theorem checkAtom_fn (a : Option Addr) (n cap : Nat) (H : Hp) : Fn Tryz.prog 151 #[gbV, .slice a n cap, .slice none 0 0] H (fun u _ => u = .int .i64 0) := by
  refine Fn.of_T (vs := [gbV, .slice a n cap, .slice none 0 0]) Tryz.func151 rfl rfl fun w => ?_; refine zs3 ?_; (refine T.box Wanted.none rfl rfl zq15 ?_; intro b3); refine yq11 ?_; refine zs3 ?_; refine yq6 ?_; refine sv (PV.geq rfl rfl) ?_; refine sm ?_; refine yq26 ?_; refine gv (PV.eql rfl rfl) ?_; refine sF ?_; refine so ?_; refine T.condT rfl rfl ?_; refine zs3 ?_; refine yq0 ?_
  exact T.retF (Lv.fin (RV.tmp rfl rfl) rfl)
theorem checkAll_fn (a : Option Addr) (n cap : Nat) (H : Hp) : Fn Tryz.prog 75 #[gbV, .slice a n cap, .slice none 0 0] H (fun u _ => u = .int .i64 0) := by
  have h := checkAtom_fn a n cap H
  refine Fn.of_T (vs := [gbV, .slice a n cap, .slice none 0 0]) Tryz.func75 rfl rfl fun w => ?_; refine zs3 ?_; (refine T.box Wanted.none rfl rfl zq15 ?_; intro b3); refine yq11 ?_; refine zs3 ?_; refine sv (PV.loadAll rfl zq0 (by exact rfl)) ?_; refine sm ?_; refine sm ?_; refine T.callV Wanted.none rfl rfl (h) ?_; refine yq28 ?_; refine yq29 ?_; refine yq7 ?_; refine sq ?_; refine zs3 ?_; refine yq12 ?_; refine yq35 ?_; refine T.loopR [(20, Value.int IntKind.i64 (↑0 : Int)), (19, Value.slice none 0 0), (1, Value.slice a n cap), (2, Value.slice none 0 0)] zq8 21 0 rfl ?_
  intro i hi
  obtain rfl : i = 0 := by omega
  refine yq16 ?_; refine yq22 ?_; refine zs3 ?_; refine yq0 ?_
  exact T.retF (Lv.fin (RV.tmp rfl rfl) rfl)
theorem kind_fn (f : Fl) (H : Hp) : Fn Tryz.prog 73 #[flV f] H (fun u _ => u = .bool (decide (f.op < 1) || decide (3 < f.op))) := by
  unfold flV
  refine Fn.of_T (vs := [_]) Tryz.func73 rfl rfl fun w => ?_
  by_cases h1 : f.op < 1
  · have e : decide (f.op < 1) = true := decide_eq_true h1
    rw [e, Bool.true_or]
    refine zs3 ?_; (refine T.box Wanted.none rfl rfl zq15 ?_; intro b1); refine yq14 ?_; refine yq6 ?_; refine sv (PV.lss rfl rfl) ?_; refine sm ?_; refine T.pass (Unwanted.guard rfl rfl (by assumption)) rfl rfl ?_; refine T.pass (Unwanted.guard rfl rfl (by assumption)) rfl rfl ?_; refine T.pass (Unwanted.guard rfl rfl (by assumption)) rfl rfl ?_; refine sv (PV.pickT rfl (by assumption) rfl) ?_; refine yq0 ?_
    exact T.retF (Lv.fin (RV.tmp rfl rfl) rfl)
  · have e : decide (f.op < 1) = false := decide_eq_false h1
    rw [e, Bool.false_or]
    refine zs3 ?_; (refine T.box Wanted.none rfl rfl zq15 ?_; intro b1); refine yq14 ?_; refine yq6 ?_; refine sv (PV.lss rfl rfl) ?_; refine sm ?_; refine T.pv (PV.fieldAddr rfl) (Wanted.guard rfl rfl (by assumption)) rfl rfl ?_; refine T.pv (PV.load1 rfl zq0 rfl) (Wanted.guard rfl rfl (by assumption)) rfl rfl ?_; refine T.pv (PV.gtr rfl rfl) (Wanted.guard rfl rfl (by assumption)) rfl rfl ?_; refine sv (PV.pickF rfl (by assumption) rfl) ?_; refine yq0 ?_
    exact T.retF (Lv.fin (RV.tmp rfl rfl) rfl)
theorem checkF1_fn (f : Fl) (H : Hp) : Fn Tryz.prog 137 #[flV f] H (fun u _ => u = .bool (!validName f.rg)) := by
  have hn := name_fn f.rg H
  unfold flV
  refine Fn.of_T (vs := [_]) Tryz.func137 rfl rfl fun w => ?_; refine zs3 ?_; (refine T.box Wanted.none rfl rfl zq15 ?_; intro b1); refine yq14 ?_; refine yq6 ?_; refine T.callV Wanted.none rfl rfl (hn) ?_; refine sv (PV.not rfl) ?_; refine yq0 ?_
  exact T.retF (Lv.fin (RV.tmp rfl rfl) rfl)
/-- filters that are well formed -/
def okF (fs : List Fl) : Prop := ∀ f ∈ fs, (1 ≤ f.op ∧ f.op ≤ 3) ∧ validName f.rg = true
theorem okF_kind {fs : List Fl} (h : okF fs) : fs.any (fun f => decide (f.op < 1) || decide (3 < f.op)) = false := by
  rw [List.any_eq_false]
  intro f hf
  have := (h f hf).1
  simp; omega
theorem okF_name {fs : List Fl} (h : okF fs) : fs.any (fun f => !validName f.rg) = false := by
  rw [List.any_eq_false]
  intro f hf
  simp [(h f hf).2]
set_option maxHeartbeats 1000000 in
theorem checkPattern_fn (kind : ByteArray) (bs bt : Nat) (fa : Option Addr) (fc : Nat) (fs : List Fl) (H : Hp) (hp : PtR H kind bs bt) (hn : validName kind = true) (hf : FlL H (.slice fa fs.length fc) fs) (hfl : fs.length ≤ 1000) (hok : okF fs) :
    Fn Tryz.prog 68 #[quV bs fa fs.length fc] H (fun u _ => u = .int .i64 0) := by
  have h1 := qShape_fn kind bs bt H hp
  have h2 := named_all kind bs bt H hp hn
  have h3 := ranged_all kind bs bt H hp
  have h4 := sizeS_fn kind bs bt H hp
  have h5 := labels_all kind bs bt H hp
  have h6 := containsFunc_fn fs (.slice fa fs.length fc) H hf (by omega) (fun f => !validName f.rg) 137 [] (fun f _ => checkF1_fn f H)
  rw [okF_name hok] at h6
  unfold pnV pS at *
  unfold quV quC encPn pS
  dsimp only [List.cons_append, List.nil_append] at *
  refine Fn.of_T (vs := [_]) Tryz.func68 rfl rfl fun w => ?_; refine zs3 ?_; (refine T.box Wanted.none rfl rfl zq15 ?_; intro b1); refine yq11 ?_; refine T.block ?_; refine zs3 ?_; refine sf ?_; refine sv (PV.loadAgg rfl zq0 (by exact rfl) (by exact rfl)) ?_; refine T.callV Wanted.none rfl rfl (h1) ?_; refine sv (PV.not rfl) ?_; refine sm ?_; refine yq26 ?_; refine gv (PV.lss rfl rfl) ?_; refine sF ?_; refine sm ?_; refine yq26 ?_; refine gv (PV.gtr rfl rfl) ?_; refine sF ?_; refine yq0 ?_; refine T.condF rfl rfl ?_; refine zs3 ?_; refine sf ?_; refine sv (PV.loadAgg rfl zq0 (by exact rfl) (by exact rfl)) ?_; refine T.callV Wanted.none rfl rfl (h2) ?_; refine sv (PV.not rfl) ?_; refine sm ?_; refine yq26 ?_; refine T.callV (Wanted.guard rfl rfl rfl) rfl rfl (h6) ?_; refine sF ?_; refine yq0 ?_; refine T.condF rfl rfl ?_; refine zs3 ?_; refine sf ?_
  refine sv (PV.loadAgg rfl zq0 (by exact rfl) (by exact rfl)) ?_; refine T.callV Wanted.none rfl rfl (h3) ?_; refine sv (PV.not rfl) ?_; refine yq0 ?_; refine T.condF rfl rfl ?_; refine zs3 ?_; refine sf ?_; refine sv (PV.loadAgg rfl zq0 (by exact rfl) (by exact rfl)) ?_; refine T.callV Wanted.none rfl rfl (h4) ?_; refine sv (PV.gtr rfl rfl) ?_; refine yq0 ?_; refine T.condF rfl rfl ?_; refine zs3 ?_; refine sf ?_; refine sv (PV.loadAgg rfl zq0 (by exact rfl) (by exact rfl)) ?_; refine T.callV Wanted.none rfl rfl (h5) ?_; refine sv (PV.lenSl rfl) ?_; refine sv (PV.gtr rfl rfl) ?_; refine yq0 ?_; refine yq7 ?_; refine T.blkEnd ?_; refine zs3 ?_; refine yq0 ?_
  exact T.retF (Lv.fin (RV.tmp rfl rfl) rfl)
set_option maxHeartbeats 1000000 in
theorem qValidate_fn (kind : ByteArray) (bs bt : Nat) (fa : Option Addr) (fc : Nat) (fs : List Fl) (l : List (ByteArray × Bool)) (v : Value) (H : Hp) (hp : PtR H kind bs bt) (hn : validName kind = true) (hf : FlL H (.slice fa fs.length fc) fs) (hfl : fs.length ≤ 1000) (hok : okF fs) (hv : SlR H 2 v l.length (l.flatMap encAt)) :
    Fn Tryz.prog 34 #[quV bs fa fs.length fc, v] H (fun u _ => u = .int .i64 0) := by
  have h1 := checkPattern_fn kind bs bt fa fc fs H hp hn hf hfl hok
  have h2 := labels_all kind bs bt H hp
  have h3 := leavesS_fn kind bs bt H hp
  obtain ⟨ad, cap, rfl⟩ := hv.len
  have h4 := fun H' (hl : H.le H') => validateN_fn l _ H' (hv.mono hl)
  have h5 := fun H' (hl : H.le H') => containsFunc_fn fs (.slice fa fs.length fc) H' (hf.mono hl) (by omega) (fun f => decide (f.op < 1) || decide (3 < f.op)) 73 [] (fun f _ => kind_fn f H')
  rw [okF_kind hok] at h5
  have h6 := sound_fn
  have h7 := checkAll_fn ad l.length cap
  unfold pnV pS at *
  unfold quV quC encPn pS at *
  dsimp only [List.cons_append, List.nil_append] at *
  refine Fn.of_T (vs := [_, .slice ad l.length cap]) Tryz.func34 rfl rfl fun w => ?_; refine zs3 ?_; (refine T.box Wanted.none rfl rfl zq15 ?_; intro b2); refine yq11 ?_; refine zs3 ?_; refine sv (PV.loadAll rfl zq0 (by exact rfl)) ?_; refine T.callV Wanted.none rfl rfl (h1) ?_; refine yq28 ?_; refine yq29 ?_; refine yq7 ?_; refine zs3 ?_; refine sf ?_; refine sv (PV.loadAgg rfl zq0 (by exact rfl) (by exact rfl)) ?_; refine T.callV Wanted.none rfl rfl (h2) ?_; refine yq11 ?_; refine zs3 ?_; refine sf ?_; refine sv (PV.loadAgg rfl zq0 (by exact rfl) (by exact rfl)) ?_; (refine T.call Wanted.none rfl rfl h3 ?_; intro v20 H20 hle20 hv20; obtain ⟨ad20, cap20, rfl⟩ : ∃ ad cap, v20 = .slice ad 1 cap := hv20.len); refine sv (PV.lenSl rfl) ?_; refine yq35 ?_
  have h4 := h4 H20 hle20
  have h5 := h5 H20 hle20
  have h6 := h6 H20
  have h7 := h7 H20
  refine T.loopR [(21, Value.int IntKind.i64 (↑1 : Int)), (20, Value.slice ad20 1 cap20), (6, Value.slice none 0 0), (2, Value.pointer (some { block := b2, off := 0 })), (1, Value.slice ad l.length cap)] zq8 22 1 rfl ?_
  intro i hi0
  by_cases hi : i < 1
  · obtain rfl : i = 0 := by omega
    obtain ⟨b, off, f, rfl, hix, hsub⟩ := RowL.get (l := [pT]) (n := 1) encPn_len hv20 (i := 0) (by simp)
    obtain rfl := Option.some.inj hix
    unfold encPn pT at hsub
    dsimp only at hsub
    refine yq16 ?_; refine T.condT rfl rfl ?_; refine yq25 ?_; refine zs3 ?_; refine yq5 ?_; refine sy fun b8 => ?_; refine yq13 ?_; refine sf ?_; refine sv (PV.loadAgg rfl zq0 (by exact rfl) (by exact rfl)) ?_; refine sm ?_; refine sm ?_; refine T.callV Wanted.none rfl rfl (h4) ?_; refine yq28 ?_; refine yq29 ?_; refine yq7 ?_; refine yq33 ?_; refine yq23 ?_
    exact T.nextR hi rfl zq8 (by repeat (first | exact Sel.refl _ | exact Sel.nil | (refine Sel.cons zq1 ?_) | (refine Sel.app zq1 ?_) | exact Sel.one zq1))
  · obtain rfl : i = 1 := by omega
    refine yq16 ?_; refine yq22 ?_; refine sq ?_; refine zs3 ?_; refine yq6 ?_; refine T.callV Wanted.none rfl rfl (h5) ?_; refine sm ?_; refine gf ?_; refine gv (PV.loadAgg rfl zq0 (by exact rfl) (by exact rfl)) ?_; refine T.callV (Wanted.guard rfl rfl rfl) rfl rfl (h6) ?_; refine gv (PV.not rfl) ?_; refine sF ?_; refine so ?_; refine yq7 ?_; refine zs3 ?_; refine sf ?_; refine sv (PV.loadAgg rfl zq0 (by exact rfl) (by exact rfl)) ?_; refine sm ?_; refine sm ?_; refine T.callV Wanted.none rfl rfl (h7) ?_; refine yq0 ?_
    exact T.retF (Lv.fin (RV.tmp rfl rfl) rfl)
end Go.Proofs.YtbcadnjfegiakaaGreatDoor
