/- lines: the first index of an element; attributes; the text of a token; whether a match fits.
   lines: the text of a token; whether a match fits.
   lines: codepoint: Fold, Reverse.
   lines: the reference of codepoint: Fold, Reverse.
   lines: the value of a key.
   lines: whether a match fits: the program. -/
import Derived.Test.YthacphfjchpoaaaGreatDoorG8
namespace Go.Proofs.YthacphfjchpoaaaGreatDoor
open Go.RowKit

/-- the first index at which a test holds, or -1 -/
def ixI {α : Type} (g : α → Bool) (l : List α) : Int := if l.any g = true then (l.findIdx g : Int) else -1
theorem ixI_hit {α : Type} {g : α → Bool} {l : List α} {i : Nat} {x : α} (h : (l.take i).any g = false) (hx : l[i]? = some x) (hg : g x = true) : ixI g l = (i : Int) := by
  have hi := (List.getElem?_eq_some_iff.1 hx).1
  have hxe := (List.getElem?_eq_some_iff.1 hx).2
  have ha : l.any g = true := List.any_eq_true.2 ⟨x, List.mem_of_getElem? hx, hg⟩
  unfold ixI
  rw [if_pos ha]
  congr 1
  rw [List.findIdx_eq hi]
  refine ⟨by rw [hxe]; exact hg, fun j hj => ?_⟩
  have hj2 : (l.take i)[j]? = some l[j] := by rw [List.getElem?_take, if_pos hj]; exact List.getElem?_eq_getElem (by omega)
  cases hgj : g l[j]
  · rfl
  · rw [List.any_eq_true.2 ⟨_, List.mem_of_getElem? hj2, hgj⟩] at h
    exact absurd h (by simp)
theorem ixI_miss {α : Type} {g : α → Bool} {l : List α} (h : l.any g = false) : ixI g l = -1 := by
  unfold ixI
  rw [h, if_neg (by simp)]
theorem ixI_nonneg {α : Type} {g : α → Bool} {l : List α} : decide (0 ≤ ixI g l) = l.any g := by
  unfold ixI
  cases h : l.any g
  · simp
  · rw [if_pos rfl]; simp
theorem ixI_cases {α : Type} (g : α → Bool) (l : List α) : (ixI g l = -1 ∧ l.any g = false) ∨ ∃ i x, ixI g l = ((i : Nat) : Int) ∧ l[i]? = some x ∧ g x = true ∧ (l.take i).any g = false := by
  cases h : l.any g
  · exact .inl ⟨ixI_miss h, rfl⟩
  · obtain ⟨x, hx, hg⟩ := List.any_eq_true.1 h
    have hlt : l.findIdx g < l.length := List.findIdx_lt_length_of_exists ⟨x, hx, hg⟩
    refine .inr ⟨l.findIdx g, l[l.findIdx g], by unfold ixI; rw [if_pos h], List.getElem?_eq_getElem hlt, List.findIdx_getElem, ?_⟩
    cases ha : (l.take (l.findIdx g)).any g
    · rfl
    · obtain ⟨y, hy, hgy⟩ := List.any_eq_true.1 ha
      obtain ⟨j, hj, hye⟩ := List.getElem_of_mem hy
      rw [List.length_take] at hj
      rw [List.getElem_take] at hye
      have := List.not_of_lt_findIdx (p := g) (xs := l) (i := j) (by omega)
      rw [hye, hgy] at this
      exact absurd this (by simp)
theorem ixI_drop {α : Type} {g : α → Bool} {l : List α} {i : Nat} {x : α} (h : (l.take i).any g = false) (hx : l[i]? = some x) (hg : g x = false) : (l.take (i + 1)).any g = false := by
  rw [List.take_add_one, hx, List.any_append, h]
  simpa using hg
theorem indexFunc_attr (l : List (ByteArray × Bool)) (v : Value) (H : Hp) (hv : SlR H 2 v l.length (l.flatMap encAt)) (hlb : l.length ≤ 1000000) (g : (ByteArray × Bool) → Bool) (gf : FuncId) [hE : Ent Tryz.prog gf] (cap : List Value) (hg : ∀ x ∈ l, Fn Tryz.prog gf ((.agg #[.string x.1, .bool x.2]) :: cap).toArray H (fun u _ => u = .bool (g x))) :
    Fn Tryz.prog 87 #[v, .func (.func gf) #[] cap.toArray] H (fun u _ => u = .int .i64 (ixI g l)) := by
  obtain ⟨ad, capv, rfl⟩ := hv.len
  refine Fn.of_T (vs := [.slice ad l.length capv, .func (.func gf) #[] cap.toArray]) Tryz.func87 rfl rfl fun w => ?_; refine yq25 ?_; refine yq112 ?_; refine T.loopC [(7, Value.int IntKind.i64 (↑l.length : Int)), (0, Value.slice ad l.length capv), (1, Value.func (Fn.func gf) #[] cap.toArray)] zq8 8 l.length (fun i => (l.take i).any g = false) rfl rfl ?_
  rintro i ⟨hi0, hi1⟩
  by_cases hi : i < l.length
  · obtain ⟨b, off, x, rfl, hix, hsub⟩ := RowL.get encAt_len hv hi
    have hgf := hg x (List.mem_of_getElem? hix)
    unfold encAt at hsub
    have hst : (l.take (i + 1)).any g = g x := by rw [List.take_add_one, hix, List.any_append, hi1]; simp
    refine yq87 ?_; refine yq56 ?_; refine yq162 ?_; refine yq1 ?_; refine T.callF (cap := cap) Wanted.none rfl rfl rfl (by exact hgf) ?_
    rintro _ H' hle rfl
    refine T.forget hle ?_ (Hp.le.refl _)
    cases hb : g x
    · refine yq92 ?_; refine yq61 ?_
      exact T.nextC hi (hst.trans hb) rfl zq8 (by repeat (first | exact Sel.refl _ | exact Sel.nil | (refine Sel.cons zq1 ?_) | (refine Sel.app zq1 ?_) | exact Sel.one zq1))
    · refine yq36 ?_; refine yq140 ?_
      refine T.retF (Lv.fin (RV.tmp rfl rfl) ?_)
      rw [ixI_hit hi1 hix hb]
  · rw [List.take_of_length_le (by omega)] at hi1
    refine yq195 ?_
    refine T.retF (Lv.fin (RV.tmp rfl rfl) ?_)
    rw [ixI_miss hi1]
theorem indexFunc_int (l : List Int) (v : Value) (H : Hp) (hv : SlR H 1 v l.length (l.flatMap encI)) (hlb : l.length ≤ 1000000) (g : Int → Bool) (gf : FuncId) [hE : Ent Tryz.prog gf] (cap : List Value) (hg : ∀ x ∈ l, Fn Tryz.prog gf ((.int .i64 x) :: cap).toArray H (fun u _ => u = .bool (g x))) :
    Fn Tryz.prog 90 #[v, .func (.func gf) #[] cap.toArray] H (fun u _ => u = .int .i64 (ixI g l)) := by
  obtain ⟨ad, capv, rfl⟩ := hv.len
  refine Fn.of_T (vs := [.slice ad l.length capv, .func (.func gf) #[] cap.toArray]) Tryz.func90 rfl rfl fun w => ?_; refine yq25 ?_; refine yq112 ?_; refine T.loopC [(7, Value.int IntKind.i64 (↑l.length : Int)), (0, Value.slice ad l.length capv), (1, Value.func (Fn.func gf) #[] cap.toArray)] zq8 8 l.length (fun i => (l.take i).any g = false) rfl rfl ?_
  rintro i ⟨hi0, hi1⟩
  by_cases hi : i < l.length
  · obtain ⟨b, off, x, rfl, hix, hsub⟩ := RowL.get encI_len hv hi
    have hgf := hg x (List.mem_of_getElem? hix)
    unfold encI at hsub
    have hst : (l.take (i + 1)).any g = g x := by rw [List.take_add_one, hix, List.any_append, hi1]; simp
    refine yq87 ?_; refine yq56 ?_; refine yq162 ?_; refine yq15 ?_; refine T.callF (cap := cap) Wanted.none rfl rfl rfl (by exact hgf) ?_
    rintro _ H' hle rfl
    refine T.forget hle ?_ (Hp.le.refl _)
    cases hb : g x
    · refine yq92 ?_; refine yq61 ?_
      exact T.nextC hi (hst.trans hb) rfl zq8 (by repeat (first | exact Sel.refl _ | exact Sel.nil | (refine Sel.cons zq1 ?_) | (refine Sel.app zq1 ?_) | exact Sel.one zq1))
    · refine yq36 ?_; refine yq140 ?_
      refine T.retF (Lv.fin (RV.tmp rfl rfl) ?_)
      rw [ixI_hit hi1 hix hb]
  · rw [List.take_of_length_le (by omega)] at hi1
    refine yq195 ?_
    refine T.retF (Lv.fin (RV.tmp rfl rfl) ?_)
    rw [ixI_miss hi1]
theorem containsFunc_int (l : List Int) (v : Value) (H : Hp) (hv : SlR H 1 v l.length (l.flatMap encI)) (hlb : l.length ≤ 1000000) (g : Int → Bool) (gf : FuncId) [hE : Ent Tryz.prog gf] (cap : List Value) (hg : ∀ x ∈ l, Fn Tryz.prog gf ((.int .i64 x) :: cap).toArray H (fun u _ => u = .bool (g x))) :
    Fn Tryz.prog 66 #[v, .func (.func gf) #[] cap.toArray] H (fun u _ => u = .bool (l.any g)) := by
  have hix := indexFunc_int l v H hv hlb g gf cap hg
  refine Fn.of_T (vs := [v, .func (.func gf) #[] cap.toArray]) Tryz.func66 rfl rfl fun w => ?_; refine zs3 ?_; refine yq56 ?_; refine sm ?_; refine T.callX Wanted.none rfl rfl hix ?_
  rintro _ rfl
  refine sv (PV.geq rfl rfl) ?_; refine yq0 ?_
  refine T.retF (Lv.fin (RV.tmp rfl rfl) ?_)
  rw [ixI_nonneg]
/-! ### attributes -/
def attI (l : List (ByteArray × Bool)) (nm : ByteArray) : Int := ixI (fun a => decide (a.1 = nm)) l
theorem attribute1_fn (a : ByteArray × Bool) (nm : ByteArray) (b : Nat) (H : Hp) (hb : H b = some (.cells #[.string nm] 9 (0, 0))) :
    Fn Tryz.prog 88 #[.agg #[.string a.1, .bool a.2], .pointer (some ⟨b, 0, none⟩)] H (fun u _ => u = .bool (decide (a.1 = nm))) := by
  refine Fn.of_T (vs := [.agg #[.string a.1, .bool a.2], .pointer (some ⟨b, 0, none⟩)]) Tryz.func88 rfl rfl fun w => ?_; refine zs3 ?_; (refine T.box Wanted.none rfl rfl zq15 ?_; intro b2); refine yq23 ?_; refine yq5 ?_; refine sl ?_; refine sv (PV.seql rfl rfl) ?_; refine yq0 ?_
  exact T.retF (Lv.fin (RV.tmp rfl rfl) rfl)
theorem attribute_in (l : List (ByteArray × Bool)) (v : Value) (nm : ByteArray) (H : Hp) (hv : SlR H 2 v l.length (l.flatMap encAt)) (hl : l.length ≤ 1000) :
    Fn Tryz.prog 63 #[v, .string nm] H (fun u _ => u = .int .i64 (attI l nm)) := by
  obtain ⟨ad, cap, rfl⟩ := hv.len
  refine Fn.of_T (vs := [.slice ad l.length cap, .string nm]) Tryz.func63 rfl rfl fun w => ?_; refine zs3 ?_; (refine T.box Wanted.none rfl rfl zq15 ?_; intro b3); refine yq0 ?_; refine T.freezeB (b := b3) zq1 ?_
  intro H1 hle1 hb3
  have hix := indexFunc_attr l (.slice ad l.length cap) H1 (hv.mono hle1) (by omega) (fun a => decide (a.1 = nm)) 88 [.pointer (some ⟨b3, 0, none⟩)] (fun a _ => attribute1_fn a nm b3 H1 hb3)
  refine yq2 ?_; refine sv (PV.makeFunc rfl) ?_; refine T.callV Wanted.none rfl rfl (hix) ?_; refine yq0 ?_
  exact T.retF (Lv.fin (RV.tmp rfl rfl) rfl)
theorem attribute_ref (l : List (ByteArray × Bool)) (v : Value) (nm : ByteArray) (H : Hp) (hv : SlR H 2 v l.length (l.flatMap encAt)) (hl : l.length ≤ 1000) :
    Fn Tryz.prog 36 #[v, .string nm] H (fun u _ => u = .int .i64 (attI l nm)) := by
  obtain ⟨ad, cap, rfl⟩ := hv.len
  refine Fn.of_T (vs := [.slice ad l.length cap, .string nm]) Tryz.func36 rfl rfl fun w => ?_; refine yq25 ?_; refine yq112 ?_; refine T.loopC [(8, Value.int IntKind.i64 (↑l.length : Int)), (7, Value.slice ad l.length cap), (1, Value.string nm)] zq8 9 l.length (fun i => (l.take i).any (fun a => decide (a.1 = nm)) = false) rfl rfl ?_
  rintro i ⟨hi0, hi1⟩
  by_cases hi : i < l.length
  · obtain ⟨b, off, x, rfl, hix, hsub⟩ := RowL.get encAt_len hv hi
    unfold encAt at hsub
    by_cases he : x.1 = nm
    · refine yq155 ?_; refine sy fun b6 => ?_; refine sa ?_; refine yq115 ?_; refine sm ?_; refine sv (PV.seql rfl rfl) ?_; refine yq46 ?_; refine yq140 ?_
      refine T.retF (Lv.fin (RV.tmp rfl rfl) ?_)
      rw [attI, ixI_hit hi1 hix (decide_eq_true he)]
    · refine yq155 ?_; refine sy fun b6 => ?_; refine sa ?_; refine yq115 ?_; refine sm ?_; refine sv (PV.seql rfl rfl) ?_; refine yq88 ?_; refine yq61 ?_
      exact T.nextC hi (ixI_drop hi1 hix (decide_eq_false he)) rfl zq8 (by repeat (first | exact Sel.refl _ | exact Sel.nil | (refine Sel.cons zq1 ?_) | (refine Sel.app zq1 ?_) | exact Sel.one zq1))
  · rw [List.take_of_length_le (by omega)] at hi1
    refine yq195 ?_
    refine T.retF (Lv.fin (RV.tmp rfl rfl) ?_)
    rw [attI, ixI_miss hi1]
end Go.Proofs.YthacphfjchpoaaaGreatDoor
namespace Go.Proofs.YthacphfjchpoaaaGreatDoor
open Go.RowKit

theorem RV.cellTmp {P : Program} {e : Env} {l : List (Nat × Obj)} {H : Hp} {fn : Func} {p q : Tmp} {t : TypeId} {v1 v2 : Value} (h : fn.results = #[.cell p t, .tmp q]) (hv : CV P e l H p t v1) (hv2 : e.get q = some v2) : RV P fn e l H (.tuple #[v1, v2]) := RV.mk fun X D a w ha hw => by
  unfold CV at hv
  obtain ⟨a1, g1, h1⟩ := hv
  have h1 := h1 X w hw
  simp [results, h, ha.get _ _ g1, ha.get _ _ hv2, asAddr, h1]
def inT (p : Int) (t : Rg) : Bool := decide (t.b ≤ p) && decide (p < t.e)
def labOk (n : Nat) (x : Int) : Bool := !(decide (x < -1) || decide ((n : Int) ≤ x))
def fitB (c : Cp) (m : Mt) (t : Rg) : Bool := decide (m.b < m.e) && decide (m.e ≤ t.e) && m.ls.all (labOk c.tk.length)
/-- the text that a match fits -/
def fitO (c : Cp) (m : Mt) : Option Rg := match c.tx.find? (inT m.b) with
  | none => none
  | some t => if fitB c m t then some t else none
theorem find_hit {α : Type} {g : α → Bool} {l : List α} {i : Nat} {x : α} (h : (l.take i).any g = false) (hx : l[i]? = some x) (hg : g x = true) : l.find? g = some x := by
  have hi := (List.getElem?_eq_some_iff.1 hx).1
  have e : l = l.take i ++ x :: l.drop (i + 1) := by
    have h1 : l.drop i = x :: l.drop (i + 1) := by rw [List.drop_eq_getElem_cons hi, (List.getElem?_eq_some_iff.1 hx).2]
    rw [← h1, List.take_append_drop]
  rw [e, List.find?_append, List.find?_eq_none.2 (List.any_eq_false.1 h)]
  simp [hg]
theorem find_miss {α : Type} {g : α → Bool} {l : List α} (h : l.any g = false) : l.find? g = none :=
  List.find?_eq_none.2 (List.any_eq_false.1 h)
theorem textAt_in (c : Cp) (p : Int) (H : Hp) (hc : CpL H c) : Fn Tryz.prog 65 #[cpV c, .int .i64 p] H (fun u _ => u = .int .i64 (ixI (inT p) c.tx)) := by
  obtain ⟨aa, ca, at1, ct, ax, cx, ar, cr, an, cn, ah, ch, as1, cs, hcv, ha, ht, hx, hr, hn, hh, hs⟩ := hc.open; rw [hcv]; have hla := hc.la; have hlt := hc.lt; have hlx := hc.lx; have hlr := hc.lr; have hln := hc.ln; have hlh := hc.lh; have hls := hc.ls
  refine Fn.of_T (vs := [.agg #[.slice aa c.att.length ca, .slice at1 c.tk.length ct, .slice ax c.tx.length cx, .slice ar c.rg.length cr, .slice an c.nd.length cn, .slice ah c.hd.length ch, .slice as1 c.rl.length cs], .int .i64 p]) Tryz.func65 rfl rfl fun w => ?_; refine zs3 ?_; (refine T.box Wanted.none rfl rfl zq15 ?_; intro b2); refine yq0 ?_; refine yq129 ?_; refine yq80 ?_; refine T.loopC [(9, Value.int IntKind.i64 (↑c.tx.length : Int)), (8, Value.slice ax c.tx.length cx), (1, Value.int IntKind.i64 p)] zq8 10 c.tx.length (fun i => (c.tx.take i).any (inT p) = false) rfl rfl ?_
  rintro i ⟨hi0, hi1⟩
  by_cases hi : i < c.tx.length
  · obtain ⟨bx, off, x, rfl, hix, hsub⟩ := RowL.get encRg_len hx.1 hi
    unfold encRg at hsub
    obtain ⟨am, cm, hmv⟩ := (hx.2 x (List.mem_of_getElem? hix)).1.len
    rw [hmv] at hsub
    by_cases h1 : x.b ≤ p
    · by_cases h2 : p < x.e
      · have ht : inT p x = true := by unfold inT; rw [decide_eq_true h1, decide_eq_true h2]; rfl
        refine yq155 ?_; refine sy fun b6 => ?_; refine sa ?_; refine yq115 ?_; refine sm ?_; refine sv (PV.leq rfl rfl) ?_; refine sm ?_; refine T.setT (d := 19) rfl (by omega) ?_; refine yq191 ?_; refine yq134 ?_; refine yq46 ?_; refine yq140 ?_
        refine T.retF (Lv.fin (RV.tmp rfl rfl) ?_)
        rw [ixI_hit hi1 hix ht]
      · have ht : inT p x = false := by unfold inT; rw [decide_eq_false h2]; simp
        refine yq155 ?_; refine sy fun b6 => ?_; refine sa ?_; refine yq115 ?_; refine sm ?_; refine sv (PV.leq rfl rfl) ?_; refine sm ?_; refine T.setT (d := 19) rfl (by omega) ?_; refine yq191 ?_; refine yq134 ?_; refine yq88 ?_; refine yq61 ?_
        exact T.nextC hi (ixI_drop hi1 hix ht) rfl zq8 (by repeat (first | exact Sel.refl _ | exact Sel.nil | (refine Sel.cons zq1 ?_) | (refine Sel.app zq1 ?_) | exact Sel.one zq1))
    · have ht : inT p x = false := by unfold inT; rw [decide_eq_false h1]; simp
      refine yq155 ?_; refine sy fun b6 => ?_; refine sa ?_; refine yq115 ?_; refine sm ?_; refine sv (PV.leq rfl rfl) ?_; refine sm ?_; refine T.setF (d := 19) rfl (by omega) ?_; refine yq66 ?_; refine sF ?_; refine yq92 ?_; refine yq61 ?_
      exact T.nextC hi (ixI_drop hi1 hix ht) rfl zq8 (by repeat (first | exact Sel.refl _ | exact Sel.nil | (refine Sel.cons zq1 ?_) | (refine Sel.app zq1 ?_) | exact Sel.one zq1))
  · rw [List.take_of_length_le (by omega)] at hi1
    refine yq195 ?_
    refine T.retF (Lv.fin (RV.tmp rfl rfl) ?_)
    rw [ixI_miss hi1]
theorem textOf_ref (c : Cp) (p : Int) (H : Hp) (hc : CpL H c) : Fn Tryz.prog 70 #[cpV c, .int .i64 p] H (fun u _ => u = .tuple #[rgV ((c.tx.find? (inT p)).getD zeroRg), .bool (c.tx.find? (inT p)).isSome]) := by
  obtain ⟨aa, ca, at1, ct, ax, cx, ar, cr, an, cn, ah, ch, as1, cs, hcv, ha, ht, hx, hr, hn, hh, hs⟩ := hc.open; rw [hcv]; have hla := hc.la; have hlt := hc.lt; have hlx := hc.lx; have hlr := hc.lr; have hln := hc.ln; have hlh := hc.lh; have hls := hc.ls
  refine Fn.of_T (vs := [.agg #[.slice aa c.att.length ca, .slice at1 c.tk.length ct, .slice ax c.tx.length cx, .slice ar c.rg.length cr, .slice an c.nd.length cn, .slice ah c.hd.length ch, .slice as1 c.rl.length cs], .int .i64 p]) Tryz.func70 rfl rfl fun w => ?_; refine zs3 ?_; (refine T.box Wanted.none rfl rfl zq15 ?_; intro b2); refine sy fun b4 => ?_; refine yq0 ?_; refine yq129 ?_; refine yq80 ?_; refine T.loopC [(10, Value.int IntKind.i64 (↑c.tx.length : Int)), (9, Value.slice ax c.tx.length cx), (4, Value.pointer (some { block := b4, off := 0 })), (1, Value.int IntKind.i64 p)] zq8 11 c.tx.length (fun i => (c.tx.take i).any (inT p) = false) rfl rfl ?_
  rintro i ⟨hi0, hi1⟩
  by_cases hi : i < c.tx.length
  · obtain ⟨bx, off, x, rfl, hix, hsub⟩ := RowL.get encRg_len hx.1 hi
    unfold encRg at hsub
    obtain ⟨am, cm, hmv⟩ := (hx.2 x (List.mem_of_getElem? hix)).1.len
    rw [hmv] at hsub
    by_cases h1 : x.b ≤ p
    · by_cases h2 : p < x.e
      · have ht : inT p x = true := by unfold inT; rw [decide_eq_true h1, decide_eq_true h2]; rfl
        refine yq110 ?_; refine sy fun b7 => ?_; refine yq115 ?_; refine sm ?_; refine sv (PV.leq rfl rfl) ?_; refine sm ?_; refine T.setT (d := 19) rfl (by omega) ?_; refine yq191 ?_; refine yq134 ?_; refine yq46 ?_; refine yq52 ?_; refine yq54 ?_
        refine T.retF (Lv.fin (RV.cellTmp rfl zq7 rfl) ?_)
        rw [find_hit hi1 hix ht]
        unfold rgV
        rw [Option.getD_some, hmv]
        rfl
      · have ht : inT p x = false := by unfold inT; rw [decide_eq_false h2]; simp
        refine yq110 ?_; refine sy fun b7 => ?_; refine yq115 ?_; refine sm ?_; refine sv (PV.leq rfl rfl) ?_; refine sm ?_; refine T.setT (d := 19) rfl (by omega) ?_; refine yq191 ?_; refine yq134 ?_; refine yq88 ?_; refine yq61 ?_
        exact T.nextC hi (ixI_drop hi1 hix ht) rfl zq8 (by repeat (first | exact Sel.refl _ | exact Sel.nil | (refine Sel.cons zq1 ?_) | (refine Sel.app zq1 ?_) | exact Sel.one zq1))
    · have ht : inT p x = false := by unfold inT; rw [decide_eq_false h1]; simp
      refine yq110 ?_; refine sy fun b7 => ?_; refine yq115 ?_; refine sm ?_; refine sv (PV.leq rfl rfl) ?_; refine sm ?_; refine T.setF (d := 19) rfl (by omega) ?_; refine yq66 ?_; refine sF ?_; refine yq92 ?_; refine yq61 ?_
      exact T.nextC hi (ixI_drop hi1 hix ht) rfl zq8 (by repeat (first | exact Sel.refl _ | exact Sel.nil | (refine Sel.cons zq1 ?_) | (refine Sel.app zq1 ?_) | exact Sel.one zq1))
  · rw [List.take_of_length_le (by omega)] at hi1
    refine yq74 ?_; refine yq163 ?_; refine yq54 ?_
    refine T.retF (Lv.fin (RV.cellTmp rfl zq7 rfl) ?_)
    rw [find_miss hi1]
    rfl
theorem fits1_fn (c : Cp) (x : Int) (b : Nat) (H : Hp) (hc : CpL H c) (hb : H b = some (.cells (cpC c).toArray 32 (0, 0))) :
    Fn Tryz.prog 67 #[.int .i64 x, .pointer (some ⟨b, 0, none⟩)] H (fun u _ => u = .bool (!labOk c.tk.length x)) := by
  obtain ⟨at1, ct, hvt⟩ := hc.t.len
  unfold cpC at hb
  rw [hvt] at hb
  refine Fn.of_T (vs := [.int .i64 x, .pointer (some ⟨b, 0, none⟩)]) Tryz.func67 rfl rfl fun w => ?_
  have hl : (!labOk c.tk.length x) = (decide (x < -1) || decide ((c.tk.length : Int) ≤ x)) := by unfold labOk; simp
  by_cases h1 : x < -1
  · refine zs3 ?_; refine yq56 ?_; refine yq49 ?_; refine T.setT (d := 6) rfl (by omega) ?_; refine yq143 ?_; refine sT ?_; refine yq0 ?_
    exact T.retF (Lv.fin (RV.tmp rfl rfl) (by rw [hl, decide_eq_true h1]; rfl))
  · refine zs3 ?_; refine yq56 ?_; refine yq49 ?_; refine T.setF (d := 6) rfl (by omega) ?_; refine gm ?_; refine yq96 ?_; refine gv (PV.geq rfl rfl) ?_; refine yq118 ?_
    exact T.retF (Lv.fin (RV.tmp rfl rfl) (by rw [hl, decide_eq_false h1]; rfl))
theorem fits_ref (c : Cp) (m : Mt) (H : Hp) (hc : CpL H c) (hm : LabOk H m) (hl : m.ls.length ≤ 1000) : Fn Tryz.prog 38 #[cpV c, mtV m] H (fun u _ => u = .bool (fitO c m).isSome) := by
  have hto := textOf_ref c m.b H hc
  obtain ⟨al, cl, hmv⟩ := hm.1.len
  have hml := hm.1
  rw [hmv] at hml
  revert hto
  obtain ⟨aa, ca, at1, ct, ax, cx, ar, cr, an, cn, ah, ch, as1, cs, hcv, ha, ht, hx, hr, hn, hh, hs⟩ := hc.open; rw [hcv]; have hla := hc.la; have hlt := hc.lt; have hlx := hc.lx; have hlr := hc.lr; have hln := hc.ln; have hlh := hc.lh; have hls := hc.ls
  intro hto
  unfold mtV
  rw [hmv]
  refine Fn.of_T (vs := [.agg #[.slice aa c.att.length ca, .slice at1 c.tk.length ct, .slice ax c.tx.length cx, .slice ar c.rg.length cr, .slice an c.nd.length cn, .slice ah c.hd.length ch, .slice as1 c.rl.length cs], .agg #[.int .i64 m.b, .int .i64 m.e, .slice al m.ls.length cl]]) Tryz.func38 rfl rfl fun w => ?_
  cases hfd : c.tx.find? (inT m.b) with
  | none =>
    rw [hfd] at hto
    have hf : fitO c m = none := by unfold fitO; rw [hfd]
    change Fn _ _ _ _ (fun u _ => u = .tuple #[.agg #[.string (bs []), .int .i64 0, .int .i64 0, .slice none 0 0], .bool false]) at hto
    refine zs3 ?_; (refine T.box Wanted.none rfl rfl zq15 ?_; intro b2); (refine T.box Wanted.none rfl rfl zq15 ?_; intro b3); refine yq95 ?_; refine yq5 ?_; refine T.callV Wanted.none rfl rfl (hto) ?_; refine yq146 ?_; refine sy fun b5 => ?_; refine yq54 ?_; refine yq14 ?_; refine yq107 ?_; refine yq143 ?_; refine yq141 ?_; refine yq143 ?_; refine yq157 ?_; refine yq25 ?_
    exact T.retF (Lv.fin (RV.tmp rfl rfl) (by rw [hf]; rfl))
  | some t =>
    have hmem := List.mem_of_find?_eq_some hfd
    obtain ⟨am, cm, hkv⟩ := (hx.2 t hmem).1.len
    have hf : fitO c m = if fitB c m t then some t else none := by unfold fitO; rw [hfd]
    rw [hfd, Option.getD_some] at hto
    unfold rgV at hto
    rw [hkv] at hto
    change Fn _ _ _ _ (fun u _ => u = .tuple #[.agg #[.string t.ty, .int .i64 t.b, .int .i64 t.e, .slice am t.ks.length cm], .bool true]) at hto
    by_cases he : m.e ≤ m.b
    · rw [show fitB c m t = false by unfold fitB; rw [decide_eq_false (by omega : ¬ m.b < m.e)]; rfl, if_neg (by simp)] at hf
      refine zs3 ?_; (refine T.box Wanted.none rfl rfl zq15 ?_; intro b2); (refine T.box Wanted.none rfl rfl zq15 ?_; intro b3); refine yq95 ?_; refine yq5 ?_; refine T.callV Wanted.none rfl rfl (hto) ?_; refine yq146 ?_; refine sy fun b5 => ?_; refine yq54 ?_; refine yq14 ?_; refine yq107 ?_; refine yq161 ?_; refine gv (PV.geq rfl rfl) ?_; refine yq90 ?_; refine T.setT (d := 25) rfl (by omega) ?_; refine yq143 ?_; refine yq157 ?_; refine yq25 ?_
      exact T.retF (Lv.fin (RV.tmp rfl rfl) (by rw [hf]; rfl))
    · by_cases he2 : t.e < m.e
      · rw [show fitB c m t = false by unfold fitB; rw [decide_eq_false (by omega : ¬ m.e ≤ t.e)]; simp, if_neg (by simp)] at hf
        refine zs3 ?_; (refine T.box Wanted.none rfl rfl zq15 ?_; intro b2); (refine T.box Wanted.none rfl rfl zq15 ?_; intro b3); refine yq95 ?_; refine yq5 ?_; refine T.callV Wanted.none rfl rfl (hto) ?_; refine yq146 ?_; refine sy fun b5 => ?_; refine yq54 ?_; refine yq14 ?_; refine yq107 ?_; refine yq161 ?_; refine gv (PV.geq rfl rfl) ?_; refine yq90 ?_; refine T.setF (d := 25) rfl (by omega) ?_; refine yq161 ?_; refine gv (PV.gtr rfl rfl) ?_; refine sF ?_; refine yq46 ?_; refine yq25 ?_
        exact T.retF (Lv.fin (RV.tmp rfl rfl) (by rw [hf]; rfl))
      · have hfb : fitB c m t = m.ls.all (labOk c.tk.length) := by unfold fitB; rw [decide_eq_true (by omega : m.b < m.e), decide_eq_true (by omega : m.e ≤ t.e)]; rfl
        rw [hfb] at hf
        refine zs3 ?_; (refine T.box Wanted.none rfl rfl zq15 ?_; intro b2); (refine T.box Wanted.none rfl rfl zq15 ?_; intro b3); refine yq95 ?_; refine yq5 ?_; refine T.callV Wanted.none rfl rfl (hto) ?_; refine yq146 ?_; refine sy fun b5 => ?_; refine yq54 ?_; refine yq14 ?_; refine yq107 ?_; refine yq161 ?_; refine gv (PV.geq rfl rfl) ?_; refine yq90 ?_; refine T.setF (d := 25) rfl (by omega) ?_; refine yq161 ?_; refine gv (PV.gtr rfl rfl) ?_; refine sF ?_; refine yq88 ?_; refine sq ?_; refine zs3 ?_
        refine yq106 ?_; refine yq80 ?_; refine T.loopC [(34, Value.int IntKind.i64 (↑m.ls.length : Int)), (33, Value.slice al m.ls.length cl), (2, Value.pointer (some { block := b2, off := 0 }))] zq8 35 m.ls.length (fun i => (m.ls.take i).all (labOk c.tk.length) = true) rfl rfl ?_
        rintro i ⟨hi0, hi1⟩
        by_cases hi : i < m.ls.length
        · obtain ⟨x, hix⟩ : ∃ x, m.ls[i]? = some x := ⟨_, List.getElem?_eq_getElem hi⟩
          obtain ⟨b1, off1, rfl, hsub⟩ := hml.intAt hix
          by_cases h1 : x < -1
          · have hn : m.ls.all (labOk c.tk.length) = false := List.all_eq_false.2 ⟨x, List.mem_of_getElem? hix, by unfold labOk; simp; omega⟩
            rw [hn, if_neg (by simp)] at hf
            refine yq82 ?_; refine yq15 ?_; refine yq56 ?_; refine yq49 ?_; refine T.setT (d := 41) rfl (by omega) ?_; refine yq143 ?_; refine yq157 ?_; refine yq25 ?_
            exact T.retF (Lv.fin (RV.tmp rfl rfl) (by rw [hf]; rfl))
          · by_cases h2 : (c.tk.length : Int) ≤ x
            · have hn : m.ls.all (labOk c.tk.length) = false := List.all_eq_false.2 ⟨x, List.mem_of_getElem? hix, by unfold labOk; simp; omega⟩
              rw [hn, if_neg (by simp)] at hf
              refine yq82 ?_; refine yq15 ?_; refine yq56 ?_; refine yq49 ?_; refine T.setF (d := 41) rfl (by omega) ?_; refine gm ?_; refine yq96 ?_; refine gv (PV.geq rfl rfl) ?_; refine sF ?_; refine yq46 ?_; refine yq25 ?_
              exact T.retF (Lv.fin (RV.tmp rfl rfl) (by rw [hf]; rfl))
            · have hst : (m.ls.take (i + 1)).all (labOk c.tk.length) = true := by
                rw [List.take_add_one, hix, List.all_append, hi1]
                show (labOk c.tk.length x && true) = true
                unfold labOk
                rw [decide_eq_false h1, decide_eq_false h2]
                rfl
              refine yq82 ?_; refine yq15 ?_; refine yq56 ?_; refine yq49 ?_; refine T.setF (d := 41) rfl (by omega) ?_; refine gm ?_; refine yq96 ?_; refine gv (PV.geq rfl rfl) ?_; refine sF ?_; refine yq88 ?_; refine yq61 ?_
              exact T.nextC hi hst rfl zq8 (by repeat (first | exact Sel.refl _ | exact Sel.nil | (refine Sel.cons zq1 ?_) | (refine Sel.app zq1 ?_) | exact Sel.one zq1))
        · rw [List.take_of_length_le (by omega)] at hi1
          rw [hi1, if_pos rfl] at hf
          refine yq195 ?_
          exact T.retF (Lv.fin (RV.tmp rfl rfl) (by rw [hf]; rfl))
end Go.Proofs.YthacphfjchpoaaaGreatDoor
namespace Go.Proofs.YthacphfjchpoaaaGreatDoor
open Go.RowKit

def encU (u : U) : List Value := [.agg #[.int .i32 (u.r : Int), .int .i64 (u.at_ : Int), .int .i64 (u.sz : Int)]]

structure UnG where
  n : Nat
  p : Nat
  k : Nat
  r : Int
  at_ : Int
  sz : Int
  lc : List (Nat × Obj)
  H : Hp

set_option maxHeartbeats 1000000 in
theorem units_iter (s : ByteArray) (bs : Nat) (H : Hp) (fz : Nat × Nat) (hs : s.size ≤ 140737488355328) (hbs : H bs = some (.cells #[.string s] 9 fz)) :
    Iter Tryz.prog 146 [.pointer (some ⟨bs, 0, none⟩)] H (units s) encU := by
  refine Iter.of_T Tryz.func146 rfl rfl fun x0 L I Ix hY lc Hc h0 hle => ?_
  have hbs' := hle _ _ hbs
  refine yq163 ?_; refine sy fun b3 => ?_; refine yq13 ?_; refine sq ?_; refine zs3 ?_; refine sl ?_; (refine T.rangeStr Wanted.none rfl rfl ?_; intro b8); refine yq32 ?_
  refine T.loop (γ := UnG) (fun g => I g.k g.lc g.H ∧ Hc.le g.H ∧ s.size ≤ g.p + g.n ∧ g.p ≤ s.size ∧ -1 ≤ g.at_ ∧ g.at_ ≤ g.p ∧
      ((g.at_ = -1 ∧ g.k = 0 ∧ g.p = 0 ∧ units s = unitsFrom s g.n 0) ∨ ∃ r a : Nat, g.r = r ∧ g.at_ = a ∧ a ≤ g.p ∧ (units s).drop g.k = ⟨r, a, g.p - a⟩ :: unitsFrom s g.n g.p))
    (fun g => [(0, .func (.yield L) #[] #[]), (1, .pointer (some ⟨bs, 0, none⟩)), (3, .pointer (some ⟨b3, 0, none⟩)), (8, .pointer (some ⟨b8, 0, none⟩))])
    (fun g => (b8, .stringIter s g.p) :: (b3, .cells #[.int .i32 g.r, .int .i64 g.at_, .int .i64 g.sz] 170 (0, 0)) :: g.lc)
    (fun g => g.H) (fun g => g.n) ⟨s.size, 0, 0, 0, -1, 0, lc, Hc⟩ ⟨h0, Hp.le.refl _, by simp, by simp, by simp, by simp, .inl ⟨rfl, rfl, rfl, rfl⟩⟩ zq8 zq4 rfl ?_
  rintro ⟨n, p, k, r, at_, sz, lc, Hk⟩ ⟨hI, hHk, h2, h3, h4, h5, h6⟩
  dsimp only at hI hHk h2 h3 h4 h5 h6 ⊢
  have hbk := hHk _ _ hbs'
  refine zs3 ?_
  by_cases hp : p < s.size
  · obtain ⟨d1, d2, d3⟩ := decode_width s p hp
    obtain ⟨rr, wd, hd⟩ : ∃ r wd, Utf8.decode s p = (r, wd) := ⟨_, _, rfl⟩
    rw [hd] at d1 d2 d3
    dsimp only at d1 d2 d3
    obtain ⟨n, rfl⟩ : ∃ m, n = m + 1 := ⟨n - 1, by omega⟩
    refine T.nextStr (by first | exact Wanted.none | exact Wanted.guard rfl rfl (by first | rfl | assumption)) rfl rfl (by assumption) (by assumption) zq14 ?_
    rcases h6 with ⟨rfl, rfl, rfl, h7⟩ | ⟨r, a, rfl, rfl, ha, h7⟩
    · refine sv (PV.extract rfl rfl) ?_; refine so ?_; refine sq ?_; refine T.condT rfl rfl ?_; refine T.skip ?_; refine T.block ?_; refine zs3 ?_; refine yq30 ?_; refine sa ?_; refine yq56 ?_; refine yq5 ?_; refine sv (PV.sub rfl rfl (by omega)) ?_; refine yq116 ?_; refine so ?_; refine yq73 ?_; refine yq59 ?_; refine yq66 ?_; refine sF ?_; refine yq92 ?_; refine yq81 ?_; refine sm ?_; refine sv (PV.build rfl zq12) ?_; refine yq13 ?_; refine T.blkEnd ?_
      refine T.next ⟨n, 0 + wd, 0, rr, 0, 0, lc, Hk⟩ ⟨hI, hHk, by dsimp only; omega, by dsimp only; omega, by dsimp only; omega, by dsimp only; omega, .inr ⟨rr, 0, rfl, rfl, by dsimp only; omega, ?_⟩⟩ (by dsimp only; omega) zq8 zq4 rfl
      rw [h7, unitsFrom, if_pos hp, hd]; simp
    · refine sv (PV.extract rfl rfl) ?_; refine so ?_; refine sq ?_; refine T.condT rfl rfl ?_; refine T.skip ?_; refine T.block ?_; refine zs3 ?_; refine yq30 ?_; refine sa ?_; refine yq56 ?_; refine yq5 ?_; refine sv (PV.sub rfl rfl (by omega)) ?_; refine yq116 ?_; refine so ?_; refine yq73 ?_; refine yq59 ?_; refine gm ?_; refine gv (PV.loadAll rfl zq0 (by exact rfl)) ?_; refine T.setT (d := 21) rfl (by omega) ?_
      have hk : (units s)[k]? = some ⟨r, a, p - a⟩ := by have := congrArg (fun l => l[0]?) h7; simpa using this
      have hcast : ((p - a : Nat) : Int) = (p : Int) - a := by omega
      refine T.yield (li := [_, _]) hY (Wanted.guard rfl rfl rfl) rfl rfl hk (by show _ = some [Value.agg #[.int .i32 (r : Int), .int .i64 (a : Int), .int .i64 ((p - a : Nat) : Int)]]; rw [hcast]; rfl) hI ?_ ?_
      · intro lc' H' hle' hI'
        refine gv (PV.not rfl) ?_; refine sT ?_; refine yq92 ?_; refine yq81 ?_; refine sm ?_; refine sv (PV.build rfl zq12) ?_; refine yq13 ?_; refine T.blkEnd ?_
        refine T.next ⟨n, p + wd, k + 1, rr, p, 0, lc', H'⟩ ⟨hI', hHk.trans hle', by dsimp only; omega, by dsimp only; omega, by dsimp only; omega, by dsimp only; omega, .inr ⟨rr, p, rfl, rfl, by dsimp only; omega, ?_⟩⟩ (by dsimp only; omega) zq8 zq4 rfl
        have h8 : (units s).drop (k + 1) = unitsFrom s (n + 1) p := by rw [← List.drop_drop, h7]; rfl
        dsimp only
        rw [h8, unitsFrom, if_pos hp, hd, Nat.add_sub_cancel_left]
      · intro lc' H' hle' hI'
        refine gv (PV.not rfl) ?_; refine yq157 ?_
        exact T.retI rfl lc' zq4 (hHk.trans hle') (.inr hI')
  · refine T.nextStrEnd (by first | exact Wanted.none | exact Wanted.guard rfl rfl (by first | rfl | assumption)) rfl rfl zq2 (by omega) ?_
    rcases h6 with ⟨rfl, rfl, rfl, h7⟩ | ⟨r, a, rfl, rfl, ha, h7⟩
    · refine sv (PV.extract rfl rfl) ?_; refine so ?_; refine sq ?_; refine yq142 ?_; refine zs3 ?_; refine sl ?_; refine sv (PV.lenStr rfl) ?_; refine yq5 ?_; refine sv (PV.sub rfl rfl (by omega)) ?_; refine yq116 ?_; refine zs1 ?_; refine yq5 ?_; refine sv (PV.geq rfl rfl) ?_; refine yq92 ?_
      have h0 : units s = [] := by rw [h7]; cases n <;> simp [unitsFrom, hp]
      refine T.fallI rfl lc zq4 hHk (.inl ?_)
      rw [h0]; exact hI
    · refine sv (PV.extract rfl rfl) ?_; refine so ?_; refine sq ?_; refine yq142 ?_; refine zs3 ?_; refine sl ?_; refine sv (PV.lenStr rfl) ?_; refine yq5 ?_; refine sv (PV.sub rfl rfl (by omega)) ?_; refine yq116 ?_; refine zs1 ?_; refine yq5 ?_; refine sv (PV.geq rfl rfl) ?_; refine yq36 ?_; refine yq81 ?_; refine sv (PV.loadAll rfl zq0 (by exact rfl)) ?_
      have hp0 : p = s.size := by omega
      have h8 : unitsFrom s n p = [] := by cases n <;> simp [unitsFrom, hp]
      rw [h8] at h7
      have hk : (units s)[k]? = some ⟨r, a, p - a⟩ := by have := congrArg (fun l => l[0]?) h7; simpa using this
      have hlen : (units s).length = k + 1 := by
        have := congrArg List.length h7
        simp at this
        have h9 := (List.getElem?_eq_some_iff.1 hk).1
        omega
      have hcast : ((p - a : Nat) : Int) = (s.size : Int) - a := by omega
      refine T.yield (li := [_, _]) hY Wanted.none rfl rfl hk (by show _ = some [Value.agg #[.int .i32 (r : Int), .int .i64 (a : Int), .int .i64 ((p - a : Nat) : Int)]]; rw [hcast]; rfl) hI ?_ ?_
      · intro lc' H' hle' hI'
        refine so ?_
        exact T.fallI rfl lc' zq4 (hHk.trans hle') (.inl (by rw [hlen]; exact hI'))
      · intro lc' H' hle' hI'
        refine so ?_
        exact T.fallI rfl lc' zq4 (hHk.trans hle') (.inr hI')

theorem units_fn (s : ByteArray) (H : Hp) : Fn Tryz.prog 125 #[.string s] H (fun v H' => ∃ bs, v = .func (.func 146) #[] #[.pointer (some ⟨bs, 0, none⟩)] ∧ H' bs = some (.cells #[.string s] 9 (0, 0))) := by
  refine Fn.of_T (vs := [.string s]) Tryz.func125 rfl rfl fun w => ?_; refine zs3 ?_; (refine T.box Wanted.none rfl rfl zq15 ?_; intro b1); refine yq23 ?_; refine sv (PV.makeFunc rfl) ?_; refine yq0 ?_
  refine T.retF (Lv.freeze (Lv.fin (RV.tmp rfl rfl) ⟨_, rfl, Hp.put_same⟩))

def cellsU (u : U) : List Value := [.int .i32 (u.r : Int), .int .i64 (u.at_ : Int), .int .i64 (u.sz : Int)]
theorem one_cellsU (us : List U) : ∀ v ∈ us.flatMap cellsU, v.oneCell' = true := by
  intro v hv
  obtain ⟨u, _, hu⟩ := List.mem_flatMap.1 hv
  simp [cellsU] at hu
  rcases hu with rfl | rfl | rfl <;> rfl
set_option maxHeartbeats 1000000 in
theorem list_fn (s : ByteArray) (H : Hp) (hs : s.size ≤ 20000) : Fn Tryz.prog 127 #[.string s] H (fun v H' => SlR H' 3 v (units s).length ((units s).flatMap cellsU)) := by
  refine Fn.of_T (vs := [.string s]) Tryz.func127 rfl rfl fun w => ?_; refine zs3 ?_; refine yq23 ?_; refine sy fun b3 => ?_; refine so ?_; refine yq14 ?_; refine T.call Wanted.none rfl rfl (units_fn s H) ?_
  rintro _ H1 hH1 ⟨bs, rfl, hb⟩
  refine yq32 ?_
  have hul := units_len s
  refine T.rangeFunc rfl rfl (units_iter s bs H1 _ (by omega) hb) (fun _ => rfl) rfl (by decide)
    (fun n lk _ => ∃ v lv, lk = (b3, .cells #[v] 172 (0, 0)) :: lv ∧ Vec 170 3 v lv n (((units s).take n).flatMap cellsU))
    (fun c lk _ => False)
    ⟨_, [], rfl, Vec.nil _ _⟩ ?_ ?_ ?_
  · rintro n x lk Hk hx ⟨v, lv, rfl, hv⟩ hle L rec lo hrec
    have hn := (List.getElem?_eq_some_iff.1 hx).1
    obtain ⟨ad, cap, rfl⟩ := hv.val
    refine sr ?_; refine sy fun b4 => ?_; refine yq13 ?_; refine T.begin (lk := _ :: _ :: lv) hrec ?_; refine T.block ?_; refine sr ?_; refine sl ?_; refine sv (PV.loadAll rfl zq0 (by exact rfl)) ?_; (refine T.buildSlice Wanted.none rfl rfl zq11 (by exact rfl) (by exact rfl) ?_; intro b10); refine T.append [_, _, _] Wanted.none rfl rfl rfl hv (Src.cells (m := 1) (ys := cellsU x) (.own zq2) rfl rfl) (fun v hv => one_cellsU [x] v (by simpa using hv)) (by omega) ?_
    intro v' lv' hv' hnil
    obtain ⟨ad', cap', rfl⟩ := hv'.val
    refine T.store1 Wanted.none rfl rfl rfl zq14 zq13 ?_; refine so ?_; refine T.blkEnd ?_
    refine T.roundEnd (_ :: lv') zq4 (Hp.le.refl _) ⟨_, lv', rfl, ?_⟩
    rw [List.take_add_one, hx]
    simpa using hv'
  · rintro r lk Hk hle ⟨v, lv, rfl, hv⟩
    obtain ⟨ad, cap, rfl⟩ := hv.val
    refine T.blkEnd ?_; refine zs3 ?_; refine sl ?_; refine yq0 ?_
    rw [List.take_length] at hv
    exact T.retF (Lv.mark Upd.head (Vec.freezeLv (l' := []) hv (by rw [List.append_nil]; exact zq4) fun H' _ hsl => Lv.fin (RV.tmp rfl rfl) hsl))
  · rintro c r lk Hk hle h; exact h.elim

theorem lower_fn (r : Int) (H : Hp) (hr : 0 ≤ r ∧ r ≤ 1114111) : Fn Tryz.prog 126 #[.int .i32 r] H (fun v _ => v = .int .i32 (lowerR r)) := by
  refine Fn.of_T (vs := [.int .i32 r]) Tryz.func126 rfl rfl fun w => ?_; refine yq25 ?_; refine yq17 ?_; refine yq14 ?_; refine yq59 ?_
  refine T.splitD (d := 6) rfl (fun h0 => ?_) (fun h0 => ?_)
  · refine yq184 ?_; refine sT ?_; refine yq0 ?_
    refine T.condD rfl (fun h1 => ?_) (fun h1 => ?_)
    · refine T.skip ?_; refine sc rfl (by omega) ?_; refine yq190 ?_; refine yq0 ?_; (refine T.retF (Lv.fin (RV.tmp rfl rfl) ?_); congr 1; unfold lowerR; split <;> (try split) <;> omega)
    · refine yq2 ?_; refine yq59 ?_
      refine T.splitD (d := 12) rfl (fun h2 => ?_) (fun h2 => ?_)
      · refine yq184 ?_; refine yq141 ?_
        refine T.splitD (d := 16) rfl (fun h3 => ?_) (fun h3 => ?_)
        · refine gm ?_; refine gv (PV.neq rfl rfl) ?_; refine sT ?_; refine yq0 ?_
          refine T.condD rfl (fun h4 => ?_) (fun h4 => ?_)
          · refine T.skip ?_; refine sc rfl (by omega) ?_; refine yq190 ?_; refine yq0 ?_; (refine T.retF (Lv.fin (RV.tmp rfl rfl) ?_); congr 1; unfold lowerR; split <;> (try split) <;> omega)
          · refine yq2 ?_; refine yq59 ?_; refine T.setF (d := 22) rfl (by omega) ?_; refine yq8 ?_; refine yq90 ?_; refine yq183 ?_; refine yq81 ?_; refine yq59 ?_; refine T.setF (d := 32) rfl (by omega) ?_; refine yq183 ?_; refine yq2 ?_; refine yq59 ?_; refine T.setF (d := 41) rfl (by omega) ?_; refine yq8 ?_; refine yq118 ?_; refine yq26 ?_; refine T.blkEnd ?_; refine zs3 ?_
            refine sm ?_; refine yq0 ?_; (refine T.retF (Lv.fin (RV.tmp rfl rfl) ?_); congr 1; unfold lowerR; split <;> (try split) <;> omega)
        · refine yq183 ?_; refine yq2 ?_; refine yq59 ?_
          refine T.splitD (d := 22) rfl (fun h4 => ?_) (fun h4 => ?_)
          · refine yq184 ?_; refine yq141 ?_
            refine T.splitD (d := 26) rfl (fun h5 => ?_) (fun h5 => ?_)
            · refine gm ?_; refine gv (PV.neq rfl rfl) ?_; refine sT ?_; refine yq0 ?_
              refine T.condD rfl (fun h6 => ?_) (fun h6 => ?_)
              · refine T.skip ?_; refine sc rfl (by omega) ?_; refine yq190 ?_; refine yq0 ?_; (refine T.retF (Lv.fin (RV.tmp rfl rfl) ?_); congr 1; unfold lowerR; split <;> (try split) <;> omega)
              · refine yq81 ?_; refine yq59 ?_; refine T.setF (d := 32) rfl (by omega) ?_; refine yq183 ?_; refine yq2 ?_; refine yq59 ?_; refine T.setF (d := 41) rfl (by omega) ?_; refine yq8 ?_; refine yq118 ?_; refine yq26 ?_; refine T.blkEnd ?_; refine yq140 ?_; (refine T.retF (Lv.fin (RV.tmp rfl rfl) ?_); congr 1; unfold lowerR; split <;> (try split) <;> omega)
            · refine yq183 ?_; refine yq81 ?_; refine yq59 ?_
              refine T.splitD (d := 32) rfl (fun h6 => ?_) (fun h6 => ?_)
              · refine yq184 ?_; refine sT ?_; refine yq0 ?_
                refine T.condD rfl (fun h7 => ?_) (fun h7 => ?_)
                · refine yq190 ?_; refine yq0 ?_; (refine T.retF (Lv.fin (RV.tmp rfl rfl) ?_); congr 1; unfold lowerR; split <;> (try split) <;> omega)
                · refine yq2 ?_; refine yq59 ?_; refine T.setT (d := 41) rfl (by omega) ?_; refine yq184 ?_; refine sT ?_; refine yq0 ?_; refine yq22 ?_; refine T.blkEnd ?_; refine yq140 ?_; (refine T.retF (Lv.fin (RV.tmp rfl rfl) ?_); congr 1; unfold lowerR; split <;> (try split) <;> omega)
              · refine yq183 ?_; refine yq2 ?_; refine yq59 ?_
                refine T.splitD (d := 41) rfl (fun h7 => ?_) (fun h7 => ?_)
                · refine yq184 ?_; refine sT ?_; refine yq0 ?_; refine sc rfl (by omega) ?_; refine yq190 ?_; refine yq0 ?_; (refine T.retF (Lv.fin (RV.tmp rfl rfl) ?_); congr 1; unfold lowerR; split <;> (try split) <;> omega)
                · refine yq8 ?_; refine yq118 ?_; refine yq26 ?_; refine T.blkEnd ?_; refine yq140 ?_; (refine T.retF (Lv.fin (RV.tmp rfl rfl) ?_); congr 1; unfold lowerR; split <;> (try split) <;> omega)
          · refine yq8 ?_; refine yq90 ?_; refine yq183 ?_; refine yq81 ?_; refine yq59 ?_; refine T.setF (d := 32) rfl (by omega) ?_; refine yq183 ?_; refine yq2 ?_; refine yq59 ?_; refine T.setF (d := 41) rfl (by omega) ?_; refine yq8 ?_; refine yq118 ?_; refine yq26 ?_; refine T.blkEnd ?_; refine yq140 ?_; (refine T.retF (Lv.fin (RV.tmp rfl rfl) ?_); congr 1; unfold lowerR; split <;> (try split) <;> omega)
      · refine yq8 ?_; refine yq90 ?_; refine yq183 ?_; refine yq2 ?_; refine yq59 ?_; refine T.setF (d := 22) rfl (by omega) ?_; refine yq8 ?_; refine yq90 ?_; refine yq183 ?_; refine yq81 ?_; refine yq59 ?_; refine T.setF (d := 32) rfl (by omega) ?_; refine yq183 ?_; refine yq2 ?_; refine yq59 ?_
        refine T.setF (d := 41) rfl (by omega) ?_; refine yq8 ?_; refine yq118 ?_; refine yq26 ?_; refine T.blkEnd ?_; refine yq140 ?_; (refine T.retF (Lv.fin (RV.tmp rfl rfl) ?_); congr 1; unfold lowerR; split <;> (try split) <;> omega)
  · refine yq183 ?_; refine yq2 ?_; refine yq59 ?_; refine T.setF (d := 12) rfl (by omega) ?_; refine yq8 ?_; refine yq90 ?_; refine yq183 ?_; refine yq2 ?_; refine yq59 ?_; refine T.setF (d := 22) rfl (by omega) ?_; refine yq8 ?_; refine yq90 ?_; refine yq183 ?_; refine yq81 ?_; refine yq59 ?_
    refine T.setF (d := 32) rfl (by omega) ?_; refine yq183 ?_; refine yq2 ?_; refine yq59 ?_; refine T.setF (d := 41) rfl (by omega) ?_; refine yq8 ?_; refine yq118 ?_; refine yq26 ?_; refine T.blkEnd ?_; refine yq140 ?_; (refine T.retF (Lv.fin (RV.tmp rfl rfl) ?_); congr 1; unfold lowerR; split <;> (try split) <;> omega)
theorem one_bytesV (l : List UInt8) : ∀ v ∈ bytesV l, v.oneCell' = true := by
  intro v hv
  obtain ⟨b, _, rfl⟩ := List.mem_map.1 hv
  rfl
theorem bytesV_append (a b : List UInt8) : bytesV (a ++ b) = bytesV a ++ bytesV b := by simp [bytesV]
theorem Src.bytes {P : Program} {l : List (Nat × Obj)} {H : Hp} {bs : List UInt8} : Src P l H 1 (.string ⟨bs.toArray⟩) bs.length (bytesV bs) := by
  have := Src.str (P := P) (l := l) (H := H) (s := ⟨bs.toArray⟩)
  simpa [ByteArray.size] using this
theorem fold_len (s : ByteArray) (n : Nat) (hs : s.size ≤ 20000) : (((units s).take n).flatMap (foldU s)).length ≤ 4 * 20000 := by
  have hul := units_len s
  have := flat_le (f := foldU s) (m := 4) ((units s).take n) (fun y hy => foldU_le (List.mem_of_mem_take hy))
  have h2 : ((units s).take n).length ≤ 20000 := by rw [List.length_take]; omega
  omega

set_option maxHeartbeats 1000000 in
theorem fold_fn (s : ByteArray) (H : Hp) (hs : s.size ≤ 20000) : Fn Tryz.prog 95 #[.string s] H (fun v _ => v = .string ⟨(foldL s).toArray⟩) := by
  refine Fn.of_T (vs := [.string s]) Tryz.func95 rfl rfl fun w => ?_; refine zs3 ?_; (refine T.box Wanted.none rfl rfl zq15 ?_; intro b1); refine yq23 ?_; refine sl ?_; refine sv (PV.lenStr rfl) ?_; refine T.makeSlice0 Wanted.none rfl rfl rfl (by omega) ?_
  intro v0 lv0 hv0 hnn
  refine T.perm List.perm_append_comm ?_
  obtain ⟨ad0, cap0, rfl⟩ := hv0.val
  refine sy fun b3 => ?_; refine T.store1 Wanted.none rfl rfl rfl zq14 zq13 ?_; refine so ?_; refine sq ?_; refine zs3 ?_; refine sl ?_; refine T.call Wanted.none rfl rfl (units_fn s H) ?_
  rintro _ H1 hH1 ⟨bs, rfl, hb⟩
  refine yq32 ?_
  have hul := units_len s
  refine T.rangeFunc rfl rfl (units_iter s bs H1 _ (by omega) hb) (fun _ => rfl) rfl (by decide)
    (fun n lk _ => ∃ v lv, lk = (b3, .cells #[v] 126 (0, 0)) :: (b1, .cells #[.string s] 9 (0, 0)) :: lv ∧ Vec 5 1 v lv (((units s).take n).flatMap (foldU s)).length (bytesV (((units s).take n).flatMap (foldU s))))
    (fun c lk _ => False)
    ⟨_, lv0, rfl, hv0⟩ ?_ ?_ ?_
  · rintro n x lk Hk hx ⟨v, lv, rfl, hv⟩ hle L rec lo hrec
    have hn := (List.getElem?_eq_some_iff.1 hx).1
    have hm := List.mem_of_getElem? hx
    obtain ⟨m1, m2, m3, m4, m5⟩ := units_mem hm
    have hlen := fold_len s n hs
    have hel := encode_le (lowerR x.r)
    have hpl := piece_le s x
    obtain ⟨ad, cap, rfl⟩ := hv.val
    have hnx : ((units s).take (n + 1)).flatMap (foldU s) = ((units s).take n).flatMap (foldU s) ++ foldU s x := by
      rw [List.take_add_one, hx]; simp
    refine sr ?_; refine sy fun b4 => ?_; refine yq13 ?_; refine T.begin (lk := _ :: _ :: _ :: lv) hrec ?_; refine T.block ?_; refine yq41 ?_; refine T.callV Wanted.none rfl rfl (lower_fn x.r Hk (by omega)) ?_; refine yq56 ?_; refine yq5 ?_; refine sv (PV.neq rfl rfl) ?_; refine so ?_
    refine T.condD rfl (fun hc => ?_) (fun hc => ?_)
    · have hfu : foldU s x = (Utf8.encode (lowerR x.r)).data.toList := if_pos hc
      refine sr ?_; refine sl ?_; refine sm ?_; refine sv (PV.convRune rfl) ?_; refine T.append [_, _, _] Wanted.none rfl rfl rfl hv Src.str (one_bytesV _) (by omega) ?_
      intro v' lv' hv' hnil
      obtain ⟨ad', cap', rfl⟩ := hv'.val
      refine T.store1 Wanted.none rfl rfl rfl zq14 zq13 ?_; refine so ?_; refine T.blkEnd ?_
      refine T.roundEnd (_ :: _ :: lv') zq4 (Hp.le.refl _) ⟨_, lv', rfl, ?_⟩
      rw [hnx, hfu, bytesV_append, List.length_append]
      simpa using hv'
    · have hfu : foldU s x = piece s x := if_neg hc
      refine T.regionT 10 (by kernel_rfl) ?_; refine TQ.pv (PV.load1 rfl zq0 rfl) Wanted.none rfl rfl ?_; refine TQ.pv (PV.load1 rfl zq0 rfl) Wanted.none rfl rfl ?_; refine yq6 ?_; refine yq6 ?_; refine yq6 ?_; refine TQ.pv (PV.add rfl rfl (by omega)) Wanted.none rfl rfl ?_; refine TQ.pv (PV.sliceStr rfl rfl rfl (by omega)) Wanted.none rfl rfl ?_; refine TQ.nil ?_
      rw [extract_piece]
      refine T.append [_, _, _] Wanted.none rfl rfl rfl hv Src.bytes (one_bytesV _) (by omega) ?_
      intro v' lv' hv' hnil
      obtain ⟨ad', cap', rfl⟩ := hv'.val
      refine T.store1 Wanted.none rfl rfl rfl zq14 zq13 ?_; refine so ?_; refine T.blkEnd ?_
      refine T.roundEnd (_ :: _ :: lv') zq4 (Hp.le.refl _) ⟨_, lv', rfl, ?_⟩
      rw [hnx, hfu, bytesV_append, List.length_append]
      exact hv'
  · rintro r lk Hk hle ⟨v, lv, rfl, hv⟩
    rw [List.take_length] at hv
    obtain ⟨ad, cap, rfl⟩ := hv.val
    refine T.blkEnd ?_; refine zs3 ?_; refine sl ?_; refine sv (PV.bytesStr rfl (Vec.srcE [_, _, _] hv) ⟨_, _, rfl⟩) ?_; refine yq0 ?_
    exact T.retF (Lv.mark Upd.head (Lv.fin (RV.tmp rfl rfl) rfl))
  · rintro c r lk Hk hle h; exact h.elim

theorem cellsU_len (u : U) : (cellsU u).length = 3 := rfl
/-- the last k units' bytes, from behind -/
theorem rev_drop {s : ByteArray} {i : Nat} {x : U} (hx : (units s)[i]? = some x) : ((units s).drop i).reverse.flatMap (piece s) = ((units s).drop (i + 1)).reverse.flatMap (piece s) ++ piece s x := by
  have hi := (List.getElem?_eq_some_iff.1 hx).1
  rw [List.drop_eq_getElem_cons hi, (List.getElem?_eq_some_iff.1 hx).2]
  simp
theorem rev_len (s : ByteArray) (n : Nat) (hs : s.size ≤ 20000) : (((units s).drop n).reverse.flatMap (piece s)).length ≤ 4 * 20000 := by
  have hul := units_len s
  have := flat_le (f := piece s) (m := 4) ((units s).drop n).reverse (fun y hy => by
    have hy := List.mem_of_mem_drop (List.mem_reverse.1 hy)
    have := piece_le s y; have := (units_mem hy).2.2.1; omega)
  have h2 : ((units s).drop n).reverse.length ≤ 20000 := by rw [List.length_reverse, List.length_drop]; omega
  omega
structure RvG where
  i : Nat
  v : Value
  lv : List (Nat × Obj)
set_option maxHeartbeats 1000000 in
theorem reverse_fn (s : ByteArray) (H : Hp) (hs : s.size ≤ 20000) : Fn Tryz.prog 96 #[.string s] H (fun v _ => v = .string ⟨(revL s).toArray⟩) := by
  refine Fn.of_T (vs := [.string s]) Tryz.func96 rfl rfl fun w => ?_; refine zs3 ?_; refine yq56 ?_; refine T.call Wanted.none rfl rfl (list_fn s H hs) ?_
  intro vl H1 hH1 hsl
  have hul := units_len s
  obtain ⟨adl, capl, rfl⟩ := hsl.len
  refine yq56 ?_; refine sv (PV.lenStr rfl) ?_; refine T.makeSlice0 Wanted.none rfl rfl rfl (by omega) ?_
  intro v0 lv0 hv0 hnn
  refine yq0 ?_; refine yq27 ?_; refine yq77 ?_; refine T.block ?_
  refine T.loop (γ := RvG) (fun g => g.i ≤ (units s).length ∧ Vec 5 1 g.v g.lv (((units s).drop g.i).reverse.flatMap (piece s)).length (bytesV (((units s).drop g.i).reverse.flatMap (piece s))))
    (fun g => [(0, .string s), (3, .slice adl (units s).length capl), (4, g.v), (5, .int .i64 ((g.i : Int) - 1)), (2, .string ⟨#[]⟩)])
    (fun g => g.lv) (fun _ => H1) (fun g => g.i) ⟨(units s).length, v0, lv0⟩ ⟨by simp, by simpa [bytesV] using hv0⟩ zq8 zq4 rfl ?_
  rintro ⟨i, v, lv⟩ ⟨hi, hv⟩
  dsimp only at hi hv ⊢
  obtain ⟨ad, cap, rfl⟩ := hv.val
  refine yq14 ?_; refine sv (PV.geq rfl rfl) ?_; refine so ?_
  refine T.condD rfl (fun hc => ?_) (fun hc => ?_)
  · obtain ⟨i, rfl⟩ : ∃ m, i = m + 1 := ⟨i - 1, by omega⟩
    have hx := List.getElem?_eq_getElem (l := units s) (i := i) (by omega)
    obtain ⟨x, hxe⟩ : ∃ x, (units s)[i] = x := ⟨_, rfl⟩
    rw [hxe] at hx
    obtain ⟨m1, m2, m3, m4, m5⟩ := units_mem (List.mem_of_getElem? hx)
    have hrl := rev_len s (i + 1) hs
    have hpl := piece_le s x
    obtain ⟨b, off, cap', hve, hsub⟩ := hsl.elem (i := i) (by omega) (flat_elem cellsU_len (units s) i x hx)
    injection hve with e1 e2 e3
    subst e1 e3
    have hcast : ((i + 1 : Nat) : Int) - 1 = (i : Int) := by omega
    rw [hcast]
    refine T.skip ?_; refine yq17 ?_; refine T.regionT 19 (by kernel_rfl) ?_; refine yq150 ?_; refine yq159 ?_; refine yq21 ?_; refine yq159 ?_; refine yq21 ?_; refine yq159 ?_; refine yq21 ?_; refine TQ.pv (PV.add rfl rfl (by omega)) Wanted.none rfl rfl ?_; refine TQ.pv (PV.sliceStr rfl rfl rfl (by omega)) Wanted.none rfl rfl ?_; refine TQ.nil ?_
    rw [extract_piece]
    refine T.appendE [] Wanted.none rfl rfl rfl hv Src.bytes (one_bytesV _) (by omega) ?_
    intro v' lv' hv' hnil
    obtain ⟨ad', cap', rfl⟩ := hv'.val
    refine yq0 ?_; refine yq35 ?_; refine sm ?_; refine yq77 ?_
    refine T.next ⟨i, _, lv'⟩ ⟨by dsimp only; omega, ?_⟩ (by dsimp only; omega) zq8 zq4 rfl
    dsimp only
    rw [rev_drop hx, List.length_append, bytesV_append]
    exact hv'
  · obtain rfl : i = 0 := by omega
    rw [List.drop_zero] at hv
    refine T.exit rfl ?_; refine yq2 ?_; refine sv (PV.bytesStr rfl (Vec.srcE [] hv) ⟨_, _, rfl⟩) ?_; refine yq0 ?_
    exact T.retF (Lv.fin (RV.tmp rfl rfl) rfl)

end Go.Proofs.YthacphfjchpoaaaGreatDoor
namespace Go.Proofs.YthacphfjchpoaaaGreatDoor
open Go.RowKit

theorem foldRune_fn (r : Int) (H : Hp) (hr : 0 ≤ r ∧ r ≤ 1114111) : Fn Tryz.prog 131 #[.int .i32 r] H (fun v _ => v = .int .i32 (lowerR r)) := by
  refine Fn.of_T (vs := [.int .i32 r]) Tryz.func131 rfl rfl fun w => ?_; refine yq25 ?_; refine yq17 ?_; refine yq14 ?_; refine yq59 ?_
  refine T.splitD (d := 6) rfl (fun h0 => ?_) (fun h0 => ?_)
  · refine yq184 ?_; refine sT ?_; refine yq0 ?_
    refine T.condD rfl (fun h1 => ?_) (fun h1 => ?_)
    · refine T.skip ?_; refine sc rfl (by omega) ?_; refine yq190 ?_; refine yq0 ?_; (refine T.retF (Lv.fin (RV.tmp rfl rfl) ?_); congr 1; unfold lowerR; split <;> (try split) <;> omega)
    · refine yq2 ?_; refine yq59 ?_
      refine T.splitD (d := 12) rfl (fun h2 => ?_) (fun h2 => ?_)
      · refine yq184 ?_; refine yq141 ?_
        refine T.splitD (d := 16) rfl (fun h3 => ?_) (fun h3 => ?_)
        · refine gm ?_; refine gv (PV.neq rfl rfl) ?_; refine sT ?_; refine yq0 ?_
          refine T.condD rfl (fun h4 => ?_) (fun h4 => ?_)
          · refine T.skip ?_; refine sc rfl (by omega) ?_; refine yq190 ?_; refine yq0 ?_; (refine T.retF (Lv.fin (RV.tmp rfl rfl) ?_); congr 1; unfold lowerR; split <;> (try split) <;> omega)
          · refine yq2 ?_; refine yq59 ?_; refine T.setF (d := 22) rfl (by omega) ?_; refine yq8 ?_; refine yq90 ?_; refine yq183 ?_; refine yq81 ?_; refine yq59 ?_; refine T.setF (d := 32) rfl (by omega) ?_; refine yq183 ?_; refine yq2 ?_; refine yq59 ?_; refine T.setF (d := 41) rfl (by omega) ?_; refine yq8 ?_; refine yq118 ?_; refine yq26 ?_; refine T.blkEnd ?_; refine zs3 ?_
            refine sm ?_; refine yq0 ?_; (refine T.retF (Lv.fin (RV.tmp rfl rfl) ?_); congr 1; unfold lowerR; split <;> (try split) <;> omega)
        · refine yq183 ?_; refine yq2 ?_; refine yq59 ?_
          refine T.splitD (d := 22) rfl (fun h4 => ?_) (fun h4 => ?_)
          · refine yq184 ?_; refine yq141 ?_
            refine T.splitD (d := 26) rfl (fun h5 => ?_) (fun h5 => ?_)
            · refine gm ?_; refine gv (PV.neq rfl rfl) ?_; refine sT ?_; refine yq0 ?_
              refine T.condD rfl (fun h6 => ?_) (fun h6 => ?_)
              · refine T.skip ?_; refine sc rfl (by omega) ?_; refine yq190 ?_; refine yq0 ?_; (refine T.retF (Lv.fin (RV.tmp rfl rfl) ?_); congr 1; unfold lowerR; split <;> (try split) <;> omega)
              · refine yq81 ?_; refine yq59 ?_; refine T.setF (d := 32) rfl (by omega) ?_; refine yq183 ?_; refine yq2 ?_; refine yq59 ?_; refine T.setF (d := 41) rfl (by omega) ?_; refine yq8 ?_; refine yq118 ?_; refine yq26 ?_; refine T.blkEnd ?_; refine yq140 ?_; (refine T.retF (Lv.fin (RV.tmp rfl rfl) ?_); congr 1; unfold lowerR; split <;> (try split) <;> omega)
            · refine yq183 ?_; refine yq81 ?_; refine yq59 ?_
              refine T.splitD (d := 32) rfl (fun h6 => ?_) (fun h6 => ?_)
              · refine yq184 ?_; refine sT ?_; refine yq0 ?_
                refine T.condD rfl (fun h7 => ?_) (fun h7 => ?_)
                · refine yq190 ?_; refine yq0 ?_; (refine T.retF (Lv.fin (RV.tmp rfl rfl) ?_); congr 1; unfold lowerR; split <;> (try split) <;> omega)
                · refine yq2 ?_; refine yq59 ?_; refine T.setT (d := 41) rfl (by omega) ?_; refine yq184 ?_; refine sT ?_; refine yq0 ?_; refine yq22 ?_; refine T.blkEnd ?_; refine yq140 ?_; (refine T.retF (Lv.fin (RV.tmp rfl rfl) ?_); congr 1; unfold lowerR; split <;> (try split) <;> omega)
              · refine yq183 ?_; refine yq2 ?_; refine yq59 ?_
                refine T.splitD (d := 41) rfl (fun h7 => ?_) (fun h7 => ?_)
                · refine yq184 ?_; refine sT ?_; refine yq0 ?_; refine sc rfl (by omega) ?_; refine yq190 ?_; refine yq0 ?_; (refine T.retF (Lv.fin (RV.tmp rfl rfl) ?_); congr 1; unfold lowerR; split <;> (try split) <;> omega)
                · refine yq8 ?_; refine yq118 ?_; refine yq26 ?_; refine T.blkEnd ?_; refine yq140 ?_; (refine T.retF (Lv.fin (RV.tmp rfl rfl) ?_); congr 1; unfold lowerR; split <;> (try split) <;> omega)
          · refine yq8 ?_; refine yq90 ?_; refine yq183 ?_; refine yq81 ?_; refine yq59 ?_; refine T.setF (d := 32) rfl (by omega) ?_; refine yq183 ?_; refine yq2 ?_; refine yq59 ?_; refine T.setF (d := 41) rfl (by omega) ?_; refine yq8 ?_; refine yq118 ?_; refine yq26 ?_; refine T.blkEnd ?_; refine yq140 ?_; (refine T.retF (Lv.fin (RV.tmp rfl rfl) ?_); congr 1; unfold lowerR; split <;> (try split) <;> omega)
      · refine yq8 ?_; refine yq90 ?_; refine yq183 ?_; refine yq2 ?_; refine yq59 ?_; refine T.setF (d := 22) rfl (by omega) ?_; refine yq8 ?_; refine yq90 ?_; refine yq183 ?_; refine yq81 ?_; refine yq59 ?_; refine T.setF (d := 32) rfl (by omega) ?_; refine yq183 ?_; refine yq2 ?_; refine yq59 ?_
        refine T.setF (d := 41) rfl (by omega) ?_; refine yq8 ?_; refine yq118 ?_; refine yq26 ?_; refine T.blkEnd ?_; refine yq140 ?_; (refine T.retF (Lv.fin (RV.tmp rfl rfl) ?_); congr 1; unfold lowerR; split <;> (try split) <;> omega)
  · refine yq183 ?_; refine yq2 ?_; refine yq59 ?_; refine T.setF (d := 12) rfl (by omega) ?_; refine yq8 ?_; refine yq90 ?_; refine yq183 ?_; refine yq2 ?_; refine yq59 ?_; refine T.setF (d := 22) rfl (by omega) ?_; refine yq8 ?_; refine yq90 ?_; refine yq183 ?_; refine yq81 ?_; refine yq59 ?_
    refine T.setF (d := 32) rfl (by omega) ?_; refine yq183 ?_; refine yq2 ?_; refine yq59 ?_; refine T.setF (d := 41) rfl (by omega) ?_; refine yq8 ?_; refine yq118 ?_; refine yq26 ?_; refine T.blkEnd ?_; refine yq140 ?_; (refine T.retF (Lv.fin (RV.tmp rfl rfl) ?_); congr 1; unfold lowerR; split <;> (try split) <;> omega)
set_option maxHeartbeats 1000000 in
theorem refFold_fn (s : ByteArray) (H : Hp) (hs : s.size ≤ 20000) : Fn Tryz.prog 102 #[.string s] H (fun v _ => v = .string ⟨(foldL s).toArray⟩) := by
  refine Fn.of_T (vs := [.string s]) Tryz.func102 rfl rfl fun w => ?_; refine zs3 ?_; refine yq23 ?_; refine yq127 ?_; refine T.call Wanted.none rfl rfl (refUnits_fn s H hs) ?_
  intro vl H1 hH1 hsl
  obtain ⟨adl, capl, rfl⟩ := hsl.len
  have hul := units_len s
  refine sv (PV.lenSl rfl) ?_; refine yq80 ?_
  refine T.loop (γ := Nat) (fun i => i ≤ (units s).length)
    (fun i => [(0, .string s), (9, .int .i64 (i : Int)), (8, .int .i64 ((units s).length : Int)), (7, .slice adl (units s).length capl), (3, .string ⟨(((units s).take i).flatMap (foldU s)).toArray⟩)])
    (fun _ => []) (fun _ => H1) (fun i => (units s).length - i) 0 (by simp) zq8 zq4 rfl ?_
  intro i h1
  by_cases hi : i < (units s).length
  · obtain ⟨x, hx⟩ : ∃ x, (units s)[i]? = some x := ⟨_, List.getElem?_eq_getElem hi⟩
    obtain ⟨m1, m2, m3, m4, m5⟩ := units_mem (List.mem_of_getElem? hx)
    obtain ⟨b, off, cap', hve, hsub⟩ := hsl.elem (i := i) (by omega) (flat_elem encF_len (units s) i x hx)
    injection hve with e1 e2 e3
    subst e1 e3
    have hbound := fold_len s i hs
    have hel := encode_le (lowerR x.r)
    have hpl := piece_le s x
    have hz1 : ByteArray.size ⟨(((units s).take i).flatMap (foldU s)).toArray⟩ ≤ 4 * 20000 := by simpa [ByteArray.size] using hbound
    have hz2 : ByteArray.size ⟨(piece s x).toArray⟩ ≤ 4 := by
      have : ByteArray.size ⟨(piece s x).toArray⟩ = (piece s x).length := by simp [ByteArray.size]
      omega
    have hfa : ((units s).take (i + 1)).flatMap (foldU s) = ((units s).take i).flatMap (foldU s) ++ foldU s x := by rw [List.take_add_one, hx]; simp
    have happ : ∀ l : List UInt8, l = foldU s x → (⟨(((units s).take i).flatMap (foldU s)).toArray⟩ : ByteArray) ++ ⟨l.toArray⟩ = ⟨(((units s).take (i + 1)).flatMap (foldU s)).toArray⟩ := by
      rintro l rfl
      rw [hfa]
      exact congrArg ByteArray.mk (by simp)
    by_cases hok : okU x = true
    · by_cases hlo : lowerR x.r = x.r
      · have hlo' : decide (lowerR x.r ≠ x.r) = false := by simp [hlo]
        refine yq110 ?_; refine sy fun b5 => ?_; refine yq13 ?_; refine sq ?_; refine yq91 ?_; refine TQ.pv (PV.move rfl) Wanted.none rfl rfl ?_; refine yq28 ?_; refine TQ.callV (Wanted.guard rfl rfl (by assumption)) rfl rfl (foldRune_fn x.r H1 (by omega)) ?_; refine yq28 ?_; refine TQ.pv (PV.neq rfl rfl) (Wanted.guard rfl rfl (by assumption)) rfl rfl ?_; refine TQ.pv (PV.pickT rfl (by assumption) rfl) Wanted.none rfl rfl ?_; refine TQ.nil ?_; refine T.condF rfl (by assumption) ?_; refine yq81 ?_; refine sm ?_; refine yq148 ?_; refine yq5 ?_; refine sv (PV.add rfl rfl (by omega)) ?_; refine sv (PV.sliceStr rfl rfl rfl (by omega)) ?_
        rw [extract_piece]
        refine sv (PV.sadd rfl rfl ?_) ?_
        · omega
        rw [happ _ (by unfold foldU; rw [if_neg (by simpa using hlo)])]
        refine yq0 ?_; refine yq61 ?_
        exact T.next (i + 1) (by omega) (by omega) zq8 zq4 rfl
      · have hlo' : decide (lowerR x.r ≠ x.r) = true := by simp [hlo]
        refine yq110 ?_; refine sy fun b5 => ?_; refine yq13 ?_; refine sq ?_; refine yq91 ?_; refine TQ.pv (PV.move rfl) Wanted.none rfl rfl ?_; refine yq28 ?_; refine TQ.callV (Wanted.guard rfl rfl (by assumption)) rfl rfl (foldRune_fn x.r H1 (by omega)) ?_; refine yq28 ?_; refine TQ.pv (PV.neq rfl rfl) (Wanted.guard rfl rfl (by assumption)) rfl rfl ?_; refine TQ.pv (PV.pickT rfl (by assumption) rfl) Wanted.none rfl rfl ?_; refine TQ.nil ?_; refine T.condT rfl (by assumption) ?_; refine yq81 ?_; refine yq5 ?_; refine T.callV Wanted.none rfl rfl (foldRune_fn x.r H1 (by omega)) ?_; refine sv (PV.convRune rfl) ?_; refine sv (PV.sadd rfl rfl (by omega)) ?_; refine yq0 ?_; refine yq35 ?_; refine sv (PV.add rfl rfl (by omega)) ?_
        refine sm ?_; refine so ?_
        have he : Utf8.encode (lowerR x.r) = ⟨(foldU s x).toArray⟩ := by unfold foldU; rw [if_pos hlo]
        rw [he, happ _ rfl]
        exact T.next (i + 1) (by omega) (by omega) zq8 zq4 rfl
    · have hok' : okU x = false := by simpa using hok
      refine yq110 ?_; refine sy fun b5 => ?_; refine yq13 ?_; refine sq ?_; refine yq91 ?_; refine TQ.pv (PV.move rfl) Wanted.none rfl rfl ?_; refine yq34 ?_; refine yq34 ?_; refine yq34 ?_; refine TQ.pv (PV.pickF rfl (by assumption) rfl) Wanted.none rfl rfl ?_; refine TQ.nil ?_; refine T.condF rfl rfl ?_; refine yq81 ?_; refine sm ?_; refine yq148 ?_; refine yq5 ?_; refine sv (PV.add rfl rfl (by omega)) ?_; refine sv (PV.sliceStr rfl rfl rfl (by omega)) ?_
      have hlo : lowerR x.r = x.r := by
        have : x.r = 65533 := by simp [okU] at hok'; omega
        rw [this]; decide
      rw [extract_piece]
      refine sv (PV.sadd rfl rfl ?_) ?_
      · omega
      rw [happ _ (by unfold foldU; rw [if_neg (by simpa using hlo)])]
      refine yq0 ?_; refine yq61 ?_
      exact T.next (i + 1) (by omega) (by omega) zq8 zq4 rfl
  · refine yq74 ?_; refine yq140 ?_
    refine T.retF (Lv.fin (RV.tmp rfl rfl) ?_)
    rw [List.take_of_length_le (by omega)]
    rfl
set_option maxHeartbeats 1000000 in
theorem refReverse_fn (s : ByteArray) (H : Hp) (hs : s.size ≤ 20000) : Fn Tryz.prog 103 #[.string s] H (fun v _ => v = .string ⟨(revL s).toArray⟩) := by
  refine Fn.of_T (vs := [.string s]) Tryz.func103 rfl rfl fun w => ?_; refine zs3 ?_; refine yq23 ?_; refine yq127 ?_; refine T.call Wanted.none rfl rfl (refUnits_fn s H hs) ?_
  intro vl H1 hH1 hsl
  obtain ⟨adl, capl, rfl⟩ := hsl.len
  have hul := units_len s
  refine sv (PV.lenSl rfl) ?_; refine yq80 ?_
  refine T.loop (γ := Nat) (fun i => i ≤ (units s).length)
    (fun i => [(0, .string s), (9, .int .i64 (i : Int)), (8, .int .i64 ((units s).length : Int)), (7, .slice adl (units s).length capl), (3, .string ⟨(((units s).take i).reverse.flatMap (piece s)).toArray⟩)])
    (fun _ => []) (fun _ => H1) (fun i => (units s).length - i) 0 (by simp) zq8 zq4 rfl ?_
  intro i h1
  by_cases hi : i < (units s).length
  · obtain ⟨x, hx⟩ : ∃ x, (units s)[i]? = some x := ⟨_, List.getElem?_eq_getElem hi⟩
    obtain ⟨m1, m2, m3, m4, m5⟩ := units_mem (List.mem_of_getElem? hx)
    obtain ⟨b, off, cap', hve, hsub⟩ := hsl.elem (i := i) (by omega) (flat_elem encF_len (units s) i x hx)
    injection hve with e1 e2 e3
    subst e1 e3
    have hpl := piece_le s x
    have hz1 : ByteArray.size ⟨(((units s).take i).reverse.flatMap (piece s)).toArray⟩ ≤ 4 * 20000 := by
      have h2 := flat_le (f := piece s) (m := 4) ((units s).take i).reverse (fun y hy => by
        have hy := List.mem_of_mem_take (List.mem_reverse.1 hy)
        have := piece_le s y; have := (units_mem hy).2.2.1; omega)
      have h3 : ((units s).take i).reverse.length ≤ 20000 := by rw [List.length_reverse, List.length_take]; omega
      have h4 : ByteArray.size ⟨(((units s).take i).reverse.flatMap (piece s)).toArray⟩ = (((units s).take i).reverse.flatMap (piece s)).length := by simp [ByteArray.size]
      omega
    have hz2 : ByteArray.size ⟨(piece s x).toArray⟩ ≤ 4 := by
      have : ByteArray.size ⟨(piece s x).toArray⟩ = (piece s x).length := by simp [ByteArray.size]
      omega
    have happ : (⟨(piece s x).toArray⟩ : ByteArray) ++ ⟨(((units s).take i).reverse.flatMap (piece s)).toArray⟩ = ⟨(((units s).take (i + 1)).reverse.flatMap (piece s)).toArray⟩ := by
      rw [List.take_add_one, hx]
      exact congrArg ByteArray.mk (by simp)
    refine yq110 ?_; refine sy fun b5 => ?_; refine T.storeA Wanted.none rfl rfl zq8 (by exact rfl) zq14 zq13 ?_; refine zs2 ?_; refine sm ?_; refine yq148 ?_; refine yq5 ?_; refine sv (PV.add rfl rfl (by omega)) ?_; refine sv (PV.sliceStr rfl rfl rfl (by omega)) ?_; refine sm ?_
    rw [extract_piece]
    refine sv (PV.sadd rfl rfl ?_) ?_
    · omega
    rw [happ]
    refine yq0 ?_; refine yq61 ?_
    exact T.next (i + 1) (by omega) (by omega) zq8 zq4 rfl
  · refine yq74 ?_; refine yq140 ?_
    refine T.retF (Lv.fin (RV.tmp rfl rfl) ?_)
    rw [List.take_of_length_le (by omega)]
    rfl
end Go.Proofs.YthacphfjchpoaaaGreatDoor
namespace Go.Proofs.YthacphfjchpoaaaGreatDoor
open Go.RowKit

/-- what the lines ask of a corpus: tokens as wide as the attributes, texts within the tokens -/
structure CpW (c : Cp) : Prop where
  w : ∀ t ∈ c.tk, t.ss.length = c.att.length
  tx : ∀ t ∈ c.tx, 0 ≤ t.b ∧ t.b < t.e ∧ t.e ≤ c.tk.length
structure Ky where
  at_ : Int
  off : Int
  lb : ByteArray
  nm : ByteArray
  fold : Bool
  back : Bool
  fall : Bool
def kyV (k : Ky) : Value := .agg #[.int .i64 k.at_, .int .i64 k.off, .string k.lb, .string k.nm, .bool k.fold, .bool k.back, .bool k.fall]
def lbI (lb : List ByteArray) (s : ByteArray) : Int := ixI (fun x => decide (x = s)) lb
def lbAt (lb : List ByteArray) (m : Mt) (s : ByteArray) : Int := if lbI lb s < 0 then -1 else (m.ls[(lbI lb s).toNat]?).getD 0
def atP (lb : List ByteArray) (m : Mt) (a : Int) (s : ByteArray) : Int := if a = 1 then m.b else if a = 2 then m.e - 1 else if a = 3 then lbAt lb m s else -1
def posP (lb : List ByteArray) (m : Mt) (t : Rg) (a off : Int) (s : ByteArray) : Int :=
  if atP lb m a s < 0 ∨ off < t.b - atP lb m a s ∨ t.e - atP lb m a s ≤ off then -1 else atP lb m a s + off
def tkS (c : Cp) (i a : Int) : ByteArray := ((c.tk[i.toNat]?).bind fun t => t.ss[a.toNat]?).getD (bs [])
def fb1 (k : Ky) (s : ByteArray) : ByteArray := if k.fold then ⟨(foldL s).toArray⟩ else s
def fb2 (k : Ky) (s : ByteArray) : ByteArray := if k.back then ⟨(revL s).toArray⟩ else s
def valO (c : Cp) (lb : List ByteArray) (m : Mt) (k : Ky) : ByteArray := match fitO c m with
  | none => bs []
  | some t => if attI c.att k.nm < 0 ∨ lb.length ≠ m.ls.length ∨ posP lb m t k.at_ k.off k.lb < 0 then bs [] else fb2 k (fb1 k (tkS c (posP lb m t k.at_ k.off k.lb) (attI c.att k.nm)))
theorem atP_le {lb : List ByteArray} {m : Mt} {a : Int} {s : ByteArray} {n : Nat} (h1 : 0 ≤ m.b ∧ m.b < m.e ∧ m.e ≤ n) (h2 : ∀ x ∈ m.ls, -1 ≤ x ∧ x < n) : -1 ≤ atP lb m a s ∧ atP lb m a s < n := by
  have hl : -1 ≤ lbAt lb m s ∧ lbAt lb m s < n := by
    unfold lbAt
    split
    · omega
    · cases h : m.ls[(lbI lb s).toNat]? with
      | none => simp; omega
      | some x => have := h2 x (List.mem_of_getElem? h); simpa using this
  unfold atP
  split
  · omega
  · split
    · omega
    · split
      · exact hl
      · omega
theorem index_str (l : List ByteArray) (s : ByteArray) (v : Value) (H : Hp) (hv : StL H v l) (hl : l.length ≤ 1000) : Fn Tryz.prog 89 #[v, .string s] H (fun u _ => u = .int .i64 (lbI l s)) := by
  obtain ⟨ad, cap, rfl⟩ := hv.len
  refine Fn.of_T (vs := [.slice ad l.length cap, .string s]) Tryz.func89 rfl rfl fun w => ?_; refine yq25 ?_; refine yq112 ?_; refine T.loopC [(7, Value.int IntKind.i64 (↑l.length : Int)), (0, Value.slice ad l.length cap), (1, Value.string s)] zq8 8 l.length (fun i => (l.take i).any (fun x => decide (x = s)) = false) rfl rfl ?_
  rintro i ⟨hi0, hi1⟩
  by_cases hi : i < l.length
  · obtain ⟨b, off, x, rfl, hix, hsub⟩ := RowL.get encT_len hv hi
    unfold encT at hsub
    by_cases he : s = x
    · refine yq87 ?_; refine yq56 ?_; refine yq162 ?_; refine yq15 ?_; refine sv (PV.seql rfl rfl) ?_; refine yq46 ?_; refine yq140 ?_
      refine T.retF (Lv.fin (RV.tmp rfl rfl) ?_)
      rw [lbI, ixI_hit hi1 hix (decide_eq_true he.symm)]
    · refine yq87 ?_; refine yq56 ?_; refine yq162 ?_; refine yq15 ?_; refine sv (PV.seql rfl rfl) ?_; refine yq88 ?_; refine yq61 ?_
      exact T.nextC hi (ixI_drop hi1 hix (decide_eq_false fun h => he h.symm)) rfl zq8 (by repeat (first | exact Sel.refl _ | exact Sel.nil | (refine Sel.cons zq1 ?_) | (refine Sel.app zq1 ?_) | exact Sel.one zq1))
  · rw [List.take_of_length_le (by omega)] at hi1
    refine yq195 ?_
    refine T.retF (Lv.fin (RV.tmp rfl rfl) ?_)
    rw [lbI, ixI_miss hi1]
theorem contains_str (l : List ByteArray) (s : ByteArray) (v : Value) (H : Hp) (hv : StL H v l) (hl : l.length ≤ 1000) : Fn Tryz.prog 64 #[v, .string s] H (fun u _ => u = .bool (l.any fun x => decide (x = s))) := by
  have hi := index_str l s v H hv hl
  refine Fn.of_T (vs := [v, .string s]) Tryz.func64 rfl rfl fun w => ?_; refine zs3 ?_; refine yq56 ?_; refine sm ?_; refine T.callV Wanted.none rfl rfl (hi) ?_; refine sv (PV.geq rfl rfl) ?_; refine yq0 ?_
  refine T.retF (Lv.fin (RV.tmp rfl rfl) ?_)
  rw [lbI, ixI_nonneg]
theorem tokAt (c : Cp) (H : Hp) (hc : CpL H c) (hw : CpW c) {i a : Int} (hi : 0 ≤ i ∧ i < c.tk.length) (ha : 0 ≤ a ∧ a < c.att.length) : ∃ t s, c.tk[i.toNat]? = some t ∧ t.ss[a.toNat]? = some s ∧ tkS c i a = s ∧ TkOk H t ∧ t.ss.length = c.att.length ∧ s.size ≤ 4000 := by
  obtain ⟨t, ht⟩ : ∃ t, c.tk[i.toNat]? = some t := ⟨_, List.getElem?_eq_getElem (by omega)⟩
  have hm := List.mem_of_getElem? ht
  have h3 := hw.w t hm
  have hok := hc.tO t hm
  obtain ⟨s, hs⟩ : ∃ s, t.ss[a.toNat]? = some s := ⟨_, List.getElem?_eq_getElem (by omega)⟩
  exact ⟨t, s, ht, hs, by unfold tkS; rw [ht]; simp [hs], hok, h3, hok.2.2 s (List.mem_of_getElem? hs)⟩
theorem tok_in (c : Cp) (i a : Int) (H : Hp) (hc : CpL H c) (hw : CpW c) (hi : 0 ≤ i ∧ i < c.tk.length) (ha : 0 ≤ a ∧ a < c.att.length) : Fn Tryz.prog 94 #[cpV c, .int .i64 i, .int .i64 a] H (fun u _ => u = .string (tkS c i a)) := by
  obtain ⟨t, s, h1, h2, h3, h4, h5, h6⟩ := tokAt c H hc hw hi ha
  obtain ⟨aa, ca, at1, ct, ax, cx, ar, cr, an, cn, ah, ch, as1, cs, hcv, ha, ht, hx, hr, hn, hh, hs⟩ := hc.open; rw [hcv]; have hla := hc.la; have hlt := hc.lt; have hlx := hc.lx; have hlr := hc.lr; have hln := hc.ln; have hlh := hc.lh; have hls := hc.ls
  refine Fn.of_T (vs := [.agg #[.slice aa c.att.length ca, .slice at1 c.tk.length ct, .slice ax c.tx.length cx, .slice ar c.rg.length cr, .slice an c.nd.length cn, .slice ah c.hd.length ch, .slice as1 c.rl.length cs], .int .i64 i, .int .i64 a]) Tryz.func94 rfl rfl fun w => ?_
  obtain ⟨i, rfl⟩ : ∃ k : Nat, i = (k : Int) := ⟨i.toNat, by omega⟩
  obtain ⟨a, rfl⟩ : ∃ k : Nat, a = (k : Int) := ⟨a.toNat, by omega⟩
  rw [Int.toNat_natCast] at h1 h2
  obtain ⟨b, off, x, rfl, hix, hsub⟩ := RowL.get encTk_len ht (i := i) (by omega)
  rw [h1] at hix
  obtain rfl := Option.some.inj hix
  obtain ⟨av, cv, hvv⟩ := h4.1.len
  have hst := h4.1
  rw [hvv] at hst
  unfold encTk at hsub
  rw [hvv] at hsub
  obtain ⟨b2, off2, x2, rfl, hix2, hsub2⟩ := RowL.get encT_len hst (i := a) (by omega)
  rw [h2] at hix2
  obtain rfl := Option.some.inj hix2
  unfold encT at hsub2
  have g1 : ¬ (i : Int) < 0 := by omega
  have g2 : ¬ (c.tk.length : Int) ≤ (i : Int) := by omega
  have g3 : ¬ (a : Int) < 0 := by omega
  have g4 : ¬ (t.ss.length : Int) ≤ (a : Int) := by omega
  refine zs3 ?_; (refine T.box Wanted.none rfl rfl zq15 ?_; intro b3); refine yq127 ?_; refine yq49 ?_; refine gm ?_; refine yq96 ?_; refine gv (PV.geq rfl rfl) ?_; refine yq90 ?_; refine T.setF (d := 16) rfl (by omega) ?_; refine gm ?_; refine yq139 ?_; refine yq191 ?_; refine gm ?_; refine gv (PV.indexAddr rfl rfl (by omega)) ?_; refine gv (PV.loadSub0 rfl (by assumption)) ?_; refine gv (PV.lenSl rfl) ?_; refine gv (PV.geq rfl rfl) ?_; refine sF ?_; refine yq88 ?_; refine yq41 ?_; refine sm ?_; refine yq15 ?_; refine sm ?_
  refine yq15 ?_; refine yq0 ?_
  exact T.retF (Lv.fin (RV.tmp rfl rfl) (by rw [h3]))
structure FitP (c : Cp) (m : Mt) (t : Rg) : Prop where
  t0 : 0 ≤ t.b
  tb : t.b ≤ m.b
  be : m.b < m.e
  et : m.e ≤ t.e
  tn : t.e ≤ c.tk.length
  ls : ∀ x ∈ m.ls, -1 ≤ x ∧ x < c.tk.length
theorem position_in (c : Cp) (lb : List ByteArray) (vl : Value) (m : Mt) (t : Rg) (a off : Int) (s : ByteArray) (H : Hp) (hc : CpL H c) (hf : FitP c m t) (hlb : StL H vl lb) (hll : lb.length = m.ls.length) (hl : m.ls.length ≤ 1000) (hm : LabOk H m) (hrg : RgOk H t) :
    Fn Tryz.prog 93 #[vl, mtV m, rgV t, .int .i64 a, .int .i64 off, .string s] H (fun u _ => u = .int .i64 (posP lb m t a off s)) := by
  obtain ⟨f1, f2, f3, f4, f5, f6⟩ := hf
  have hlt := hc.lt
  obtain ⟨al, cl, hmv⟩ := hm.1.len
  have hml := hm.1
  rw [hmv] at hml
  obtain ⟨am, cm, hkv⟩ := hrg.1.len
  have hix := index_str lb s vl H hlb (by omega)
  unfold mtV rgV
  rw [hmv, hkv]
  refine Fn.of_T (vs := [vl, .agg #[.int .i64 m.b, .int .i64 m.e, .slice al m.ls.length cl], .agg #[.string t.ty, .int .i64 t.b, .int .i64 t.e, .slice am t.ks.length cm], .int .i64 a, .int .i64 off, .string s]) Tryz.func93 rfl rfl fun w => ?_
  by_cases a1 : a = 1
  · subst a1
    have hA : atP lb m 1 s = m.b := rfl
    have g0 : ¬ m.b < 0 := by omega
    by_cases g1 : off < t.b - m.b
    · refine zs3 ?_; (refine T.box Wanted.none rfl rfl zq15 ?_; intro b7); (refine T.box Wanted.none rfl rfl zq15 ?_; intro b8); refine yq23 ?_; refine yq127 ?_; refine yq32 ?_; refine yq44 ?_; refine T.condT rfl rfl ?_; refine sr ?_; refine yq5 ?_; refine yq0 ?_; refine T.blkEnd ?_; refine yq14 ?_; refine yq49 ?_; refine T.setF (d := 39) rfl (by omega) ?_; refine yq191 ?_; refine yq122 ?_; refine yq139 ?_; refine T.setT (d := 47) rfl (by omega) ?_; refine yq8 ?_
      refine yq66 ?_; refine yq157 ?_; refine yq25 ?_
      exact T.retF (Lv.fin (RV.tmp rfl rfl) (by unfold posP; rw [hA, if_pos (by omega)]))
    · by_cases g2 : t.e - m.b ≤ off
      · refine zs3 ?_; (refine T.box Wanted.none rfl rfl zq15 ?_; intro b7); (refine T.box Wanted.none rfl rfl zq15 ?_; intro b8); refine yq23 ?_; refine yq127 ?_; refine yq32 ?_; refine yq44 ?_; refine T.condT rfl rfl ?_; refine sr ?_; refine yq5 ?_; refine yq0 ?_; refine T.blkEnd ?_; refine yq14 ?_; refine yq49 ?_; refine T.setF (d := 39) rfl (by omega) ?_; refine yq191 ?_; refine yq122 ?_; refine yq139 ?_; refine T.setF (d := 47) rfl (by omega) ?_; refine gm ?_; refine gf ?_
        refine gl ?_; refine yq122 ?_; refine gv (PV.geq rfl rfl) ?_; refine sF ?_; refine yq46 ?_; refine yq25 ?_
        exact T.retF (Lv.fin (RV.tmp rfl rfl) (by unfold posP; rw [hA, if_pos (by omega)]))
      · refine zs3 ?_; (refine T.box Wanted.none rfl rfl zq15 ?_; intro b7); (refine T.box Wanted.none rfl rfl zq15 ?_; intro b8); refine yq23 ?_; refine yq127 ?_; refine yq32 ?_; refine yq44 ?_; refine T.condT rfl rfl ?_; refine sr ?_; refine yq5 ?_; refine yq0 ?_; refine T.blkEnd ?_; refine yq14 ?_; refine yq49 ?_; refine T.setF (d := 39) rfl (by omega) ?_; refine yq191 ?_; refine yq122 ?_; refine yq139 ?_; refine T.setF (d := 47) rfl (by omega) ?_; refine gm ?_; refine gf ?_
        refine gl ?_; refine yq122 ?_; refine gv (PV.geq rfl rfl) ?_; refine sF ?_; refine yq88 ?_; refine yq137 ?_; refine yq63 ?_
        exact T.retF (Lv.fin (RV.tmp rfl rfl) (by unfold posP; rw [hA, if_neg (by omega)]))
  · by_cases a2 : a = 2
    · subst a2
      have hA : atP lb m 2 s = m.e - 1 := rfl
      have g0 : ¬ m.e - 1 < 0 := by omega
      by_cases g1 : off < t.b - (m.e - 1)
      · refine zs3 ?_; (refine T.box Wanted.none rfl rfl zq15 ?_; intro b7); (refine T.box Wanted.none rfl rfl zq15 ?_; intro b8); refine yq23 ?_; refine yq127 ?_; refine yq32 ?_; refine yq44 ?_; refine yq187 ?_; refine sr ?_; refine yq5 ?_; refine yq77 ?_; refine T.blkEnd ?_; refine yq14 ?_; refine yq49 ?_; refine T.setF (d := 39) rfl (by omega) ?_; refine yq191 ?_; refine yq122 ?_
        refine yq139 ?_; refine T.setT (d := 47) rfl (by omega) ?_; refine yq149 ?_; refine yq157 ?_; refine yq25 ?_
        exact T.retF (Lv.fin (RV.tmp rfl rfl) (by unfold posP; rw [hA, if_pos (by omega)]))
      · by_cases g2 : t.e - (m.e - 1) ≤ off
        · refine zs3 ?_; (refine T.box Wanted.none rfl rfl zq15 ?_; intro b7); (refine T.box Wanted.none rfl rfl zq15 ?_; intro b8); refine yq23 ?_; refine yq127 ?_; refine yq32 ?_; refine yq44 ?_; refine yq187 ?_; refine sr ?_; refine yq5 ?_; refine yq77 ?_; refine T.blkEnd ?_; refine yq14 ?_; refine yq49 ?_; refine T.setF (d := 39) rfl (by omega) ?_; refine yq191 ?_; refine yq122 ?_
          refine yq139 ?_; refine T.setF (d := 47) rfl (by omega) ?_; refine yq191 ?_; refine yq122 ?_; refine gv (PV.geq rfl rfl) ?_; refine sF ?_; refine yq46 ?_; refine yq25 ?_
          exact T.retF (Lv.fin (RV.tmp rfl rfl) (by unfold posP; rw [hA, if_pos (by omega)]))
        · refine zs3 ?_; (refine T.box Wanted.none rfl rfl zq15 ?_; intro b7); (refine T.box Wanted.none rfl rfl zq15 ?_; intro b8); refine yq23 ?_; refine yq127 ?_; refine yq32 ?_; refine yq44 ?_; refine yq187 ?_; refine sr ?_; refine yq5 ?_; refine yq77 ?_; refine T.blkEnd ?_; refine yq14 ?_; refine yq49 ?_; refine T.setF (d := 39) rfl (by omega) ?_; refine yq191 ?_; refine yq122 ?_
          refine yq139 ?_; refine T.setF (d := 47) rfl (by omega) ?_; refine yq191 ?_; refine yq122 ?_; refine gv (PV.geq rfl rfl) ?_; refine sF ?_; refine yq88 ?_; refine yq137 ?_; refine yq63 ?_
          exact T.retF (Lv.fin (RV.tmp rfl rfl) (by unfold posP; rw [hA, if_neg (by omega)]))
    · by_cases a3 : a = 3
      · subst a3
        have hA : atP lb m 3 s = lbAt lb m s := rfl
        rcases ixI_cases (fun x => decide (x = s)) lb with ⟨k1, k2⟩ | ⟨k, x, k1, k2, k3, k4⟩
        · have hL : lbI lb s = -1 := k1
          have hA : atP lb m 3 s = -1 := by rw [hA, lbAt, hL, if_pos (by omega)]
          rw [hL] at hix
          refine zs3 ?_; (refine T.box Wanted.none rfl rfl zq15 ?_; intro b7); (refine T.box Wanted.none rfl rfl zq15 ?_; intro b8); refine yq23 ?_; refine yq127 ?_; refine yq32 ?_; refine yq44 ?_; refine yq99 ?_; refine yq187 ?_; refine yq137 ?_; refine T.callV Wanted.none rfl rfl (hix) ?_; refine yq56 ?_; refine sv (PV.geq rfl rfl) ?_; refine yq92 ?_; refine T.blkEnd ?_; refine sq ?_
          refine yq2 ?_; refine yq49 ?_; refine yq149 ?_; refine yq141 ?_; refine yq149 ?_; refine yq157 ?_; refine yq25 ?_
          exact T.retF (Lv.fin (RV.tmp rfl rfl) (by unfold posP; rw [hA, if_pos (by omega)]))
        · have hL : lbI lb s = (k : Int) := k1
          have hki := (List.getElem?_eq_some_iff.1 k2).1
          obtain ⟨y, hy⟩ : ∃ y, m.ls[k]? = some y := ⟨_, List.getElem?_eq_getElem (by omega)⟩
          have hyr := f6 y (List.mem_of_getElem? hy)
          have hA : atP lb m 3 s = y := by rw [hA, lbAt, hL, if_neg (by omega), Int.toNat_natCast, hy]; rfl
          obtain ⟨b1, off1, rfl, hsub⟩ := hml.intAt hy
          rw [hL] at hix
          have hk0 : ¬ (k : Int) < 0 := by omega
          have hk9 : (0 : Int) ≤ (k : Int) := by omega
          by_cases g0 : y < 0
          · refine zs3 ?_; (refine T.box Wanted.none rfl rfl zq15 ?_; intro b7); (refine T.box Wanted.none rfl rfl zq15 ?_; intro b8); refine yq23 ?_; refine yq127 ?_; refine yq32 ?_; refine yq44 ?_; refine yq99 ?_; refine yq187 ?_; refine yq137 ?_; refine T.callV Wanted.none rfl rfl (hix) ?_; refine yq56 ?_; refine sv (PV.geq rfl rfl) ?_; refine yq36 ?_; refine sr ?_; refine yq5 ?_
            refine sm ?_; refine yq15 ?_; refine yq0 ?_; refine T.blkEnd ?_; refine yq14 ?_; refine yq49 ?_; refine T.setT (d := 39) rfl (by omega) ?_; refine yq149 ?_; refine yq141 ?_; refine yq149 ?_; refine yq157 ?_; refine yq25 ?_
            exact T.retF (Lv.fin (RV.tmp rfl rfl) (by unfold posP; rw [hA, if_pos (by omega)]))
          · by_cases g1 : off < t.b - y
            · refine zs3 ?_; (refine T.box Wanted.none rfl rfl zq15 ?_; intro b7); (refine T.box Wanted.none rfl rfl zq15 ?_; intro b8); refine yq23 ?_; refine yq127 ?_; refine yq32 ?_; refine yq44 ?_; refine yq99 ?_; refine yq187 ?_; refine yq137 ?_; refine T.callV Wanted.none rfl rfl (hix) ?_; refine yq56 ?_; refine sv (PV.geq rfl rfl) ?_; refine yq36 ?_; refine sr ?_; refine yq5 ?_
              refine sm ?_; refine yq15 ?_; refine yq0 ?_; refine T.blkEnd ?_; refine yq14 ?_; refine yq49 ?_; refine T.setF (d := 39) rfl (by omega) ?_; refine yq191 ?_; refine yq122 ?_; refine yq139 ?_; refine T.setT (d := 47) rfl (by omega) ?_; refine yq149 ?_; refine yq157 ?_; refine yq25 ?_
              exact T.retF (Lv.fin (RV.tmp rfl rfl) (by unfold posP; rw [hA, if_pos (by omega)]))
            · by_cases g2 : t.e - y ≤ off
              · refine zs3 ?_; (refine T.box Wanted.none rfl rfl zq15 ?_; intro b7); (refine T.box Wanted.none rfl rfl zq15 ?_; intro b8); refine yq23 ?_; refine yq127 ?_; refine yq32 ?_; refine yq44 ?_; refine yq99 ?_; refine yq187 ?_; refine yq137 ?_; refine T.callV Wanted.none rfl rfl (hix) ?_; refine yq56 ?_; refine sv (PV.geq rfl rfl) ?_; refine yq36 ?_; refine sr ?_; refine yq5 ?_
                refine sm ?_; refine yq15 ?_; refine yq0 ?_; refine T.blkEnd ?_; refine yq14 ?_; refine yq49 ?_; refine T.setF (d := 39) rfl (by omega) ?_; refine yq191 ?_; refine yq122 ?_; refine yq139 ?_; refine T.setF (d := 47) rfl (by omega) ?_; refine yq191 ?_; refine yq122 ?_; refine gv (PV.geq rfl rfl) ?_; refine sF ?_; refine yq46 ?_; refine yq25 ?_
                exact T.retF (Lv.fin (RV.tmp rfl rfl) (by unfold posP; rw [hA, if_pos (by omega)]))
              · refine zs3 ?_; (refine T.box Wanted.none rfl rfl zq15 ?_; intro b7); (refine T.box Wanted.none rfl rfl zq15 ?_; intro b8); refine yq23 ?_; refine yq127 ?_; refine yq32 ?_; refine yq44 ?_; refine yq99 ?_; refine yq187 ?_; refine yq137 ?_; refine T.callV Wanted.none rfl rfl (hix) ?_; refine yq56 ?_; refine sv (PV.geq rfl rfl) ?_; refine yq36 ?_; refine sr ?_; refine yq5 ?_
                refine sm ?_; refine yq15 ?_; refine yq0 ?_; refine T.blkEnd ?_; refine yq14 ?_; refine yq49 ?_; refine T.setF (d := 39) rfl (by omega) ?_; refine yq191 ?_; refine yq122 ?_; refine yq139 ?_; refine T.setF (d := 47) rfl (by omega) ?_; refine yq191 ?_; refine yq122 ?_; refine gv (PV.geq rfl rfl) ?_; refine sF ?_; refine yq88 ?_; refine yq137 ?_; refine yq63 ?_
                exact T.retF (Lv.fin (RV.tmp rfl rfl) (by unfold posP; rw [hA, if_neg (by omega)]))
      · have hA : atP lb m a s = -1 := by unfold atP; rw [if_neg a1, if_neg a2, if_neg a3]
        refine zs3 ?_; (refine T.box Wanted.none rfl rfl zq15 ?_; intro b7); (refine T.box Wanted.none rfl rfl zq15 ?_; intro b8); refine yq23 ?_; refine yq127 ?_; refine yq32 ?_; refine yq53 ?_; refine yq53 ?_; refine yq44 ?_; refine yq22 ?_; refine T.blkEnd ?_; refine yq14 ?_; refine yq49 ?_; refine yq149 ?_
        refine yq141 ?_; refine yq149 ?_; refine yq157 ?_; refine yq25 ?_
        exact T.retF (Lv.fin (RV.tmp rfl rfl) (by unfold posP; rw [hA, if_pos (by omega)]))
end Go.Proofs.YthacphfjchpoaaaGreatDoor
namespace Go.Proofs.YthacphfjchpoaaaGreatDoor
open Go.RowKit

theorem fitO_some {c : Cp} {m : Mt} {t : Rg} (hg : CpW c) (h : fitO c m = some t) : t ∈ c.tx ∧ 0 ≤ t.b ∧ t.b ≤ m.b ∧ m.b < m.e ∧ m.e ≤ t.e ∧ t.e ≤ c.tk.length ∧ ∀ x ∈ m.ls, -1 ≤ x ∧ x < c.tk.length := by
  unfold fitO at h
  cases hf : c.tx.find? (inT m.b) with
  | none => rw [hf] at h; cases h
  | some t' =>
    rw [hf] at h
    dsimp only at h
    split at h
    · rename_i hfb
      obtain rfl : t' = t := Option.some.inj h
      have hm := List.mem_of_find?_eq_some hf
      have hi := List.find?_some hf
      have hc := hg.tx t' hm
      unfold inT at hi
      unfold fitB at hfb
      simp only [Bool.and_eq_true, decide_eq_true_eq] at hi hfb
      refine ⟨hm, by omega, by omega, by omega, by omega, by omega, fun x hx => ?_⟩
      have := List.all_eq_true.1 hfb.2 x hx
      unfold labOk at this
      simp at this
      omega
    · cases h
theorem fits_in (c : Cp) (m : Mt) (H : Hp) (hc : CpL H c) (hg : CpW c) (hm : LabOk H m) (hl : m.ls.length ≤ 1000) : Fn Tryz.prog 33 #[cpV c, mtV m] H (fun u _ => u = .tuple #[rgV ((fitO c m).getD zeroRg), .bool (fitO c m).isSome]) := by
  have hta := textAt_in c m.b H hc
  obtain ⟨al, cl, hmv⟩ := hm.1.len
  have hml := hm.1
  rw [hmv] at hml
  revert hta
  obtain ⟨aa, ca, at1, ct, ax, cx, ar, cr, an, cn, ah, ch, as1, cs, hcv, ha, ht, hx, hr, hn, hh, hs⟩ := hc.open; rw [hcv]; have hla := hc.la; have hlt := hc.lt; have hlx := hc.lx; have hlr := hc.lr; have hln := hc.ln; have hlh := hc.lh; have hls := hc.ls
  intro hta
  unfold mtV
  rw [hmv]
  refine Fn.of_T (vs := [.agg #[.slice aa c.att.length ca, .slice at1 c.tk.length ct, .slice ax c.tx.length cx, .slice ar c.rg.length cr, .slice an c.nd.length cn, .slice ah c.hd.length ch, .slice as1 c.rl.length cs], .agg #[.int .i64 m.b, .int .i64 m.e, .slice al m.ls.length cl]]) Tryz.func33 rfl rfl fun w => ?_
  rcases ixI_cases (inT m.b) c.tx with ⟨h1, h2⟩ | ⟨k, t, h1, h2, h3, h4⟩
  · have hf : fitO c m = none := by unfold fitO; rw [find_miss h2]
    rw [h1] at hta
    by_cases hb : m.b < 0
    · refine zs3 ?_; (refine T.box Wanted.none rfl rfl zq15 ?_; intro b2); (refine T.box Wanted.none rfl rfl zq15 ?_; intro b3); refine sy fun b4 => ?_; refine yq95 ?_; refine yq5 ?_; refine T.callV Wanted.none rfl rfl (hta) ?_; refine yq0 ?_; refine sq ?_; refine sq ?_; refine yq91 ?_; refine yq84 ?_; refine TQ.setT (d := 14) rfl (by omega) ?_; refine yq4 ?_; refine yq4 ?_; refine yq94 ?_; refine yq154 ?_; refine TQ.pv (PV.pickT rfl rfl rfl) Wanted.none rfl rfl ?_; refine yq154 ?_; refine yq4 ?_; refine yq4 ?_; refine yq132 ?_
      refine TQ.pv (PV.pickT rfl rfl rfl) Wanted.none rfl rfl ?_; refine yq154 ?_; refine yq4 ?_; refine yq4 ?_; refine yq144 ?_; refine T.condT rfl rfl ?_; refine yq163 ?_; refine yq54 ?_
      exact T.retF (Lv.fin (RV.cellTmp rfl zq7 rfl) (by rw [hf]; rfl))
    · by_cases he : m.e ≤ m.b
      · refine zs3 ?_; (refine T.box Wanted.none rfl rfl zq15 ?_; intro b2); (refine T.box Wanted.none rfl rfl zq15 ?_; intro b3); refine sy fun b4 => ?_; refine yq95 ?_; refine yq5 ?_; refine T.callV Wanted.none rfl rfl (hta) ?_; refine yq0 ?_; refine sq ?_; refine sq ?_; refine yq91 ?_; refine yq84 ?_; refine TQ.setF (d := 14) rfl (by omega) ?_; refine yq37 ?_; refine yq37 ?_; refine TQ.pv (PV.geq rfl rfl) (Wanted.guard rfl rfl rfl) rfl rfl ?_; refine yq102 ?_; refine TQ.setT (d := 21) rfl (by omega) ?_; refine yq4 ?_; refine TQ.pv (PV.pickT rfl rfl rfl) Wanted.none rfl rfl ?_; refine yq154 ?_; refine yq4 ?_; refine yq4 ?_; refine yq4 ?_
        refine yq94 ?_; refine yq154 ?_; refine yq4 ?_; refine yq4 ?_; refine yq144 ?_; refine T.condT rfl rfl ?_; refine yq163 ?_; refine yq54 ?_
        exact T.retF (Lv.fin (RV.cellTmp rfl zq7 rfl) (by rw [hf]; rfl))
      · refine zs3 ?_; (refine T.box Wanted.none rfl rfl zq15 ?_; intro b2); (refine T.box Wanted.none rfl rfl zq15 ?_; intro b3); refine sy fun b4 => ?_; refine yq95 ?_; refine yq5 ?_; refine T.callV Wanted.none rfl rfl (hta) ?_; refine yq0 ?_; refine sq ?_; refine sq ?_; refine yq91 ?_; refine yq84 ?_; refine TQ.setF (d := 14) rfl (by omega) ?_; refine yq37 ?_; refine yq37 ?_; refine TQ.pv (PV.geq rfl rfl) (Wanted.guard rfl rfl rfl) rfl rfl ?_; refine yq102 ?_; refine TQ.setF (d := 21) rfl (by omega) ?_; refine TQ.pv (PV.move rfl) (Wanted.guard rfl rfl rfl) rfl rfl ?_; refine TQ.pv (PV.lss rfl rfl) (Wanted.guard rfl rfl rfl) rfl rfl ?_; refine yq102 ?_; refine yq4 ?_; refine yq4 ?_; refine yq4 ?_; refine yq4 ?_
        refine yq94 ?_; refine yq154 ?_; refine yq4 ?_; refine yq4 ?_; refine yq144 ?_; refine T.condT rfl rfl ?_; refine yq163 ?_; refine yq54 ?_
        exact T.retF (Lv.fin (RV.cellTmp rfl zq7 rfl) (by rw [hf]; rfl))
  · rw [h1] at hta
    have hch := hg.tx t (List.mem_of_getElem? h2)
    have hki := (List.getElem?_eq_some_iff.1 h2).1
    have hf : fitO c m = if fitB c m t then some t else none := by unfold fitO; rw [find_hit h4 h2 h3]
    have hin := h3
    unfold inT at hin
    simp only [Bool.and_eq_true, decide_eq_true_eq] at hin
    obtain ⟨bx, off, x, rfl, hix, hsub⟩ := RowL.get encRg_len hx.1 hki
    rw [h2] at hix
    obtain rfl := Option.some.inj hix
    unfold encRg at hsub
    obtain ⟨am, cm, hkv⟩ := (hx.2 t (List.mem_of_getElem? h2)).1.len
    rw [hkv] at hsub
    have hb : ¬ m.b < 0 := by omega
    have hk0 : ¬ (k : Int) < 0 := by omega
    by_cases he : m.e ≤ m.b
    · rw [show fitB c m t = false by unfold fitB; rw [decide_eq_false (by omega : ¬ m.b < m.e)]; rfl, if_neg (by simp)] at hf
      refine zs3 ?_; (refine T.box Wanted.none rfl rfl zq15 ?_; intro b2); (refine T.box Wanted.none rfl rfl zq15 ?_; intro b3); refine sy fun b4 => ?_; refine yq95 ?_; refine yq5 ?_; refine T.callV Wanted.none rfl rfl (hta) ?_; refine yq0 ?_; refine sq ?_; refine sq ?_; refine yq91 ?_; refine yq84 ?_; refine TQ.setF (d := 14) rfl (by omega) ?_; refine yq37 ?_; refine yq37 ?_; refine TQ.pv (PV.geq rfl rfl) (Wanted.guard rfl rfl rfl) rfl rfl ?_; refine yq102 ?_; refine TQ.setT (d := 21) rfl (by omega) ?_; refine yq4 ?_; refine TQ.pv (PV.pickT rfl rfl rfl) Wanted.none rfl rfl ?_; refine yq154 ?_; refine yq4 ?_; refine yq4 ?_; refine yq4 ?_
      refine yq94 ?_; refine yq154 ?_; refine yq4 ?_; refine yq4 ?_; refine yq144 ?_; refine T.condT rfl rfl ?_; refine yq163 ?_; refine yq54 ?_
      exact T.retF (Lv.fin (RV.cellTmp rfl zq7 rfl) (by rw [hf]; rfl))
    · by_cases he2 : t.e < m.e
      · rw [show fitB c m t = false by unfold fitB; rw [decide_eq_false (by omega : ¬ m.e ≤ t.e)]; simp, if_neg (by simp)] at hf
        refine zs3 ?_; (refine T.box Wanted.none rfl rfl zq15 ?_; intro b2); (refine T.box Wanted.none rfl rfl zq15 ?_; intro b3); refine sy fun b4 => ?_; refine yq95 ?_; refine yq5 ?_; refine T.callV Wanted.none rfl rfl (hta) ?_; refine yq0 ?_; refine sq ?_; refine sq ?_; refine yq91 ?_; refine yq84 ?_; refine TQ.setF (d := 14) rfl (by omega) ?_; refine yq37 ?_; refine yq37 ?_; refine TQ.pv (PV.geq rfl rfl) (Wanted.guard rfl rfl rfl) rfl rfl ?_; refine yq102 ?_; refine TQ.setF (d := 21) rfl (by omega) ?_; refine TQ.pv (PV.move rfl) (Wanted.guard rfl rfl rfl) rfl rfl ?_; refine TQ.pv (PV.lss rfl rfl) (Wanted.guard rfl rfl rfl) rfl rfl ?_; refine yq102 ?_; refine yq37 ?_; refine yq37 ?_; refine TQ.pv (PV.move rfl) (Wanted.guard rfl rfl rfl) rfl rfl ?_; refine yq151 ?_
        refine TQ.pv (PV.gtr rfl rfl) (Wanted.guard rfl rfl rfl) rfl rfl ?_; refine yq102 ?_; refine TQ.setT (d := 36) rfl (by omega) ?_; refine yq4 ?_; refine yq4 ?_; refine yq4 ?_; refine yq144 ?_; refine T.condT rfl rfl ?_; refine yq163 ?_; refine yq54 ?_
        exact T.retF (Lv.fin (RV.cellTmp rfl zq7 rfl) (by rw [hf]; rfl))
      · have he3 : ¬ (c.tk.length : Int) < m.e := by omega
        have hfb : fitB c m t = m.ls.all (labOk c.tk.length) := by unfold fitB; rw [decide_eq_true (by omega : m.b < m.e), decide_eq_true (by omega : m.e ≤ t.e)]; rfl
        refine zs3 ?_; (refine T.box Wanted.none rfl rfl zq15 ?_; intro b2); (refine T.box Wanted.none rfl rfl zq15 ?_; intro b3); refine sy fun b4 => ?_; refine yq95 ?_; refine yq5 ?_; refine T.callV Wanted.none rfl rfl (hta) ?_; refine yq0 ?_; refine sq ?_; refine sq ?_; refine yq91 ?_; refine yq84 ?_; refine TQ.setF (d := 14) rfl (by omega) ?_; refine yq37 ?_; refine yq37 ?_; refine TQ.pv (PV.geq rfl rfl) (Wanted.guard rfl rfl rfl) rfl rfl ?_; refine yq102 ?_; refine TQ.setF (d := 21) rfl (by omega) ?_; refine TQ.pv (PV.move rfl) (Wanted.guard rfl rfl rfl) rfl rfl ?_; refine TQ.pv (PV.lss rfl rfl) (Wanted.guard rfl rfl rfl) rfl rfl ?_; refine yq102 ?_; refine yq37 ?_; refine yq37 ?_; refine TQ.pv (PV.move rfl) (Wanted.guard rfl rfl rfl) rfl rfl ?_; refine yq151 ?_
        refine TQ.pv (PV.gtr rfl rfl) (Wanted.guard rfl rfl rfl) rfl rfl ?_; refine yq102 ?_; refine TQ.setF (d := 36) rfl (by omega) ?_; refine yq37 ?_; refine yq37 ?_; refine TQ.pv (PV.lenSl rfl) (Wanted.guard rfl rfl rfl) rfl rfl ?_; refine TQ.pv (PV.gtr rfl rfl) (Wanted.guard rfl rfl rfl) rfl rfl ?_; refine yq193 ?_; refine yq22 ?_; refine T.freezeB (b := b2) zq1 ?_
        intro H1 hle1 hb2
        have hsub := hsub.mono hle1
        have hca := containsFunc_int m.ls (.slice al m.ls.length cl) H1 (hml.mono hle1) (by omega) (fun x => !labOk c.tk.length x) 67 [.pointer (some ⟨b2, 0, none⟩)]
          (fun x _ => fits1_fn c x b2 H1 (hc.mono hle1) (by rw [show (cpC c).toArray = _ from Value.agg.inj hcv]; exact hb2))
        have hall : (m.ls.any fun x => !labOk c.tk.length x) = !m.ls.all (labOk c.tk.length) := by rw [List.all_eq_not_any_not, Bool.not_not]
        rw [hall] at hca
        rw [hfb] at hf
        cases hq : m.ls.all (labOk c.tk.length)
        · rw [hq, if_neg (by simp)] at hf
          rw [hq] at hca
          refine yq73 ?_; refine sv (PV.makeFunc rfl) ?_; refine T.callV Wanted.none rfl rfl (hca) ?_; refine yq36 ?_; refine yq163 ?_; refine yq54 ?_
          exact T.retF (Lv.fin (RV.cellTmp rfl zq7 rfl) (by rw [hf]; rfl))
        · rw [hq, if_pos rfl] at hf
          rw [hq] at hca
          refine yq73 ?_; refine sv (PV.makeFunc rfl) ?_; refine T.callV Wanted.none rfl rfl (hca) ?_; refine yq92 ?_; refine yq41 ?_; refine sm ?_; refine yq1 ?_; refine yq54 ?_
          exact T.retF (Lv.fin (RV.cellTmp rfl zq7 rfl) (by rw [hf, Option.getD_some]; unfold rgV; rw [hkv]; rfl))
theorem fitP {c : Cp} {m : Mt} {t : Rg} (hg : CpW c) (h : fitO c m = some t) : FitP c m t := by
  obtain ⟨h1, h2, h3, h4, h5, h6, h7⟩ := fitO_some hg h
  exact ⟨h2, h3, h4, h5, h6, h7⟩
end Go.Proofs.YthacphfjchpoaaaGreatDoor
