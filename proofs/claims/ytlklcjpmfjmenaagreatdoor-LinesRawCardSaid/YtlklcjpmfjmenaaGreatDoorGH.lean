/- lines: the first index of an element; attributes; the text of a token; whether a match fits.
   lines: the text of a token; whether a match fits. -/
import Derived.Test.YtlklcjpmfjmenaaGreatDoorG8
namespace Go.Proofs.YtlklcjpmfjmenaaGreatDoor
open Go.RowKit

/-- the first index at which a test holds, or -1 -/
def ixI {α : Type} (g : α → Bool) (l : List α) : Int := if l.any g = true then (l.findIdx g : Int) else -1
theorem ixI_hit {α : Type} {g : α → Bool} {l : List α} {i : Nat} {x : α} (h : (l.take i).any g = false) (hx : l[i]? = some x) (hg : g x = true) : ixI g l = (i : Int) := by
  have hi := (List.getElem?_eq_some_iff.1 hx).1
  have hxe := (List.getElem?_eq_some_iff.1 hx).2
  have ha : l.any g = true := List.any_eq_true.2 ⟨x, List.mem_of_getElem? hx, hg⟩
  unfold ixI
  rw [if_pos ha]
  congr 1
  rw [List.findIdx_eq hi]
  refine ⟨by rw [hxe]; exact hg, fun j hj => ?_⟩
  have hj2 : (l.take i)[j]? = some l[j] := by rw [List.getElem?_take, if_pos hj]; exact List.getElem?_eq_getElem (by omega)
  cases hgj : g l[j]
  · rfl
  · rw [List.any_eq_true.2 ⟨_, List.mem_of_getElem? hj2, hgj⟩] at h
    exact absurd h (by simp)
theorem ixI_miss {α : Type} {g : α → Bool} {l : List α} (h : l.any g = false) : ixI g l = -1 := by
  unfold ixI
  rw [h, if_neg (by simp)]
theorem ixI_nonneg {α : Type} {g : α → Bool} {l : List α} : decide (0 ≤ ixI g l) = l.any g := by
  unfold ixI
  cases h : l.any g
  · simp
  · rw [if_pos rfl]; simp
theorem ixI_cases {α : Type} (g : α → Bool) (l : List α) : (ixI g l = -1 ∧ l.any g = false) ∨ ∃ i x, ixI g l = ((i : Nat) : Int) ∧ l[i]? = some x ∧ g x = true ∧ (l.take i).any g = false := by
  cases h : l.any g
  · exact .inl ⟨ixI_miss h, rfl⟩
  · obtain ⟨x, hx, hg⟩ := List.any_eq_true.1 h
    have hlt : l.findIdx g < l.length := List.findIdx_lt_length_of_exists ⟨x, hx, hg⟩
    refine .inr ⟨l.findIdx g, l[l.findIdx g], by unfold ixI; rw [if_pos h], List.getElem?_eq_getElem hlt, List.findIdx_getElem, ?_⟩
    cases ha : (l.take (l.findIdx g)).any g
    · rfl
    · obtain ⟨y, hy, hgy⟩ := List.any_eq_true.1 ha
      obtain ⟨j, hj, hye⟩ := List.getElem_of_mem hy
      rw [List.length_take] at hj
      rw [List.getElem_take] at hye
      have := List.not_of_lt_findIdx (p := g) (xs := l) (i := j) (by omega)
      rw [hye, hgy] at this
      exact absurd this (by simp)
theorem ixI_drop {α : Type} {g : α → Bool} {l : List α} {i : Nat} {x : α} (h : (l.take i).any g = false) (hx : l[i]? = some x) (hg : g x = false) : (l.take (i + 1)).any g = false := by
  rw [List.take_add_one, hx, List.any_append, h]
  simpa using hg
theorem indexFunc_attr (l : List (ByteArray × Bool)) (v : Value) (H : Hp) (hv : SlR H 2 v l.length (l.flatMap encAt)) (hlb : l.length ≤ 1000000) (g : (ByteArray × Bool) → Bool) (gf : FuncId) [hE : Ent Tryz.prog gf] (cap : List Value) (hg : ∀ x ∈ l, Fn Tryz.prog gf ((.agg #[.string x.1, .bool x.2]) :: cap).toArray H (fun u _ => u = .bool (g x))) :
    Fn Tryz.prog 83 #[v, .func (.func gf) #[] cap.toArray] H (fun u _ => u = .int .i64 (ixI g l)) := by
  obtain ⟨ad, capv, rfl⟩ := hv.len
  refine Fn.of_T (vs := [.slice ad l.length capv, .func (.func gf) #[] cap.toArray]) Tryz.func83 rfl rfl fun w => ?_
  refine sq ?_
  refine sr ?_
  refine sa ?_
  refine so ?_
  refine sq ?_
  refine sq ?_
  refine sr ?_
  refine sm ?_
  refine sv (PV.lenSl rfl) ?_
  refine sm ?_
  refine so ?_
  refine T.block ?_
  refine T.loopC [(7, Value.int IntKind.i64 (↑l.length : Int)), (0, Value.slice ad l.length capv), (1, Value.func (Fn.func gf) #[] cap.toArray)] zq8 8 l.length (fun i => (l.take i).any g = false) rfl rfl ?_
  rintro i ⟨hi0, hi1⟩
  by_cases hi : i < l.length
  · obtain ⟨b, off, x, rfl, hix, hsub⟩ := RowL.get encAt_len hv hi
    have hgf := hg x (List.mem_of_getElem? hix)
    unfold encAt at hsub
    have hst : (l.take (i + 1)).any g = g x := by rw [List.take_add_one, hix, List.any_append, hi1]; simp
    refine sq ?_
    refine sr ?_
    refine sv (PV.lss rfl rfl) ?_
    refine so ?_
    refine sq ?_
    refine sc rfl (by omega) ?_
    refine T.skip ?_
    refine sq ?_
    refine T.block ?_
    refine sq ?_
    refine sr ?_
    refine sm ?_
    refine sa ?_
    refine so ?_
    refine sq ?_
    refine sr ?_
    refine sm ?_
    refine sm ?_
    refine sm ?_
    refine sv (PV.indexAddr rfl rfl (by omega)) ?_
    refine sv (PV.loadSubAll rfl (by assumption) (by exact rfl)) ?_
    refine T.callF (cap := cap) Wanted.none rfl rfl rfl (by exact hgf) ?_
    rintro _ H' hle rfl
    refine T.forget hle ?_ (Hp.le.refl _)
    cases hb : g x
    · refine so ?_
      refine T.condF rfl rfl ?_
      refine T.skip ?_
      refine T.blkEnd ?_
      refine sr ?_
      refine sv (PV.add rfl rfl (by omega)) ?_
      refine sm ?_
      refine so ?_
      exact T.nextC hi (hst.trans hb) rfl zq8 (by repeat (first | exact Sel.refl _ | exact Sel.nil | (refine Sel.cons zq1 ?_) | (refine Sel.app zq1 ?_) | exact Sel.one zq1))
    · refine so ?_
      refine T.condT rfl rfl ?_
      refine sq ?_
      refine sr ?_
      refine sm ?_
      refine sa ?_
      refine so ?_
      refine T.retF (Lv.fin (RV.tmp rfl rfl) ?_)
      rw [ixI_hit hi1 hix hb]
  · rw [List.take_of_length_le (by omega)] at hi1
    refine sq ?_
    refine sr ?_
    refine sv (PV.lss rfl rfl) ?_
    refine so ?_
    refine sq ?_
    refine sd rfl (by omega) ?_
    refine T.exit rfl ?_
    refine sq ?_
    refine sr ?_
    refine sa ?_
    refine so ?_
    refine T.retF (Lv.fin (RV.tmp rfl rfl) ?_)
    rw [ixI_miss hi1]
theorem indexFunc_int (l : List Int) (v : Value) (H : Hp) (hv : SlR H 1 v l.length (l.flatMap encI)) (hlb : l.length ≤ 1000000) (g : Int → Bool) (gf : FuncId) [hE : Ent Tryz.prog gf] (cap : List Value) (hg : ∀ x ∈ l, Fn Tryz.prog gf ((.int .i64 x) :: cap).toArray H (fun u _ => u = .bool (g x))) :
    Fn Tryz.prog 99 #[v, .func (.func gf) #[] cap.toArray] H (fun u _ => u = .int .i64 (ixI g l)) := by
  obtain ⟨ad, capv, rfl⟩ := hv.len
  refine Fn.of_T (vs := [.slice ad l.length capv, .func (.func gf) #[] cap.toArray]) Tryz.func99 rfl rfl fun w => ?_
  refine sq ?_
  refine sr ?_
  refine sa ?_
  refine so ?_
  refine sq ?_
  refine sq ?_
  refine sr ?_
  refine sm ?_
  refine sv (PV.lenSl rfl) ?_
  refine sm ?_
  refine so ?_
  refine T.block ?_
  refine T.loopC [(7, Value.int IntKind.i64 (↑l.length : Int)), (0, Value.slice ad l.length capv), (1, Value.func (Fn.func gf) #[] cap.toArray)] zq8 8 l.length (fun i => (l.take i).any g = false) rfl rfl ?_
  rintro i ⟨hi0, hi1⟩
  by_cases hi : i < l.length
  · obtain ⟨b, off, x, rfl, hix, hsub⟩ := RowL.get encI_len hv hi
    have hgf := hg x (List.mem_of_getElem? hix)
    unfold encI at hsub
    have hst : (l.take (i + 1)).any g = g x := by rw [List.take_add_one, hix, List.any_append, hi1]; simp
    refine sq ?_
    refine sr ?_
    refine sv (PV.lss rfl rfl) ?_
    refine so ?_
    refine sq ?_
    refine sc rfl (by omega) ?_
    refine T.skip ?_
    refine sq ?_
    refine T.block ?_
    refine sq ?_
    refine sr ?_
    refine sm ?_
    refine sa ?_
    refine so ?_
    refine sq ?_
    refine sr ?_
    refine sm ?_
    refine sm ?_
    refine sm ?_
    refine sv (PV.indexAddr rfl rfl (by omega)) ?_
    refine sv (PV.loadSub0 rfl (by assumption)) ?_
    refine T.callF (cap := cap) Wanted.none rfl rfl rfl (by exact hgf) ?_
    rintro _ H' hle rfl
    refine T.forget hle ?_ (Hp.le.refl _)
    cases hb : g x
    · refine so ?_
      refine T.condF rfl rfl ?_
      refine T.skip ?_
      refine T.blkEnd ?_
      refine sr ?_
      refine sv (PV.add rfl rfl (by omega)) ?_
      refine sm ?_
      refine so ?_
      exact T.nextC hi (hst.trans hb) rfl zq8 (by repeat (first | exact Sel.refl _ | exact Sel.nil | (refine Sel.cons zq1 ?_) | (refine Sel.app zq1 ?_) | exact Sel.one zq1))
    · refine so ?_
      refine T.condT rfl rfl ?_
      refine sq ?_
      refine sr ?_
      refine sm ?_
      refine sa ?_
      refine so ?_
      refine T.retF (Lv.fin (RV.tmp rfl rfl) ?_)
      rw [ixI_hit hi1 hix hb]
  · rw [List.take_of_length_le (by omega)] at hi1
    refine sq ?_
    refine sr ?_
    refine sv (PV.lss rfl rfl) ?_
    refine so ?_
    refine sq ?_
    refine sd rfl (by omega) ?_
    refine T.exit rfl ?_
    refine sq ?_
    refine sr ?_
    refine sa ?_
    refine so ?_
    refine T.retF (Lv.fin (RV.tmp rfl rfl) ?_)
    rw [ixI_miss hi1]
theorem containsFunc_int (l : List Int) (v : Value) (H : Hp) (hv : SlR H 1 v l.length (l.flatMap encI)) (hlb : l.length ≤ 1000000) (g : Int → Bool) (gf : FuncId) [hE : Ent Tryz.prog gf] (cap : List Value) (hg : ∀ x ∈ l, Fn Tryz.prog gf ((.int .i64 x) :: cap).toArray H (fun u _ => u = .bool (g x))) :
    Fn Tryz.prog 73 #[v, .func (.func gf) #[] cap.toArray] H (fun u _ => u = .bool (l.any g)) := by
  have hix := indexFunc_int l v H hv hlb g gf cap hg
  refine Fn.of_T (vs := [v, .func (.func gf) #[] cap.toArray]) Tryz.func73 rfl rfl fun w => ?_
  refine sq ?_
  refine sr ?_
  refine sa ?_
  refine so ?_
  refine sq ?_
  refine sr ?_
  refine sm ?_
  refine sm ?_
  refine T.callX Wanted.none rfl rfl hix ?_
  rintro _ rfl
  refine sv (PV.geq rfl rfl) ?_
  refine sa ?_
  refine so ?_
  refine T.retF (Lv.fin (RV.tmp rfl rfl) ?_)
  rw [ixI_nonneg]
/-! ### attributes -/
def attI (l : List (ByteArray × Bool)) (nm : ByteArray) : Int := ixI (fun a => decide (a.1 = nm)) l
theorem attribute1_fn (a : ByteArray × Bool) (nm : ByteArray) (b : Nat) (H : Hp) (hb : H b = some (.cells #[.string nm] 9 (0, 0))) :
    Fn Tryz.prog 84 #[.agg #[.string a.1, .bool a.2], .pointer (some ⟨b, 0, none⟩)] H (fun u _ => u = .bool (decide (a.1 = nm))) := by
  refine Fn.of_T (vs := [.agg #[.string a.1, .bool a.2], .pointer (some ⟨b, 0, none⟩)]) Tryz.func84 rfl rfl fun w => ?_
  refine sq ?_
  refine sr ?_
  (refine T.box Wanted.none rfl rfl zq15 ?_; intro b2)
  refine sa ?_
  refine so ?_
  refine sq ?_
  refine sr ?_
  refine sf ?_
  refine sl ?_
  refine sl ?_
  refine sv (PV.seql rfl rfl) ?_
  refine sa ?_
  refine so ?_
  exact T.retF (Lv.fin (RV.tmp rfl rfl) rfl)
theorem attribute_in (l : List (ByteArray × Bool)) (v : Value) (nm : ByteArray) (H : Hp) (hv : SlR H 2 v l.length (l.flatMap encAt)) (hl : l.length ≤ 1000) :
    Fn Tryz.prog 44 #[v, .string nm] H (fun u _ => u = .int .i64 (attI l nm)) := by
  obtain ⟨ad, cap, rfl⟩ := hv.len
  refine Fn.of_T (vs := [.slice ad l.length cap, .string nm]) Tryz.func44 rfl rfl fun w => ?_
  refine sq ?_
  refine sr ?_
  (refine T.box Wanted.none rfl rfl zq15 ?_; intro b3)
  refine sa ?_
  refine so ?_
  refine T.freezeB (b := b3) zq1 ?_
  intro H1 hle1 hb3
  have hix := indexFunc_attr l (.slice ad l.length cap) H1 (hv.mono hle1) (by omega) (fun a => decide (a.1 = nm)) 84 [.pointer (some ⟨b3, 0, none⟩)] (fun a _ => attribute1_fn a nm b3 H1 hb3)
  refine sq ?_
  refine sr ?_
  refine sm ?_
  refine sv (PV.makeFunc rfl) ?_
  refine T.callV Wanted.none rfl rfl (hix) ?_
  refine sa ?_
  refine so ?_
  exact T.retF (Lv.fin (RV.tmp rfl rfl) rfl)
theorem attribute_ref (l : List (ByteArray × Bool)) (v : Value) (nm : ByteArray) (H : Hp) (hv : SlR H 2 v l.length (l.flatMap encAt)) (hl : l.length ≤ 1000) :
    Fn Tryz.prog 40 #[v, .string nm] H (fun u _ => u = .int .i64 (attI l nm)) := by
  obtain ⟨ad, cap, rfl⟩ := hv.len
  refine Fn.of_T (vs := [.slice ad l.length cap, .string nm]) Tryz.func40 rfl rfl fun w => ?_
  refine sq ?_
  refine sr ?_
  refine sa ?_
  refine so ?_
  refine sq ?_
  refine sq ?_
  refine sr ?_
  refine sm ?_
  refine sv (PV.lenSl rfl) ?_
  refine sm ?_
  refine so ?_
  refine T.block ?_
  refine T.loopC [(8, Value.int IntKind.i64 (↑l.length : Int)), (7, Value.slice ad l.length cap), (1, Value.string nm)] zq8 9 l.length (fun i => (l.take i).any (fun a => decide (a.1 = nm)) = false) rfl rfl ?_
  rintro i ⟨hi0, hi1⟩
  by_cases hi : i < l.length
  · obtain ⟨b, off, x, rfl, hix, hsub⟩ := RowL.get encAt_len hv hi
    unfold encAt at hsub
    by_cases he : x.1 = nm
    · refine sq ?_
      refine sr ?_
      refine sv (PV.lss rfl rfl) ?_
      refine so ?_
      refine sq ?_
      refine sc rfl (by omega) ?_
      refine T.skip ?_
      refine sq ?_
      refine T.block ?_
      refine sq ?_
      refine sr ?_
      refine sm ?_
      refine sv (PV.indexAddr rfl rfl (by omega)) ?_
      refine sv (PV.loadSubAll rfl (by assumption) (by exact rfl)) ?_
      refine sy fun b6 => ?_
      refine sa ?_
      refine T.storeA Wanted.none rfl rfl zq8 (by exact rfl) zq14 zq13 ?_
      refine so ?_
      refine sq ?_
      refine sr ?_
      refine sf ?_
      refine sl ?_
      refine sm ?_
      refine sv (PV.seql rfl rfl) ?_
      refine so ?_
      refine sc rfl (by omega) ?_
      refine sq ?_
      refine sr ?_
      refine sm ?_
      refine sa ?_
      refine so ?_
      refine T.retF (Lv.fin (RV.tmp rfl rfl) ?_)
      rw [attI, ixI_hit hi1 hix (decide_eq_true he)]
    · refine sq ?_
      refine sr ?_
      refine sv (PV.lss rfl rfl) ?_
      refine so ?_
      refine sq ?_
      refine sc rfl (by omega) ?_
      refine T.skip ?_
      refine sq ?_
      refine T.block ?_
      refine sq ?_
      refine sr ?_
      refine sm ?_
      refine sv (PV.indexAddr rfl rfl (by omega)) ?_
      refine sv (PV.loadSubAll rfl (by assumption) (by exact rfl)) ?_
      refine sy fun b6 => ?_
      refine sa ?_
      refine T.storeA Wanted.none rfl rfl zq8 (by exact rfl) zq14 zq13 ?_
      refine so ?_
      refine sq ?_
      refine sr ?_
      refine sf ?_
      refine sl ?_
      refine sm ?_
      refine sv (PV.seql rfl rfl) ?_
      refine so ?_
      refine sd rfl (by omega) ?_
      refine T.skip ?_
      refine T.blkEnd ?_
      refine sr ?_
      refine sv (PV.add rfl rfl (by omega)) ?_
      refine sm ?_
      refine so ?_
      exact T.nextC hi (ixI_drop hi1 hix (decide_eq_false he)) rfl zq8 (by repeat (first | exact Sel.refl _ | exact Sel.nil | (refine Sel.cons zq1 ?_) | (refine Sel.app zq1 ?_) | exact Sel.one zq1))
  · rw [List.take_of_length_le (by omega)] at hi1
    refine sq ?_
    refine sr ?_
    refine sv (PV.lss rfl rfl) ?_
    refine so ?_
    refine sq ?_
    refine sd rfl (by omega) ?_
    refine T.exit rfl ?_
    refine sq ?_
    refine sr ?_
    refine sa ?_
    refine so ?_
    refine T.retF (Lv.fin (RV.tmp rfl rfl) ?_)
    rw [attI, ixI_miss hi1]
end Go.Proofs.YtlklcjpmfjmenaaGreatDoor
namespace Go.Proofs.YtlklcjpmfjmenaaGreatDoor
open Go.RowKit

theorem RV.cellTmp {P : Program} {e : Env} {l : List (Nat × Obj)} {H : Hp} {fn : Func} {p q : Tmp} {t : TypeId} {v1 v2 : Value} (h : fn.results = #[.cell p t, .tmp q]) (hv : CV P e l H p t v1) (hv2 : e.get q = some v2) : RV P fn e l H (.tuple #[v1, v2]) := RV.mk fun X D a w ha hw => by
  unfold CV at hv
  obtain ⟨a1, g1, h1⟩ := hv
  have h1 := h1 X w hw
  simp [results, h, ha.get _ _ g1, ha.get _ _ hv2, asAddr, h1]
def inT (p : Int) (t : Rg) : Bool := decide (t.b ≤ p) && decide (p < t.e)
def labOk (n : Nat) (x : Int) : Bool := !(decide (x < -1) || decide ((n : Int) ≤ x))
def fitB (c : Cp) (m : Mt) (t : Rg) : Bool := decide (m.b < m.e) && decide (m.e ≤ t.e) && m.ls.all (labOk c.tk.length)
/-- the text that a match fits -/
def fitO (c : Cp) (m : Mt) : Option Rg := match c.tx.find? (inT m.b) with
  | none => none
  | some t => if fitB c m t then some t else none
theorem find_hit {α : Type} {g : α → Bool} {l : List α} {i : Nat} {x : α} (h : (l.take i).any g = false) (hx : l[i]? = some x) (hg : g x = true) : l.find? g = some x := by
  have hi := (List.getElem?_eq_some_iff.1 hx).1
  have e : l = l.take i ++ x :: l.drop (i + 1) := by
    have h1 : l.drop i = x :: l.drop (i + 1) := by rw [List.drop_eq_getElem_cons hi, (List.getElem?_eq_some_iff.1 hx).2]
    rw [← h1, List.take_append_drop]
  rw [e, List.find?_append, List.find?_eq_none.2 (List.any_eq_false.1 h)]
  simp [hg]
theorem find_miss {α : Type} {g : α → Bool} {l : List α} (h : l.any g = false) : l.find? g = none :=
  List.find?_eq_none.2 (List.any_eq_false.1 h)
theorem textAt_in (c : Cp) (p : Int) (H : Hp) (hc : CpL H c) : Fn Tryz.prog 72 #[cpV c, .int .i64 p] H (fun u _ => u = .int .i64 (ixI (inT p) c.tx)) := by
  obtain ⟨aa, ca, at1, ct, ax, cx, ar, cr, an, cn, ah, ch, as1, cs, hcv, ha, ht, hx, hr, hn, hh, hs⟩ := hc.open; rw [hcv]; have hla := hc.la; have hlt := hc.lt; have hlx := hc.lx; have hlr := hc.lr; have hln := hc.ln; have hlh := hc.lh; have hls := hc.ls
  refine Fn.of_T (vs := [.agg #[.slice aa c.att.length ca, .slice at1 c.tk.length ct, .slice ax c.tx.length cx, .slice ar c.rg.length cr, .slice an c.nd.length cn, .slice ah c.hd.length ch, .slice as1 c.rl.length cs], .int .i64 p]) Tryz.func72 rfl rfl fun w => ?_
  refine sq ?_
  refine sr ?_
  (refine T.box Wanted.none rfl rfl zq15 ?_; intro b2)
  refine sa ?_
  refine so ?_
  refine sq ?_
  refine sq ?_
  refine sr ?_
  refine sf ?_
  refine sl ?_
  refine sv (PV.lenSl rfl) ?_
  refine sm ?_
  refine so ?_
  refine T.block ?_
  refine T.loopC [(9, Value.int IntKind.i64 (↑c.tx.length : Int)), (8, Value.slice ax c.tx.length cx), (1, Value.int IntKind.i64 p)] zq8 10 c.tx.length (fun i => (c.tx.take i).any (inT p) = false) rfl rfl ?_
  rintro i ⟨hi0, hi1⟩
  by_cases hi : i < c.tx.length
  · obtain ⟨bx, off, x, rfl, hix, hsub⟩ := RowL.get encRg_len hx.1 hi
    unfold encRg at hsub
    obtain ⟨am, cm, hmv⟩ := (hx.2 x (List.mem_of_getElem? hix)).1.len
    rw [hmv] at hsub
    by_cases h1 : x.b ≤ p
    · by_cases h2 : p < x.e
      · have ht : inT p x = true := by unfold inT; rw [decide_eq_true h1, decide_eq_true h2]; rfl
        refine sq ?_
        refine sr ?_
        refine sv (PV.lss rfl rfl) ?_
        refine so ?_
        refine sq ?_
        refine sc rfl (by omega) ?_
        refine T.skip ?_
        refine sq ?_
        refine T.block ?_
        refine sq ?_
        refine sr ?_
        refine sm ?_
        refine sv (PV.indexAddr rfl rfl (by omega)) ?_
        refine sv (PV.loadSubAll rfl (by assumption) (by exact rfl)) ?_
        refine sy fun b6 => ?_
        refine sa ?_
        refine T.storeA Wanted.none rfl rfl zq8 (by exact rfl) zq14 zq13 ?_
        refine so ?_
        refine sq ?_
        refine sr ?_
        refine sf ?_
        refine sl ?_
        refine sm ?_
        refine sv (PV.leq rfl rfl) ?_
        refine sm ?_
        refine T.setT (d := 19) rfl (by omega) ?_
        refine gm ?_
        refine gf ?_
        refine gl ?_
        refine gv (PV.lss rfl rfl) ?_
        refine sT ?_
        refine so ?_
        refine sc rfl (by omega) ?_
        refine sq ?_
        refine sr ?_
        refine sm ?_
        refine sa ?_
        refine so ?_
        refine T.retF (Lv.fin (RV.tmp rfl rfl) ?_)
        rw [ixI_hit hi1 hix ht]
      · have ht : inT p x = false := by unfold inT; rw [decide_eq_false h2]; simp
        refine sq ?_
        refine sr ?_
        refine sv (PV.lss rfl rfl) ?_
        refine so ?_
        refine sq ?_
        refine sc rfl (by omega) ?_
        refine T.skip ?_
        refine sq ?_
        refine T.block ?_
        refine sq ?_
        refine sr ?_
        refine sm ?_
        refine sv (PV.indexAddr rfl rfl (by omega)) ?_
        refine sv (PV.loadSubAll rfl (by assumption) (by exact rfl)) ?_
        refine sy fun b6 => ?_
        refine sa ?_
        refine T.storeA Wanted.none rfl rfl zq8 (by exact rfl) zq14 zq13 ?_
        refine so ?_
        refine sq ?_
        refine sr ?_
        refine sf ?_
        refine sl ?_
        refine sm ?_
        refine sv (PV.leq rfl rfl) ?_
        refine sm ?_
        refine T.setT (d := 19) rfl (by omega) ?_
        refine gm ?_
        refine gf ?_
        refine gl ?_
        refine gv (PV.lss rfl rfl) ?_
        refine sT ?_
        refine so ?_
        refine sd rfl (by omega) ?_
        refine T.skip ?_
        refine T.blkEnd ?_
        refine sr ?_
        refine sv (PV.add rfl rfl (by omega)) ?_
        refine sm ?_
        refine so ?_
        exact T.nextC hi (ixI_drop hi1 hix ht) rfl zq8 (by repeat (first | exact Sel.refl _ | exact Sel.nil | (refine Sel.cons zq1 ?_) | (refine Sel.app zq1 ?_) | exact Sel.one zq1))
    · have ht : inT p x = false := by unfold inT; rw [decide_eq_false h1]; simp
      refine sq ?_
      refine sr ?_
      refine sv (PV.lss rfl rfl) ?_
      refine so ?_
      refine sq ?_
      refine sc rfl (by omega) ?_
      refine T.skip ?_
      refine sq ?_
      refine T.block ?_
      refine sq ?_
      refine sr ?_
      refine sm ?_
      refine sv (PV.indexAddr rfl rfl (by omega)) ?_
      refine sv (PV.loadSubAll rfl (by assumption) (by exact rfl)) ?_
      refine sy fun b6 => ?_
      refine sa ?_
      refine T.storeA Wanted.none rfl rfl zq8 (by exact rfl) zq14 zq13 ?_
      refine so ?_
      refine sq ?_
      refine sr ?_
      refine sf ?_
      refine sl ?_
      refine sm ?_
      refine sv (PV.leq rfl rfl) ?_
      refine sm ?_
      refine T.setF (d := 19) rfl (by omega) ?_
      refine sp ?_
      refine sp ?_
      refine sp ?_
      refine sp ?_
      refine sF ?_
      refine so ?_
      refine T.condF rfl rfl ?_
      refine T.skip ?_
      refine T.blkEnd ?_
      refine sr ?_
      refine sv (PV.add rfl rfl (by omega)) ?_
      refine sm ?_
      refine so ?_
      exact T.nextC hi (ixI_drop hi1 hix ht) rfl zq8 (by repeat (first | exact Sel.refl _ | exact Sel.nil | (refine Sel.cons zq1 ?_) | (refine Sel.app zq1 ?_) | exact Sel.one zq1))
  · rw [List.take_of_length_le (by omega)] at hi1
    refine sq ?_
    refine sr ?_
    refine sv (PV.lss rfl rfl) ?_
    refine so ?_
    refine sq ?_
    refine sd rfl (by omega) ?_
    refine T.exit rfl ?_
    refine sq ?_
    refine sr ?_
    refine sa ?_
    refine so ?_
    refine T.retF (Lv.fin (RV.tmp rfl rfl) ?_)
    rw [ixI_miss hi1]
theorem textOf_ref (c : Cp) (p : Int) (H : Hp) (hc : CpL H c) : Fn Tryz.prog 32 #[cpV c, .int .i64 p] H (fun u _ => u = .tuple #[rgV ((c.tx.find? (inT p)).getD zeroRg), .bool (c.tx.find? (inT p)).isSome]) := by
  obtain ⟨aa, ca, at1, ct, ax, cx, ar, cr, an, cn, ah, ch, as1, cs, hcv, ha, ht, hx, hr, hn, hh, hs⟩ := hc.open; rw [hcv]; have hla := hc.la; have hlt := hc.lt; have hlx := hc.lx; have hlr := hc.lr; have hln := hc.ln; have hlh := hc.lh; have hls := hc.ls
  refine Fn.of_T (vs := [.agg #[.slice aa c.att.length ca, .slice at1 c.tk.length ct, .slice ax c.tx.length cx, .slice ar c.rg.length cr, .slice an c.nd.length cn, .slice ah c.hd.length ch, .slice as1 c.rl.length cs], .int .i64 p]) Tryz.func32 rfl rfl fun w => ?_
  refine sq ?_
  refine sr ?_
  (refine T.box Wanted.none rfl rfl zq15 ?_; intro b2)
  refine sy fun b4 => ?_
  refine sa ?_
  refine so ?_
  refine sq ?_
  refine sq ?_
  refine sr ?_
  refine sf ?_
  refine sl ?_
  refine sv (PV.lenSl rfl) ?_
  refine sm ?_
  refine so ?_
  refine T.block ?_
  refine T.loopC [(10, Value.int IntKind.i64 (↑c.tx.length : Int)), (9, Value.slice ax c.tx.length cx), (4, Value.pointer (some { block := b4, off := 0 })), (1, Value.int IntKind.i64 p)] zq8 11 c.tx.length (fun i => (c.tx.take i).any (inT p) = false) rfl rfl ?_
  rintro i ⟨hi0, hi1⟩
  by_cases hi : i < c.tx.length
  · obtain ⟨bx, off, x, rfl, hix, hsub⟩ := RowL.get encRg_len hx.1 hi
    unfold encRg at hsub
    obtain ⟨am, cm, hmv⟩ := (hx.2 x (List.mem_of_getElem? hix)).1.len
    rw [hmv] at hsub
    by_cases h1 : x.b ≤ p
    · by_cases h2 : p < x.e
      · have ht : inT p x = true := by unfold inT; rw [decide_eq_true h1, decide_eq_true h2]; rfl
        refine sq ?_
        refine sr ?_
        refine sv (PV.lss rfl rfl) ?_
        refine so ?_
        refine sq ?_
        refine sc rfl (by omega) ?_
        refine T.skip ?_
        refine sq ?_
        refine T.block ?_
        refine sq ?_
        refine sr ?_
        refine sv (PV.indexAddr rfl rfl (by omega)) ?_
        refine sv (PV.loadSubAll rfl (by assumption) (by exact rfl)) ?_
        refine sy fun b7 => ?_
        refine T.storeA Wanted.none rfl rfl zq8 (by exact rfl) zq14 zq13 ?_
        refine so ?_
        refine sq ?_
        refine sr ?_
        refine sf ?_
        refine sl ?_
        refine sm ?_
        refine sv (PV.leq rfl rfl) ?_
        refine sm ?_
        refine T.setT (d := 19) rfl (by omega) ?_
        refine gm ?_
        refine gf ?_
        refine gl ?_
        refine gv (PV.lss rfl rfl) ?_
        refine sT ?_
        refine so ?_
        refine sc rfl (by omega) ?_
        refine sq ?_
        refine sr ?_
        refine sv (PV.loadAll rfl zq0 (by exact rfl)) ?_
        refine T.storeA Wanted.none rfl rfl zq8 (by exact rfl) zq14 zq13 ?_
        refine sa ?_
        refine so ?_
        refine T.retF (Lv.fin (RV.cellTmp rfl zq7 rfl) ?_)
        rw [find_hit hi1 hix ht]
        unfold rgV
        rw [Option.getD_some, hmv]
        rfl
      · have ht : inT p x = false := by unfold inT; rw [decide_eq_false h2]; simp
        refine sq ?_
        refine sr ?_
        refine sv (PV.lss rfl rfl) ?_
        refine so ?_
        refine sq ?_
        refine sc rfl (by omega) ?_
        refine T.skip ?_
        refine sq ?_
        refine T.block ?_
        refine sq ?_
        refine sr ?_
        refine sv (PV.indexAddr rfl rfl (by omega)) ?_
        refine sv (PV.loadSubAll rfl (by assumption) (by exact rfl)) ?_
        refine sy fun b7 => ?_
        refine T.storeA Wanted.none rfl rfl zq8 (by exact rfl) zq14 zq13 ?_
        refine so ?_
        refine sq ?_
        refine sr ?_
        refine sf ?_
        refine sl ?_
        refine sm ?_
        refine sv (PV.leq rfl rfl) ?_
        refine sm ?_
        refine T.setT (d := 19) rfl (by omega) ?_
        refine gm ?_
        refine gf ?_
        refine gl ?_
        refine gv (PV.lss rfl rfl) ?_
        refine sT ?_
        refine so ?_
        refine sd rfl (by omega) ?_
        refine T.skip ?_
        refine T.blkEnd ?_
        refine sr ?_
        refine sv (PV.add rfl rfl (by omega)) ?_
        refine sm ?_
        refine so ?_
        exact T.nextC hi (ixI_drop hi1 hix ht) rfl zq8 (by repeat (first | exact Sel.refl _ | exact Sel.nil | (refine Sel.cons zq1 ?_) | (refine Sel.app zq1 ?_) | exact Sel.one zq1))
    · have ht : inT p x = false := by unfold inT; rw [decide_eq_false h1]; simp
      refine sq ?_
      refine sr ?_
      refine sv (PV.lss rfl rfl) ?_
      refine so ?_
      refine sq ?_
      refine sc rfl (by omega) ?_
      refine T.skip ?_
      refine sq ?_
      refine T.block ?_
      refine sq ?_
      refine sr ?_
      refine sv (PV.indexAddr rfl rfl (by omega)) ?_
      refine sv (PV.loadSubAll rfl (by assumption) (by exact rfl)) ?_
      refine sy fun b7 => ?_
      refine T.storeA Wanted.none rfl rfl zq8 (by exact rfl) zq14 zq13 ?_
      refine so ?_
      refine sq ?_
      refine sr ?_
      refine sf ?_
      refine sl ?_
      refine sm ?_
      refine sv (PV.leq rfl rfl) ?_
      refine sm ?_
      refine T.setF (d := 19) rfl (by omega) ?_
      refine sp ?_
      refine sp ?_
      refine sp ?_
      refine sp ?_
      refine sF ?_
      refine so ?_
      refine T.condF rfl rfl ?_
      refine T.skip ?_
      refine T.blkEnd ?_
      refine sr ?_
      refine sv (PV.add rfl rfl (by omega)) ?_
      refine sm ?_
      refine so ?_
      exact T.nextC hi (ixI_drop hi1 hix ht) rfl zq8 (by repeat (first | exact Sel.refl _ | exact Sel.nil | (refine Sel.cons zq1 ?_) | (refine Sel.app zq1 ?_) | exact Sel.one zq1))
  · rw [List.take_of_length_le (by omega)] at hi1
    refine sq ?_
    refine sr ?_
    refine sv (PV.lss rfl rfl) ?_
    refine so ?_
    refine sq ?_
    refine sd rfl (by omega) ?_
    refine T.exit rfl ?_
    refine sq ?_
    refine sr ?_
    refine sv (PV.build rfl zq12) ?_
    refine T.storeA Wanted.none rfl rfl zq8 (by exact rfl) zq14 zq13 ?_
    refine sa ?_
    refine so ?_
    refine T.retF (Lv.fin (RV.cellTmp rfl zq7 rfl) ?_)
    rw [find_miss hi1]
    rfl
theorem fits1_fn (c : Cp) (x : Int) (b : Nat) (H : Hp) (hc : CpL H c) (hb : H b = some (.cells (cpC c).toArray 34 (0, 0))) :
    Fn Tryz.prog 74 #[.int .i64 x, .pointer (some ⟨b, 0, none⟩)] H (fun u _ => u = .bool (!labOk c.tk.length x)) := by
  obtain ⟨at1, ct, hvt⟩ := hc.t.len
  unfold cpC at hb
  rw [hvt] at hb
  refine Fn.of_T (vs := [.int .i64 x, .pointer (some ⟨b, 0, none⟩)]) Tryz.func74 rfl rfl fun w => ?_
  have hl : (!labOk c.tk.length x) = (decide (x < -1) || decide ((c.tk.length : Int) ≤ x)) := by unfold labOk; simp
  by_cases h1 : x < -1
  · refine sq ?_
    refine sr ?_
    refine sa ?_
    refine so ?_
    refine sq ?_
    refine sr ?_
    refine sm ?_
    refine sv (PV.lss rfl rfl) ?_
    refine sm ?_
    refine T.setT (d := 6) rfl (by omega) ?_
    refine sp ?_
    refine sp ?_
    refine sp ?_
    refine sp ?_
    refine sp ?_
    refine sT ?_
    refine sa ?_
    refine so ?_
    exact T.retF (Lv.fin (RV.tmp rfl rfl) (by rw [hl, decide_eq_true h1]; rfl))
  · refine sq ?_
    refine sr ?_
    refine sa ?_
    refine so ?_
    refine sq ?_
    refine sr ?_
    refine sm ?_
    refine sv (PV.lss rfl rfl) ?_
    refine sm ?_
    refine T.setF (d := 6) rfl (by omega) ?_
    refine gm ?_
    refine gf ?_
    refine gl ?_
    refine gv (PV.lenSl rfl) ?_
    refine gv (PV.geq rfl rfl) ?_
    refine sF ?_
    refine sa ?_
    refine so ?_
    exact T.retF (Lv.fin (RV.tmp rfl rfl) (by rw [hl, decide_eq_false h1]; rfl))
theorem fits_ref (c : Cp) (m : Mt) (H : Hp) (hc : CpL H c) (hm : LabOk H m) (hl : m.ls.length ≤ 1000) : Fn Tryz.prog 31 #[cpV c, mtV m] H (fun u _ => u = .bool (fitO c m).isSome) := by
  have hto := textOf_ref c m.b H hc
  obtain ⟨al, cl, hmv⟩ := hm.1.len
  have hml := hm.1
  rw [hmv] at hml
  revert hto
  obtain ⟨aa, ca, at1, ct, ax, cx, ar, cr, an, cn, ah, ch, as1, cs, hcv, ha, ht, hx, hr, hn, hh, hs⟩ := hc.open; rw [hcv]; have hla := hc.la; have hlt := hc.lt; have hlx := hc.lx; have hlr := hc.lr; have hln := hc.ln; have hlh := hc.lh; have hls := hc.ls
  intro hto
  unfold mtV
  rw [hmv]
  refine Fn.of_T (vs := [.agg #[.slice aa c.att.length ca, .slice at1 c.tk.length ct, .slice ax c.tx.length cx, .slice ar c.rg.length cr, .slice an c.nd.length cn, .slice ah c.hd.length ch, .slice as1 c.rl.length cs], .agg #[.int .i64 m.b, .int .i64 m.e, .slice al m.ls.length cl]]) Tryz.func31 rfl rfl fun w => ?_
  cases hfd : c.tx.find? (inT m.b) with
  | none =>
    rw [hfd] at hto
    have hf : fitO c m = none := by unfold fitO; rw [hfd]
    change Fn _ _ _ _ (fun u _ => u = .tuple #[.agg #[.string (bs []), .int .i64 0, .int .i64 0, .slice none 0 0], .bool false]) at hto
    refine sq ?_
    refine sr ?_
    (refine T.box Wanted.none rfl rfl zq15 ?_; intro b2)
    (refine T.box Wanted.none rfl rfl zq15 ?_; intro b3)
    refine sa ?_
    refine so ?_
    refine sq ?_
    refine sr ?_
    refine sv (PV.loadAll rfl zq0 (by exact rfl)) ?_
    refine sf ?_
    refine sl ?_
    refine T.callV Wanted.none rfl rfl (hto) ?_
    refine sm ?_
    refine sv (PV.extract rfl rfl) ?_
    refine sv (PV.extract rfl rfl) ?_
    refine sy fun b5 => ?_
    refine T.storeA Wanted.none rfl rfl zq8 (by exact rfl) zq14 zq13 ?_
    refine sa ?_
    refine so ?_
    refine sq ?_
    refine sq ?_
    refine sr ?_
    refine sm ?_
    refine sv (PV.not rfl) ?_
    refine sm ?_
    refine sp ?_
    refine sp ?_
    refine sp ?_
    refine sp ?_
    refine sp ?_
    refine sT ?_
    refine sm ?_
    refine sp ?_
    refine sp ?_
    refine sp ?_
    refine sp ?_
    refine sp ?_
    refine sT ?_
    refine so ?_
    refine T.condT rfl rfl ?_
    refine sq ?_
    refine sr ?_
    refine sa ?_
    refine so ?_
    exact T.retF (Lv.fin (RV.tmp rfl rfl) (by rw [hf]; rfl))
  | some t =>
    have hmem := List.mem_of_find?_eq_some hfd
    obtain ⟨am, cm, hkv⟩ := (hx.2 t hmem).1.len
    have hf : fitO c m = if fitB c m t then some t else none := by unfold fitO; rw [hfd]
    rw [hfd, Option.getD_some] at hto
    unfold rgV at hto
    rw [hkv] at hto
    change Fn _ _ _ _ (fun u _ => u = .tuple #[.agg #[.string t.ty, .int .i64 t.b, .int .i64 t.e, .slice am t.ks.length cm], .bool true]) at hto
    by_cases he : m.e ≤ m.b
    · rw [show fitB c m t = false by unfold fitB; rw [decide_eq_false (by omega : ¬ m.b < m.e)]; rfl, if_neg (by simp)] at hf
      refine sq ?_
      refine sr ?_
      (refine T.box Wanted.none rfl rfl zq15 ?_; intro b2)
      (refine T.box Wanted.none rfl rfl zq15 ?_; intro b3)
      refine sa ?_
      refine so ?_
      refine sq ?_
      refine sr ?_
      refine sv (PV.loadAll rfl zq0 (by exact rfl)) ?_
      refine sf ?_
      refine sl ?_
      refine T.callV Wanted.none rfl rfl (hto) ?_
      refine sm ?_
      refine sv (PV.extract rfl rfl) ?_
      refine sv (PV.extract rfl rfl) ?_
      refine sy fun b5 => ?_
      refine T.storeA Wanted.none rfl rfl zq8 (by exact rfl) zq14 zq13 ?_
      refine sa ?_
      refine so ?_
      refine sq ?_
      refine sq ?_
      refine sr ?_
      refine sm ?_
      refine sv (PV.not rfl) ?_
      refine sm ?_
      refine gf ?_
      refine gl ?_
      refine gf ?_
      refine gl ?_
      refine gv (PV.geq rfl rfl) ?_
      refine sF ?_
      refine sm ?_
      refine T.setT (d := 25) rfl (by omega) ?_
      refine sp ?_
      refine sp ?_
      refine sp ?_
      refine sp ?_
      refine sp ?_
      refine sT ?_
      refine so ?_
      refine T.condT rfl rfl ?_
      refine sq ?_
      refine sr ?_
      refine sa ?_
      refine so ?_
      exact T.retF (Lv.fin (RV.tmp rfl rfl) (by rw [hf]; rfl))
    · by_cases he2 : t.e < m.e
      · rw [show fitB c m t = false by unfold fitB; rw [decide_eq_false (by omega : ¬ m.e ≤ t.e)]; simp, if_neg (by simp)] at hf
        refine sq ?_
        refine sr ?_
        (refine T.box Wanted.none rfl rfl zq15 ?_; intro b2)
        (refine T.box Wanted.none rfl rfl zq15 ?_; intro b3)
        refine sa ?_
        refine so ?_
        refine sq ?_
        refine sr ?_
        refine sv (PV.loadAll rfl zq0 (by exact rfl)) ?_
        refine sf ?_
        refine sl ?_
        refine T.callV Wanted.none rfl rfl (hto) ?_
        refine sm ?_
        refine sv (PV.extract rfl rfl) ?_
        refine sv (PV.extract rfl rfl) ?_
        refine sy fun b5 => ?_
        refine T.storeA Wanted.none rfl rfl zq8 (by exact rfl) zq14 zq13 ?_
        refine sa ?_
        refine so ?_
        refine sq ?_
        refine sq ?_
        refine sr ?_
        refine sm ?_
        refine sv (PV.not rfl) ?_
        refine sm ?_
        refine gf ?_
        refine gl ?_
        refine gf ?_
        refine gl ?_
        refine gv (PV.geq rfl rfl) ?_
        refine sF ?_
        refine sm ?_
        refine T.setF (d := 25) rfl (by omega) ?_
        refine gf ?_
        refine gl ?_
        refine gf ?_
        refine gl ?_
        refine gv (PV.gtr rfl rfl) ?_
        refine sF ?_
        refine so ?_
        refine sc rfl (by omega) ?_
        refine sq ?_
        refine sr ?_
        refine sa ?_
        refine so ?_
        exact T.retF (Lv.fin (RV.tmp rfl rfl) (by rw [hf]; rfl))
      · have hfb : fitB c m t = m.ls.all (labOk c.tk.length) := by unfold fitB; rw [decide_eq_true (by omega : m.b < m.e), decide_eq_true (by omega : m.e ≤ t.e)]; rfl
        rw [hfb] at hf
        refine sq ?_
        refine sr ?_
        (refine T.box Wanted.none rfl rfl zq15 ?_; intro b2)
        (refine T.box Wanted.none rfl rfl zq15 ?_; intro b3)
        refine sa ?_
        refine so ?_
        refine sq ?_
        refine sr ?_
        refine sv (PV.loadAll rfl zq0 (by exact rfl)) ?_
        refine sf ?_
        refine sl ?_
        refine T.callV Wanted.none rfl rfl (hto) ?_
        refine sm ?_
        refine sv (PV.extract rfl rfl) ?_
        refine sv (PV.extract rfl rfl) ?_
        refine sy fun b5 => ?_
        refine T.storeA Wanted.none rfl rfl zq8 (by exact rfl) zq14 zq13 ?_
        refine sa ?_
        refine so ?_
        refine sq ?_
        refine sq ?_
        refine sr ?_
        refine sm ?_
        refine sv (PV.not rfl) ?_
        refine sm ?_
        refine gf ?_
        refine gl ?_
        refine gf ?_
        refine gl ?_
        refine gv (PV.geq rfl rfl) ?_
        refine sF ?_
        refine sm ?_
        refine T.setF (d := 25) rfl (by omega) ?_
        refine gf ?_
        refine gl ?_
        refine gf ?_
        refine gl ?_
        refine gv (PV.gtr rfl rfl) ?_
        refine sF ?_
        refine so ?_
        refine sd rfl (by omega) ?_
        refine T.skip ?_
        refine sq ?_
        refine sq ?_
        refine sr ?_
        refine sf ?_
        refine sl ?_
        refine sv (PV.lenSl rfl) ?_
        refine sm ?_
        refine so ?_
        refine T.block ?_
        refine T.loopC [(34, Value.int IntKind.i64 (↑m.ls.length : Int)), (33, Value.slice al m.ls.length cl), (2, Value.pointer (some { block := b2, off := 0 }))] zq8 35 m.ls.length (fun i => (m.ls.take i).all (labOk c.tk.length) = true) rfl rfl ?_
        rintro i ⟨hi0, hi1⟩
        by_cases hi : i < m.ls.length
        · obtain ⟨x, hix⟩ : ∃ x, m.ls[i]? = some x := ⟨_, List.getElem?_eq_getElem hi⟩
          obtain ⟨b1, off1, rfl, hsub⟩ := hml.intAt hix
          by_cases h1 : x < -1
          · have hn : m.ls.all (labOk c.tk.length) = false := List.all_eq_false.2 ⟨x, List.mem_of_getElem? hix, by unfold labOk; simp; omega⟩
            rw [hn, if_neg (by simp)] at hf
            refine sq ?_
            refine sr ?_
            refine sv (PV.lss rfl rfl) ?_
            refine so ?_
            refine sq ?_
            refine sc rfl (by omega) ?_
            refine T.skip ?_
            refine sq ?_
            refine T.block ?_
            refine sq ?_
            refine sr ?_
            refine sv (PV.indexAddr rfl rfl (by omega)) ?_
            refine sv (PV.loadSub0 rfl (by assumption)) ?_
            refine sa ?_
            refine so ?_
            refine sq ?_
            refine sr ?_
            refine sm ?_
            refine sv (PV.lss rfl rfl) ?_
            refine sm ?_
            refine T.setT (d := 41) rfl (by omega) ?_
            refine sp ?_
            refine sp ?_
            refine sp ?_
            refine sp ?_
            refine sp ?_
            refine sT ?_
            refine so ?_
            refine T.condT rfl rfl ?_
            refine sq ?_
            refine sr ?_
            refine sa ?_
            refine so ?_
            exact T.retF (Lv.fin (RV.tmp rfl rfl) (by rw [hf]; rfl))
          · by_cases h2 : (c.tk.length : Int) ≤ x
            · have hn : m.ls.all (labOk c.tk.length) = false := List.all_eq_false.2 ⟨x, List.mem_of_getElem? hix, by unfold labOk; simp; omega⟩
              rw [hn, if_neg (by simp)] at hf
              refine sq ?_
              refine sr ?_
              refine sv (PV.lss rfl rfl) ?_
              refine so ?_
              refine sq ?_
              refine sc rfl (by omega) ?_
              refine T.skip ?_
              refine sq ?_
              refine T.block ?_
              refine sq ?_
              refine sr ?_
              refine sv (PV.indexAddr rfl rfl (by omega)) ?_
              refine sv (PV.loadSub0 rfl (by assumption)) ?_
              refine sa ?_
              refine so ?_
              refine sq ?_
              refine sr ?_
              refine sm ?_
              refine sv (PV.lss rfl rfl) ?_
              refine sm ?_
              refine T.setF (d := 41) rfl (by omega) ?_
              refine gm ?_
              refine gf ?_
              refine gl ?_
              refine gv (PV.lenSl rfl) ?_
              refine gv (PV.geq rfl rfl) ?_
              refine sF ?_
              refine so ?_
              refine sc rfl (by omega) ?_
              refine sq ?_
              refine sr ?_
              refine sa ?_
              refine so ?_
              exact T.retF (Lv.fin (RV.tmp rfl rfl) (by rw [hf]; rfl))
            · have hst : (m.ls.take (i + 1)).all (labOk c.tk.length) = true := by
                rw [List.take_add_one, hix, List.all_append, hi1]
                show (labOk c.tk.length x && true) = true
                unfold labOk
                rw [decide_eq_false h1, decide_eq_false h2]
                rfl
              refine sq ?_
              refine sr ?_
              refine sv (PV.lss rfl rfl) ?_
              refine so ?_
              refine sq ?_
              refine sc rfl (by omega) ?_
              refine T.skip ?_
              refine sq ?_
              refine T.block ?_
              refine sq ?_
              refine sr ?_
              refine sv (PV.indexAddr rfl rfl (by omega)) ?_
              refine sv (PV.loadSub0 rfl (by assumption)) ?_
              refine sa ?_
              refine so ?_
              refine sq ?_
              refine sr ?_
              refine sm ?_
              refine sv (PV.lss rfl rfl) ?_
              refine sm ?_
              refine T.setF (d := 41) rfl (by omega) ?_
              refine gm ?_
              refine gf ?_
              refine gl ?_
              refine gv (PV.lenSl rfl) ?_
              refine gv (PV.geq rfl rfl) ?_
              refine sF ?_
              refine so ?_
              refine sd rfl (by omega) ?_
              refine T.skip ?_
              refine T.blkEnd ?_
              refine sr ?_
              refine sv (PV.add rfl rfl (by omega)) ?_
              refine sm ?_
              refine so ?_
              exact T.nextC hi hst rfl zq8 (by repeat (first | exact Sel.refl _ | exact Sel.nil | (refine Sel.cons zq1 ?_) | (refine Sel.app zq1 ?_) | exact Sel.one zq1))
        · rw [List.take_of_length_le (by omega)] at hi1
          rw [hi1, if_pos rfl] at hf
          refine sq ?_
          refine sr ?_
          refine sv (PV.lss rfl rfl) ?_
          refine so ?_
          refine sq ?_
          refine sd rfl (by omega) ?_
          refine T.exit rfl ?_
          refine sq ?_
          refine sr ?_
          refine sa ?_
          refine so ?_
          exact T.retF (Lv.fin (RV.tmp rfl rfl) (by rw [hf]; rfl))
end Go.Proofs.YtlklcjpmfjmenaaGreatDoor
