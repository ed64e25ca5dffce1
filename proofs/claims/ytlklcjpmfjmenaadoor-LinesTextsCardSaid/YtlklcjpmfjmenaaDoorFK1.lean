/- lines: the first index of an element; attributes; the text of a token; whether a match fits. -/
import Derived.Test.YtlklcjpmfjmenaaDoorG8
namespace Go.Proofs.YtlklcjpmfjmenaaDoor
open Go.RowKit


/-- the first index at which a test holds, or -1 -/
def ixI {α : Type} (g : α → Bool) (l : List α) : Int := if l.any g = true then (l.findIdx g : Int) else -1
theorem ixI_hit {α : Type} {g : α → Bool} {l : List α} {i : Nat} {x : α} (h : (l.take i).any g = false) (hx : l[i]? = some x) (hg : g x = true) : ixI g l = (i : Int) := by
  have hi := (List.getElem?_eq_some_iff.1 hx).1
  have hxe := (List.getElem?_eq_some_iff.1 hx).2
  have ha : l.any g = true := List.any_eq_true.2 ⟨x, List.mem_of_getElem? hx, hg⟩
  unfold ixI
  rw [if_pos ha]
  congr 1
  rw [List.findIdx_eq hi]
  refine ⟨by rw [hxe]; exact hg, fun j hj => ?_⟩
  have hj2 : (l.take i)[j]? = some l[j] := by rw [List.getElem?_take, if_pos hj]; exact List.getElem?_eq_getElem (by omega)
  cases hgj : g l[j]
  · rfl
  · rw [List.any_eq_true.2 ⟨_, List.mem_of_getElem? hj2, hgj⟩] at h
    exact absurd h (by simp)
theorem ixI_miss {α : Type} {g : α → Bool} {l : List α} (h : l.any g = false) : ixI g l = -1 := by
  unfold ixI
  rw [h, if_neg (by simp)]
theorem ixI_nonneg {α : Type} {g : α → Bool} {l : List α} : decide (0 ≤ ixI g l) = l.any g := by
  unfold ixI
  cases h : l.any g
  · simp
  · rw [if_pos rfl]; simp
theorem ixI_cases {α : Type} (g : α → Bool) (l : List α) : (ixI g l = -1 ∧ l.any g = false) ∨ ∃ i x, ixI g l = ((i : Nat) : Int) ∧ l[i]? = some x ∧ g x = true ∧ (l.take i).any g = false := by
  cases h : l.any g
  · exact .inl ⟨ixI_miss h, rfl⟩
  · obtain ⟨x, hx, hg⟩ := List.any_eq_true.1 h
    have hlt : l.findIdx g < l.length := List.findIdx_lt_length_of_exists ⟨x, hx, hg⟩
    refine .inr ⟨l.findIdx g, l[l.findIdx g], by unfold ixI; rw [if_pos h], List.getElem?_eq_getElem hlt, List.findIdx_getElem, ?_⟩
    cases ha : (l.take (l.findIdx g)).any g
    · rfl
    · obtain ⟨y, hy, hgy⟩ := List.any_eq_true.1 ha
      obtain ⟨j, hj, hye⟩ := List.getElem_of_mem hy
      rw [List.length_take] at hj
      rw [List.getElem_take] at hye
      have := List.not_of_lt_findIdx (p := g) (xs := l) (i := j) (by omega)
      rw [hye, hgy] at this
      exact absurd this (by simp)
theorem ixI_drop {α : Type} {g : α → Bool} {l : List α} {i : Nat} {x : α} (h : (l.take i).any g = false) (hx : l[i]? = some x) (hg : g x = false) : (l.take (i + 1)).any g = false := by
  rw [List.take_add_one, hx, List.any_append, h]
  simpa using hg
theorem indexFunc_int (l : List Int) (v : Value) (H : Hp) (hv : SlR H 1 v l.length (l.flatMap encI)) (hlb : l.length ≤ 1000000) (g : Int → Bool) (gf : FuncId) [hE : Ent Tryd.prog gf] (cap : List Value) (hg : ∀ x ∈ l, Fn Tryd.prog gf ((.int .i64 x) :: cap).toArray H (fun u _ => u = .bool (g x))) :
    Fn Tryd.prog 33 #[v, .func (.func gf) #[] cap.toArray] H (fun u _ => u = .int .i64 (ixI g l)) := by
  obtain ⟨ad, capv, rfl⟩ := hv.len
  refine Fn.of_T (vs := [.slice ad l.length capv, .func (.func gf) #[] cap.toArray]) Tryd.func33 rfl rfl fun w => ?_
  refine sq ?_
  refine sr ?_
  refine sa ?_
  refine so ?_
  refine sq ?_
  refine sq ?_
  refine sr ?_
  refine sm ?_
  refine sv (PV.lenSl rfl) ?_
  refine sm ?_
  refine so ?_
  refine T.block ?_
  refine T.loopC [(7, Value.int IntKind.i64 (↑l.length : Int)), (0, Value.slice ad l.length capv), (1, Value.func (Fn.func gf) #[] cap.toArray)] zq8 8 l.length (fun i => (l.take i).any g = false) rfl rfl ?_
  rintro i ⟨hi0, hi1⟩
  by_cases hi : i < l.length
  · obtain ⟨b, off, x, rfl, hix, hsub⟩ := RowL.get encI_len hv hi
    have hgf := hg x (List.mem_of_getElem? hix)
    unfold encI at hsub
    have hst : (l.take (i + 1)).any g = g x := by rw [List.take_add_one, hix, List.any_append, hi1]; simp
    refine sq ?_
    refine sr ?_
    refine sv (PV.lss rfl rfl) ?_
    refine so ?_
    refine sq ?_
    refine sc rfl (by omega) ?_
    refine T.skip ?_
    refine sq ?_
    refine T.block ?_
    refine sq ?_
    refine sr ?_
    refine sm ?_
    refine sa ?_
    refine so ?_
    refine sq ?_
    refine sr ?_
    refine sm ?_
    refine sm ?_
    refine sm ?_
    refine sv (PV.indexAddr rfl rfl (by omega)) ?_
    refine sv (PV.loadSub0 rfl (by assumption)) ?_
    refine T.callF (cap := cap) Wanted.none rfl rfl rfl (by exact hgf) ?_
    rintro _ H' hle rfl
    refine T.forget hle ?_ (Hp.le.refl _)
    cases hb : g x
    · refine so ?_
      refine T.condF rfl rfl ?_
      refine T.skip ?_
      refine T.blkEnd ?_
      refine sr ?_
      refine sv (PV.add rfl rfl (by omega)) ?_
      refine sm ?_
      refine so ?_
      exact T.nextC hi (hst.trans hb) rfl zq8 (by repeat (first | exact Sel.refl _ | exact Sel.nil | (refine Sel.cons zq1 ?_) | (refine Sel.app zq1 ?_) | exact Sel.one zq1))
    · refine so ?_
      refine T.condT rfl rfl ?_
      refine sq ?_
      refine sr ?_
      refine sm ?_
      refine sa ?_
      refine so ?_
      refine T.retF (Lv.fin (RV.tmp rfl rfl) ?_)
      rw [ixI_hit hi1 hix hb]
  · rw [List.take_of_length_le (by omega)] at hi1
    refine sq ?_
    refine sr ?_
    refine sv (PV.lss rfl rfl) ?_
    refine so ?_
    refine sq ?_
    refine sd rfl (by omega) ?_
    refine T.exit rfl ?_
    refine sq ?_
    refine sr ?_
    refine sa ?_
    refine so ?_
    refine T.retF (Lv.fin (RV.tmp rfl rfl) ?_)
    rw [ixI_miss hi1]
theorem containsFunc_int (l : List Int) (v : Value) (H : Hp) (hv : SlR H 1 v l.length (l.flatMap encI)) (hlb : l.length ≤ 1000000) (g : Int → Bool) (gf : FuncId) [hE : Ent Tryd.prog gf] (cap : List Value) (hg : ∀ x ∈ l, Fn Tryd.prog gf ((.int .i64 x) :: cap).toArray H (fun u _ => u = .bool (g x))) :
    Fn Tryd.prog 27 #[v, .func (.func gf) #[] cap.toArray] H (fun u _ => u = .bool (l.any g)) := by
  have hix := indexFunc_int l v H hv hlb g gf cap hg
  refine Fn.of_T (vs := [v, .func (.func gf) #[] cap.toArray]) Tryd.func27 rfl rfl fun w => ?_
  refine sq ?_
  refine sr ?_
  refine sa ?_
  refine so ?_
  refine sq ?_
  refine sr ?_
  refine sm ?_
  refine sm ?_
  refine T.callX Wanted.none rfl rfl hix ?_
  rintro _ rfl
  refine sv (PV.geq rfl rfl) ?_
  refine sa ?_
  refine so ?_
  refine T.retF (Lv.fin (RV.tmp rfl rfl) ?_)
  rw [ixI_nonneg]
end Go.Proofs.YtlklcjpmfjmenaaDoor
