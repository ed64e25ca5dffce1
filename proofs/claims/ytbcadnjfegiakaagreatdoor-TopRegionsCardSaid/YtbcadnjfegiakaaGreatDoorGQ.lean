/- any corpus: filters; how a region is related to a span.
   any corpus: the regions of a type, one by one; Holds, Last.
   any corpus: whether a span satisfies a filter.
   any corpus: Apply. -/
import Derived.Test.YtbcadnjfegiakaaGreatDoorGG
import Derived.Test.YtbcadnjfegiakaaGreatDoorGN
namespace Go.Proofs.YtbcadnjfegiakaaGreatDoor
open Go.RowKit

structure Fl where
  op : Int
  nt : Bool
  rg : ByteArray
def encFl (f : Fl) : List Value := [.int .i64 f.op, .bool f.nt, .string f.rg]
theorem encFl_len (f : Fl) : (encFl f).length = 3 := rfl
def flV (f : Fl) : Value := .agg #[.int .i64 f.op, .bool f.nt, .string f.rg]
abbrev FlL (H : Hp) (v : Value) (l : List Fl) : Prop := SlR H 3 v l.length (l.flatMap encFl)
def flErr (f : Fl) : Int := if f.op < 1 ∨ 3 < f.op then 1 else if validName f.rg then 0 else 4
def flsErr : List Fl → Int
  | [] => 0
  | f :: l => if flErr f ≠ 0 then flErr f else flsErr l
theorem flsErr_drop {l : List Fl} {i : Nat} {f : Fl} (h : l[i]? = some f) : flsErr (l.drop i) = if flErr f ≠ 0 then flErr f else flsErr (l.drop (i + 1)) := by
  have := List.getElem?_eq_some_iff.1 h
  rw [List.drop_eq_getElem_cons this.1, this.2, flsErr]
theorem validName_eq0 {s : ByteArray} (h : 1 ≤ s.size) (h2 : s.size ≤ 32) {c : UInt8} (h0 : s.data.toList[0]? = some c) (hf : nmFst (c.toNat : Int) = true) : validName s = s.data.toList.all nmB := by
  rw [validName_eq h h2 h0, hf]
  have := validName_drop h0
  rw [List.drop_zero] at this
  rw [this]
  unfold nmB nmNxt
  rw [hf]; simp
theorem name_fn (s : ByteArray) (H : Hp) : Fn Tryz.prog 118 #[.string s] H (fun u _ => u = .bool (validName s)) := by
  refine Fn.of_T (vs := [.string s]) Tryz.func118 rfl rfl fun w => ?_
  by_cases h1 : s.size < 1
  · refine zs3 ?_; refine yq11 ?_; refine yq4 ?_; refine sv (PV.lenStr rfl) ?_; refine sv (PV.lss rfl rfl) ?_; refine sm ?_; refine T.setT (d := 7) rfl (by omega) ?_; refine yq17 ?_; refine sp ?_; refine sT ?_; refine sm ?_; refine yq17 ?_; refine yq17 ?_; refine sT ?_; refine so ?_; refine T.condT rfl rfl ?_; refine zs3 ?_; refine yq0 ?_
    exact T.retF (Lv.fin (RV.tmp rfl rfl) (by unfold validName; simp [show ¬ 1 ≤ s.size by omega]))
  by_cases h2 : 32 < s.size
  · refine zs3 ?_; refine yq11 ?_; refine yq4 ?_; refine sv (PV.lenStr rfl) ?_; refine sv (PV.lss rfl rfl) ?_; refine sm ?_; refine T.setF (d := 7) rfl (by omega) ?_; refine gm ?_; refine gv (PV.lenStr rfl) ?_; refine gv (PV.gtr rfl rfl) ?_; refine sF ?_; refine sm ?_; refine T.setT (d := 12) rfl (by omega) ?_; refine yq17 ?_; refine yq17 ?_; refine sT ?_; refine so ?_; refine T.condT rfl rfl ?_; refine zs3 ?_; refine yq0 ?_
    exact T.retF (Lv.fin (RV.tmp rfl rfl) (by unfold validName; simp [show ¬ s.size ≤ 32 by omega]))
  obtain ⟨c, hc⟩ := byteAt (s := s) (i := 0) (by omega)
  have hc' : s.data.toList[(0 : Int).toNat]? = some c := hc
  have he := validName_eq (s := s) (by omega) (by omega) hc
  refine zs3 ?_; refine yq11 ?_; refine yq4 ?_; refine sv (PV.lenStr rfl) ?_; refine sv (PV.lss rfl rfl) ?_; refine sm ?_; refine T.setF (d := 7) rfl (by omega) ?_; refine gm ?_; refine gv (PV.lenStr rfl) ?_; refine gv (PV.gtr rfl rfl) ?_; refine sF ?_; refine sm ?_; refine T.setF (d := 12) rfl (by omega) ?_; refine gm ?_; refine gv (PV.indexStr rfl rfl (by omega) (by assumption)) ?_; refine T.callV (Wanted.guard rfl rfl rfl) rfl rfl (begins_fn _ _) ?_; refine gv (PV.not rfl) ?_; refine sF ?_; refine so ?_
  cases hf : nmFst (c.toNat : Int)
  · rw [hf] at he
    refine T.condT rfl rfl ?_; refine zs3 ?_; refine yq0 ?_
    exact T.retF (Lv.fin (RV.tmp rfl rfl) (by rw [he]; simp))
  rw [validName_eq0 (by omega) (by omega) hc hf]
  refine yq7 ?_; refine sq ?_; refine yq4 ?_; refine sv (PV.lenStr rfl) ?_; refine yq35 ?_; refine T.loopC [(19, Value.int IntKind.i64 (↑s.size : Int)), (0, Value.string s)] zq8 20 s.size (fun i => (s.data.toList.drop i).all nmB = s.data.toList.all nmB) (by simp) rfl ?_
  rintro i ⟨h3, h5⟩
  by_cases hi : i < s.size
  · obtain ⟨d, hd⟩ := byteAt hi
    rw [validName_drop hd] at h5
    have hd' : s.data.toList[((i : Nat) : Int).toNat]? = some d := by rw [Int.toNat_natCast]; exact hd
    refine yq16 ?_; refine sC rfl (by omega) ?_; refine yq25 ?_; refine yq4 ?_; refine yq28 ?_; refine sm ?_; refine sv (PV.indexStr rfl rfl (by omega) (by assumption)) ?_; refine T.callV Wanted.none rfl rfl (goesOn_fn _ _) ?_; refine sv (PV.not rfl) ?_; refine so ?_
    cases hn : nmNxt (d.toNat : Int)
    · refine T.condT rfl rfl ?_; refine zs3 ?_; refine yq0 ?_
      exact T.retF (Lv.fin (RV.tmp rfl rfl) (by rw [← h5]; unfold nmB; rw [hn]; rfl))
    · refine yq7 ?_; refine yq33 ?_; refine yq23 ?_
      exact T.nextC hi (by rw [← h5]; unfold nmB; rw [hn]; rfl) rfl zq8 (by repeat (first | exact Sel.refl _ | exact Sel.nil | (refine Sel.cons zq1 ?_) | (refine Sel.app zq1 ?_) | exact Sel.one zq1))
  · refine yq16 ?_; refine yq21 ?_; refine zs3 ?_; refine yq0 ?_
    exact T.retF (Lv.fin (RV.tmp rfl rfl) (by rw [← h5, List.drop_of_length_le (by simp; omega)]; rfl))
theorem validate_in (l : List Fl) (v : Value) (H : Hp) (hv : FlL H v l) (hlb : l.length ≤ 1000000) : Fn Tryz.prog 171 #[v] H (fun u _ => u = .int .i64 (flsErr l)) := by
  obtain ⟨ad, cap, rfl⟩ := hv.len
  refine Fn.of_T (vs := [.slice ad l.length cap]) Tryz.func171 rfl rfl fun w => ?_; refine zs3 ?_; refine yq11 ?_; refine yq30 ?_; refine yq35 ?_; refine T.loopC [(6, Value.int IntKind.i64 (↑l.length : Int)), (5, Value.slice ad l.length cap)] zq8 7 l.length (fun i => flsErr (l.drop i) = flsErr l) (by simp) rfl ?_
  rintro i ⟨h3, h5⟩
  by_cases hi : i < l.length
  · obtain ⟨b, off, f, rfl, hix, hsub⟩ := RowL.get encFl_len hv hi
    unfold encFl at hsub
    rw [flsErr_drop hix] at h5
    by_cases h1 : f.op < 1 ∨ 3 < f.op
    · have he : flErr f = 1 := by unfold flErr; rw [if_pos h1]
      rw [he] at h5
      rcases h1 with h1 | h1
      · refine yq16 ?_; refine sC rfl (by omega) ?_; refine yq25 ?_; refine zs3 ?_; refine yq5 ?_; refine sy fun b4 => ?_; refine yq9 ?_; refine sq ?_; refine zs3 ?_; refine yq6 ?_; refine sv (PV.lss rfl rfl) ?_; refine sm ?_; refine T.setT (d := 14) rfl (by omega) ?_; refine yq17 ?_; refine sp ?_; refine sT ?_; refine so ?_; refine T.condT rfl rfl ?_; refine zs3 ?_; refine yq0 ?_
        exact T.retF (Lv.fin (RV.tmp rfl rfl) (by rw [← h5]; rfl))
      · refine yq16 ?_; refine sC rfl (by omega) ?_; refine yq25 ?_; refine zs3 ?_; refine yq5 ?_; refine sy fun b4 => ?_; refine yq9 ?_; refine sq ?_; refine zs3 ?_; refine yq6 ?_; refine sv (PV.lss rfl rfl) ?_; refine sm ?_; refine T.setF (d := 14) rfl (by omega) ?_; refine yq26 ?_; refine gv (PV.gtr rfl rfl) ?_; refine sF ?_; refine so ?_; refine sC rfl (by omega) ?_; refine zs3 ?_; refine yq0 ?_
        exact T.retF (Lv.fin (RV.tmp rfl rfl) (by rw [← h5]; rfl))
    · refine yq16 ?_; refine sC rfl (by omega) ?_; refine yq25 ?_; refine zs3 ?_; refine yq5 ?_; refine sy fun b4 => ?_; refine yq9 ?_; refine sq ?_; refine zs3 ?_; refine yq6 ?_; refine sv (PV.lss rfl rfl) ?_; refine sm ?_; refine T.setF (d := 14) rfl (by omega) ?_; refine yq26 ?_; refine gv (PV.gtr rfl rfl) ?_; refine sF ?_; refine so ?_; refine sd rfl (by omega) ?_; refine T.skip ?_; refine zs3 ?_; refine yq6 ?_; refine T.callV Wanted.none rfl rfl (name_fn _ _) ?_; refine sv (PV.not rfl) ?_; refine so ?_
      cases hn : validName f.rg
      · have he : flErr f = 4 := by unfold flErr; rw [if_neg h1, hn]; rfl
        rw [he] at h5
        refine T.condT rfl rfl ?_; refine zs3 ?_; refine yq0 ?_
        exact T.retF (Lv.fin (RV.tmp rfl rfl) (by rw [← h5]; rfl))
      · have he : flErr f = 0 := by unfold flErr; rw [if_neg h1, hn]; rfl
        rw [he] at h5
        refine yq7 ?_; refine yq33 ?_; refine yq23 ?_
        have h6 : flsErr (l.drop (i + 1)) = flsErr l := by simpa using h5
        exact T.nextC hi h6 rfl zq8 (by repeat (first | exact Sel.refl _ | exact Sel.nil | (refine Sel.cons zq1 ?_) | (refine Sel.app zq1 ?_) | exact Sel.one zq1))
  · refine yq16 ?_; refine yq21 ?_; refine zs3 ?_; refine yq0 ?_
    exact T.retF (Lv.fin (RV.tmp rfl rfl) (by rw [← h5, List.drop_of_length_le (by omega)]; rfl))
/-- how a region is related to a span -/
def relB (op : Int) (r : Rg) (s : Sp) : Bool :=
  if op = 1 then decide (r.b ≤ s.1) && decide (s.2 ≤ r.e) else if op = 2 then decide (s.1 ≤ r.b) && decide (r.e ≤ s.2) else decide (r.b < s.2) && decide (s.1 < r.e)
theorem related_fn (op : Int) (r : Rg) (s : Sp) (H : Hp) (hr : RgA H r) : Fn Tryz.prog 172 #[.int .i64 op, rgV r, spV s] H (fun u _ => u = .bool (relB op r s)) := by
  obtain ⟨ak, ck, hk⟩ := hr.1.len
  unfold rgV spV
  rw [hk]
  refine Fn.of_T (vs := [.int .i64 op, .agg #[.string r.ty, .int .i64 r.b, .int .i64 r.e, .slice ak r.ks.length ck], .agg #[.int .i64 s.1, .int .i64 s.2]]) Tryz.func172 rfl rfl fun w => ?_
  unfold relB
  by_cases h1 : op = 1
  · rw [if_pos h1]
    refine zs3 ?_; (refine T.box Wanted.none rfl rfl zq15 ?_; intro b4); (refine T.box Wanted.none rfl rfl zq15 ?_; intro b5); refine yq11 ?_; refine yq4 ?_; refine so ?_; refine T.block ?_; refine zs3 ?_; refine yq32 ?_; refine sC rfl (by omega) ?_; refine zs3 ?_; refine yq6 ?_; refine yq6 ?_; refine sv (PV.leq rfl rfl) ?_; refine sm ?_
    refine T.splitD (d := 15) rfl (fun h0 => ?_) (fun h0 => ?_)
    · refine yq26 ?_; refine yq26 ?_; refine gv (PV.leq rfl rfl) ?_; refine sT ?_; refine yq0 ?_; (exact T.retF (Lv.fin (RV.tmp rfl rfl) (by congr 1; rw [Bool.eq_iff_iff]; simp <;> omega)))
    · refine yq17 ?_; refine yq17 ?_; refine sp ?_; refine sF ?_; refine yq0 ?_; (exact T.retF (Lv.fin (RV.tmp rfl rfl) (by congr 1; rw [Bool.eq_iff_iff]; simp <;> omega)))
  rw [if_neg h1]
  by_cases h2 : op = 2
  · rw [if_pos h2]
    refine zs3 ?_; (refine T.box Wanted.none rfl rfl zq15 ?_; intro b4); (refine T.box Wanted.none rfl rfl zq15 ?_; intro b5); refine yq11 ?_; refine yq4 ?_; refine so ?_; refine T.block ?_; refine zs3 ?_; refine yq32 ?_; refine sd rfl (by omega) ?_; refine zs3 ?_; refine yq32 ?_; refine sC rfl (by omega) ?_; refine zs3 ?_; refine yq6 ?_; refine yq6 ?_; refine sv (PV.leq rfl rfl) ?_; refine sm ?_
    refine T.splitD (d := 29) rfl (fun h0 => ?_) (fun h0 => ?_)
    · refine yq26 ?_; refine yq26 ?_; refine gv (PV.leq rfl rfl) ?_; refine sT ?_; refine yq0 ?_; (exact T.retF (Lv.fin (RV.tmp rfl rfl) (by congr 1; rw [Bool.eq_iff_iff]; simp <;> omega)))
    · refine yq17 ?_; refine yq17 ?_; refine sp ?_; refine sF ?_; refine yq0 ?_; (exact T.retF (Lv.fin (RV.tmp rfl rfl) (by congr 1; rw [Bool.eq_iff_iff]; simp <;> omega)))
  rw [if_neg h2]
  refine zs3 ?_; (refine T.box Wanted.none rfl rfl zq15 ?_; intro b4); (refine T.box Wanted.none rfl rfl zq15 ?_; intro b5); refine yq11 ?_; refine yq4 ?_; refine so ?_; refine T.block ?_; refine zs3 ?_; refine yq32 ?_; refine sd rfl (by omega) ?_; refine zs3 ?_; refine yq32 ?_; refine sd rfl (by omega) ?_; refine T.skip ?_; refine T.blkEnd ?_; refine zs3 ?_; refine yq6 ?_; refine yq6 ?_; refine sv (PV.lss rfl rfl) ?_; refine sm ?_
  refine T.splitD (d := 41) rfl (fun h0 => ?_) (fun h0 => ?_)
  · refine yq26 ?_; refine yq26 ?_; refine gv (PV.lss rfl rfl) ?_; refine sT ?_; refine yq0 ?_; (exact T.retF (Lv.fin (RV.tmp rfl rfl) (by congr 1; rw [Bool.eq_iff_iff]; simp <;> omega)))
  · refine yq17 ?_; refine yq17 ?_; refine sp ?_; refine sF ?_; refine yq0 ?_; (exact T.retF (Lv.fin (RV.tmp rfl rfl) (by congr 1; rw [Bool.eq_iff_iff]; simp <;> omega)))
end Go.Proofs.YtbcadnjfegiakaaGreatDoor
namespace Go.Proofs.YtbcadnjfegiakaaGreatDoor
open Go.RowKit

def encOf (p : Rg × Nat) : List Value := [.int .i64 (p.2 : Int), rgV p.1]
def ofL (l : List Rg) (kind : ByteArray) : List (Rg × Nat) := l.zipIdx.filter fun p => decide (p.1.ty = kind)
def ofN (l : List Rg) (kind : ByteArray) (i : Nat) : Nat := ((l.zipIdx.take i).filter fun p => decide (p.1.ty = kind)).length
theorem filter_at {α : Type} {p : α → Bool} {l : List α} {i : Nat} {x : α} (h : l[i]? = some x) (hp : p x = true) : (l.filter p)[((l.take i).filter p).length]? = some x := by
  have hi := List.getElem?_eq_some_iff.1 h
  have hl : l = l.take i ++ x :: l.drop (i + 1) := by
    conv => lhs; rw [← List.take_append_drop i l, List.drop_eq_getElem_cons hi.1, hi.2]
  conv => lhs; rw [hl]
  rw [List.filter_append, List.getElem?_append_right (by rw [← hl]; exact Nat.le_refl _), ← hl, Nat.sub_self, List.filter_cons, if_pos hp]
  rfl
theorem zip_at {l : List Rg} {i : Nat} {r : Rg} (h : l[i]? = some r) : l.zipIdx[i]? = some (r, i) := by
  rw [List.getElem?_zipIdx, h]; simp
theorem ofN_in {l : List Rg} {kind : ByteArray} {i : Nat} {r : Rg} (h : l[i]? = some r) (hk : r.ty = kind) : (ofL l kind)[ofN l kind i]? = some (r, i) ∧ ofN l kind (i + 1) = ofN l kind i + 1 := by
  have hz := zip_at h
  refine ⟨filter_at hz (by simp [hk]), ?_⟩
  unfold ofN
  rw [List.take_add_one, hz, List.filter_append, List.length_append]
  simp [hk]
theorem ofN_out {l : List Rg} {kind : ByteArray} {i : Nat} {r : Rg} (h : l[i]? = some r) (hk : ¬ r.ty = kind) : ofN l kind (i + 1) = ofN l kind i := by
  unfold ofN
  rw [List.take_add_one, zip_at h, List.filter_append, List.length_append]
  simp [hk]
theorem ofN_end {l : List Rg} {kind : ByteArray} : ofN l kind l.length = (ofL l kind).length := by
  unfold ofN ofL
  rw [List.take_of_length_le (by simp)]
structure OfG where
  i : Nat
  lc : List (Nat × Obj)
  H : Hp
theorem of_fn (c : Cp) (kind : ByteArray) (H : Hp) : Fn Tryz.prog 23 #[cpV c, .string kind] H (fun u H' => ∃ bc bk, u = .func (.func 45) #[] #[.pointer (some ⟨bc, 0, none⟩), .pointer (some ⟨bk, 0, none⟩)] ∧ H' bc = some (.cells (cpC c).toArray 30 (0, 0)) ∧ H' bk = some (.cells #[.string kind] 9 (0, 0))) := by
  unfold cpV cpC
  refine Fn.of_T (vs := [.agg #[c.va, c.vt, c.vx, c.vr, c.vn, c.vh, c.vs], .string kind]) Tryz.func23 rfl rfl fun w => ?_; refine zs3 ?_; (refine T.box Wanted.none rfl rfl zq15 ?_; intro b2); (refine T.box Wanted.none rfl rfl zq15 ?_; intro b3); refine yq14 ?_; refine sv (PV.makeFunc rfl) ?_; refine yq0 ?_; refine T.freezeB (b := b2) zq1 ?_
  intro H1 hle1 hb1
  refine T.freezeB (b := b3) zq1 ?_
  intro H2 hle2 hb2
  exact T.retF (Lv.fin (RV.tmp rfl rfl) ⟨_, _, rfl, hle2 _ _ hb1, hb2⟩)
set_option maxHeartbeats 1000000 in
theorem of_iter (c : Cp) (kind : ByteArray) (bc bk : Nat) (H : Hp) (hc : CpA H c) (hbc : H bc = some (.cells (cpC c).toArray 30 (0, 0))) (hbk : H bk = some (.cells #[.string kind] 9 (0, 0))) :
    Iter Tryz.prog 45 [.pointer (some ⟨bc, 0, none⟩), .pointer (some ⟨bk, 0, none⟩)] H (ofL c.rg kind) encOf := by
  refine Iter.of_T Tryz.func45 rfl rfl fun x0 L I Ix hY lc Hc h0 hle => ?_
  obtain ⟨aa, ca, at1, ct, ax, cx, ar, cr, an, cn, ah, ch, as1, cs, hcv, ha, ht, hx, hr, hn, hh, hs⟩ := (hc.mono hle).open
  have hlr := hc.lr
  have hbc' := hle _ _ hbc
  have hbk' := hle _ _ hbk
  have hcc : (cpC c).toArray = #[.slice aa c.att.length ca, .slice at1 c.tk.length ct, .slice ax c.tx.length cx, .slice ar c.rg.length cr, .slice an c.nd.length cn, .slice ah c.hd.length ch, .slice as1 c.rl.length cs] := by
    unfold cpV at hcv
    injection hcv
  rw [hcc] at hbc'
  refine zs3 ?_; refine yq12 ?_; refine yq35 ?_; refine T.loopK [(8, Value.int IntKind.i64 (↑c.rg.length : Int)), (7, Value.slice ar c.rg.length cr), (0, Value.func (Fn.yield L) #[] #[]), (2, Value.pointer (some { block := bk, off := 0 }))] zq8 (γ := OfG) (fun g => g.i ≤ c.rg.length ∧ I (ofN c.rg kind g.i) g.lc g.H ∧ Hc.le g.H) (fun g => [(9, .int .i64 (g.i : Int))]) (fun g => g.lc) (fun g => g.H) (fun g => c.rg.length - g.i) ⟨0, lc, Hc⟩ ⟨by simp, h0, Hp.le.refl _⟩ zq8 (Sel.refl _) rfl ?_
  rintro ⟨i, lc, Hk⟩ ⟨g1, g2, g3⟩
  dsimp only at g1 g2 g3 ⊢
  have hbk2 := g3 _ _ hbk'
  by_cases hi : i < c.rg.length
  · obtain ⟨bx, off, r, rfl, hir, hsub⟩ := RowL.get encRg_len (hr.1.mono g3) hi
    obtain ⟨am, cm, hmv⟩ := (hr.2 r (List.mem_of_getElem? hir)).1.len
    unfold encRg at hsub
    rw [hmv] at hsub
    by_cases hk : r.ty = kind
    · have hd := decide_eq_true hk
      obtain ⟨n1, n2⟩ := ofN_in hir hk
      refine yq16 ?_; refine sC rfl (by omega) ?_; refine yq25 ?_; refine yq4 ?_; refine yq5 ?_; refine sy fun b5 => ?_; refine sa ?_; refine yq13 ?_; refine yq6 ?_; refine sl ?_; refine sv (PV.seql rfl rfl) ?_; refine sm ?_; refine T.pv (PV.move rfl) (Wanted.guard rfl rfl (by assumption)) rfl rfl ?_; refine T.pv (PV.move rfl) (Wanted.guard rfl rfl (by assumption)) rfl rfl ?_; refine T.pv (PV.loadAll rfl zq0 (by exact rfl)) (Wanted.guard rfl rfl (by assumption)) rfl rfl ?_; refine T.setT (d := 18) rfl (by omega) ?_; refine T.yield (li := [_]) hY (Wanted.guard rfl rfl rfl) rfl rfl n1 (by unfold encOf rgV; rw [hmv]; rfl) g2 ?_ ?_
      · intro lc' H' hle' hI'
        refine gv (PV.not rfl) ?_; refine sT ?_; refine so ?_; refine yq7 ?_; refine yq33 ?_; refine yq23 ?_
        exact T.nextP ⟨i + 1, lc', H'⟩ ⟨by dsimp only; omega, by dsimp only; rw [n2]; exact hI', g3.trans hle'⟩ (by dsimp only; omega) zq8 (by repeat (first | exact Sel.refl _ | exact Sel.nil | (refine Sel.cons zq1 ?_) | (refine Sel.app zq1 ?_) | exact Sel.one zq1)) rfl
      · intro lc' H' hle' hI'
        refine gv (PV.not rfl) ?_; refine sT ?_; refine so ?_; refine T.condT rfl rfl ?_
        exact T.retI rfl lc' zq4 (g3.trans hle') (.inr hI')
    · have hd := decide_eq_false hk
      have n2 := ofN_out hir hk
      refine yq16 ?_; refine sC rfl (by omega) ?_; refine yq25 ?_; refine yq4 ?_; refine yq5 ?_; refine sy fun b5 => ?_; refine sa ?_; refine yq13 ?_; refine yq6 ?_; refine sl ?_; refine sv (PV.seql rfl rfl) ?_; refine sm ?_; refine T.pass (Unwanted.guard rfl rfl (by assumption)) rfl rfl ?_; refine T.pass (Unwanted.guard rfl rfl (by assumption)) rfl rfl ?_; refine T.pass (Unwanted.guard rfl rfl (by assumption)) rfl rfl ?_; refine T.pass (Unwanted.guard rfl rfl (by assumption)) rfl rfl ?_; refine T.pass (Unwanted.guard rfl rfl (by assumption)) rfl rfl ?_; refine sv (PV.pickF rfl (by assumption) rfl) ?_; refine so ?_; refine yq7 ?_; refine yq33 ?_; refine yq23 ?_
      exact T.nextP ⟨i + 1, lc, Hk⟩ ⟨by dsimp only; omega, by dsimp only; rw [n2]; exact g2, g3⟩ (by dsimp only; omega) zq8 (by repeat (first | exact Sel.refl _ | exact Sel.nil | (refine Sel.cons zq1 ?_) | (refine Sel.app zq1 ?_) | exact Sel.one zq1)) rfl
  · have hin : i = c.rg.length := by omega
    rw [hin, ofN_end] at g2
    refine yq16 ?_; refine yq21 ?_
    exact T.fallI rfl lc zq4 g3 (.inl g2)
end Go.Proofs.YtbcadnjfegiakaaGreatDoor
namespace Go.Proofs.YtbcadnjfegiakaaGreatDoor
open Go.RowKit

/-- a filter and a span of which nothing is asked -/
def offB (n : Nat) (f : Fl) (s : Sp) : Prop := flErr f ≠ 0 ∨ s.1 < 0 ∨ s.2 ≤ s.1 ∨ (n : Int) < s.2
instance (n : Nat) (f : Fl) (s : Sp) : Decidable (offB n f s) := by unfold offB; infer_instance
def someB (l : List Rg) (f : Fl) (s : Sp) : Bool := l.any fun r => decide (r.ty = f.rg) && relB f.op r s
def holdsB (c : Cp) (f : Fl) (s : Sp) : Bool := if offB c.tk.length f s then false else (someB c.rg f s != f.nt)
theorem ofL_any (l : List Rg) (kind : ByteArray) (p : Rg → Bool) : (ofL l kind).any (fun x => p x.1) = l.any fun r => decide (r.ty = kind) && p r := by
  unfold ofL
  have : ∀ (l : List Rg) (n : Nat), ((l.zipIdx n).filter fun p => decide (p.1.ty = kind)).any (fun x => p x.1) = l.any fun r => decide (r.ty = kind) && p r := by
    intro l
    induction l with
    | nil => intro n; rfl
    | cons r l ih =>
      intro n
      rw [List.zipIdx_cons, List.filter_cons, List.any_cons, ← ih (n + 1)]
      by_cases h : r.ty = kind
      · rw [if_pos (by simp [h])]; simp [h]
      · rw [if_neg (by simp [h])]; simp [h]
  exact this l 0
theorem ofL_mem {l : List Rg} {kind : ByteArray} {r : Rg} {i : Nat} (h : (r, i) ∈ ofL l kind) : r ∈ l := by
  have := (List.mem_filter.1 h).1
  exact (List.mem_zipIdx' this).2 ▸ List.getElem_mem _
set_option maxHeartbeats 2000000 in
theorem holds_in (c : Cp) (f : Fl) (s : Sp) (H : Hp) (hc : CpA H c) : Fn Tryz.prog 86 #[cpV c, flV f, spV s] H (fun u _ => u = .bool (holdsB c f s)) := by
  have hof := fun H' => of_fn c f.rg H'
  have hve := fun (H' : Hp) v (h : FlL H' v [f]) => validate_in [f] v H' h (by simp)
  have hfe : flsErr [f] = flErr f := by
    unfold flsErr flsErr; split
    · rfl
    · omega
  have hrl := hc.r
  obtain ⟨at1, ct, hvt⟩ := hc.t.len
  have hlt := hc.lt
  unfold holdsB
  unfold cpV cpC at hof
  unfold cpV flV spV
  rw [hvt] at hof ⊢
  refine Fn.of_T (vs := [.agg #[c.va, .slice at1 c.tk.length ct, c.vx, c.vr, c.vn, c.vh, c.vs], .agg #[.int .i64 f.op, .bool f.nt, .string f.rg], .agg #[.int .i64 s.1, .int .i64 s.2]]) Tryz.func86 rfl rfl fun w => ?_; refine zs3 ?_; (refine T.box Wanted.none rfl rfl zq15 ?_; intro b3); (refine T.box Wanted.none rfl rfl zq15 ?_; intro b4); (refine T.box Wanted.none rfl rfl zq15 ?_; intro b5); refine sy fun b6 => ?_; refine so ?_; refine sq ?_; refine zs3 ?_; refine sv (PV.loadAll rfl zq0 (by exact rfl)) ?_; (refine T.buildSlice Wanted.none rfl rfl zq11 (by exact rfl) (by exact rfl) ?_; intro b10); refine T.freezeB (b := b10) zq1 ?_
  intro H1 hle1 hb1
  have hv1 := hve H1 (.slice (some ⟨b10, 0, none⟩) 1 1) ⟨rfl, .inr ⟨b10, 0, 1, _, _, _, rfl, hb1, rfl, Nat.le_refl 1⟩⟩
  rw [hfe] at hv1
  refine T.callV Wanted.none rfl rfl (hv1) ?_; refine sv (PV.neq rfl rfl) ?_; refine sm ?_
  have hoff : ∀ (P : Prop), (offB c.tk.length f s) → P → (if offB c.tk.length f s then false else (someB c.rg f s != f.nt)) = false := fun P h _ => if_pos h
  by_cases h1 : flErr f ≠ 0
  · refine T.setT (d := 13) rfl (by omega) ?_; refine yq17 ?_; refine sp ?_; refine sT ?_; refine sm ?_; refine yq17 ?_; refine yq17 ?_; refine sp ?_; refine sT ?_; refine sm ?_; refine yq17 ?_; refine yq17 ?_; refine yq17 ?_; refine sT ?_; refine so ?_; refine T.condT rfl rfl ?_; refine zs3 ?_; refine T.store1 Wanted.none rfl rfl rfl zq14 zq13 ?_; refine so ?_
    exact T.retF (Lv.fin zq6 (by rw [if_pos (show offB c.tk.length f s from .inl h1)]))
  by_cases h2 : s.1 < 0
  · refine T.setF (d := 13) rfl (by omega) ?_; refine yq26 ?_; refine gv (PV.lss rfl rfl) ?_; refine sF ?_; refine sm ?_; refine T.setT (d := 18) rfl (by omega) ?_; refine yq17 ?_; refine yq17 ?_; refine sp ?_; refine sT ?_; refine sm ?_; refine yq17 ?_; refine yq17 ?_; refine yq17 ?_; refine sT ?_; refine so ?_; refine T.condT rfl rfl ?_; refine zs3 ?_; refine T.store1 Wanted.none rfl rfl rfl zq14 zq13 ?_; refine so ?_
    exact T.retF (Lv.fin zq6 (by rw [if_pos (show offB c.tk.length f s from .inr (.inl h2))]))
  by_cases h3 : s.2 ≤ s.1
  · refine T.setF (d := 13) rfl (by omega) ?_; refine yq26 ?_; refine gv (PV.lss rfl rfl) ?_; refine sF ?_; refine sm ?_; refine T.setF (d := 18) rfl (by omega) ?_; refine yq26 ?_; refine yq26 ?_; refine gv (PV.geq rfl rfl) ?_; refine sF ?_; refine sm ?_; refine T.setT (d := 25) rfl (by omega) ?_; refine yq17 ?_; refine yq17 ?_; refine yq17 ?_; refine sT ?_; refine so ?_; refine T.condT rfl rfl ?_; refine zs3 ?_; refine T.store1 Wanted.none rfl rfl rfl zq14 zq13 ?_; refine so ?_
    exact T.retF (Lv.fin zq6 (by rw [if_pos (show offB c.tk.length f s from .inr (.inr (.inl h3)))]))
  by_cases h4 : (c.tk.length : Int) < s.2
  · refine T.setF (d := 13) rfl (by omega) ?_; refine yq26 ?_; refine gv (PV.lss rfl rfl) ?_; refine sF ?_; refine sm ?_; refine T.setF (d := 18) rfl (by omega) ?_; refine yq26 ?_; refine yq26 ?_; refine gv (PV.geq rfl rfl) ?_; refine sF ?_; refine sm ?_; refine T.setF (d := 25) rfl (by omega) ?_; refine yq26 ?_; refine yq26 ?_; refine gv (PV.lenSl rfl) ?_; refine gv (PV.gtr rfl rfl) ?_; refine sF ?_; refine so ?_; refine sC rfl (by omega) ?_; refine zs3 ?_; refine T.store1 Wanted.none rfl rfl rfl zq14 zq13 ?_; refine so ?_
    exact T.retF (Lv.fin zq6 (by rw [if_pos (show offB c.tk.length f s from .inr (.inr (.inr h4)))]))
  have hno : ¬ offB c.tk.length f s := by unfold offB; omega
  rw [if_neg hno]
  refine T.setF (d := 13) rfl (by omega) ?_; refine yq26 ?_; refine gv (PV.lss rfl rfl) ?_; refine sF ?_; refine sm ?_; refine T.setF (d := 18) rfl (by omega) ?_; refine yq26 ?_; refine yq26 ?_; refine gv (PV.geq rfl rfl) ?_; refine sF ?_; refine sm ?_; refine T.setF (d := 25) rfl (by omega) ?_; refine yq26 ?_; refine yq26 ?_; refine gv (PV.lenSl rfl) ?_; refine gv (PV.gtr rfl rfl) ?_; refine sF ?_; refine so ?_; refine sd rfl (by omega) ?_; refine T.skip ?_; refine sq ?_; refine zs3 ?_; refine sv (PV.loadAll rfl zq0 (by exact rfl)) ?_; refine yq6 ?_; refine T.call Wanted.none rfl rfl (hof H1) ?_
  rintro _ H2 hle2 ⟨bc, bk, rfl, hbc, hbk⟩
  refine so ?_; refine T.block ?_
  have hany := ofL_any c.rg f.rg fun r => relB f.op r s
  refine T.rangeFunc rfl rfl (of_iter c f.rg bc bk H2 (hc.mono (hle1.trans hle2)) (by unfold cpC; rw [hvt]; exact hbc) hbk) (fun _ => rfl) rfl (by decide)
    (fun n lk _ => lk = [(b6, .cells #[.bool false] 4 (0, 0)), (b5, .cells #[.int .i64 s.1, .int .i64 s.2] 57 (0, 0)), (b4, .cells #[.int .i64 f.op, .bool f.nt, .string f.rg] 50 (0, 0)), (b3, .cells #[c.va, .slice at1 c.tk.length ct, c.vx, c.vr, c.vn, c.vh, c.vs] 30 (0, 0))] ∧ ((ofL c.rg f.rg).take n).any (fun x => relB f.op x.1 s) = false)
    (fun cd lk _ => cd = .ret ∧ lk = [(b6, .cells #[.bool !f.nt] 4 (0, 0)), (b5, .cells #[.int .i64 s.1, .int .i64 s.2] 57 (0, 0)), (b4, .cells #[.int .i64 f.op, .bool f.nt, .string f.rg] 50 (0, 0)), (b3, .cells #[c.va, .slice at1 c.tk.length ct, c.vx, c.vr, c.vn, c.vh, c.vs] 30 (0, 0))] ∧ someB c.rg f s = true)
    ⟨rfl, by simp⟩ ?_ ?_ ?_
  · rintro n ⟨r, idx⟩ lk Hk hx ⟨rfl, hn⟩ hle L rec lo hrec
    have hrm := ofL_mem (List.mem_of_getElem? hx)
    have hrok := (hrl.2 r hrm).mono ((hle1.trans hle2).trans hle)
    obtain ⟨ak, ck, hk⟩ := hrok.1.len
    have hrel := related_fn f.op r s Hk hrok
    unfold encOf
    unfold rgV spV at hrel
    unfold rgV
    dsimp only
    rw [hk] at hrel ⊢
    refine sr ?_; refine sy fun b8 => ?_; refine yq9 ?_; refine T.begin (lk := [_, _, _, _, _]) hrec ?_; refine T.block ?_; refine zs3 ?_; refine yq6 ?_; refine sv (PV.loadAll rfl zq0 (by exact rfl)) ?_; refine sv (PV.loadAll rfl zq0 (by exact rfl)) ?_; refine T.callV Wanted.none rfl rfl (hrel) ?_; refine so ?_
    cases hb : relB f.op r s
    · refine yq7 ?_; refine T.blkEnd ?_
      refine T.roundEnd [_, _, _, _] zq4 (Hp.le.refl _) ⟨rfl, ?_⟩
      rw [List.take_add_one, hx, List.any_append, hn]
      simp [hb]
    · refine T.condT rfl rfl ?_; refine zs3 ?_; refine yq6 ?_; refine sv (PV.not rfl) ?_; refine T.store1 Wanted.none rfl rfl rfl zq14 zq13 ?_; refine so ?_
      refine T.roundRet [_, _, _, _] zq4 (Hp.le.refl _) ⟨rfl, rfl, ?_⟩
      unfold someB
      rw [← hany]
      exact List.any_eq_true.2 ⟨(r, idx), List.mem_of_getElem? hx, hb⟩
  · rintro r lk Hk hle ⟨rfl, hn⟩
    refine T.blkEnd ?_; refine zs3 ?_; refine yq6 ?_; refine T.store1 Wanted.none rfl rfl rfl zq14 zq13 ?_; refine so ?_
    refine T.retF (Lv.mark Upd.head (Lv.fin zq6 ?_))
    rw [List.take_length] at hn
    unfold someB
    rw [← hany, hn]
    cases f.nt <;> rfl
  · rintro cd r lk Hk hle ⟨rfl, rfl, hs1⟩
    refine T.retF (Lv.mark Upd.head (Lv.fin zq6 ?_))
    rw [hs1]
    cases f.nt <;> rfl
end Go.Proofs.YtbcadnjfegiakaaGreatDoor
namespace Go.Proofs.YtbcadnjfegiakaaGreatDoor
open Go.RowKit

def mk3 (m : Mt) : Int × Int × List Int := (m.b, m.e, m.ls)
def passB (c : Cp) (fs : List Fl) (m : Mt) : Bool := fs.all fun f => holdsB c f (m.b, m.e)
theorem apply1_fn (c : Cp) (f : Fl) (m : Mt) (bc bm : Nat) (H : Hp) (hc : CpA H c) (hm : LabOk H m) (hbc : H bc = some (.cells (cpC c).toArray 30 (0, 0))) (hbm : H bm = some (.cells (encM m).toArray 71 (0, 0))) :
    Fn Tryz.prog 85 #[flV f, .pointer (some ⟨bc, 0, none⟩), .pointer (some ⟨bm, 0, none⟩)] H (fun u _ => u = .bool (!holdsB c f (m.b, m.e))) := by
  obtain ⟨am, cm, hmv⟩ := hm.1.len
  have hh := holds_in c f (m.b, m.e) H hc
  unfold cpV flV spV at hh
  unfold cpC at hbc
  unfold encM at hbm
  rw [hmv] at hbm
  unfold flV
  refine Fn.of_T (vs := [.agg #[.int .i64 f.op, .bool f.nt, .string f.rg], .pointer (some ⟨bc, 0, none⟩), .pointer (some ⟨bm, 0, none⟩)]) Tryz.func85 rfl rfl fun w => ?_; refine zs3 ?_; (refine T.box Wanted.none rfl rfl zq15 ?_; intro b3); refine yq14 ?_; refine sv (PV.loadAll rfl zq0 (by exact rfl)) ?_; refine sv (PV.loadAll rfl zq0 (by exact rfl)) ?_; refine yq6 ?_; refine yq6 ?_; refine sv (PV.build rfl zq12) ?_; refine T.callV Wanted.none rfl rfl (hh) ?_; refine sv (PV.not rfl) ?_; refine yq0 ?_
  exact T.retF (Lv.fin (RV.tmp rfl rfl) rfl)
theorem indexFunc_fn (l : List Fl) (v : Value) (H : Hp) (hv : FlL H v l) (hlb : l.length ≤ 1000000) (g : Fl → Bool) (gfn : FuncId) [hE : Ent Tryz.prog gfn] (cap : List Value) (hg : ∀ f ∈ l, Fn Tryz.prog gfn (flV f :: cap).toArray H (fun u _ => u = .bool (g f))) :
    Fn Tryz.prog 146 #[v, .func (.func gfn) #[] cap.toArray] H (fun u _ => ∃ i : Int, u = .int .i64 i ∧ (0 ≤ i ↔ l.any g = true)) := by
  obtain ⟨ad, capv, rfl⟩ := hv.len
  refine Fn.of_T (vs := [.slice ad l.length capv, .func (.func gfn) #[] cap.toArray]) Tryz.func146 rfl rfl fun w => ?_; refine zs3 ?_; refine yq11 ?_; refine yq30 ?_; refine yq35 ?_; refine T.loopC [(7, Value.int IntKind.i64 (↑l.length : Int)), (0, Value.slice ad l.length capv), (1, Value.func (Fn.func gfn) #[] cap.toArray)] zq8 8 l.length (fun i => (l.take i).any g = false) rfl rfl ?_
  rintro i ⟨hi0, hi1⟩
  by_cases hi : i < l.length
  · obtain ⟨b, off, f, rfl, hix, hsub⟩ := RowL.get encFl_len hv hi
    have hgf := hg f (List.mem_of_getElem? hix)
    unfold flV at hgf
    unfold encFl at hsub
    have hst : (l.take (i + 1)).any g = g f := by rw [List.take_add_one, hix, List.any_append, hi1]; simp
    refine yq16 ?_; refine sC rfl (by omega) ?_; refine yq25 ?_; refine yq4 ?_; refine yq28 ?_; refine sm ?_; refine sm ?_; refine yq5 ?_; refine T.callF (cap := cap) Wanted.none rfl rfl rfl (by exact hgf) ?_
    rintro _ H' hle rfl
    refine T.forget hle ?_ (Hp.le.refl _)
    cases hb : g f
    · refine so ?_; refine yq7 ?_; refine yq33 ?_; refine yq23 ?_
      exact T.nextC hi (hst.trans hb) rfl zq8 (by repeat (first | exact Sel.refl _ | exact Sel.nil | (refine Sel.cons zq1 ?_) | (refine Sel.app zq1 ?_) | exact Sel.one zq1))
    · refine so ?_; refine T.condT rfl rfl ?_; refine yq4 ?_; refine yq0 ?_
      refine T.retF (Lv.fin (RV.tmp rfl rfl) ⟨_, rfl, ?_⟩)
      have : l.any g = true := List.any_eq_true.2 ⟨f, List.mem_of_getElem? hix, hb⟩
      rw [this]
      simp
  · rw [List.take_of_length_le (by omega)] at hi1
    refine yq16 ?_; refine yq21 ?_; refine zs3 ?_; refine yq0 ?_
    exact T.retF (Lv.fin (RV.tmp rfl rfl) ⟨-1, rfl, by rw [hi1]; simp⟩)
theorem containsFunc_fn (l : List Fl) (v : Value) (H : Hp) (hv : FlL H v l) (hlb : l.length ≤ 1000000) (g : Fl → Bool) (gfn : FuncId) [hE : Ent Tryz.prog gfn] (cap : List Value) (hg : ∀ f ∈ l, Fn Tryz.prog gfn (flV f :: cap).toArray H (fun u _ => u = .bool (g f))) :
    Fn Tryz.prog 72 #[v, .func (.func gfn) #[] cap.toArray] H (fun u _ => u = .bool (l.any g)) := by
  have hix := indexFunc_fn l v H hv hlb g gfn cap hg
  refine Fn.of_T (vs := [v, .func (.func gfn) #[] cap.toArray]) Tryz.func72 rfl rfl fun w => ?_; refine zs3 ?_; refine yq28 ?_; refine sm ?_; refine T.callX Wanted.none rfl rfl hix ?_
  rintro _ ⟨i, rfl, hi⟩
  refine sv (PV.geq rfl rfl) ?_; refine yq0 ?_
  refine T.retF (Lv.fin (RV.tmp rfl rfl) ?_)
  by_cases h : 0 ≤ i
  · rw [decide_eq_true h, hi.1 h]
  · rw [decide_eq_false h]
    cases ha : l.any g
    · rfl
    · exact absurd (hi.2 ha) h
structure ApG where
  i : Nat
  H : Hp
  v : Value
  lv : List (Nat × Obj)
  L : List Mt
set_option maxHeartbeats 2000000 in
theorem apply_in (c : Cp) (fs : List Fl) (l : List Mt) (vf vm : Value) (H : Hp) (hc : CpA H c) (hf : FlL H vf fs) (hm : MtL H vm l) (hfl : fs.length ≤ 1000) (hml : l.length ≤ 1000) (hls : ∀ m ∈ l, m.ls.length ≤ 1000) :
    Fn Tryz.prog 38 #[cpV c, vf, vm] H (fun u H' => ∃ L, MtL H' u L ∧ L.map mk3 = (l.filter (passB c fs)).map mk3) := by
  obtain ⟨af, cf, rfl⟩ := hf.len
  obtain ⟨am, cm, rfl⟩ := hm.1.len
  unfold cpV
  refine Fn.of_T (vs := [.agg #[c.va, c.vt, c.vx, c.vr, c.vn, c.vh, c.vs], .slice af fs.length cf, .slice am l.length cm]) Tryz.func38 rfl rfl fun w => ?_; refine zs3 ?_; (refine T.box Wanted.none rfl rfl zq15 ?_; intro b3); refine yq0 ?_; refine T.freezeB (b := b3) zq1 ?_
  intro H1 hle1 hb3
  refine zs3 ?_; refine yq11 ?_; refine yq30 ?_; refine yq35 ?_; refine T.loopK [(11, Value.int IntKind.i64 (↑l.length : Int)), (10, Value.slice am l.length cm), (3, Value.pointer (some { block := b3, off := 0 })), (1, Value.slice af fs.length cf)] zq8 (γ := ApG) (fun g => g.i ≤ l.length ∧ H1.le g.H ∧ RowV 71 encM 3 g.v g.lv g.L ∧ (∀ m ∈ g.L, LabOk g.H m) ∧ g.L.map mk3 = ((l.take g.i).filter (passB c fs)).map mk3) (fun g => [(12, .int .i64 (g.i : Int)), (7, g.v)]) (fun g => g.lv) (fun g => g.H) (fun g => l.length - g.i) ⟨0, H1, .slice none 0 0, [], []⟩ ⟨by simp, Hp.le.refl _, Vec.nil _ _, by simp, by simp⟩ zq8 (by repeat (first | exact Sel.refl _ | exact Sel.nil | (refine Sel.cons zq1 ?_) | (refine Sel.app zq1 ?_) | exact Sel.one zq1)) rfl ?_
  rintro ⟨i, H2, v, lv, L⟩ ⟨g1, g2, g3, g4, g5⟩
  dsimp only at g1 g2 g3 g4 g5 ⊢
  obtain ⟨adv, capv, rfl⟩ := g3.val
  have hLl : L.length ≤ l.length := by
    have := congrArg List.length g5
    rw [List.length_map, List.length_map] at this
    rw [this]
    exact Nat.le_trans (List.length_filter_le _ _) (by rw [List.length_take]; omega)
  have hle := hle1.trans g2
  by_cases hi : i < l.length
  · obtain ⟨bx, off, m, rfl, hix, hsub⟩ := RowL.get encM_len (hm.1.mono hle) hi
    have hmm := List.mem_of_getElem? hix
    have hlab := (hm.2 m hmm).mono hle
    obtain ⟨al, cl, hmv⟩ := hlab.1.len
    unfold encM at hsub
    rw [hmv] at hsub
    have hst : ((l.take (i + 1)).filter (passB c fs)).map mk3 = ((l.take i).filter (passB c fs)).map mk3 ++ (if passB c fs m then [mk3 m] else []) := by
      rw [List.take_add_one, hix, List.filter_append, List.map_append]
      congr 1
      simp only [Option.toList_some, List.filter_cons, List.filter_nil]
      split <;> rfl
    refine yq16 ?_; refine sC rfl (by omega) ?_; refine yq25 ?_; refine zs3 ?_; refine yq5 ?_; refine sy fun b9 => ?_; refine yq9 ?_; refine T.freezeB (b := b9) zq1 ?_
    intro H3 hle3 hb9
    have hca := containsFunc_fn fs (.slice af fs.length cf) H3 (hf.mono (hle.trans hle3)) (by omega) (fun f => !holdsB c f (m.b, m.e)) 85 [.pointer (some ⟨b3, 0, none⟩), .pointer (some ⟨b9, 0, none⟩)]
      (fun f hf => apply1_fn c f m b3 b9 H3 (hc.mono (hle.trans hle3)) (hlab.mono hle3) ((g2.trans hle3) _ _ hb3) (by unfold encM; rw [hmv]; exact hb9))
    have hpa : passB c fs m = !(fs.any fun f => !holdsB c f (m.b, m.e)) := by
      unfold passB
      rw [List.all_eq_not_any_not]
    refine yq4 ?_; refine sv (PV.makeFunc rfl) ?_; refine T.callV Wanted.none rfl rfl (hca) ?_; refine sv (PV.not rfl) ?_; refine so ?_
    cases hp : fs.any fun f => !holdsB c f (m.b, m.e)
    · rw [hp] at hpa
      rw [hpa] at hst
      have hcl := clone_fn m.ls m.v H3 (hlab.1.mono hle3) (by have := hls m hmm; omega)
      rw [hmv] at hcl
      refine T.condT rfl rfl ?_
      (repeat refine sq ?_)
      refine T.regionS [] 11 (by kernel_rfl) ?_; refine TS.take 0 rfl (by kernel_rfl) (by kernel_rfl) (by kernel_rfl) (by kernel_rfl) (PV.move rfl) Wanted.none rfl rfl ?_; refine TS.take 1 rfl (by kernel_rfl) (by kernel_rfl) (by kernel_rfl) (by kernel_rfl) (PV.fieldAddr rfl) Wanted.none rfl rfl ?_; refine TS.take 2 rfl (by kernel_rfl) (by kernel_rfl) (by kernel_rfl) (by kernel_rfl) (PV.load1 rfl zq0 rfl) Wanted.none rfl rfl ?_; refine TS.take 3 rfl (by kernel_rfl) (by kernel_rfl) (by kernel_rfl) (by kernel_rfl) (PV.fieldAddr rfl) Wanted.none rfl rfl ?_; refine TS.take 4 rfl (by kernel_rfl) (by kernel_rfl) (by kernel_rfl) (by kernel_rfl) (PV.load1 rfl zq0 rfl) Wanted.none rfl rfl ?_; refine TS.take 5 rfl (by kernel_rfl) (by kernel_rfl) (by kernel_rfl) (by kernel_rfl) (PV.fieldAddr rfl) Wanted.none rfl rfl ?_; refine TS.take 6 rfl (by kernel_rfl) (by kernel_rfl) (by kernel_rfl) (by kernel_rfl) (PV.load1 rfl zq0 rfl) Wanted.none rfl rfl ?_
      refine TS.ways [7] (by kernel_rfl) rfl zq20 ⟨⟨_, rfl, ?_⟩, trivial⟩
      (refine T.call Wanted.none rfl rfl hcl ?_; intro v27 H27 hle27 hv27; obtain ⟨ad27, cap27, rfl⟩ := hv27.len); refine so ?_; refine TS.back ?_; refine TS.take 8 rfl (by kernel_rfl) (by kernel_rfl) (by kernel_rfl) (by kernel_rfl) (PV.build rfl zq12) Wanted.none rfl rfl ?_
      refine TS.ways [9] (by kernel_rfl) rfl zq20 ⟨⟨_, rfl, ?_⟩, trivial⟩
      (refine T.buildSlice Wanted.none rfl rfl zq11 (by exact rfl) (by exact rfl) ?_; intro b29); refine so ?_; refine TS.back ?_
      refine TS.ways [10] (by kernel_rfl) rfl zq20 ⟨⟨_, rfl, ?_⟩, trivial⟩
      (refine T.appendP (lv := lv) Wanted.none rfl rfl rfl g3 (Src.cells (m := 1) (ys := encM ⟨m.b, m.e, .slice ad27 m.ls.length cap27, m.ls⟩) (.own zq2) rfl rfl) (one_encM (H := H27) (m := ⟨m.b, m.e, .slice ad27 m.ls.length cap27, m.ls⟩) ⟨hv27, hlab.2⟩) (by omega) zq1 ?_; intro v30 lv30 hv30 _; obtain ⟨ad30, cap30, rfl⟩ := hv30.val); refine so ?_; refine TS.back ?_
      refine TS.ways [11] (by kernel_rfl) rfl zq20 ⟨⟨_, rfl, ?_⟩, trivial⟩
      refine yq0 ?_; refine TS.back ?_; refine TS.done (by kernel_rfl) (by kernel_rfl) ?_; refine yq33 ?_; refine yq23 ?_
      refine T.nextP ⟨i + 1, H27, _, lv30, L ++ [⟨m.b, m.e, .slice ad27 m.ls.length cap27, m.ls⟩]⟩ ⟨by dsimp only; omega, (g2.trans hle3).trans hle27, MtV.snoc hv30, fun x hx => ?_, ?_⟩ (by dsimp only; omega) zq8 (by repeat (first | exact Sel.refl _ | exact Sel.nil | (refine Sel.cons zq1 ?_) | (refine Sel.app zq1 ?_) | exact Sel.one zq1)) rfl
      · rcases List.mem_append.1 hx with h | h
        · exact (g4 x h).mono (hle3.trans hle27)
        · rw [List.mem_singleton] at h; subst h; exact ⟨hv27, hlab.2⟩
      · dsimp only
        rw [List.map_append, g5, hst]
        rfl
    · rw [hp] at hpa
      rw [hpa] at hst
      refine yq7 ?_; refine yq33 ?_; refine yq23 ?_
      exact T.nextP ⟨i + 1, H3, _, lv, L⟩ ⟨by dsimp only; omega, g2.trans hle3, g3, fun m hm => (g4 m hm).mono hle3, by dsimp only; rw [g5, hst]; simp⟩ (by dsimp only; omega) zq8 (by repeat (first | exact Sel.refl _ | exact Sel.nil | (refine Sel.cons zq1 ?_) | (refine Sel.app zq1 ?_) | exact Sel.one zq1)) rfl
  · rw [List.take_of_length_le (by omega)] at g5
    refine yq16 ?_; refine yq21 ?_; refine yq4 ?_; refine yq0 ?_
    exact T.retF (Vec.freezeLv (l' := []) g3 (by rw [List.append_nil]; exact zq4) fun H' hleF hsl => Lv.fin (RV.tmp rfl rfl) ⟨L, ⟨hsl, fun m hm => (g4 m hm).mono hleF⟩, g5⟩)
end Go.Proofs.YtbcadnjfegiakaaGreatDoor
