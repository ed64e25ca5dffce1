/- regions: filters; both Validates; how a region is related to a span.
   regions: the regions of a type, one by one; Holds, Last.
   regions: Holds, Last. -/
import Derived.Test.YtchgfjclchhgmaaGA
namespace Go.Proofs.Ytchgfjclchhgmaa
open Go.RowKit

structure Fl where
  op : Int
  nt : Bool
  rg : ByteArray
def encFl (f : Fl) : List Value := [.int .i64 f.op, .bool f.nt, .string f.rg]
theorem encFl_len (f : Fl) : (encFl f).length = 3 := rfl
def flV (f : Fl) : Value := .agg #[.int .i64 f.op, .bool f.nt, .string f.rg]
abbrev FlL (H : Hp) (v : Value) (l : List Fl) : Prop := SlR H 3 v l.length (l.flatMap encFl)
def flErr (f : Fl) : Int := if f.op < 1 ∨ 3 < f.op then 1 else if validName f.rg then 0 else 4
def flsErr : List Fl → Int
  | [] => 0
  | f :: l => if flErr f ≠ 0 then flErr f else flsErr l
theorem flsErr_drop {l : List Fl} {i : Nat} {f : Fl} (h : l[i]? = some f) : flsErr (l.drop i) = if flErr f ≠ 0 then flErr f else flsErr (l.drop (i + 1)) := by
  have := List.getElem?_eq_some_iff.1 h
  rw [List.drop_eq_getElem_cons this.1, this.2, flsErr]
theorem begins_fn (c : Int) (H : Hp) : Fn Try.prog 61 #[.int .u8 c] H (fun u _ => u = .bool (nmFst c)) := by
  refine Fn.of_T (vs := [.int .u8 c]) Try.func61 rfl rfl fun w => ?_
  unfold nmFst
  refine T.seq ?_
  refine T.region ?_
  refine T.pv (PV.assign rfl) Wanted.none rfl rfl ?_
  refine T.opsNil ?_
  refine T.seq ?_
  refine T.region ?_
  refine T.pv (PV.move rfl) Wanted.none rfl rfl ?_
  refine T.pv (PV.geq rfl rfl) Wanted.none rfl rfl ?_
  refine T.pv (PV.move rfl) Wanted.none rfl rfl ?_
  refine T.splitD (d := 5) rfl (fun h0 => ?_) (fun h0 => ?_)
  · refine T.pv (PV.move rfl) (Wanted.guard rfl rfl rfl) rfl rfl ?_
    refine T.pv (PV.leq rfl rfl) (Wanted.guard rfl rfl rfl) rfl rfl ?_
    refine T.pv (PV.pickT rfl rfl rfl) Wanted.none rfl rfl ?_
    refine T.pv (PV.move rfl) Wanted.none rfl rfl ?_
    refine T.splitD (d := 9) rfl (fun h1 => ?_) (fun h1 => ?_)
    · refine T.pass (Unwanted.guard rfl rfl rfl) rfl rfl ?_
      refine T.pass (Unwanted.guard rfl rfl rfl) rfl rfl ?_
      refine T.pass (Unwanted.guard rfl rfl rfl) rfl rfl ?_
      refine T.pass (Unwanted.undef rfl rfl) rfl rfl ?_
      refine T.pass (Unwanted.undef rfl rfl) rfl rfl ?_
      refine T.pass (Unwanted.guard rfl rfl rfl) rfl rfl ?_
      refine T.pv (PV.pickT rfl rfl rfl) Wanted.none rfl rfl ?_
      refine T.pv (PV.move rfl) Wanted.none rfl rfl ?_
      refine T.pass (Unwanted.guard rfl rfl rfl) rfl rfl ?_
      refine T.pass (Unwanted.guard rfl rfl rfl) rfl rfl ?_
      refine T.pv (PV.pickT rfl rfl rfl) Wanted.none rfl rfl ?_
      refine T.pv (PV.assign rfl) Wanted.none rfl rfl ?_
      refine T.opsNil ?_
      (exact T.retF (Lv.fin (RV.tmp rfl rfl) (by congr 1; rw [Bool.eq_iff_iff]; simp <;> omega)))
    · refine T.pv (PV.move rfl) (Wanted.guard rfl rfl rfl) rfl rfl ?_
      refine T.pv (PV.geq rfl rfl) (Wanted.guard rfl rfl rfl) rfl rfl ?_
      refine T.pv (PV.move rfl) (Wanted.guard rfl rfl rfl) rfl rfl ?_
      refine T.splitD (d := 12) rfl (fun h2 => ?_) (fun h2 => ?_)
      · refine T.pv (PV.move rfl) (Wanted.guard rfl rfl rfl) rfl rfl ?_
        refine T.pv (PV.leq rfl rfl) (Wanted.guard rfl rfl rfl) rfl rfl ?_
        refine T.pv (PV.pickT rfl rfl rfl) (Wanted.guard rfl rfl rfl) rfl rfl ?_
        refine T.pv (PV.pickF rfl rfl rfl) Wanted.none rfl rfl ?_
        refine T.pv (PV.move rfl) Wanted.none rfl rfl ?_
        refine T.splitD (d := 17) rfl (fun h3 => ?_) (fun h3 => ?_)
        · refine T.pass (Unwanted.guard rfl rfl rfl) rfl rfl ?_
          refine T.pass (Unwanted.guard rfl rfl rfl) rfl rfl ?_
          refine T.pv (PV.pickT rfl rfl rfl) Wanted.none rfl rfl ?_
          refine T.pv (PV.assign rfl) Wanted.none rfl rfl ?_
          refine T.opsNil ?_
          (exact T.retF (Lv.fin (RV.tmp rfl rfl) (by congr 1; rw [Bool.eq_iff_iff]; simp <;> omega)))
        · refine T.pv (PV.move rfl) (Wanted.guard rfl rfl rfl) rfl rfl ?_
          refine T.pv (PV.eql rfl rfl) (Wanted.guard rfl rfl rfl) rfl rfl ?_
          refine T.pv (PV.pickF rfl rfl rfl) Wanted.none rfl rfl ?_
          refine T.pv (PV.assign rfl) Wanted.none rfl rfl ?_
          refine T.opsNil ?_
          (exact T.retF (Lv.fin (RV.tmp rfl rfl) (by congr 1; rw [Bool.eq_iff_iff]; simp <;> omega)))
      · refine T.pass (Unwanted.guard rfl rfl rfl) rfl rfl ?_
        refine T.pass (Unwanted.guard rfl rfl rfl) rfl rfl ?_
        refine T.pv (PV.pickF rfl rfl rfl) (Wanted.guard rfl rfl rfl) rfl rfl ?_
        refine T.pv (PV.pickF rfl rfl rfl) Wanted.none rfl rfl ?_
        refine T.pv (PV.move rfl) Wanted.none rfl rfl ?_
        refine T.pv (PV.move rfl) (Wanted.guard rfl rfl rfl) rfl rfl ?_
        refine T.pv (PV.eql rfl rfl) (Wanted.guard rfl rfl rfl) rfl rfl ?_
        refine T.pv (PV.pickF rfl rfl rfl) Wanted.none rfl rfl ?_
        refine T.pv (PV.assign rfl) Wanted.none rfl rfl ?_
        refine T.opsNil ?_
        (exact T.retF (Lv.fin (RV.tmp rfl rfl) (by congr 1; rw [Bool.eq_iff_iff]; simp <;> omega)))
  · refine T.pass (Unwanted.guard rfl rfl rfl) rfl rfl ?_
    refine T.pass (Unwanted.guard rfl rfl rfl) rfl rfl ?_
    refine T.pv (PV.pickF rfl rfl rfl) Wanted.none rfl rfl ?_
    refine T.pv (PV.move rfl) Wanted.none rfl rfl ?_
    refine T.pv (PV.move rfl) (Wanted.guard rfl rfl rfl) rfl rfl ?_
    refine T.pv (PV.geq rfl rfl) (Wanted.guard rfl rfl rfl) rfl rfl ?_
    refine T.pv (PV.move rfl) (Wanted.guard rfl rfl rfl) rfl rfl ?_
    refine T.setF (d := 12) rfl (by omega) ?_
    refine T.pass (Unwanted.guard rfl rfl rfl) rfl rfl ?_
    refine T.pass (Unwanted.guard rfl rfl rfl) rfl rfl ?_
    refine T.pv (PV.pickF rfl rfl rfl) (Wanted.guard rfl rfl rfl) rfl rfl ?_
    refine T.pv (PV.pickF rfl rfl rfl) Wanted.none rfl rfl ?_
    refine T.pv (PV.move rfl) Wanted.none rfl rfl ?_
    refine T.pv (PV.move rfl) (Wanted.guard rfl rfl rfl) rfl rfl ?_
    refine T.pv (PV.eql rfl rfl) (Wanted.guard rfl rfl rfl) rfl rfl ?_
    refine T.pv (PV.pickF rfl rfl rfl) Wanted.none rfl rfl ?_
    refine T.pv (PV.assign rfl) Wanted.none rfl rfl ?_
    refine T.opsNil ?_
    (exact T.retF (Lv.fin (RV.tmp rfl rfl) (by congr 1; rw [Bool.eq_iff_iff]; simp <;> omega)))
theorem goesOn_fn (c : Int) (H : Hp) : Fn Try.prog 62 #[.int .u8 c] H (fun u _ => u = .bool (nmNxt c)) := by
  refine Fn.of_T (vs := [.int .u8 c]) Try.func62 rfl rfl fun w => ?_
  unfold nmNxt
  refine T.seq ?_
  refine T.region ?_
  refine T.pv (PV.assign rfl) Wanted.none rfl rfl ?_
  refine T.opsNil ?_
  refine T.seq ?_
  refine T.region ?_
  refine T.pv (PV.move rfl) Wanted.none rfl rfl ?_
  refine T.callV Wanted.none rfl rfl (begins_fn c _) ?_
  refine T.pv (PV.move rfl) Wanted.none rfl rfl ?_
  cases nmFst c
  · refine T.pv (PV.move rfl) (Wanted.guard rfl rfl rfl) rfl rfl ?_
    refine T.pv (PV.geq rfl rfl) (Wanted.guard rfl rfl rfl) rfl rfl ?_
    refine T.pv (PV.move rfl) (Wanted.guard rfl rfl rfl) rfl rfl ?_
    refine T.splitD (d := 8) rfl (fun h0 => ?_) (fun h0 => ?_)
    · refine T.pv (PV.move rfl) (Wanted.guard rfl rfl rfl) rfl rfl ?_
      refine T.pv (PV.leq rfl rfl) (Wanted.guard rfl rfl rfl) rfl rfl ?_
      refine T.pv (PV.pickT rfl rfl rfl) (Wanted.guard rfl rfl rfl) rfl rfl ?_
      refine T.pv (PV.pickF rfl rfl rfl) Wanted.none rfl rfl ?_
      refine T.pv (PV.move rfl) Wanted.none rfl rfl ?_
      refine T.splitD (d := 13) rfl (fun h1 => ?_) (fun h1 => ?_)
      · refine T.pass (Unwanted.guard rfl rfl rfl) rfl rfl ?_
        refine T.pass (Unwanted.guard rfl rfl rfl) rfl rfl ?_
        refine T.pv (PV.pickT rfl rfl rfl) Wanted.none rfl rfl ?_
        refine T.pv (PV.assign rfl) Wanted.none rfl rfl ?_
        refine T.opsNil ?_
        (exact T.retF (Lv.fin (RV.tmp rfl rfl) (by congr 1; rw [Bool.eq_iff_iff]; simp <;> omega)))
      · refine T.pv (PV.move rfl) (Wanted.guard rfl rfl rfl) rfl rfl ?_
        refine T.pv (PV.eql rfl rfl) (Wanted.guard rfl rfl rfl) rfl rfl ?_
        refine T.pv (PV.pickF rfl rfl rfl) Wanted.none rfl rfl ?_
        refine T.pv (PV.assign rfl) Wanted.none rfl rfl ?_
        refine T.opsNil ?_
        (exact T.retF (Lv.fin (RV.tmp rfl rfl) (by congr 1; rw [Bool.eq_iff_iff]; simp <;> omega)))
    · refine T.pass (Unwanted.guard rfl rfl rfl) rfl rfl ?_
      refine T.pass (Unwanted.guard rfl rfl rfl) rfl rfl ?_
      refine T.pv (PV.pickF rfl rfl rfl) (Wanted.guard rfl rfl rfl) rfl rfl ?_
      refine T.pv (PV.pickF rfl rfl rfl) Wanted.none rfl rfl ?_
      refine T.pv (PV.move rfl) Wanted.none rfl rfl ?_
      refine T.pv (PV.move rfl) (Wanted.guard rfl rfl rfl) rfl rfl ?_
      refine T.pv (PV.eql rfl rfl) (Wanted.guard rfl rfl rfl) rfl rfl ?_
      refine T.pv (PV.pickF rfl rfl rfl) Wanted.none rfl rfl ?_
      refine T.pv (PV.assign rfl) Wanted.none rfl rfl ?_
      refine T.opsNil ?_
      (exact T.retF (Lv.fin (RV.tmp rfl rfl) (by congr 1; rw [Bool.eq_iff_iff]; simp <;> omega)))
  · refine T.pass (Unwanted.guard rfl rfl rfl) rfl rfl ?_
    refine T.pass (Unwanted.guard rfl rfl rfl) rfl rfl ?_
    refine T.pass (Unwanted.guard rfl rfl rfl) rfl rfl ?_
    refine T.pass (Unwanted.undef rfl rfl) rfl rfl ?_
    refine T.pass (Unwanted.undef rfl rfl) rfl rfl ?_
    refine T.pass (Unwanted.guard rfl rfl rfl) rfl rfl ?_
    refine T.pv (PV.pickT rfl rfl rfl) Wanted.none rfl rfl ?_
    refine T.pv (PV.move rfl) Wanted.none rfl rfl ?_
    refine T.pass (Unwanted.guard rfl rfl rfl) rfl rfl ?_
    refine T.pass (Unwanted.guard rfl rfl rfl) rfl rfl ?_
    refine T.pv (PV.pickT rfl rfl rfl) Wanted.none rfl rfl ?_
    refine T.pv (PV.assign rfl) Wanted.none rfl rfl ?_
    refine T.opsNil ?_
    exact T.retF (Lv.fin (RV.tmp rfl rfl) (by simp))
theorem validName_eq0 {s : ByteArray} (h : 1 ≤ s.size) (h2 : s.size ≤ 32) {c : UInt8} (h0 : s.data.toList[0]? = some c) (hf : nmFst (c.toNat : Int) = true) : validName s = s.data.toList.all nmB := by
  rw [validName_eq h h2 h0, hf]
  have := validName_drop h0
  rw [List.drop_zero] at this
  rw [this]
  unfold nmB nmNxt
  rw [hf]; simp
theorem name_fn (s : ByteArray) (H : Hp) : Fn Try.prog 36 #[.string s] H (fun u _ => u = .bool (validName s)) := by
  refine Fn.of_T (vs := [.string s]) Try.func36 rfl rfl fun w => ?_
  by_cases h1 : s.size < 1
  · refine T.seq ?_
    refine T.region ?_
    refine T.pv (PV.assign rfl) Wanted.none rfl rfl ?_
    refine T.opsNil ?_
    refine T.seq ?_
    refine T.seq ?_
    refine T.region ?_
    refine T.pv (PV.move rfl) Wanted.none rfl rfl ?_
    refine T.pv (PV.lenStr rfl) Wanted.none rfl rfl ?_
    refine T.pv (PV.lss rfl rfl) Wanted.none rfl rfl ?_
    refine T.pv (PV.move rfl) Wanted.none rfl rfl ?_
    refine T.setT (d := 7) rfl (by omega) ?_
    refine T.pass (Unwanted.guard rfl rfl rfl) rfl rfl ?_
    refine T.pass (Unwanted.guard rfl rfl rfl) rfl rfl ?_
    refine T.pass (Unwanted.guard rfl rfl rfl) rfl rfl ?_
    refine T.pv (PV.pickT rfl rfl rfl) Wanted.none rfl rfl ?_
    refine T.pv (PV.move rfl) Wanted.none rfl rfl ?_
    refine T.pass (Unwanted.guard rfl rfl rfl) rfl rfl ?_
    refine T.pass (Unwanted.guard rfl rfl rfl) rfl rfl ?_
    refine T.pass (Unwanted.guard rfl rfl rfl) rfl rfl ?_
    refine T.pass (Unwanted.guard rfl rfl rfl) rfl rfl ?_
    refine T.pv (PV.pickT rfl rfl rfl) Wanted.none rfl rfl ?_
    refine T.opsNil ?_
    refine T.condT rfl rfl ?_
    refine T.seq ?_
    refine T.region ?_
    refine T.pv (PV.assign rfl) Wanted.none rfl rfl ?_
    refine T.opsNil ?_
    exact T.retF (Lv.fin (RV.tmp rfl rfl) (by unfold validName; simp [show ¬ 1 ≤ s.size by omega]))
  by_cases h2 : 32 < s.size
  · refine T.seq ?_
    refine T.region ?_
    refine T.pv (PV.assign rfl) Wanted.none rfl rfl ?_
    refine T.opsNil ?_
    refine T.seq ?_
    refine T.seq ?_
    refine T.region ?_
    refine T.pv (PV.move rfl) Wanted.none rfl rfl ?_
    refine T.pv (PV.lenStr rfl) Wanted.none rfl rfl ?_
    refine T.pv (PV.lss rfl rfl) Wanted.none rfl rfl ?_
    refine T.pv (PV.move rfl) Wanted.none rfl rfl ?_
    refine T.setF (d := 7) rfl (by omega) ?_
    refine T.pv (PV.move rfl) (Wanted.guard rfl rfl rfl) rfl rfl ?_
    refine T.pv (PV.lenStr rfl) (Wanted.guard rfl rfl rfl) rfl rfl ?_
    refine T.pv (PV.gtr rfl rfl) (Wanted.guard rfl rfl rfl) rfl rfl ?_
    refine T.pv (PV.pickF rfl rfl rfl) Wanted.none rfl rfl ?_
    refine T.pv (PV.move rfl) Wanted.none rfl rfl ?_
    refine T.setT (d := 12) rfl (by omega) ?_
    refine T.pass (Unwanted.guard rfl rfl rfl) rfl rfl ?_
    refine T.pass (Unwanted.guard rfl rfl rfl) rfl rfl ?_
    refine T.pass (Unwanted.guard rfl rfl rfl) rfl rfl ?_
    refine T.pass (Unwanted.guard rfl rfl rfl) rfl rfl ?_
    refine T.pv (PV.pickT rfl rfl rfl) Wanted.none rfl rfl ?_
    refine T.opsNil ?_
    refine T.condT rfl rfl ?_
    refine T.seq ?_
    refine T.region ?_
    refine T.pv (PV.assign rfl) Wanted.none rfl rfl ?_
    refine T.opsNil ?_
    exact T.retF (Lv.fin (RV.tmp rfl rfl) (by unfold validName; simp [show ¬ s.size ≤ 32 by omega]))
  obtain ⟨c, hc⟩ := byteAt (s := s) (i := 0) (by omega)
  have hc' : s.data.toList[(0 : Int).toNat]? = some c := hc
  have he := validName_eq (s := s) (by omega) (by omega) hc
  refine T.seq ?_
  refine T.region ?_
  refine T.pv (PV.assign rfl) Wanted.none rfl rfl ?_
  refine T.opsNil ?_
  refine T.seq ?_
  refine T.seq ?_
  refine T.region ?_
  refine T.pv (PV.move rfl) Wanted.none rfl rfl ?_
  refine T.pv (PV.lenStr rfl) Wanted.none rfl rfl ?_
  refine T.pv (PV.lss rfl rfl) Wanted.none rfl rfl ?_
  refine T.pv (PV.move rfl) Wanted.none rfl rfl ?_
  refine T.setF (d := 7) rfl (by omega) ?_
  refine T.pv (PV.move rfl) (Wanted.guard rfl rfl rfl) rfl rfl ?_
  refine T.pv (PV.lenStr rfl) (Wanted.guard rfl rfl rfl) rfl rfl ?_
  refine T.pv (PV.gtr rfl rfl) (Wanted.guard rfl rfl rfl) rfl rfl ?_
  refine T.pv (PV.pickF rfl rfl rfl) Wanted.none rfl rfl ?_
  refine T.pv (PV.move rfl) Wanted.none rfl rfl ?_
  refine T.setF (d := 12) rfl (by omega) ?_
  refine T.pv (PV.move rfl) (Wanted.guard rfl rfl rfl) rfl rfl ?_
  refine T.pv (PV.indexStr rfl rfl (by omega) (by assumption)) (Wanted.guard rfl rfl rfl) rfl rfl ?_
  refine T.callV (Wanted.guard rfl rfl rfl) rfl rfl (begins_fn _ _) ?_
  refine T.pv (PV.not rfl) (Wanted.guard rfl rfl rfl) rfl rfl ?_
  refine T.pv (PV.pickF rfl rfl rfl) Wanted.none rfl rfl ?_
  refine T.opsNil ?_
  cases hf : nmFst (c.toNat : Int)
  · rw [hf] at he
    refine T.condT rfl rfl ?_
    refine T.seq ?_
    refine T.region ?_
    refine T.pv (PV.assign rfl) Wanted.none rfl rfl ?_
    refine T.opsNil ?_
    exact T.retF (Lv.fin (RV.tmp rfl rfl) (by rw [he]; simp))
  rw [validName_eq0 (by omega) (by omega) hc hf]
  refine T.condF rfl rfl ?_
  refine T.skip ?_
  refine T.seq ?_
  refine T.seq ?_
  refine T.region ?_
  refine T.pv (PV.move rfl) Wanted.none rfl rfl ?_
  refine T.pv (PV.lenStr rfl) Wanted.none rfl rfl ?_
  refine T.pv (PV.move rfl) Wanted.none rfl rfl ?_
  refine T.opsNil ?_
  refine T.block ?_
  refine T.loopC [(19, Value.int IntKind.i64 (↑s.size : Int)), (0, Value.string s)] zq8 20 s.size (fun i => (s.data.toList.drop i).all nmB = s.data.toList.all nmB) (by simp) rfl ?_
  rintro i ⟨h3, h5⟩
  by_cases hi : i < s.size
  · obtain ⟨d, hd⟩ := byteAt hi
    rw [validName_drop hd] at h5
    have hd' : s.data.toList[((i : Nat) : Int).toNat]? = some d := by rw [Int.toNat_natCast]; exact hd
    refine T.seq ?_
    refine T.region ?_
    refine T.pv (PV.lss rfl rfl) Wanted.none rfl rfl ?_
    refine T.opsNil ?_
    refine T.seq ?_
    refine T.condT rfl (decide_eq_true (by omega)) ?_
    refine T.skip ?_
    refine T.seq ?_
    refine T.block ?_
    refine T.seq ?_
    refine T.region ?_
    refine T.pv (PV.move rfl) Wanted.none rfl rfl ?_
    refine T.pv (PV.assign rfl) Wanted.none rfl rfl ?_
    refine T.opsNil ?_
    refine T.seq ?_
    refine T.region ?_
    refine T.pv (PV.move rfl) Wanted.none rfl rfl ?_
    refine T.pv (PV.move rfl) Wanted.none rfl rfl ?_
    refine T.pv (PV.indexStr rfl rfl (by omega) (by assumption)) Wanted.none rfl rfl ?_
    refine T.callV Wanted.none rfl rfl (goesOn_fn _ _) ?_
    refine T.pv (PV.not rfl) Wanted.none rfl rfl ?_
    refine T.opsNil ?_
    cases hn : nmNxt (d.toNat : Int)
    · refine T.condT rfl rfl ?_
      refine T.seq ?_
      refine T.region ?_
      refine T.pv (PV.assign rfl) Wanted.none rfl rfl ?_
      refine T.opsNil ?_
      exact T.retF (Lv.fin (RV.tmp rfl rfl) (by rw [← h5]; unfold nmB; rw [hn]; rfl))
    · refine T.condF rfl rfl ?_
      refine T.skip ?_
      refine T.blkEnd ?_
      refine T.region ?_
      refine T.pv (PV.add rfl rfl (by omega)) Wanted.none rfl rfl ?_
      refine T.pv (PV.move rfl) Wanted.none rfl rfl ?_
      refine T.opsNil ?_
      exact T.nextC hi (by rw [← h5]; unfold nmB; rw [hn]; rfl) rfl zq8 (by repeat (first | exact Sel.refl _ | exact Sel.nil | (refine Sel.cons zq1 ?_) | (refine Sel.app zq1 ?_) | exact Sel.one zq1))
  · refine T.seq ?_
    refine T.region ?_
    refine T.pv (PV.lss rfl rfl) Wanted.none rfl rfl ?_
    refine T.opsNil ?_
    refine T.seq ?_
    refine T.condF rfl (decide_eq_false (by omega)) ?_
    refine T.exit rfl ?_
    refine T.seq ?_
    refine T.region ?_
    refine T.pv (PV.assign rfl) Wanted.none rfl rfl ?_
    refine T.opsNil ?_
    exact T.retF (Lv.fin (RV.tmp rfl rfl) (by rw [← h5, List.drop_of_length_le (by simp; omega)]; rfl))
theorem validate_in (l : List Fl) (v : Value) (H : Hp) (hv : FlL H v l) (hlb : l.length ≤ 1000000) : Fn Try.prog 17 #[v] H (fun u _ => u = .int .i64 (flsErr l)) := by
  obtain ⟨ad, cap, rfl⟩ := hv.len
  refine Fn.of_T (vs := [.slice ad l.length cap]) Try.func17 rfl rfl fun w => ?_
  refine T.seq ?_
  refine T.region ?_
  refine T.pv (PV.assign rfl) Wanted.none rfl rfl ?_
  refine T.opsNil ?_
  refine T.seq ?_
  refine T.seq ?_
  refine T.region ?_
  refine T.pv (PV.move rfl) Wanted.none rfl rfl ?_
  refine T.pv (PV.lenSl rfl) Wanted.none rfl rfl ?_
  refine T.pv (PV.move rfl) Wanted.none rfl rfl ?_
  refine T.opsNil ?_
  refine T.block ?_
  refine T.loopC [(6, Value.int IntKind.i64 (↑l.length : Int)), (5, Value.slice ad l.length cap)] zq8 7 l.length (fun i => flsErr (l.drop i) = flsErr l) (by simp) rfl ?_
  rintro i ⟨h3, h5⟩
  by_cases hi : i < l.length
  · obtain ⟨b, off, f, rfl, hix, hsub⟩ := RowL.get encFl_len hv hi
    unfold encFl at hsub
    rw [flsErr_drop hix] at h5
    by_cases h1 : f.op < 1 ∨ 3 < f.op
    · have he : flErr f = 1 := by unfold flErr; rw [if_pos h1]
      rw [he] at h5
      rcases h1 with h1 | h1
      · refine T.seq ?_
        refine T.region ?_
        refine T.pv (PV.lss rfl rfl) Wanted.none rfl rfl ?_
        refine T.opsNil ?_
        refine T.seq ?_
        refine T.condT rfl (decide_eq_true (by omega)) ?_
        refine T.skip ?_
        refine T.seq ?_
        refine T.block ?_
        refine T.seq ?_
        refine T.region ?_
        refine T.pv (PV.indexAddr rfl rfl (by omega)) Wanted.none rfl rfl ?_
        refine T.pv (PV.loadSubAll rfl (by assumption) (by exact rfl)) Wanted.none rfl rfl ?_
        (refine T.alloc Wanted.none rfl ?_; intro b4)
        refine T.storeA Wanted.none rfl rfl zq8 (by exact rfl) zq14 zq13 ?_
        refine T.opsNil ?_
        refine T.seq ?_
        refine T.seq ?_
        refine T.region ?_
        refine T.pv (PV.fieldAddr rfl) Wanted.none rfl rfl ?_
        refine T.pv (PV.load1 rfl zq0 rfl) Wanted.none rfl rfl ?_
        refine T.pv (PV.lss rfl rfl) Wanted.none rfl rfl ?_
        refine T.pv (PV.move rfl) Wanted.none rfl rfl ?_
        refine T.setT (d := 14) rfl (by omega) ?_
        refine T.pass (Unwanted.guard rfl rfl rfl) rfl rfl ?_
        refine T.pass (Unwanted.guard rfl rfl rfl) rfl rfl ?_
        refine T.pass (Unwanted.guard rfl rfl rfl) rfl rfl ?_
        refine T.pv (PV.pickT rfl rfl rfl) Wanted.none rfl rfl ?_
        refine T.opsNil ?_
        refine T.condT rfl rfl ?_
        refine T.seq ?_
        refine T.region ?_
        refine T.pv (PV.assign rfl) Wanted.none rfl rfl ?_
        refine T.opsNil ?_
        exact T.retF (Lv.fin (RV.tmp rfl rfl) (by rw [← h5]; rfl))
      · refine T.seq ?_
        refine T.region ?_
        refine T.pv (PV.lss rfl rfl) Wanted.none rfl rfl ?_
        refine T.opsNil ?_
        refine T.seq ?_
        refine T.condT rfl (decide_eq_true (by omega)) ?_
        refine T.skip ?_
        refine T.seq ?_
        refine T.block ?_
        refine T.seq ?_
        refine T.region ?_
        refine T.pv (PV.indexAddr rfl rfl (by omega)) Wanted.none rfl rfl ?_
        refine T.pv (PV.loadSubAll rfl (by assumption) (by exact rfl)) Wanted.none rfl rfl ?_
        (refine T.alloc Wanted.none rfl ?_; intro b4)
        refine T.storeA Wanted.none rfl rfl zq8 (by exact rfl) zq14 zq13 ?_
        refine T.opsNil ?_
        refine T.seq ?_
        refine T.seq ?_
        refine T.region ?_
        refine T.pv (PV.fieldAddr rfl) Wanted.none rfl rfl ?_
        refine T.pv (PV.load1 rfl zq0 rfl) Wanted.none rfl rfl ?_
        refine T.pv (PV.lss rfl rfl) Wanted.none rfl rfl ?_
        refine T.pv (PV.move rfl) Wanted.none rfl rfl ?_
        refine T.setF (d := 14) rfl (by omega) ?_
        refine T.pv (PV.fieldAddr rfl) (Wanted.guard rfl rfl rfl) rfl rfl ?_
        refine T.pv (PV.load1 rfl zq0 rfl) (Wanted.guard rfl rfl rfl) rfl rfl ?_
        refine T.pv (PV.gtr rfl rfl) (Wanted.guard rfl rfl rfl) rfl rfl ?_
        refine T.pv (PV.pickF rfl rfl rfl) Wanted.none rfl rfl ?_
        refine T.opsNil ?_
        refine T.condT rfl (decide_eq_true (by omega)) ?_
        refine T.seq ?_
        refine T.region ?_
        refine T.pv (PV.assign rfl) Wanted.none rfl rfl ?_
        refine T.opsNil ?_
        exact T.retF (Lv.fin (RV.tmp rfl rfl) (by rw [← h5]; rfl))
    · refine T.seq ?_
      refine T.region ?_
      refine T.pv (PV.lss rfl rfl) Wanted.none rfl rfl ?_
      refine T.opsNil ?_
      refine T.seq ?_
      refine T.condT rfl (decide_eq_true (by omega)) ?_
      refine T.skip ?_
      refine T.seq ?_
      refine T.block ?_
      refine T.seq ?_
      refine T.region ?_
      refine T.pv (PV.indexAddr rfl rfl (by omega)) Wanted.none rfl rfl ?_
      refine T.pv (PV.loadSubAll rfl (by assumption) (by exact rfl)) Wanted.none rfl rfl ?_
      (refine T.alloc Wanted.none rfl ?_; intro b4)
      refine T.storeA Wanted.none rfl rfl zq8 (by exact rfl) zq14 zq13 ?_
      refine T.opsNil ?_
      refine T.seq ?_
      refine T.seq ?_
      refine T.region ?_
      refine T.pv (PV.fieldAddr rfl) Wanted.none rfl rfl ?_
      refine T.pv (PV.load1 rfl zq0 rfl) Wanted.none rfl rfl ?_
      refine T.pv (PV.lss rfl rfl) Wanted.none rfl rfl ?_
      refine T.pv (PV.move rfl) Wanted.none rfl rfl ?_
      refine T.setF (d := 14) rfl (by omega) ?_
      refine T.pv (PV.fieldAddr rfl) (Wanted.guard rfl rfl rfl) rfl rfl ?_
      refine T.pv (PV.load1 rfl zq0 rfl) (Wanted.guard rfl rfl rfl) rfl rfl ?_
      refine T.pv (PV.gtr rfl rfl) (Wanted.guard rfl rfl rfl) rfl rfl ?_
      refine T.pv (PV.pickF rfl rfl rfl) Wanted.none rfl rfl ?_
      refine T.opsNil ?_
      refine T.condF rfl (decide_eq_false (by omega)) ?_
      refine T.skip ?_
      refine T.seq ?_
      refine T.region ?_
      refine T.pv (PV.fieldAddr rfl) Wanted.none rfl rfl ?_
      refine T.pv (PV.load1 rfl zq0 rfl) Wanted.none rfl rfl ?_
      refine T.callV Wanted.none rfl rfl (name_fn _ _) ?_
      refine T.pv (PV.not rfl) Wanted.none rfl rfl ?_
      refine T.opsNil ?_
      cases hn : validName f.rg
      · have he : flErr f = 4 := by unfold flErr; rw [if_neg h1, hn]; rfl
        rw [he] at h5
        refine T.condT rfl rfl ?_
        refine T.seq ?_
        refine T.region ?_
        refine T.pv (PV.assign rfl) Wanted.none rfl rfl ?_
        refine T.opsNil ?_
        exact T.retF (Lv.fin (RV.tmp rfl rfl) (by rw [← h5]; rfl))
      · have he : flErr f = 0 := by unfold flErr; rw [if_neg h1, hn]; rfl
        rw [he] at h5
        refine T.condF rfl rfl ?_
        refine T.skip ?_
        refine T.blkEnd ?_
        refine T.region ?_
        refine T.pv (PV.add rfl rfl (by omega)) Wanted.none rfl rfl ?_
        refine T.pv (PV.move rfl) Wanted.none rfl rfl ?_
        refine T.opsNil ?_
        have h6 : flsErr (l.drop (i + 1)) = flsErr l := by simpa using h5
        exact T.nextC hi h6 rfl zq8 (by repeat (first | exact Sel.refl _ | exact Sel.nil | (refine Sel.cons zq1 ?_) | (refine Sel.app zq1 ?_) | exact Sel.one zq1))
  · refine T.seq ?_
    refine T.region ?_
    refine T.pv (PV.lss rfl rfl) Wanted.none rfl rfl ?_
    refine T.opsNil ?_
    refine T.seq ?_
    refine T.condF rfl (decide_eq_false (by omega)) ?_
    refine T.exit rfl ?_
    refine T.seq ?_
    refine T.region ?_
    refine T.pv (PV.assign rfl) Wanted.none rfl rfl ?_
    refine T.opsNil ?_
    exact T.retF (Lv.fin (RV.tmp rfl rfl) (by rw [← h5, List.drop_of_length_le (by omega)]; rfl))
theorem validate_ref (l : List Fl) (v : Value) (H : Hp) (hv : FlL H v l) (hlb : l.length ≤ 1000000) : Fn Try.prog 18 #[v] H (fun u _ => u = .int .i64 (flsErr l)) := by
  obtain ⟨ad, cap, rfl⟩ := hv.len
  refine Fn.of_T (vs := [.slice ad l.length cap]) Try.func18 rfl rfl fun w => ?_
  refine T.seq ?_
  refine T.region ?_
  refine T.pv (PV.assign rfl) Wanted.none rfl rfl ?_
  refine T.opsNil ?_
  refine T.seq ?_
  refine T.seq ?_
  refine T.region ?_
  refine T.pv (PV.move rfl) Wanted.none rfl rfl ?_
  refine T.pv (PV.lenSl rfl) Wanted.none rfl rfl ?_
  refine T.pv (PV.move rfl) Wanted.none rfl rfl ?_
  refine T.opsNil ?_
  refine T.block ?_
  refine T.loopC [(6, Value.int IntKind.i64 (↑l.length : Int)), (5, Value.slice ad l.length cap)] zq8 7 l.length (fun i => flsErr (l.drop i) = flsErr l) (by simp) rfl ?_
  rintro i ⟨h3, h5⟩
  by_cases hi : i < l.length
  · obtain ⟨b, off, f, rfl, hix, hsub⟩ := RowL.get encFl_len hv hi
    unfold encFl at hsub
    rw [flsErr_drop hix] at h5
    by_cases h1 : f.op < 1 ∨ 3 < f.op
    · have he : flErr f = 1 := by unfold flErr; rw [if_pos h1]
      rw [he] at h5
      rcases h1 with h1 | h1
      · refine T.seq ?_
        refine T.region ?_
        refine T.pv (PV.lss rfl rfl) Wanted.none rfl rfl ?_
        refine T.opsNil ?_
        refine T.seq ?_
        refine T.condT rfl (decide_eq_true (by omega)) ?_
        refine T.skip ?_
        refine T.seq ?_
        refine T.block ?_
        refine T.seq ?_
        refine T.region ?_
        refine T.pv (PV.indexAddr rfl rfl (by omega)) Wanted.none rfl rfl ?_
        refine T.pv (PV.loadSubAll rfl (by assumption) (by exact rfl)) Wanted.none rfl rfl ?_
        (refine T.alloc Wanted.none rfl ?_; intro b4)
        refine T.storeA Wanted.none rfl rfl zq8 (by exact rfl) zq14 zq13 ?_
        refine T.opsNil ?_
        refine T.seq ?_
        refine T.seq ?_
        refine T.region ?_
        refine T.pv (PV.fieldAddr rfl) Wanted.none rfl rfl ?_
        refine T.pv (PV.load1 rfl zq0 rfl) Wanted.none rfl rfl ?_
        refine T.pv (PV.lss rfl rfl) Wanted.none rfl rfl ?_
        refine T.pv (PV.move rfl) Wanted.none rfl rfl ?_
        refine T.setT (d := 14) rfl (by omega) ?_
        refine T.pass (Unwanted.guard rfl rfl rfl) rfl rfl ?_
        refine T.pass (Unwanted.guard rfl rfl rfl) rfl rfl ?_
        refine T.pass (Unwanted.guard rfl rfl rfl) rfl rfl ?_
        refine T.pv (PV.pickT rfl rfl rfl) Wanted.none rfl rfl ?_
        refine T.opsNil ?_
        refine T.condT rfl rfl ?_
        refine T.seq ?_
        refine T.region ?_
        refine T.pv (PV.assign rfl) Wanted.none rfl rfl ?_
        refine T.opsNil ?_
        exact T.retF (Lv.fin (RV.tmp rfl rfl) (by rw [← h5]; rfl))
      · refine T.seq ?_
        refine T.region ?_
        refine T.pv (PV.lss rfl rfl) Wanted.none rfl rfl ?_
        refine T.opsNil ?_
        refine T.seq ?_
        refine T.condT rfl (decide_eq_true (by omega)) ?_
        refine T.skip ?_
        refine T.seq ?_
        refine T.block ?_
        refine T.seq ?_
        refine T.region ?_
        refine T.pv (PV.indexAddr rfl rfl (by omega)) Wanted.none rfl rfl ?_
        refine T.pv (PV.loadSubAll rfl (by assumption) (by exact rfl)) Wanted.none rfl rfl ?_
        (refine T.alloc Wanted.none rfl ?_; intro b4)
        refine T.storeA Wanted.none rfl rfl zq8 (by exact rfl) zq14 zq13 ?_
        refine T.opsNil ?_
        refine T.seq ?_
        refine T.seq ?_
        refine T.region ?_
        refine T.pv (PV.fieldAddr rfl) Wanted.none rfl rfl ?_
        refine T.pv (PV.load1 rfl zq0 rfl) Wanted.none rfl rfl ?_
        refine T.pv (PV.lss rfl rfl) Wanted.none rfl rfl ?_
        refine T.pv (PV.move rfl) Wanted.none rfl rfl ?_
        refine T.setF (d := 14) rfl (by omega) ?_
        refine T.pv (PV.fieldAddr rfl) (Wanted.guard rfl rfl rfl) rfl rfl ?_
        refine T.pv (PV.load1 rfl zq0 rfl) (Wanted.guard rfl rfl rfl) rfl rfl ?_
        refine T.pv (PV.gtr rfl rfl) (Wanted.guard rfl rfl rfl) rfl rfl ?_
        refine T.pv (PV.pickF rfl rfl rfl) Wanted.none rfl rfl ?_
        refine T.opsNil ?_
        refine T.condT rfl (decide_eq_true (by omega)) ?_
        refine T.seq ?_
        refine T.region ?_
        refine T.pv (PV.assign rfl) Wanted.none rfl rfl ?_
        refine T.opsNil ?_
        exact T.retF (Lv.fin (RV.tmp rfl rfl) (by rw [← h5]; rfl))
    · refine T.seq ?_
      refine T.region ?_
      refine T.pv (PV.lss rfl rfl) Wanted.none rfl rfl ?_
      refine T.opsNil ?_
      refine T.seq ?_
      refine T.condT rfl (decide_eq_true (by omega)) ?_
      refine T.skip ?_
      refine T.seq ?_
      refine T.block ?_
      refine T.seq ?_
      refine T.region ?_
      refine T.pv (PV.indexAddr rfl rfl (by omega)) Wanted.none rfl rfl ?_
      refine T.pv (PV.loadSubAll rfl (by assumption) (by exact rfl)) Wanted.none rfl rfl ?_
      (refine T.alloc Wanted.none rfl ?_; intro b4)
      refine T.storeA Wanted.none rfl rfl zq8 (by exact rfl) zq14 zq13 ?_
      refine T.opsNil ?_
      refine T.seq ?_
      refine T.seq ?_
      refine T.region ?_
      refine T.pv (PV.fieldAddr rfl) Wanted.none rfl rfl ?_
      refine T.pv (PV.load1 rfl zq0 rfl) Wanted.none rfl rfl ?_
      refine T.pv (PV.lss rfl rfl) Wanted.none rfl rfl ?_
      refine T.pv (PV.move rfl) Wanted.none rfl rfl ?_
      refine T.setF (d := 14) rfl (by omega) ?_
      refine T.pv (PV.fieldAddr rfl) (Wanted.guard rfl rfl rfl) rfl rfl ?_
      refine T.pv (PV.load1 rfl zq0 rfl) (Wanted.guard rfl rfl rfl) rfl rfl ?_
      refine T.pv (PV.gtr rfl rfl) (Wanted.guard rfl rfl rfl) rfl rfl ?_
      refine T.pv (PV.pickF rfl rfl rfl) Wanted.none rfl rfl ?_
      refine T.opsNil ?_
      refine T.condF rfl (decide_eq_false (by omega)) ?_
      refine T.skip ?_
      refine T.seq ?_
      refine T.region ?_
      refine T.pv (PV.fieldAddr rfl) Wanted.none rfl rfl ?_
      refine T.pv (PV.load1 rfl zq0 rfl) Wanted.none rfl rfl ?_
      refine T.callV Wanted.none rfl rfl (name4_fn _ _) ?_
      refine T.pv (PV.not rfl) Wanted.none rfl rfl ?_
      refine T.opsNil ?_
      cases hn : validName f.rg
      · have he : flErr f = 4 := by unfold flErr; rw [if_neg h1, hn]; rfl
        rw [he] at h5
        refine T.condT rfl rfl ?_
        refine T.seq ?_
        refine T.region ?_
        refine T.pv (PV.assign rfl) Wanted.none rfl rfl ?_
        refine T.opsNil ?_
        exact T.retF (Lv.fin (RV.tmp rfl rfl) (by rw [← h5]; rfl))
      · have he : flErr f = 0 := by unfold flErr; rw [if_neg h1, hn]; rfl
        rw [he] at h5
        refine T.condF rfl rfl ?_
        refine T.skip ?_
        refine T.blkEnd ?_
        refine T.region ?_
        refine T.pv (PV.add rfl rfl (by omega)) Wanted.none rfl rfl ?_
        refine T.pv (PV.move rfl) Wanted.none rfl rfl ?_
        refine T.opsNil ?_
        have h6 : flsErr (l.drop (i + 1)) = flsErr l := by simpa using h5
        exact T.nextC hi h6 rfl zq8 (by repeat (first | exact Sel.refl _ | exact Sel.nil | (refine Sel.cons zq1 ?_) | (refine Sel.app zq1 ?_) | exact Sel.one zq1))
  · refine T.seq ?_
    refine T.region ?_
    refine T.pv (PV.lss rfl rfl) Wanted.none rfl rfl ?_
    refine T.opsNil ?_
    refine T.seq ?_
    refine T.condF rfl (decide_eq_false (by omega)) ?_
    refine T.exit rfl ?_
    refine T.seq ?_
    refine T.region ?_
    refine T.pv (PV.assign rfl) Wanted.none rfl rfl ?_
    refine T.opsNil ?_
    exact T.retF (Lv.fin (RV.tmp rfl rfl) (by rw [← h5, List.drop_of_length_le (by omega)]; rfl))
/-- how a region is related to a span -/
def relB (op : Int) (r : Rg) (s : Sp) : Bool :=
  if op = 1 then decide (r.b ≤ s.1) && decide (s.2 ≤ r.e) else if op = 2 then decide (s.1 ≤ r.b) && decide (r.e ≤ s.2) else decide (r.b < s.2) && decide (s.1 < r.e)
theorem related_fn (op : Int) (r : Rg) (s : Sp) (H : Hp) (hr : RgOk H r) : Fn Try.prog 34 #[.int .i64 op, rgV r, spV s] H (fun u _ => u = .bool (relB op r s)) := by
  obtain ⟨ak, ck, hk⟩ := hr.1.len
  unfold rgV spV
  rw [hk]
  refine Fn.of_T (vs := [.int .i64 op, .agg #[.string r.ty, .int .i64 r.b, .int .i64 r.e, .slice ak r.ks.length ck], .agg #[.int .i64 s.1, .int .i64 s.2]]) Try.func34 rfl rfl fun w => ?_
  unfold relB
  by_cases h1 : op = 1
  · rw [if_pos h1]
    refine T.seq ?_
    refine T.region ?_
    (refine T.box Wanted.none rfl rfl zq15 ?_; intro b4)
    (refine T.box Wanted.none rfl rfl zq15 ?_; intro b5)
    refine T.pv (PV.assign rfl) Wanted.none rfl rfl ?_
    refine T.opsNil ?_
    refine T.seq ?_
    refine T.seq ?_
    refine T.region ?_
    refine T.pv (PV.move rfl) Wanted.none rfl rfl ?_
    refine T.opsNil ?_
    refine T.block ?_
    refine T.seq ?_
    refine T.region ?_
    refine T.pv (PV.eql rfl rfl) Wanted.none rfl rfl ?_
    refine T.pv (PV.assign rfl) Wanted.none rfl rfl ?_
    refine T.opsNil ?_
    refine T.condT rfl (decide_eq_true (by omega)) ?_
    refine T.seq ?_
    refine T.region ?_
    refine T.pv (PV.fieldAddr rfl) Wanted.none rfl rfl ?_
    refine T.pv (PV.load1 rfl zq0 rfl) Wanted.none rfl rfl ?_
    refine T.pv (PV.fieldAddr rfl) Wanted.none rfl rfl ?_
    refine T.pv (PV.load1 rfl zq0 rfl) Wanted.none rfl rfl ?_
    refine T.pv (PV.leq rfl rfl) Wanted.none rfl rfl ?_
    refine T.pv (PV.move rfl) Wanted.none rfl rfl ?_
    refine T.splitD (d := 15) rfl (fun h0 => ?_) (fun h0 => ?_)
    · refine T.pv (PV.fieldAddr rfl) (Wanted.guard rfl rfl rfl) rfl rfl ?_
      refine T.pv (PV.load1 rfl zq0 rfl) (Wanted.guard rfl rfl rfl) rfl rfl ?_
      refine T.pv (PV.fieldAddr rfl) (Wanted.guard rfl rfl rfl) rfl rfl ?_
      refine T.pv (PV.load1 rfl zq0 rfl) (Wanted.guard rfl rfl rfl) rfl rfl ?_
      refine T.pv (PV.leq rfl rfl) (Wanted.guard rfl rfl rfl) rfl rfl ?_
      refine T.pv (PV.pickT rfl rfl rfl) Wanted.none rfl rfl ?_
      refine T.pv (PV.assign rfl) Wanted.none rfl rfl ?_
      refine T.opsNil ?_
      (exact T.retF (Lv.fin (RV.tmp rfl rfl) (by congr 1; rw [Bool.eq_iff_iff]; simp <;> omega)))
    · refine T.pass (Unwanted.guard rfl rfl rfl) rfl rfl ?_
      refine T.pass (Unwanted.guard rfl rfl rfl) rfl rfl ?_
      refine T.pass (Unwanted.guard rfl rfl rfl) rfl rfl ?_
      refine T.pass (Unwanted.guard rfl rfl rfl) rfl rfl ?_
      refine T.pass (Unwanted.guard rfl rfl rfl) rfl rfl ?_
      refine T.pv (PV.pickF rfl rfl rfl) Wanted.none rfl rfl ?_
      refine T.pv (PV.assign rfl) Wanted.none rfl rfl ?_
      refine T.opsNil ?_
      (exact T.retF (Lv.fin (RV.tmp rfl rfl) (by congr 1; rw [Bool.eq_iff_iff]; simp <;> omega)))
  rw [if_neg h1]
  by_cases h2 : op = 2
  · rw [if_pos h2]
    refine T.seq ?_
    refine T.region ?_
    (refine T.box Wanted.none rfl rfl zq15 ?_; intro b4)
    (refine T.box Wanted.none rfl rfl zq15 ?_; intro b5)
    refine T.pv (PV.assign rfl) Wanted.none rfl rfl ?_
    refine T.opsNil ?_
    refine T.seq ?_
    refine T.seq ?_
    refine T.region ?_
    refine T.pv (PV.move rfl) Wanted.none rfl rfl ?_
    refine T.opsNil ?_
    refine T.block ?_
    refine T.seq ?_
    refine T.region ?_
    refine T.pv (PV.eql rfl rfl) Wanted.none rfl rfl ?_
    refine T.pv (PV.assign rfl) Wanted.none rfl rfl ?_
    refine T.opsNil ?_
    refine T.condF rfl (decide_eq_false (by omega)) ?_
    refine T.seq ?_
    refine T.region ?_
    refine T.pv (PV.eql rfl rfl) Wanted.none rfl rfl ?_
    refine T.pv (PV.assign rfl) Wanted.none rfl rfl ?_
    refine T.opsNil ?_
    refine T.condT rfl (decide_eq_true (by omega)) ?_
    refine T.seq ?_
    refine T.region ?_
    refine T.pv (PV.fieldAddr rfl) Wanted.none rfl rfl ?_
    refine T.pv (PV.load1 rfl zq0 rfl) Wanted.none rfl rfl ?_
    refine T.pv (PV.fieldAddr rfl) Wanted.none rfl rfl ?_
    refine T.pv (PV.load1 rfl zq0 rfl) Wanted.none rfl rfl ?_
    refine T.pv (PV.leq rfl rfl) Wanted.none rfl rfl ?_
    refine T.pv (PV.move rfl) Wanted.none rfl rfl ?_
    refine T.splitD (d := 29) rfl (fun h0 => ?_) (fun h0 => ?_)
    · refine T.pv (PV.fieldAddr rfl) (Wanted.guard rfl rfl rfl) rfl rfl ?_
      refine T.pv (PV.load1 rfl zq0 rfl) (Wanted.guard rfl rfl rfl) rfl rfl ?_
      refine T.pv (PV.fieldAddr rfl) (Wanted.guard rfl rfl rfl) rfl rfl ?_
      refine T.pv (PV.load1 rfl zq0 rfl) (Wanted.guard rfl rfl rfl) rfl rfl ?_
      refine T.pv (PV.leq rfl rfl) (Wanted.guard rfl rfl rfl) rfl rfl ?_
      refine T.pv (PV.pickT rfl rfl rfl) Wanted.none rfl rfl ?_
      refine T.pv (PV.assign rfl) Wanted.none rfl rfl ?_
      refine T.opsNil ?_
      (exact T.retF (Lv.fin (RV.tmp rfl rfl) (by congr 1; rw [Bool.eq_iff_iff]; simp <;> omega)))
    · refine T.pass (Unwanted.guard rfl rfl rfl) rfl rfl ?_
      refine T.pass (Unwanted.guard rfl rfl rfl) rfl rfl ?_
      refine T.pass (Unwanted.guard rfl rfl rfl) rfl rfl ?_
      refine T.pass (Unwanted.guard rfl rfl rfl) rfl rfl ?_
      refine T.pass (Unwanted.guard rfl rfl rfl) rfl rfl ?_
      refine T.pv (PV.pickF rfl rfl rfl) Wanted.none rfl rfl ?_
      refine T.pv (PV.assign rfl) Wanted.none rfl rfl ?_
      refine T.opsNil ?_
      (exact T.retF (Lv.fin (RV.tmp rfl rfl) (by congr 1; rw [Bool.eq_iff_iff]; simp <;> omega)))
  rw [if_neg h2]
  refine T.seq ?_
  refine T.region ?_
  (refine T.box Wanted.none rfl rfl zq15 ?_; intro b4)
  (refine T.box Wanted.none rfl rfl zq15 ?_; intro b5)
  refine T.pv (PV.assign rfl) Wanted.none rfl rfl ?_
  refine T.opsNil ?_
  refine T.seq ?_
  refine T.seq ?_
  refine T.region ?_
  refine T.pv (PV.move rfl) Wanted.none rfl rfl ?_
  refine T.opsNil ?_
  refine T.block ?_
  refine T.seq ?_
  refine T.region ?_
  refine T.pv (PV.eql rfl rfl) Wanted.none rfl rfl ?_
  refine T.pv (PV.assign rfl) Wanted.none rfl rfl ?_
  refine T.opsNil ?_
  refine T.condF rfl (decide_eq_false (by omega)) ?_
  refine T.seq ?_
  refine T.region ?_
  refine T.pv (PV.eql rfl rfl) Wanted.none rfl rfl ?_
  refine T.pv (PV.assign rfl) Wanted.none rfl rfl ?_
  refine T.opsNil ?_
  refine T.condF rfl (decide_eq_false (by omega)) ?_
  refine T.skip ?_
  refine T.blkEnd ?_
  refine T.seq ?_
  refine T.region ?_
  refine T.pv (PV.fieldAddr rfl) Wanted.none rfl rfl ?_
  refine T.pv (PV.load1 rfl zq0 rfl) Wanted.none rfl rfl ?_
  refine T.pv (PV.fieldAddr rfl) Wanted.none rfl rfl ?_
  refine T.pv (PV.load1 rfl zq0 rfl) Wanted.none rfl rfl ?_
  refine T.pv (PV.lss rfl rfl) Wanted.none rfl rfl ?_
  refine T.pv (PV.move rfl) Wanted.none rfl rfl ?_
  refine T.splitD (d := 41) rfl (fun h0 => ?_) (fun h0 => ?_)
  · refine T.pv (PV.fieldAddr rfl) (Wanted.guard rfl rfl rfl) rfl rfl ?_
    refine T.pv (PV.load1 rfl zq0 rfl) (Wanted.guard rfl rfl rfl) rfl rfl ?_
    refine T.pv (PV.fieldAddr rfl) (Wanted.guard rfl rfl rfl) rfl rfl ?_
    refine T.pv (PV.load1 rfl zq0 rfl) (Wanted.guard rfl rfl rfl) rfl rfl ?_
    refine T.pv (PV.lss rfl rfl) (Wanted.guard rfl rfl rfl) rfl rfl ?_
    refine T.pv (PV.pickT rfl rfl rfl) Wanted.none rfl rfl ?_
    refine T.pv (PV.assign rfl) Wanted.none rfl rfl ?_
    refine T.opsNil ?_
    (exact T.retF (Lv.fin (RV.tmp rfl rfl) (by congr 1; rw [Bool.eq_iff_iff]; simp <;> omega)))
  · refine T.pass (Unwanted.guard rfl rfl rfl) rfl rfl ?_
    refine T.pass (Unwanted.guard rfl rfl rfl) rfl rfl ?_
    refine T.pass (Unwanted.guard rfl rfl rfl) rfl rfl ?_
    refine T.pass (Unwanted.guard rfl rfl rfl) rfl rfl ?_
    refine T.pass (Unwanted.guard rfl rfl rfl) rfl rfl ?_
    refine T.pv (PV.pickF rfl rfl rfl) Wanted.none rfl rfl ?_
    refine T.pv (PV.assign rfl) Wanted.none rfl rfl ?_
    refine T.opsNil ?_
    (exact T.retF (Lv.fin (RV.tmp rfl rfl) (by congr 1; rw [Bool.eq_iff_iff]; simp <;> omega)))
end Go.Proofs.Ytchgfjclchhgmaa
namespace Go.Proofs.Ytchgfjclchhgmaa
open Go.RowKit

def encOf (p : Rg × Nat) : List Value := [.int .i64 (p.2 : Int), rgV p.1]
def ofL (l : List Rg) (kind : ByteArray) : List (Rg × Nat) := l.zipIdx.filter fun p => decide (p.1.ty = kind)
def ofN (l : List Rg) (kind : ByteArray) (i : Nat) : Nat := ((l.zipIdx.take i).filter fun p => decide (p.1.ty = kind)).length
theorem filter_at {α : Type} {p : α → Bool} {l : List α} {i : Nat} {x : α} (h : l[i]? = some x) (hp : p x = true) : (l.filter p)[((l.take i).filter p).length]? = some x := by
  have hi := List.getElem?_eq_some_iff.1 h
  have hl : l = l.take i ++ x :: l.drop (i + 1) := by
    conv => lhs; rw [← List.take_append_drop i l, List.drop_eq_getElem_cons hi.1, hi.2]
  conv => lhs; rw [hl]
  rw [List.filter_append, List.getElem?_append_right (by rw [← hl]; exact Nat.le_refl _), ← hl, Nat.sub_self, List.filter_cons, if_pos hp]
  rfl
theorem zip_at {l : List Rg} {i : Nat} {r : Rg} (h : l[i]? = some r) : l.zipIdx[i]? = some (r, i) := by
  rw [List.getElem?_zipIdx, h]; simp
theorem ofN_in {l : List Rg} {kind : ByteArray} {i : Nat} {r : Rg} (h : l[i]? = some r) (hk : r.ty = kind) : (ofL l kind)[ofN l kind i]? = some (r, i) ∧ ofN l kind (i + 1) = ofN l kind i + 1 := by
  have hz := zip_at h
  refine ⟨filter_at hz (by simp [hk]), ?_⟩
  unfold ofN
  rw [List.take_add_one, hz, List.filter_append, List.length_append]
  simp [hk]
theorem ofN_out {l : List Rg} {kind : ByteArray} {i : Nat} {r : Rg} (h : l[i]? = some r) (hk : ¬ r.ty = kind) : ofN l kind (i + 1) = ofN l kind i := by
  unfold ofN
  rw [List.take_add_one, zip_at h, List.filter_append, List.length_append]
  simp [hk]
theorem ofN_end {l : List Rg} {kind : ByteArray} : ofN l kind l.length = (ofL l kind).length := by
  unfold ofN ofL
  rw [List.take_of_length_le (by simp)]
structure OfG where
  i : Nat
  lc : List (Nat × Obj)
  H : Hp
theorem of_fn (c : Cp) (kind : ByteArray) (H : Hp) : Fn Try.prog 33 #[cpV c, .string kind] H (fun u H' => ∃ bc bk, u = .func (.func 60) #[] #[.pointer (some ⟨bc, 0, none⟩), .pointer (some ⟨bk, 0, none⟩)] ∧ H' bc = some (.cells (cpC c).toArray 33 (0, 0)) ∧ H' bk = some (.cells #[.string kind] 9 (0, 0))) := by
  unfold cpV cpC
  refine Fn.of_T (vs := [.agg #[c.va, c.vt, c.vx, c.vr, c.vn, c.vh, c.vs], .string kind]) Try.func33 rfl rfl fun w => ?_
  refine T.seq ?_
  refine T.region ?_
  (refine T.box Wanted.none rfl rfl zq15 ?_; intro b2)
  (refine T.box Wanted.none rfl rfl zq15 ?_; intro b3)
  refine T.pv (PV.assign rfl) Wanted.none rfl rfl ?_
  refine T.opsNil ?_
  refine T.seq ?_
  refine T.region ?_
  refine T.pv (PV.makeFunc rfl) Wanted.none rfl rfl ?_
  refine T.pv (PV.assign rfl) Wanted.none rfl rfl ?_
  refine T.opsNil ?_
  refine T.freezeB (b := b2) zq1 ?_
  intro H1 hle1 hb1
  refine T.freezeB (b := b3) zq1 ?_
  intro H2 hle2 hb2
  exact T.retF (Lv.fin (RV.tmp rfl rfl) ⟨_, _, rfl, hle2 _ _ hb1, hb2⟩)
set_option maxHeartbeats 1000000 in
theorem of_iter (c : Cp) (kind : ByteArray) (bc bk : Nat) (H : Hp) (hc : CpL H c) (hbc : H bc = some (.cells (cpC c).toArray 33 (0, 0))) (hbk : H bk = some (.cells #[.string kind] 9 (0, 0))) :
    Iter Try.prog 60 [.pointer (some ⟨bc, 0, none⟩), .pointer (some ⟨bk, 0, none⟩)] H (ofL c.rg kind) encOf := by
  refine Iter.of_T Try.func60 rfl rfl fun x0 L I Ix hY lc Hc h0 hle => ?_
  obtain ⟨aa, ca, at1, ct, ax, cx, ar, cr, an, cn, ah, ch, as1, cs, hcv, ha, ht, hx, hr, hn, hh, hs⟩ := (hc.mono hle).open
  have hlr := hc.lr
  have hbc' := hle _ _ hbc
  have hbk' := hle _ _ hbk
  have hcc : (cpC c).toArray = #[.slice aa c.att.length ca, .slice at1 c.tk.length ct, .slice ax c.tx.length cx, .slice ar c.rg.length cr, .slice an c.nd.length cn, .slice ah c.hd.length ch, .slice as1 c.rl.length cs] := by
    unfold cpV at hcv
    injection hcv
  rw [hcc] at hbc'
  refine T.seq ?_
  refine T.region ?_
  refine T.pv (PV.fieldAddr rfl) Wanted.none rfl rfl ?_
  refine T.pv (PV.load1 rfl zq0 rfl) Wanted.none rfl rfl ?_
  refine T.pv (PV.lenSl rfl) Wanted.none rfl rfl ?_
  refine T.pv (PV.move rfl) Wanted.none rfl rfl ?_
  refine T.opsNil ?_
  refine T.block ?_
  refine T.loopK [(8, Value.int IntKind.i64 (↑c.rg.length : Int)), (7, Value.slice ar c.rg.length cr), (0, Value.func (Fn.yield L) #[] #[]), (2, Value.pointer (some { block := bk, off := 0 }))] zq8 (γ := OfG) (fun g => g.i ≤ c.rg.length ∧ I (ofN c.rg kind g.i) g.lc g.H ∧ Hc.le g.H) (fun g => [(9, .int .i64 (g.i : Int))]) (fun g => g.lc) (fun g => g.H) (fun g => c.rg.length - g.i) ⟨0, lc, Hc⟩ ⟨by simp, h0, Hp.le.refl _⟩ zq8 (Sel.refl _) rfl ?_
  rintro ⟨i, lc, Hk⟩ ⟨g1, g2, g3⟩
  dsimp only at g1 g2 g3 ⊢
  have hbk2 := g3 _ _ hbk'
  by_cases hi : i < c.rg.length
  · obtain ⟨bx, off, r, rfl, hir, hsub⟩ := RowL.get encRg_len (hr.1.mono g3) hi
    obtain ⟨am, cm, hmv⟩ := (hr.2 r (List.mem_of_getElem? hir)).1.len
    unfold encRg at hsub
    rw [hmv] at hsub
    by_cases hk : r.ty = kind
    · have hd := decide_eq_true hk
      obtain ⟨n1, n2⟩ := ofN_in hir hk
      refine T.seq ?_
      refine T.region ?_
      refine T.pv (PV.lss rfl rfl) Wanted.none rfl rfl ?_
      refine T.opsNil ?_
      refine T.seq ?_
      refine T.condT rfl (decide_eq_true (by omega)) ?_
      refine T.skip ?_
      refine T.seq ?_
      refine T.block ?_
      refine T.seq ?_
      refine T.region ?_
      refine T.pv (PV.move rfl) Wanted.none rfl rfl ?_
      refine T.pv (PV.indexAddr rfl rfl (by omega)) Wanted.none rfl rfl ?_
      refine T.pv (PV.loadSubAll rfl (by assumption) (by exact rfl)) Wanted.none rfl rfl ?_
      (refine T.alloc Wanted.none rfl ?_; intro b5)
      refine T.pv (PV.assign rfl) Wanted.none rfl rfl ?_
      refine T.storeA Wanted.none rfl rfl zq8 (by exact rfl) zq14 zq13 ?_
      refine T.opsNil ?_
      refine T.seq ?_
      refine T.region ?_
      refine T.pv (PV.fieldAddr rfl) Wanted.none rfl rfl ?_
      refine T.pv (PV.load1 rfl zq0 rfl) Wanted.none rfl rfl ?_
      refine T.pv (PV.load1 rfl zq0 rfl) Wanted.none rfl rfl ?_
      refine T.pv (PV.seql rfl rfl) Wanted.none rfl rfl ?_
      refine T.pv (PV.move rfl) Wanted.none rfl rfl ?_
      refine T.pv (PV.move rfl) (Wanted.guard rfl rfl (by assumption)) rfl rfl ?_
      refine T.pv (PV.move rfl) (Wanted.guard rfl rfl (by assumption)) rfl rfl ?_
      refine T.pv (PV.loadAll rfl zq0 (by exact rfl)) (Wanted.guard rfl rfl (by assumption)) rfl rfl ?_
      refine T.setT (d := 18) rfl (by omega) ?_
      refine T.yield (li := [_]) hY (Wanted.guard rfl rfl rfl) rfl rfl n1 (by unfold encOf rgV; rw [hmv]; rfl) g2 ?_ ?_
      · intro lc' H' hle' hI'
        refine T.pv (PV.not rfl) (Wanted.guard rfl rfl rfl) rfl rfl ?_
        refine T.pv (PV.pickT rfl rfl rfl) Wanted.none rfl rfl ?_
        refine T.opsNil ?_
        refine T.condF rfl rfl ?_
        refine T.skip ?_
        refine T.blkEnd ?_
        refine T.region ?_
        refine T.pv (PV.add rfl rfl (by omega)) Wanted.none rfl rfl ?_
        refine T.pv (PV.move rfl) Wanted.none rfl rfl ?_
        refine T.opsNil ?_
        exact T.nextP ⟨i + 1, lc', H'⟩ ⟨by dsimp only; omega, by dsimp only; rw [n2]; exact hI', g3.trans hle'⟩ (by dsimp only; omega) zq8 (by repeat (first | exact Sel.refl _ | exact Sel.nil | (refine Sel.cons zq1 ?_) | (refine Sel.app zq1 ?_) | exact Sel.one zq1)) rfl
      · intro lc' H' hle' hI'
        refine T.pv (PV.not rfl) (Wanted.guard rfl rfl rfl) rfl rfl ?_
        refine T.pv (PV.pickT rfl rfl rfl) Wanted.none rfl rfl ?_
        refine T.opsNil ?_
        refine T.condT rfl rfl ?_
        exact T.retI rfl lc' zq4 (g3.trans hle') (.inr hI')
    · have hd := decide_eq_false hk
      have n2 := ofN_out hir hk
      refine T.seq ?_
      refine T.region ?_
      refine T.pv (PV.lss rfl rfl) Wanted.none rfl rfl ?_
      refine T.opsNil ?_
      refine T.seq ?_
      refine T.condT rfl (decide_eq_true (by omega)) ?_
      refine T.skip ?_
      refine T.seq ?_
      refine T.block ?_
      refine T.seq ?_
      refine T.region ?_
      refine T.pv (PV.move rfl) Wanted.none rfl rfl ?_
      refine T.pv (PV.indexAddr rfl rfl (by omega)) Wanted.none rfl rfl ?_
      refine T.pv (PV.loadSubAll rfl (by assumption) (by exact rfl)) Wanted.none rfl rfl ?_
      (refine T.alloc Wanted.none rfl ?_; intro b5)
      refine T.pv (PV.assign rfl) Wanted.none rfl rfl ?_
      refine T.storeA Wanted.none rfl rfl zq8 (by exact rfl) zq14 zq13 ?_
      refine T.opsNil ?_
      refine T.seq ?_
      refine T.region ?_
      refine T.pv (PV.fieldAddr rfl) Wanted.none rfl rfl ?_
      refine T.pv (PV.load1 rfl zq0 rfl) Wanted.none rfl rfl ?_
      refine T.pv (PV.load1 rfl zq0 rfl) Wanted.none rfl rfl ?_
      refine T.pv (PV.seql rfl rfl) Wanted.none rfl rfl ?_
      refine T.pv (PV.move rfl) Wanted.none rfl rfl ?_
      refine T.pass (Unwanted.guard rfl rfl (by assumption)) rfl rfl ?_
      refine T.pass (Unwanted.guard rfl rfl (by assumption)) rfl rfl ?_
      refine T.pass (Unwanted.guard rfl rfl (by assumption)) rfl rfl ?_
      refine T.pass (Unwanted.guard rfl rfl (by assumption)) rfl rfl ?_
      refine T.pass (Unwanted.guard rfl rfl (by assumption)) rfl rfl ?_
      refine T.pv (PV.pickF rfl (by assumption) rfl) Wanted.none rfl rfl ?_
      refine T.opsNil ?_
      refine T.condF rfl rfl ?_
      refine T.skip ?_
      refine T.blkEnd ?_
      refine T.region ?_
      refine T.pv (PV.add rfl rfl (by omega)) Wanted.none rfl rfl ?_
      refine T.pv (PV.move rfl) Wanted.none rfl rfl ?_
      refine T.opsNil ?_
      exact T.nextP ⟨i + 1, lc, Hk⟩ ⟨by dsimp only; omega, by dsimp only; rw [n2]; exact g2, g3⟩ (by dsimp only; omega) zq8 (by repeat (first | exact Sel.refl _ | exact Sel.nil | (refine Sel.cons zq1 ?_) | (refine Sel.app zq1 ?_) | exact Sel.one zq1)) rfl
  · have hin : i = c.rg.length := by omega
    rw [hin, ofN_end] at g2
    refine T.seq ?_
    refine T.region ?_
    refine T.pv (PV.lss rfl rfl) Wanted.none rfl rfl ?_
    refine T.opsNil ?_
    refine T.seq ?_
    refine T.condF rfl (decide_eq_false (by omega)) ?_
    refine T.exit rfl ?_
    exact T.fallI rfl lc zq4 g3 (.inl g2)
end Go.Proofs.Ytchgfjclchhgmaa
namespace Go.Proofs.Ytchgfjclchhgmaa
open Go.RowKit

/-- a filter and a span of which nothing is asked -/
def offB (n : Nat) (f : Fl) (s : Sp) : Prop := flErr f ≠ 0 ∨ s.1 < 0 ∨ s.2 ≤ s.1 ∨ (n : Int) < s.2
instance (n : Nat) (f : Fl) (s : Sp) : Decidable (offB n f s) := by unfold offB; infer_instance
def someB (l : List Rg) (f : Fl) (s : Sp) : Bool := l.any fun r => decide (r.ty = f.rg) && relB f.op r s
def holdsB (c : Cp) (f : Fl) (s : Sp) : Bool := if offB c.tk.length f s then false else (someB c.rg f s != f.nt)
theorem ofL_any (l : List Rg) (kind : ByteArray) (p : Rg → Bool) : (ofL l kind).any (fun x => p x.1) = l.any fun r => decide (r.ty = kind) && p r := by
  unfold ofL
  have : ∀ (l : List Rg) (n : Nat), ((l.zipIdx n).filter fun p => decide (p.1.ty = kind)).any (fun x => p x.1) = l.any fun r => decide (r.ty = kind) && p r := by
    intro l
    induction l with
    | nil => intro n; rfl
    | cons r l ih =>
      intro n
      rw [List.zipIdx_cons, List.filter_cons, List.any_cons, ← ih (n + 1)]
      by_cases h : r.ty = kind
      · rw [if_pos (by simp [h])]; simp [h]
      · rw [if_neg (by simp [h])]; simp [h]
  exact this l 0
theorem ofL_mem {l : List Rg} {kind : ByteArray} {r : Rg} {i : Nat} (h : (r, i) ∈ ofL l kind) : r ∈ l := by
  have := (List.mem_filter.1 h).1
  exact (List.mem_zipIdx' this).2 ▸ List.getElem_mem _
set_option maxHeartbeats 2000000 in
theorem holds_in (c : Cp) (f : Fl) (s : Sp) (H : Hp) (hc : CpL H c) : Fn Try.prog 13 #[cpV c, flV f, spV s] H (fun u _ => u = .bool (holdsB c f s)) := by
  have hof := fun H' => of_fn c f.rg H'
  have hve := fun (H' : Hp) v (h : FlL H' v [f]) => validate_in [f] v H' h (by simp)
  have hfe : flsErr [f] = flErr f := by
    unfold flsErr flsErr; split
    · rfl
    · omega
  have hrl := hc.r
  obtain ⟨at1, ct, hvt⟩ := hc.t.len
  have hlt := hc.lt
  unfold holdsB
  unfold cpV cpC at hof
  unfold cpV flV spV
  rw [hvt] at hof ⊢
  refine Fn.of_T (vs := [.agg #[c.va, .slice at1 c.tk.length ct, c.vx, c.vr, c.vn, c.vh, c.vs], .agg #[.int .i64 f.op, .bool f.nt, .string f.rg], .agg #[.int .i64 s.1, .int .i64 s.2]]) Try.func13 rfl rfl fun w => ?_
  refine T.seq ?_
  refine T.region ?_
  (refine T.box Wanted.none rfl rfl zq15 ?_; intro b3)
  (refine T.box Wanted.none rfl rfl zq15 ?_; intro b4)
  (refine T.box Wanted.none rfl rfl zq15 ?_; intro b5)
  (refine T.alloc Wanted.none rfl ?_; intro b6)
  refine T.opsNil ?_
  refine T.seq ?_
  refine T.seq ?_
  refine T.region ?_
  refine T.pv (PV.loadAll rfl zq0 (by exact rfl)) Wanted.none rfl rfl ?_
  (refine T.buildSlice Wanted.none rfl rfl zq11 (by exact rfl) (by exact rfl) ?_; intro b10)
  refine T.freezeB (b := b10) zq1 ?_
  intro H1 hle1 hb1
  have hv1 := hve H1 (.slice (some ⟨b10, 0, none⟩) 1 1) ⟨rfl, .inr ⟨b10, 0, 1, _, _, _, rfl, hb1, rfl, Nat.le_refl 1⟩⟩
  rw [hfe] at hv1
  refine T.callV Wanted.none rfl rfl (hv1) ?_
  refine T.pv (PV.neq rfl rfl) Wanted.none rfl rfl ?_
  refine T.pv (PV.move rfl) Wanted.none rfl rfl ?_
  have hoff : ∀ (P : Prop), (offB c.tk.length f s) → P → (if offB c.tk.length f s then false else (someB c.rg f s != f.nt)) = false := fun P h _ => if_pos h
  by_cases h1 : flErr f ≠ 0
  · refine T.setT (d := 13) rfl (by omega) ?_
    refine T.pass (Unwanted.guard rfl rfl rfl) rfl rfl ?_
    refine T.pass (Unwanted.guard rfl rfl rfl) rfl rfl ?_
    refine T.pass (Unwanted.guard rfl rfl rfl) rfl rfl ?_
    refine T.pv (PV.pickT rfl rfl rfl) Wanted.none rfl rfl ?_
    refine T.pv (PV.move rfl) Wanted.none rfl rfl ?_
    refine T.pass (Unwanted.guard rfl rfl rfl) rfl rfl ?_
    refine T.pass (Unwanted.guard rfl rfl rfl) rfl rfl ?_
    refine T.pass (Unwanted.guard rfl rfl rfl) rfl rfl ?_
    refine T.pass (Unwanted.guard rfl rfl rfl) rfl rfl ?_
    refine T.pass (Unwanted.guard rfl rfl rfl) rfl rfl ?_
    refine T.pv (PV.pickT rfl rfl rfl) Wanted.none rfl rfl ?_
    refine T.pv (PV.move rfl) Wanted.none rfl rfl ?_
    refine T.pass (Unwanted.guard rfl rfl rfl) rfl rfl ?_
    refine T.pass (Unwanted.guard rfl rfl rfl) rfl rfl ?_
    refine T.pass (Unwanted.guard rfl rfl rfl) rfl rfl ?_
    refine T.pass (Unwanted.guard rfl rfl rfl) rfl rfl ?_
    refine T.pass (Unwanted.guard rfl rfl rfl) rfl rfl ?_
    refine T.pass (Unwanted.guard rfl rfl rfl) rfl rfl ?_
    refine T.pv (PV.pickT rfl rfl rfl) Wanted.none rfl rfl ?_
    refine T.opsNil ?_
    refine T.condT rfl rfl ?_
    refine T.seq ?_
    refine T.region ?_
    refine T.store1 Wanted.none rfl rfl rfl zq14 zq13 ?_
    refine T.opsNil ?_
    exact T.retF (Lv.fin zq6 (by rw [if_pos (show offB c.tk.length f s from .inl h1)]))
  by_cases h2 : s.1 < 0
  · refine T.setF (d := 13) rfl (by omega) ?_
    refine T.pv (PV.fieldAddr rfl) (Wanted.guard rfl rfl rfl) rfl rfl ?_
    refine T.pv (PV.load1 rfl zq0 rfl) (Wanted.guard rfl rfl rfl) rfl rfl ?_
    refine T.pv (PV.lss rfl rfl) (Wanted.guard rfl rfl rfl) rfl rfl ?_
    refine T.pv (PV.pickF rfl rfl rfl) Wanted.none rfl rfl ?_
    refine T.pv (PV.move rfl) Wanted.none rfl rfl ?_
    refine T.setT (d := 18) rfl (by omega) ?_
    refine T.pass (Unwanted.guard rfl rfl rfl) rfl rfl ?_
    refine T.pass (Unwanted.guard rfl rfl rfl) rfl rfl ?_
    refine T.pass (Unwanted.guard rfl rfl rfl) rfl rfl ?_
    refine T.pass (Unwanted.guard rfl rfl rfl) rfl rfl ?_
    refine T.pass (Unwanted.guard rfl rfl rfl) rfl rfl ?_
    refine T.pv (PV.pickT rfl rfl rfl) Wanted.none rfl rfl ?_
    refine T.pv (PV.move rfl) Wanted.none rfl rfl ?_
    refine T.pass (Unwanted.guard rfl rfl rfl) rfl rfl ?_
    refine T.pass (Unwanted.guard rfl rfl rfl) rfl rfl ?_
    refine T.pass (Unwanted.guard rfl rfl rfl) rfl rfl ?_
    refine T.pass (Unwanted.guard rfl rfl rfl) rfl rfl ?_
    refine T.pass (Unwanted.guard rfl rfl rfl) rfl rfl ?_
    refine T.pass (Unwanted.guard rfl rfl rfl) rfl rfl ?_
    refine T.pv (PV.pickT rfl rfl rfl) Wanted.none rfl rfl ?_
    refine T.opsNil ?_
    refine T.condT rfl rfl ?_
    refine T.seq ?_
    refine T.region ?_
    refine T.store1 Wanted.none rfl rfl rfl zq14 zq13 ?_
    refine T.opsNil ?_
    exact T.retF (Lv.fin zq6 (by rw [if_pos (show offB c.tk.length f s from .inr (.inl h2))]))
  by_cases h3 : s.2 ≤ s.1
  · refine T.setF (d := 13) rfl (by omega) ?_
    refine T.pv (PV.fieldAddr rfl) (Wanted.guard rfl rfl rfl) rfl rfl ?_
    refine T.pv (PV.load1 rfl zq0 rfl) (Wanted.guard rfl rfl rfl) rfl rfl ?_
    refine T.pv (PV.lss rfl rfl) (Wanted.guard rfl rfl rfl) rfl rfl ?_
    refine T.pv (PV.pickF rfl rfl rfl) Wanted.none rfl rfl ?_
    refine T.pv (PV.move rfl) Wanted.none rfl rfl ?_
    refine T.setF (d := 18) rfl (by omega) ?_
    refine T.pv (PV.fieldAddr rfl) (Wanted.guard rfl rfl rfl) rfl rfl ?_
    refine T.pv (PV.load1 rfl zq0 rfl) (Wanted.guard rfl rfl rfl) rfl rfl ?_
    refine T.pv (PV.fieldAddr rfl) (Wanted.guard rfl rfl rfl) rfl rfl ?_
    refine T.pv (PV.load1 rfl zq0 rfl) (Wanted.guard rfl rfl rfl) rfl rfl ?_
    refine T.pv (PV.geq rfl rfl) (Wanted.guard rfl rfl rfl) rfl rfl ?_
    refine T.pv (PV.pickF rfl rfl rfl) Wanted.none rfl rfl ?_
    refine T.pv (PV.move rfl) Wanted.none rfl rfl ?_
    refine T.setT (d := 25) rfl (by omega) ?_
    refine T.pass (Unwanted.guard rfl rfl rfl) rfl rfl ?_
    refine T.pass (Unwanted.guard rfl rfl rfl) rfl rfl ?_
    refine T.pass (Unwanted.guard rfl rfl rfl) rfl rfl ?_
    refine T.pass (Unwanted.guard rfl rfl rfl) rfl rfl ?_
    refine T.pass (Unwanted.guard rfl rfl rfl) rfl rfl ?_
    refine T.pass (Unwanted.guard rfl rfl rfl) rfl rfl ?_
    refine T.pv (PV.pickT rfl rfl rfl) Wanted.none rfl rfl ?_
    refine T.opsNil ?_
    refine T.condT rfl rfl ?_
    refine T.seq ?_
    refine T.region ?_
    refine T.store1 Wanted.none rfl rfl rfl zq14 zq13 ?_
    refine T.opsNil ?_
    exact T.retF (Lv.fin zq6 (by rw [if_pos (show offB c.tk.length f s from .inr (.inr (.inl h3)))]))
  by_cases h4 : (c.tk.length : Int) < s.2
  · refine T.setF (d := 13) rfl (by omega) ?_
    refine T.pv (PV.fieldAddr rfl) (Wanted.guard rfl rfl rfl) rfl rfl ?_
    refine T.pv (PV.load1 rfl zq0 rfl) (Wanted.guard rfl rfl rfl) rfl rfl ?_
    refine T.pv (PV.lss rfl rfl) (Wanted.guard rfl rfl rfl) rfl rfl ?_
    refine T.pv (PV.pickF rfl rfl rfl) Wanted.none rfl rfl ?_
    refine T.pv (PV.move rfl) Wanted.none rfl rfl ?_
    refine T.setF (d := 18) rfl (by omega) ?_
    refine T.pv (PV.fieldAddr rfl) (Wanted.guard rfl rfl rfl) rfl rfl ?_
    refine T.pv (PV.load1 rfl zq0 rfl) (Wanted.guard rfl rfl rfl) rfl rfl ?_
    refine T.pv (PV.fieldAddr rfl) (Wanted.guard rfl rfl rfl) rfl rfl ?_
    refine T.pv (PV.load1 rfl zq0 rfl) (Wanted.guard rfl rfl rfl) rfl rfl ?_
    refine T.pv (PV.geq rfl rfl) (Wanted.guard rfl rfl rfl) rfl rfl ?_
    refine T.pv (PV.pickF rfl rfl rfl) Wanted.none rfl rfl ?_
    refine T.pv (PV.move rfl) Wanted.none rfl rfl ?_
    refine T.setF (d := 25) rfl (by omega) ?_
    refine T.pv (PV.fieldAddr rfl) (Wanted.guard rfl rfl rfl) rfl rfl ?_
    refine T.pv (PV.load1 rfl zq0 rfl) (Wanted.guard rfl rfl rfl) rfl rfl ?_
    refine T.pv (PV.fieldAddr rfl) (Wanted.guard rfl rfl rfl) rfl rfl ?_
    refine T.pv (PV.load1 rfl zq0 rfl) (Wanted.guard rfl rfl rfl) rfl rfl ?_
    refine T.pv (PV.lenSl rfl) (Wanted.guard rfl rfl rfl) rfl rfl ?_
    refine T.pv (PV.gtr rfl rfl) (Wanted.guard rfl rfl rfl) rfl rfl ?_
    refine T.pv (PV.pickF rfl rfl rfl) Wanted.none rfl rfl ?_
    refine T.opsNil ?_
    refine T.condT rfl (decide_eq_true (by omega)) ?_
    refine T.seq ?_
    refine T.region ?_
    refine T.store1 Wanted.none rfl rfl rfl zq14 zq13 ?_
    refine T.opsNil ?_
    exact T.retF (Lv.fin zq6 (by rw [if_pos (show offB c.tk.length f s from .inr (.inr (.inr h4)))]))
  have hno : ¬ offB c.tk.length f s := by unfold offB; omega
  rw [if_neg hno]
  refine T.setF (d := 13) rfl (by omega) ?_
  refine T.pv (PV.fieldAddr rfl) (Wanted.guard rfl rfl rfl) rfl rfl ?_
  refine T.pv (PV.load1 rfl zq0 rfl) (Wanted.guard rfl rfl rfl) rfl rfl ?_
  refine T.pv (PV.lss rfl rfl) (Wanted.guard rfl rfl rfl) rfl rfl ?_
  refine T.pv (PV.pickF rfl rfl rfl) Wanted.none rfl rfl ?_
  refine T.pv (PV.move rfl) Wanted.none rfl rfl ?_
  refine T.setF (d := 18) rfl (by omega) ?_
  refine T.pv (PV.fieldAddr rfl) (Wanted.guard rfl rfl rfl) rfl rfl ?_
  refine T.pv (PV.load1 rfl zq0 rfl) (Wanted.guard rfl rfl rfl) rfl rfl ?_
  refine T.pv (PV.fieldAddr rfl) (Wanted.guard rfl rfl rfl) rfl rfl ?_
  refine T.pv (PV.load1 rfl zq0 rfl) (Wanted.guard rfl rfl rfl) rfl rfl ?_
  refine T.pv (PV.geq rfl rfl) (Wanted.guard rfl rfl rfl) rfl rfl ?_
  refine T.pv (PV.pickF rfl rfl rfl) Wanted.none rfl rfl ?_
  refine T.pv (PV.move rfl) Wanted.none rfl rfl ?_
  refine T.setF (d := 25) rfl (by omega) ?_
  refine T.pv (PV.fieldAddr rfl) (Wanted.guard rfl rfl rfl) rfl rfl ?_
  refine T.pv (PV.load1 rfl zq0 rfl) (Wanted.guard rfl rfl rfl) rfl rfl ?_
  refine T.pv (PV.fieldAddr rfl) (Wanted.guard rfl rfl rfl) rfl rfl ?_
  refine T.pv (PV.load1 rfl zq0 rfl) (Wanted.guard rfl rfl rfl) rfl rfl ?_
  refine T.pv (PV.lenSl rfl) (Wanted.guard rfl rfl rfl) rfl rfl ?_
  refine T.pv (PV.gtr rfl rfl) (Wanted.guard rfl rfl rfl) rfl rfl ?_
  refine T.pv (PV.pickF rfl rfl rfl) Wanted.none rfl rfl ?_
  refine T.opsNil ?_
  refine T.condF rfl (decide_eq_false (by omega)) ?_
  refine T.skip ?_
  refine T.seq ?_
  refine T.seq ?_
  refine T.region ?_
  refine T.pv (PV.loadAll rfl zq0 (by exact rfl)) Wanted.none rfl rfl ?_
  refine T.pv (PV.fieldAddr rfl) Wanted.none rfl rfl ?_
  refine T.pv (PV.load1 rfl zq0 rfl) Wanted.none rfl rfl ?_
  refine T.call Wanted.none rfl rfl (hof H1) ?_
  rintro _ H2 hle2 ⟨bc, bk, rfl, hbc, hbk⟩
  refine T.opsNil ?_
  refine T.block ?_
  have hany := ofL_any c.rg f.rg fun r => relB f.op r s
  refine T.rangeFunc rfl rfl (of_iter c f.rg bc bk H2 (hc.mono (hle1.trans hle2)) (by unfold cpC; rw [hvt]; exact hbc) hbk) (fun _ => rfl) rfl (by decide)
    (fun n lk _ => lk = [(b6, .cells #[.bool false] 4 (0, 0)), (b5, .cells #[.int .i64 s.1, .int .i64 s.2] 25 (0, 0)), (b4, .cells #[.int .i64 f.op, .bool f.nt, .string f.rg] 38 (0, 0)), (b3, .cells #[c.va, .slice at1 c.tk.length ct, c.vx, c.vr, c.vn, c.vh, c.vs] 33 (0, 0))] ∧ ((ofL c.rg f.rg).take n).any (fun x => relB f.op x.1 s) = false)
    (fun cd lk _ => cd = .ret ∧ lk = [(b6, .cells #[.bool !f.nt] 4 (0, 0)), (b5, .cells #[.int .i64 s.1, .int .i64 s.2] 25 (0, 0)), (b4, .cells #[.int .i64 f.op, .bool f.nt, .string f.rg] 38 (0, 0)), (b3, .cells #[c.va, .slice at1 c.tk.length ct, c.vx, c.vr, c.vn, c.vh, c.vs] 33 (0, 0))] ∧ someB c.rg f s = true)
    ⟨rfl, by simp⟩ ?_ ?_ ?_
  · rintro n ⟨r, idx⟩ lk Hk hx ⟨rfl, hn⟩ hle L rec lo hrec
    have hrm := ofL_mem (List.mem_of_getElem? hx)
    have hrok := (hrl.2 r hrm).mono ((hle1.trans hle2).trans hle)
    obtain ⟨ak, ck, hk⟩ := hrok.1.len
    have hrel := related_fn f.op r s Hk hrok
    unfold encOf
    unfold rgV spV at hrel
    unfold rgV
    dsimp only
    rw [hk] at hrel ⊢
    refine T.region ?_
    (refine T.alloc Wanted.none rfl ?_; intro b8)
    refine T.storeA Wanted.none rfl rfl zq8 (by exact rfl) zq14 zq13 ?_
    refine T.opsNil ?_
    refine T.begin (lk := [_, _, _, _, _]) hrec ?_
    refine T.block ?_
    refine T.seq ?_
    refine T.region ?_
    refine T.pv (PV.fieldAddr rfl) Wanted.none rfl rfl ?_
    refine T.pv (PV.load1 rfl zq0 rfl) Wanted.none rfl rfl ?_
    refine T.pv (PV.loadAll rfl zq0 (by exact rfl)) Wanted.none rfl rfl ?_
    refine T.pv (PV.loadAll rfl zq0 (by exact rfl)) Wanted.none rfl rfl ?_
    refine T.callV Wanted.none rfl rfl (hrel) ?_
    refine T.opsNil ?_
    cases hb : relB f.op r s
    · refine T.condF rfl rfl ?_
      refine T.skip ?_
      refine T.blkEnd ?_
      refine T.roundEnd [_, _, _, _] zq4 (Hp.le.refl _) ⟨rfl, ?_⟩
      rw [List.take_add_one, hx, List.any_append, hn]
      simp [hb]
    · refine T.condT rfl rfl ?_
      refine T.seq ?_
      refine T.region ?_
      refine T.pv (PV.fieldAddr rfl) Wanted.none rfl rfl ?_
      refine T.pv (PV.load1 rfl zq0 rfl) Wanted.none rfl rfl ?_
      refine T.pv (PV.not rfl) Wanted.none rfl rfl ?_
      refine T.store1 Wanted.none rfl rfl rfl zq14 zq13 ?_
      refine T.opsNil ?_
      refine T.roundRet [_, _, _, _] zq4 (Hp.le.refl _) ⟨rfl, rfl, ?_⟩
      unfold someB
      rw [← hany]
      exact List.any_eq_true.2 ⟨(r, idx), List.mem_of_getElem? hx, hb⟩
  · rintro r lk Hk hle ⟨rfl, hn⟩
    refine T.blkEnd ?_
    refine T.seq ?_
    refine T.region ?_
    refine T.pv (PV.fieldAddr rfl) Wanted.none rfl rfl ?_
    refine T.pv (PV.load1 rfl zq0 rfl) Wanted.none rfl rfl ?_
    refine T.store1 Wanted.none rfl rfl rfl zq14 zq13 ?_
    refine T.opsNil ?_
    refine T.retF (Lv.mark Upd.head (Lv.fin zq6 ?_))
    rw [List.take_length] at hn
    unfold someB
    rw [← hany, hn]
    cases f.nt <;> rfl
  · rintro cd r lk Hk hle ⟨rfl, rfl, hs1⟩
    refine T.retF (Lv.mark Upd.head (Lv.fin zq6 ?_))
    rw [hs1]
    cases f.nt <;> rfl
end Go.Proofs.Ytchgfjclchhgmaa
