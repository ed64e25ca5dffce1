/- codepoint: Compare. -/
import Derived.Test.YteanijikhogijaaX5
namespace Go.Proofs.Yteanijikhogijaa
open Go.RowKit

theorem SlR.len {H : Hp} {sz : Nat} {v : Value} {n : Nat} {xs : List Value} (h : SlR H sz v n xs) : ∃ ad cap, v = .slice ad n cap := by
  rcases h.2 with ⟨rfl, h0⟩ | ⟨b, off, cap, cs, t, fz, rfl, _⟩
  · exact ⟨none, 0, by rw [h0]⟩
  · exact ⟨_, _, rfl⟩
def cmpU : List U → List U → Int
  | u :: l, v :: m => if (u.r : Int) < v.r then -1 else if (v.r : Int) < u.r then 1 else cmpU l m
  | _, _ => 0
theorem cmpU_next {l m : List U} {i : Nat} {x y : U} (hx : l[i]? = some x) (hy : m[i]? = some y) : cmpU (l.drop i) (m.drop i) = if (x.r : Int) < y.r then -1 else if (y.r : Int) < x.r then 1 else cmpU (l.drop (i + 1)) (m.drop (i + 1)) := by
  have hi := (List.getElem?_eq_some_iff.1 hx)
  have hj := (List.getElem?_eq_some_iff.1 hy)
  rw [List.drop_eq_getElem_cons hi.1, List.drop_eq_getElem_cons hj.1, hi.2, hj.2, cmpU]
theorem cmpU_end {l m : List U} {i : Nat} (h : l.length ≤ i ∨ m.length ≤ i) : cmpU (l.drop i) (m.drop i) = 0 := by
  rcases h with h | h
  · rw [List.drop_of_length_le h]; simp [cmpU]
  · rw [List.drop_of_length_le h]; cases l.drop i <;> simp [cmpU]
def strI (a b : ByteArray) : Int := if Op.bytesLess a.data.toList b.data.toList = true then -1 else if (!(Op.bytesLess a.data.toList b.data.toList || decide (a = b))) = true then 1 else 0
def cmpS (a b : ByteArray) : Int :=
  if cmpU (units a) (units b) ≠ 0 then cmpU (units a) (units b) else
  if (units a).length < (units b).length then -1 else if (units b).length < (units a).length then 1 else strI a b
def ordI (a b : Int) : Int := if a < b then -1 else if b < a then 1 else 0

set_option maxHeartbeats 1000000 in
theorem compare_fn (a b : ByteArray) (H : Hp) (ha : a.size ≤ 4000) (hb : b.size ≤ 4000) : Fn Try.prog 27 #[.string a, .string b] H (fun v _ => v = .int .i64 (cmpS a b)) := by
  refine Fn.of_T (vs := [.string a, .string b]) Try.func27 rfl rfl fun w => ?_
  refine T.seq ?_
  refine T.region ?_
  refine T.pv (PV.assign rfl) Wanted.none rfl rfl ?_
  refine T.opsNil ?_
  refine T.seq ?_
  refine T.region ?_
  refine T.pv (PV.move rfl) Wanted.none rfl rfl ?_
  refine T.call Wanted.none rfl rfl (list_fn a H ha) ?_
  intro va H1 hH1 hsa
  obtain ⟨ada, capa, rfl⟩ := hsa.len
  refine T.pv (PV.move rfl) Wanted.none rfl rfl ?_
  refine T.call Wanted.none rfl rfl (list_fn b H1 hb) ?_
  intro vb H2 hH2 hsb
  obtain ⟨adb, capb, rfl⟩ := hsb.len
  have hsa := hsa.mono hH2
  refine T.pv (PV.assign rfl) Wanted.none rfl rfl ?_
  refine T.pv (PV.assign rfl) Wanted.none rfl rfl ?_
  refine T.opsNil ?_
  refine T.seq ?_
  refine T.seq ?_
  refine T.region ?_
  refine T.pv (PV.assign rfl) Wanted.none rfl rfl ?_
  refine T.opsNil ?_
  refine T.block ?_
  refine T.loop (γ := Nat) (fun i => i ≤ (units a).length ∧ i ≤ (units b).length ∧ cmpU ((units a).drop i) ((units b).drop i) = cmpU (units a) (units b))
    (fun i => [(0, .string a), (1, .string b), (5, .slice ada (units a).length capa), (6, .slice adb (units b).length capb), (7, .int .i64 (i : Int)), (4, .int .i64 0)])
    (fun _ => []) (fun _ => H2) (fun i => (units a).length - i) 0 ⟨by simp, by simp, by simp⟩ (by repeat (first | exact trivial | refine And.intro rfl ?_)) (by repeat (first | exact List.Sublist.slnil | exact List.nil_sublist _ | exact List.Sublist.refl _ | exact List.sublist_append_left _ [] | apply List.Sublist.cons_cons | apply List.Sublist.cons | refine List.Sublist.append_left ?_ _)) rfl ?_
  rintro i ⟨h1, h2, h3⟩
  try dsimp only at h1 h2 h3 ⊢
  have hua := units_len a
  have hub := units_len b
  by_cases hi : i < (units a).length ∧ i < (units b).length
  · obtain ⟨x, hx⟩ : ∃ x, (units a)[i]? = some x := ⟨_, List.getElem?_eq_getElem hi.1⟩
    obtain ⟨y, hy⟩ : ∃ y, (units b)[i]? = some y := ⟨_, List.getElem?_eq_getElem hi.2⟩
    obtain ⟨m1, m2, m3, m4, m5⟩ := units_mem (List.mem_of_getElem? hx)
    obtain ⟨n1, n2, n3, n4, n5⟩ := units_mem (List.mem_of_getElem? hy)
    obtain ⟨ba, offa, capa', hve, hsuba⟩ := hsa.elem (i := i) (by omega) (flat_elem cellsU_len (units a) i x hx)
    injection hve with e1 e2 e3
    subst e1 e3
    obtain ⟨bb, offb, capb', hve, hsubb⟩ := hsb.elem (i := i) (by omega) (flat_elem cellsU_len (units b) i y hy)
    injection hve with e1 e2 e3
    subst e1 e3
    have hcn := cmpU_next hx hy
    refine T.seq ?_
    refine T.seq ?_
    refine T.region ?_
    refine T.pv (PV.move rfl) Wanted.none rfl rfl ?_
    refine T.pv (PV.move rfl) Wanted.none rfl rfl ?_
    refine T.pv (PV.lenSl rfl) Wanted.none rfl rfl ?_
    refine T.pv (PV.lss rfl rfl) Wanted.none rfl rfl ?_
    refine T.pv (PV.move rfl) Wanted.none rfl rfl ?_
    refine T.setT (d := 18) rfl (by omega) ?_
    refine T.pv (PV.move rfl) (Wanted.guard rfl rfl rfl) rfl rfl ?_
    refine T.pv (PV.move rfl) (Wanted.guard rfl rfl rfl) rfl rfl ?_
    refine T.pv (PV.lenSl rfl) (Wanted.guard rfl rfl rfl) rfl rfl ?_
    refine T.pv (PV.lss rfl rfl) (Wanted.guard rfl rfl rfl) rfl rfl ?_
    refine T.pv (PV.pickT rfl rfl rfl) Wanted.none rfl rfl ?_
    refine T.opsNil ?_
    refine T.condT rfl (decide_eq_true (by omega)) ?_
    refine T.skip ?_
    refine T.seq ?_
    refine T.block ?_
    refine T.seq ?_
    refine T.regionQ (by kernel_rfl) ?_
    refine TQ.pv (PV.move rfl) Wanted.none rfl rfl ?_
    refine TQ.pv (PV.move rfl) Wanted.none rfl rfl ?_
    refine TQ.pv (PV.indexAddr rfl rfl (by omega)) Wanted.none rfl rfl ?_
    refine TQ.pv (PV.fieldAddr rfl) Wanted.none rfl rfl ?_
    refine TQ.pv (PV.loadSub rfl (by assumption) rfl) Wanted.none rfl rfl ?_
    refine TQ.pv (PV.conv64 rfl (by omega)) Wanted.none rfl rfl ?_
    refine TQ.pv (PV.move rfl) Wanted.none rfl rfl ?_
    refine TQ.pv (PV.move rfl) Wanted.none rfl rfl ?_
    refine TQ.pv (PV.indexAddr rfl rfl (by omega)) Wanted.none rfl rfl ?_
    refine TQ.pv (PV.fieldAddr rfl) Wanted.none rfl rfl ?_
    refine TQ.pv (PV.loadSub rfl (by assumption) rfl) Wanted.none rfl rfl ?_
    refine TQ.pv (PV.conv64 rfl (by omega)) Wanted.none rfl rfl ?_
    refine TQ.callV Wanted.none rfl rfl (order_fn x.r y.r H2) ?_
    refine TQ.pv (PV.assign rfl) Wanted.none rfl rfl ?_
    refine TQ.nil ?_
    refine T.seq ?_
    refine T.region ?_
    refine T.pv (PV.move rfl) Wanted.none rfl rfl ?_
    refine T.pv (PV.neq rfl rfl) Wanted.none rfl rfl ?_
    refine T.opsNil ?_
    have hxy : (decide ((if (x.r : Int) < y.r then (-1 : Int) else if (y.r : Int) < x.r then 1 else 0) ≠ 0) = false) = ((x.r : Int) = y.r) := by
      rw [decide_eq_false_iff_not, eq_iff_iff]
      constructor
      · intro h; split at h <;> (try split at h) <;> omega
      · intro h; rw [if_neg (by omega), if_neg (by omega)]; simp
    refine T.cond rfl (fun hc => ?_) (fun hc => ?_)
    · refine T.seq ?_
      refine T.region ?_
      refine T.pv (PV.move rfl) Wanted.none rfl rfl ?_
      refine T.pv (PV.assign rfl) Wanted.none rfl rfl ?_
      refine T.opsNil ?_
      refine T.retF (Lv.fin (RV.tmp rfl rfl) ?_)
      have hne : ¬ ((x.r : Int) = y.r) := by rw [← hxy, hc]; simp
      have : cmpU (units a) (units b) = if (x.r : Int) < y.r then (-1 : Int) else if (y.r : Int) < x.r then 1 else 0 := by
        rw [← h3, hcn]
        split
        · rfl
        · rw [if_pos (by omega), if_pos (by omega)]
      rw [cmpS, if_pos (show cmpU (units a) (units b) ≠ 0 by rw [this]; omega), this]
    · rw [hxy] at hc
      refine T.skip ?_
      refine T.blkEnd ?_
      refine T.region ?_
      refine T.pv (PV.move rfl) Wanted.none rfl rfl ?_
      refine T.pv (PV.add rfl rfl (by omega)) Wanted.none rfl rfl ?_
      refine T.pv (PV.assign rfl) Wanted.none rfl rfl ?_
      refine T.opsNil ?_
      refine T.next (i + 1) ⟨by omega, by omega, ?_⟩ (by omega) (by repeat (first | exact trivial | refine And.intro rfl ?_)) (by repeat (first | exact List.Sublist.slnil | exact List.nil_sublist _ | exact List.Sublist.refl _ | exact List.sublist_append_left _ [] | apply List.Sublist.cons_cons | apply List.Sublist.cons | refine List.Sublist.append_left ?_ _)) rfl
      rw [← h3, hcn, if_neg (by omega), if_neg (by omega)]
  · have hce := cmpU_end (l := units a) (m := units b) (i := i) (by omega)
    rw [h3] at hce
    have hstr : cmpS a b = if (units a).length < (units b).length then -1 else if (units b).length < (units a).length then 1 else strI a b := by rw [cmpS, hce]; simp
    by_cases hia : i < (units a).length
    · refine T.seq ?_
      refine T.seq ?_
      refine T.region ?_
      refine T.pv (PV.move rfl) Wanted.none rfl rfl ?_
      refine T.pv (PV.move rfl) Wanted.none rfl rfl ?_
      refine T.pv (PV.lenSl rfl) Wanted.none rfl rfl ?_
      refine T.pv (PV.lss rfl rfl) Wanted.none rfl rfl ?_
      refine T.pv (PV.move rfl) Wanted.none rfl rfl ?_
      refine T.setT (d := 18) rfl (by omega) ?_
      refine T.pv (PV.move rfl) (Wanted.guard rfl rfl rfl) rfl rfl ?_
      refine T.pv (PV.move rfl) (Wanted.guard rfl rfl rfl) rfl rfl ?_
      refine T.pv (PV.lenSl rfl) (Wanted.guard rfl rfl rfl) rfl rfl ?_
      refine T.pv (PV.lss rfl rfl) (Wanted.guard rfl rfl rfl) rfl rfl ?_
      refine T.pv (PV.pickT rfl rfl rfl) Wanted.none rfl rfl ?_
      refine T.opsNil ?_
      refine T.condF rfl (decide_eq_false (by omega)) ?_
      refine T.exit rfl ?_
      refine T.seq ?_
      refine T.seq ?_
      refine T.region ?_
      refine T.pv (PV.move rfl) Wanted.none rfl rfl ?_
      refine T.pv (PV.lenSl rfl) Wanted.none rfl rfl ?_
      refine T.pv (PV.move rfl) Wanted.none rfl rfl ?_
      refine T.pv (PV.lenSl rfl) Wanted.none rfl rfl ?_
      refine T.callV Wanted.none rfl rfl (order_fn (units a).length (units b).length H2) ?_
      refine T.pv (PV.assign rfl) Wanted.none rfl rfl ?_
      refine T.opsNil ?_
      refine T.seq ?_
      refine T.region ?_
      refine T.pv (PV.move rfl) Wanted.none rfl rfl ?_
      refine T.pv (PV.neq rfl rfl) Wanted.none rfl rfl ?_
      refine T.opsNil ?_
      refine T.condT rfl (decide_eq_true (by omega)) ?_
      refine T.seq ?_
      refine T.region ?_
      refine T.pv (PV.move rfl) Wanted.none rfl rfl ?_
      refine T.pv (PV.assign rfl) Wanted.none rfl rfl ?_
      refine T.opsNil ?_
      refine T.retF (Lv.fin (RV.tmp rfl rfl) ?_)
      rw [hstr]; congr 1
      omega
    · by_cases hlt : (units a).length < (units b).length
      · refine T.seq ?_
        refine T.seq ?_
        refine T.region ?_
        refine T.pv (PV.move rfl) Wanted.none rfl rfl ?_
        refine T.pv (PV.move rfl) Wanted.none rfl rfl ?_
        refine T.pv (PV.lenSl rfl) Wanted.none rfl rfl ?_
        refine T.pv (PV.lss rfl rfl) Wanted.none rfl rfl ?_
        refine T.pv (PV.move rfl) Wanted.none rfl rfl ?_
        refine T.setF (d := 18) rfl (by omega) ?_
        refine T.pass (Unwanted.guard rfl rfl rfl) rfl rfl ?_
        refine T.pass (Unwanted.guard rfl rfl rfl) rfl rfl ?_
        refine T.pass (Unwanted.guard rfl rfl rfl) rfl rfl ?_
        refine T.pass (Unwanted.guard rfl rfl rfl) rfl rfl ?_
        refine T.pv (PV.pickF rfl rfl rfl) Wanted.none rfl rfl ?_
        refine T.opsNil ?_
        refine T.condF rfl rfl ?_
        refine T.exit rfl ?_
        refine T.seq ?_
        refine T.seq ?_
        refine T.region ?_
        refine T.pv (PV.move rfl) Wanted.none rfl rfl ?_
        refine T.pv (PV.lenSl rfl) Wanted.none rfl rfl ?_
        refine T.pv (PV.move rfl) Wanted.none rfl rfl ?_
        refine T.pv (PV.lenSl rfl) Wanted.none rfl rfl ?_
        refine T.callV Wanted.none rfl rfl (order_fn (units a).length (units b).length H2) ?_
        refine T.pv (PV.assign rfl) Wanted.none rfl rfl ?_
        refine T.opsNil ?_
        refine T.seq ?_
        refine T.region ?_
        refine T.pv (PV.move rfl) Wanted.none rfl rfl ?_
        refine T.pv (PV.neq rfl rfl) Wanted.none rfl rfl ?_
        refine T.opsNil ?_
        refine T.condT rfl (decide_eq_true (by omega)) ?_
        refine T.seq ?_
        refine T.region ?_
        refine T.pv (PV.move rfl) Wanted.none rfl rfl ?_
        refine T.pv (PV.assign rfl) Wanted.none rfl rfl ?_
        refine T.opsNil ?_
        refine T.retF (Lv.fin (RV.tmp rfl rfl) ?_)
        rw [hstr]; congr 1
        omega
      · have hstr : cmpS a b = strI a b := by rw [hstr, if_neg (by omega), if_neg (by omega)]
        refine T.seq ?_
        refine T.seq ?_
        refine T.region ?_
        refine T.pv (PV.move rfl) Wanted.none rfl rfl ?_
        refine T.pv (PV.move rfl) Wanted.none rfl rfl ?_
        refine T.pv (PV.lenSl rfl) Wanted.none rfl rfl ?_
        refine T.pv (PV.lss rfl rfl) Wanted.none rfl rfl ?_
        refine T.pv (PV.move rfl) Wanted.none rfl rfl ?_
        refine T.setF (d := 18) rfl (by omega) ?_
        refine T.pass (Unwanted.guard rfl rfl rfl) rfl rfl ?_
        refine T.pass (Unwanted.guard rfl rfl rfl) rfl rfl ?_
        refine T.pass (Unwanted.guard rfl rfl rfl) rfl rfl ?_
        refine T.pass (Unwanted.guard rfl rfl rfl) rfl rfl ?_
        refine T.pv (PV.pickF rfl rfl rfl) Wanted.none rfl rfl ?_
        refine T.opsNil ?_
        refine T.condF rfl rfl ?_
        refine T.exit rfl ?_
        refine T.seq ?_
        refine T.seq ?_
        refine T.region ?_
        refine T.pv (PV.move rfl) Wanted.none rfl rfl ?_
        refine T.pv (PV.lenSl rfl) Wanted.none rfl rfl ?_
        refine T.pv (PV.move rfl) Wanted.none rfl rfl ?_
        refine T.pv (PV.lenSl rfl) Wanted.none rfl rfl ?_
        refine T.callV Wanted.none rfl rfl (order_fn (units a).length (units b).length H2) ?_
        refine T.pv (PV.assign rfl) Wanted.none rfl rfl ?_
        refine T.opsNil ?_
        refine T.seq ?_
        refine T.region ?_
        refine T.pv (PV.move rfl) Wanted.none rfl rfl ?_
        refine T.pv (PV.neq rfl rfl) Wanted.none rfl rfl ?_
        refine T.opsNil ?_
        refine T.condF rfl (decide_eq_false (by omega)) ?_
        refine T.skip ?_
        refine T.seq ?_
        refine T.block ?_
        refine T.seq ?_
        refine T.region ?_
        refine T.pv (PV.move rfl) Wanted.none rfl rfl ?_
        refine T.pv (PV.move rfl) Wanted.none rfl rfl ?_
        refine T.pv (PV.slss rfl rfl) Wanted.none rfl rfl ?_
        refine T.pv (PV.assign rfl) Wanted.none rfl rfl ?_
        refine T.opsNil ?_
        refine T.cond rfl (fun h0 => ?_) (fun h0 => ?_)
        · refine T.seq ?_
          refine T.region ?_
          refine T.pv (PV.assign rfl) Wanted.none rfl rfl ?_
          refine T.opsNil ?_
          (refine T.retF (Lv.fin (RV.tmp rfl rfl) ?_); rw [hstr]; congr 1; unfold strI; first | rw [if_pos h0] | rw [if_neg (by rw [h0]; simp), if_pos h1] | rw [if_neg (by rw [h0]; simp), if_neg (by rw [h1]; simp)])
        · refine T.seq ?_
          refine T.region ?_
          refine T.pv (PV.move rfl) Wanted.none rfl rfl ?_
          refine T.pv (PV.move rfl) Wanted.none rfl rfl ?_
          refine T.pv (PV.sgtr rfl rfl) Wanted.none rfl rfl ?_
          refine T.pv (PV.assign rfl) Wanted.none rfl rfl ?_
          refine T.opsNil ?_
          refine T.cond rfl (fun h1 => ?_) (fun h1 => ?_)
          · refine T.seq ?_
            refine T.region ?_
            refine T.pv (PV.assign rfl) Wanted.none rfl rfl ?_
            refine T.opsNil ?_
            (refine T.retF (Lv.fin (RV.tmp rfl rfl) ?_); rw [hstr]; congr 1; unfold strI; first | rw [if_pos h0] | rw [if_neg (by rw [h0]; simp), if_pos h1] | rw [if_neg (by rw [h0]; simp), if_neg (by rw [h1]; simp)])
          · refine T.skip ?_
            refine T.blkEnd ?_
            refine T.seq ?_
            refine T.region ?_
            refine T.pv (PV.assign rfl) Wanted.none rfl rfl ?_
            refine T.opsNil ?_
            (refine T.retF (Lv.fin (RV.tmp rfl rfl) ?_); rw [hstr]; congr 1; unfold strI; first | rw [if_pos h0] | rw [if_neg (by rw [h0]; simp), if_pos h1] | rw [if_neg (by rw [h0]; simp), if_neg (by rw [h1]; simp)])

end Go.Proofs.Yteanijikhogijaa
