/- codepoint: the reference's Reverse and Compare; long, awake. -/
import Derived.Test.YteanijikhogijaaX9
namespace Go.Proofs.Yteanijikhogijaa
open Go.RowKit

set_option maxHeartbeats 1000000 in
theorem refReverse_fn (s : ByteArray) (H : Hp) (hs : s.size ≤ 4000) : Fn Try.prog 18 #[.string s] H (fun v _ => v = .string ⟨(revL s).toArray⟩) := by
  refine Fn.of_T (vs := [.string s]) Try.func18 rfl rfl fun w => ?_
  refine T.seq ?_
  refine T.region ?_
  refine T.pv (PV.assign rfl) Wanted.none rfl rfl ?_
  refine T.opsNil ?_
  refine T.seq ?_
  refine T.region ?_
  refine T.pv (PV.assign rfl) Wanted.none rfl rfl ?_
  refine T.opsNil ?_
  refine T.seq ?_
  refine T.seq ?_
  refine T.region ?_
  refine T.pv (PV.move rfl) Wanted.none rfl rfl ?_
  refine T.call Wanted.none rfl rfl (refUnits_fn s H hs) ?_
  intro vl H1 hH1 hsl
  obtain ⟨adl, capl, rfl⟩ := hsl.len
  have hul := units_len s
  refine T.pv (PV.lenSl rfl) Wanted.none rfl rfl ?_
  refine T.pv (PV.move rfl) Wanted.none rfl rfl ?_
  refine T.opsNil ?_
  refine T.block ?_
  refine T.loop (γ := Nat) (fun i => i ≤ (units s).length)
    (fun i => [(0, .string s), (9, .int .i64 (i : Int)), (8, .int .i64 ((units s).length : Int)), (7, .slice adl (units s).length capl), (3, .string ⟨(((units s).take i).reverse.flatMap (piece s)).toArray⟩)])
    (fun _ => []) (fun _ => H1) (fun i => (units s).length - i) 0 (by simp) (by repeat (first | exact trivial | refine And.intro rfl ?_)) (by repeat (first | exact List.Sublist.slnil | exact List.nil_sublist _ | exact List.Sublist.refl _ | exact List.sublist_append_left _ [] | apply List.Sublist.cons_cons | apply List.Sublist.cons | refine List.Sublist.append_left ?_ _)) rfl ?_
  intro i h1
  by_cases hi : i < (units s).length
  · obtain ⟨x, hx⟩ : ∃ x, (units s)[i]? = some x := ⟨_, List.getElem?_eq_getElem hi⟩
    obtain ⟨m1, m2, m3, m4, m5⟩ := units_mem (List.mem_of_getElem? hx)
    obtain ⟨b, off, cap', hve, hsub⟩ := hsl.elem (i := i) (by omega) (flat_elem encF_len (units s) i x hx)
    injection hve with e1 e2 e3
    subst e1 e3
    have hpl := piece_le s x
    have hz1 : ByteArray.size ⟨(((units s).take i).reverse.flatMap (piece s)).toArray⟩ ≤ 4 * 4000 := by
      have h2 := flat_le (f := piece s) (m := 4) ((units s).take i).reverse (fun y hy => by
        have hy := List.mem_of_mem_take (List.mem_reverse.1 hy)
        have := piece_le s y; have := (units_mem hy).2.2.1; omega)
      have h3 : ((units s).take i).reverse.length ≤ 4000 := by rw [List.length_reverse, List.length_take]; omega
      have h4 : ByteArray.size ⟨(((units s).take i).reverse.flatMap (piece s)).toArray⟩ = (((units s).take i).reverse.flatMap (piece s)).length := by simp [ByteArray.size]
      omega
    have hz2 : ByteArray.size ⟨(piece s x).toArray⟩ ≤ 4 := by
      have : ByteArray.size ⟨(piece s x).toArray⟩ = (piece s x).length := by simp [ByteArray.size]
      omega
    have happ : (⟨(piece s x).toArray⟩ : ByteArray) ++ ⟨(((units s).take i).reverse.flatMap (piece s)).toArray⟩ = ⟨(((units s).take (i + 1)).reverse.flatMap (piece s)).toArray⟩ := by
      rw [List.take_add_one, hx]
      exact congrArg ByteArray.mk (by simp)
    refine T.seq ?_
    refine T.region ?_
    refine T.pv (PV.lss rfl rfl) Wanted.none rfl rfl ?_
    refine T.opsNil ?_
    refine T.seq ?_
    refine T.condT rfl (decide_eq_true (by omega)) ?_
    refine T.skip ?_
    refine T.seq ?_
    refine T.block ?_
    refine T.seq ?_
    refine T.region ?_
    refine T.pv (PV.indexAddr rfl rfl (by omega)) Wanted.none rfl rfl ?_
    refine T.pv (PV.loadSubAll rfl (by assumption) (by exact rfl)) Wanted.none rfl rfl ?_
    (refine T.alloc Wanted.none rfl ?_; intro b5)
    refine T.storeA Wanted.none rfl rfl (by repeat (first | exact trivial | refine And.intro rfl ?_)) (by exact rfl) (by repeat (first | exact Upd.head | apply Upd.tail | apply Upd.app)) (by repeat (first | exact Splice.nil | apply Splice.cons | apply Splice.skip)) ?_
    refine T.opsNil ?_
    refine T.region ?_
    refine T.pv (PV.move rfl) Wanted.none rfl rfl ?_
    refine T.pv (PV.fieldAddr rfl) Wanted.none rfl rfl ?_
    refine T.pv (PV.load1 rfl (by first | exact .fro (by assumption) | exact .own (by repeat (first | exact List.Mem.head _ | apply List.Mem.tail | apply List.mem_append_right))) rfl) Wanted.none rfl rfl ?_
    refine T.pv (PV.fieldAddr rfl) Wanted.none rfl rfl ?_
    refine T.pv (PV.load1 rfl (by first | exact .fro (by assumption) | exact .own (by repeat (first | exact List.Mem.head _ | apply List.Mem.tail | apply List.mem_append_right))) rfl) Wanted.none rfl rfl ?_
    refine T.pv (PV.fieldAddr rfl) Wanted.none rfl rfl ?_
    refine T.pv (PV.load1 rfl (by first | exact .fro (by assumption) | exact .own (by repeat (first | exact List.Mem.head _ | apply List.Mem.tail | apply List.mem_append_right))) rfl) Wanted.none rfl rfl ?_
    refine T.pv (PV.add rfl rfl (by omega)) Wanted.none rfl rfl ?_
    refine T.pv (PV.sliceStr rfl rfl rfl (by omega)) Wanted.none rfl rfl ?_
    refine T.pv (PV.move rfl) Wanted.none rfl rfl ?_
    rw [extract_piece]
    refine T.pv (PV.sadd rfl rfl ?_) Wanted.none rfl rfl ?_
    · omega
    rw [happ]
    refine T.pv (PV.assign rfl) Wanted.none rfl rfl ?_
    refine T.opsNil ?_
    refine T.blkEnd ?_
    refine T.region ?_
    refine T.pv (PV.add rfl rfl (by omega)) Wanted.none rfl rfl ?_
    refine T.pv (PV.move rfl) Wanted.none rfl rfl ?_
    refine T.opsNil ?_
    exact T.next (i + 1) (by omega) (by omega) (by repeat (first | exact trivial | refine And.intro rfl ?_)) (by repeat (first | exact List.Sublist.slnil | exact List.nil_sublist _ | exact List.Sublist.refl _ | exact List.sublist_append_left _ [] | apply List.Sublist.cons_cons | apply List.Sublist.cons | refine List.Sublist.append_left ?_ _)) rfl
  · refine T.seq ?_
    refine T.region ?_
    refine T.pv (PV.lss rfl rfl) Wanted.none rfl rfl ?_
    refine T.opsNil ?_
    refine T.seq ?_
    refine T.condF rfl (decide_eq_false (by omega)) ?_
    refine T.exit rfl ?_
    refine T.seq ?_
    refine T.region ?_
    refine T.pv (PV.move rfl) Wanted.none rfl rfl ?_
    refine T.pv (PV.assign rfl) Wanted.none rfl rfl ?_
    refine T.opsNil ?_
    refine T.retF (Lv.fin (RV.tmp rfl rfl) ?_)
    rw [List.take_of_length_le (by omega)]
    rfl
set_option maxHeartbeats 1000000 in
theorem refCompare_fn (a b : ByteArray) (H : Hp) (ha : a.size ≤ 4000) (hb : b.size ≤ 4000) : Fn Try.prog 28 #[.string a, .string b] H (fun v _ => v = .int .i64 (cmpS a b)) := by
  refine Fn.of_T (vs := [.string a, .string b]) Try.func28 rfl rfl fun w => ?_
  refine T.seq ?_
  refine T.region ?_
  refine T.pv (PV.assign rfl) Wanted.none rfl rfl ?_
  refine T.opsNil ?_
  refine T.seq ?_
  refine T.region ?_
  refine T.pv (PV.move rfl) Wanted.none rfl rfl ?_
  refine T.call Wanted.none rfl rfl (refUnits_fn a H ha) ?_
  intro va H1 hH1 hsa
  obtain ⟨ada, capa, rfl⟩ := hsa.len
  refine T.pv (PV.move rfl) Wanted.none rfl rfl ?_
  refine T.call Wanted.none rfl rfl (refUnits_fn b H1 hb) ?_
  intro vb H2 hH2 hsb
  obtain ⟨adb, capb, rfl⟩ := hsb.len
  have hsa := hsa.mono hH2
  refine T.pv (PV.assign rfl) Wanted.none rfl rfl ?_
  refine T.pv (PV.assign rfl) Wanted.none rfl rfl ?_
  refine T.opsNil ?_
  refine T.seq ?_
  refine T.seq ?_
  refine T.region ?_
  refine T.pv (PV.assign rfl) Wanted.none rfl rfl ?_
  refine T.opsNil ?_
  refine T.block ?_
  refine T.loop (γ := Nat) (fun i => i ≤ (units a).length ∧ i ≤ (units b).length ∧ cmpU ((units a).drop i) ((units b).drop i) = cmpU (units a) (units b))
    (fun i => [(0, .string a), (1, .string b), (5, .slice ada (units a).length capa), (6, .slice adb (units b).length capb), (7, .int .i64 (i : Int)), (4, .int .i64 0)])
    (fun _ => []) (fun _ => H2) (fun i => (units a).length - i) 0 ⟨by simp, by simp, by simp⟩ (by repeat (first | exact trivial | refine And.intro rfl ?_)) (by repeat (first | exact List.Sublist.slnil | exact List.nil_sublist _ | exact List.Sublist.refl _ | exact List.sublist_append_left _ [] | apply List.Sublist.cons_cons | apply List.Sublist.cons | refine List.Sublist.append_left ?_ _)) rfl ?_
  rintro i ⟨h1, h2, h3⟩
  have hua := units_len a
  have hub := units_len b
  by_cases hi : i < (units a).length ∧ i < (units b).length
  · obtain ⟨x, hx⟩ : ∃ x, (units a)[i]? = some x := ⟨_, List.getElem?_eq_getElem hi.1⟩
    obtain ⟨y, hy⟩ : ∃ y, (units b)[i]? = some y := ⟨_, List.getElem?_eq_getElem hi.2⟩
    obtain ⟨m1, m2, m3, m4, m5⟩ := units_mem (List.mem_of_getElem? hx)
    obtain ⟨n1, n2, n3, n4, n5⟩ := units_mem (List.mem_of_getElem? hy)
    obtain ⟨ba, offa, capa', hve, hsuba⟩ := hsa.elem (i := i) (by omega) (flat_elem encF_len (units a) i x hx)
    injection hve with e1 e2 e3
    subst e1 e3
    obtain ⟨bb, offb, capb', hve, hsubb⟩ := hsb.elem (i := i) (by omega) (flat_elem encF_len (units b) i y hy)
    injection hve with e1 e2 e3
    subst e1 e3
    have hcn := cmpU_next hx hy
    refine T.seq ?_
    refine T.seq ?_
    refine T.region ?_
    refine T.pv (PV.move rfl) Wanted.none rfl rfl ?_
    refine T.pv (PV.move rfl) Wanted.none rfl rfl ?_
    refine T.pv (PV.lenSl rfl) Wanted.none rfl rfl ?_
    refine T.pv (PV.lss rfl rfl) Wanted.none rfl rfl ?_
    refine T.pv (PV.move rfl) Wanted.none rfl rfl ?_
    refine T.setT (d := 16) rfl (by omega) ?_
    refine T.pv (PV.move rfl) (Wanted.guard rfl rfl rfl) rfl rfl ?_
    refine T.pv (PV.move rfl) (Wanted.guard rfl rfl rfl) rfl rfl ?_
    refine T.pv (PV.lenSl rfl) (Wanted.guard rfl rfl rfl) rfl rfl ?_
    refine T.pv (PV.lss rfl rfl) (Wanted.guard rfl rfl rfl) rfl rfl ?_
    refine T.pv (PV.pickT rfl rfl rfl) Wanted.none rfl rfl ?_
    refine T.opsNil ?_
    refine T.condT rfl (decide_eq_true (by omega)) ?_
    refine T.skip ?_
    refine T.seq ?_
    refine T.block ?_
    refine T.seq ?_
    refine T.regionQ (by kernel_rfl) ?_
    refine TQ.pv (PV.move rfl) Wanted.none rfl rfl ?_
    refine TQ.pv (PV.move rfl) Wanted.none rfl rfl ?_
    refine TQ.pv (PV.indexAddr rfl rfl (by omega)) Wanted.none rfl rfl ?_
    refine TQ.pv (PV.fieldAddr rfl) Wanted.none rfl rfl ?_
    refine TQ.pv (PV.loadSub rfl (by assumption) rfl) Wanted.none rfl rfl ?_
    refine TQ.pv (PV.move rfl) Wanted.none rfl rfl ?_
    refine TQ.pv (PV.move rfl) Wanted.none rfl rfl ?_
    refine TQ.pv (PV.indexAddr rfl rfl (by omega)) Wanted.none rfl rfl ?_
    refine TQ.pv (PV.fieldAddr rfl) Wanted.none rfl rfl ?_
    refine TQ.pv (PV.loadSub rfl (by assumption) rfl) Wanted.none rfl rfl ?_
    refine TQ.pv (PV.neq rfl rfl) Wanted.none rfl rfl ?_
    refine TQ.nil ?_
    refine T.condD rfl (fun hc => ?_) (fun hc => ?_)
    · refine T.seq ?_
      refine T.regionQ (by kernel_rfl) ?_
      refine TQ.pv (PV.move rfl) Wanted.none rfl rfl ?_
      refine TQ.pv (PV.move rfl) Wanted.none rfl rfl ?_
      refine TQ.pv (PV.indexAddr rfl rfl (by omega)) Wanted.none rfl rfl ?_
      refine TQ.pv (PV.fieldAddr rfl) Wanted.none rfl rfl ?_
      refine TQ.pv (PV.loadSub rfl (by assumption) rfl) Wanted.none rfl rfl ?_
      refine TQ.pv (PV.conv64 rfl (by omega)) Wanted.none rfl rfl ?_
      refine TQ.pv (PV.move rfl) Wanted.none rfl rfl ?_
      refine TQ.pv (PV.move rfl) Wanted.none rfl rfl ?_
      refine TQ.pv (PV.indexAddr rfl rfl (by omega)) Wanted.none rfl rfl ?_
      refine TQ.pv (PV.fieldAddr rfl) Wanted.none rfl rfl ?_
      refine TQ.pv (PV.loadSub rfl (by assumption) rfl) Wanted.none rfl rfl ?_
      refine TQ.pv (PV.conv64 rfl (by omega)) Wanted.none rfl rfl ?_
      refine TQ.pv (PV.sub rfl rfl (by omega)) Wanted.none rfl rfl ?_
      refine TQ.callV Wanted.none rfl rfl (sign_fn ((x.r : Int) - y.r) H2) ?_
      refine TQ.pv (PV.assign rfl) Wanted.none rfl rfl ?_
      refine TQ.nil ?_
      refine T.retF (Lv.fin (RV.tmp rfl rfl) ?_)
      have : cmpU (units a) (units b) = if ((x.r : Int) - y.r) < 0 then (-1 : Int) else if 0 < ((x.r : Int) - y.r) then 1 else 0 := by
        rw [← h3, hcn]
        by_cases hh : (x.r : Int) < y.r
        · rw [if_pos hh, if_pos (by omega)]
        · rw [if_neg hh, if_pos (by omega), if_neg (by omega), if_pos (by omega)]
      rw [cmpS, if_pos (show cmpU (units a) (units b) ≠ 0 by rw [this]; omega), this]
    · refine T.skip ?_
      refine T.blkEnd ?_
      refine T.region ?_
      refine T.pv (PV.move rfl) Wanted.none rfl rfl ?_
      refine T.pv (PV.add rfl rfl (by omega)) Wanted.none rfl rfl ?_
      refine T.pv (PV.assign rfl) Wanted.none rfl rfl ?_
      refine T.opsNil ?_
      refine T.next (i + 1) ⟨by omega, by omega, ?_⟩ (by omega) (by repeat (first | exact trivial | refine And.intro rfl ?_)) (by repeat (first | exact List.Sublist.slnil | exact List.nil_sublist _ | exact List.Sublist.refl _ | exact List.sublist_append_left _ [] | apply List.Sublist.cons_cons | apply List.Sublist.cons | refine List.Sublist.append_left ?_ _)) rfl
      rw [← h3, hcn, if_neg (by omega), if_neg (by omega)]
  · have hce := cmpU_end (l := units a) (m := units b) (i := i) (by omega)
    rw [h3] at hce
    have hstr : cmpS a b = if (units a).length < (units b).length then -1 else if (units b).length < (units a).length then 1 else strI a b := by rw [cmpS, hce]; simp
    by_cases hia : i < (units a).length
    · refine T.seq ?_
      refine T.seq ?_
      refine T.region ?_
      refine T.pv (PV.move rfl) Wanted.none rfl rfl ?_
      refine T.pv (PV.move rfl) Wanted.none rfl rfl ?_
      refine T.pv (PV.lenSl rfl) Wanted.none rfl rfl ?_
      refine T.pv (PV.lss rfl rfl) Wanted.none rfl rfl ?_
      refine T.pv (PV.move rfl) Wanted.none rfl rfl ?_
      refine T.setT (d := 16) rfl (by omega) ?_
      refine T.pv (PV.move rfl) (Wanted.guard rfl rfl rfl) rfl rfl ?_
      refine T.pv (PV.move rfl) (Wanted.guard rfl rfl rfl) rfl rfl ?_
      refine T.pv (PV.lenSl rfl) (Wanted.guard rfl rfl rfl) rfl rfl ?_
      refine T.pv (PV.lss rfl rfl) (Wanted.guard rfl rfl rfl) rfl rfl ?_
      refine T.pv (PV.pickT rfl rfl rfl) Wanted.none rfl rfl ?_
      refine T.opsNil ?_
      refine T.condF rfl (decide_eq_false (by omega)) ?_
      refine T.exit rfl ?_
      refine T.seq ?_
      refine T.seq ?_
      refine T.region ?_
      refine T.pv (PV.move rfl) Wanted.none rfl rfl ?_
      refine T.pv (PV.lenSl rfl) Wanted.none rfl rfl ?_
      refine T.pv (PV.move rfl) Wanted.none rfl rfl ?_
      refine T.pv (PV.lenSl rfl) Wanted.none rfl rfl ?_
      refine T.pv (PV.neq rfl rfl) Wanted.none rfl rfl ?_
      refine T.opsNil ?_
      refine T.condT rfl (decide_eq_true (by omega)) ?_
      refine T.seq ?_
      refine T.region ?_
      refine T.pv (PV.move rfl) Wanted.none rfl rfl ?_
      refine T.pv (PV.lenSl rfl) Wanted.none rfl rfl ?_
      refine T.pv (PV.move rfl) Wanted.none rfl rfl ?_
      refine T.pv (PV.lenSl rfl) Wanted.none rfl rfl ?_
      refine T.pv (PV.sub rfl rfl (by omega)) Wanted.none rfl rfl ?_
      refine T.callV Wanted.none rfl rfl (sign_fn (((units a).length : Int) - (units b).length) H2) ?_
      refine T.pv (PV.assign rfl) Wanted.none rfl rfl ?_
      refine T.opsNil ?_
      refine T.retF (Lv.fin (RV.tmp rfl rfl) ?_)
      rw [hstr]; congr 1
      omega
    · by_cases hlt : (units a).length < (units b).length
      · refine T.seq ?_
        refine T.seq ?_
        refine T.region ?_
        refine T.pv (PV.move rfl) Wanted.none rfl rfl ?_
        refine T.pv (PV.move rfl) Wanted.none rfl rfl ?_
        refine T.pv (PV.lenSl rfl) Wanted.none rfl rfl ?_
        refine T.pv (PV.lss rfl rfl) Wanted.none rfl rfl ?_
        refine T.pv (PV.move rfl) Wanted.none rfl rfl ?_
        refine T.setF (d := 16) rfl (by omega) ?_
        refine T.pass (Unwanted.guard rfl rfl rfl) rfl rfl ?_
        refine T.pass (Unwanted.guard rfl rfl rfl) rfl rfl ?_
        refine T.pass (Unwanted.guard rfl rfl rfl) rfl rfl ?_
        refine T.pass (Unwanted.guard rfl rfl rfl) rfl rfl ?_
        refine T.pv (PV.pickF rfl rfl rfl) Wanted.none rfl rfl ?_
        refine T.opsNil ?_
        refine T.condF rfl rfl ?_
        refine T.exit rfl ?_
        refine T.seq ?_
        refine T.seq ?_
        refine T.region ?_
        refine T.pv (PV.move rfl) Wanted.none rfl rfl ?_
        refine T.pv (PV.lenSl rfl) Wanted.none rfl rfl ?_
        refine T.pv (PV.move rfl) Wanted.none rfl rfl ?_
        refine T.pv (PV.lenSl rfl) Wanted.none rfl rfl ?_
        refine T.pv (PV.neq rfl rfl) Wanted.none rfl rfl ?_
        refine T.opsNil ?_
        refine T.condT rfl (decide_eq_true (by omega)) ?_
        refine T.seq ?_
        refine T.region ?_
        refine T.pv (PV.move rfl) Wanted.none rfl rfl ?_
        refine T.pv (PV.lenSl rfl) Wanted.none rfl rfl ?_
        refine T.pv (PV.move rfl) Wanted.none rfl rfl ?_
        refine T.pv (PV.lenSl rfl) Wanted.none rfl rfl ?_
        refine T.pv (PV.sub rfl rfl (by omega)) Wanted.none rfl rfl ?_
        refine T.callV Wanted.none rfl rfl (sign_fn (((units a).length : Int) - (units b).length) H2) ?_
        refine T.pv (PV.assign rfl) Wanted.none rfl rfl ?_
        refine T.opsNil ?_
        refine T.retF (Lv.fin (RV.tmp rfl rfl) ?_)
        rw [hstr]; congr 1
        omega
      · have hstr : cmpS a b = strI a b := by rw [hstr, if_neg (by omega), if_neg (by omega)]
        refine T.seq ?_
        refine T.seq ?_
        refine T.region ?_
        refine T.pv (PV.move rfl) Wanted.none rfl rfl ?_
        refine T.pv (PV.move rfl) Wanted.none rfl rfl ?_
        refine T.pv (PV.lenSl rfl) Wanted.none rfl rfl ?_
        refine T.pv (PV.lss rfl rfl) Wanted.none rfl rfl ?_
        refine T.pv (PV.move rfl) Wanted.none rfl rfl ?_
        refine T.setF (d := 16) rfl (by omega) ?_
        refine T.pass (Unwanted.guard rfl rfl rfl) rfl rfl ?_
        refine T.pass (Unwanted.guard rfl rfl rfl) rfl rfl ?_
        refine T.pass (Unwanted.guard rfl rfl rfl) rfl rfl ?_
        refine T.pass (Unwanted.guard rfl rfl rfl) rfl rfl ?_
        refine T.pv (PV.pickF rfl rfl rfl) Wanted.none rfl rfl ?_
        refine T.opsNil ?_
        refine T.condF rfl rfl ?_
        refine T.exit rfl ?_
        refine T.seq ?_
        refine T.seq ?_
        refine T.region ?_
        refine T.pv (PV.move rfl) Wanted.none rfl rfl ?_
        refine T.pv (PV.lenSl rfl) Wanted.none rfl rfl ?_
        refine T.pv (PV.move rfl) Wanted.none rfl rfl ?_
        refine T.pv (PV.lenSl rfl) Wanted.none rfl rfl ?_
        refine T.pv (PV.neq rfl rfl) Wanted.none rfl rfl ?_
        refine T.opsNil ?_
        refine T.condF rfl (decide_eq_false (by omega)) ?_
        refine T.skip ?_
        refine T.seq ?_
        refine T.block ?_
        refine T.seq ?_
        refine T.region ?_
        refine T.pv (PV.move rfl) Wanted.none rfl rfl ?_
        refine T.pv (PV.move rfl) Wanted.none rfl rfl ?_
        refine T.pv (PV.slss rfl rfl) Wanted.none rfl rfl ?_
        refine T.pv (PV.assign rfl) Wanted.none rfl rfl ?_
        refine T.opsNil ?_
        refine T.cond rfl (fun h0 => ?_) (fun h0 => ?_)
        · refine T.seq ?_
          refine T.region ?_
          refine T.pv (PV.assign rfl) Wanted.none rfl rfl ?_
          refine T.opsNil ?_
          (refine T.retF (Lv.fin (RV.tmp rfl rfl) ?_); rw [hstr]; congr 1; unfold strI; first | rw [if_pos h0] | rw [if_neg (by rw [h0]; simp), if_pos h1] | rw [if_neg (by rw [h0]; simp), if_neg (by rw [h1]; simp)])
        · refine T.seq ?_
          refine T.region ?_
          refine T.pv (PV.move rfl) Wanted.none rfl rfl ?_
          refine T.pv (PV.move rfl) Wanted.none rfl rfl ?_
          refine T.pv (PV.sgtr rfl rfl) Wanted.none rfl rfl ?_
          refine T.pv (PV.assign rfl) Wanted.none rfl rfl ?_
          refine T.opsNil ?_
          refine T.cond rfl (fun h1 => ?_) (fun h1 => ?_)
          · refine T.seq ?_
            refine T.region ?_
            refine T.pv (PV.assign rfl) Wanted.none rfl rfl ?_
            refine T.opsNil ?_
            (refine T.retF (Lv.fin (RV.tmp rfl rfl) ?_); rw [hstr]; congr 1; unfold strI; first | rw [if_pos h0] | rw [if_neg (by rw [h0]; simp), if_pos h1] | rw [if_neg (by rw [h0]; simp), if_neg (by rw [h1]; simp)])
          · refine T.skip ?_
            refine T.blkEnd ?_
            refine T.seq ?_
            refine T.region ?_
            refine T.pv (PV.assign rfl) Wanted.none rfl rfl ?_
            refine T.opsNil ?_
            (refine T.retF (Lv.fin (RV.tmp rfl rfl) ?_); rw [hstr]; congr 1; unfold strI; first | rw [if_pos h0] | rw [if_neg (by rw [h0]; simp), if_pos h1] | rw [if_neg (by rw [h0]; simp), if_neg (by rw [h1]; simp)])
theorem map_str (l : List ByteArray) : l.map Value.string = l.flatMap (fun s => [Value.string s]) := by induction l <;> simp_all
def longL (l : List ByteArray) : Bool := l.any fun s => decide (400 < s.size)
theorem long_fn (l : List ByteArray) (v : Value) (H : Hp) (hv : SlR H 1 v l.length (l.map .string)) (hl : l.length ≤ 1000) : Fn Try.prog 13 #[v] H (fun v _ => v = .bool (longL l)) := by
  obtain ⟨ad, cap, rfl⟩ := hv.len
  refine Fn.of_T (vs := [.slice ad l.length cap]) Try.func13 rfl rfl fun w => ?_
  refine T.seq ?_
  refine T.region ?_
  refine T.pv (PV.assign rfl) Wanted.none rfl rfl ?_
  refine T.opsNil ?_
  refine T.seq ?_
  refine T.seq ?_
  refine T.region ?_
  refine T.pv (PV.move rfl) Wanted.none rfl rfl ?_
  refine T.pv (PV.lenSl rfl) Wanted.none rfl rfl ?_
  refine T.pv (PV.move rfl) Wanted.none rfl rfl ?_
  refine T.opsNil ?_
  refine T.block ?_
  refine T.loop (γ := Nat) (fun i => i ≤ l.length ∧ longL (l.take i) = false)
    (fun i => [(7, .int .i64 (i : Int)), (6, .int .i64 (l.length : Int)), (5, .slice ad l.length cap)])
    (fun _ => []) (fun _ => H) (fun i => l.length - i) 0 ⟨by simp, by simp [longL]⟩ (by repeat (first | exact trivial | refine And.intro rfl ?_)) (by repeat (first | exact List.Sublist.slnil | exact List.nil_sublist _ | exact List.Sublist.refl _ | exact List.sublist_append_left _ [] | apply List.Sublist.cons_cons | apply List.Sublist.cons | refine List.Sublist.append_left ?_ _)) rfl ?_
  rintro i ⟨h1, h2⟩
  by_cases hi : i < l.length
  · obtain ⟨x, hx⟩ : ∃ x, l[i]? = some x := ⟨_, List.getElem?_eq_getElem hi⟩
    rw [map_str] at hv
    obtain ⟨b, off, cap', hve, hsub⟩ := hv.elem (i := i) (by omega) (flat_elem (f := fun s => [Value.string s]) (fun _ => rfl) l i x hx)
    injection hve with e1 e2 e3
    subst e1 e3
    refine T.seq ?_
    refine T.region ?_
    refine T.pv (PV.lss rfl rfl) Wanted.none rfl rfl ?_
    refine T.opsNil ?_
    refine T.seq ?_
    refine T.condT rfl (decide_eq_true (by omega)) ?_
    refine T.skip ?_
    refine T.seq ?_
    refine T.block ?_
    refine T.seq ?_
    refine T.region ?_
    refine T.pv (PV.indexAddr rfl rfl (by omega)) Wanted.none rfl rfl ?_
    refine T.pv (PV.loadSub0 rfl (by assumption)) Wanted.none rfl rfl ?_
    refine T.pv (PV.assign rfl) Wanted.none rfl rfl ?_
    refine T.opsNil ?_
    refine T.seq ?_
    refine T.region ?_
    refine T.pv (PV.move rfl) Wanted.none rfl rfl ?_
    refine T.pv (PV.lenStr rfl) Wanted.none rfl rfl ?_
    refine T.pv (PV.gtr rfl rfl) Wanted.none rfl rfl ?_
    refine T.opsNil ?_
    refine T.condD rfl (fun hc => ?_) (fun hc => ?_)
    · refine T.seq ?_
      refine T.region ?_
      refine T.pv (PV.assign rfl) Wanted.none rfl rfl ?_
      refine T.opsNil ?_
      refine T.retF (Lv.fin (RV.tmp rfl rfl) ?_)
      congr 1; symm
      exact List.any_eq_true.2 ⟨x, List.mem_of_getElem? hx, decide_eq_true (by omega)⟩
    · refine T.skip ?_
      refine T.blkEnd ?_
      refine T.region ?_
      refine T.pv (PV.add rfl rfl (by omega)) Wanted.none rfl rfl ?_
      refine T.pv (PV.move rfl) Wanted.none rfl rfl ?_
      refine T.opsNil ?_
      refine T.next (i + 1) ⟨by omega, ?_⟩ (by omega) (by repeat (first | exact trivial | refine And.intro rfl ?_)) (by repeat (first | exact List.Sublist.slnil | exact List.nil_sublist _ | exact List.Sublist.refl _ | exact List.sublist_append_left _ [] | apply List.Sublist.cons_cons | apply List.Sublist.cons | refine List.Sublist.append_left ?_ _)) rfl
      rw [longL, List.take_add_one, hx, List.any_append]
      simp only [longL] at h2
      rw [h2]
      have : decide (400 < x.size) = false := decide_eq_false (by omega)
      simp [this]
  · refine T.seq ?_
    refine T.region ?_
    refine T.pv (PV.lss rfl rfl) Wanted.none rfl rfl ?_
    refine T.opsNil ?_
    refine T.seq ?_
    refine T.condF rfl (decide_eq_false (by omega)) ?_
    refine T.exit rfl ?_
    refine T.seq ?_
    refine T.region ?_
    refine T.pv (PV.assign rfl) Wanted.none rfl rfl ?_
    refine T.opsNil ?_
    refine T.retF (Lv.fin (RV.tmp rfl rfl) ?_)
    rw [List.take_of_length_le (by omega)] at h2
    rw [h2]
theorem awake_fn (H : Hp) : Fn Try.prog 16 #[] H (fun v _ => v = .bool true) := by
  refine Fn.of_T (vs := []) Try.func16 rfl rfl fun w => ?_
  refine T.seq ?_
  refine T.region ?_
  refine T.pv (PV.assign rfl) Wanted.none rfl rfl ?_
  refine T.opsNil ?_
  refine T.seq ?_
  refine T.region ?_
  refine T.callV Wanted.none rfl rfl (count_fn _ H (by decide)) ?_
  refine T.pv (PV.eql rfl rfl) Wanted.none rfl rfl ?_
  refine T.pv (PV.move rfl) Wanted.none rfl rfl ?_
  have hu : decide (((units ⟨#[97, 255, 254]⟩).length : Int) = 3) = true := by decide
  have hu2 : decide ((⟨(revL ⟨#[97, 195, 169]⟩).toArray⟩ : ByteArray) = ⟨#[195, 169, 97]⟩) = true := by decide
  have hu3 : posOf ⟨#[97, 10, 195, 169, 33]⟩ 4 = (2, 2) := by decide
  refine T.callV (Wanted.guard rfl rfl rfl) rfl rfl (reverse_fn _ H (by decide)) ?_
  refine T.pv (PV.seql rfl rfl) (Wanted.guard rfl rfl rfl) rfl rfl ?_
  refine T.pv (PV.pickT rfl rfl rfl) Wanted.none rfl rfl ?_
  refine T.pv (PV.move rfl) Wanted.none rfl rfl ?_
  refine T.callV (Wanted.guard rfl rfl rfl) rfl rfl (position_fn _ _ H (by decide)) ?_
  refine T.pv (PV.build rfl (by repeat (first | exact FillR.nil | (apply FillR.cons rfl; (first | exact CellsR.one rfl | exact CellsR.agg); rfl; repeat (first | exact Splice.nil | apply Splice.cons | apply Splice.skip))))) (Wanted.guard rfl rfl rfl) rfl rfl ?_
  refine T.pv (PV.aeql rfl rfl rfl rfl) (Wanted.guard rfl rfl rfl) rfl rfl ?_
  refine T.pv (PV.pickT rfl rfl rfl) Wanted.none rfl rfl ?_
  refine T.pv (PV.assign rfl) Wanted.none rfl rfl ?_
  refine T.opsNil ?_
  refine T.retF (Lv.fin (RV.tmp rfl rfl) ?_)
  rw [hu3]
  rfl
end Go.Proofs.Yteanijikhogijaa
