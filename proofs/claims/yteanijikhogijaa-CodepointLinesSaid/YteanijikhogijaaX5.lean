/- codepoint: Reverse. -/
import Derived.Test.YteanijikhogijaaX4
namespace Go.Proofs.Yteanijikhogijaa
open Go.RowKit

theorem cellsU_len (u : U) : (cellsU u).length = 3 := rfl
/-- the last k units' bytes, from behind -/
theorem rev_drop {s : ByteArray} {i : Nat} {x : U} (hx : (units s)[i]? = some x) : ((units s).drop i).reverse.flatMap (piece s) = ((units s).drop (i + 1)).reverse.flatMap (piece s) ++ piece s x := by
  have hi := (List.getElem?_eq_some_iff.1 hx).1
  rw [List.drop_eq_getElem_cons hi, (List.getElem?_eq_some_iff.1 hx).2]
  simp
theorem rev_len (s : ByteArray) (n : Nat) (hs : s.size ≤ 4000) : (((units s).drop n).reverse.flatMap (piece s)).length ≤ 4 * 4000 := by
  have hul := units_len s
  have := flat_le (f := piece s) (m := 4) ((units s).drop n).reverse (fun y hy => by
    have hy := List.mem_of_mem_drop (List.mem_reverse.1 hy)
    have := piece_le s y; have := (units_mem hy).2.2.1; omega)
  have h2 : ((units s).drop n).reverse.length ≤ 4000 := by rw [List.length_reverse, List.length_drop]; omega
  omega
structure RG where
  i : Nat
  v : Value
  lv : List (Nat × Obj)
set_option maxHeartbeats 1000000 in
theorem reverse_fn (s : ByteArray) (H : Hp) (hs : s.size ≤ 4000) : Fn Try.prog 17 #[.string s] H (fun v _ => v = .string ⟨(revL s).toArray⟩) := by
  refine Fn.of_T (vs := [.string s]) Try.func17 rfl rfl fun w => ?_
  refine T.seq ?_
  refine T.region ?_
  refine T.pv (PV.assign rfl) Wanted.none rfl rfl ?_
  refine T.opsNil ?_
  refine T.seq ?_
  refine T.region ?_
  refine T.pv (PV.move rfl) Wanted.none rfl rfl ?_
  refine T.call Wanted.none rfl rfl (list_fn s H hs) ?_
  intro vl H1 hH1 hsl
  have hul := units_len s
  obtain ⟨adl, capl, rfl⟩ : ∃ ad cap, vl = .slice ad (units s).length cap := by
    rcases hsl.2 with ⟨rfl, h0⟩ | ⟨b, off, cap, cs, t, fz, rfl, _⟩
    · exact ⟨none, 0, by rw [h0]⟩
    · exact ⟨_, _, rfl⟩
  refine T.pv (PV.assign rfl) Wanted.none rfl rfl ?_
  refine T.opsNil ?_
  refine T.seq ?_
  refine T.region ?_
  refine T.pv (PV.move rfl) Wanted.none rfl rfl ?_
  refine T.pv (PV.lenStr rfl) Wanted.none rfl rfl ?_
  refine T.makeSlice0 Wanted.none rfl rfl rfl (by omega) ?_
  intro v0 lv0 hv0 hnn
  refine T.pv (PV.assign rfl) Wanted.none rfl rfl ?_
  refine T.opsNil ?_
  refine T.seq ?_
  refine T.seq ?_
  refine T.region ?_
  refine T.pv (PV.move rfl) Wanted.none rfl rfl ?_
  refine T.pv (PV.lenSl rfl) Wanted.none rfl rfl ?_
  refine T.pv (PV.sub rfl rfl (by omega)) Wanted.none rfl rfl ?_
  refine T.pv (PV.assign rfl) Wanted.none rfl rfl ?_
  refine T.opsNil ?_
  refine T.block ?_
  refine T.loop (γ := RG) (fun g => g.i ≤ (units s).length ∧ Vec 5 1 g.v g.lv (((units s).drop g.i).reverse.flatMap (piece s)).length (bytesV (((units s).drop g.i).reverse.flatMap (piece s))))
    (fun g => [(0, .string s), (3, .slice adl (units s).length capl), (4, g.v), (5, .int .i64 ((g.i : Int) - 1)), (2, .string ⟨#[]⟩)])
    (fun g => g.lv) (fun _ => H1) (fun g => g.i) ⟨(units s).length, v0, lv0⟩ ⟨by simp, by simpa [bytesV] using hv0⟩ (by repeat (first | exact trivial | refine And.intro rfl ?_)) (by repeat (first | exact List.Sublist.slnil | exact List.nil_sublist _ | exact List.Sublist.refl _ | exact List.sublist_append_left _ [] | apply List.Sublist.cons_cons | apply List.Sublist.cons | refine List.Sublist.append_left ?_ _)) rfl ?_
  rintro ⟨i, v, lv⟩ ⟨hi, hv⟩
  dsimp only at hi hv ⊢
  obtain ⟨ad, cap, rfl⟩ := hv.val
  refine T.seq ?_
  refine T.seq ?_
  refine T.region ?_
  refine T.pv (PV.move rfl) Wanted.none rfl rfl ?_
  refine T.pv (PV.geq rfl rfl) Wanted.none rfl rfl ?_
  refine T.opsNil ?_
  refine T.condD rfl (fun hc => ?_) (fun hc => ?_)
  · obtain ⟨i, rfl⟩ : ∃ m, i = m + 1 := ⟨i - 1, by omega⟩
    have hx := List.getElem?_eq_getElem (l := units s) (i := i) (by omega)
    obtain ⟨x, hxe⟩ : ∃ x, (units s)[i] = x := ⟨_, rfl⟩
    rw [hxe] at hx
    obtain ⟨m1, m2, m3, m4, m5⟩ := units_mem (List.mem_of_getElem? hx)
    have hrl := rev_len s (i + 1) hs
    have hpl := piece_le s x
    obtain ⟨b, off, cap', hve, hsub⟩ := hsl.elem (i := i) (by omega) (flat_elem cellsU_len (units s) i x hx)
    injection hve with e1 e2 e3
    subst e1 e3
    have hcast : ((i + 1 : Nat) : Int) - 1 = (i : Int) := by omega
    rw [hcast]
    refine T.skip ?_
    refine T.seq ?_
    refine T.block ?_
    refine T.regionT 19 (by kernel_rfl) ?_
    refine TQ.pv (PV.move rfl) Wanted.none rfl rfl ?_
    refine TQ.pv (PV.move rfl) Wanted.none rfl rfl ?_
    refine TQ.pv (PV.move rfl) Wanted.none rfl rfl ?_
    refine TQ.pv (PV.move rfl) Wanted.none rfl rfl ?_
    refine TQ.pv (PV.indexAddr rfl rfl (by omega)) Wanted.none rfl rfl ?_
    refine TQ.pv (PV.fieldAddr rfl) Wanted.none rfl rfl ?_
    refine TQ.pv (PV.loadSub rfl (by assumption) rfl) Wanted.none rfl rfl ?_
    refine TQ.pv (PV.move rfl) Wanted.none rfl rfl ?_
    refine TQ.pv (PV.move rfl) Wanted.none rfl rfl ?_
    refine TQ.pv (PV.indexAddr rfl rfl (by omega)) Wanted.none rfl rfl ?_
    refine TQ.pv (PV.fieldAddr rfl) Wanted.none rfl rfl ?_
    refine TQ.pv (PV.loadSub rfl (by assumption) rfl) Wanted.none rfl rfl ?_
    refine TQ.pv (PV.move rfl) Wanted.none rfl rfl ?_
    refine TQ.pv (PV.move rfl) Wanted.none rfl rfl ?_
    refine TQ.pv (PV.indexAddr rfl rfl (by omega)) Wanted.none rfl rfl ?_
    refine TQ.pv (PV.fieldAddr rfl) Wanted.none rfl rfl ?_
    refine TQ.pv (PV.loadSub rfl (by assumption) rfl) Wanted.none rfl rfl ?_
    refine TQ.pv (PV.add rfl rfl (by omega)) Wanted.none rfl rfl ?_
    refine TQ.pv (PV.sliceStr rfl rfl rfl (by omega)) Wanted.none rfl rfl ?_
    refine TQ.nil ?_
    rw [extract_piece]
    refine T.appendE [] Wanted.none rfl rfl rfl hv Src.bytes (one_bytesV _) (by omega) ?_
    intro v' lv' hv' hnil
    obtain ⟨ad', cap', rfl⟩ := hv'.val
    refine T.pv (PV.assign rfl) Wanted.none rfl rfl ?_
    refine T.opsNil ?_
    refine T.blkEnd ?_
    refine T.region ?_
    refine T.pv (PV.move rfl) Wanted.none rfl rfl ?_
    refine T.pv (PV.sub rfl rfl (by omega)) Wanted.none rfl rfl ?_
    refine T.pv (PV.assign rfl) Wanted.none rfl rfl ?_
    refine T.opsNil ?_
    refine T.next ⟨i, _, lv'⟩ ⟨by dsimp only; omega, ?_⟩ (by dsimp only; omega) (by repeat (first | exact trivial | refine And.intro rfl ?_)) (by repeat (first | exact List.Sublist.slnil | exact List.nil_sublist _ | exact List.Sublist.refl _ | exact List.sublist_append_left _ [] | apply List.Sublist.cons_cons | apply List.Sublist.cons | refine List.Sublist.append_left ?_ _)) rfl
    dsimp only
    rw [rev_drop hx, List.length_append, bytesV_append]
    exact hv'
  · obtain rfl : i = 0 := by omega
    rw [List.drop_zero] at hv
    refine T.exit rfl ?_
    refine T.seq ?_
    refine T.region ?_
    refine T.pv (PV.move rfl) Wanted.none rfl rfl ?_
    refine T.pv (PV.bytesStr rfl (Vec.srcE [] hv) ⟨_, _, rfl⟩) Wanted.none rfl rfl ?_
    refine T.pv (PV.assign rfl) Wanted.none rfl rfl ?_
    refine T.opsNil ?_
    exact T.retF (Lv.fin (RV.tmp rfl rfl) rfl)

end Go.Proofs.Yteanijikhogijaa
