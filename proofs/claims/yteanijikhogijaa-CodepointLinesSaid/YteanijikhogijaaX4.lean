/- codepoint: Fold, Reverse. -/
import Derived.Test.YteanijikhogijaaX3
namespace Go.Proofs.Yteanijikhogijaa
open Go.RowKit

theorem one_bytesV (l : List UInt8) : ∀ v ∈ bytesV l, v.oneCell' = true := by
  intro v hv
  obtain ⟨b, _, rfl⟩ := List.mem_map.1 hv
  rfl
theorem bytesV_append (a b : List UInt8) : bytesV (a ++ b) = bytesV a ++ bytesV b := by simp [bytesV]
theorem Src.bytes {P : Program} {l : List (Nat × Obj)} {H : Hp} {bs : List UInt8} : Src P l H 1 (.string ⟨bs.toArray⟩) bs.length (bytesV bs) := by
  have := Src.str (P := P) (l := l) (H := H) (s := ⟨bs.toArray⟩)
  simpa [ByteArray.size] using this
theorem fold_len (s : ByteArray) (n : Nat) (hs : s.size ≤ 4000) : (((units s).take n).flatMap (foldU s)).length ≤ 4 * 4000 := by
  have hul := units_len s
  have := flat_le (f := foldU s) (m := 4) ((units s).take n) (fun y hy => foldU_le (List.mem_of_mem_take hy))
  have h2 : ((units s).take n).length ≤ 4000 := by rw [List.length_take]; omega
  omega

set_option maxHeartbeats 1000000 in
theorem fold_fn (s : ByteArray) (H : Hp) (hs : s.size ≤ 4000) : Fn Try.prog 25 #[.string s] H (fun v _ => v = .string ⟨(foldL s).toArray⟩) := by
  refine Fn.of_T (vs := [.string s]) Try.func25 rfl rfl fun w => ?_
  refine T.seq ?_
  refine T.region ?_
  (refine T.box Wanted.none rfl rfl (by first | exact CellsR.one rfl | exact CellsR.agg) ?_; intro b1)
  refine T.pv (PV.assign rfl) Wanted.none rfl rfl ?_
  refine T.opsNil ?_
  refine T.seq ?_
  refine T.region ?_
  refine T.pv (PV.load1 rfl (by first | exact .fro (by assumption) | exact .own (by repeat (first | exact List.Mem.head _ | apply List.Mem.tail | apply List.mem_append_right))) rfl) Wanted.none rfl rfl ?_
  refine T.pv (PV.lenStr rfl) Wanted.none rfl rfl ?_
  refine T.makeSlice0 Wanted.none rfl rfl rfl (by omega) ?_
  intro v0 lv0 hv0 hnn
  refine T.perm List.perm_append_comm ?_
  obtain ⟨ad0, cap0, rfl⟩ := hv0.val
  (refine T.alloc Wanted.none rfl ?_; intro b3)
  refine T.store1 Wanted.none rfl rfl rfl (by repeat (first | exact Upd.head | apply Upd.tail | apply Upd.app)) (by repeat (first | exact Splice.nil | apply Splice.cons | apply Splice.skip)) ?_
  refine T.opsNil ?_
  refine T.seq ?_
  refine T.seq ?_
  refine T.region ?_
  refine T.pv (PV.load1 rfl (by first | exact .fro (by assumption) | exact .own (by repeat (first | exact List.Mem.head _ | apply List.Mem.tail | apply List.mem_append_right))) rfl) Wanted.none rfl rfl ?_
  refine T.call Wanted.none rfl rfl (units_fn s H) ?_
  rintro _ H1 hH1 ⟨bs, rfl, hb⟩
  refine T.opsNil ?_
  refine T.block ?_
  have hul := units_len s
  refine T.rangeFunc rfl rfl (units_iter s bs H1 _ (by omega) hb) (fun _ => rfl) rfl (by decide)
    (fun n lk _ => ∃ v lv, lk = (b3, .cells #[v] 44 (0, 0)) :: (b1, .cells #[.string s] 9 (0, 0)) :: lv ∧ Vec 5 1 v lv (((units s).take n).flatMap (foldU s)).length (bytesV (((units s).take n).flatMap (foldU s))))
    (fun c lk _ => False)
    ⟨_, lv0, rfl, hv0⟩ ?_ ?_ ?_
  · rintro n x lk Hk hx ⟨v, lv, rfl, hv⟩ hle L rec lo hrec
    have hn := (List.getElem?_eq_some_iff.1 hx).1
    have hm := List.mem_of_getElem? hx
    obtain ⟨m1, m2, m3, m4, m5⟩ := units_mem hm
    have hlen := fold_len s n hs
    have hel := encode_le (lowerR x.r)
    have hpl := piece_le s x
    obtain ⟨ad, cap, rfl⟩ := hv.val
    have hnx : ((units s).take (n + 1)).flatMap (foldU s) = ((units s).take n).flatMap (foldU s) ++ foldU s x := by
      rw [List.take_add_one, hx]; simp
    refine T.region ?_
    (refine T.alloc Wanted.none rfl ?_; intro b4)
    refine T.storeA Wanted.none rfl rfl (by repeat (first | exact trivial | refine And.intro rfl ?_)) (by exact rfl) (by repeat (first | exact Upd.head | apply Upd.tail | apply Upd.app)) (by repeat (first | exact Splice.nil | apply Splice.cons | apply Splice.skip)) ?_
    refine T.opsNil ?_
    refine T.begin (lk := _ :: _ :: _ :: lv) hrec ?_
    refine T.block ?_
    refine T.seq ?_
    refine T.region ?_
    refine T.pv (PV.fieldAddr rfl) Wanted.none rfl rfl ?_
    refine T.pv (PV.load1 rfl (by first | exact .fro (by assumption) | exact .own (by repeat (first | exact List.Mem.head _ | apply List.Mem.tail | apply List.mem_append_right))) rfl) Wanted.none rfl rfl ?_
    refine T.callV Wanted.none rfl rfl (lower_fn x.r Hk (by omega)) ?_
    refine T.pv (PV.assign rfl) Wanted.none rfl rfl ?_
    refine T.opsNil ?_
    refine T.seq ?_
    refine T.region ?_
    refine T.pv (PV.move rfl) Wanted.none rfl rfl ?_
    refine T.pv (PV.fieldAddr rfl) Wanted.none rfl rfl ?_
    refine T.pv (PV.load1 rfl (by first | exact .fro (by assumption) | exact .own (by repeat (first | exact List.Mem.head _ | apply List.Mem.tail | apply List.mem_append_right))) rfl) Wanted.none rfl rfl ?_
    refine T.pv (PV.neq rfl rfl) Wanted.none rfl rfl ?_
    refine T.opsNil ?_
    refine T.condD rfl (fun hc => ?_) (fun hc => ?_)
    · have hfu : foldU s x = (Utf8.encode (lowerR x.r)).data.toList := if_pos hc
      refine T.region ?_
      refine T.pv (PV.load1 rfl (by first | exact .fro (by assumption) | exact .own (by repeat (first | exact List.Mem.head _ | apply List.Mem.tail | apply List.mem_append_right))) rfl) Wanted.none rfl rfl ?_
      refine T.pv (PV.move rfl) Wanted.none rfl rfl ?_
      refine T.pv (PV.convRune rfl) Wanted.none rfl rfl ?_
      refine T.append [_, _, _] Wanted.none rfl rfl rfl hv Src.str (one_bytesV _) (by omega) ?_
      intro v' lv' hv' hnil
      obtain ⟨ad', cap', rfl⟩ := hv'.val
      refine T.store1 Wanted.none rfl rfl rfl (by repeat (first | exact Upd.head | apply Upd.tail | apply Upd.app)) (by repeat (first | exact Splice.nil | apply Splice.cons | apply Splice.skip)) ?_
      refine T.opsNil ?_
      refine T.blkEnd ?_
      refine T.roundEnd (_ :: _ :: lv') (by repeat (first | exact List.Sublist.slnil | exact List.nil_sublist _ | exact List.Sublist.refl _ | exact List.sublist_append_left _ [] | apply List.Sublist.cons_cons | apply List.Sublist.cons | refine List.Sublist.append_left ?_ _)) (Hp.le.refl _) ⟨_, lv', rfl, ?_⟩
      rw [hnx, hfu, bytesV_append, List.length_append]
      simpa using hv'
    · have hfu : foldU s x = piece s x := if_neg hc
      refine T.regionT 10 (by kernel_rfl) ?_
      refine TQ.pv (PV.load1 rfl (by first | exact .fro (by assumption) | exact .own (by repeat (first | exact List.Mem.head _ | apply List.Mem.tail | apply List.mem_append_right))) rfl) Wanted.none rfl rfl ?_
      refine TQ.pv (PV.load1 rfl (by first | exact .fro (by assumption) | exact .own (by repeat (first | exact List.Mem.head _ | apply List.Mem.tail | apply List.mem_append_right))) rfl) Wanted.none rfl rfl ?_
      refine TQ.pv (PV.fieldAddr rfl) Wanted.none rfl rfl ?_
      refine TQ.pv (PV.load1 rfl (by first | exact .fro (by assumption) | exact .own (by repeat (first | exact List.Mem.head _ | apply List.Mem.tail | apply List.mem_append_right))) rfl) Wanted.none rfl rfl ?_
      refine TQ.pv (PV.fieldAddr rfl) Wanted.none rfl rfl ?_
      refine TQ.pv (PV.load1 rfl (by first | exact .fro (by assumption) | exact .own (by repeat (first | exact List.Mem.head _ | apply List.Mem.tail | apply List.mem_append_right))) rfl) Wanted.none rfl rfl ?_
      refine TQ.pv (PV.fieldAddr rfl) Wanted.none rfl rfl ?_
      refine TQ.pv (PV.load1 rfl (by first | exact .fro (by assumption) | exact .own (by repeat (first | exact List.Mem.head _ | apply List.Mem.tail | apply List.mem_append_right))) rfl) Wanted.none rfl rfl ?_
      refine TQ.pv (PV.add rfl rfl (by omega)) Wanted.none rfl rfl ?_
      refine TQ.pv (PV.sliceStr rfl rfl rfl (by omega)) Wanted.none rfl rfl ?_
      refine TQ.nil ?_
      rw [extract_piece]
      refine T.append [_, _, _] Wanted.none rfl rfl rfl hv Src.bytes (one_bytesV _) (by omega) ?_
      intro v' lv' hv' hnil
      obtain ⟨ad', cap', rfl⟩ := hv'.val
      refine T.store1 Wanted.none rfl rfl rfl (by repeat (first | exact Upd.head | apply Upd.tail | apply Upd.app)) (by repeat (first | exact Splice.nil | apply Splice.cons | apply Splice.skip)) ?_
      refine T.opsNil ?_
      refine T.blkEnd ?_
      refine T.roundEnd (_ :: _ :: lv') (by repeat (first | exact List.Sublist.slnil | exact List.nil_sublist _ | exact List.Sublist.refl _ | exact List.sublist_append_left _ [] | apply List.Sublist.cons_cons | apply List.Sublist.cons | refine List.Sublist.append_left ?_ _)) (Hp.le.refl _) ⟨_, lv', rfl, ?_⟩
      rw [hnx, hfu, bytesV_append, List.length_append]
      exact hv'
  · rintro r lk Hk hle ⟨v, lv, rfl, hv⟩
    rw [List.take_length] at hv
    obtain ⟨ad, cap, rfl⟩ := hv.val
    refine T.blkEnd ?_
    refine T.seq ?_
    refine T.region ?_
    refine T.pv (PV.load1 rfl (by first | exact .fro (by assumption) | exact .own (by repeat (first | exact List.Mem.head _ | apply List.Mem.tail | apply List.mem_append_right))) rfl) Wanted.none rfl rfl ?_
    refine T.pv (PV.bytesStr rfl (Vec.srcE [_, _, _] hv) ⟨_, _, rfl⟩) Wanted.none rfl rfl ?_
    refine T.pv (PV.assign rfl) Wanted.none rfl rfl ?_
    refine T.opsNil ?_
    exact T.retF (Lv.mark Upd.head (Lv.fin (RV.tmp rfl rfl) rfl))
  · rintro c r lk Hk hle h; exact h.elim

end Go.Proofs.Yteanijikhogijaa
