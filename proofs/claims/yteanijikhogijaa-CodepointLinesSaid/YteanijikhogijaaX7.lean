/- codepoint: At. -/
import Derived.Test.YteanijikhogijaaX6
namespace Go.Proofs.Yteanijikhogijaa
open Go.RowKit

def atL (l : List U) (i : Int) : Value := match (if i < 0 then none else l[i.toNat]?) with
  | some u => .tuple #[.int .i32 (u.r : Int), .int .i64 (u.at_ : Int), .int .i64 (u.sz : Int), .bool true]
  | none => .tuple #[.int .i32 0, .int .i64 0, .int .i64 0, .bool false]

set_option maxHeartbeats 1000000 in
theorem at_fn (s : ByteArray) (i : Int) (H : Hp) (hs : s.size ≤ 4000) (hi : -9223372036854775808 ≤ i ∧ i ≤ 9223372036854775807) : Fn Try.prog 20 #[.string s, .int .i64 i] H (fun v _ => v = atL (units s) i) := by
  refine Fn.of_T (vs := [.string s, .int .i64 i]) Try.func20 rfl rfl fun w => ?_
  refine T.seq ?_
  refine T.region ?_
  (refine T.box Wanted.none rfl rfl (by first | exact CellsR.one rfl | exact CellsR.agg) ?_; intro b3)
  (refine T.alloc Wanted.none rfl ?_; intro b4)
  (refine T.alloc Wanted.none rfl ?_; intro b5)
  (refine T.alloc Wanted.none rfl ?_; intro b6)
  (refine T.alloc Wanted.none rfl ?_; intro b7)
  refine T.opsNil ?_
  refine T.seq ?_
  refine T.seq ?_
  refine T.region ?_
  refine T.pv (PV.move rfl) Wanted.none rfl rfl ?_
  refine T.call Wanted.none rfl rfl (units_fn s H) ?_
  rintro _ H1 hH1 ⟨bs, rfl, hb⟩
  refine T.opsNil ?_
  refine T.block ?_
  have hul := units_len s
  refine T.rangeFunc rfl rfl (units_iter s bs H1 _ (by omega) hb) (fun _ => rfl) rfl (by decide)
    (fun n lk _ => ∃ z : Int, (z = i - n ∨ z = i - n + 18446744073709551616) ∧ (0 ≤ i → n ≤ i) ∧ -9223372036854775808 ≤ z ∧ z ≤ 9223372036854775807 ∧
      lk = [(b7, .cells #[.bool false] 4 (0, 0)), (b6, .cells #[.int .i64 0] 3 (0, 0)), (b5, .cells #[.int .i64 0] 3 (0, 0)), (b4, .cells #[.int .i32 0] 21 (0, 0)), (b3, .cells #[.int .i64 z] 3 (0, 0))])
    (fun c lk _ => c = .ret ∧ ∃ u : U, ∃ z : Int, 0 ≤ i ∧ (units s)[i.toNat]? = some u ∧
      lk = [(b7, .cells #[.bool true] 4 (0, 0)), (b6, .cells #[.int .i64 u.sz] 3 (0, 0)), (b5, .cells #[.int .i64 u.at_] 3 (0, 0)), (b4, .cells #[.int .i32 u.r] 21 (0, 0)), (b3, .cells #[.int .i64 z] 3 (0, 0))])
    ⟨i, by omega, by omega, by omega, by omega, rfl⟩ ?_ ?_ ?_
  · rintro n x lk Hk hx ⟨z, hz, hzn, hz1, hz2, rfl⟩ hle L rec lo hrec
    have hn := (List.getElem?_eq_some_iff.1 hx).1
    obtain ⟨m1, m2, m3, m4, m5⟩ := units_mem (List.mem_of_getElem? hx)
    refine T.region ?_
    (refine T.alloc Wanted.none rfl ?_; intro b8)
    refine T.storeA Wanted.none rfl rfl (by repeat (first | exact trivial | refine And.intro rfl ?_)) (by exact rfl) (by repeat (first | exact Upd.head | apply Upd.tail | apply Upd.app)) (by repeat (first | exact Splice.nil | apply Splice.cons | apply Splice.skip)) ?_
    refine T.opsNil ?_
    refine T.begin (lk := [_, _, _, _, _, _]) hrec ?_
    refine T.block ?_
    refine T.seq ?_
    refine T.seq ?_
    refine T.region ?_
    refine T.pv (PV.load1 rfl (by first | exact .fro (by assumption) | exact .own (by repeat (first | exact List.Mem.head _ | apply List.Mem.tail | apply List.mem_append_right))) rfl) Wanted.none rfl rfl ?_
    refine T.pv (PV.eql rfl rfl) Wanted.none rfl rfl ?_
    refine T.opsNil ?_
    refine T.condD rfl (fun hc => ?_) (fun hc => ?_)
    · refine T.seq ?_
      refine T.regionA [(b8, .cells #[.int .i32 (x.r : Int), .int .i64 (x.at_ : Int), .int .i64 (x.sz : Int)] 46 (0, 0))] (by kernel_rfl) (by repeat (first | exact List.Sublist.slnil | exact List.nil_sublist _ | exact List.Sublist.refl _ | exact List.sublist_append_left _ [] | apply List.Sublist.cons_cons | apply List.Sublist.cons | refine List.Sublist.append_left ?_ _)) ?_
      refine TA.pv (PV.fieldAddr rfl) Wanted.none rfl rfl ?_
      refine TA.pv (PV.load1 rfl (by first | exact .fro (by assumption) | exact .own (by repeat (first | exact List.Mem.head _ | apply List.Mem.tail | apply List.mem_append_right))) rfl) Wanted.none rfl rfl ?_
      refine TA.pv (PV.fieldAddr rfl) Wanted.none rfl rfl ?_
      refine TA.pv (PV.load1 rfl (by first | exact .fro (by assumption) | exact .own (by repeat (first | exact List.Mem.head _ | apply List.Mem.tail | apply List.mem_append_right))) rfl) Wanted.none rfl rfl ?_
      refine TA.pv (PV.fieldAddr rfl) Wanted.none rfl rfl ?_
      refine TA.pv (PV.load1 rfl (by first | exact .fro (by assumption) | exact .own (by repeat (first | exact List.Mem.head _ | apply List.Mem.tail | apply List.mem_append_right))) rfl) Wanted.none rfl rfl ?_
      refine TA.ps (PS.store1 rfl rfl rfl (by repeat (first | exact Upd.head | apply Upd.tail | apply Upd.app)) (by repeat (first | exact Splice.nil | apply Splice.cons | apply Splice.skip))) Wanted.none rfl (by repeat (first | exact List.Sublist.slnil | exact List.nil_sublist _ | exact List.Sublist.refl _ | exact List.sublist_append_left _ [] | apply List.Sublist.cons_cons | apply List.Sublist.cons | refine List.Sublist.append_left ?_ _)) ?_
      refine TA.ps (PS.store1 rfl rfl rfl (by repeat (first | exact Upd.head | apply Upd.tail | apply Upd.app)) (by repeat (first | exact Splice.nil | apply Splice.cons | apply Splice.skip))) Wanted.none rfl (by repeat (first | exact List.Sublist.slnil | exact List.nil_sublist _ | exact List.Sublist.refl _ | exact List.sublist_append_left _ [] | apply List.Sublist.cons_cons | apply List.Sublist.cons | refine List.Sublist.append_left ?_ _)) ?_
      refine TA.ps (PS.store1 rfl rfl rfl (by repeat (first | exact Upd.head | apply Upd.tail | apply Upd.app)) (by repeat (first | exact Splice.nil | apply Splice.cons | apply Splice.skip))) Wanted.none rfl (by repeat (first | exact List.Sublist.slnil | exact List.nil_sublist _ | exact List.Sublist.refl _ | exact List.sublist_append_left _ [] | apply List.Sublist.cons_cons | apply List.Sublist.cons | refine List.Sublist.append_left ?_ _)) ?_
      refine TA.ps (PS.store1 rfl rfl rfl (by repeat (first | exact Upd.head | apply Upd.tail | apply Upd.app)) (by repeat (first | exact Splice.nil | apply Splice.cons | apply Splice.skip))) Wanted.none rfl (by repeat (first | exact List.Sublist.slnil | exact List.nil_sublist _ | exact List.Sublist.refl _ | exact List.sublist_append_left _ [] | apply List.Sublist.cons_cons | apply List.Sublist.cons | refine List.Sublist.append_left ?_ _)) ?_
      refine TA.nil ?_
      refine T.roundRet [_, _, _, _, _] (by repeat (first | exact List.Sublist.slnil | exact List.nil_sublist _ | exact List.Sublist.refl _ | exact List.sublist_append_left _ [] | apply List.Sublist.cons_cons | apply List.Sublist.cons | refine List.Sublist.append_left ?_ _)) (Hp.le.refl _) ⟨rfl, x, z, by omega, ?_, rfl⟩
      rw [← hx]; congr 1; omega
    · refine T.skip ?_
      refine T.region ?_
      refine T.pv (PV.load1 rfl (by first | exact .fro (by assumption) | exact .own (by repeat (first | exact List.Mem.head _ | apply List.Mem.tail | apply List.mem_append_right))) rfl) Wanted.none rfl rfl ?_
      refine T.pv (PV.subK rfl rfl) Wanted.none rfl rfl ?_
      obtain ⟨z', hz', hzz⟩ : ∃ z', IntKind.i64.wrap (z - 1) = z' ∧ ((z' = z - 1 ∧ -9223372036854775808 < z) ∨ (z = -9223372036854775808 ∧ z' = 9223372036854775807)) := by
        by_cases h : z = -9223372036854775808
        · subst h; exact ⟨_, rfl, .inr ⟨rfl, by decide⟩⟩
        · exact ⟨_, rfl, .inl ⟨wrap64_id (by omega), by omega⟩⟩
      rw [hz']
      refine T.store1 Wanted.none rfl rfl rfl (by repeat (first | exact Upd.head | apply Upd.tail | apply Upd.app)) (by repeat (first | exact Splice.nil | apply Splice.cons | apply Splice.skip)) ?_
      refine T.opsNil ?_
      refine T.blkEnd ?_
      refine T.roundEnd [_, _, _, _, _] (by repeat (first | exact List.Sublist.slnil | exact List.nil_sublist _ | exact List.Sublist.refl _ | exact List.sublist_append_left _ [] | apply List.Sublist.cons_cons | apply List.Sublist.cons | refine List.Sublist.append_left ?_ _)) (Hp.le.refl _) ⟨z', by omega, by omega, by omega, by omega, rfl⟩
  · rintro r lk Hk hle ⟨z, hz, hzn, hz1, hz2, rfl⟩
    refine T.blkEnd ?_
    refine T.seq ?_
    refine T.region ?_
    refine T.store1 Wanted.none rfl rfl rfl (by repeat (first | exact Upd.head | apply Upd.tail | apply Upd.app)) (by repeat (first | exact Splice.nil | apply Splice.cons | apply Splice.skip)) ?_
    refine T.store1 Wanted.none rfl rfl rfl (by repeat (first | exact Upd.head | apply Upd.tail | apply Upd.app)) (by repeat (first | exact Splice.nil | apply Splice.cons | apply Splice.skip)) ?_
    refine T.store1 Wanted.none rfl rfl rfl (by repeat (first | exact Upd.head | apply Upd.tail | apply Upd.app)) (by repeat (first | exact Splice.nil | apply Splice.cons | apply Splice.skip)) ?_
    refine T.store1 Wanted.none rfl rfl rfl (by repeat (first | exact Upd.head | apply Upd.tail | apply Upd.app)) (by repeat (first | exact Splice.nil | apply Splice.cons | apply Splice.skip)) ?_
    refine T.opsNil ?_
    refine T.retF (Lv.mark Upd.head (Lv.fin (by first | exact RV.tmp rfl rfl | exact RV.tmp2 rfl rfl rfl | exact RV.tmp3 rfl rfl rfl rfl | exact RV.tmp4 rfl rfl rfl rfl rfl | exact RV.cell rfl (by first | exact CV.agg rfl (by first | exact .fro (by assumption) | exact .own (by repeat (first | exact List.Mem.head _ | apply List.Mem.tail | apply List.mem_append_right))) (by exact rfl) | exact CV.one rfl (by first | exact .fro (by assumption) | exact .own (by repeat (first | exact List.Mem.head _ | apply List.Mem.tail | apply List.mem_append_right))) rfl) | exact RV.cell2 rfl (by first | exact CV.agg rfl (by first | exact .fro (by assumption) | exact .own (by repeat (first | exact List.Mem.head _ | apply List.Mem.tail | apply List.mem_append_right))) (by exact rfl) | exact CV.one rfl (by first | exact .fro (by assumption) | exact .own (by repeat (first | exact List.Mem.head _ | apply List.Mem.tail | apply List.mem_append_right))) rfl) (by first | exact CV.agg rfl (by first | exact .fro (by assumption) | exact .own (by repeat (first | exact List.Mem.head _ | apply List.Mem.tail | apply List.mem_append_right))) (by exact rfl) | exact CV.one rfl (by first | exact .fro (by assumption) | exact .own (by repeat (first | exact List.Mem.head _ | apply List.Mem.tail | apply List.mem_append_right))) rfl) | exact RV.cell4 rfl (by first | exact CV.agg rfl (by first | exact .fro (by assumption) | exact .own (by repeat (first | exact List.Mem.head _ | apply List.Mem.tail | apply List.mem_append_right))) (by exact rfl) | exact CV.one rfl (by first | exact .fro (by assumption) | exact .own (by repeat (first | exact List.Mem.head _ | apply List.Mem.tail | apply List.mem_append_right))) rfl) (by first | exact CV.agg rfl (by first | exact .fro (by assumption) | exact .own (by repeat (first | exact List.Mem.head _ | apply List.Mem.tail | apply List.mem_append_right))) (by exact rfl) | exact CV.one rfl (by first | exact .fro (by assumption) | exact .own (by repeat (first | exact List.Mem.head _ | apply List.Mem.tail | apply List.mem_append_right))) rfl) (by first | exact CV.agg rfl (by first | exact .fro (by assumption) | exact .own (by repeat (first | exact List.Mem.head _ | apply List.Mem.tail | apply List.mem_append_right))) (by exact rfl) | exact CV.one rfl (by first | exact .fro (by assumption) | exact .own (by repeat (first | exact List.Mem.head _ | apply List.Mem.tail | apply List.mem_append_right))) rfl) (by first | exact CV.agg rfl (by first | exact .fro (by assumption) | exact .own (by repeat (first | exact List.Mem.head _ | apply List.Mem.tail | apply List.mem_append_right))) (by exact rfl) | exact CV.one rfl (by first | exact .fro (by assumption) | exact .own (by repeat (first | exact List.Mem.head _ | apply List.Mem.tail | apply List.mem_append_right))) rfl) | exact RV.none rfl) ?_))
    unfold atL
    by_cases h : i < 0
    · rw [if_pos h]
    · rw [if_neg h, List.getElem?_eq_none (by omega)]
  · rintro c r lk Hk hle ⟨rfl, u, z, h0, hu, rfl⟩
    refine T.retF (Lv.mark Upd.head (Lv.fin (by first | exact RV.tmp rfl rfl | exact RV.tmp2 rfl rfl rfl | exact RV.tmp3 rfl rfl rfl rfl | exact RV.tmp4 rfl rfl rfl rfl rfl | exact RV.cell rfl (by first | exact CV.agg rfl (by first | exact .fro (by assumption) | exact .own (by repeat (first | exact List.Mem.head _ | apply List.Mem.tail | apply List.mem_append_right))) (by exact rfl) | exact CV.one rfl (by first | exact .fro (by assumption) | exact .own (by repeat (first | exact List.Mem.head _ | apply List.Mem.tail | apply List.mem_append_right))) rfl) | exact RV.cell2 rfl (by first | exact CV.agg rfl (by first | exact .fro (by assumption) | exact .own (by repeat (first | exact List.Mem.head _ | apply List.Mem.tail | apply List.mem_append_right))) (by exact rfl) | exact CV.one rfl (by first | exact .fro (by assumption) | exact .own (by repeat (first | exact List.Mem.head _ | apply List.Mem.tail | apply List.mem_append_right))) rfl) (by first | exact CV.agg rfl (by first | exact .fro (by assumption) | exact .own (by repeat (first | exact List.Mem.head _ | apply List.Mem.tail | apply List.mem_append_right))) (by exact rfl) | exact CV.one rfl (by first | exact .fro (by assumption) | exact .own (by repeat (first | exact List.Mem.head _ | apply List.Mem.tail | apply List.mem_append_right))) rfl) | exact RV.cell4 rfl (by first | exact CV.agg rfl (by first | exact .fro (by assumption) | exact .own (by repeat (first | exact List.Mem.head _ | apply List.Mem.tail | apply List.mem_append_right))) (by exact rfl) | exact CV.one rfl (by first | exact .fro (by assumption) | exact .own (by repeat (first | exact List.Mem.head _ | apply List.Mem.tail | apply List.mem_append_right))) rfl) (by first | exact CV.agg rfl (by first | exact .fro (by assumption) | exact .own (by repeat (first | exact List.Mem.head _ | apply List.Mem.tail | apply List.mem_append_right))) (by exact rfl) | exact CV.one rfl (by first | exact .fro (by assumption) | exact .own (by repeat (first | exact List.Mem.head _ | apply List.Mem.tail | apply List.mem_append_right))) rfl) (by first | exact CV.agg rfl (by first | exact .fro (by assumption) | exact .own (by repeat (first | exact List.Mem.head _ | apply List.Mem.tail | apply List.mem_append_right))) (by exact rfl) | exact CV.one rfl (by first | exact .fro (by assumption) | exact .own (by repeat (first | exact List.Mem.head _ | apply List.Mem.tail | apply List.mem_append_right))) rfl) (by first | exact CV.agg rfl (by first | exact .fro (by assumption) | exact .own (by repeat (first | exact List.Mem.head _ | apply List.Mem.tail | apply List.mem_append_right))) (by exact rfl) | exact CV.one rfl (by first | exact .fro (by assumption) | exact .own (by repeat (first | exact List.Mem.head _ | apply List.Mem.tail | apply List.mem_append_right))) rfl) | exact RV.none rfl) ?_))
    unfold atL
    rw [if_neg (by omega), hu]
end Go.Proofs.Yteanijikhogijaa
