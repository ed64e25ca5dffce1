import Derived.Test.YteanijikhogijaaXF
import Derived.Test.YteanijikhogijaaXU
namespace Go.Proofs.Yteanijikhogijaa
open Go.RowKit

structure PosG where
  n : Nat
  p : Nat
  line : Int
  col : Int

set_option maxHeartbeats 400000 in
theorem position_fn (s : ByteArray) (at_ : Int) (H : Hp) (hs : s.size ≤ 140737488355328) :
    Fn Try.prog 14 #[.string s, .int .i64 at_] H (fun v _ => v = .agg #[.int .i64 (posOf s at_).1, .int .i64 (posOf s at_).2]) := by
  refine Fn.of_T (vs := [.string s, .int .i64 at_]) Try.func14 rfl rfl fun w => ?_
  refine T.seq ?_
  refine T.region ?_
  (refine T.alloc Wanted.none rfl ?_; intro b4)
  refine T.opsNil ?_
  refine T.seq ?_
  refine T.region ?_
  refine T.pv (PV.build rfl (by repeat (first | exact FillR.nil | (apply FillR.cons rfl; (first | exact CellsR.one rfl | exact CellsR.agg); rfl; repeat (first | exact Splice.nil | apply Splice.cons | apply Splice.skip))))) Wanted.none rfl rfl ?_
  (refine T.alloc Wanted.none rfl ?_; intro b5)
  refine T.storeA Wanted.none rfl rfl (by repeat (first | exact trivial | refine And.intro rfl ?_)) (by exact rfl) (by repeat (first | exact Upd.head | apply Upd.tail | apply Upd.app)) (by repeat (first | exact Splice.nil | apply Splice.cons | apply Splice.skip)) ?_
  refine T.opsNil ?_
  refine T.seq ?_
  refine T.seq ?_
  refine T.region ?_
  refine T.pv (PV.move rfl) Wanted.none rfl rfl ?_
  (refine T.rangeStr Wanted.none rfl rfl ?_; intro b10)
  refine T.opsNil ?_
  refine T.block ?_
  refine T.loop (γ := PosG) (fun g => posL at_ (unitsFrom s g.n g.p) g.line g.col = posOf s at_ ∧ s.size ≤ g.p + g.n ∧ 0 ≤ g.line ∧ g.line ≤ g.p + 1 ∧ 0 ≤ g.col ∧ g.col ≤ g.p + 1 ∧ g.p ≤ s.size)
    (fun g => [(1, .int .i64 at_), (4, .pointer (some ⟨b4, 0, none⟩)), (5, .pointer (some ⟨b5, 0, none⟩)), (10, .pointer (some ⟨b10, 0, none⟩))])
    (fun g => [(b10, .stringIter s g.p), (b5, .cells #[.int .i64 g.line, .int .i64 g.col] 24 (0, 0)), (b4, .cells #[.int .i64 0, .int .i64 0] 24 (0, 0))])
    (fun _ => H) (fun g => g.n) ⟨s.size, 0, 1, 1⟩ ⟨rfl, by simp, by simp, by simp, by simp, by simp, by simp⟩ (by repeat (first | exact trivial | refine And.intro rfl ?_)) (by repeat (first | exact List.Sublist.slnil | exact List.nil_sublist _ | exact List.Sublist.refl _ | exact List.sublist_append_left _ [] | apply List.Sublist.cons_cons | apply List.Sublist.cons | refine List.Sublist.append_left ?_ _)) rfl ?_
  rintro ⟨n, p, line, col⟩ ⟨h1, h2, h3, h4, h5, h6, h7⟩
  dsimp only at h1 h2 h3 h4 h5 h6 h7 ⊢
  refine T.seq ?_
  refine T.region ?_
  by_cases hp : p < s.size
  · obtain ⟨d1, d2, d3⟩ := decode_width s p hp
    obtain ⟨r, wd, hd⟩ : ∃ r wd, Utf8.decode s p = (r, wd) := ⟨_, _, rfl⟩
    rw [hd] at d1 d2 d3
    obtain ⟨n, rfl⟩ : ∃ m, n = m + 1 := ⟨n - 1, by omega⟩
    rw [unitsFrom, if_pos hp, posL, hd] at h1
    dsimp only at h1 d1 d2 d3
    refine T.nextStr (by first | exact Wanted.none | exact Wanted.guard rfl rfl (by first | rfl | assumption)) rfl rfl (by assumption) (by assumption) (by repeat (first | exact Upd.head | apply Upd.tail | apply Upd.app)) ?_
    refine T.pv (PV.extract rfl rfl) Wanted.none rfl rfl ?_
    refine T.opsNil ?_
    refine T.seq ?_
    refine T.condT rfl rfl ?_
    refine T.skip ?_
    refine T.block ?_
    refine T.seq ?_
    refine T.region ?_
    refine T.pv (PV.extract rfl rfl) Wanted.none rfl rfl ?_
    refine T.pv (PV.extract rfl rfl) Wanted.none rfl rfl ?_
    refine T.pv (PV.assign rfl) Wanted.none rfl rfl ?_
    refine T.pv (PV.assign rfl) Wanted.none rfl rfl ?_
    refine T.opsNil ?_
    refine T.seq ?_
    refine T.seq ?_
    refine T.region ?_
    refine T.pv (PV.move rfl) Wanted.none rfl rfl ?_
    refine T.pv (PV.move rfl) Wanted.none rfl rfl ?_
    refine T.pv (PV.geq rfl rfl) Wanted.none rfl rfl ?_
    refine T.opsNil ?_
    refine T.condD rfl (fun hc => ?_) (fun hc => ?_)
    · rw [if_pos hc] at h1
      refine T.exit rfl ?_
      refine T.seq ?_
      refine T.region ?_
      refine T.pv (PV.loadAll rfl (by first | exact .fro (by assumption) | exact .own (by repeat (first | exact List.Mem.head _ | apply List.Mem.tail | apply List.mem_append_right))) (by exact rfl)) Wanted.none rfl rfl ?_
      refine T.storeA Wanted.none rfl rfl (by repeat (first | exact trivial | refine And.intro rfl ?_)) (by exact rfl) (by repeat (first | exact Upd.head | apply Upd.tail | apply Upd.app)) (by repeat (first | exact Splice.nil | apply Splice.cons | apply Splice.skip)) ?_
      refine T.opsNil ?_
      first | refine T.fallF (Lv.fin (by first | exact RV.tmp rfl rfl | exact RV.tmp2 rfl rfl rfl | exact RV.tmp3 rfl rfl rfl rfl | exact RV.tmp4 rfl rfl rfl rfl rfl | exact RV.cell rfl (by first | exact CV.agg rfl (by first | exact .fro (by assumption) | exact .own (by repeat (first | exact List.Mem.head _ | apply List.Mem.tail | apply List.mem_append_right))) (by exact rfl) | exact CV.one rfl (by first | exact .fro (by assumption) | exact .own (by repeat (first | exact List.Mem.head _ | apply List.Mem.tail | apply List.mem_append_right))) rfl) | exact RV.cell2 rfl (by first | exact CV.agg rfl (by first | exact .fro (by assumption) | exact .own (by repeat (first | exact List.Mem.head _ | apply List.Mem.tail | apply List.mem_append_right))) (by exact rfl) | exact CV.one rfl (by first | exact .fro (by assumption) | exact .own (by repeat (first | exact List.Mem.head _ | apply List.Mem.tail | apply List.mem_append_right))) rfl) (by first | exact CV.agg rfl (by first | exact .fro (by assumption) | exact .own (by repeat (first | exact List.Mem.head _ | apply List.Mem.tail | apply List.mem_append_right))) (by exact rfl) | exact CV.one rfl (by first | exact .fro (by assumption) | exact .own (by repeat (first | exact List.Mem.head _ | apply List.Mem.tail | apply List.mem_append_right))) rfl) | exact RV.cell4 rfl (by first | exact CV.agg rfl (by first | exact .fro (by assumption) | exact .own (by repeat (first | exact List.Mem.head _ | apply List.Mem.tail | apply List.mem_append_right))) (by exact rfl) | exact CV.one rfl (by first | exact .fro (by assumption) | exact .own (by repeat (first | exact List.Mem.head _ | apply List.Mem.tail | apply List.mem_append_right))) rfl) (by first | exact CV.agg rfl (by first | exact .fro (by assumption) | exact .own (by repeat (first | exact List.Mem.head _ | apply List.Mem.tail | apply List.mem_append_right))) (by exact rfl) | exact CV.one rfl (by first | exact .fro (by assumption) | exact .own (by repeat (first | exact List.Mem.head _ | apply List.Mem.tail | apply List.mem_append_right))) rfl) (by first | exact CV.agg rfl (by first | exact .fro (by assumption) | exact .own (by repeat (first | exact List.Mem.head _ | apply List.Mem.tail | apply List.mem_append_right))) (by exact rfl) | exact CV.one rfl (by first | exact .fro (by assumption) | exact .own (by repeat (first | exact List.Mem.head _ | apply List.Mem.tail | apply List.mem_append_right))) rfl) (by first | exact CV.agg rfl (by first | exact .fro (by assumption) | exact .own (by repeat (first | exact List.Mem.head _ | apply List.Mem.tail | apply List.mem_append_right))) (by exact rfl) | exact CV.one rfl (by first | exact .fro (by assumption) | exact .own (by repeat (first | exact List.Mem.head _ | apply List.Mem.tail | apply List.mem_append_right))) rfl) | exact RV.none rfl) ?_) | refine T.retF (Lv.fin (by first | exact RV.tmp rfl rfl | exact RV.tmp2 rfl rfl rfl | exact RV.tmp3 rfl rfl rfl rfl | exact RV.tmp4 rfl rfl rfl rfl rfl | exact RV.cell rfl (by first | exact CV.agg rfl (by first | exact .fro (by assumption) | exact .own (by repeat (first | exact List.Mem.head _ | apply List.Mem.tail | apply List.mem_append_right))) (by exact rfl) | exact CV.one rfl (by first | exact .fro (by assumption) | exact .own (by repeat (first | exact List.Mem.head _ | apply List.Mem.tail | apply List.mem_append_right))) rfl) | exact RV.cell2 rfl (by first | exact CV.agg rfl (by first | exact .fro (by assumption) | exact .own (by repeat (first | exact List.Mem.head _ | apply List.Mem.tail | apply List.mem_append_right))) (by exact rfl) | exact CV.one rfl (by first | exact .fro (by assumption) | exact .own (by repeat (first | exact List.Mem.head _ | apply List.Mem.tail | apply List.mem_append_right))) rfl) (by first | exact CV.agg rfl (by first | exact .fro (by assumption) | exact .own (by repeat (first | exact List.Mem.head _ | apply List.Mem.tail | apply List.mem_append_right))) (by exact rfl) | exact CV.one rfl (by first | exact .fro (by assumption) | exact .own (by repeat (first | exact List.Mem.head _ | apply List.Mem.tail | apply List.mem_append_right))) rfl) | exact RV.cell4 rfl (by first | exact CV.agg rfl (by first | exact .fro (by assumption) | exact .own (by repeat (first | exact List.Mem.head _ | apply List.Mem.tail | apply List.mem_append_right))) (by exact rfl) | exact CV.one rfl (by first | exact .fro (by assumption) | exact .own (by repeat (first | exact List.Mem.head _ | apply List.Mem.tail | apply List.mem_append_right))) rfl) (by first | exact CV.agg rfl (by first | exact .fro (by assumption) | exact .own (by repeat (first | exact List.Mem.head _ | apply List.Mem.tail | apply List.mem_append_right))) (by exact rfl) | exact CV.one rfl (by first | exact .fro (by assumption) | exact .own (by repeat (first | exact List.Mem.head _ | apply List.Mem.tail | apply List.mem_append_right))) rfl) (by first | exact CV.agg rfl (by first | exact .fro (by assumption) | exact .own (by repeat (first | exact List.Mem.head _ | apply List.Mem.tail | apply List.mem_append_right))) (by exact rfl) | exact CV.one rfl (by first | exact .fro (by assumption) | exact .own (by repeat (first | exact List.Mem.head _ | apply List.Mem.tail | apply List.mem_append_right))) rfl) (by first | exact CV.agg rfl (by first | exact .fro (by assumption) | exact .own (by repeat (first | exact List.Mem.head _ | apply List.Mem.tail | apply List.mem_append_right))) (by exact rfl) | exact CV.one rfl (by first | exact .fro (by assumption) | exact .own (by repeat (first | exact List.Mem.head _ | apply List.Mem.tail | apply List.mem_append_right))) rfl) | exact RV.none rfl) ?_)
      rw [← h1]
    · rw [if_neg hc] at h1
      refine T.skip ?_
      refine T.seq ?_
      refine T.region ?_
      refine T.pv (PV.move rfl) Wanted.none rfl rfl ?_
      refine T.pv (PV.eql rfl rfl) Wanted.none rfl rfl ?_
      refine T.opsNil ?_
      refine T.condD rfl (fun hr => ?_) (fun hr => ?_)
      · rw [if_pos (by omega)] at h1
        refine T.seq ?_
        refine T.region ?_
        refine T.pv (PV.fieldAddr rfl) Wanted.none rfl rfl ?_
        refine T.pv (PV.load1 rfl (by first | exact .fro (by assumption) | exact .own (by repeat (first | exact List.Mem.head _ | apply List.Mem.tail | apply List.mem_append_right))) rfl) Wanted.none rfl rfl ?_
        refine T.pv (PV.add rfl rfl (by omega)) Wanted.none rfl rfl ?_
        refine T.pv (PV.fieldAddr rfl) Wanted.none rfl rfl ?_
        refine T.store1 Wanted.none rfl rfl rfl (by repeat (first | exact Upd.head | apply Upd.tail | apply Upd.app)) (by repeat (first | exact Splice.nil | apply Splice.cons | apply Splice.skip)) ?_
        refine T.opsNil ?_
        refine T.region ?_
        refine T.pv (PV.fieldAddr rfl) Wanted.none rfl rfl ?_
        refine T.store1 Wanted.none rfl rfl rfl (by repeat (first | exact Upd.head | apply Upd.tail | apply Upd.app)) (by repeat (first | exact Splice.nil | apply Splice.cons | apply Splice.skip)) ?_
        refine T.opsNil ?_
        refine T.blkEnd ?_
        exact T.next ⟨n, p + wd, line + 1, 1⟩ ⟨h1, by dsimp only; omega, by dsimp only; omega, by dsimp only; omega, by dsimp only; omega, by dsimp only; omega, by dsimp only; omega⟩ (by dsimp only; omega) (by repeat (first | exact trivial | refine And.intro rfl ?_)) (by repeat (first | exact List.Sublist.slnil | exact List.nil_sublist _ | exact List.Sublist.refl _ | exact List.sublist_append_left _ [] | apply List.Sublist.cons_cons | apply List.Sublist.cons | refine List.Sublist.append_left ?_ _)) rfl
      · rw [if_neg (by omega)] at h1
        refine T.region ?_
        refine T.pv (PV.fieldAddr rfl) Wanted.none rfl rfl ?_
        refine T.pv (PV.load1 rfl (by first | exact .fro (by assumption) | exact .own (by repeat (first | exact List.Mem.head _ | apply List.Mem.tail | apply List.mem_append_right))) rfl) Wanted.none rfl rfl ?_
        refine T.pv (PV.add rfl rfl (by omega)) Wanted.none rfl rfl ?_
        refine T.pv (PV.fieldAddr rfl) Wanted.none rfl rfl ?_
        refine T.store1 Wanted.none rfl rfl rfl (by repeat (first | exact Upd.head | apply Upd.tail | apply Upd.app)) (by repeat (first | exact Splice.nil | apply Splice.cons | apply Splice.skip)) ?_
        refine T.opsNil ?_
        refine T.blkEnd ?_
        exact T.next ⟨n, p + wd, line, col + 1⟩ ⟨h1, by dsimp only; omega, by dsimp only; omega, by dsimp only; omega, by dsimp only; omega, by dsimp only; omega, by dsimp only; omega⟩ (by dsimp only; omega) (by repeat (first | exact trivial | refine And.intro rfl ?_)) (by repeat (first | exact List.Sublist.slnil | exact List.nil_sublist _ | exact List.Sublist.refl _ | exact List.sublist_append_left _ [] | apply List.Sublist.cons_cons | apply List.Sublist.cons | refine List.Sublist.append_left ?_ _)) rfl
  · have h0 : unitsFrom s n p = [] := by cases n <;> simp [unitsFrom, hp]
    rw [h0, posL] at h1
    refine T.nextStrEnd (by first | exact Wanted.none | exact Wanted.guard rfl rfl (by first | rfl | assumption)) rfl rfl (by repeat (first | exact List.Mem.head _ | apply List.Mem.tail | apply List.mem_append_right)) (by omega) ?_
    refine T.pv (PV.extract rfl rfl) Wanted.none rfl rfl ?_
    refine T.opsNil ?_
    refine T.seq ?_
    refine T.condF rfl rfl ?_
    refine T.exit rfl ?_
    refine T.seq ?_
    refine T.region ?_
    refine T.pv (PV.loadAll rfl (by first | exact .fro (by assumption) | exact .own (by repeat (first | exact List.Mem.head _ | apply List.Mem.tail | apply List.mem_append_right))) (by exact rfl)) Wanted.none rfl rfl ?_
    refine T.storeA Wanted.none rfl rfl (by repeat (first | exact trivial | refine And.intro rfl ?_)) (by exact rfl) (by repeat (first | exact Upd.head | apply Upd.tail | apply Upd.app)) (by repeat (first | exact Splice.nil | apply Splice.cons | apply Splice.skip)) ?_
    refine T.opsNil ?_
    first | refine T.fallF (Lv.fin (by first | exact RV.tmp rfl rfl | exact RV.tmp2 rfl rfl rfl | exact RV.tmp3 rfl rfl rfl rfl | exact RV.tmp4 rfl rfl rfl rfl rfl | exact RV.cell rfl (by first | exact CV.agg rfl (by first | exact .fro (by assumption) | exact .own (by repeat (first | exact List.Mem.head _ | apply List.Mem.tail | apply List.mem_append_right))) (by exact rfl) | exact CV.one rfl (by first | exact .fro (by assumption) | exact .own (by repeat (first | exact List.Mem.head _ | apply List.Mem.tail | apply List.mem_append_right))) rfl) | exact RV.cell2 rfl (by first | exact CV.agg rfl (by first | exact .fro (by assumption) | exact .own (by repeat (first | exact List.Mem.head _ | apply List.Mem.tail | apply List.mem_append_right))) (by exact rfl) | exact CV.one rfl (by first | exact .fro (by assumption) | exact .own (by repeat (first | exact List.Mem.head _ | apply List.Mem.tail | apply List.mem_append_right))) rfl) (by first | exact CV.agg rfl (by first | exact .fro (by assumption) | exact .own (by repeat (first | exact List.Mem.head _ | apply List.Mem.tail | apply List.mem_append_right))) (by exact rfl) | exact CV.one rfl (by first | exact .fro (by assumption) | exact .own (by repeat (first | exact List.Mem.head _ | apply List.Mem.tail | apply List.mem_append_right))) rfl) | exact RV.cell4 rfl (by first | exact CV.agg rfl (by first | exact .fro (by assumption) | exact .own (by repeat (first | exact List.Mem.head _ | apply List.Mem.tail | apply List.mem_append_right))) (by exact rfl) | exact CV.one rfl (by first | exact .fro (by assumption) | exact .own (by repeat (first | exact List.Mem.head _ | apply List.Mem.tail | apply List.mem_append_right))) rfl) (by first | exact CV.agg rfl (by first | exact .fro (by assumption) | exact .own (by repeat (first | exact List.Mem.head _ | apply List.Mem.tail | apply List.mem_append_right))) (by exact rfl) | exact CV.one rfl (by first | exact .fro (by assumption) | exact .own (by repeat (first | exact List.Mem.head _ | apply List.Mem.tail | apply List.mem_append_right))) rfl) (by first | exact CV.agg rfl (by first | exact .fro (by assumption) | exact .own (by repeat (first | exact List.Mem.head _ | apply List.Mem.tail | apply List.mem_append_right))) (by exact rfl) | exact CV.one rfl (by first | exact .fro (by assumption) | exact .own (by repeat (first | exact List.Mem.head _ | apply List.Mem.tail | apply List.mem_append_right))) rfl) (by first | exact CV.agg rfl (by first | exact .fro (by assumption) | exact .own (by repeat (first | exact List.Mem.head _ | apply List.Mem.tail | apply List.mem_append_right))) (by exact rfl) | exact CV.one rfl (by first | exact .fro (by assumption) | exact .own (by repeat (first | exact List.Mem.head _ | apply List.Mem.tail | apply List.mem_append_right))) rfl) | exact RV.none rfl) ?_) | refine T.retF (Lv.fin (by first | exact RV.tmp rfl rfl | exact RV.tmp2 rfl rfl rfl | exact RV.tmp3 rfl rfl rfl rfl | exact RV.tmp4 rfl rfl rfl rfl rfl | exact RV.cell rfl (by first | exact CV.agg rfl (by first | exact .fro (by assumption) | exact .own (by repeat (first | exact List.Mem.head _ | apply List.Mem.tail | apply List.mem_append_right))) (by exact rfl) | exact CV.one rfl (by first | exact .fro (by assumption) | exact .own (by repeat (first | exact List.Mem.head _ | apply List.Mem.tail | apply List.mem_append_right))) rfl) | exact RV.cell2 rfl (by first | exact CV.agg rfl (by first | exact .fro (by assumption) | exact .own (by repeat (first | exact List.Mem.head _ | apply List.Mem.tail | apply List.mem_append_right))) (by exact rfl) | exact CV.one rfl (by first | exact .fro (by assumption) | exact .own (by repeat (first | exact List.Mem.head _ | apply List.Mem.tail | apply List.mem_append_right))) rfl) (by first | exact CV.agg rfl (by first | exact .fro (by assumption) | exact .own (by repeat (first | exact List.Mem.head _ | apply List.Mem.tail | apply List.mem_append_right))) (by exact rfl) | exact CV.one rfl (by first | exact .fro (by assumption) | exact .own (by repeat (first | exact List.Mem.head _ | apply List.Mem.tail | apply List.mem_append_right))) rfl) | exact RV.cell4 rfl (by first | exact CV.agg rfl (by first | exact .fro (by assumption) | exact .own (by repeat (first | exact List.Mem.head _ | apply List.Mem.tail | apply List.mem_append_right))) (by exact rfl) | exact CV.one rfl (by first | exact .fro (by assumption) | exact .own (by repeat (first | exact List.Mem.head _ | apply List.Mem.tail | apply List.mem_append_right))) rfl) (by first | exact CV.agg rfl (by first | exact .fro (by assumption) | exact .own (by repeat (first | exact List.Mem.head _ | apply List.Mem.tail | apply List.mem_append_right))) (by exact rfl) | exact CV.one rfl (by first | exact .fro (by assumption) | exact .own (by repeat (first | exact List.Mem.head _ | apply List.Mem.tail | apply List.mem_append_right))) rfl) (by first | exact CV.agg rfl (by first | exact .fro (by assumption) | exact .own (by repeat (first | exact List.Mem.head _ | apply List.Mem.tail | apply List.mem_append_right))) (by exact rfl) | exact CV.one rfl (by first | exact .fro (by assumption) | exact .own (by repeat (first | exact List.Mem.head _ | apply List.Mem.tail | apply List.mem_append_right))) rfl) (by first | exact CV.agg rfl (by first | exact .fro (by assumption) | exact .own (by repeat (first | exact List.Mem.head _ | apply List.Mem.tail | apply List.mem_append_right))) (by exact rfl) | exact CV.one rfl (by first | exact .fro (by assumption) | exact .own (by repeat (first | exact List.Mem.head _ | apply List.Mem.tail | apply List.mem_append_right))) rfl) | exact RV.none rfl) ?_)
    rw [← h1]
end Go.Proofs.Yteanijikhogijaa
