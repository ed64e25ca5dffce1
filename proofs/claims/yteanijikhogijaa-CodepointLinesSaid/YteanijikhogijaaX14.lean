/- codepoint: the law of lines. -/
import Derived.Test.YteanijikhogijaaX13
namespace Go.Proofs.Yteanijikhogijaa
open Go.RowKit

theorem posL_range (at_ : Int) : ∀ (l : List U) (line col : Int), line ≤ (posL at_ l line col).1 ∧ (posL at_ l line col).1 ≤ line + l.length ∧ min col 1 ≤ (posL at_ l line col).2 ∧ (posL at_ l line col).2 ≤ max col 1 + l.length
  | [], line, col => by simp only [posL, List.length_nil]; omega
  | u :: l, line, col => by
    rw [posL, List.length_cons]
    split
    · dsimp only; omega
    · split
      · have := posL_range at_ l (line + 1) 1; omega
      · have := posL_range at_ l line (col + 1); omega
theorem posOf_range (s : ByteArray) (at_ : Int) : 1 ≤ (posOf s at_).1 ∧ (posOf s at_).1 ≤ 1 + (units s).length ∧ 1 ≤ (posOf s at_).2 ∧ (posOf s at_).2 ≤ 1 + (units s).length := by
  have := posL_range at_ (units s) 1 1
  unfold posOf
  omega
theorem lf_le (l : List UInt8) : lf l ≤ l.length := List.length_filter_le _ _
theorem lf_take (l : List UInt8) (k : Nat) (c : UInt8) (h : l[k]? = some c) : lf (l.take (k + 1)) = lf (l.take k) + if c.toNat = 10 then 1 else 0 := by
  rw [List.take_add_one, h, lf_append]
  congr 1
  unfold lf
  by_cases h : c.toNat = 10 <;> simp [h]
theorem byte_at (s : ByteArray) (k : Nat) (h : k < s.size) : ∃ c, s.data.toList[k]? = some c := ⟨_, List.getElem?_eq_getElem (by rw [size_list]; exact h)⟩
theorem posOf_next (t : ByteArray) (j : Nat) (c : UInt8) (h : t.data.toList[j]? = some c) :
    (c.toNat = 10 → posOf t ((j : Int) + 1) = ((posOf t j).1 + 1, 1)) ∧ (c.toNat ≠ 10 → (posOf t ((j : Int) + 1)).1 = (posOf t j).1 ∧ ((posOf t ((j : Int) + 1)).2 = (posOf t j).2 ∨ (posOf t ((j : Int) + 1)).2 = (posOf t j).2 + 1)) := by
  have := posB_next t.data.toList j c 0 1 1 h
  rw [Int.zero_add] at this
  rw [posOf_ub, posOf_ub]; exact this
theorem posOf_lines (s t : ByteArray) (i : Int) (h : 0 ≤ i) : posOf (s ++ ⟨#[10]⟩ ++ t) ((s.size : Int) + 1 + i) = ((posOf t i).1 + (1 + lf s.data.toList : Nat), (posOf t i).2) := by
  have e : (s ++ ⟨#[10]⟩ ++ t).data.toList = s.data.toList ++ 10 :: t.data.toList := by rw [app_list, app_list, List.append_assoc]; rfl
  rw [posOf_ub, e, ← size_list s, posB_lines _ _ _ h, ← posOf_ub]

set_option maxHeartbeats 1000000 in
theorem lawLines (s : ByteArray) (t : ByteArray) (i : Int) (H : Hp) (hi : -9223372036854775808 ≤ i ∧ i ≤ 9223372036854775807) : Fn Try.prog 4 #[.string s, .string t, .int .i64 i] H (fun v _ => v = .bool true) := by
  refine Fn.of_T (vs := [.string s, .string t, .int .i64 i]) Try.func4 rfl rfl fun w => ?_
  refine T.seq ?_
  refine T.region ?_
  refine T.pv (PV.assign rfl) Wanted.none rfl rfl ?_
  refine T.opsNil ?_
  refine T.seq ?_
  refine T.seq ?_
  refine T.region ?_
  refine T.pv (PV.move rfl) Wanted.none rfl rfl ?_
  refine T.pv (PV.move rfl) Wanted.none rfl rfl ?_
  (refine T.buildSlice Wanted.none rfl rfl (by repeat (first | exact FillAll.nil | (apply FillAll.cons; (first | exact CellsR.one rfl | exact CellsR.agg); exact rfl))) (by exact rfl) (by exact rfl) ?_; intro b14)
  refine T.freezeLit ?_
  intro H1 hle1 hH1
  have hsl : SlR H1 1 _ _ (List.map Value.string [s, t]) := slR_lit hH1 rfl
  have hlong := long_fn [s, t] _ H1 hsl (Nat.le_of_ble_eq_true rfl)
  by_cases hc : longL [s, t] = true
  · rw [hc] at hlong
    refine T.callV Wanted.none rfl rfl (hlong) ?_
    refine T.pv (PV.move rfl) Wanted.none rfl rfl ?_
    refine T.pass (Unwanted.guard rfl rfl rfl) rfl rfl ?_
    refine T.pass (Unwanted.guard rfl rfl rfl) rfl rfl ?_
    refine T.pv (PV.pickT rfl rfl rfl) Wanted.none rfl rfl ?_
    refine T.pv (PV.move rfl) Wanted.none rfl rfl ?_
    refine T.pass (Unwanted.guard rfl rfl rfl) rfl rfl ?_
    refine T.pass (Unwanted.guard rfl rfl rfl) rfl rfl ?_
    refine T.pass (Unwanted.guard rfl rfl rfl) rfl rfl ?_
    refine T.pass (Unwanted.guard rfl rfl rfl) rfl rfl ?_
    refine T.pv (PV.pickT rfl rfl rfl) Wanted.none rfl rfl ?_
    refine T.opsNil ?_
    refine T.condT rfl rfl ?_
    refine T.seq ?_
    refine T.region ?_
    refine T.pv (PV.assign rfl) Wanted.none rfl rfl ?_
    refine T.opsNil ?_
    exact T.retF (Lv.fin (RV.tmp rfl rfl) rfl)
  · have hc := Bool.eq_false_iff.2 hc
    rw [hc] at hlong
    have hs := longL_false' hc s (by simp)
    have ht := longL_false' hc t (by simp)
    by_cases h0 : i < 0
    · refine T.callV Wanted.none rfl rfl (hlong) ?_
      refine T.pv (PV.move rfl) Wanted.none rfl rfl ?_
      refine T.pv (PV.move rfl) (Wanted.guard rfl rfl rfl) rfl rfl ?_
      refine T.pv (PV.lss rfl rfl) (Wanted.guard rfl rfl rfl) rfl rfl ?_
      refine T.pv (PV.pickF rfl rfl rfl) Wanted.none rfl rfl ?_
      refine T.pv (PV.move rfl) Wanted.none rfl rfl ?_
      refine T.setT (d := 20) rfl (by omega) ?_
      refine T.pass (Unwanted.guard rfl rfl rfl) rfl rfl ?_
      refine T.pass (Unwanted.guard rfl rfl rfl) rfl rfl ?_
      refine T.pass (Unwanted.guard rfl rfl rfl) rfl rfl ?_
      refine T.pass (Unwanted.guard rfl rfl rfl) rfl rfl ?_
      refine T.pv (PV.pickT rfl rfl rfl) Wanted.none rfl rfl ?_
      refine T.opsNil ?_
      refine T.condT rfl rfl ?_
      refine T.seq ?_
      refine T.region ?_
      refine T.pv (PV.assign rfl) Wanted.none rfl rfl ?_
      refine T.opsNil ?_
      exact T.retF (Lv.fin (RV.tmp rfl rfl) rfl)
    by_cases h1 : i > t.size
    · refine T.callV Wanted.none rfl rfl (hlong) ?_
      refine T.pv (PV.move rfl) Wanted.none rfl rfl ?_
      refine T.pv (PV.move rfl) (Wanted.guard rfl rfl rfl) rfl rfl ?_
      refine T.pv (PV.lss rfl rfl) (Wanted.guard rfl rfl rfl) rfl rfl ?_
      refine T.pv (PV.pickF rfl rfl rfl) Wanted.none rfl rfl ?_
      refine T.pv (PV.move rfl) Wanted.none rfl rfl ?_
      refine T.setF (d := 20) rfl (by omega) ?_
      refine T.pv (PV.move rfl) (Wanted.guard rfl rfl rfl) rfl rfl ?_
      refine T.pv (PV.move rfl) (Wanted.guard rfl rfl rfl) rfl rfl ?_
      refine T.pv (PV.lenStr rfl) (Wanted.guard rfl rfl rfl) rfl rfl ?_
      refine T.pv (PV.gtr rfl rfl) (Wanted.guard rfl rfl rfl) rfl rfl ?_
      refine T.pv (PV.pickF rfl rfl rfl) Wanted.none rfl rfl ?_
      refine T.opsNil ?_
      refine T.condT rfl (decide_eq_true (by omega)) ?_
      refine T.seq ?_
      refine T.region ?_
      refine T.pv (PV.assign rfl) Wanted.none rfl rfl ?_
      refine T.opsNil ?_
      exact T.retF (Lv.fin (RV.tmp rfl rfl) rfl)
    have hz : (s ++ ⟨#[10]⟩ ++ t).size = s.size + 1 + t.size := by rw [app_size, app_size]; rfl
    have hz0 : (⟨#[10]⟩ : ByteArray).size = 1 := rfl
    have hz2 : (s ++ ⟨#[10]⟩).size = s.size + 1 := by rw [app_size]; rfl
    have q1 := position_fn t i H1 (by omega)
    have q2 := position_fn (s ++ ⟨#[10]⟩ ++ t) ((s.size : Int) + 1 + i) H1 (by omega)
    rw [posOf_lines s t i (by omega)] at q2
    have hr := posOf_range t i
    have hul := units_len t
    refine T.callV Wanted.none rfl rfl (hlong) ?_
    refine T.pv (PV.move rfl) Wanted.none rfl rfl ?_
    refine T.pv (PV.move rfl) (Wanted.guard rfl rfl rfl) rfl rfl ?_
    refine T.pv (PV.lss rfl rfl) (Wanted.guard rfl rfl rfl) rfl rfl ?_
    refine T.pv (PV.pickF rfl rfl rfl) Wanted.none rfl rfl ?_
    refine T.pv (PV.move rfl) Wanted.none rfl rfl ?_
    refine T.setF (d := 20) rfl (by omega) ?_
    refine T.pv (PV.move rfl) (Wanted.guard rfl rfl rfl) rfl rfl ?_
    refine T.pv (PV.move rfl) (Wanted.guard rfl rfl rfl) rfl rfl ?_
    refine T.pv (PV.lenStr rfl) (Wanted.guard rfl rfl rfl) rfl rfl ?_
    refine T.pv (PV.gtr rfl rfl) (Wanted.guard rfl rfl rfl) rfl rfl ?_
    refine T.pv (PV.pickF rfl rfl rfl) Wanted.none rfl rfl ?_
    refine T.opsNil ?_
    refine T.condF rfl (decide_eq_false (by omega)) ?_
    refine T.skip ?_
    refine T.seq ?_
    refine T.region ?_
    refine T.pv (PV.move rfl) Wanted.none rfl rfl ?_
    refine T.pv (PV.move rfl) Wanted.none rfl rfl ?_
    refine T.callV Wanted.none rfl rfl (q1) ?_
    refine T.pv (PV.move rfl) Wanted.none rfl rfl ?_
    refine T.pv (PV.sadd rfl rfl (by omega)) Wanted.none rfl rfl ?_
    refine T.pv (PV.move rfl) Wanted.none rfl rfl ?_
    refine T.pv (PV.sadd rfl rfl (by omega)) Wanted.none rfl rfl ?_
    refine T.pv (PV.move rfl) Wanted.none rfl rfl ?_
    refine T.pv (PV.lenStr rfl) Wanted.none rfl rfl ?_
    refine T.pv (PV.add rfl rfl (by omega)) Wanted.none rfl rfl ?_
    refine T.pv (PV.move rfl) Wanted.none rfl rfl ?_
    refine T.pv (PV.add rfl rfl (by omega)) Wanted.none rfl rfl ?_
    refine T.callV Wanted.none rfl rfl (q2) ?_
    (refine T.alloc Wanted.none rfl ?_; intro b7)
    (refine T.alloc Wanted.none rfl ?_; intro b8)
    refine T.storeA Wanted.none rfl rfl (by repeat (first | exact trivial | refine And.intro rfl ?_)) (by exact rfl) (by repeat (first | exact Upd.head | apply Upd.tail | apply Upd.app)) (by repeat (first | exact Splice.nil | apply Splice.cons | apply Splice.skip)) ?_
    refine T.storeA Wanted.none rfl rfl (by repeat (first | exact trivial | refine And.intro rfl ?_)) (by exact rfl) (by repeat (first | exact Upd.head | apply Upd.tail | apply Upd.app)) (by repeat (first | exact Splice.nil | apply Splice.cons | apply Splice.skip)) ?_
    refine T.opsNil ?_
    refine T.seq ?_
    refine T.region ?_
    refine T.pv (PV.assign rfl) Wanted.none rfl rfl ?_
    refine T.opsNil ?_
    refine T.seq ?_
    refine T.seq ?_
    refine T.region ?_
    refine T.pv (PV.assign rfl) Wanted.none rfl rfl ?_
    refine T.opsNil ?_
    refine T.block ?_
    have hlf := lf_le s.data.toList
    rw [size_list] at hlf
    have hd := fun b : Bool => show (!b && b) = false by cases b <;> rfl
    refine T.loop (γ := Nat) (fun k => k ≤ s.size)
      (fun k => [(0, .string s), (1, .string t), (2, .int .i64 i), (7, .pointer (some ⟨b7, 0, none⟩)), (8, .pointer (some ⟨b8, 0, none⟩)), (9, .int .i64 ((1 + lf (s.data.toList.take k) : Nat) : Int)), (10, .int .i64 (k : Int)), (6, .bool false)])
      (fun _ => [(b8, .cells #[.int .i64 ((posOf t i).1 + (1 + lf s.data.toList : Nat)), .int .i64 (posOf t i).2] 24 (0, 0)), (b7, .cells #[.int .i64 (posOf t i).1, .int .i64 (posOf t i).2] 24 (0, 0))]) (fun _ => H1) (fun k => s.size - k) 0 (by omega) (by repeat (first | exact trivial | refine And.intro rfl ?_)) (by repeat (first | exact List.Sublist.slnil | exact List.nil_sublist _ | exact List.Sublist.refl _ | exact List.sublist_append_left _ [] | apply List.Sublist.cons_cons | apply List.Sublist.cons | refine List.Sublist.append_left ?_ _)) rfl ?_
    intro k hk
    by_cases hks : k < s.size
    · obtain ⟨c, hcc⟩ := byte_at s k hks
      have hcc' : s.data.toList[((k : Nat) : Int).toNat]? = some c := hcc
      have hlt := lf_take _ k c hcc
      have hlk := lf_le (s.data.toList.take k)
      have hlm : (s.data.toList.take k).length ≤ k := List.length_take_le _ _
      have e10 : ((c.toNat : Nat) : Int) = 10 ∨ ¬ ((c.toNat : Nat) : Int) = 10 := by omega
      by_cases h10 : c.toNat = 10
      · rw [if_pos h10] at hlt
        refine T.seq ?_
        refine T.seq ?_
        refine T.region ?_
        refine T.pv (PV.move rfl) Wanted.none rfl rfl ?_
        refine T.pv (PV.move rfl) Wanted.none rfl rfl ?_
        refine T.pv (PV.lenStr rfl) Wanted.none rfl rfl ?_
        refine T.pv (PV.lss rfl rfl) Wanted.none rfl rfl ?_
        refine T.opsNil ?_
        refine T.condT rfl (decide_eq_true (by omega)) ?_
        refine T.skip ?_
        refine T.seq ?_
        refine T.block ?_
        refine T.seq ?_
        refine T.region ?_
        refine T.pv (PV.move rfl) Wanted.none rfl rfl ?_
        refine T.pv (PV.move rfl) Wanted.none rfl rfl ?_
        refine T.pv (PV.indexStr rfl rfl (by omega) (by assumption)) Wanted.none rfl rfl ?_
        refine T.pv (PV.eql rfl rfl) Wanted.none rfl rfl ?_
        refine T.opsNil ?_
        refine T.condT rfl (decide_eq_true (by omega)) ?_
        refine T.region ?_
        refine T.pv (PV.move rfl) Wanted.none rfl rfl ?_
        refine T.pv (PV.add rfl rfl (by omega)) Wanted.none rfl rfl ?_
        refine T.pv (PV.assign rfl) Wanted.none rfl rfl ?_
        refine T.opsNil ?_
        refine T.blkEnd ?_
        refine T.region ?_
        refine T.pv (PV.move rfl) Wanted.none rfl rfl ?_
        refine T.pv (PV.add rfl rfl (by omega)) Wanted.none rfl rfl ?_
        refine T.pv (PV.assign rfl) Wanted.none rfl rfl ?_
        refine T.opsNil ?_
        rw [show ((1 + lf (s.data.toList.take k) : Nat) : Int) + 1 = ((1 + lf (s.data.toList.take (k + 1)) : Nat) : Int) by omega]
        exact T.next (k + 1) (by omega) (by omega) (by repeat (first | exact trivial | refine And.intro rfl ?_)) (by repeat (first | exact List.Sublist.slnil | exact List.nil_sublist _ | exact List.Sublist.refl _ | exact List.sublist_append_left _ [] | apply List.Sublist.cons_cons | apply List.Sublist.cons | refine List.Sublist.append_left ?_ _)) rfl
      · rw [if_neg h10] at hlt
        have hlt : lf (s.data.toList.take (k + 1)) = lf (s.data.toList.take k) := hlt
        rw [← hlt]
        refine T.seq ?_
        refine T.seq ?_
        refine T.region ?_
        refine T.pv (PV.move rfl) Wanted.none rfl rfl ?_
        refine T.pv (PV.move rfl) Wanted.none rfl rfl ?_
        refine T.pv (PV.lenStr rfl) Wanted.none rfl rfl ?_
        refine T.pv (PV.lss rfl rfl) Wanted.none rfl rfl ?_
        refine T.opsNil ?_
        refine T.condT rfl (decide_eq_true (by omega)) ?_
        refine T.skip ?_
        refine T.seq ?_
        refine T.block ?_
        refine T.seq ?_
        refine T.region ?_
        refine T.pv (PV.move rfl) Wanted.none rfl rfl ?_
        refine T.pv (PV.move rfl) Wanted.none rfl rfl ?_
        refine T.pv (PV.indexStr rfl rfl (by omega) (by assumption)) Wanted.none rfl rfl ?_
        refine T.pv (PV.eql rfl rfl) Wanted.none rfl rfl ?_
        refine T.opsNil ?_
        refine T.condF rfl (decide_eq_false (by omega)) ?_
        refine T.skip ?_
        refine T.blkEnd ?_
        refine T.region ?_
        refine T.pv (PV.move rfl) Wanted.none rfl rfl ?_
        refine T.pv (PV.add rfl rfl (by omega)) Wanted.none rfl rfl ?_
        refine T.pv (PV.assign rfl) Wanted.none rfl rfl ?_
        refine T.opsNil ?_
        exact T.next (k + 1) (by omega) (by omega) (by repeat (first | exact trivial | refine And.intro rfl ?_)) (by repeat (first | exact List.Sublist.slnil | exact List.nil_sublist _ | exact List.Sublist.refl _ | exact List.sublist_append_left _ [] | apply List.Sublist.cons_cons | apply List.Sublist.cons | refine List.Sublist.append_left ?_ _)) rfl
    · have hke : s.data.toList.take k = s.data.toList := List.take_of_length_le (by rw [size_list]; omega)
      rw [hke]
      have g1 := ne_self (posOf t i).2
      by_cases hit : i < t.size
      · obtain ⟨j, rfl⟩ : ∃ j : Nat, i = j := ⟨i.toNat, by omega⟩
        obtain ⟨c, hcc⟩ := byte_at t j (by omega)
        have hcc' : t.data.toList[((j : Nat) : Int).toNat]? = some c := hcc
        have hnx := posOf_next t j c hcc
        have q3 := position_fn t ((j : Int) + 1) H1 (by omega)
        by_cases h10 : c.toNat = 10
        · have q3 : Fn Try.prog 14 #[.string t, .int .i64 ((j : Int) + 1)] H1 (fun v _ => v = .agg #[.int .i64 ((posOf t j).1 + 1), .int .i64 1]) := by rw [hnx.1 h10] at q3; exact q3
          have g5 : eqCells [.int .i64 ((posOf t j).1 + 1), .int .i64 1] [.int .i64 ((posOf t j).1 + 1), .int .i64 1] = true := by simp [eqCells, cellEq]
          refine T.seq ?_
          refine T.seq ?_
          refine T.region ?_
          refine T.pv (PV.move rfl) Wanted.none rfl rfl ?_
          refine T.pv (PV.move rfl) Wanted.none rfl rfl ?_
          refine T.pv (PV.lenStr rfl) Wanted.none rfl rfl ?_
          refine T.pv (PV.lss rfl rfl) Wanted.none rfl rfl ?_
          refine T.opsNil ?_
          refine T.condF rfl (decide_eq_false (by omega)) ?_
          refine T.exit rfl ?_
          refine T.seq ?_
          refine T.seq ?_
          refine T.region ?_
          refine T.pv (PV.fieldAddr rfl) Wanted.none rfl rfl ?_
          refine T.pv (PV.load1 rfl (by first | exact .fro (by assumption) | exact .own (by repeat (first | exact List.Mem.head _ | apply List.Mem.tail | apply List.mem_append_right))) rfl) Wanted.none rfl rfl ?_
          refine T.pv (PV.fieldAddr rfl) Wanted.none rfl rfl ?_
          refine T.pv (PV.load1 rfl (by first | exact .fro (by assumption) | exact .own (by repeat (first | exact List.Mem.head _ | apply List.Mem.tail | apply List.mem_append_right))) rfl) Wanted.none rfl rfl ?_
          refine T.pv (PV.move rfl) Wanted.none rfl rfl ?_
          refine T.pv (PV.add rfl rfl (by omega)) Wanted.none rfl rfl ?_
          refine T.pv (PV.neq rfl rfl) Wanted.none rfl rfl ?_
          refine T.pv (PV.move rfl) Wanted.none rfl rfl ?_
          refine T.setF (d := 58) rfl (by omega) ?_
          refine T.pv (PV.fieldAddr rfl) (Wanted.guard rfl rfl rfl) rfl rfl ?_
          refine T.pv (PV.load1 rfl (by first | exact .fro (by assumption) | exact .own (by repeat (first | exact List.Mem.head _ | apply List.Mem.tail | apply List.mem_append_right))) rfl) (Wanted.guard rfl rfl rfl) rfl rfl ?_
          refine T.pv (PV.fieldAddr rfl) (Wanted.guard rfl rfl rfl) rfl rfl ?_
          refine T.pv (PV.load1 rfl (by first | exact .fro (by assumption) | exact .own (by repeat (first | exact List.Mem.head _ | apply List.Mem.tail | apply List.mem_append_right))) rfl) (Wanted.guard rfl rfl rfl) rfl rfl ?_
          refine T.pv (PV.neq rfl rfl) (Wanted.guard rfl rfl rfl) rfl rfl ?_
          refine T.pv (PV.pickF rfl rfl rfl) Wanted.none rfl rfl ?_
          refine T.opsNil ?_
          refine T.condF rfl (by assumption) ?_
          refine T.skip ?_
          refine T.seq ?_
          refine T.seq ?_
          refine T.region ?_
          refine T.pv (PV.move rfl) Wanted.none rfl rfl ?_
          refine T.pv (PV.move rfl) Wanted.none rfl rfl ?_
          refine T.pv (PV.lenStr rfl) Wanted.none rfl rfl ?_
          refine T.pv (PV.lss rfl rfl) Wanted.none rfl rfl ?_
          refine T.opsNil ?_
          refine T.condT rfl (decide_eq_true (by omega)) ?_
          refine T.seq ?_
          refine T.region ?_
          refine T.pv (PV.move rfl) Wanted.none rfl rfl ?_
          refine T.pv (PV.move rfl) Wanted.none rfl rfl ?_
          refine T.pv (PV.add rfl rfl (by omega)) Wanted.none rfl rfl ?_
          refine T.callV Wanted.none rfl rfl (q3) ?_
          (refine T.alloc Wanted.none rfl ?_; intro b11)
          refine T.storeA Wanted.none rfl rfl (by repeat (first | exact trivial | refine And.intro rfl ?_)) (by exact rfl) (by repeat (first | exact Upd.head | apply Upd.tail | apply Upd.app)) (by repeat (first | exact Splice.nil | apply Splice.cons | apply Splice.skip)) ?_
          refine T.opsNil ?_
          refine T.seq ?_
          refine T.seq ?_
          refine T.region ?_
          refine T.pv (PV.move rfl) Wanted.none rfl rfl ?_
          refine T.pv (PV.move rfl) Wanted.none rfl rfl ?_
          refine T.pv (PV.indexStr rfl rfl (by omega) (by assumption)) Wanted.none rfl rfl ?_
          refine T.pv (PV.eql rfl rfl) Wanted.none rfl rfl ?_
          refine T.opsNil ?_
          refine T.condT rfl (decide_eq_true (by omega)) ?_
          refine T.seq ?_
          refine T.region ?_
          refine T.pv (PV.loadAll rfl (by first | exact .fro (by assumption) | exact .own (by repeat (first | exact List.Mem.head _ | apply List.Mem.tail | apply List.mem_append_right))) (by exact rfl)) Wanted.none rfl rfl ?_
          refine T.pv (PV.fieldAddr rfl) Wanted.none rfl rfl ?_
          refine T.pv (PV.load1 rfl (by first | exact .fro (by assumption) | exact .own (by repeat (first | exact List.Mem.head _ | apply List.Mem.tail | apply List.mem_append_right))) rfl) Wanted.none rfl rfl ?_
          refine T.pv (PV.add rfl rfl (by omega)) Wanted.none rfl rfl ?_
          refine T.pv (PV.build rfl (by repeat (first | exact FillR.nil | (apply FillR.cons rfl; (first | exact CellsR.one rfl | exact CellsR.agg); rfl; repeat (first | exact Splice.nil | apply Splice.cons | apply Splice.skip))))) Wanted.none rfl rfl ?_
          refine T.pv (PV.aeql rfl rfl rfl rfl) Wanted.none rfl rfl ?_
          refine T.pv (PV.move rfl) Wanted.none rfl rfl ?_
          refine T.callV (Wanted.guard rfl rfl (by assumption)) rfl rfl (awake_fn H1) ?_
          refine T.pv (PV.pickT rfl (by assumption) rfl) Wanted.none rfl rfl ?_
          refine T.pv (PV.assign rfl) Wanted.none rfl rfl ?_
          refine T.opsNil ?_
          exact T.retF (Lv.fin (RV.tmp rfl rfl) rfl)
        · obtain ⟨n1, n2⟩ := hnx.2 h10
          rcases n2 with n2 | n2
          · refine T.seq ?_
            refine T.seq ?_
            refine T.region ?_
            refine T.pv (PV.move rfl) Wanted.none rfl rfl ?_
            refine T.pv (PV.move rfl) Wanted.none rfl rfl ?_
            refine T.pv (PV.lenStr rfl) Wanted.none rfl rfl ?_
            refine T.pv (PV.lss rfl rfl) Wanted.none rfl rfl ?_
            refine T.opsNil ?_
            refine T.condF rfl (decide_eq_false (by omega)) ?_
            refine T.exit rfl ?_
            refine T.seq ?_
            refine T.seq ?_
            refine T.region ?_
            refine T.pv (PV.fieldAddr rfl) Wanted.none rfl rfl ?_
            refine T.pv (PV.load1 rfl (by first | exact .fro (by assumption) | exact .own (by repeat (first | exact List.Mem.head _ | apply List.Mem.tail | apply List.mem_append_right))) rfl) Wanted.none rfl rfl ?_
            refine T.pv (PV.fieldAddr rfl) Wanted.none rfl rfl ?_
            refine T.pv (PV.load1 rfl (by first | exact .fro (by assumption) | exact .own (by repeat (first | exact List.Mem.head _ | apply List.Mem.tail | apply List.mem_append_right))) rfl) Wanted.none rfl rfl ?_
            refine T.pv (PV.move rfl) Wanted.none rfl rfl ?_
            refine T.pv (PV.add rfl rfl (by omega)) Wanted.none rfl rfl ?_
            refine T.pv (PV.neq rfl rfl) Wanted.none rfl rfl ?_
            refine T.pv (PV.move rfl) Wanted.none rfl rfl ?_
            refine T.setF (d := 58) rfl (by omega) ?_
            refine T.pv (PV.fieldAddr rfl) (Wanted.guard rfl rfl rfl) rfl rfl ?_
            refine T.pv (PV.load1 rfl (by first | exact .fro (by assumption) | exact .own (by repeat (first | exact List.Mem.head _ | apply List.Mem.tail | apply List.mem_append_right))) rfl) (Wanted.guard rfl rfl rfl) rfl rfl ?_
            refine T.pv (PV.fieldAddr rfl) (Wanted.guard rfl rfl rfl) rfl rfl ?_
            refine T.pv (PV.load1 rfl (by first | exact .fro (by assumption) | exact .own (by repeat (first | exact List.Mem.head _ | apply List.Mem.tail | apply List.mem_append_right))) rfl) (Wanted.guard rfl rfl rfl) rfl rfl ?_
            refine T.pv (PV.neq rfl rfl) (Wanted.guard rfl rfl rfl) rfl rfl ?_
            refine T.pv (PV.pickF rfl rfl rfl) Wanted.none rfl rfl ?_
            refine T.opsNil ?_
            refine T.condF rfl (by assumption) ?_
            refine T.skip ?_
            refine T.seq ?_
            refine T.seq ?_
            refine T.region ?_
            refine T.pv (PV.move rfl) Wanted.none rfl rfl ?_
            refine T.pv (PV.move rfl) Wanted.none rfl rfl ?_
            refine T.pv (PV.lenStr rfl) Wanted.none rfl rfl ?_
            refine T.pv (PV.lss rfl rfl) Wanted.none rfl rfl ?_
            refine T.opsNil ?_
            refine T.condT rfl (decide_eq_true (by omega)) ?_
            refine T.seq ?_
            refine T.region ?_
            refine T.pv (PV.move rfl) Wanted.none rfl rfl ?_
            refine T.pv (PV.move rfl) Wanted.none rfl rfl ?_
            refine T.pv (PV.add rfl rfl (by omega)) Wanted.none rfl rfl ?_
            refine T.callV Wanted.none rfl rfl (q3) ?_
            (refine T.alloc Wanted.none rfl ?_; intro b11)
            refine T.storeA Wanted.none rfl rfl (by repeat (first | exact trivial | refine And.intro rfl ?_)) (by exact rfl) (by repeat (first | exact Upd.head | apply Upd.tail | apply Upd.app)) (by repeat (first | exact Splice.nil | apply Splice.cons | apply Splice.skip)) ?_
            refine T.opsNil ?_
            refine T.seq ?_
            refine T.seq ?_
            refine T.region ?_
            refine T.pv (PV.move rfl) Wanted.none rfl rfl ?_
            refine T.pv (PV.move rfl) Wanted.none rfl rfl ?_
            refine T.pv (PV.indexStr rfl rfl (by omega) (by assumption)) Wanted.none rfl rfl ?_
            refine T.pv (PV.eql rfl rfl) Wanted.none rfl rfl ?_
            refine T.opsNil ?_
            refine T.condF rfl (decide_eq_false (by omega)) ?_
            refine T.skip ?_
            refine T.seq ?_
            refine T.region ?_
            refine T.pv (PV.fieldAddr rfl) Wanted.none rfl rfl ?_
            refine T.pv (PV.load1 rfl (by first | exact .fro (by assumption) | exact .own (by repeat (first | exact List.Mem.head _ | apply List.Mem.tail | apply List.mem_append_right))) rfl) Wanted.none rfl rfl ?_
            refine T.pv (PV.fieldAddr rfl) Wanted.none rfl rfl ?_
            refine T.pv (PV.load1 rfl (by first | exact .fro (by assumption) | exact .own (by repeat (first | exact List.Mem.head _ | apply List.Mem.tail | apply List.mem_append_right))) rfl) Wanted.none rfl rfl ?_
            refine T.pv (PV.eql rfl rfl) Wanted.none rfl rfl ?_
            refine T.pv (PV.move rfl) Wanted.none rfl rfl ?_
            refine T.setT (d := 91) rfl (by omega) ?_
            refine T.pv (PV.fieldAddr rfl) (Wanted.guard rfl rfl rfl) rfl rfl ?_
            refine T.pv (PV.load1 rfl (by first | exact .fro (by assumption) | exact .own (by repeat (first | exact List.Mem.head _ | apply List.Mem.tail | apply List.mem_append_right))) rfl) (Wanted.guard rfl rfl rfl) rfl rfl ?_
            refine T.pv (PV.fieldAddr rfl) (Wanted.guard rfl rfl rfl) rfl rfl ?_
            refine T.pv (PV.load1 rfl (by first | exact .fro (by assumption) | exact .own (by repeat (first | exact List.Mem.head _ | apply List.Mem.tail | apply List.mem_append_right))) rfl) (Wanted.guard rfl rfl rfl) rfl rfl ?_
            refine T.pv (PV.eql rfl rfl) (Wanted.guard rfl rfl rfl) rfl rfl ?_
            refine T.pv (PV.move rfl) (Wanted.guard rfl rfl rfl) rfl rfl ?_
            refine T.setT (d := 97) rfl (by omega) ?_
            refine T.pass (Unwanted.guard rfl rfl rfl) rfl rfl ?_
            refine T.pass (Unwanted.guard rfl rfl rfl) rfl rfl ?_
            refine T.pass (Unwanted.guard rfl rfl rfl) rfl rfl ?_
            refine T.pass (Unwanted.guard rfl rfl rfl) rfl rfl ?_
            refine T.pass (Unwanted.guard rfl rfl rfl) rfl rfl ?_
            refine T.pass (Unwanted.guard rfl rfl rfl) rfl rfl ?_
            refine T.pv (PV.pickT rfl rfl rfl) (Wanted.guard rfl rfl rfl) rfl rfl ?_
            refine T.pv (PV.pickT rfl rfl rfl) Wanted.none rfl rfl ?_
            refine T.pv (PV.move rfl) Wanted.none rfl rfl ?_
            refine T.callV (Wanted.guard rfl rfl rfl) rfl rfl (awake_fn H1) ?_
            refine T.pv (PV.pickT rfl rfl rfl) Wanted.none rfl rfl ?_
            refine T.pv (PV.assign rfl) Wanted.none rfl rfl ?_
            refine T.opsNil ?_
            exact T.retF (Lv.fin (RV.tmp rfl rfl) rfl)
          · refine T.seq ?_
            refine T.seq ?_
            refine T.region ?_
            refine T.pv (PV.move rfl) Wanted.none rfl rfl ?_
            refine T.pv (PV.move rfl) Wanted.none rfl rfl ?_
            refine T.pv (PV.lenStr rfl) Wanted.none rfl rfl ?_
            refine T.pv (PV.lss rfl rfl) Wanted.none rfl rfl ?_
            refine T.opsNil ?_
            refine T.condF rfl (decide_eq_false (by omega)) ?_
            refine T.exit rfl ?_
            refine T.seq ?_
            refine T.seq ?_
            refine T.region ?_
            refine T.pv (PV.fieldAddr rfl) Wanted.none rfl rfl ?_
            refine T.pv (PV.load1 rfl (by first | exact .fro (by assumption) | exact .own (by repeat (first | exact List.Mem.head _ | apply List.Mem.tail | apply List.mem_append_right))) rfl) Wanted.none rfl rfl ?_
            refine T.pv (PV.fieldAddr rfl) Wanted.none rfl rfl ?_
            refine T.pv (PV.load1 rfl (by first | exact .fro (by assumption) | exact .own (by repeat (first | exact List.Mem.head _ | apply List.Mem.tail | apply List.mem_append_right))) rfl) Wanted.none rfl rfl ?_
            refine T.pv (PV.move rfl) Wanted.none rfl rfl ?_
            refine T.pv (PV.add rfl rfl (by omega)) Wanted.none rfl rfl ?_
            refine T.pv (PV.neq rfl rfl) Wanted.none rfl rfl ?_
            refine T.pv (PV.move rfl) Wanted.none rfl rfl ?_
            refine T.setF (d := 58) rfl (by omega) ?_
            refine T.pv (PV.fieldAddr rfl) (Wanted.guard rfl rfl rfl) rfl rfl ?_
            refine T.pv (PV.load1 rfl (by first | exact .fro (by assumption) | exact .own (by repeat (first | exact List.Mem.head _ | apply List.Mem.tail | apply List.mem_append_right))) rfl) (Wanted.guard rfl rfl rfl) rfl rfl ?_
            refine T.pv (PV.fieldAddr rfl) (Wanted.guard rfl rfl rfl) rfl rfl ?_
            refine T.pv (PV.load1 rfl (by first | exact .fro (by assumption) | exact .own (by repeat (first | exact List.Mem.head _ | apply List.Mem.tail | apply List.mem_append_right))) rfl) (Wanted.guard rfl rfl rfl) rfl rfl ?_
            refine T.pv (PV.neq rfl rfl) (Wanted.guard rfl rfl rfl) rfl rfl ?_
            refine T.pv (PV.pickF rfl rfl rfl) Wanted.none rfl rfl ?_
            refine T.opsNil ?_
            refine T.condF rfl (by assumption) ?_
            refine T.skip ?_
            refine T.seq ?_
            refine T.seq ?_
            refine T.region ?_
            refine T.pv (PV.move rfl) Wanted.none rfl rfl ?_
            refine T.pv (PV.move rfl) Wanted.none rfl rfl ?_
            refine T.pv (PV.lenStr rfl) Wanted.none rfl rfl ?_
            refine T.pv (PV.lss rfl rfl) Wanted.none rfl rfl ?_
            refine T.opsNil ?_
            refine T.condT rfl (decide_eq_true (by omega)) ?_
            refine T.seq ?_
            refine T.region ?_
            refine T.pv (PV.move rfl) Wanted.none rfl rfl ?_
            refine T.pv (PV.move rfl) Wanted.none rfl rfl ?_
            refine T.pv (PV.add rfl rfl (by omega)) Wanted.none rfl rfl ?_
            refine T.callV Wanted.none rfl rfl (q3) ?_
            (refine T.alloc Wanted.none rfl ?_; intro b11)
            refine T.storeA Wanted.none rfl rfl (by repeat (first | exact trivial | refine And.intro rfl ?_)) (by exact rfl) (by repeat (first | exact Upd.head | apply Upd.tail | apply Upd.app)) (by repeat (first | exact Splice.nil | apply Splice.cons | apply Splice.skip)) ?_
            refine T.opsNil ?_
            refine T.seq ?_
            refine T.seq ?_
            refine T.region ?_
            refine T.pv (PV.move rfl) Wanted.none rfl rfl ?_
            refine T.pv (PV.move rfl) Wanted.none rfl rfl ?_
            refine T.pv (PV.indexStr rfl rfl (by omega) (by assumption)) Wanted.none rfl rfl ?_
            refine T.pv (PV.eql rfl rfl) Wanted.none rfl rfl ?_
            refine T.opsNil ?_
            refine T.condF rfl (decide_eq_false (by omega)) ?_
            refine T.skip ?_
            refine T.seq ?_
            refine T.region ?_
            refine T.pv (PV.fieldAddr rfl) Wanted.none rfl rfl ?_
            refine T.pv (PV.load1 rfl (by first | exact .fro (by assumption) | exact .own (by repeat (first | exact List.Mem.head _ | apply List.Mem.tail | apply List.mem_append_right))) rfl) Wanted.none rfl rfl ?_
            refine T.pv (PV.fieldAddr rfl) Wanted.none rfl rfl ?_
            refine T.pv (PV.load1 rfl (by first | exact .fro (by assumption) | exact .own (by repeat (first | exact List.Mem.head _ | apply List.Mem.tail | apply List.mem_append_right))) rfl) Wanted.none rfl rfl ?_
            refine T.pv (PV.eql rfl rfl) Wanted.none rfl rfl ?_
            refine T.pv (PV.move rfl) Wanted.none rfl rfl ?_
            refine T.setT (d := 91) rfl (by omega) ?_
            refine T.pv (PV.fieldAddr rfl) (Wanted.guard rfl rfl rfl) rfl rfl ?_
            refine T.pv (PV.load1 rfl (by first | exact .fro (by assumption) | exact .own (by repeat (first | exact List.Mem.head _ | apply List.Mem.tail | apply List.mem_append_right))) rfl) (Wanted.guard rfl rfl rfl) rfl rfl ?_
            refine T.pv (PV.fieldAddr rfl) (Wanted.guard rfl rfl rfl) rfl rfl ?_
            refine T.pv (PV.load1 rfl (by first | exact .fro (by assumption) | exact .own (by repeat (first | exact List.Mem.head _ | apply List.Mem.tail | apply List.mem_append_right))) rfl) (Wanted.guard rfl rfl rfl) rfl rfl ?_
            refine T.pv (PV.eql rfl rfl) (Wanted.guard rfl rfl rfl) rfl rfl ?_
            refine T.pv (PV.move rfl) (Wanted.guard rfl rfl rfl) rfl rfl ?_
            refine T.setF (d := 97) rfl (by omega) ?_
            refine T.pv (PV.fieldAddr rfl) (Wanted.guard rfl rfl rfl) rfl rfl ?_
            refine T.pv (PV.load1 rfl (by first | exact .fro (by assumption) | exact .own (by repeat (first | exact List.Mem.head _ | apply List.Mem.tail | apply List.mem_append_right))) rfl) (Wanted.guard rfl rfl rfl) rfl rfl ?_
            refine T.pv (PV.fieldAddr rfl) (Wanted.guard rfl rfl rfl) rfl rfl ?_
            refine T.pv (PV.load1 rfl (by first | exact .fro (by assumption) | exact .own (by repeat (first | exact List.Mem.head _ | apply List.Mem.tail | apply List.mem_append_right))) rfl) (Wanted.guard rfl rfl rfl) rfl rfl ?_
            refine T.pv (PV.add rfl rfl (by omega)) (Wanted.guard rfl rfl rfl) rfl rfl ?_
            refine T.pv (PV.eql rfl rfl) (Wanted.guard rfl rfl rfl) rfl rfl ?_
            refine T.pv (PV.pickF rfl rfl rfl) (Wanted.guard rfl rfl rfl) rfl rfl ?_
            refine T.pv (PV.pickT rfl rfl rfl) Wanted.none rfl rfl ?_
            refine T.pv (PV.move rfl) Wanted.none rfl rfl ?_
            refine T.setT (d := 106) rfl (by omega) ?_
            refine T.callV (Wanted.guard rfl rfl rfl) rfl rfl (awake_fn H1) ?_
            refine T.pv (PV.pickT rfl rfl rfl) Wanted.none rfl rfl ?_
            refine T.pv (PV.assign rfl) Wanted.none rfl rfl ?_
            refine T.opsNil ?_
            exact T.retF (Lv.fin (RV.tmp rfl rfl) rfl)
      · refine T.seq ?_
        refine T.seq ?_
        refine T.region ?_
        refine T.pv (PV.move rfl) Wanted.none rfl rfl ?_
        refine T.pv (PV.move rfl) Wanted.none rfl rfl ?_
        refine T.pv (PV.lenStr rfl) Wanted.none rfl rfl ?_
        refine T.pv (PV.lss rfl rfl) Wanted.none rfl rfl ?_
        refine T.opsNil ?_
        refine T.condF rfl (decide_eq_false (by omega)) ?_
        refine T.exit rfl ?_
        refine T.seq ?_
        refine T.seq ?_
        refine T.region ?_
        refine T.pv (PV.fieldAddr rfl) Wanted.none rfl rfl ?_
        refine T.pv (PV.load1 rfl (by first | exact .fro (by assumption) | exact .own (by repeat (first | exact List.Mem.head _ | apply List.Mem.tail | apply List.mem_append_right))) rfl) Wanted.none rfl rfl ?_
        refine T.pv (PV.fieldAddr rfl) Wanted.none rfl rfl ?_
        refine T.pv (PV.load1 rfl (by first | exact .fro (by assumption) | exact .own (by repeat (first | exact List.Mem.head _ | apply List.Mem.tail | apply List.mem_append_right))) rfl) Wanted.none rfl rfl ?_
        refine T.pv (PV.move rfl) Wanted.none rfl rfl ?_
        refine T.pv (PV.add rfl rfl (by omega)) Wanted.none rfl rfl ?_
        refine T.pv (PV.neq rfl rfl) Wanted.none rfl rfl ?_
        refine T.pv (PV.move rfl) Wanted.none rfl rfl ?_
        refine T.setF (d := 58) rfl (by omega) ?_
        refine T.pv (PV.fieldAddr rfl) (Wanted.guard rfl rfl rfl) rfl rfl ?_
        refine T.pv (PV.load1 rfl (by first | exact .fro (by assumption) | exact .own (by repeat (first | exact List.Mem.head _ | apply List.Mem.tail | apply List.mem_append_right))) rfl) (Wanted.guard rfl rfl rfl) rfl rfl ?_
        refine T.pv (PV.fieldAddr rfl) (Wanted.guard rfl rfl rfl) rfl rfl ?_
        refine T.pv (PV.load1 rfl (by first | exact .fro (by assumption) | exact .own (by repeat (first | exact List.Mem.head _ | apply List.Mem.tail | apply List.mem_append_right))) rfl) (Wanted.guard rfl rfl rfl) rfl rfl ?_
        refine T.pv (PV.neq rfl rfl) (Wanted.guard rfl rfl rfl) rfl rfl ?_
        refine T.pv (PV.pickF rfl rfl rfl) Wanted.none rfl rfl ?_
        refine T.opsNil ?_
        refine T.condF rfl (by assumption) ?_
        refine T.skip ?_
        refine T.seq ?_
        refine T.seq ?_
        refine T.region ?_
        refine T.pv (PV.move rfl) Wanted.none rfl rfl ?_
        refine T.pv (PV.move rfl) Wanted.none rfl rfl ?_
        refine T.pv (PV.lenStr rfl) Wanted.none rfl rfl ?_
        refine T.pv (PV.lss rfl rfl) Wanted.none rfl rfl ?_
        refine T.opsNil ?_
        refine T.condF rfl (decide_eq_false (by omega)) ?_
        refine T.skip ?_
        refine T.seq ?_
        refine T.region ?_
        refine T.callV Wanted.none rfl rfl (awake_fn H1) ?_
        refine T.pv (PV.assign rfl) Wanted.none rfl rfl ?_
        refine T.opsNil ?_
        exact T.retF (Lv.fin (RV.tmp rfl rfl) rfl)
end Go.Proofs.Yteanijikhogijaa
