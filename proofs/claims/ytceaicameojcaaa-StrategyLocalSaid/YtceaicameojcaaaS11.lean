/- made numbers: New, Mod, Next. -/
import Derived.Test.YtceaicameojcaaaS10
namespace Go.Proofs.Ytceaicameojcaaa
open Go.RowKit

theorem PV.nilCheck {P : Program} {e : Env} {l : List (Nat × Obj)} {H : Hp} {dst : Option Tmp} {ty : TypeId} {pos : String} {after : Array Edge} {gd : Option (Nat × Bool)} {x : Operand} {ad : Addr} (hx : evE e x = some (.pointer (some ad))) : PV P e l H ⟨dst, .nilCheck x, ty, pos, after, gd⟩ (.pointer (some ad)) := PV.mk fun X D a w ha hw => by
  simp [execOp, ha.eval hx]
theorem mod_fn (x n : Int) (H : Hp) (hx : -9223372036854775808 ≤ x ∧ x ≤ 9223372036854775807) (hn : 1 ≤ n ∧ n ≤ 1000000) : Fn Try.prog 11 #[.int .i64 x, .int .i64 n] H (fun u _ => u = .int .i64 (x % n)) := by
  refine Fn.of_T (vs := [.int .i64 x, .int .i64 n]) Try.func11 rfl rfl fun w => ?_
  have hb : -n < x.tmod n ∧ x.tmod n < n := by
    have h1 := Int.tmod_lt_of_pos x (by omega : 0 < n)
    have h2 := Int.lt_tmod_of_pos x (by omega : 0 < n)
    exact ⟨h2, h1⟩
  have he : x % n = if x.tmod n < 0 then x.tmod n + n else x.tmod n := by
    have h0 := Int.emod_nonneg x (by omega : n ≠ 0)
    have h1 := Int.emod_lt_of_pos x (by omega : 0 < n)
    have h2 : x % n = (x.tmod n) % n := by
      have h3 : x.tmod n + n * x.tdiv n = x := Int.tmod_add_mul_tdiv x n
      conv => lhs; rw [← h3]
      rw [Int.add_mul_emod_self_left]
    split
    · rw [h2, ← Int.add_emod_right]; exact Int.emod_eq_of_lt (by omega) (by omega)
    · rw [h2]; exact Int.emod_eq_of_lt (by omega) (by omega)
  rw [he]
  refine T.seq ?_
  refine T.region ?_
  refine T.pv (PV.assign rfl) Wanted.none rfl rfl ?_
  refine T.opsNil ?_
  refine T.seq ?_
  refine T.seq ?_
  refine T.region ?_
  refine T.pv (PV.move rfl) Wanted.none rfl rfl ?_
  refine T.pv (PV.lss rfl rfl) Wanted.none rfl rfl ?_
  refine T.opsNil ?_
  refine T.condF rfl (decide_eq_false (by omega)) ?_
  refine T.skip ?_
  refine T.seq ?_
  refine T.region ?_
  refine T.pv (PV.move rfl) Wanted.none rfl rfl ?_
  refine T.pv (PV.move rfl) Wanted.none rfl rfl ?_
  refine T.pv (PV.rem rfl rfl (by omega)) Wanted.none rfl rfl ?_
  refine T.pv (PV.assign rfl) Wanted.none rfl rfl ?_
  refine T.opsNil ?_
  refine T.seq ?_
  refine T.seq ?_
  refine T.region ?_
  refine T.pv (PV.move rfl) Wanted.none rfl rfl ?_
  refine T.pv (PV.lss rfl rfl) Wanted.none rfl rfl ?_
  refine T.opsNil ?_
  split
  · refine T.condT rfl (decide_eq_true (by omega)) ?_
    refine T.region ?_
    refine T.pv (PV.move rfl) Wanted.none rfl rfl ?_
    refine T.pv (PV.move rfl) Wanted.none rfl rfl ?_
    refine T.pv (PV.add rfl rfl (by omega)) Wanted.none rfl rfl ?_
    refine T.pv (PV.assign rfl) Wanted.none rfl rfl ?_
    refine T.opsNil ?_
    refine T.seq ?_
    refine T.region ?_
    refine T.pv (PV.move rfl) Wanted.none rfl rfl ?_
    refine T.pv (PV.assign rfl) Wanted.none rfl rfl ?_
    refine T.opsNil ?_
    exact T.retF (Lv.fin (RV.tmp rfl rfl) rfl)
  · refine T.condF rfl (decide_eq_false (by omega)) ?_
    refine T.skip ?_
    refine T.seq ?_
    refine T.region ?_
    refine T.pv (PV.move rfl) Wanted.none rfl rfl ?_
    refine T.pv (PV.assign rfl) Wanted.none rfl rfl ?_
    refine T.opsNil ?_
    exact T.retF (Lv.fin (RV.tmp rfl rfl) rfl)
/-- a tape: at most 120 numbers that are only read, and a place -/
structure Tp where
  v : Value
  xs : List Int
  at_ : Nat
def Tp.ok (H : Hp) (t : Tp) : Prop := InL H t.v t.xs ∧ t.xs.length ≤ 120 ∧ t.at_ ≤ t.xs.length ∧ ∀ x ∈ t.xs, -9223372036854775808 ≤ x ∧ x ≤ 9223372036854775807
def Tp.blk (b : Nat) (t : Tp) : Nat × Obj := (b, .cells #[t.v, .int .i64 (t.at_ : Int)] 65 (0, 0))
theorem Tp.ok.mono {H H' : Hp} {t : Tp} (h : t.ok H) (hl : H.le H') : t.ok H' := ⟨h.1.mono hl, h.2⟩
theorem SlR.pre1 {H : Hp} {ad : Option Addr} {cap : Nat} {l : List Int} (h : SlR H 1 (.slice ad l.length cap) l.length (intsV l)) {k : Nat} (hk : k ≤ l.length) : InL H (.slice ad k cap) (l.take k) := by
  have := h.pre hk
  have e : (l.take k).length = k := by rw [List.length_take]; omega
  have e2 : (intsV l).take (k * 1) = intsV (l.take k) := by
    have e3 : intsV l = intsV (l.take k) ++ intsV (l.drop k) := by unfold intsV; rw [← List.flatMap_append, List.take_append_drop]
    rw [e3, List.take_left' (by rw [ints_len, e, Nat.mul_one])]
  unfold InL
  rw [e, ← e2]; exact this
theorem new_fn (l : List Int) (v : Value) (H : Hp) (hv : InL H v l) (hl : l.length ≤ 9223372036854775807) (hr : ∀ x ∈ l, -9223372036854775808 ≤ x ∧ x ≤ 9223372036854775807) : FnW Try.prog 21 #[v] H [] (fun u H' l' => H = H' ∧ ∃ b t, u = .pointer (some ⟨b, 0, none⟩) ∧ t.ok H ∧ l' = [Tp.blk b t]) := by
  obtain ⟨ad, cap, rfl⟩ := hv.len
  have hcap := hv.cap
  refine FnW.of_T (vs := [.slice ad l.length cap]) Try.func21 rfl rfl fun w => ?_
  by_cases h : 120 < l.length
  · refine T.seq ?_
    refine T.region ?_
    refine T.pv (PV.assign rfl) Wanted.none rfl rfl ?_
    refine T.opsNil ?_
    refine T.seq ?_
    refine T.seq ?_
    refine T.region ?_
    refine T.pv (PV.move rfl) Wanted.none rfl rfl ?_
    refine T.pv (PV.lenSl rfl) Wanted.none rfl rfl ?_
    refine T.pv (PV.gtr rfl rfl) Wanted.none rfl rfl ?_
    refine T.opsNil ?_
    refine T.condT rfl (decide_eq_true (by omega)) ?_
    refine T.region ?_
    refine T.pv (PV.move rfl) Wanted.none rfl rfl ?_
    refine T.pv (PV.sliceH rfl rfl (by omega)) Wanted.none rfl rfl ?_
    refine T.pv (PV.assign rfl) Wanted.none rfl rfl ?_
    refine T.opsNil ?_
    refine T.seq ?_
    refine T.region ?_
    refine T.pv (PV.move rfl) Wanted.none rfl rfl ?_
    refine T.pv (PV.build rfl (by repeat (first | exact FillR.nil | (apply FillR.cons rfl; (first | exact CellsR.one rfl | exact CellsR.agg); rfl; repeat (first | exact Splice.nil | apply Splice.cons | apply Splice.skip))))) Wanted.none rfl rfl ?_
    (refine T.box Wanted.none rfl rfl (by first | exact CellsR.one rfl | exact CellsR.agg) ?_; intro b10)
    refine T.pv (PV.assign rfl) Wanted.none rfl rfl ?_
    refine T.opsNil ?_
    refine T.retW (Lv.finW _ (List.Sublist.refl _) (RV.tmp rfl rfl) ⟨rfl, _, ⟨.slice ad 120 cap, l.take 120, 0⟩, rfl, ⟨hv.pre1 (by omega), by rw [List.length_take]; omega, by simp, fun x hx => hr x (List.mem_of_mem_take hx)⟩, rfl⟩)
  · refine T.seq ?_
    refine T.region ?_
    refine T.pv (PV.assign rfl) Wanted.none rfl rfl ?_
    refine T.opsNil ?_
    refine T.seq ?_
    refine T.seq ?_
    refine T.region ?_
    refine T.pv (PV.move rfl) Wanted.none rfl rfl ?_
    refine T.pv (PV.lenSl rfl) Wanted.none rfl rfl ?_
    refine T.pv (PV.gtr rfl rfl) Wanted.none rfl rfl ?_
    refine T.opsNil ?_
    refine T.condF rfl (decide_eq_false (by omega)) ?_
    refine T.skip ?_
    refine T.seq ?_
    refine T.region ?_
    refine T.pv (PV.move rfl) Wanted.none rfl rfl ?_
    refine T.pv (PV.build rfl (by repeat (first | exact FillR.nil | (apply FillR.cons rfl; (first | exact CellsR.one rfl | exact CellsR.agg); rfl; repeat (first | exact Splice.nil | apply Splice.cons | apply Splice.skip))))) Wanted.none rfl rfl ?_
    (refine T.box Wanted.none rfl rfl (by first | exact CellsR.one rfl | exact CellsR.agg) ?_; intro b10)
    refine T.pv (PV.assign rfl) Wanted.none rfl rfl ?_
    refine T.opsNil ?_
    refine T.retW (Lv.finW _ (List.Sublist.refl _) (RV.tmp rfl rfl) ⟨rfl, _, ⟨.slice ad l.length cap, l, 0⟩, rfl, ⟨hv, by dsimp only; omega, by simp, hr⟩, rfl⟩)
theorem next_fn (b : Nat) (t : Tp) (n : Int) (H : Hp) (ht : t.ok H) (hn : 1 ≤ n ∧ n ≤ 1000000) : FnW Try.prog 22 #[.pointer (some ⟨b, 0, none⟩), .int .i64 n] H [Tp.blk b t] (fun u H' l' => H = H' ∧ ∃ x t', u = .int .i64 x ∧ (0 ≤ x ∧ x < n) ∧ t'.ok H ∧ l' = [Tp.blk b t']) := by
  obtain ⟨v, xs, i⟩ := t
  obtain ⟨h1, h2, h3, h4⟩ := ht
  dsimp only at h1 h2 h3 h4
  obtain ⟨ad, cap, rfl⟩ := h1.len
  refine FnW.of_T (vs := [.pointer (some ⟨b, 0, none⟩), .int .i64 n]) Try.func22 rfl rfl fun w => ?_
  unfold Tp.blk
  dsimp only
  by_cases hi : i < xs.length
  · obtain ⟨x, hx⟩ : ∃ x, xs[i]? = some x := ⟨_, List.getElem?_eq_getElem hi⟩
    obtain ⟨bs, off, rfl, hsub0⟩ := h1.intAt hx
    have hsub : SubC H bs (off + ((i : Int) + 1 - 1).toNat * 1) [.int .i64 x] := by rwa [show ((i : Int) + 1 - 1).toNat = i by omega]
    clear hsub0
    have hm := mod_fn x n H (h4 x (List.mem_of_getElem? hx)) hn
    refine T.seq ?_
    refine T.region ?_
    refine T.pv (PV.assign rfl) Wanted.none rfl rfl ?_
    refine T.opsNil ?_
    refine T.seq ?_
    refine T.seq ?_
    refine T.regionQ (by kernel_rfl) ?_
    refine TQ.pv (PV.move rfl) Wanted.none rfl rfl ?_
    refine TQ.pv (PV.nilCheck rfl) Wanted.none rfl rfl ?_
    refine TQ.pv (PV.fieldAddr rfl) Wanted.none rfl rfl ?_
    refine TQ.pv (PV.load1 rfl (by first | exact .fro (by assumption) | exact .own (by repeat (first | exact List.Mem.head _ | apply List.Mem.tail | apply List.mem_append_right))) rfl) Wanted.none rfl rfl ?_
    refine TQ.pv (PV.move rfl) Wanted.none rfl rfl ?_
    refine TQ.pv (PV.nilCheck rfl) Wanted.none rfl rfl ?_
    refine TQ.pv (PV.fieldAddr rfl) Wanted.none rfl rfl ?_
    refine TQ.pv (PV.load1 rfl (by first | exact .fro (by assumption) | exact .own (by repeat (first | exact List.Mem.head _ | apply List.Mem.tail | apply List.mem_append_right))) rfl) Wanted.none rfl rfl ?_
    refine TQ.pv (PV.lenSl rfl) Wanted.none rfl rfl ?_
    refine TQ.pv (PV.geq rfl rfl) Wanted.none rfl rfl ?_
    refine TQ.nil ?_
    refine T.condF rfl (decide_eq_false (by omega)) ?_
    refine T.skip ?_
    refine T.seq ?_
    refine T.region ?_
    refine T.pv (PV.move rfl) Wanted.none rfl rfl ?_
    refine T.pv (PV.nilCheck rfl) Wanted.none rfl rfl ?_
    refine T.pv (PV.fieldAddr rfl) Wanted.none rfl rfl ?_
    refine T.pv (PV.load1 rfl (by first | exact .fro (by assumption) | exact .own (by repeat (first | exact List.Mem.head _ | apply List.Mem.tail | apply List.mem_append_right))) rfl) Wanted.none rfl rfl ?_
    refine T.pv (PV.add rfl rfl (by omega)) Wanted.none rfl rfl ?_
    refine T.pv (PV.nilCheck rfl) Wanted.none rfl rfl ?_
    refine T.pv (PV.fieldAddr rfl) Wanted.none rfl rfl ?_
    refine T.store1 Wanted.none rfl rfl rfl (by repeat (first | exact Upd.head | apply Upd.tail | apply Upd.app)) (by repeat (first | exact Splice.nil | apply Splice.cons | apply Splice.skip)) ?_
    refine T.opsNil ?_
    refine T.seq ?_
    refine T.regionQ (by kernel_rfl) ?_
    refine TQ.pv (PV.move rfl) Wanted.none rfl rfl ?_
    refine TQ.pv (PV.nilCheck rfl) Wanted.none rfl rfl ?_
    refine TQ.pv (PV.fieldAddr rfl) Wanted.none rfl rfl ?_
    refine TQ.pv (PV.load1 rfl (by first | exact .fro (by assumption) | exact .own (by repeat (first | exact List.Mem.head _ | apply List.Mem.tail | apply List.mem_append_right))) rfl) Wanted.none rfl rfl ?_
    refine TQ.pv (PV.move rfl) Wanted.none rfl rfl ?_
    refine TQ.pv (PV.nilCheck rfl) Wanted.none rfl rfl ?_
    refine TQ.pv (PV.fieldAddr rfl) Wanted.none rfl rfl ?_
    refine TQ.pv (PV.load1 rfl (by first | exact .fro (by assumption) | exact .own (by repeat (first | exact List.Mem.head _ | apply List.Mem.tail | apply List.mem_append_right))) rfl) Wanted.none rfl rfl ?_
    refine TQ.pv (PV.sub rfl rfl (by omega)) Wanted.none rfl rfl ?_
    refine TQ.pv (PV.indexAddr rfl rfl (by omega)) Wanted.none rfl rfl ?_
    refine TQ.pv (PV.loadSub0 rfl (by assumption)) Wanted.none rfl rfl ?_
    refine TQ.pv (PV.move rfl) Wanted.none rfl rfl ?_
    refine TQ.callV Wanted.none rfl rfl (hm) ?_
    refine TQ.pv (PV.assign rfl) Wanted.none rfl rfl ?_
    refine TQ.nil ?_
    refine T.retW (Lv.finW _ (List.Sublist.refl _) (RV.tmp rfl rfl) ⟨rfl, x % n, ⟨.slice (some ⟨bs, off, none⟩) xs.length cap, xs, i + 1⟩, rfl, ⟨Int.emod_nonneg _ (by omega), Int.emod_lt_of_pos _ (by omega)⟩, ⟨h1, h2, by dsimp only; omega, h4⟩, ?_⟩)
    rfl
  · refine T.seq ?_
    refine T.region ?_
    refine T.pv (PV.assign rfl) Wanted.none rfl rfl ?_
    refine T.opsNil ?_
    refine T.seq ?_
    refine T.seq ?_
    refine T.regionQ (by kernel_rfl) ?_
    refine TQ.pv (PV.move rfl) Wanted.none rfl rfl ?_
    refine TQ.pv (PV.nilCheck rfl) Wanted.none rfl rfl ?_
    refine TQ.pv (PV.fieldAddr rfl) Wanted.none rfl rfl ?_
    refine TQ.pv (PV.load1 rfl (by first | exact .fro (by assumption) | exact .own (by repeat (first | exact List.Mem.head _ | apply List.Mem.tail | apply List.mem_append_right))) rfl) Wanted.none rfl rfl ?_
    refine TQ.pv (PV.move rfl) Wanted.none rfl rfl ?_
    refine TQ.pv (PV.nilCheck rfl) Wanted.none rfl rfl ?_
    refine TQ.pv (PV.fieldAddr rfl) Wanted.none rfl rfl ?_
    refine TQ.pv (PV.load1 rfl (by first | exact .fro (by assumption) | exact .own (by repeat (first | exact List.Mem.head _ | apply List.Mem.tail | apply List.mem_append_right))) rfl) Wanted.none rfl rfl ?_
    refine TQ.pv (PV.lenSl rfl) Wanted.none rfl rfl ?_
    refine TQ.pv (PV.geq rfl rfl) Wanted.none rfl rfl ?_
    refine TQ.nil ?_
    refine T.condT rfl (decide_eq_true (by omega)) ?_
    refine T.seq ?_
    refine T.region ?_
    refine T.pv (PV.assign rfl) Wanted.none rfl rfl ?_
    refine T.opsNil ?_
    refine T.retW (Lv.finW _ (List.Sublist.refl _) (RV.tmp rfl rfl) ⟨rfl, 0, ⟨.slice ad xs.length cap, xs, i⟩, rfl, ⟨by omega, by omega⟩, ⟨h1, h2, h3, h4⟩, rfl⟩)
end Go.Proofs.Ytceaicameojcaaa
