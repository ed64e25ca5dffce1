/- strategy: a set of spans, as a map. -/
import Derived.Test.YtceaicameojcaaaS17
import Derived.MapKept
import Derived.WideKeyRuns
namespace Go.Proofs.Ytceaicameojcaaa
open Go.RowKit

section
variable {P : Program} {w : World}
theorem run_equal_flat {t : TypeId} {ks : List Leaf} [ht : FlatEq P t ks] {xs ys : List Value} (h1 : fitsB ks xs = true) (h2 : fitsB ks ys = true) : (Op.equal t (.agg xs.toArray) (.agg ys.toArray)).run P w = .ok (eqCells xs ys) w := by
  have := run_eqFields (P := P) (d := 9998) (w := w) ht.fs (xs := xs) (ys := ys) (by simpa using h1) (by simpa using h2)
  simp only [List.drop_zero] at this
  show (Op.equalIn 10000 t (.agg xs.toArray) (.agg ys.toArray)).run P w = _
  rw [run_equalIn_struct w 9999 t xs.toArray ys.toArray ht.u ht.held, this]
theorem run_checkFields {em : Bool} {n : Nat} {i : Nat} {fs : List Field} {ks : List Leaf} {xs : List Value} (hf : FlatF P i fs ks) (h1 : fitsB ks (xs.drop i) = true) :
    (forIn (m := Sem) fs PUnit.unit fun f _ =>
      if f.name ≠ "_" then do
        let a ← part f.type xs.toArray f.offset
        Instr.checkKey em (n + 1) f.type a
        pure (ForInStep.yield PUnit.unit)
      else pure (ForInStep.yield PUnit.unit)).run P w = .ok PUnit.unit w := by
  induction hf with
  | nil => simp
  | @cons i f fs k ks ho hn ha hk h ih =>
    cases hxd : xs.drop i with
    | nil => rw [hxd] at h1; cases k <;> simp [fitsB] at h1
    | cons a xs' =>
      have hxa : xs[i]? = some a := by have := congrArg (fun l => l[0]?) hxd; simpa using this
      have hxs : xs.drop (i + 1) = xs' := by rw [← List.drop_drop, hxd]; rfl
      have h2 : fitsB ks (xs.drop (i + 1)) = true := by
        rw [hxs]; rw [hxd] at h1
        cases k <;> cases a <;> simp [fitsB] at h1 <;> first | exact h1 | exact h1.2
      have hp : (part f.type xs.toArray f.offset).run P w = .ok a w := by rw [ho]; exact run_part_leaf ha hxa
      have hc : (Instr.checkKey em (n + 1) f.type a).run P w = .ok () w := by
        unfold Instr.checkKey
        simp only [Sem.run_bind, run_underlying hk, Result.andThen_ok]
        cases k <;> simp [Leaf.ty]
      simp only [List.forIn_cons, Sem.run_bind, hn, ne_eq, not_false_eq_true, if_true, Result.andThen_ok, hp, hc, Sem.run_pure]
      exact ih h2
theorem run_checkFlat {em : Bool} {n : Nat} {t : TypeId} {ks : List Leaf} [ht : FlatEq P t ks] {xs : List Value} (h1 : fitsB ks xs = true) : (Instr.checkKey em (n + 2) t (.agg xs.toArray)).run P w = .ok () w := by
  rw [show n + 2 = (n + 1) + 1 from rfl, Instr.checkKey]
  simp only [Sem.run_bind, run_underlying ht.u, Result.andThen_ok]
  rw [← Array.forIn_toList]
  have := run_checkFields (P := P) (w := w) (em := em) (n := n) ht.fs (xs := xs) (by simpa using h1)
  rw [this]; simp
/-- the keys of a map whose values are all true -/
def SetS (es : List MapEntry) (ks : List Sp) : Prop := es.map (fun e => (e.key, e.val)) = ks.map (fun s => (spV s, Value.bool true))
theorem SetS.at {es : List MapEntry} {ks : List Sp} (h : SetS es ks) {j : Nat} {s : Sp} (hs : ks[j]? = some s) : ∃ e, es[j]? = some e ∧ e.key = spV s ∧ e.val = .bool true := by
  have := congrArg (fun l => l[j]?) h
  simp only [List.getElem?_map, hs, Option.map_some] at this
  cases he : es[j]? with
  | none => rw [he] at this; cases this
  | some e =>
    rw [he] at this
    simp only [Option.map_some, Option.some.injEq, Prod.mk.injEq] at this
    exact ⟨e, rfl, this.1, this.2⟩
theorem fits_sp (s : Sp) : fitsB [.int .i64, .int .i64] (encS s) = true := by simp [encS, fitsB]
theorem run_findSp [ht : FlatEq P 40 [.int .i64, .int .i64]] (s : Sp) : ∀ (es : List MapEntry) (ks : List Sp) (i : Nat), SetS es ks →
    (s ∉ ks ∧ (Instr.findAsking 40 (spV s) es i).run P w = .ok none w) ∨ ∃ j, ks[j]? = some s ∧ (Instr.findAsking 40 (spV s) es i).run P w = .ok (some (i + j, .bool true)) w
  | [], ks, i, h => by
    have : ks = [] := by cases ks with
      | nil => rfl
      | cons a l => simp [SetS] at h
    subst this
    exact .inl ⟨by simp, by simp [Instr.findAsking]⟩
  | e :: es, [], i, h => by simp [SetS] at h
  | e :: es, k :: ks, i, h => by
    simp only [SetS, List.map_cons, List.cons.injEq, Prod.mk.injEq] at h
    obtain ⟨⟨h1, h2⟩, h3⟩ := h
    have hq := run_equal_flat (P := P) (w := w) (t := 40) (fits_sp s) (fits_sp k)
    rw [show eqCells (encS s) (encS k) = decide (s = k) from eqS_eq s k] at hq
    have hq2 : (Op.equal 40 (spV s) (spV k)).run P w = .ok (decide (s = k)) w := hq
    by_cases he : s = k
    · rw [decide_eq_true he] at hq2
      refine .inr ⟨0, by rw [he]; rfl, ?_⟩
      simp [Instr.findAsking, h1, hq2, h2]
    · rw [decide_eq_false he] at hq2
      rcases run_findSp s es ks (i + 1) h3 with ⟨g1, g2⟩ | ⟨j, g1, g2⟩
      · refine .inl ⟨by simp [he, g1], ?_⟩
        simp [Instr.findAsking, h1, hq2, g2]
      · refine .inr ⟨j + 1, by simpa using g1, ?_⟩
        simp [Instr.findAsking, h1, hq2, g2, Nat.add_assoc, Nat.add_comm 1 j]
end
section
variable {P : Program} {X : Cx} {e : Env} {l : List (Nat × Obj)} {H : Hp} {D : List Deferred} {k : List It} {all : Array Oper} {rest : List Oper} {dst : Option Tmp} {ty : TypeId} {pos : String} {after : Array Edge} {gd : Option (Nat × Bool)}
theorem T.makeMap {t : TypeId} {d : Nat} (hw : Wanted e all ⟨some d, .makeMap t none, ty, pos, after, gd⟩) (hN : Nat.blt d X.N = true)
    (h : ∀ b, T P X ((d, .map (some b)) :: e) ((b, .map #[] 0) :: l) H D (.ops all rest :: k)) :
    T P X e l H D (.ops all (⟨some d, .makeMap t none, ty, pos, after, gd⟩ :: rest) :: k) :=
  T.step hw rfl hN fun a w ha hw' => by
    refine ⟨_, _, _, w.alloc (.map #[] 0), ?_, hw'.alloc _, h w.heap.size⟩
    simp [execOp, Instr.makeMap]
theorem T.mapSet [ht : FlatEq P 40 [.int .i64, .int .i64]] {t vt : TypeId} (hm : P.underlying t = some (.map 40 vt)) {x y z : Operand} {b : Nat} {es : Array MapEntry} {clock : Nat} {ks : List Sp} {s : Sp}
    (hw : Wanted e all ⟨none, .mapUpdate t x y z, ty, pos, after, gd⟩) (hx : evE e x = some (.map (some b))) (hy : evE e y = some (spV s)) (hz : evE e z = some (.bool true)) (hs : SetS es.toList ks) (al : List (Nat × Obj)) {bl : List (Nat × Obj)}
    (hl : l = al ++ (b, .map es clock) :: bl)
    (h : ∀ es' clock', SetS es'.toList (if s ∈ ks then ks else ks ++ [s]) → T P X e (al ++ (b, .map es' clock') :: bl) H D (.ops all rest :: k)) :
    T P X e l H D (.ops all (⟨none, .mapUpdate t x y z, ty, pos, after, gd⟩ :: rest) :: k) :=
  T.step0 hw rfl fun a w ha hw' => by
    subst hl
    have hb : w.heap[b]? = some (.map es clock) := (hw'.own (b, .map es clock) (by simp)).1
    have hup : ∀ (al : List (Nat × Obj)) o', Upd (al ++ (b, .map es clock) :: bl) b (.map es clock) o' (al ++ (b, o') :: bl) := by
      intro al o'
      induction al with
      | nil => exact .head
      | cons p al ih => exact .tail ih
    have hc := run_checkFlat (P := P) (w := w) (em := false) (n := 9998) (t := 40) (fits_sp s)
    have hc2 : (Instr.checkKey false 10000 40 (spV s)).run P w = .ok () w := hc
    have hf := run_findKey_eq (P := P) w (k := 40) (by rw [ht.u]) (spV s) es.toList
    have hst : (Instr.keyThatStays (spV s) (spV s)).run P w = .ok (spV s) w := by
      have : Instr.sameBits 10000 (spV s) (spV s) = true := by simp [spV, Instr.sameBits]
      simp [Instr.keyThatStays, this]
    rcases run_findSp (P := P) (w := w) s es.toList ks 0 hs with ⟨g1, g2⟩ | ⟨j, g1, g2⟩
    · rw [g2] at hf
      rw [if_neg g1] at h
      refine ⟨_, H, _, ?_, hw'.upd (hup al (.map (es.push { key := spV s, val := .bool true, born := clock }) (clock + 1))), h _ _ ?_⟩
      · simp [execOp, ha.eval hx, ha.eval hy, ha.eval hz, Instr.mapUpdate, run_underlying hm, MapKept.run_getObj_map hb, hc2, hf, MapKept.run_setObj_map _ hb, Result.andThen, World.putObj]
      · unfold SetS at *
        rw [Array.toList_push, List.map_append, hs, List.map_append]; rfl
    · rw [g2, Nat.zero_add] at hf
      rw [if_pos (List.mem_of_getElem? g1)] at h
      obtain ⟨e0, q1, q2, q3⟩ := hs.at g1
      have q4 : es[j]? = some e0 := by rw [← Array.getElem?_toList]; exact q1
      refine ⟨_, H, _, ?_, hw'.upd (hup al (.map (es.modify j fun e => { e with key := spV s, val := .bool true }) clock)), h _ _ ?_⟩
      · simp [execOp, ha.eval hx, ha.eval hy, ha.eval hz, Instr.mapUpdate, run_underlying hm, MapKept.run_getObj_map hb, hc2, hf, q4, q2, hst, MapKept.run_setObj_map _ hb, Result.andThen, World.putObj]
      · unfold SetS at *
        rw [← hs]
        apply List.ext_getElem?
        intro i
        simp only [List.getElem?_map, Array.getElem?_toList, Array.getElem?_modify]
        by_cases hij : j = i
        · subst hij
          rw [if_pos rfl, q4]; simp [q2, q3]
        · rw [if_neg hij]
theorem PV.mapHas [ht : FlatEq P 40 [.int .i64, .int .i64]] {t vt : TypeId} (hm : P.underlying t = some (.map 40 vt)) (hz : ∀ w, (zeroValue vt).run P w = .ok (.bool false) w) {x y : Operand} {b : Nat} {es : Array MapEntry} {clock : Nat} {ks : List Sp} {s : Sp}
    (hx : evE e x = some (.map (some b))) (hy : evE e y = some (spV s)) (hs : SetS es.toList ks) (hl : (b, Obj.map es clock) ∈ l) :
    PV P e l H ⟨dst, .lookup t x y false, ty, pos, after, gd⟩ (.bool (decide (s ∈ ks))) := PV.mk fun X D a w ha hw' => by
  have hb : w.heap[b]? = some (.map es clock) := (hw'.own (b, .map es clock) hl).1
  have hc : ∀ em, (Instr.checkKey em 10000 40 (spV s)).run P w = .ok () w := fun em => run_checkFlat (P := P) (w := w) (em := em) (n := 9998) (t := 40) (fits_sp s)
  have hf := run_findKey_eq (P := P) w (k := 40) (by rw [ht.u]) (spV s) es.toList
  rcases run_findSp (P := P) (w := w) s es.toList ks 0 hs with ⟨g1, g2⟩ | ⟨j, g1, g2⟩
  · rw [g2] at hf
    rw [decide_eq_false g1]
    simp [execOp, ha.eval hx, ha.eval hy, Instr.lookup, run_underlying hm, MapKept.run_getObj_map hb, hc, hf, hz, Result.andThen]
  · rw [g2, Nat.zero_add] at hf
    rw [decide_eq_true (List.mem_of_getElem? g1)]
    simp [execOp, ha.eval hx, ha.eval hy, Instr.lookup, run_underlying hm, MapKept.run_getObj_map hb, hc, hf, Result.andThen]
end
end Go.Proofs.Ytceaicameojcaaa
