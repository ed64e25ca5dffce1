/- Own layer: maps whose keys stand for something: sets, and rounds over a map in whatever order.
   Own layer: slices.SortFunc over a slice of the walk's own, by the library's proved contract.
   The shelf's contracts, laid at this program (written by the kit's command).
   comparing spans: the three functions that do; Compact of spans. -/
import Derived.MapKept
import Derived.Maps.RangeRun
import Derived.WideKeyRuns
import Derived.Shelf.SlSortCmp.NoneTotal
import Derived.Test.YtbcadnjfegiakaaGreatDoorProg
import Derived.Test.YtbcadnjfegiakaaGreatDoorG4
namespace Go.Proofs.YtbcadnjfegiakaaGreatDoor
open Go.RowKit

/-- What is asked of the keys of a map: they are compared alike in every world that holds H. -/
structure KeyEq (P : Program) (t : TypeId) {α : Type} [DecidableEq α] (enc : α → Value) (H : Hp) : Prop where
  wide : (match P.underlying t with | some (.array _ _) | some (.struct _) => true | _ => false) = true
  eq : ∀ w, Hin H w → ∀ a b, (Op.equal t (enc a) (enc b)).run P w = .ok (decide (a = b)) w
  chk : ∀ w em a, (Instr.checkKey em 10000 t (enc a)).run P w = .ok () w
  bits : ∀ a, Instr.sameBits 10000 (enc a) (enc a) = true
theorem KeyEq.mono {P : Program} {t : TypeId} {α : Type} [DecidableEq α] {enc : α → Value} {H H' : Hp} (h : KeyEq P t enc H) (hl : H.le H') : KeyEq P t enc H' :=
  ⟨h.wide, fun w hw => h.eq w fun b o hb => hw b o (hl b o hb), h.chk, h.bits⟩
abbrev Kvs (α : Type) := List (α × Value)
def encKv {α : Type} (enc : α → Value) (p : α × Value) : Value × Value := (enc p.1, p.2)
structure MapB {α : Type} (enc : α → Value) (es : Array MapEntry) (clock : Nat) (ks : Kvs α) : Prop where
  kv : es.toList.map (fun e => (e.key, e.val)) = ks.map (encKv enc)
  lt : ∀ x ∈ es.toList, x.born < clock
  nd : (es.toList.map (·.born)).Nodup
  kd : (ks.map (·.1)).Nodup
theorem MapB.empty {α : Type} (enc : α → Value) (clock : Nat) : MapB enc #[] clock [] := ⟨rfl, by simp, by simp, by simp⟩
theorem nodup_at {α : Type} {ks : Kvs α} (hn : (ks.map (·.1)).Nodup) {i j : Nat} {p q : α × Value} (hi : ks[i]? = some p) (hj : ks[j]? = some q) (h : p.1 = q.1) : i = j := by
  have h1 : (ks.map (·.1))[i]? = some p.1 := by simp [hi]
  have h2 : (ks.map (·.1))[j]? = some p.1 := by simp [hj, h]
  have hi' := (List.getElem?_eq_some_iff.1 h1).1
  exact (List.getElem?_inj hi' hn).1 (h1.trans h2.symm)
section
variable {α : Type} [DecidableEq α]
def lookB : Kvs α → α → Option Value
  | [], _ => none
  | p :: ks, a => if p.1 = a then some p.2 else lookB ks a
def putB (ks : Kvs α) (a : α) (v : Value) : Kvs α := if a ∈ ks.map (·.1) then ks.map fun p => if p.1 = a then (a, v) else p else ks ++ [(a, v)]
theorem lookB_none {ks : Kvs α} {a : α} : lookB ks a = none ↔ a ∉ ks.map (·.1) := by
  induction ks with
  | nil => simp [lookB]
  | cons p ks ih =>
    unfold lookB
    by_cases h : p.1 = a
    · simp [h]
    · rw [if_neg h, ih]; simp [Ne.symm h]
theorem lookB_some {ks : Kvs α} {a : α} {v : Value} (h : lookB ks a = some v) : (a, v) ∈ ks := by
  induction ks with
  | nil => cases h
  | cons p ks ih =>
    unfold lookB at h
    by_cases hp : p.1 = a
    · rw [if_pos hp] at h
      obtain rfl := Option.some.inj h
      subst hp
      exact List.mem_cons_self
    · rw [if_neg hp] at h
      exact List.mem_cons_of_mem _ (ih h)
theorem run_findB {P : Program} {t : TypeId} {enc : α → Value} {H : Hp} (hk : KeyEq P t enc H) {w : World} (hw : Hin H w) (a : α) : ∀ (es : List MapEntry) (ks : Kvs α) (i : Nat), es.map (fun e => (e.key, e.val)) = ks.map (encKv enc) →
    (lookB ks a = none ∧ (Instr.findAsking t (enc a) es i).run P w = .ok none w) ∨ ∃ j v, ks[j]? = some (a, v) ∧ lookB ks a = some v ∧ (Instr.findAsking t (enc a) es i).run P w = .ok (some (i + j, v)) w
  | [], ks, i, h => by
    have : ks = [] := by cases ks with
      | nil => rfl
      | cons a l => simp at h
    subst this
    exact .inl ⟨rfl, by simp [Instr.findAsking]⟩
  | e :: es, [], i, h => by simp at h
  | e :: es, k :: ks, i, h => by
    simp only [List.map_cons, List.cons.injEq, encKv, Prod.mk.injEq] at h
    obtain ⟨⟨h1, h2⟩, h3⟩ := h
    have hq := hk.eq w hw a k.1
    by_cases he : a = k.1
    · rw [decide_eq_true he] at hq
      refine .inr ⟨0, k.2, by rw [he]; rfl, by unfold lookB; rw [if_pos he.symm], ?_⟩
      simp [Instr.findAsking, h1, hq, h2]
    · rw [decide_eq_false he] at hq
      have hl : lookB (k :: ks) a = lookB ks a := by
        conv => lhs; unfold lookB
        rw [if_neg (Ne.symm he)]
      rw [hl]
      rcases run_findB hk hw a es ks (i + 1) h3 with ⟨g1, g2⟩ | ⟨j, v, g0, g1, g2⟩
      · refine .inl ⟨g1, ?_⟩
        simp [Instr.findAsking, h1, hq, g2]
      · refine .inr ⟨j + 1, v, by simpa using g0, g1, ?_⟩
        simp [Instr.findAsking, h1, hq, g2, Nat.add_assoc, Nat.add_comm 1 j]
theorem MapB.put {enc : α → Value} {es : Array MapEntry} {clock : Nat} {ks : Kvs α} (h : MapB enc es clock ks) {a : α} {v : Value} :
    (a ∉ ks.map (·.1) → MapB enc (es.push { key := enc a, val := v, born := clock }) (clock + 1) (putB ks a v)) ∧
    ∀ j u, ks[j]? = some (a, u) → MapB enc (es.modify j fun e => { e with key := enc a, val := v }) clock (putB ks a v) := by
  refine ⟨fun hn => ?_, fun j u hj => ?_⟩
  · have e : putB ks a v = ks ++ [(a, v)] := by unfold putB; rw [if_neg hn]
    rw [e]
    refine ⟨?_, ?_, ?_, ?_⟩
    · rw [Array.toList_push, List.map_append, h.kv, List.map_append]; rfl
    · intro x hx
      rw [Array.toList_push] at hx
      rcases List.mem_append.1 hx with hx | hx
      · have := h.lt x hx; omega
      · obtain rfl := List.mem_singleton.1 hx
        exact Nat.lt_succ_self _
    · rw [Array.toList_push, List.map_append, List.nodup_append]
      refine ⟨h.nd, by simp, ?_⟩
      intro x hx y hy
      obtain ⟨z, hz, rfl⟩ := List.mem_map.1 hx
      have := h.lt z hz
      simp only [List.map_cons, List.map_nil, List.mem_singleton] at hy
      omega
    · rw [List.map_append, List.nodup_append]
      refine ⟨h.kd, by simp, ?_⟩
      intro x hx y hy
      simp only [List.map_cons, List.map_nil, List.mem_singleton] at hy
      subst hy
      exact fun e => hn (e ▸ hx)
  · have hm : a ∈ ks.map (·.1) := List.mem_map.2 ⟨_, List.mem_of_getElem? hj, rfl⟩
    have e : putB ks a v = ks.map fun p => if p.1 = a then (a, v) else p := by unfold putB; rw [if_pos hm]
    rw [e]
    have eb : (es.modify j fun e => { e with key := enc a, val := v }).toList.map (·.born) = es.toList.map (·.born) := by
      apply List.ext_getElem?
      intro i
      simp only [List.getElem?_map, Array.getElem?_toList, Array.getElem?_modify]
      by_cases hij : j = i
      · subst hij; rw [if_pos rfl]; cases es[j]? <;> rfl
      · rw [if_neg hij]
    refine ⟨?_, ?_, ?_, ?_⟩
    · apply List.ext_getElem?
      intro i
      have hkv := congrArg (fun l => l[i]?) h.kv
      simp only [List.getElem?_map, Array.getElem?_toList, Array.getElem?_modify] at hkv ⊢
      by_cases hij : j = i
      · subst hij
        rw [if_pos rfl, hj] at *
        cases he : es[j]? with
        | none => rw [he] at hkv; cases hkv
        | some x => simp [encKv]
      · rw [if_neg hij, hkv]
        cases hi : ks[i]? with
        | none => rfl
        | some p =>
          have : p.1 ≠ a := fun hp => hij (nodup_at h.kd hj hi hp.symm)
          simp [this]
    · intro x hx
      have : x.born ∈ (es.modify j fun e => { e with key := enc a, val := v }).toList.map (·.born) := List.mem_map.2 ⟨x, hx, rfl⟩
      rw [eb] at this
      obtain ⟨y, hy, e⟩ := List.mem_map.1 this
      have := h.lt y hy
      omega
    · rw [eb]; exact h.nd
    · have : (ks.map fun p => if p.1 = a then (a, v) else p).map (·.1) = ks.map (·.1) := by
        rw [List.map_map]
        apply List.map_congr_left
        intro p hp
        by_cases hq : p.1 = a
        · simp [hq]
        · simp [hq]
      rw [this]; exact h.kd
end
/-! ### sets -/
def setK {α : Type} (l : List α) : Kvs α := l.map fun a => (a, .bool true)
theorem setK_keys {α : Type} (l : List α) : (setK l).map (·.1) = l := by unfold setK; rw [List.map_map]; exact List.map_id l
section
variable {α : Type} [DecidableEq α]
def addK (l : List α) (a : α) : List α := if a ∈ l then l else l ++ [a]
theorem setK_put (l : List α) (a : α) : putB (setK l) a (.bool true) = setK (addK l a) := by
  unfold putB addK
  rw [setK_keys]
  by_cases h : a ∈ l
  · rw [if_pos h, if_pos h]
    unfold setK
    rw [List.map_map]
    apply List.map_congr_left
    intro b hb
    by_cases e : b = a
    · simp [e]
    · simp [e]
  · rw [if_neg h, if_neg h]; unfold setK; simp
theorem setK_look (l : List α) (a : α) : lookB (setK l) a = if a ∈ l then some (.bool true) else none := by
  induction l with
  | nil => rfl
  | cons b l ih =>
    show (if b = a then some (Value.bool true) else lookB (setK l) a) = _
    by_cases e : b = a
    · simp [e]
    · rw [if_neg e, ih]; simp [Ne.symm e]
theorem addK_mem {l : List α} {a b : α} : b ∈ addK l a ↔ b ∈ l ∨ b = a := by
  unfold addK
  by_cases h : a ∈ l
  · rw [if_pos h]
    exact ⟨.inl, fun h' => h'.elim id (fun e => e ▸ h)⟩
  · rw [if_neg h]; simp
end
abbrev SetB {α : Type} (enc : α → Value) (es : Array MapEntry) (clock : Nat) (l : List α) : Prop := MapB enc es clock (setK l)
theorem SetB.nd {α : Type} {enc : α → Value} {es : Array MapEntry} {clock : Nat} {l : List α} (h : SetB enc es clock l) : l.Nodup := by
  have := h.kd; rwa [setK_keys] at this
/-! ### operations -/
section
variable {P : Program} {X : Cx} {e : Env} {l : List (Nat × Obj)} {H : Hp} {D : List Deferred} {k : List It} {all : Array Oper} {rest : List Oper} {dst : Option Tmp} {ty : TypeId} {pos : String} {after : Array Edge} {gd : Option (Nat × Bool)}
variable {α : Type} [DecidableEq α]
theorem upd_mid {b : Nat} {o o' : Obj} {bl : List (Nat × Obj)} : ∀ al : List (Nat × Obj), Upd (al ++ (b, o) :: bl) b o o' (al ++ (b, o') :: bl)
  | [] => .head
  | _ :: al => .tail (upd_mid al)
theorem T.mkMap {t : TypeId} {d : Nat} (hw : Wanted e all ⟨some d, .makeMap t none, ty, pos, after, gd⟩) (hN : Nat.blt d X.N = true)
    (h : ∀ b, T P X ((d, .map (some b)) :: e) ((b, .map #[] 0) :: l) H D (.ops all rest :: k)) :
    T P X e l H D (.ops all (⟨some d, .makeMap t none, ty, pos, after, gd⟩ :: rest) :: k) :=
  T.step hw rfl hN fun a w ha hw' => by
    refine ⟨_, _, _, w.alloc (.map #[] 0), ?_, hw'.alloc _, h w.heap.size⟩
    simp [execOp, Instr.makeMap]
theorem T.putMap {t kt vt : TypeId} {enc : α → Value} (hm : P.underlying t = some (.map kt vt)) (hk : KeyEq P kt enc H) {x y z : Operand} {b : Nat} {es : Array MapEntry} {clock : Nat} {ks : Kvs α} {a : α} {v : Value}
    (hw : Wanted e all ⟨none, .mapUpdate t x y z, ty, pos, after, gd⟩) (hx : evE e x = some (.map (some b))) (hy : evE e y = some (enc a)) (hz : evE e z = some v) (hs : MapB enc es clock ks) (al : List (Nat × Obj)) {bl : List (Nat × Obj)}
    (hl : l = al ++ (b, .map es clock) :: bl)
    (h : ∀ es' clock', MapB enc es' clock' (putB ks a v) → T P X e (al ++ (b, .map es' clock') :: bl) H D (.ops all rest :: k)) :
    T P X e l H D (.ops all (⟨none, .mapUpdate t x y z, ty, pos, after, gd⟩ :: rest) :: k) :=
  T.step0 hw rfl fun ac w ha hw' => by
    subst hl
    have hb : w.heap[b]? = some (.map es clock) := (hw'.own (b, .map es clock) (by simp)).1
    have hc := hk.chk w false a
    have hf := run_findKey_eq (P := P) w (k := kt) hk.wide (enc a) es.toList
    have hst : (Instr.keyThatStays (enc a) (enc a)).run P w = .ok (enc a) w := by simp [Instr.keyThatStays, hk.bits a]
    rcases run_findB hk hw'.fro a es.toList ks 0 hs.kv with ⟨g1, g2⟩ | ⟨j, u, g0, g1, g2⟩
    · rw [g2] at hf
      refine ⟨_, H, _, ?_, hw'.upd (upd_mid al (o' := .map (es.push { key := enc a, val := v, born := clock }) (clock + 1))), h _ _ (hs.put.1 (lookB_none.1 g1))⟩
      simp [execOp, ha.eval hx, ha.eval hy, ha.eval hz, Instr.mapUpdate, run_underlying hm, MapKept.run_getObj_map hb, hc, hf, MapKept.run_setObj_map _ hb, Result.andThen, World.putObj]
    · rw [g2, Nat.zero_add] at hf
      have hkv := congrArg (fun l => l[j]?) hs.kv
      simp only [List.getElem?_map, g0, Option.map_some] at hkv
      obtain ⟨e0, q1, q2⟩ : ∃ e0, es[j]? = some e0 ∧ e0.key = enc a := by
        rw [Array.getElem?_toList] at hkv
        cases he : es[j]? with
        | none => rw [he] at hkv; cases hkv
        | some e0 =>
          rw [he] at hkv
          simp only [Option.map_some, Option.some.injEq, encKv, Prod.mk.injEq] at hkv
          exact ⟨e0, rfl, hkv.1⟩
      refine ⟨_, H, _, ?_, hw'.upd (upd_mid al (o' := .map (es.modify j fun e => { e with key := enc a, val := v }) clock)), h _ _ (hs.put.2 j u g0)⟩
      simp [execOp, ha.eval hx, ha.eval hy, ha.eval hz, Instr.mapUpdate, run_underlying hm, MapKept.run_getObj_map hb, hc, hf, q1, q2, hst, MapKept.run_setObj_map _ hb, Result.andThen, World.putObj]
/-- .. in a literal -/
theorem T.insMap {t kt vt : TypeId} {enc : α → Value} (hm : P.underlying t = some (.map kt vt)) (hk : KeyEq P kt enc H) {x y z : Operand} {b : Nat} {es : Array MapEntry} {clock : Nat} {ks : Kvs α} {a : α} {v : Value}
    (hw : Wanted e all ⟨none, .insert t x y z, ty, pos, after, gd⟩) (hx : evE e x = some (.map (some b))) (hy : evE e y = some (enc a)) (hz : evE e z = some v) (hs : MapB enc es clock ks) (al : List (Nat × Obj)) {bl : List (Nat × Obj)}
    (hl : l = al ++ (b, .map es clock) :: bl)
    (h : ∀ es' clock', MapB enc es' clock' (putB ks a v) → T P X e (al ++ (b, .map es' clock') :: bl) H D (.ops all rest :: k)) :
    T P X e l H D (.ops all (⟨none, .insert t x y z, ty, pos, after, gd⟩ :: rest) :: k) :=
  T.step0 hw rfl fun ac w ha hw' => by
    subst hl
    have hb : w.heap[b]? = some (.map es clock) := (hw'.own (b, .map es clock) (by simp)).1
    have hc := hk.chk w false a
    have hf := run_findKey_eq (P := P) w (k := kt) hk.wide (enc a) es.toList
    have hst : (Instr.keyThatStays (enc a) (enc a)).run P w = .ok (enc a) w := by simp [Instr.keyThatStays, hk.bits a]
    rcases run_findB hk hw'.fro a es.toList ks 0 hs.kv with ⟨g1, g2⟩ | ⟨j, u, g0, g1, g2⟩
    · rw [g2] at hf
      refine ⟨_, H, _, ?_, hw'.upd (upd_mid al (o' := .map (es.push { key := enc a, val := v, born := clock }) (clock + 1))), h _ _ (hs.put.1 (lookB_none.1 g1))⟩
      simp [execOp, ha.eval hx, ha.eval hy, ha.eval hz, Instr.mapUpdate, run_underlying hm, MapKept.run_getObj_map hb, hc, hf, MapKept.run_setObj_map _ hb, Result.andThen, World.putObj]
    · rw [g2, Nat.zero_add] at hf
      have hkv := congrArg (fun l => l[j]?) hs.kv
      simp only [List.getElem?_map, g0, Option.map_some] at hkv
      obtain ⟨e0, q1, q2⟩ : ∃ e0, es[j]? = some e0 ∧ e0.key = enc a := by
        rw [Array.getElem?_toList] at hkv
        cases he : es[j]? with
        | none => rw [he] at hkv; cases hkv
        | some e0 =>
          rw [he] at hkv
          simp only [Option.map_some, Option.some.injEq, encKv, Prod.mk.injEq] at hkv
          exact ⟨e0, rfl, hkv.1⟩
      refine ⟨_, H, _, ?_, hw'.upd (upd_mid al (o' := .map (es.modify j fun e => { e with key := enc a, val := v }) clock)), h _ _ (hs.put.2 j u g0)⟩
      simp [execOp, ha.eval hx, ha.eval hy, ha.eval hz, Instr.mapUpdate, run_underlying hm, MapKept.run_getObj_map hb, hc, hf, q1, q2, hst, MapKept.run_setObj_map _ hb, Result.andThen, World.putObj]
theorem PV.getMap {t kt vt : TypeId} {zv : Value} {enc : α → Value} (hm : P.underlying t = some (.map kt vt)) (hzv : ∀ w, (zeroValue vt).run P w = .ok zv w) (hk : KeyEq P kt enc H) {x y : Operand} {b : Nat} {es : Array MapEntry} {clock : Nat} {ks : Kvs α} {a : α}
    (hx : evE e x = some (.map (some b))) (hy : evE e y = some (enc a)) (hs : MapB enc es clock ks) (hl : SomeObj l H b (.map es clock)) :
    PV P e l H ⟨dst, .lookup t x y false, ty, pos, after, gd⟩ ((lookB ks a).getD zv) := PV.mk fun X D ac w ha hw' => by
  have hb : w.heap[b]? = some (.map es clock) := hl.heap hw'
  have hc : ∀ em, (Instr.checkKey em 10000 kt (enc a)).run P w = .ok () w := fun em => hk.chk w em a
  have hf := run_findKey_eq (P := P) w (k := kt) hk.wide (enc a) es.toList
  rcases run_findB hk hw'.fro a es.toList ks 0 hs.kv with ⟨g1, g2⟩ | ⟨j, u, g0, g1, g2⟩
  · rw [g2] at hf
    rw [g1]
    simp [execOp, ha.eval hx, ha.eval hy, Instr.lookup, run_underlying hm, MapKept.run_getObj_map hb, hc, hf, hzv, Result.andThen]
  · rw [g2] at hf
    rw [g1]
    simp [execOp, ha.eval hx, ha.eval hy, Instr.lookup, run_underlying hm, MapKept.run_getObj_map hb, hc, hf, Result.andThen]
theorem PV.getMap2 {t kt vt : TypeId} {zv : Value} {enc : α → Value} (hm : P.underlying t = some (.map kt vt)) (hzv : ∀ w, (zeroValue vt).run P w = .ok zv w) (hk : KeyEq P kt enc H) {x y : Operand} {b : Nat} {es : Array MapEntry} {clock : Nat} {ks : Kvs α} {a : α}
    (hx : evE e x = some (.map (some b))) (hy : evE e y = some (enc a)) (hs : MapB enc es clock ks) (hl : SomeObj l H b (.map es clock)) :
    PV P e l H ⟨dst, .lookup t x y true, ty, pos, after, gd⟩ (.tuple #[(lookB ks a).getD zv, .bool (lookB ks a).isSome]) := PV.mk fun X D ac w ha hw' => by
  have hb : w.heap[b]? = some (.map es clock) := hl.heap hw'
  have hc : ∀ em, (Instr.checkKey em 10000 kt (enc a)).run P w = .ok () w := fun em => hk.chk w em a
  have hf := run_findKey_eq (P := P) w (k := kt) hk.wide (enc a) es.toList
  rcases run_findB hk hw'.fro a es.toList ks 0 hs.kv with ⟨g1, g2⟩ | ⟨j, u, g0, g1, g2⟩
  · rw [g2] at hf
    rw [g1]
    simp [execOp, ha.eval hx, ha.eval hy, Instr.lookup, run_underlying hm, MapKept.run_getObj_map hb, hc, hf, hzv, Result.andThen]
  · rw [g2] at hf
    rw [g1]
    simp [execOp, ha.eval hx, ha.eval hy, Instr.lookup, run_underlying hm, MapKept.run_getObj_map hb, hc, hf, Result.andThen]
/-- .. of a set -/
theorem PV.inSet {t kt vt : TypeId} {enc : α → Value} (hm : P.underlying t = some (.map kt vt)) (hzv : ∀ w, (zeroValue vt).run P w = .ok (.bool false) w) (hk : KeyEq P kt enc H) {x y : Operand} {b : Nat} {es : Array MapEntry} {clock : Nat} {s : List α} {a : α}
    (hx : evE e x = some (.map (some b))) (hy : evE e y = some (enc a)) (hs : SetB enc es clock s) (hl : SomeObj l H b (.map es clock)) :
    PV P e l H ⟨dst, .lookup t x y false, ty, pos, after, gd⟩ (.bool (decide (a ∈ s))) := by
  have := PV.getMap (dst := dst) (ty := ty) (pos := pos) (after := after) (gd := gd) hm hzv hk hx hy hs hl
  rw [setK_look] at this
  by_cases h : a ∈ s
  · rw [decide_eq_true h]; rw [if_pos h] at this; exact this
  · rw [decide_eq_false h]; rw [if_neg h] at this; exact this
end
section
variable {P : Program} {X : Cx} {e : Env} {l : List (Nat × Obj)} {H : Hp} {D : List Deferred} {k : List It} {all : Array Oper} {rest : List Oper} {dst : Option Tmp} {ty : TypeId} {pos : String} {after : Array Edge} {gd : Option (Nat × Bool)}
variable {α : Type}
theorem PV.lenMap {t kt vt : TypeId} (hm : P.underlying t = some (.map kt vt)) {x : Operand} {b : Nat} {es : Array MapEntry} {clock : Nat} {ks : Kvs α} {enc : α → Value} (hx : evE e x = some (.map (some b))) (hs : MapB enc es clock ks) (hl : SomeObj l H b (.map es clock)) :
    PV P e l H ⟨dst, .call ⟨.builtin .len, #[x], #[t]⟩, ty, pos, after, gd⟩ (.int .i64 (ks.length : Int)) := PV.mk fun X D ac w ha hw' => by
  have hb : w.heap[b]? = some (.map es clock) := hl.heap hw'
  have hlen : es.size = ks.length := by have := congrArg List.length hs.kv; simpa using this
  simp [execOp, resolve, invoke, builtin, ha.eval hx, Builtin.len_, run_underlying hm, MapKept.run_getObj_map hb, Result.andThen, goInt, hlen]
/-! ### rounds -/
/-- A round over a map stands here: what has not come yet. -/
structure Rnd (enc : α → Value) (es : Array MapEntry) (clock since c0 : Nat) (seen : Array Nat) (left : Kvs α) : Prop where
  old : ∀ x ∈ es.toList, x.born < since
  sc : since ≤ c0
  ck : since ≤ clock
  nd : (es.toList.map (·.born)).Nodup
  kv : (leftOf es seen).toList.map (fun e => (e.key, e.val)) = left.map (encKv enc)
/-- The entry that came last. -/
structure Cur (enc : α → Value) (es : Array MapEntry) (seen : Array Nat) (a : α) (v : Value) : Prop where
  h : ∃ x ∈ es.toList, seen.back? = some x.born ∧ x.key = enc a ∧ x.val = v
theorem leftOf_push {es : Array MapEntry} (hn : (es.toList.map (·.born)).Nodup) {seen : Array Nat} {x : MapEntry} (hx : x ∈ (leftOf es seen).toList) :
    ∃ l1 l2, (leftOf es seen).toList = l1 ++ x :: l2 ∧ (leftOf es (seen.push x.born)).toList = l1 ++ l2 := by
  obtain ⟨l1, l2, e⟩ := List.append_of_mem hx
  refine ⟨l1, l2, e, ?_⟩
  have h1 : (leftOf es (seen.push x.born)).toList = (leftOf es seen).toList.filter fun y => decide (y.born ≠ x.born) := by
    unfold leftOf
    rw [Array.toList_filter, Array.toList_filter, List.filter_filter]
    apply List.filter_congr
    intro y hy
    by_cases h2 : y.born = x.born
    · simp [h2]
    · simp [h2]
  have hs : ((leftOf es seen).toList.map (·.born)).Nodup := by
    unfold leftOf
    rw [Array.toList_filter]
    exact List.Nodup.sublist (List.Sublist.map _ List.filter_sublist) hn
  rw [h1, e]
  rw [e, List.map_append, List.map_cons, List.nodup_append, List.nodup_cons] at hs
  obtain ⟨s1, ⟨s2, s3⟩, s4⟩ := hs
  rw [List.filter_append, List.filter_cons_of_neg (by simp)]
  congr 1
  · rw [List.filter_eq_self]
    intro y hy
    have := s4 y.born (List.mem_map.2 ⟨y, hy, rfl⟩) x.born (List.mem_cons_self)
    simpa using this
  · rw [List.filter_eq_self]
    intro y hy
    have : y.born ≠ x.born := fun h => s2 (h ▸ List.mem_map.2 ⟨y, hy, rfl⟩)
    simpa using this
theorem T.rangeMap {t kt vt : TypeId} {enc : α → Value} (hm : P.underlying t = some (.map kt vt)) {x : Operand} {b d : Nat} {es : Array MapEntry} {clock : Nat} {ks : Kvs α}
    (hw : Wanted e all ⟨some d, .range t x, ty, pos, after, gd⟩) (hN : Nat.blt d X.N = true) (hx : evE e x = some (.map (some b))) (hs : MapB enc es clock ks) (hl : SomeObj l H b (.map es clock))
    (h : ∀ r, Rnd enc es clock clock clock #[] ks → T P X ((d, .pointer (some ⟨r, 0, none⟩)) :: e) ((r, .mapIter (some b) clock #[] clock) :: l) H D (.ops all rest :: k)) :
    T P X e l H D (.ops all (⟨some d, .range t x, ty, pos, after, gd⟩ :: rest) :: k) :=
  T.step hw rfl hN fun a w ha hw' => by
    have hb : w.heap[b]? = some (.map es clock) := hl.heap hw'
    refine ⟨_, _, _, w.alloc (.mapIter (some b) clock #[] clock), ?_, hw'.alloc _, h w.heap.size ⟨hs.lt, Nat.le_refl _, Nat.le_refl _, hs.nd, ?_⟩⟩
    · simp [execOp, ha.eval hx, Instr.range, run_underlying hm, MapKept.run_getObj_map hb, Result.andThen]
    · have : leftOf es #[] = es := by unfold leftOf; simp
      rw [this]; exact hs.kv
theorem T.nextMap {enc : α → Value} {x : Operand} {r b d since c0 : Nat} {seen : Array Nat} {es : Array MapEntry} {clock : Nat} {left : Kvs α}
    (hw : Wanted e all ⟨some d, .next x false, ty, pos, after, gd⟩) (hN : Nat.blt d X.N = true) (hx : evE e x = some (.pointer (some ⟨r, 0, none⟩))) (hl : SomeObj l H b (.map es clock)) (hr : Rnd enc es clock since c0 seen left)
    (al : List (Nat × Obj)) {bl : List (Nat × Obj)} (hli : l = al ++ (r, .mapIter (some b) since seen c0) :: bl)
    (hend : left = [] → T P X ((d, .tuple #[.bool false]) :: e) l H D (.ops all rest :: k))
    (h : ∀ a v left' seen', left.Perm ((a, v) :: left') → Rnd enc es clock since clock seen' left' → Cur enc es seen' a v → T P X ((d, .tuple #[.bool true, enc a, v]) :: e) (al ++ (r, .mapIter (some b) since seen' clock) :: bl) H D (.ops all rest :: k)) :
    T P X e l H D (.ops all (⟨some d, .next x false, ty, pos, after, gd⟩ :: rest) :: k) :=
  T.step hw rfl hN fun ac w ha hw' => by
    have hb : w.heap[b]? = some (.map es clock) := hl.heap hw'
    have hri : w.heap[r]? = some (.mapIter (some b) since seen c0) := (hw'.own (r, .mapIter (some b) since seen c0) (by rw [hli]; simp)).1
    have hex : ∀ v w2, (Instr.next (.pointer (some ⟨r, 0, none⟩)) false ty).run P w = .ok v w2 → (execOp ac.eval ⟨some d, .next x false, ty, pos, after, gd⟩).run P w = .ok (.value v) w2 := fun v w2 hh => by
      simp [execOp, ha.eval hx, hh]
    rcases run_next_at (P := P) w ty r b since c0 seen es clock hri hb hr.old hr.sc with ⟨g1, g2⟩ | ⟨x0, g1, w1, g2, g3⟩
    · refine ⟨_, l, H, w, hex _ _ g2, hw', hend ?_⟩
      have : (leftOf es seen).toList.length = 0 := g1
      have e1 := congrArg List.length hr.kv
      rw [List.length_map, List.length_map, this] at e1
      exact List.eq_nil_of_length_eq_zero e1.symm
    · obtain ⟨l1, l2, p1, p2⟩ := leftOf_push hr.nd g1
      have hkv := hr.kv
      rw [p1, List.map_append, List.map_cons] at hkv
      obtain ⟨q1, q2, e1, e2, e3⟩ := List.map_eq_append_iff.1 hkv.symm
      obtain ⟨p, q3, e4, e5, e6⟩ := List.map_eq_cons_iff.1 e3
      have e5' : enc p.1 = x0.key ∧ p.2 = x0.val := by simpa [encKv] using e5
      have hw1 : Wd X l H w1 := by
        rcases g2 with rfl | rfl
        · exact hw'
        · exact hw'.drew
      have hu : Wd X (al ++ (r, .mapIter (some b) since (seen.push x0.born) clock) :: bl) H (ChangeMaps.setBlock w1 r (.mapIter (some b) since (seen.push x0.born) clock)) := by
        subst hli
        exact hw1.upd (upd_mid al)
      refine ⟨_, _, H, _, hex _ _ g3, hu, ?_⟩
      rw [← e5'.1, ← e5'.2]
      have hxm : x0 ∈ es.toList := by
        have := g1
        unfold leftOf at this
        rw [Array.toList_filter] at this
        exact (List.mem_filter.1 this).1
      refine h p.1 p.2 (q1 ++ q3) _ ?_ ⟨hr.old, hr.ck, hr.ck, hr.nd, ?_⟩ ⟨x0, hxm, by simp, e5'.1.symm, e5'.2.symm⟩
      · rw [e1, e4]
        exact List.perm_middle
      · rw [p2, List.map_append, List.map_append, e2, e6]
theorem PV.entryMap {enc : α → Value} {x : Operand} {r b since : Nat} {seen : Array Nat} {es : Array MapEntry} {clock : Nat} {a : α} {v : Value}
    (hx : evE e x = some (.pointer (some ⟨r, 0, none⟩))) (hl : SomeObj l H b (.map es clock)) (hn : (es.toList.map (·.born)).Nodup) (hc : Cur enc es seen a v) (hr : (r, Obj.mapIter (some b) since seen clock) ∈ l) :
    PV P e l H ⟨dst, .entry x, ty, pos, after, gd⟩ (.tuple #[enc a, v]) := PV.mk fun X D ac w ha hw' => by
  have hb : w.heap[b]? = some (.map es clock) := hl.heap hw'
  have hri : w.heap[r]? = some (.mapIter (some b) since seen clock) := (hw'.own _ hr).1
  obtain ⟨x0, h1, h2, h3, h4⟩ := hc.h
  have hf : es.find? (·.born == x0.born) = some x0 := by rw [← Array.find?_toList]; exact find_born x0 es.toList hn h1
  simp [execOp, ha.eval hx, Instr.entry, getObj, Sem.run_bind, Sem.run, hri, hb, Result.andThen, h2, hf, h3, h4]
end
section
variable {P : Program} {X : Cx} {e : Env} {l : List (Nat × Obj)} {H : Hp} {D : List Deferred} {k : List It} {all : Array Oper} {rest : List Oper} {dst : Option Tmp} {ty : TypeId} {pos : String} {after : Array Edge} {gd : Option (Nat × Bool)}
theorem PV.boxMap {t kt vt : TypeId} (hm : P.underlying t = some (.map kt vt)) {x : Operand} {v : Value} (hx : evE e x = some v) : PV P e l H ⟨dst, .makeInterface t x, ty, pos, after, gd⟩ (.iface t v) := PV.mk fun X D ac w ha hw' => by
  simp [execOp, ha.eval hx, Instr.makeInterface, run_underlying hm, Result.andThen]
theorem PV.unboxMap {t kt vt xt : TypeId} (hm : P.underlying t = some (.map kt vt)) {x : Operand} {v : Value} (hx : evE e x = some (.iface t v)) : PV P e l H ⟨dst, .typeAssert x xt t false, ty, pos, after, gd⟩ v := PV.mk fun X D ac w ha hw' => by
  simp [execOp, ha.eval hx, Instr.typeAssert, run_underlying hm, Result.andThen]
theorem PV.mapNil {t kt vt : TypeId} (hm : P.underlying t = some (.map kt vt)) {x y : Operand} {b : Nat} {t' : TypeId} (hx : evE e x = some (.map (some b))) (hy : evE e y = some (.map none)) : PV P e l H ⟨dst, .binOp .eql t x y t', ty, pos, after, gd⟩ (.bool false) := PV.mk fun X D ac w ha hw' => by
  have h : ∀ d : Nat, (Op.equalIn (d + 1) t (.map (some b)) (.map none)).run P w = .ok false w := fun d => by
    simp [Op.equalIn, run_underlying hm]
  have h1 : (binOp .eql t (.map (some b)) (.map none)).run P w = .ok (.bool false) w := by
    simp only [binOp]
    simp [Op.equal, Op.maxDepth, h 9999]
  simp [execOp, ha.eval hx, ha.eval hy, eqGuard, h1]
/-- maps.clone, an operation of the runtime's -/
theorem T.cloneMap {f : FuncId} {xs : List Operand} {ts : Array TypeId} {t b d : Nat} {es : Array MapEntry} {clock : Nat}
    (hx : ∀ w v w', (Extern.MapsClone.clone #[.iface t (.map (some b))]).run P w = .ok v w' → (callFunc f #[.iface t (.map (some b))]).run P w = .ok (.value v) w')
    (hw : Wanted e all ⟨some d, .call ⟨.value (.func f), xs.toArray, ts⟩, ty, pos, after, gd⟩) (hN : Nat.blt d X.N = true) (hv : evL e xs = some [.iface t (.map (some b))]) (hl : SomeObj l H b (.map es clock))
    (h : ∀ b', T P X ((d, .iface t (.map (some b'))) :: e) ((b', .map es clock) :: l) H D (.ops all rest :: k)) :
    T P X e l H D (.ops all (⟨some d, .call ⟨.value (.func f), xs.toArray, ts⟩, ty, pos, after, gd⟩ :: rest) :: k) :=
  T.step hw rfl hN fun a w ha hw' => by
    have hb : w.heap[b]? = some (.map es clock) := hl.heap hw'
    have h1 := evL_map ha xs _ hv
    refine ⟨_, _, _, w.alloc (.map es clock), ?_, hw'.alloc _, h w.heap.size⟩
    have h2 := hx w (.iface t (.map (some w.heap.size))) (w.alloc (.map es clock)) (by
      have e : Extern.MapsClone.clone #[.iface t (.map (some b))] = (getObj b >>= fun o => match o with
        | .map entries clock => (newObj (.map entries clock) >>= fun n => pure (.iface t (.map (some n))))
        | _ => stuck "maps.clone: a map expected") := rfl
      rw [e]
      simp [MapKept.run_getObj_map hb, Result.andThen])
    simp [execOp, resolve, Act.eval, Deferred.ofValue, invoke, List.map_toArray, h1, h2]
end
end Go.Proofs.YtbcadnjfegiakaaGreatDoor
namespace Go.Proofs.YtbcadnjfegiakaaGreatDoor
open Go.RowKit

theorem flatK_list {α : Type} [Inhabited α] {enc : α → List Value} {k : Nat} (hk : ∀ x, (enc x).length = k) (d : Array α) : (Go.Sort.flatK enc k d).toList = d.toList.flatMap enc := by
  refine List.ext_getElem? fun t => ?_
  have hl : (d.toList.flatMap enc).length = d.size * k := by rw [flat_len hk]; simp
  by_cases ht : t < d.size * k
  · have k0 : 0 < k := by rcases Nat.eq_zero_or_pos k with h | h
                          · subst h; simp at ht
                          · exact h
    have hi : t / k < d.size := Nat.div_lt_of_lt_mul (by rw [Nat.mul_comm]; exact ht)
    have hm : t % k < k := Nat.mod_lt _ k0
    have h1 := Go.Sort.get_flatK enc k d t ht
    have hs : t < (Go.Sort.flatK enc k d).size := by simpa using ht
    rw [Array.getElem?_toList, Array.getElem?_eq_getElem hs, ← getElem!_pos (Go.Sort.flatK enc k d) t hs, h1]
    have hx : d.toList[t / k]? = some d[t / k]! := by rw [Array.getElem?_toList, Array.getElem?_eq_getElem hi, getElem!_pos d _ hi]
    have h2 := flat_elem hk d.toList (t / k) _ hx
    have h3 : (enc d[t / k]!)[t % k]? = (d.toList.flatMap enc)[t / k * k + t % k]? := by
      rw [← h2, List.getElem?_take, if_pos hm, List.getElem?_drop]
    have h4 : t / k * k + t % k = t := by rw [Nat.mul_comm]; exact Nat.div_add_mod t k
    rw [h4] at h3
    rw [← h3, List.getElem?_eq_getElem (by rw [hk]; exact hm), getElem!_pos (enc d[t / k]!) (t % k) (by rw [hk]; exact hm)]
  · have e1 : (Go.Sort.flatK enc k d).toList.length ≤ t := by rw [Array.length_toList, Go.Sort.size_flatK]; omega
    have e2 : (d.toList.flatMap enc).length ≤ t := by rw [hl]; omega
    rw [List.getElem?_eq_none e1, List.getElem?_eq_none e2]

theorem keep_grow {w w' : World} (h : Keep All w w') : ∃ q os', w' = Go.Sort.grow (w.drewN q) os' := by
  refine ⟨w'.drawn - w.drawn, w'.heap.extract w.heap.size w'.heap.size, ?_⟩
  have h1 := h.os
  have h2 := h.tape
  have h3 := h.output
  have h4 := h.drawn
  have hd : ∀ n (u : World), u.drewN n = { u with drawn := u.drawn + n } := by
    intro n u
    rfl
  rw [hd]
  have hh : w'.heap = w.heap ++ w'.heap.extract w.heap.size w'.heap.size := by
    refine Array.ext_getElem? fun i => ?_
    by_cases hi : i < w.heap.size
    · rw [Array.getElem?_append_left hi]; exact h.block i hi trivial
    · rw [Array.getElem?_append_right (by omega), Array.getElem?_extract]
      have := h.size
      by_cases hj : i < w'.heap.size
      · rw [if_pos (by omega)]; congr 1; omega
      · rw [if_neg (by omega), Array.getElem?_eq_none (by omega)]
  cases w' with
  | mk hp tp dr os out =>
    simp only at h1 h2 h3 h4 hh
    unfold Go.Sort.grow
    simp only
    rw [← hh, ← h1, ← h2, ← h3]
    congr 1
    omega

section
variable {P : Program} {α : Type} [Inhabited α] {enc : α → List Value} {k : Nat}
theorem holdsK_of {w : World} {b el : Nat} {d : List α} {tl : List Value} (hk : ∀ x, (enc x).length = k) (hb : w.heap[b]? = some (.cells (d.flatMap enc ++ tl).toArray el (0, 0))) : Go.Sort.HoldsK enc k w b 0 d.toArray := by
  intro j hj
  rw [Go.Sort.size_flatK] at hj
  have hf : (Go.Sort.flatK enc k d.toArray).toList = d.flatMap enc := flatK_list hk d.toArray
  have hl : (d.flatMap enc).length = d.length * k := flat_len hk d
  have hj' : j < (d.flatMap enc).length := by rw [hl]; simpa using hj
  constructor
  · have h1 : (Go.Sort.flatK enc k d.toArray)[j]! = (d.flatMap enc)[j] := by
      rw [getElem!_pos _ j (by simpa using hj)]
      rw [← Array.getElem_toList]
      simp only [hf]
    simp only [World.cell?, hb, Nat.zero_add, id]
    rw [h1]
    simp [List.getElem?_append_left hj', List.getElem?_eq_getElem hj']
  · simp [World.frozen?, hb]

theorem putRowK_heap {w : World} {b el : Nat} {d : List α} {tl : List Value} (hk : ∀ x, (enc x).length = k) (hb : w.heap[b]? = some (.cells (d.flatMap enc ++ tl).toArray el (0, 0))) (dk : Array α) (hs : dk.size = d.length) :
    (Go.Sort.putRowK enc k w b 0 dk).heap[b]? = some (.cells (dk.toList.flatMap enc ++ tl).toArray el (0, 0)) ∧ ∀ c, c ≠ b → (Go.Sort.putRowK enc k w b 0 dk).heap[c]? = w.heap[c]? := by
  unfold Go.Sort.putRowK Go.Sort.putRow Go.Sort.mapBlock
  constructor
  · simp only [Array.getElem?_modify, if_true, hb, Option.map_some, Go.Sort.onCells]
    congr 2
    refine Array.ext_getElem? fun t => ?_
    unfold Go.Sort.putCells
    have hf : (Go.Sort.flatK enc k dk).toList = dk.toList.flatMap enc := flatK_list hk dk
    have hl : (d.flatMap enc).length = d.length * k := flat_len hk d
    have hl2 : (dk.toList.flatMap enc).length = dk.size * k := by rw [flat_len hk]; simp
    rw [Array.getElem?_mapIdx, Go.Sort.size_flatK]
    by_cases ht : t < dk.size * k
    · have ht1 : t < (d.flatMap enc).length := by rw [hl, ← hs]; exact ht
      have e3 : ((d.flatMap enc ++ tl).toArray)[t]? = some ((d.flatMap enc)[t]'ht1) := by
        rw [List.getElem?_toArray, List.getElem?_append_left ht1, List.getElem?_eq_getElem ht1]
      rw [e3]
      simp only [Option.map_some, Nat.zero_le, Nat.zero_add, ht, and_self, if_true, Nat.sub_zero, id]
      rw [getElem!_pos _ t (by simpa using ht), ← Array.getElem_toList]
      simp only [hf]
      simp [List.getElem?_append_left (show t < (dk.toList.flatMap enc).length by rw [hl2]; exact ht), List.getElem?_eq_getElem (show t < (dk.toList.flatMap enc).length by rw [hl2]; exact ht)]
    · have e1 : ((d.flatMap enc ++ tl).toArray)[t]? = tl[t - dk.size * k]? := by
        rw [List.getElem?_toArray, List.getElem?_append_right (by rw [hl, ← hs]; omega), hl, ← hs]
      have e2 : ((dk.toList.flatMap enc ++ tl).toArray)[t]? = tl[t - dk.size * k]? := by
        rw [List.getElem?_toArray, List.getElem?_append_right (by rw [hl2]; omega), hl2]
      rw [e1, e2]
      cases tl[t - dk.size * k]? with
      | none => rfl
      | some v => simp [ht]
  · intro c hc
    simp only [Array.getElem?_modify]
    rw [if_neg (fun h => hc h.symm)]

theorem sortWorldK_facts {w : World} {b el m : Nat} {d : List α} {tl : List Value} (hk : ∀ x, (enc x).length = k) (hb : w.heap[b]? = some (.cells (d.flatMap enc ++ tl).toArray el (0, 0))) (dk : Array α) (hs : dk.size = d.length) (os : Array Obj) :
    let W := Go.Proofs.sortWorldK enc k w b 0 m dk os
    W.heap[b]? = some (.cells (dk.toList.flatMap enc ++ tl).toArray el (0, 0)) ∧ (∀ c, c < w.heap.size → c ≠ b → W.heap[c]? = w.heap[c]?) ∧ w.heap.size ≤ W.heap.size ∧ W.os = w.os ∧ W.tape = w.tape ∧ W.output = w.output ∧ w.drawn ≤ W.drawn := by
  have hlt : b < w.heap.size := (Array.getElem?_eq_some_iff.1 hb).1
  obtain ⟨h1, h2⟩ := putRowK_heap (w := Go.Sort.ahead w m) hk hb dk hs
  have hsz : (Go.Sort.putRowK enc k (Go.Sort.ahead w m) b 0 dk).heap.size = w.heap.size := by
    unfold Go.Sort.putRowK Go.Sort.putRow Go.Sort.mapBlock Go.Sort.ahead
    simp
  refine ⟨?_, ?_, ?_, rfl, rfl, rfl, ?_⟩
  · show ((Go.Sort.putRowK enc k (Go.Sort.ahead w m) b 0 dk).heap ++ os)[b]? = _
    rw [Array.getElem?_append_left (by rw [hsz]; exact hlt)]; exact h1
  · intro c hc hcb
    show ((Go.Sort.putRowK enc k (Go.Sort.ahead w m) b 0 dk).heap ++ os)[c]? = _
    rw [Array.getElem?_append_left (by rw [hsz]; exact hc)]; exact h2 c hcb
  · show w.heap.size ≤ ((Go.Sort.putRowK enc k (Go.Sort.ahead w m) b 0 dk).heap ++ os).size
    rw [Array.size_append, hsz]; omega
  · show w.drawn ≤ w.drawn + m
    omega

/-- slices.SortFunc under a comparison that parts whatever is not one. -/
theorem sort_FnW {ρ : Go.Shelf.Ren} (L : Go.Proofs.SlLaysF0.n6 P ρ) (aE : ∀ w, (isAgg (ρ.t 24)).run P w = .ok true w) (zE : ∀ w, (Go.sizeOf (ρ.t 24)).run P w = .ok k w) (hk : ∀ x, (enc x).length = k) (h1 : ∀ x, ∀ v ∈ enc x, v.oneCell' = true)
    (cf : α → α → Int) (hO : Go.Sort.SWO (Go.Proofs.ltOf cf)) (hT : ∀ x y, Go.Proofs.ltOf cf x y = false → Go.Proofs.ltOf cf y x = false → x = y) (g : Nat) [hE : Ent P g] (cb : List Value) {H : Hp} {b cap el : Nat} (d : List α) (tl : List Value)
    (hcmp : ∀ x y, Fn P g ([Value.agg (enc x).toArray, .agg (enc y).toArray] ++ cb).toArray H (fun v _ => v = .int .i64 (cf x y))) (hsz : d.length < 4611686018427387904) :
    FnW P (ρ.f 6) #[.slice (some ⟨b, 0, none⟩) d.length cap, .func (.func g) #[] cb.toArray] H [(b, .cells (d.flatMap enc ++ tl).toArray el (0, 0))]
      (fun v H' l' => v = .tuple #[] ∧ H' = H ∧ l' = [(b, .cells ((d.mergeSort fun x y => !(Go.Proofs.ltOf cf) y x).flatMap enc ++ tl).toArray el (0, 0))]) := FnW.mk fun w hw => by
  obtain ⟨hb, hHb, _⟩ := hw.own _ List.mem_cons_self
  simp only at hb hHb
  have hlt : b < w.heap.size := (Array.getElem?_eq_some_iff.1 hb).1
  have hwd : ∀ (m : Nat) (dk : Array α) (os : Array Obj), dk.size = d.length → (X0.mk w H (own0 [(b, .cells (d.flatMap enc ++ tl).toArray el (0, 0))])).wd [(b, .cells (dk.toList.flatMap enc ++ tl).toArray el (0, 0))] H (Go.Proofs.sortWorldK enc k w b 0 m dk os) := by
    intro m dk os hs
    obtain ⟨f1, f2, f3, f4, f5, f6, f7⟩ := sortWorldK_facts (m := m) hk hb dk hs os
    refine ⟨fun p hp => ?_, by simp, fun c o hc => ?_, ⟨f4, f5, f6, f3, f7, fun c hc hp => ?_⟩, Hp.le.refl _, fun _ _ _ => rfl⟩
    · obtain rfl := List.mem_singleton.1 hp
      exact ⟨f1, hHb, fun _ hn => hn (by simp)⟩
    · have hcb : c ≠ b := fun e => by subst e; rw [hHb] at hc; cases hc
      exact (f2 c (hw.ltH hc) hcb).trans (hw.fro c o hc)
    · exact f2 c hc (fun e => hp (by subst e; simp))
  have hs0 := Go.Proofs.AnyQ.slices_SortFunc_total L k aE zE enc hk h1 cf hO g cb.toArray b 0 cap d.toArray w (fun args w => hE.h args w) (fun m os dk hs x y => ?_) (holdsK_of hk hb) hlt (by simpa using hsz) hT
  · refine callsIn_wide.2 (hs0.mono ?_)
    rintro e w' ⟨rfl, n, os, rfl⟩
    refine ⟨_, H, _, rfl, hwd n _ os ?_, rfl, rfl, rfl⟩
    simp [List.length_mergeSort]
  · have hs' : dk.size = d.length := by simpa using hs
    have hW := hwd m dk os hs'
    have hc := (hcmp x y).get _ hW.fro
    have hargs : (([Value.agg (enc x).toArray, .agg (enc y).toArray] ++ cb).toArray : Array Value) = #[.agg (enc x).toArray, .agg (enc y).toArray] ++ cb.toArray := by simp
    rw [hargs] at hc
    refine (callsIn_wide.1 hc).mono ?_
    rintro e w' ⟨v, H', rfl, _, _, hkp, rfl⟩
    exact ⟨rfl, keep_grow hkp⟩
end
end Go.Proofs.YtbcadnjfegiakaaGreatDoor
namespace Go.Proofs.YtbcadnjfegiakaaGreatDoor
open Go.Proofs Go.Shelf

def Tryz.sortSpL_ren : Go.Shelf.Ren := ⟨fun | 6 => 20 | 15 => 44 | 14 => 43 | 28 => 103 | 29 => 104 | 20 => 95 | 21 => 96 | 22 => 97 | 23 => 98 | 24 => 99 | 25 => 100 | 26 => 101 | 27 => 102 | 46 => 174 | 47 => 175 | 48 => 176 | 49 => 177 | 50 => 178 | 57 => 240 | n => n, fun | 22 => 51 | 24 => 57 | 25 => 74 | 3 => 3 | 39 => 106 | 0 => 0 | 53 => 171 | 55 => 173 | 4 => 4 | 46 => 165 | 45 => 164 | 50 => 161 | 5 => 5 | 9 => 9 | 66 => 232 | 70 => 236 | 76 => 285 | 77 => 201 | n => n, fun | n => n⟩
theorem Tryz.sortSpL : Go.Proofs.SlLaysF0.n6 Tryz.prog Tryz.sortSpL_ren := {
  mixed := by kernel_rfl,
  f6 := ⟨Tryz.f20.name, by decide, Tryz.func20.trans (congrArg some (by kernel_rfl))⟩,
  f14 := ⟨Tryz.f43.name, by decide, Tryz.func43.trans (congrArg some (by kernel_rfl))⟩,
  f15 := Tryz.func44.trans (congrArg some (by kernel_rfl)),
  f20 := ⟨Tryz.f95.name, by decide, Tryz.func95.trans (congrArg some (by kernel_rfl))⟩,
  f21 := ⟨Tryz.f96.name, by decide, Tryz.func96.trans (congrArg some (by kernel_rfl))⟩,
  f22 := ⟨Tryz.f97.name, by decide, Tryz.func97.trans (congrArg some (by kernel_rfl))⟩,
  f23 := ⟨Tryz.f98.name, by decide, Tryz.func98.trans (congrArg some (by kernel_rfl))⟩,
  f24 := ⟨Tryz.f99.name, by decide, Tryz.func99.trans (congrArg some (by kernel_rfl))⟩,
  f25 := ⟨Tryz.f100.name, by decide, Tryz.func100.trans (congrArg some (by kernel_rfl))⟩,
  f26 := ⟨Tryz.f101.name, by decide, Tryz.func101.trans (congrArg some (by kernel_rfl))⟩,
  f27 := ⟨Tryz.f102.name, by decide, Tryz.func102.trans (congrArg some (by kernel_rfl))⟩,
  f28 := Tryz.func103.trans (congrArg some (by kernel_rfl)),
  f29 := Tryz.func104.trans (congrArg some (by kernel_rfl)),
  f46 := ⟨Tryz.f174.name, by decide, Tryz.func174.trans (congrArg some (by kernel_rfl))⟩,
  f47 := Tryz.func175.trans (congrArg some (by kernel_rfl)),
  f48 := Tryz.func176.trans (congrArg some (by kernel_rfl)),
  f49 := ⟨Tryz.f177.name, by decide, Tryz.func177.trans (congrArg some (by kernel_rfl))⟩,
  f50 := ⟨Tryz.f178.name, by decide, Tryz.func178.trans (congrArg some (by kernel_rfl))⟩,
  f57 := ⟨Tryz.f240.name, by decide, Tryz.func240.trans (congrArg some (by kernel_rfl))⟩,
  t0 := Tryz.underlying0,
  a0 := Tryz.isAgg0,
  z0 := Tryz.sizeOf0,
  v0 := Tryz.zeroValue0,
  t3 := Tryz.underlying3,
  a3 := Tryz.isAgg3,
  z3 := Tryz.sizeOf3,
  v3 := Tryz.zeroValue3,
  t4 := Tryz.underlying4,
  a4 := Tryz.isAgg4,
  z4 := Tryz.sizeOf4,
  v4 := Tryz.zeroValue4,
  t5 := Tryz.underlying5,
  a5 := Tryz.isAgg5,
  z5 := Tryz.sizeOf5,
  v5 := Tryz.zeroValue5,
  t9 := Tryz.underlying9,
  a9 := Tryz.isAgg9,
  z9 := Tryz.sizeOf9,
  v9 := Tryz.zeroValue9,
  t22 := Tryz.underlying51,
  a22 := Tryz.isAgg51,
  z22 := Tryz.sizeOf51,
  v22 := Tryz.zeroValue51,
  t25 := Tryz.underlying74,
  a25 := Tryz.isAgg74,
  z25 := Tryz.sizeOf74,
  v25 := Tryz.zeroValue74,
  t39 := Tryz.underlying106,
  a39 := Tryz.isAgg106,
  z39 := Tryz.sizeOf106,
  v39 := Tryz.zeroValue106,
  t45 := Tryz.underlying164,
  a45 := Tryz.isAgg164,
  z45 := Tryz.sizeOf164,
  v45 := Tryz.zeroValue164,
  t46 := Tryz.underlying165,
  a46 := Tryz.isAgg165,
  z46 := Tryz.sizeOf165,
  v46 := Tryz.zeroValue165,
  t50 := Tryz.underlying161,
  a50 := Tryz.isAgg161,
  z50 := Tryz.sizeOf161,
  v50 := Tryz.zeroValue161,
  t53 := Tryz.underlying171,
  a53 := Tryz.isAgg171,
  z53 := Tryz.sizeOf171,
  v53 := Tryz.zeroValue171,
  t55 := Tryz.underlying173,
  a55 := Tryz.isAgg173,
  z55 := Tryz.sizeOf173,
  v55 := Tryz.zeroValue173,
  t66 := Tryz.underlying232,
  a66 := Tryz.isAgg232,
  z66 := Tryz.sizeOf232,
  v66 := Tryz.zeroValue232,
  t70 := Tryz.underlying236,
  a70 := Tryz.isAgg236,
  z70 := Tryz.sizeOf236,
  v70 := Tryz.zeroValue236,
  t76 := Tryz.underlying285,
  a76 := Tryz.isAgg285,
  z76 := Tryz.sizeOf285,
  v76 := Tryz.zeroValue285,
  t77 := Tryz.underlying201,
  a77 := Tryz.isAgg201,
  z77 := Tryz.sizeOf201,
  v77 := Tryz.zeroValue201 }
def Tryz.sortMtL_ren : Go.Shelf.Ren := ⟨fun | 6 => 78 | 15 => 44 | 14 => 156 | 28 => 103 | 29 => 104 | 20 => 217 | 21 => 218 | 22 => 219 | 23 => 220 | 24 => 221 | 25 => 222 | 26 => 223 | 27 => 224 | 46 => 263 | 47 => 175 | 48 => 176 | 49 => 264 | 50 => 265 | 57 => 293 | n => n, fun | 22 => 39 | 24 => 71 | 25 => 149 | 3 => 3 | 39 => 106 | 0 => 0 | 53 => 171 | 55 => 173 | 4 => 4 | 46 => 165 | 45 => 164 | 50 => 161 | 5 => 5 | 9 => 9 | 66 => 232 | 70 => 236 | 76 => 285 | 77 => 201 | n => n, fun | n => n⟩
theorem Tryz.sortMtL : Go.Proofs.SlLaysF0.n6 Tryz.prog Tryz.sortMtL_ren := {
  mixed := by kernel_rfl,
  f6 := ⟨Tryz.f78.name, by decide, Tryz.func78.trans (congrArg some (by kernel_rfl))⟩,
  f14 := ⟨Tryz.f156.name, by decide, Tryz.func156.trans (congrArg some (by kernel_rfl))⟩,
  f15 := Tryz.func44.trans (congrArg some (by kernel_rfl)),
  f20 := ⟨Tryz.f217.name, by decide, Tryz.func217.trans (congrArg some (by kernel_rfl))⟩,
  f21 := ⟨Tryz.f218.name, by decide, Tryz.func218.trans (congrArg some (by kernel_rfl))⟩,
  f22 := ⟨Tryz.f219.name, by decide, Tryz.func219.trans (congrArg some (by kernel_rfl))⟩,
  f23 := ⟨Tryz.f220.name, by decide, Tryz.func220.trans (congrArg some (by kernel_rfl))⟩,
  f24 := ⟨Tryz.f221.name, by decide, Tryz.func221.trans (congrArg some (by kernel_rfl))⟩,
  f25 := ⟨Tryz.f222.name, by decide, Tryz.func222.trans (congrArg some (by kernel_rfl))⟩,
  f26 := ⟨Tryz.f223.name, by decide, Tryz.func223.trans (congrArg some (by kernel_rfl))⟩,
  f27 := ⟨Tryz.f224.name, by decide, Tryz.func224.trans (congrArg some (by kernel_rfl))⟩,
  f28 := Tryz.func103.trans (congrArg some (by kernel_rfl)),
  f29 := Tryz.func104.trans (congrArg some (by kernel_rfl)),
  f46 := ⟨Tryz.f263.name, by decide, Tryz.func263.trans (congrArg some (by kernel_rfl))⟩,
  f47 := Tryz.func175.trans (congrArg some (by kernel_rfl)),
  f48 := Tryz.func176.trans (congrArg some (by kernel_rfl)),
  f49 := ⟨Tryz.f264.name, by decide, Tryz.func264.trans (congrArg some (by kernel_rfl))⟩,
  f50 := ⟨Tryz.f265.name, by decide, Tryz.func265.trans (congrArg some (by kernel_rfl))⟩,
  f57 := ⟨Tryz.f293.name, by decide, Tryz.func293.trans (congrArg some (by kernel_rfl))⟩,
  t0 := Tryz.underlying0,
  a0 := Tryz.isAgg0,
  z0 := Tryz.sizeOf0,
  v0 := Tryz.zeroValue0,
  t3 := Tryz.underlying3,
  a3 := Tryz.isAgg3,
  z3 := Tryz.sizeOf3,
  v3 := Tryz.zeroValue3,
  t4 := Tryz.underlying4,
  a4 := Tryz.isAgg4,
  z4 := Tryz.sizeOf4,
  v4 := Tryz.zeroValue4,
  t5 := Tryz.underlying5,
  a5 := Tryz.isAgg5,
  z5 := Tryz.sizeOf5,
  v5 := Tryz.zeroValue5,
  t9 := Tryz.underlying9,
  a9 := Tryz.isAgg9,
  z9 := Tryz.sizeOf9,
  v9 := Tryz.zeroValue9,
  t22 := Tryz.underlying39,
  a22 := Tryz.isAgg39,
  z22 := Tryz.sizeOf39,
  v22 := Tryz.zeroValue39,
  t25 := Tryz.underlying149,
  a25 := Tryz.isAgg149,
  z25 := Tryz.sizeOf149,
  v25 := Tryz.zeroValue149,
  t39 := Tryz.underlying106,
  a39 := Tryz.isAgg106,
  z39 := Tryz.sizeOf106,
  v39 := Tryz.zeroValue106,
  t45 := Tryz.underlying164,
  a45 := Tryz.isAgg164,
  z45 := Tryz.sizeOf164,
  v45 := Tryz.zeroValue164,
  t46 := Tryz.underlying165,
  a46 := Tryz.isAgg165,
  z46 := Tryz.sizeOf165,
  v46 := Tryz.zeroValue165,
  t50 := Tryz.underlying161,
  a50 := Tryz.isAgg161,
  z50 := Tryz.sizeOf161,
  v50 := Tryz.zeroValue161,
  t53 := Tryz.underlying171,
  a53 := Tryz.isAgg171,
  z53 := Tryz.sizeOf171,
  v53 := Tryz.zeroValue171,
  t55 := Tryz.underlying173,
  a55 := Tryz.isAgg173,
  z55 := Tryz.sizeOf173,
  v55 := Tryz.zeroValue173,
  t66 := Tryz.underlying232,
  a66 := Tryz.isAgg232,
  z66 := Tryz.sizeOf232,
  v66 := Tryz.zeroValue232,
  t70 := Tryz.underlying236,
  a70 := Tryz.isAgg236,
  z70 := Tryz.sizeOf236,
  v70 := Tryz.zeroValue236,
  t76 := Tryz.underlying285,
  a76 := Tryz.isAgg285,
  z76 := Tryz.sizeOf285,
  v76 := Tryz.zeroValue285,
  t77 := Tryz.underlying201,
  a77 := Tryz.isAgg201,
  z77 := Tryz.sizeOf201,
  v77 := Tryz.zeroValue201 }
end Go.Proofs.YtbcadnjfegiakaaGreatDoor
namespace Go.Proofs.YtbcadnjfegiakaaGreatDoor
open Go.RowKit

theorem compare_fn (a b : Sp) (H : Hp) : Fn Tryz.prog 24 #[spV a, spV b] H (fun v _ => v = .int .i64 (ordC a b)) := by
  refine Fn.of_T (vs := [spV a, spV b]) Tryz.func24 rfl rfl fun w => ?_
  unfold spV
  refine zs3 ?_; (refine T.box Wanted.none rfl rfl zq15 ?_; intro b2); (refine T.box Wanted.none rfl rfl zq15 ?_; intro b3); refine yq11 ?_; refine T.regionT 10 (by kernel_rfl) ?_; refine yq1 ?_; refine yq1 ?_; refine TQ.callV Wanted.none rfl rfl (cmpCompare_fn _ _ H) ?_; refine yq1 ?_; refine yq1 ?_; refine TQ.callV Wanted.none rfl rfl (cmpCompare_fn _ _ H) ?_; refine TQ.nil ?_; (refine T.buildSlice Wanted.none rfl rfl zq11 (by exact rfl) (by exact rfl) ?_; intro b15); refine T.freezeLit ?_
  intro H1 hle1 hH1
  have hsl : SlR H1 1 _ _ (intsV [cmpI a.1 b.1, cmpI a.2 b.2]) := SlR.lit (n := 2) hH1 rfl
  refine T.callV Wanted.none rfl rfl (cmpOr_fn [cmpI a.1 b.1, cmpI a.2 b.2] _ H1 hsl (Nat.le_of_ble_eq_true rfl)) ?_; refine yq0 ?_
  exact T.retF (Lv.fin (RV.tmp rfl rfl) rfl)
theorem compareS_fn (a b : Sp) (H : Hp) : Fn Tryz.prog 21 #[spV a, spV b] H (fun v _ => v = .int .i64 (ordC a b)) := by
  refine Fn.of_T (vs := [spV a, spV b]) Tryz.func21 rfl rfl fun w => ?_
  unfold spV
  refine zs3 ?_; (refine T.box Wanted.none rfl rfl zq15 ?_; intro b2); (refine T.box Wanted.none rfl rfl zq15 ?_; intro b3); refine yq11 ?_; refine T.regionT 10 (by kernel_rfl) ?_; refine yq1 ?_; refine yq1 ?_; refine TQ.callV Wanted.none rfl rfl (cmpCompare_fn _ _ H) ?_; refine yq1 ?_; refine yq1 ?_; refine TQ.callV Wanted.none rfl rfl (cmpCompare_fn _ _ H) ?_; refine TQ.nil ?_; (refine T.buildSlice Wanted.none rfl rfl zq11 (by exact rfl) (by exact rfl) ?_; intro b15); refine T.freezeLit ?_
  intro H1 hle1 hH1
  have hsl : SlR H1 1 _ _ (intsV [cmpI a.1 b.1, cmpI a.2 b.2]) := SlR.lit (n := 2) hH1 rfl
  refine T.callV Wanted.none rfl rfl (cmpOr_fn [cmpI a.1 b.1, cmpI a.2 b.2] _ H1 hsl (Nat.le_of_ble_eq_true rfl)) ?_; refine yq0 ?_
  exact T.retF (Lv.fin (RV.tmp rfl rfl) rfl)
theorem compareC_fn (a b : Sp) (H : Hp) : Fn Tryz.prog 107 #[spV a, spV b] H (fun v _ => v = .int .i64 (ordC a b)) := by
  refine Fn.of_T (vs := [spV a, spV b]) Tryz.func107 rfl rfl fun w => ?_
  unfold spV
  refine zs3 ?_; (refine T.box Wanted.none rfl rfl zq15 ?_; intro b2); (refine T.box Wanted.none rfl rfl zq15 ?_; intro b3); refine yq11 ?_; refine T.regionT 10 (by kernel_rfl) ?_; refine yq1 ?_; refine yq1 ?_; refine TQ.callV Wanted.none rfl rfl (cmpCompare_fn _ _ H) ?_; refine yq1 ?_; refine yq1 ?_; refine TQ.callV Wanted.none rfl rfl (cmpCompare_fn _ _ H) ?_; refine TQ.nil ?_; (refine T.buildSlice Wanted.none rfl rfl zq11 (by exact rfl) (by exact rfl) ?_; intro b15); refine T.freezeLit ?_
  intro H1 hle1 hH1
  have hsl : SlR H1 1 _ _ (intsV [cmpI a.1 b.1, cmpI a.2 b.2]) := SlR.lit (n := 2) hH1 rfl
  refine T.callV Wanted.none rfl rfl (cmpOr_fn [cmpI a.1 b.1, cmpI a.2 b.2] _ H1 hsl (Nat.le_of_ble_eq_true rfl)) ?_; refine yq0 ?_
  exact T.retF (Lv.fin (RV.tmp rfl rfl) rfl)
set_option maxHeartbeats 2000000 in
theorem compact_fn (l : List Sp) (v : Value) (lv : List (Nat × Obj)) (H : Hp) (hv : SpV v lv l) (hl : l.length ≤ 1000000) : FnW Tryz.prog 22 #[v] H lv (fun u H' l' => H' = H ∧ SpV u l' (dedupAdj l)) := by
  obtain ⟨ad, cap, rfl⟩ := hv.val
  refine FnW.of_T (vs := [.slice ad l.length cap]) Tryz.func22 rfl rfl fun w => ?_; refine zs3 ?_; refine yq11 ?_; refine yq30 ?_; refine yq2 ?_
  by_cases h2 : l.length < 2
  · refine sC rfl (by omega) ?_; refine yq4 ?_; refine yq0 ?_
    have hd : dedupAdj l = l := by
      match l, h2 with
      | [], _ => rfl
      | [x], _ => rfl
    exact T.retW (Lv.finW lv (List.Sublist.refl _) (RV.tmp rfl rfl) ⟨rfl, by rw [hd]; exact hv⟩)
  · have hne : l.flatMap encS ≠ [] := by intro h; have := congrArg List.length h; rw [flatS_len] at this; simp at this; omega
    obtain ⟨b, cap', hve⟩ := hv.ptr (by omega)
    injection hve with e1 e2 e3
    subst e1 e3
    obtain ⟨_, r1, r2, tl, rfl, r3⟩ := hv.row hne
    refine sd rfl (by omega) ?_; refine T.skip ?_; refine sq ?_; refine zs3 ?_; refine yq0 ?_; refine T.block ?_
    refine T.loop (γ := Nat) (fun k => 1 ≤ k ∧ k ≤ l.length ∧ dedupAdj (l.take k) = l.take k)
      (fun k => [(0, .slice (some ⟨b, 0, none⟩) l.length cap), (2, .slice none 0 0), (3, .int .i64 (k : Int))])
      (fun _ => [(b, .cells (l.flatMap encS ++ tl).toArray 57 (0, 0))]) (fun _ => H) (fun k => l.length - k) 1 ⟨by omega, by omega, ?_⟩ zq8 zq4 rfl ?_
    · match l, h2 with
      | x :: t, _ => rfl
    rintro k ⟨k1, k2, k3⟩
    by_cases hk : k < l.length
    · obtain ⟨x, hx⟩ : ∃ x, l[k]? = some x := ⟨_, List.getElem?_eq_getElem hk⟩
      obtain ⟨y, hy⟩ : ∃ y, l[k - 1]? = some y := ⟨_, List.getElem?_eq_getElem (by omega)⟩
      have g1 := getE tl hx
      have g2 := getE tl hy
      rw [show ((k - 1 : Nat) : Int) = (k : Int) - 1 by omega] at g2
      refine sq ?_; refine yq4 ?_; refine sm ?_; refine sv (PV.lenSl rfl) ?_; refine yq2 ?_; refine sC rfl (by omega) ?_; refine yq25 ?_; refine sq ?_; refine yq10 ?_; refine yq18 ?_; refine TQ.pv (PV.loadAgg rfl zq0 (by assumption) (by exact rfl)) Wanted.none rfl rfl ?_; refine TQ.pv (PV.move rfl) Wanted.none rfl rfl ?_; refine TQ.pv (PV.move rfl) Wanted.none rfl rfl ?_; refine TQ.pv (PV.sub rfl rfl (by omega)) Wanted.none rfl rfl ?_; refine TQ.pv (PV.indexAddr rfl rfl (by omega)) Wanted.none rfl rfl ?_; refine TQ.pv (PV.loadAgg rfl zq0 (by assumption) (by exact rfl)) Wanted.none rfl rfl ?_; refine TQ.pv (PV.aeql rfl rfl rfl rfl) Wanted.none rfl rfl ?_; refine TQ.nil ?_
      have hlast : (l.take k).getLast? = some y := by
        rw [List.getLast?_eq_getElem?, List.length_take, Nat.min_eq_left (by omega), List.getElem?_take, if_pos (by omega), hy]
      have hsn : l.take (k + 1) = l.take k ++ [x] := by rw [List.take_add_one, hx]; rfl
      have hdd := dedupAdj_snoc x (l.take k)
      rw [hlast, ← hsn, k3] at hdd
      rw [eqS_eq]
      refine T.condD rfl (fun hc => ?_) (fun hc => ?_)
      · subst hc
        rw [if_pos rfl] at hdd
        refine yq4 ?_; refine sm ?_; refine sv (PV.sliceLP rfl rfl (by omega)) ?_; refine yq11 ?_; refine zs3 ?_; refine yq0 ?_; refine T.block ?_
        refine T.loop (γ := CG) (fun g => 1 ≤ g.j ∧ k + g.j ≤ l.length ∧ 1 ≤ g.k ∧ g.k < k + g.j ∧ g.c.length = l.length ∧ g.c.take g.k = dedupAdj (l.take (k + g.j)) ∧ g.c.drop (k + g.j - 1) = l.drop (k + g.j - 1))
          (fun g => [(0, .slice (some ⟨b, 0, none⟩) l.length cap), (2, .slice none 0 0), (3, .int .i64 (g.k : Int)), (4, .slice (some ⟨b, 0 + ((k : Nat) : Int).toNat * 2, none⟩) (l.length - ((k : Nat) : Int).toNat) (cap - ((k : Nat) : Int).toNat)), (5, .int .i64 (g.j : Int))])
          (fun g => [(b, .cells (g.c.flatMap encS ++ tl).toArray 57 (0, 0))]) (fun _ => H) (fun g => l.length - (k + g.j)) ⟨1, k, l⟩ ⟨by dsimp only; omega, by dsimp only; omega, by dsimp only; omega, by dsimp only; omega, rfl, hdd.symm, rfl⟩ zq8 zq4 rfl ?_
        rintro ⟨j, m, c⟩ ⟨i1, i2, i3, i4, i5, i6, i7⟩
        dsimp only at i1 i2 i3 i4 i5 i6 i7 ⊢
        by_cases hj : k + j < l.length
        · obtain ⟨u, hu⟩ : ∃ u, l[k + j]? = some u := ⟨_, List.getElem?_eq_getElem hj⟩
          obtain ⟨z, hz⟩ : ∃ z, l[k + j - 1]? = some z := ⟨_, List.getElem?_eq_getElem (by omega)⟩
          have hcu : c[k + j]? = some u := by
            have := congrArg (fun l => l[1]?) i7
            simp only [List.getElem?_drop] at this
            rw [show k + j - 1 + 1 = k + j by omega] at this
            rw [this, hu]
          have hcz : c[k + (j - 1)]? = some z := by
            have := congrArg (fun l => l[0]?) i7
            simp only [List.getElem?_drop, Nat.add_zero] at this
            rw [show k + (j - 1) = k + j - 1 by omega, this, hz]
          have g3 := getE2 tl hcu
          have g4 := getE2 tl hcz
          rw [show ((j - 1 : Nat) : Int) = (j : Int) - 1 by omega] at g4
          have hlast2 : (l.take (k + j)).getLast? = some z := by
            rw [List.getLast?_eq_getElem?, List.length_take, Nat.min_eq_left (by omega), List.getElem?_take, if_pos (by omega), hz]
          have hsn2 : l.take (k + (j + 1)) = l.take (k + j) ++ [u] := by rw [← Nat.add_assoc, List.take_add_one, hu]; rfl
          have hd2 := dedupAdj_snoc u (l.take (k + j))
          rw [hlast2, ← hsn2] at hd2
          refine sq ?_; refine yq4 ?_; refine sm ?_; refine sv (PV.lenSl rfl) ?_; refine yq2 ?_; refine sC rfl (by omega) ?_; refine yq25 ?_; refine sq ?_; refine yq10 ?_; refine yq18 ?_; refine TQ.pv (PV.loadAgg rfl zq0 (by assumption) (by exact rfl)) Wanted.none rfl rfl ?_; refine TQ.pv (PV.move rfl) Wanted.none rfl rfl ?_; refine TQ.pv (PV.move rfl) Wanted.none rfl rfl ?_; refine TQ.pv (PV.sub rfl rfl (by omega)) Wanted.none rfl rfl ?_; refine TQ.pv (PV.indexAddr rfl rfl (by omega)) Wanted.none rfl rfl ?_; refine TQ.pv (PV.loadAgg rfl zq0 (by assumption) (by exact rfl)) Wanted.none rfl rfl ?_; refine TQ.pv (PV.aneq rfl rfl rfl rfl) Wanted.none rfl rfl ?_; refine TQ.nil ?_
          rw [eqS_eq]
          refine T.cond rfl (fun hc => ?_) (fun hc => ?_)
          · have hne2 : ¬ u = z := by simpa using hc
            rw [if_neg (fun e => hne2 (by injection e with e; exact e.symm))] at hd2
            refine yq4 ?_; refine sm ?_; refine sm ?_; refine sm ?_; refine sv (PV.indexAddr rfl rfl (by omega)) ?_; refine sv (PV.loadAgg rfl zq0 (by assumption) (by exact rfl)) ?_; refine sv (PV.indexAddr rfl rfl (by omega)) ?_; refine T.storeA Wanted.none rfl rfl ⟨rfl, rfl, trivial⟩ (by exact rfl) Upd.head (splice_set u tl (by omega)) ?_; refine zs2 ?_; refine sm ?_; refine sv (PV.add rfl rfl (by omega)) ?_; refine yq0 ?_; refine T.blkEnd ?_; refine sr ?_; refine sm ?_; refine sv (PV.add rfl rfl (by omega)) ?_; refine yq0 ?_
            refine T.next ⟨j + 1, m + 1, c.set m u⟩ ⟨by dsimp only; omega, by dsimp only; omega, by dsimp only; omega, by dsimp only; omega, by dsimp only; rw [List.length_set]; exact i5, ?_, ?_⟩ (by dsimp only; omega) zq8 zq4 rfl
            · dsimp only
              rw [hd2, ← i6, List.take_add_one, List.getElem?_set_self (by omega), List.take_set_of_le (Nat.le_refl _)]; rfl
            · dsimp only
              rw [show k + (j + 1) - 1 = k + j - 1 + 1 by omega, ← List.drop_drop, ← List.drop_drop, ← i7, List.drop_drop, List.drop_drop, List.drop_set_of_lt (by omega)]
          · have heq2 : u = z := by simpa using hc
            rw [if_pos (by rw [heq2])] at hd2
            refine T.skip ?_; refine T.blkEnd ?_; refine sr ?_; refine sm ?_; refine sv (PV.add rfl rfl (by omega)) ?_; refine yq0 ?_
            refine T.next ⟨j + 1, m, c⟩ ⟨by dsimp only; omega, by dsimp only; omega, by dsimp only; omega, by dsimp only; omega, i5, by dsimp only; rw [hd2]; exact i6, ?_⟩ (by dsimp only; omega) zq8 zq4 rfl
            dsimp only
            rw [show k + (j + 1) - 1 = k + j - 1 + 1 by omega, ← List.drop_drop, ← List.drop_drop, i7]
        · have hke : l.take (k + j) = l := List.take_of_length_le (by omega)
          rw [hke] at i6
          have hdl := dedupAdj_len l
          have hml : m = (dedupAdj l).length := by rw [← i6, List.length_take, i5]; omega
          have hcl : (c.flatMap encS ++ tl).length = cap * 2 := by rw [← r3, List.length_append, List.length_append, flatS_len, flatS_len, i5]
          refine sq ?_; refine yq4 ?_; refine sm ?_; refine sv (PV.lenSl rfl) ?_; refine yq2 ?_; refine yq21 ?_; refine yq4 ?_; refine sm ?_; refine sv (PV.sliceLP rfl rfl (by omega)) ?_; refine T.clearOwn [] Wanted.none rfl rfl rfl (by exact ⟨rfl, rfl, trivial⟩) (by rw [hcl, Int.toNat_natCast]; omega) ?_
          intro zs hzs
          refine zs1 ?_; refine sm ?_; refine sm ?_; refine sv (PV.sliceH rfl rfl (by omega)) ?_; refine yq0 ?_
          have hpre : (c.flatMap encS ++ tl).take (0 + ((m : Nat) : Int).toNat * 2) = (dedupAdj l).flatMap encS := by
            rw [Nat.zero_add, Int.toNat_natCast, List.take_append_of_le_length (by rw [flatS_len]; omega), ← i6]
            conv => lhs; rw [← List.take_append_drop m c, List.flatMap_append]
            exact List.take_left' (by rw [flatS_len, List.length_take]; omega)
          refine T.retW (Lv.finW _ (List.Sublist.refl _) (RV.tmp rfl rfl) ⟨rfl, ?_⟩)
          rw [hpre, Int.toNat_natCast]
          refine ⟨flatS_len _, .inr ⟨b, cap, _, by rw [hml], rfl, by omega, r2, ?_, ?_⟩⟩
          · rw [List.length_append, List.length_append, hzs, flatS_len, List.length_drop, hcl, Int.toNat_natCast]; omega
          · rw [List.append_assoc, ← flatS_len, List.take_left]
      · rw [if_neg (fun e => hc (by injection e with e; exact e.symm))] at hdd
        refine T.skip ?_; refine T.blkEnd ?_; refine sr ?_; refine sm ?_; refine sv (PV.add rfl rfl (by omega)) ?_; refine yq0 ?_
        exact T.next (k + 1) ⟨by omega, by omega, by rw [hdd, hsn]⟩ (by omega) zq8 zq4 rfl
    · refine sq ?_; refine yq4 ?_; refine sm ?_; refine sv (PV.lenSl rfl) ?_; refine yq2 ?_; refine yq21 ?_; refine yq4 ?_; refine yq0 ?_
      have hke : l.take k = l := List.take_of_length_le (by omega)
      rw [hke] at k3
      exact T.retW (Lv.finW _ (List.Sublist.refl _) (RV.tmp rfl rfl) ⟨rfl, by rw [k3]; exact hv⟩)
end Go.Proofs.YtbcadnjfegiakaaGreatDoor
